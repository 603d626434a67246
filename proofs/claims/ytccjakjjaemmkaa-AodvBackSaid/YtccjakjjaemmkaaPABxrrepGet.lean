-- Written by mp.py, a program of this work (wip/tools), out of the translation; Lean checks it.
import Derived.Test.YtccjakjjaemmkaaPABxZ
import Derived.Test.YtccjakjjaemmkaaPABxext
import Derived.Test.YtccjakjjaemmkaaPABxoctet
import Derived.Test.YtccjakjjaemmkaaPABxrrep
import Derived.Test.YtccjakjjaemmkaaAbs
namespace Go.Proofs.Ytccjakjjaemmkaa.PAB
open Go.RowKit Go.Proofs.YtccjakjjaemmkaaW.PrintWords Go.Proofs.YtccjakjjaemmkaaW.PrintLast Go.Proofs.YtccjakjjaemmkaaW.PrintMore
attribute [local go_sem] max2_int min2_int max_two min_two max_three min_three max_four min_four   -- for this text's walks alone
set_option linter.unusedVariables false
set_option linter.unusedSimpArgs false

/-! ### rrep_Get: function 38 -/
def rrep_Get.j0 : Nat → ByteArray → Bool → Option (Int × Int × Int × ByteArray × Int × Int × ByteArray × Int × Int × ByteArray × Int × ByteArray × Int × Int × Int × Int × Int × Int × Int × ByteArray × ByteArray × (List (S46)) × Int × ByteArray × (List (S48)) × Int × Int)
 | 0, _, _ => none
 | k + 1, x0, uo => if uo = true then ((rrep_ack.f k x0).bind fun aJ => (some (aJ.1, aJ.2.1, aJ.2.2.1, aJ.2.2.2.1, aJ.2.2.2.2.1, aJ.2.2.2.2.2.1, aJ.2.2.2.2.2.2.1, aJ.2.2.2.2.2.2.2.1, aJ.2.2.2.2.2.2.2.2.1, aJ.2.2.2.2.2.2.2.2.2.1, aJ.2.2.2.2.2.2.2.2.2.2.1, aJ.2.2.2.2.2.2.2.2.2.2.2.1, aJ.2.2.2.2.2.2.2.2.2.2.2.2.1, aJ.2.2.2.2.2.2.2.2.2.2.2.2.2.1, aJ.2.2.2.2.2.2.2.2.2.2.2.2.2.2.1, aJ.2.2.2.2.2.2.2.2.2.2.2.2.2.2.2.1, aJ.2.2.2.2.2.2.2.2.2.2.2.2.2.2.2.2.1, aJ.2.2.2.2.2.2.2.2.2.2.2.2.2.2.2.2.2.1, aJ.2.2.2.2.2.2.2.2.2.2.2.2.2.2.2.2.2.2.1, aJ.2.2.2.2.2.2.2.2.2.2.2.2.2.2.2.2.2.2.2.1, aJ.2.2.2.2.2.2.2.2.2.2.2.2.2.2.2.2.2.2.2.2.1, aJ.2.2.2.2.2.2.2.2.2.2.2.2.2.2.2.2.2.2.2.2.2.1, aJ.2.2.2.2.2.2.2.2.2.2.2.2.2.2.2.2.2.2.2.2.2.2.1, aJ.2.2.2.2.2.2.2.2.2.2.2.2.2.2.2.2.2.2.2.2.2.2.2.1, aJ.2.2.2.2.2.2.2.2.2.2.2.2.2.2.2.2.2.2.2.2.2.2.2.2.1, aJ.2.2.2.2.2.2.2.2.2.2.2.2.2.2.2.2.2.2.2.2.2.2.2.2.2.1, aJ.2.2.2.2.2.2.2.2.2.2.2.2.2.2.2.2.2.2.2.2.2.2.2.2.2.2))) else (if (x0.size : Int) < 20 then (some (0, 0, 0, (⟨#[]⟩ : ByteArray), 0, 0, (⟨#[]⟩ : ByteArray), 0, 0, (⟨#[]⟩ : ByteArray), 0, (⟨#[]⟩ : ByteArray), 0, 0, 0, 0, 0, 0, 0, (⟨#[]⟩ : ByteArray), (⟨#[]⟩ : ByteArray), ([] : List (S46)), 0, (⟨#[]⟩ : ByteArray), ([] : List (S48)), (x0.size : Int), 2)) else (if 1 < (x0.size : Int) then (if 2 < (x0.size : Int) then (if (Go.bits .or .u8 (Go.bits .and .u8 (bt x0 1) 63) (Go.bits .and .u8 (bt x0 2) 224)) = 0 then (if 20 ≤ (x0.size : Int) then ((ext_Get.f k (x0.extract 20 x0.size)).bind fun aU => (if aU.2.2 = 0 then (if 3 < (x0.size : Int) then ((cursor_New.f x0).bind fun ff => ((cursor_Text.f ff.1 ff.2.1 ff.2.2.1 ff.2.2.2 4).bind fun eA => ((cursor_Text.f eA.2.1 eA.2.2.1 eA.2.2.2.1 eA.2.2.2.2 4).bind fun dx => ((cursor_Num.f dx.2.1 dx.2.2.1 dx.2.2.2.1 dx.2.2.2.2 4).bind fun cX => ((cursor_Text.f cX.2.1 cX.2.2.1 cX.2.2.2.1 cX.2.2.2.2 4).bind fun cr => ((cursor_Num.f cr.2.1 cr.2.2.1 cr.2.2.2.1 cr.2.2.2.2 4).bind fun bo => (some (4, 0, 0, (⟨#[]⟩ : ByteArray), 0, 0, (⟨#[]⟩ : ByteArray), wrap64 (bt x0 2), 0, (⟨#[]⟩ : ByteArray), 0, (⟨#[]⟩ : ByteArray), cX.1, 0, bo.1, wrap64 ((bt x0 1) / 64), wrap64 (bt x0 3), 0, 0, dx.1, cr.1, ([] : List (S46)), 0, (⟨#[]⟩ : ByteArray), aU.1, 0, 0)))))))) else (none)) else (some (0, 0, 0, (⟨#[]⟩ : ByteArray), 0, 0, (⟨#[]⟩ : ByteArray), 0, 0, (⟨#[]⟩ : ByteArray), 0, (⟨#[]⟩ : ByteArray), 0, 0, 0, 0, 0, 0, 0, (⟨#[]⟩ : ByteArray), (⟨#[]⟩ : ByteArray), ([] : List (S46)), 0, (⟨#[]⟩ : ByteArray), ([] : List (S48)), wrap64 (aU.2.1 + 20), aU.2.2)))) else (none)) else (some (0, 0, 0, (⟨#[]⟩ : ByteArray), 0, 0, (⟨#[]⟩ : ByteArray), 0, 0, (⟨#[]⟩ : ByteArray), 0, (⟨#[]⟩ : ByteArray), 0, 0, 0, 0, 0, 0, 0, (⟨#[]⟩ : ByteArray), (⟨#[]⟩ : ByteArray), ([] : List (S46)), 0, (⟨#[]⟩ : ByteArray), ([] : List (S48)), 1, 5))) else (none)) else (none)))
def rrep_Get.f (k : Nat) (a0 : ByteArray) : Option (Int × Int × Int × ByteArray × Int × Int × ByteArray × Int × Int × ByteArray × Int × ByteArray × Int × Int × Int × Int × Int × Int × Int × ByteArray × ByteArray × (List (S46)) × Int × ByteArray × (List (S48)) × Int × Int) := if a0.toList = ([] : List UInt8) then (rrep_Get.j0 k a0 false) else (if 0 < (a0.size : Int) then (rrep_Get.j0 k a0 ((bt a0 0) == 4)) else (none))
theorem rrep_Get.mono_l : ∀ k, (∀ y0 y1, LeO (rrep_Get.j0 k y0 y1) (rrep_Get.j0 (k + 1) y0 y1))
 | 0 => Sq.mz
 | k + 1 => by
  have ih0 := rrep_Get.mono_l k
  ·intros
   unfold rrep_Get.j0
   have m0 := ext_Get.mono
   have m1 := rrep_ack.mono
   exact Sq.mo
theorem rrep_Get.mono : ∀ a0 k, LeO (rrep_Get.f k a0) (rrep_Get.f (k + 1) a0) := by
 intro a0 k
 have ih0 := rrep_Get.mono_l k
 unfold rrep_Get.f
 have m0 := ext_Get.mono
 have m1 := rrep_ack.mono
 exact Sq.mo
def rrep_Get.T5 : Bool × List (List Nat × List Nat) := (true, [([], []), ([0], [0]), ([1], [1]), ([], []), ([3], [3]), ([4], [4]), ([2, 5], [2, 5]), ([6], [6])])
def rrep_Get.B5 : List Nat := [0, 1, 3, 0, 8, 24, 63, 127]
theorem rrep_Get.tab5 : rtab .any (opsOf Try.f38 5) = rrep_Get.T5 := by kernel_rfl
theorem rrep_Get.bits5 : waitsOk rrep_Get.T5.2 rrep_Get.B5 = true := by kernel_rfl
def rrep_Get.T10 : Bool × List (List Nat × List Nat) := (true, [([], []), ([0], [0]), ([1], [1]), ([2], [2]), ([], []), ([4], [4]), ([5], [5]), ([], []), ([7], [7]), ([8], [8]), ([], []), ([3, 6, 9, 10], [3, 6, 9, 10]), ([], []), ([12, 11, 0, 1, 2, 3, 4, 5, 6, 7, 8, 9, 10, 11, 12], [11, 12])])
def rrep_Get.B10 : List Nat := [0, 1, 3, 7, 0, 16, 48, 0, 128, 384, 0, 2047, 0, 8191]
theorem rrep_Get.tab10 : rtab .any (opsOf Try.f38 10) = rrep_Get.T10 := by kernel_rfl
theorem rrep_Get.bits10 : waitsOk rrep_Get.T10.2 rrep_Get.B10 = true := by kernel_rfl
set_option maxRecDepth 100000 in
theorem rrep_Get.bd62 (v0 : Int) (iT : Int) (v7 : Int) (jE : Int) (ks : Option Addr) (n24 eb : Nat) : Try.prog.built 25 [(0, .int .i64 v0), (15, .int .i64 iT), (7, .int .i64 v7), (16, .int .i64 jE), (24, .slice ks n24 eb)] = some #[.int .i64 v0, .int .i64 0, .int .i64 0, .string ⟨#[]⟩, .int .i64 0, .int .i64 0, .string ⟨#[]⟩, .int .i64 v7, .int .i64 0, .string ⟨#[]⟩, .int .i64 0, .string ⟨#[]⟩, .int .i64 0, .int .i64 0, .int .i64 0, .int .i64 iT, .int .i64 jE, .int .i64 0, .int .i64 0, .string ⟨#[]⟩, .string ⟨#[]⟩, .slice none 0 0, .int .i64 0, .string ⟨#[]⟩, .slice ks n24 eb] := by kernel_rfl
set_option maxHeartbeats 8000000 in
set_option maxRecDepth 100000 in
theorem rrep_Get.calls (k : Nat) (a0 : ByteArray) (r1 : Int) (r2 : Int) (r3 : Int) (r4 : ByteArray) (r5 : Int) (r6 : Int) (r7 : ByteArray) (r8 : Int) (r9 : Int) (r10 : ByteArray) (r11 : Int) (r12 : ByteArray) (r13 : Int) (r14 : Int) (r15 : Int) (r16 : Int) (r17 : Int) (r18 : Int) (r19 : Int) (r20 : ByteArray) (r21 : ByteArray) (r22 : List (S46)) (r23 : Int) (r24 : ByteArray) (r25 : List (S48)) (r26 : Int) (r27 : Int) (w : World) (h : rrep_Get.f k a0 = some (r1, r2, r3, r4, r5, r6, r7, r8, r9, r10, r11, r12, r13, r14, r15, r16, r17, r18, r19, r20, r21, r22, r23, r24, r25, r26, r27)) :
  Calls Try.prog 38 #[.string a0] w fun e w' => ∃ v21_ v24_ : Value, e = .returned (.tuple #[.agg #[.int .i64 r1, .int .i64 r2, .int .i64 r3, .string r4, .int .i64 r5, .int .i64 r6, .string r7, .int .i64 r8, .int .i64 r9, .string r10, .int .i64 r11, .string r12, .int .i64 r13, .int .i64 r14, .int .i64 r15, .int .i64 r16, .int .i64 r17, .int .i64 r18, .int .i64 r19, .string r20, .string r21, v21_, .int .i64 r23, .string r24, v24_], .int .i64 r26, .int .i64 r27]) ∧ Kd.R k46 46 w' w.heap.size (fun _ => True) v21_ r22 ∧ Kd.R k48 48 w' w.heap.size (fun _ => True) v24_ r25 ∧ Below w.heap.size w w' := by
 have fi := Try.underlying25
 have ie := Try.underlying60
 have HB := Aside0.mk (Below.refl w.heap.size w)
 have H : (if a0.toList = ([] : List UInt8) then (rrep_Get.j0 k a0 false) else (if 0 < (a0.size : Int) then (rrep_Get.j0 k a0 ((bt a0 0) == 4)) else (none))) = some (r1, r2, r3, r4, r5, r6, r7, r8, r9, r10, r11, r12, r13, r14, r15, r16, r17, r18, r19, r20, r21, r22, r23, r24, r25, r26, r27) := h
 clear h
 have iR := Aside0.mk H
 clear H
 go_enter Try.func38, Try.ntmps38
 go_upto_region 1 with (first | ((with_reducible refine gate_dst (N := 62) rfl ?_); refine Pre.build_event 62 25 [(0, Go.Operand.const (Go.Value.int Go.IntKind.i64 4)), (15, Go.Operand.tmp 54), (7, Go.Operand.tmp 57), (16, Go.Operand.tmp 60), (24, Go.Operand.tmp 61)] rfl rfl rfl (rrep_Get.bd62 _ _ _ _ _ _ _) ?_) | ((with_reducible refine Pre.gate_load 25 rfl ?_); (try (refine gate_guard Z23 ?_; dsimp only)); refine Pre.load_event rfl rfl rfl Z23 Z11 Try.underlying25 rfl Z14 ?_) | ((with_reducible refine gate_dst (N := 2) rfl ?_); refine Sq.box 2 #[.int .i64 0, .int .i64 0, .int .i64 0, .string ⟨#[]⟩, .int .i64 0, .int .i64 0, .string ⟨#[]⟩, .int .i64 0, .int .i64 0, .string ⟨#[]⟩, .int .i64 0, .string ⟨#[]⟩, .int .i64 0, .int .i64 0, .int .i64 0, .int .i64 0, .int .i64 0, .int .i64 0, .int .i64 0, .string ⟨#[]⟩, .string ⟨#[]⟩, .slice none 0 0, .int .i64 0, .string ⟨#[]⟩, .slice none 0 0] 25 ?_; intro ag hg w3 hbox hb; have ae := Aside0.mk (hbox); have cp := Aside0.mk (Sq.ge hg Z1); have bm := Aside0.mk (Sq.ge hg Z1); replace HB := Aside0.mk (below_step Z1 hb); clear hb hbox hg))
 (try simp only [Act.put, Sq.s1, Sq.s2, Sq.s3])
 go_cut [17] (fun md wc => ∃ (kq : Nat) (kn : Bool), md = .bool kn ∧ Aside0 (rrep_Get.j0 kq a0 kn = some (r1, r2, r3, r4, r5, r6, r7, r8, r9, r10, r11, r12, r13, r14, r15, r16, r17, r18, r19, r20, r21, r22, r23, r24, r25, r26, r27)) ∧ Aside0 (kq ≤ k) ∧ Aside0 (wc.heap[ag]? = some (.cells #[.int .i64 0, .int .i64 0, .int .i64 0, .string ⟨#[]⟩, .int .i64 0, .int .i64 0, .string ⟨#[]⟩, .int .i64 0, .int .i64 0, .string ⟨#[]⟩, .int .i64 0, .string ⟨#[]⟩, .int .i64 0, .int .i64 0, .int .i64 0, .int .i64 0, .int .i64 0, .int .i64 0, .int .i64 0, .string ⟨#[]⟩, .string ⟨#[]⟩, (.slice none 0 0), .int .i64 0, .string ⟨#[]⟩, (.slice none 0 0)] 25 (0, 0))) ∧ Aside0 (Below w.heap.size w wc))
 case first =>
  have H := iR.out
  clear iR
  by_cases c4 : a0.toList = ([] : List UInt8)
  ·rw [if_pos c4] at H
   have dg : (a0.toList == ([] : List UInt8)) = true := beq_iff_eq.mpr c4
   have gi : (a0.toList != ([] : List UInt8)) = false := bne_eq_false_iff_eq.mpr c4
   clear c4
   (first | rw [dg] | (simp only [i64_w, i32_w]; rw [dg]) | skip)
   have H' := Aside0.mk H
   clear H
   go_wp2_with (first | ((with_reducible refine gate_dst (N := 62) rfl ?_); refine Pre.build_event 62 25 [(0, Go.Operand.const (Go.Value.int Go.IntKind.i64 4)), (15, Go.Operand.tmp 54), (7, Go.Operand.tmp 57), (16, Go.Operand.tmp 60), (24, Go.Operand.tmp 61)] rfl rfl rfl (rrep_Get.bd62 _ _ _ _ _ _ _) ?_) | ((with_reducible refine Pre.gate_load 25 rfl ?_); (try (refine gate_guard Z23 ?_; dsimp only)); refine Pre.load_event rfl rfl rfl Z23 Z11 Try.underlying25 rfl Z14 ?_))
   go_meet
   case rel => exact ⟨_, (false), Z16, H', ⟨Z39⟩, ⟨Z2⟩, ⟨Z0⟩⟩
  ·rw [if_neg c4] at H
   have dg : (a0.toList == ([] : List UInt8)) = false := beq_eq_false_iff_ne.mpr c4
   have gi : (a0.toList != ([] : List UInt8)) = true := bne_iff_ne.mpr c4
   (first | rw [dg] | (simp only [i64_w, i32_w]; rw [dg]) | skip)
   by_cases c5 : 0 < (a0.size : Int)
   ·rw [if_pos c5] at H
    have fM : decide (0 < (a0.size : Int)) = true := decide_eq_true c5
    have ib : decide (0 < a0.size) = true := decide_eq_true Z40
    clear c5
    have H' := Aside0.mk H
    clear H
    have p6 : 0 ≤ (0 : Int) := Z40
    have q6 : 0 < a0.size := (by have : (0 : Int) < (a0.size : Int) := of_decide_eq_true Z6; omega)
    have hx6 : ∀ h : 0 < a0.size, ((a0[0]'h).toNat : Int) = bt a0 0 := bt_at a0 0
    clear p6
    have qi6 : (0 < (a0.size : Int)) = True := eq_true (of_decide_eq_true Z6)
    replace q6 := eq_true q6
    go_wp2_with (first | ((with_reducible refine gate_dst (N := 62) rfl ?_); refine Pre.build_event 62 25 [(0, Go.Operand.const (Go.Value.int Go.IntKind.i64 4)), (15, Go.Operand.tmp 54), (7, Go.Operand.tmp 57), (16, Go.Operand.tmp 60), (24, Go.Operand.tmp 61)] rfl rfl rfl (rrep_Get.bd62 _ _ _ _ _ _ _) ?_) | ((with_reducible refine Pre.gate_load 25 rfl ?_); (try (refine gate_guard Z23 ?_; dsimp only)); refine Pre.load_event rfl rfl rfl Z23 Z11 Try.underlying25 rfl Z14 ?_))
    go_meet
    case rel => exact ⟨_, (((bt a0 0) == 4)), Z16, H', ⟨Z39⟩, ⟨Z2⟩, ⟨Z0⟩⟩
   ·rw [if_neg c5] at H
    exact absurd H Z71
 case rest =>
  clear iR
  try clear c3
  obtain ⟨kq, kn, rfl, HA, kJ, ae, HB⟩ := hcut
  cases kq with
  | zero => exact absurd HA.out (by simp [rrep_Get.j0])
  | succ kj1 =>
   have H := HA.out
   clear HA
   simp only [rrep_Get.j0] at H
   by_cases c7 : kn = true
   ·subst c7
    have H1 : ((rrep_ack.f kj1 a0).bind fun aJ => (some (aJ.1, aJ.2.1, aJ.2.2.1, aJ.2.2.2.1, aJ.2.2.2.2.1, aJ.2.2.2.2.2.1, aJ.2.2.2.2.2.2.1, aJ.2.2.2.2.2.2.2.1, aJ.2.2.2.2.2.2.2.2.1, aJ.2.2.2.2.2.2.2.2.2.1, aJ.2.2.2.2.2.2.2.2.2.2.1, aJ.2.2.2.2.2.2.2.2.2.2.2.1, aJ.2.2.2.2.2.2.2.2.2.2.2.2.1, aJ.2.2.2.2.2.2.2.2.2.2.2.2.2.1, aJ.2.2.2.2.2.2.2.2.2.2.2.2.2.2.1, aJ.2.2.2.2.2.2.2.2.2.2.2.2.2.2.2.1, aJ.2.2.2.2.2.2.2.2.2.2.2.2.2.2.2.2.1, aJ.2.2.2.2.2.2.2.2.2.2.2.2.2.2.2.2.2.1, aJ.2.2.2.2.2.2.2.2.2.2.2.2.2.2.2.2.2.2.1, aJ.2.2.2.2.2.2.2.2.2.2.2.2.2.2.2.2.2.2.2.1, aJ.2.2.2.2.2.2.2.2.2.2.2.2.2.2.2.2.2.2.2.2.1, aJ.2.2.2.2.2.2.2.2.2.2.2.2.2.2.2.2.2.2.2.2.2.1, aJ.2.2.2.2.2.2.2.2.2.2.2.2.2.2.2.2.2.2.2.2.2.2.1, aJ.2.2.2.2.2.2.2.2.2.2.2.2.2.2.2.2.2.2.2.2.2.2.2.1, aJ.2.2.2.2.2.2.2.2.2.2.2.2.2.2.2.2.2.2.2.2.2.2.2.2.1, aJ.2.2.2.2.2.2.2.2.2.2.2.2.2.2.2.2.2.2.2.2.2.2.2.2.2.1, aJ.2.2.2.2.2.2.2.2.2.2.2.2.2.2.2.2.2.2.2.2.2.2.2.2.2.2))) = some (r1, r2, r3, r4, r5, r6, r7, r8, r9, r10, r11, r12, r13, r14, r15, r16, r17, r18, r19, r20, r21, r22, r23, r24, r25, r26, r27) := by rw [if_pos rfl] at H; exact H
    clear H
    have H := H1
    clear H1
    replace H := Option.bind_eq_some_iff.mp H
    obtain ⟨⟨aM, aW, aY, bq, aT, cu, aV, bi, bl, cK, el, dy, cT, cn, cY, dZ, cv, cm, co, dc, dB, df, ej, de, ef, fb, hq⟩, nA, H⟩ := H
    replace H : (some (aM, aW, aY, bq, aT, cu, aV, bi, bl, cK, el, dy, cT, cn, cY, dZ, cv, cm, co, dc, dB, df, ej, de, ef, fb, hq)) = some (r1, r2, r3, r4, r5, r6, r7, r8, r9, r10, r11, r12, r13, r14, r15, r16, r17, r18, r19, r20, r21, r22, r23, r24, r25, r26, r27) := H
    have A8 := Aside0.mk nA
    clear nA
    simp only [Option.some.injEq, Prod.mk.injEq] at H
    obtain ⟨rfl, rfl, rfl, rfl, rfl, rfl, rfl, rfl, rfl, rfl, rfl, rfl, rfl, rfl, rfl, rfl, rfl, rfl, rfl, rfl, rfl, rfl, rfl, rfl, rfl, rfl, rfl⟩ := H
    go_wp2_with (first | ((with_reducible refine gate_dst (N := 62) rfl ?_); refine Pre.build_event 62 25 [(0, Go.Operand.const (Go.Value.int Go.IntKind.i64 4)), (15, Go.Operand.tmp 54), (7, Go.Operand.tmp 57), (16, Go.Operand.tmp 60), (24, Go.Operand.tmp 61)] rfl rfl rfl (rrep_Get.bd62 _ _ _ _ _ _ _) ?_) | ((with_reducible refine Pre.gate_load 25 rfl ?_); (try (refine gate_guard Z23 ?_; dsimp only)); refine Pre.load_event rfl rfl rfl Z23 Z11 Try.underlying25 rfl Z14 ?_) | ((with_reducible refine gate_callee (f := 68) rfl ?_); refine goesL_ (some 19) rfl rfl Try.func68 Z14 rfl #[.string a0] rfl Z4 ?_; (with_reducible refine (rrep_ack.calls kj1 a0 aM aW aY bq aT cu aV bi bl cK el dy cT cn cY dZ cv cm co dc dB df ej de ef fb hq _ A8.out).mono ?_); rintro e w9 ⟨qs, sy, rfl, ho0, ho1, hb⟩; refine ⟨_, rfl, ?_⟩; have fU := Aside0.mk (Kd.R_lower ho0 (below_size Z0)); have gO := Aside0.mk (Kd.R_lower ho1 (below_size Z0)); replace ae := Aside0.mk (blk_below (g := ag) Z2 hb); replace HB := Aside0.mk (below_step Z0 hb); clear hb ho0 ho1; have jj := cells_25 ae.out; obtain ⟨rz, rA, eo11⟩ := Kd.R_slice fU.out; subst eo11; obtain ⟨rB, mw, eo12⟩ := Kd.R_slice gO.out; subst eo12) | ((with_reducible refine Pre.gate_store 25 rfl ?_); refine Pre.store_abs (cur := #[.int .i64 0, .int .i64 0, .int .i64 0, .string ⟨#[]⟩, .int .i64 0, .int .i64 0, .string ⟨#[]⟩, .int .i64 0, .int .i64 0, .string ⟨#[]⟩, .int .i64 0, .string ⟨#[]⟩, .int .i64 0, .int .i64 0, .int .i64 0, .int .i64 0, .int .i64 0, .int .i64 0, .int .i64 0, .string ⟨#[]⟩, .string ⟨#[]⟩, .slice none 0 0, .int .i64 0, .string ⟨#[]⟩, .slice none 0 0]) (e := 25) rfl rfl rfl Z23 Z23 Z2 Z14 Z23 Z23 ?_; intro ja hbS_ sS_; have bY : Aside0 (Kd.R k46 46 ja w.heap.size (fun _ => True) (.slice rz df.length rA) df) := ⟨Kd.R_mono (Pre.R_sets sS_ (Kd.R_types fU.out ae.out Z29) (fun _ hk => hk.2)) (fun _ hk => trivial)⟩; have ca : Aside0 (Kd.R k48 48 ja w.heap.size (fun _ => True) (.slice rB ef.length mw) ef) := ⟨Kd.R_mono (Pre.R_sets sS_ (Kd.R_types gO.out ae.out Z29) (fun _ hk => hk.2)) (fun _ hk => trivial)⟩; have cZ : Aside0 (ja.heap[ag]? = some (.cells #[.int .i64 aM, .int .i64 aW, .int .i64 aY, .string bq, .int .i64 aT, .int .i64 cu, .string aV, .int .i64 bi, .int .i64 bl, .string cK, .int .i64 el, .string dy, .int .i64 cT, .int .i64 cn, .int .i64 cY, .int .i64 dZ, .int .i64 cv, .int .i64 cm, .int .i64 co, .string dc, .string dB, .slice rz df.length rA, .int .i64 ej, .string de, .slice rB ef.length mw] 25 (0, 0))) := ⟨hbS_⟩; have ex : Aside0 (Below w.heap.size w ja) := ⟨sS_.below Z0 bm.out⟩; clear hbS_ sS_; replace fU := bY; replace gO := ca; replace ae := cZ; replace HB := ex; clear bY ca cZ ex))
    refine bodyPost_ret (results_ctt rfl _ _ ag 25 _ (0, 0) _ rfl Z2 Try.underlying25 rfl Z14) rfl ?_
    exact ⟨_, _, Z5, Z87, by (with_reducible repeat (first | apply Kd.R_alloc | apply Kd.R_drewN | apply Kd.R_drew)); exact gO.out, Z0⟩
   ·replace c7 := Bool.eq_false_iff.mpr c7
    subst c7
    have H1 : (if (a0.size : Int) < 20 then (some (0, 0, 0, (⟨#[]⟩ : ByteArray), 0, 0, (⟨#[]⟩ : ByteArray), 0, 0, (⟨#[]⟩ : ByteArray), 0, (⟨#[]⟩ : ByteArray), 0, 0, 0, 0, 0, 0, 0, (⟨#[]⟩ : ByteArray), (⟨#[]⟩ : ByteArray), ([] : List (S46)), 0, (⟨#[]⟩ : ByteArray), ([] : List (S48)), (a0.size : Int), 2)) else (if 1 < (a0.size : Int) then (if 2 < (a0.size : Int) then (if (Go.bits .or .u8 (Go.bits .and .u8 (bt a0 1) 63) (Go.bits .and .u8 (bt a0 2) 224)) = 0 then (if 20 ≤ (a0.size : Int) then ((ext_Get.f kj1 (a0.extract 20 a0.size)).bind fun aU => (if aU.2.2 = 0 then (if 3 < (a0.size : Int) then ((cursor_New.f a0).bind fun ff => ((cursor_Text.f ff.1 ff.2.1 ff.2.2.1 ff.2.2.2 4).bind fun eA => ((cursor_Text.f eA.2.1 eA.2.2.1 eA.2.2.2.1 eA.2.2.2.2 4).bind fun dx => ((cursor_Num.f dx.2.1 dx.2.2.1 dx.2.2.2.1 dx.2.2.2.2 4).bind fun cX => ((cursor_Text.f cX.2.1 cX.2.2.1 cX.2.2.2.1 cX.2.2.2.2 4).bind fun cr => ((cursor_Num.f cr.2.1 cr.2.2.1 cr.2.2.2.1 cr.2.2.2.2 4).bind fun bo => (some (4, 0, 0, (⟨#[]⟩ : ByteArray), 0, 0, (⟨#[]⟩ : ByteArray), wrap64 (bt a0 2), 0, (⟨#[]⟩ : ByteArray), 0, (⟨#[]⟩ : ByteArray), cX.1, 0, bo.1, wrap64 ((bt a0 1) / 64), wrap64 (bt a0 3), 0, 0, dx.1, cr.1, ([] : List (S46)), 0, (⟨#[]⟩ : ByteArray), aU.1, 0, 0)))))))) else (none)) else (some (0, 0, 0, (⟨#[]⟩ : ByteArray), 0, 0, (⟨#[]⟩ : ByteArray), 0, 0, (⟨#[]⟩ : ByteArray), 0, (⟨#[]⟩ : ByteArray), 0, 0, 0, 0, 0, 0, 0, (⟨#[]⟩ : ByteArray), (⟨#[]⟩ : ByteArray), ([] : List (S46)), 0, (⟨#[]⟩ : ByteArray), ([] : List (S48)), wrap64 (aU.2.1 + 20), aU.2.2)))) else (none)) else (some (0, 0, 0, (⟨#[]⟩ : ByteArray), 0, 0, (⟨#[]⟩ : ByteArray), 0, 0, (⟨#[]⟩ : ByteArray), 0, (⟨#[]⟩ : ByteArray), 0, 0, 0, 0, 0, 0, 0, (⟨#[]⟩ : ByteArray), (⟨#[]⟩ : ByteArray), ([] : List (S46)), 0, (⟨#[]⟩ : ByteArray), ([] : List (S48)), 1, 5))) else (none)) else (none))) = some (r1, r2, r3, r4, r5, r6, r7, r8, r9, r10, r11, r12, r13, r14, r15, r16, r17, r18, r19, r20, r21, r22, r23, r24, r25, r26, r27) := by rw [if_neg (show ¬ (false = true) by decide)] at H; exact H
    clear H
    have H := H1
    clear H1
    by_cases hH : (a0.size : Int) < 20
    ·rw [if_pos hH] at H
     have lI : decide ((a0.size : Int) < 20) = true := decide_eq_true hH
     have lJ : decide (a0.size < 20) = true := decide_eq_true Z40
     clear hH
     simp only [Option.some.injEq, Prod.mk.injEq] at H
     obtain ⟨rfl, rfl, rfl, rfl, rfl, rfl, rfl, rfl, rfl, rfl, rfl, rfl, rfl, rfl, rfl, rfl, rfl, rfl, rfl, rfl, rfl, rfl, rfl, rfl, rfl, rfl, rfl⟩ := H
     have lH := cells_25 ae.out
     go_wp2_with (first | ((with_reducible refine gate_dst (N := 62) rfl ?_); refine Pre.build_event 62 25 [(0, Go.Operand.const (Go.Value.int Go.IntKind.i64 4)), (15, Go.Operand.tmp 54), (7, Go.Operand.tmp 57), (16, Go.Operand.tmp 60), (24, Go.Operand.tmp 61)] rfl rfl rfl (rrep_Get.bd62 _ _ _ _ _ _ _) ?_) | ((with_reducible refine Pre.gate_load 25 rfl ?_); (try (refine gate_guard Z23 ?_; dsimp only)); refine Pre.load_event rfl rfl rfl Z23 Z11 Try.underlying25 rfl Z14 ?_) | ((with_reducible refine Pre.gate_store 25 rfl ?_); refine Pre.store_abs (cur := #[.int .i64 0, .int .i64 0, .int .i64 0, .string ⟨#[]⟩, .int .i64 0, .int .i64 0, .string ⟨#[]⟩, .int .i64 0, .int .i64 0, .string ⟨#[]⟩, .int .i64 0, .string ⟨#[]⟩, .int .i64 0, .int .i64 0, .int .i64 0, .int .i64 0, .int .i64 0, .int .i64 0, .int .i64 0, .string ⟨#[]⟩, .string ⟨#[]⟩, .slice none 0 0, .int .i64 0, .string ⟨#[]⟩, .slice none 0 0]) (e := 25) rfl rfl rfl Z23 Z23 Z2 Z14 Z23 Z23 ?_; intro jG hbS_ sS_; have bY : Aside0 (jG.heap[ag]? = some (.cells #[.int .i64 0, .int .i64 0, .int .i64 0, .string ⟨#[]⟩, .int .i64 0, .int .i64 0, .string ⟨#[]⟩, .int .i64 0, .int .i64 0, .string ⟨#[]⟩, .int .i64 0, .string ⟨#[]⟩, .int .i64 0, .int .i64 0, .int .i64 0, .int .i64 0, .int .i64 0, .int .i64 0, .int .i64 0, .string ⟨#[]⟩, .string ⟨#[]⟩, .slice none 0 0, .int .i64 0, .string ⟨#[]⟩, .slice none 0 0] 25 (0, 0))) := ⟨hbS_⟩; have ca : Aside0 (Below w.heap.size w jG) := ⟨sS_.below Z0 bm.out⟩; clear hbS_ sS_; replace ae := bY; replace HB := ca; clear bY ca))
     refine bodyPost_ret (results_ctt rfl _ _ ag 25 #[.int .i64 0, .int .i64 0, .int .i64 0, .string ⟨#[]⟩, .int .i64 0, .int .i64 0, .string ⟨#[]⟩, .int .i64 0, .int .i64 0, .string ⟨#[]⟩, .int .i64 0, .string ⟨#[]⟩, .int .i64 0, .int .i64 0, .int .i64 0, .int .i64 0, .int .i64 0, .int .i64 0, .int .i64 0, .string ⟨#[]⟩, .string ⟨#[]⟩, .slice none 0 0, .int .i64 0, .string ⟨#[]⟩, .slice none 0 0] (0, 0) _ rfl Z2 Try.underlying25 rfl Z14) rfl ?_
     exact ⟨_, _, Z5, Z13, Z24, Z0⟩
    ·rw [if_neg hH] at H
     have lI : decide ((a0.size : Int) < 20) = false := decide_eq_false hH
     have lJ : decide (a0.size < 20) = false := decide_eq_false Z40
     clear hH
     by_cases hR : 1 < (a0.size : Int)
     ·rw [if_pos hR] at H
      have jZ : decide (1 < (a0.size : Int)) = true := decide_eq_true hR
      have qY : decide (1 < a0.size) = true := decide_eq_true Z40
      clear hR
      by_cases hA : 2 < (a0.size : Int)
      ·rw [if_pos hA] at H
       have jx : decide (2 < (a0.size : Int)) = true := decide_eq_true hA
       have lL : decide (2 < a0.size) = true := decide_eq_true Z40
       clear hA
       by_cases eL : (Go.bits .or .u8 (Go.bits .and .u8 (bt a0 1) 63) (Go.bits .and .u8 (bt a0 2) 224)) = 0
       ·rw [if_pos eL] at H
        have rC : ((Go.bits .or .u8 (Go.bits .and .u8 (bt a0 1) 63) (Go.bits .and .u8 (bt a0 2) 224)) == 0) = true := beq_iff_eq.mpr eL
        have rD : ((Go.bits .or .u8 (Go.bits .and .u8 (bt a0 1) 63) (Go.bits .and .u8 (bt a0 2) 224)) != 0) = false := bne_eq_false_iff_eq.mpr eL
        clear eL
        by_cases hv : 20 ≤ (a0.size : Int)
        ·rw [if_pos hv] at H
         have kc := eq_true hv
         have nE : decide (20 ≤ (a0.size : Int)) = true := decide_eq_true hv
         clear hv
         replace H := Option.bind_eq_some_iff.mp H
         obtain ⟨⟨dX, gl, fh⟩, js, H⟩ := H
         replace H : (if fh = 0 then (if 3 < (a0.size : Int) then ((cursor_New.f a0).bind fun ff => ((cursor_Text.f ff.1 ff.2.1 ff.2.2.1 ff.2.2.2 4).bind fun eA => ((cursor_Text.f eA.2.1 eA.2.2.1 eA.2.2.2.1 eA.2.2.2.2 4).bind fun dx => ((cursor_Num.f dx.2.1 dx.2.2.1 dx.2.2.2.1 dx.2.2.2.2 4).bind fun cX => ((cursor_Text.f cX.2.1 cX.2.2.1 cX.2.2.2.1 cX.2.2.2.2 4).bind fun cr => ((cursor_Num.f cr.2.1 cr.2.2.1 cr.2.2.2.1 cr.2.2.2.2 4).bind fun bo => (some (4, 0, 0, (⟨#[]⟩ : ByteArray), 0, 0, (⟨#[]⟩ : ByteArray), wrap64 (bt a0 2), 0, (⟨#[]⟩ : ByteArray), 0, (⟨#[]⟩ : ByteArray), cX.1, 0, bo.1, wrap64 ((bt a0 1) / 64), wrap64 (bt a0 3), 0, 0, dx.1, cr.1, ([] : List (S46)), 0, (⟨#[]⟩ : ByteArray), dX, 0, 0)))))))) else (none)) else (some (0, 0, 0, (⟨#[]⟩ : ByteArray), 0, 0, (⟨#[]⟩ : ByteArray), 0, 0, (⟨#[]⟩ : ByteArray), 0, (⟨#[]⟩ : ByteArray), 0, 0, 0, 0, 0, 0, 0, (⟨#[]⟩ : ByteArray), (⟨#[]⟩ : ByteArray), ([] : List (S46)), 0, (⟨#[]⟩ : ByteArray), ([] : List (S48)), wrap64 (gl + 20), fh))) = some (r1, r2, r3, r4, r5, r6, r7, r8, r9, r10, r11, r12, r13, r14, r15, r16, r17, r18, r19, r20, r21, r22, r23, r24, r25, r26, r27) := H
         have mm := Aside0.mk js
         clear js
         by_cases eb : fh = 0
         ·rw [if_pos eb] at H
          have lf : (fh == 0) = true := beq_iff_eq.mpr eb
          have lg : (fh != 0) = false := bne_eq_false_iff_eq.mpr eb
          clear eb
          by_cases iG : 3 < (a0.size : Int)
          ·rw [if_pos iG] at H
           have hf : decide (3 < (a0.size : Int)) = true := decide_eq_true iG
           have jN : decide (3 < a0.size) = true := decide_eq_true Z40
           clear iG
           replace H := Option.bind_eq_some_iff.mp H
           obtain ⟨⟨ij, ik, il, im⟩, kN, H⟩ := H
           replace H : ((cursor_Text.f ij ik il im 4).bind fun eA => ((cursor_Text.f eA.2.1 eA.2.2.1 eA.2.2.2.1 eA.2.2.2.2 4).bind fun dx => ((cursor_Num.f dx.2.1 dx.2.2.1 dx.2.2.2.1 dx.2.2.2.2 4).bind fun cX => ((cursor_Text.f cX.2.1 cX.2.2.1 cX.2.2.2.1 cX.2.2.2.2 4).bind fun cr => ((cursor_Num.f cr.2.1 cr.2.2.1 cr.2.2.2.1 cr.2.2.2.2 4).bind fun bo => (some (4, 0, 0, (⟨#[]⟩ : ByteArray), 0, 0, (⟨#[]⟩ : ByteArray), wrap64 (bt a0 2), 0, (⟨#[]⟩ : ByteArray), 0, (⟨#[]⟩ : ByteArray), cX.1, 0, bo.1, wrap64 ((bt a0 1) / 64), wrap64 (bt a0 3), 0, 0, dx.1, cr.1, ([] : List (S46)), 0, (⟨#[]⟩ : ByteArray), dX, 0, 0))))))) = some (r1, r2, r3, r4, r5, r6, r7, r8, r9, r10, r11, r12, r13, r14, r15, r16, r17, r18, r19, r20, r21, r22, r23, r24, r25, r26, r27) := H
           have sb := Aside0.mk kN
           clear kN
           replace H := Option.bind_eq_some_iff.mp H
           obtain ⟨⟨lp, io, ip, iq, ir⟩, rE, H⟩ := H
           replace H : ((cursor_Text.f io ip iq ir 4).bind fun dx => ((cursor_Num.f dx.2.1 dx.2.2.1 dx.2.2.2.1 dx.2.2.2.2 4).bind fun cX => ((cursor_Text.f cX.2.1 cX.2.2.1 cX.2.2.2.1 cX.2.2.2.2 4).bind fun cr => ((cursor_Num.f cr.2.1 cr.2.2.1 cr.2.2.2.1 cr.2.2.2.2 4).bind fun bo => (some (4, 0, 0, (⟨#[]⟩ : ByteArray), 0, 0, (⟨#[]⟩ : ByteArray), wrap64 (bt a0 2), 0, (⟨#[]⟩ : ByteArray), 0, (⟨#[]⟩ : ByteArray), cX.1, 0, bo.1, wrap64 ((bt a0 1) / 64), wrap64 (bt a0 3), 0, 0, dx.1, cr.1, ([] : List (S46)), 0, (⟨#[]⟩ : ByteArray), dX, 0, 0)))))) = some (r1, r2, r3, r4, r5, r6, r7, r8, r9, r10, r11, r12, r13, r14, r15, r16, r17, r18, r19, r20, r21, r22, r23, r24, r25, r26, r27) := H
           have ma := Aside0.mk rE
           clear rE
           replace H := Option.bind_eq_some_iff.mp H
           obtain ⟨⟨fq, iu, iv, iw, ix⟩, rF, H⟩ := H
           replace H : ((cursor_Num.f iu iv iw ix 4).bind fun cX => ((cursor_Text.f cX.2.1 cX.2.2.1 cX.2.2.2.1 cX.2.2.2.2 4).bind fun cr => ((cursor_Num.f cr.2.1 cr.2.2.1 cr.2.2.2.1 cr.2.2.2.2 4).bind fun bo => (some (4, 0, 0, (⟨#[]⟩ : ByteArray), 0, 0, (⟨#[]⟩ : ByteArray), wrap64 (bt a0 2), 0, (⟨#[]⟩ : ByteArray), 0, (⟨#[]⟩ : ByteArray), cX.1, 0, bo.1, wrap64 ((bt a0 1) / 64), wrap64 (bt a0 3), 0, 0, fq, cr.1, ([] : List (S46)), 0, (⟨#[]⟩ : ByteArray), dX, 0, 0))))) = some (r1, r2, r3, r4, r5, r6, r7, r8, r9, r10, r11, r12, r13, r14, r15, r16, r17, r18, r19, r20, r21, r22, r23, r24, r25, r26, r27) := H
           have uq := Aside0.mk rF
           clear rF
           replace H := Option.bind_eq_some_iff.mp H
           obtain ⟨⟨fN, kB, kC, iy, iz⟩, rG, H⟩ := H
           replace H : ((cursor_Text.f kB kC iy iz 4).bind fun cr => ((cursor_Num.f cr.2.1 cr.2.2.1 cr.2.2.2.1 cr.2.2.2.2 4).bind fun bo => (some (4, 0, 0, (⟨#[]⟩ : ByteArray), 0, 0, (⟨#[]⟩ : ByteArray), wrap64 (bt a0 2), 0, (⟨#[]⟩ : ByteArray), 0, (⟨#[]⟩ : ByteArray), fN, 0, bo.1, wrap64 ((bt a0 1) / 64), wrap64 (bt a0 3), 0, 0, fq, cr.1, ([] : List (S46)), 0, (⟨#[]⟩ : ByteArray), dX, 0, 0)))) = some (r1, r2, r3, r4, r5, r6, r7, r8, r9, r10, r11, r12, r13, r14, r15, r16, r17, r18, r19, r20, r21, r22, r23, r24, r25, r26, r27) := H
           have ur := Aside0.mk rG
           clear rG
           replace H := Option.bind_eq_some_iff.mp H
           obtain ⟨⟨gn, jI, jJ, iA, iB⟩, lb, H⟩ := H
           replace H : ((cursor_Num.f jI jJ iA iB 4).bind fun bo => (some (4, 0, 0, (⟨#[]⟩ : ByteArray), 0, 0, (⟨#[]⟩ : ByteArray), wrap64 (bt a0 2), 0, (⟨#[]⟩ : ByteArray), 0, (⟨#[]⟩ : ByteArray), fN, 0, bo.1, wrap64 ((bt a0 1) / 64), wrap64 (bt a0 3), 0, 0, fq, gn, ([] : List (S46)), 0, (⟨#[]⟩ : ByteArray), dX, 0, 0))) = some (r1, r2, r3, r4, r5, r6, r7, r8, r9, r10, r11, r12, r13, r14, r15, r16, r17, r18, r19, r20, r21, r22, r23, r24, r25, r26, r27) := H
           have rU := Aside0.mk lb
           clear lb
           replace H := Option.bind_eq_some_iff.mp H
           obtain ⟨⟨iC, ls, lu, lv, lw⟩, rH, H⟩ := H
           replace H : (some (4, 0, 0, (⟨#[]⟩ : ByteArray), 0, 0, (⟨#[]⟩ : ByteArray), wrap64 (bt a0 2), 0, (⟨#[]⟩ : ByteArray), 0, (⟨#[]⟩ : ByteArray), fN, 0, iC, wrap64 ((bt a0 1) / 64), wrap64 (bt a0 3), 0, 0, fq, gn, ([] : List (S46)), 0, (⟨#[]⟩ : ByteArray), dX, 0, 0)) = some (r1, r2, r3, r4, r5, r6, r7, r8, r9, r10, r11, r12, r13, r14, r15, r16, r17, r18, r19, r20, r21, r22, r23, r24, r25, r26, r27) := H
           have ut := Aside0.mk rH
           clear rH
           simp only [Option.some.injEq, Prod.mk.injEq] at H
           obtain ⟨rfl, rfl, rfl, rfl, rfl, rfl, rfl, rfl, rfl, rfl, rfl, rfl, rfl, rfl, rfl, rfl, rfl, rfl, rfl, rfl, rfl, rfl, rfl, rfl, rfl, rfl, rfl⟩ := H
           try go_wp2_with (first | ((with_reducible refine gate_dst (N := 62) rfl ?_); refine Pre.build_event 62 25 [(0, Go.Operand.const (Go.Value.int Go.IntKind.i64 4)), (15, Go.Operand.tmp 54), (7, Go.Operand.tmp 57), (16, Go.Operand.tmp 60), (24, Go.Operand.tmp 61)] rfl rfl rfl (rrep_Get.bd62 _ _ _ _ _ _ _) ?_) | ((with_reducible refine Pre.gate_load 25 rfl ?_); (try (refine gate_guard Z23 ?_; dsimp only)); refine Pre.load_event rfl rfl rfl Z23 Z11 Try.underlying25 rfl Z14 ?_))
           have bY := Aside0.mk (blk_drew ae.out)
           have ca := Aside0.mk (below_drew1 HB.out)
           clear ae
           clear HB
           have ae := bY
           have HB := ca
           clear bY ca
           have p18 : 0 ≤ (1 : Int) := Z40
           have q18 : 1 < a0.size := (by have : (1 : Int) < (a0.size : Int) := of_decide_eq_true Z6; omega)
           have hx18 : ∀ h : 1 < a0.size, ((a0[1]'h).toNat : Int) = bt a0 1 := bt_at a0 1
           clear p18
           have qi18 : (1 < (a0.size : Int)) = True := eq_true (of_decide_eq_true Z6)
           replace q18 := eq_true q18
           have p20 : 0 ≤ (2 : Int) := Z40
           have q20 : 2 < a0.size := (by have : (2 : Int) < (a0.size : Int) := of_decide_eq_true Z6; omega)
           have hx20 : ∀ h : 2 < a0.size, ((a0[2]'h).toNat : Int) = bt a0 2 := bt_at a0 2
           clear p20
           have qi20 : (2 < (a0.size : Int)) = True := eq_true (of_decide_eq_true Z6)
           replace q20 := eq_true q20
           refine start_ (n := 8) (S := fun w' => True) (ds := []) (Sq.b 8 0) Z14 rfl rfl trivial (fun hHeld => ?_); refine with_tabW rrep_Get.tab5 rrep_Get.bits5 (fun HT_ HW_ => ?_)
           generalize wc.drew = w35 at ae HB hHeld ⊢
           refine Sq.pur 0 (some 29) (Sq.b 8 1) HT_.out ?_
           refine Sq.pur 3 (some 32) (Sq.b 8 9) HT_.out ?_
           refine Sq.tak 1 (some 30) (Sq.b 8 11) HT_.out HW_.out hHeld (v := ?_) (a' := ?_) ?_ ?_ ?_
           rotate_left
           ·intro w' _
            go_simp
            with_reducible rfl
           rotate_left
           ·simp only [Act.put, Sq.s1, Sq.s2, Sq.s3, i64_w, i32_w]
            rfl
           refine Sq.pur 2 (some 31) (Sq.b 8 15) HT_.out ?_
           refine Sq.tak 4 (some 33) (Sq.b 8 31) HT_.out HW_.out hHeld (v := ?_) (a' := ?_) ?_ ?_ ?_
           rotate_left
           ·intro w' _
            go_simp
            with_reducible rfl
           rotate_left
           ·simp only [Act.put, Sq.s1, Sq.s2, Sq.s3, i64_w, i32_w]
            rfl
           refine Sq.pur 5 (some 34) (Sq.b 8 63) HT_.out ?_
           refine Sq.pur 6 (some 35) (Sq.b 8 127) HT_.out ?_
           refine Sq.pur 7 (some 36) (Sq.b 8 255) HT_.out ?_
           refine done_ (done_of HT_.out Z14) ?_
           try go_wp2_with (first | ((with_reducible refine gate_dst (N := 62) rfl ?_); refine Pre.build_event 62 25 [(0, Go.Operand.const (Go.Value.int Go.IntKind.i64 4)), (15, Go.Operand.tmp 54), (7, Go.Operand.tmp 57), (16, Go.Operand.tmp 60), (24, Go.Operand.tmp 61)] rfl rfl rfl (rrep_Get.bd62 _ _ _ _ _ _ _) ?_) | ((with_reducible refine Pre.gate_load 25 rfl ?_); (try (refine gate_guard Z23 ?_; dsimp only)); refine Pre.load_event rfl rfl rfl Z23 Z11 Try.underlying25 rfl Z14 ?_) | ((with_reducible refine gate_callee (f := 59) rfl ?_); refine goesL_ (some 41) rfl rfl Try.func59 Z14 rfl #[.string (a0.extract 20 a0.size)] rfl Z4 ?_; (with_reducible refine (ext_Get.calls kj1 (a0.extract 20 a0.size) dX gl fh _ mm.out).mono ?_); rintro e sK ⟨rI, rfl, ho0, hb⟩; refine ⟨_, rfl, ?_⟩; have dY := Aside0.mk (Kd.R_lower ho0 (below_size Z0)); replace ae := Aside0.mk (blk_below (g := ag) Z2 hb); replace HB := Aside0.mk (below_step Z0 hb); clear hb ho0))
           have bY := Aside0.mk (Kd.R_drew dY.out)
           have ca := Aside0.mk (blk_drew ae.out)
           have cZ := Aside0.mk (below_drew1 HB.out)
           clear dY
           clear ae
           clear HB
           have dY := bY
           have ae := ca
           have HB := cZ
           clear bY ca cZ
           have p25 : 0 ≤ (1 : Int) := Z40
           have q25 : 1 < a0.size := (by have : (1 : Int) < (a0.size : Int) := of_decide_eq_true Z6; omega)
           have hx25 : ∀ h : 1 < a0.size, ((a0[1]'h).toNat : Int) = bt a0 1 := bt_at a0 1
           clear p25
           have qi25 : (1 < (a0.size : Int)) = True := eq_true (of_decide_eq_true Z6)
           replace q25 := eq_true q25
           have p26 : 0 ≤ (2 : Int) := Z40
           have q26 : 2 < a0.size := (by have : (2 : Int) < (a0.size : Int) := of_decide_eq_true Z6; omega)
           have hx26 : ∀ h : 2 < a0.size, ((a0[2]'h).toNat : Int) = bt a0 2 := bt_at a0 2
           clear p26
           have qi26 : (2 < (a0.size : Int)) = True := eq_true (of_decide_eq_true Z6)
           replace q26 := eq_true q26
           have p28 : 0 ≤ (3 : Int) := Z40
           have q28 : 3 < a0.size := (by have : (3 : Int) < (a0.size : Int) := of_decide_eq_true Z6; omega)
           have hx28 : ∀ h : 3 < a0.size, ((a0[3]'h).toNat : Int) = bt a0 3 := bt_at a0 3
           clear p28
           have qi28 : (3 < (a0.size : Int)) = True := eq_true (of_decide_eq_true Z6)
           replace q28 := eq_true q28
           obtain ⟨gq, gr, eo38⟩ := Kd.R_slice dY.out
           (first | subst eo38 | (injection eo38 with f1_ f2_ f3_; have f4_ := f1_.symm; have f5_ := f3_.symm; clear f1_ f2_ f3_; subst f4_; subst f5_))
           refine start_ (n := 14) (S := fun w' => True) (ds := []) (Sq.b 14 0) Z14 rfl rfl trivial (fun hHeld => ?_); refine with_tabW rrep_Get.tab10 rrep_Get.bits10 (fun HT_ HW_ => ?_)
           generalize sK.drew = sx at dY ae HB hHeld ⊢
           refine Sq.pur 0 (some 51) (Sq.b 14 1) HT_.out ?_
           refine Sq.pur 4 (some 55) (Sq.b 14 17) HT_.out ?_
           refine Sq.pur 7 (some 58) (Sq.b 14 145) HT_.out ?_
           refine Sq.pur 10 (some 61) (Sq.b 14 1169) HT_.out ?_
           refine Sq.tak 1 (some 52) (Sq.b 14 1171) HT_.out HW_.out hHeld (v := ?_) (a' := ?_) ?_ ?_ ?_
           rotate_left
           ·intro w' _
            go_simp
            with_reducible rfl
           rotate_left
           ·simp only [Act.put, Sq.s1, Sq.s2, Sq.s3, i64_w, i32_w]
            rfl
           refine Sq.pur 2 (some 53) (Sq.b 14 1175) HT_.out ?_
           refine Sq.pur 3 (some 54) (Sq.b 14 1183) HT_.out ?_
           refine Sq.tak 5 (some 56) (Sq.b 14 1215) HT_.out HW_.out hHeld (v := ?_) (a' := ?_) ?_ ?_ ?_
           rotate_left
           ·intro w' _
            go_simp
            with_reducible rfl
           rotate_left
           ·simp only [Act.put, Sq.s1, Sq.s2, Sq.s3, i64_w, i32_w]
            rfl
           refine Sq.pur 6 (some 57) (Sq.b 14 1279) HT_.out ?_
           refine Sq.tak 8 (some 59) (Sq.b 14 1535) HT_.out HW_.out hHeld (v := ?_) (a' := ?_) ?_ ?_ ?_
           rotate_left
           ·intro w' _
            go_simp
            with_reducible rfl
           rotate_left
           ·simp only [Act.put, Sq.s1, Sq.s2, Sq.s3, i64_w, i32_w]
            rfl
           refine Sq.pur 9 (some 60) (Sq.b 14 2047) HT_.out ?_
           refine pure_ (i := 11) (N := some 62) (v := ?_) (a' := ?_) (Sq.b 14 4095) rfl rfl (any_of HT_.out Z14) (fun _ _ _ h => h) (Or.inl ⟨Z23, ?_⟩) ?_ ?_
           rotate_left
           ·intro w'
            refine Eq.trans (Pre.build_run 25 [(0, Go.Operand.const (Go.Value.int Go.IntKind.i64 4)), (15, Go.Operand.tmp 54), (7, Go.Operand.tmp 57), (16, Go.Operand.tmp 60), (24, Go.Operand.tmp 61)] rfl (rrep_Get.bd62 _ _ _ _ _ _ _)) ?_
            with_reducible rfl
           rotate_left
           ·simp only [Act.put, Sq.s1, Sq.s2, Sq.s3, i64_w, i32_w]
            rfl
           refine one_ (i := 12) (N := some 8) (Sq.b 14 8191) rfl rfl (one_of HT_.out Z14) Z29 (fun K hK => ?_)
           refine box_step ?hg (N := 8) ?hd (cs := #[.int .i64 0, .int .i64 0, .int .i64 0, .string ⟨#[]⟩, .int .i64 0, .int .i64 0, .string ⟨#[]⟩, .int .i64 0, .int .i64 0, .string ⟨#[]⟩, .int .i64 0, .string ⟨#[]⟩, .int .i64 0, .int .i64 0, .int .i64 0, .int .i64 0, .int .i64 0, .int .i64 0, .int .i64 0, .string ⟨#[]⟩, .string ⟨#[]⟩, .slice none 0 0, .int .i64 0, .string ⟨#[]⟩, .slice none 0 0]) (t := 25) ?hr ?_; (case hd => rfl); (case hg => rfl); (case hr => first | (go_simp; done) | (go_simp; rfl))
           intro et hg tv hbox hb
           have bY := Aside0.mk (Kd.R_below Z69 hb)
           have ca := Aside0.mk (blk_below (g := ag) Z2 hb)
           have cZ := Aside0.mk (below_step Z0 hb)
           have ex := Aside0.mk (hbox)
           have hP := Aside0.mk ((by rw [hg]; exact (below_size Z0) : w.heap.size ≤ et))
           have jW := Aside0.mk ((by rw [hg]; exact (below_size Z0) : w.heap.size ≤ et))
           have qc := Aside0.mk ((by rw [hg]; exact Nat.ne_of_lt (blk_lt (g := ag) Z2) : ag ≠ et))
           have qd := Aside0.mk ((by rw [hg]; exact Nat.ne_of_gt (blk_lt (g := ag) Z2) : et ≠ ag))
           clear dY
           clear ae
           clear HB
           have dY := bY
           have ae := ca
           have HB := cZ
           have dA := ex
           have GW138 := hP
           have lX := jW
           have fX := qc
           have iM := qd
           clear bY ca cZ ex hP jW qc qd
           clear hb hbox hg
           refine hK.out _ _ trivial (fun hHeld => ?_)
           clear hK K
           refine norm_ (a' := ?_) ?_ ?_
           rotate_left
           ·show Act.put _ (some 8) _ = _
            simp only [Act.put, Sq.s1, Sq.s2, Sq.s3, i64_w, i32_w]
            rfl
           refine one_ (i := 13) (N := none) (Sq.b 14 16383) rfl rfl (one_of HT_.out Z14) Z29 (fun K hK => ?_)
           refine skip_ (w1 := ?_) Z23 rfl ?_ ?_
           rotate_left
           ·refine Eq.trans (Pre.store_run rfl Z23 Z23 dA.out Z14 Z23 Z23) ?_
            rfl
           refine hK.out _ _ trivial (fun hHeld => ?_)
           clear hK K
           refine done_ (done_of HT_.out Z14) ?_
           refine Pre.abs_end (g := et) (t := 25) (cs := #[.int .i64 0, .int .i64 0, .int .i64 0, .string ⟨#[]⟩, .int .i64 0, .int .i64 0, .string ⟨#[]⟩, .int .i64 0, .int .i64 0, .string ⟨#[]⟩, .int .i64 0, .string ⟨#[]⟩, .int .i64 0, .int .i64 0, .int .i64 0, .int .i64 0, .int .i64 0, .int .i64 0, .int .i64 0, .string ⟨#[]⟩, .string ⟨#[]⟩, .slice none 0 0, .int .i64 0, .string ⟨#[]⟩, .slice none 0 0]) (cells := #[.int .i64 4, .int .i64 0, .int .i64 0, .string ⟨#[]⟩, .int .i64 0, .int .i64 0, .string ⟨#[]⟩, .int .i64 (wrap64 (bt a0 2)), .int .i64 0, .string ⟨#[]⟩, .int .i64 0, .string ⟨#[]⟩, .int .i64 0, .int .i64 0, .int .i64 0, .int .i64 (wrap64 ((bt a0 1) / 64)), .int .i64 (wrap64 (bt a0 3)), .int .i64 0, .int .i64 0, .string ⟨#[]⟩, .string ⟨#[]⟩, .slice none 0 0, .int .i64 0, .string ⟨#[]⟩, .slice gq dX.length gr]) Z58 Z23 ?_
           intro rJ hbS_ sS_
           replace hbS_ := Aside0.mk hbS_
           replace sS_ : Aside0 (Pre.Sets et tv rJ) := ⟨⟨sS_.os, sS_.tape, sS_.output, sS_.size, sS_.block⟩⟩
           have bY : Aside0 (Kd.R k48 48 rJ w.heap.size (fun _ => True) (.slice gq dX.length gr) dX) := ⟨Kd.R_mono (Pre.R_sets sS_.out (Kd.R_types dY.out dA.out Z29) (fun _ hk => hk.2)) (fun _ hk => trivial)⟩
           have ca : Aside0 (rJ.heap[ag]? = some (.cells #[.int .i64 0, .int .i64 0, .int .i64 0, .string ⟨#[]⟩, .int .i64 0, .int .i64 0, .string ⟨#[]⟩, .int .i64 0, .int .i64 0, .string ⟨#[]⟩, .int .i64 0, .string ⟨#[]⟩, .int .i64 0, .int .i64 0, .int .i64 0, .int .i64 0, .int .i64 0, .int .i64 0, .int .i64 0, .string ⟨#[]⟩, .string ⟨#[]⟩, .slice none 0 0, .int .i64 0, .string ⟨#[]⟩, .slice none 0 0] 25 (0, 0))) := ⟨sS_.out.blk Z2 fX.out⟩
           have cZ : Aside0 (rJ.heap[et]? = some (.cells #[.int .i64 4, .int .i64 0, .int .i64 0, .string ⟨#[]⟩, .int .i64 0, .int .i64 0, .string ⟨#[]⟩, .int .i64 (wrap64 (bt a0 2)), .int .i64 0, .string ⟨#[]⟩, .int .i64 0, .string ⟨#[]⟩, .int .i64 0, .int .i64 0, .int .i64 0, .int .i64 (wrap64 ((bt a0 1) / 64)), .int .i64 (wrap64 (bt a0 3)), .int .i64 0, .int .i64 0, .string ⟨#[]⟩, .string ⟨#[]⟩, .slice none 0 0, .int .i64 0, .string ⟨#[]⟩, .slice gq dX.length gr] 25 (0, 0))) := ⟨hbS_.out⟩
           have ex : Aside0 (Below w.heap.size w rJ) := ⟨sS_.out.below Z38 lX.out⟩
           clear hbS_ sS_
           (try clear dY)
           (try clear ae)
           (try clear dA)
           (try clear HB)
           have dY := bY
           have ae := ca
           have dA := cZ
           have HB := ex
           clear bY ca cZ ex
           try go_wp2_with (first | ((with_reducible refine gate_dst (N := 62) rfl ?_); refine Pre.build_event 62 25 [(0, Go.Operand.const (Go.Value.int Go.IntKind.i64 4)), (15, Go.Operand.tmp 54), (7, Go.Operand.tmp 57), (16, Go.Operand.tmp 60), (24, Go.Operand.tmp 61)] rfl rfl rfl (rrep_Get.bd62 _ _ _ _ _ _ _) ?_) | ((with_reducible refine Pre.gate_load 25 rfl ?_); (try (refine gate_guard Z23 ?_; dsimp only)); refine Pre.load_event rfl rfl rfl Z23 Z11 Try.underlying25 rfl Z14 ?_) | ((with_reducible refine gate_callee (f := 61) rfl ?_); refine goesL_ (some 65) rfl rfl Try.func61 Z14 rfl #[.string a0] rfl Z4 ?_; (with_reducible refine (cursor_New.calls a0 ij ik il im _ sb.out).mono ?_); rintro e uc ⟨rfl, hb⟩; refine ⟨_, rfl, ?_⟩; replace dY := Aside0.mk (Kd.R_below Z69 hb); replace ae := Aside0.mk (blk_below (g := ag) Z2 hb); replace dA := Aside0.mk (blk_below (g := et) Z58 hb); replace HB := Aside0.mk (below_step Z38 hb); clear hb) | ((with_reducible refine gate_callee (f := 60) rfl ?_); refine goesL_ (some 66) rfl rfl Try.func60 Z14 rfl #[.agg #[.string ij, .int .i64 ik, .int .i64 il, .bool im], .int .i64 4] rfl Z4 ?_; (with_reducible refine (cursor_Text.calls ij ik il im 4 lp io ip iq ir _ ma.out).mono ?_); rintro e w67 ⟨rfl, hb⟩; refine ⟨_, rfl, ?_⟩; replace dY := Aside0.mk (Kd.R_below Z69 hb); replace ae := Aside0.mk (blk_below (g := ag) Z2 hb); replace dA := Aside0.mk (blk_below (g := et) Z58 hb); replace HB := Aside0.mk (below_step Z38 hb); clear hb) | ((with_reducible refine gate_dst (N := 10) rfl ?_); refine Sq.box 10 #[.string ⟨#[]⟩, .int .i64 0, .int .i64 0, .bool false] 60 ?_; intro eu hg w68 hbox hb; have eE := Aside0.mk (hbox); have GW148 := Aside0.mk (Sq.ge hg Z38); have rK := Aside0.mk (Sq.ge hg Z38); have eo := Aside0.mk (Sq.nl hg (blk_lt (g := ag) Z2)); have iN := Aside0.mk (Sq.ng hg (blk_lt (g := ag) Z2)); have ct := Aside0.mk (Sq.nl hg (blk_lt (g := et) Z58)); have ha := Aside0.mk (Sq.ng hg (blk_lt (g := et) Z58)); replace dY := Aside0.mk (Kd.R_below Z69 hb); replace ae := Aside0.mk (blk_below (g := ag) Z2 hb); replace dA := Aside0.mk (blk_below (g := et) Z58 hb); replace HB := Aside0.mk (below_step Z38 hb); clear hb hbox hg; have hnb69 := iN.out; have hnc69 := eo.out; have hnb70 := ha.out; have hnc70 := ct.out; have qj := cells_4 eE.out) | ((with_reducible refine gate_callee (f := 60) rfl ?_); refine goesL_ (some 71) rfl rfl Try.func60 Z14 rfl #[.agg #[.string io, .int .i64 ip, .int .i64 iq, .bool ir], .int .i64 4] rfl Z4 ?_; (with_reducible refine (cursor_Text.calls io ip iq ir 4 fq iu iv iw ix _ uq.out).mono ?_); rintro e ud ⟨rfl, hb⟩; refine ⟨_, rfl, ?_⟩; replace dY := Aside0.mk (Kd.R_below (by (with_reducible repeat (first | apply Kd.R_alloc | apply Kd.R_drewN | apply Kd.R_drew)); exact (Kd.R_mono (Kd.R_far (p := ⟨eu, 3, none⟩) (Kd.R_far (p := ⟨eu, 2, none⟩) (Kd.R_far (p := ⟨eu, 1, none⟩) (Kd.R_far (p := ⟨eu, 0, none⟩) (Kd.R_types dY.out eE.out Z29) (fun _ hk => hk.2) (.string io)) (fun _ hk => hk.2) (.int .i64 ip)) (fun _ hk => hk.2) (.int .i64 iq)) (fun _ hk => hk.2) (.bool ir)) (fun _ h_ => h_.1))) hb); replace ae := Aside0.mk (blk_below (g := ag) (o := .cells #[.int .i64 0, .int .i64 0, .int .i64 0, .string ⟨#[]⟩, .int .i64 0, .int .i64 0, .string ⟨#[]⟩, .int .i64 0, .int .i64 0, .string ⟨#[]⟩, .int .i64 0, .string ⟨#[]⟩, .int .i64 0, .int .i64 0, .int .i64 0, .int .i64 0, .int .i64 0, .int .i64 0, .int .i64 0, .string ⟨#[]⟩, .string ⟨#[]⟩, .slice none 0 0, .int .i64 0, .string ⟨#[]⟩, .slice none 0 0] 25 (0, 0)) (by (with_reducible repeat (first | refine blk_drewN ?_ _ | refine blk_drew ?_ | refine blk_alloc ?_ _)); refine blk_far ?_ eo.out _; (with_reducible repeat (first | refine blk_drewN ?_ _ | refine blk_drew ?_ | refine blk_alloc ?_ _)); refine blk_far ?_ eo.out _; (with_reducible repeat (first | refine blk_drewN ?_ _ | refine blk_drew ?_ | refine blk_alloc ?_ _)); refine blk_far ?_ eo.out _; (with_reducible repeat (first | refine blk_drewN ?_ _ | refine blk_drew ?_ | refine blk_alloc ?_ _)); refine blk_far ?_ eo.out _; (with_reducible repeat (first | refine blk_drewN ?_ _ | refine blk_drew ?_ | refine blk_alloc ?_ _)); exact ae.out) hb); replace dA := Aside0.mk (blk_below (g := et) (o := .cells #[.int .i64 4, .int .i64 0, .int .i64 0, .string ⟨#[]⟩, .int .i64 0, .int .i64 0, .string ⟨#[]⟩, .int .i64 (wrap64 (bt a0 2)), .int .i64 0, .string ⟨#[]⟩, .int .i64 0, .string ⟨#[]⟩, .int .i64 0, .int .i64 0, .int .i64 0, .int .i64 (wrap64 ((bt a0 1) / 64)), .int .i64 (wrap64 (bt a0 3)), .int .i64 0, .int .i64 0, .string ⟨#[]⟩, .string ⟨#[]⟩, .slice none 0 0, .int .i64 0, .string ⟨#[]⟩, .slice gq dX.length gr] 25 (0, 0)) (by (with_reducible repeat (first | refine blk_drewN ?_ _ | refine blk_drew ?_ | refine blk_alloc ?_ _)); refine blk_far ?_ ct.out _; (with_reducible repeat (first | refine blk_drewN ?_ _ | refine blk_drew ?_ | refine blk_alloc ?_ _)); refine blk_far ?_ ct.out _; (with_reducible repeat (first | refine blk_drewN ?_ _ | refine blk_drew ?_ | refine blk_alloc ?_ _)); refine blk_far ?_ ct.out _; (with_reducible repeat (first | refine blk_drewN ?_ _ | refine blk_drew ?_ | refine blk_alloc ?_ _)); refine blk_far ?_ ct.out _; (with_reducible repeat (first | refine blk_drewN ?_ _ | refine blk_drew ?_ | refine blk_alloc ?_ _)); exact dA.out) hb); replace eE := Aside0.mk (blk_below (g := eu) (o := .cells #[.string io, .int .i64 ip, .int .i64 iq, .bool ir] 60 (0, 0)) (by (with_reducible repeat (first | refine blk_drewN ?_ _ | refine blk_drew ?_ | refine blk_alloc ?_ _)); apply blk_puts4; (with_reducible repeat (first | refine blk_drewN ?_ _ | refine blk_drew ?_ | refine blk_alloc ?_ _)); exact eE.out) hb); replace HB := Aside0.mk (below_step Z32 hb); clear hb; (try clear hk); have hnb73 := iM.out; have hnc73 := fX.out; have mX := cells_25 dA.out; have hcz75 := cells_4 eE.out) | ((with_reducible refine gate_callee (f := 62) rfl ?_); refine goesL_ (some 77) rfl rfl Try.func62 Z14 rfl #[.agg #[.string iu, .int .i64 iv, .int .i64 iw, .bool ix], .int .i64 4] rfl Z4 ?_; (with_reducible refine (cursor_Num.calls iu iv iw ix 4 fN kB kC iy iz _ ur.out).mono ?_); rintro e oG ⟨rfl, hb⟩; refine ⟨_, rfl, ?_⟩; replace dY := Aside0.mk (Kd.R_below (by (with_reducible repeat (first | apply Kd.R_alloc | apply Kd.R_drewN | apply Kd.R_drew)); exact (Kd.R_mono (Kd.R_mono (Kd.R_far (p := ⟨eu, 3, none⟩) (Kd.R_far (p := ⟨eu, 2, none⟩) (Kd.R_far (p := ⟨eu, 1, none⟩) (Kd.R_far (p := ⟨eu, 0, none⟩) (Kd.R_far (p := ⟨et, 19, none⟩) (Kd.R_types (Kd.R_types dY.out dA.out Z29) eE.out Z29) (fun _ hk => hk.1.2) (.string fq)) (fun _ hk => hk.2) (.string iu)) (fun _ hk => hk.2) (.int .i64 iv)) (fun _ hk => hk.2) (.int .i64 iw)) (fun _ hk => hk.2) (.bool ix)) (fun _ h_ => h_.1)) (fun _ h_ => h_.1))) hb); replace ae := Aside0.mk (blk_below (g := ag) (o := .cells #[.int .i64 0, .int .i64 0, .int .i64 0, .string ⟨#[]⟩, .int .i64 0, .int .i64 0, .string ⟨#[]⟩, .int .i64 0, .int .i64 0, .string ⟨#[]⟩, .int .i64 0, .string ⟨#[]⟩, .int .i64 0, .int .i64 0, .int .i64 0, .int .i64 0, .int .i64 0, .int .i64 0, .int .i64 0, .string ⟨#[]⟩, .string ⟨#[]⟩, .slice none 0 0, .int .i64 0, .string ⟨#[]⟩, .slice none 0 0] 25 (0, 0)) Z27 hb); replace dA := Aside0.mk (blk_below (g := et) (o := .cells #[.int .i64 4, .int .i64 0, .int .i64 0, .string ⟨#[]⟩, .int .i64 0, .int .i64 0, .string ⟨#[]⟩, .int .i64 (wrap64 (bt a0 2)), .int .i64 0, .string ⟨#[]⟩, .int .i64 0, .string ⟨#[]⟩, .int .i64 0, .int .i64 0, .int .i64 0, .int .i64 (wrap64 ((bt a0 1) / 64)), .int .i64 (wrap64 (bt a0 3)), .int .i64 0, .int .i64 0, .string fq, .string ⟨#[]⟩, .slice none 0 0, .int .i64 0, .string ⟨#[]⟩, .slice gq dX.length gr] 25 (0, 0)) (by (with_reducible repeat (first | refine blk_drewN ?_ _ | refine blk_drew ?_ | refine blk_alloc ?_ _)); refine blk_far ?_ ct.out _; (with_reducible repeat (first | refine blk_drewN ?_ _ | refine blk_drew ?_ | refine blk_alloc ?_ _)); refine blk_far ?_ ct.out _; (with_reducible repeat (first | refine blk_drewN ?_ _ | refine blk_drew ?_ | refine blk_alloc ?_ _)); refine blk_far ?_ ct.out _; (with_reducible repeat (first | refine blk_drewN ?_ _ | refine blk_drew ?_ | refine blk_alloc ?_ _)); refine blk_far ?_ ct.out _; (with_reducible repeat (first | refine blk_drewN ?_ _ | refine blk_drew ?_ | refine blk_alloc ?_ _)); refine blk_put (cs := #[.int .i64 4, .int .i64 0, .int .i64 0, .string ⟨#[]⟩, .int .i64 0, .int .i64 0, .string ⟨#[]⟩, .int .i64 (wrap64 (bt a0 2)), .int .i64 0, .string ⟨#[]⟩, .int .i64 0, .string ⟨#[]⟩, .int .i64 0, .int .i64 0, .int .i64 0, .int .i64 (wrap64 ((bt a0 1) / 64)), .int .i64 (wrap64 (bt a0 3)), .int .i64 0, .int .i64 0, .string ⟨#[]⟩, .string ⟨#[]⟩, .slice none 0 0, .int .i64 0, .string ⟨#[]⟩, .slice gq dX.length gr]) ?_ 19 _ rfl; (with_reducible repeat (first | refine blk_drewN ?_ _ | refine blk_drew ?_ | refine blk_alloc ?_ _)); exact dA.out) hb); replace eE := Aside0.mk (blk_below (g := eu) (o := .cells #[.string iu, .int .i64 iv, .int .i64 iw, .bool ix] 60 (0, 0)) Z47 hb); replace HB := Aside0.mk (below_step Z32 hb); clear hb; (try clear hk); have ql := cells_25 dA.out; have hcz78 := cells_4 eE.out) | ((with_reducible refine gate_callee (f := 60) rfl ?_); refine goesL_ (some 83) rfl rfl Try.func60 Z14 rfl #[.agg #[.string kB, .int .i64 kC, .int .i64 iy, .bool iz], .int .i64 4] rfl Z4 ?_; (with_reducible refine (cursor_Text.calls kB kC iy iz 4 gn jI jJ iA iB _ rU.out).mono ?_); rintro e tx ⟨rfl, hb⟩; refine ⟨_, rfl, ?_⟩; replace dY := Aside0.mk (Kd.R_below (by (with_reducible repeat (first | apply Kd.R_alloc | apply Kd.R_drewN | apply Kd.R_drew)); exact (Kd.R_mono (Kd.R_mono (Kd.R_far (p := ⟨eu, 3, none⟩) (Kd.R_far (p := ⟨eu, 2, none⟩) (Kd.R_far (p := ⟨eu, 1, none⟩) (Kd.R_far (p := ⟨eu, 0, none⟩) (Kd.R_far (p := ⟨et, 12, none⟩) (Kd.R_types (Kd.R_types dY.out dA.out Z29) eE.out Z29) (fun _ hk => hk.1.2) (.int .i64 fN)) (fun _ hk => hk.2) (.string kB)) (fun _ hk => hk.2) (.int .i64 kC)) (fun _ hk => hk.2) (.int .i64 iy)) (fun _ hk => hk.2) (.bool iz)) (fun _ h_ => h_.1)) (fun _ h_ => h_.1))) hb); replace ae := Aside0.mk (blk_below (g := ag) (o := .cells #[.int .i64 0, .int .i64 0, .int .i64 0, .string ⟨#[]⟩, .int .i64 0, .int .i64 0, .string ⟨#[]⟩, .int .i64 0, .int .i64 0, .string ⟨#[]⟩, .int .i64 0, .string ⟨#[]⟩, .int .i64 0, .int .i64 0, .int .i64 0, .int .i64 0, .int .i64 0, .int .i64 0, .int .i64 0, .string ⟨#[]⟩, .string ⟨#[]⟩, .slice none 0 0, .int .i64 0, .string ⟨#[]⟩, .slice none 0 0] 25 (0, 0)) Z27 hb); replace dA := Aside0.mk (blk_below (g := et) (o := .cells #[.int .i64 4, .int .i64 0, .int .i64 0, .string ⟨#[]⟩, .int .i64 0, .int .i64 0, .string ⟨#[]⟩, .int .i64 (wrap64 (bt a0 2)), .int .i64 0, .string ⟨#[]⟩, .int .i64 0, .string ⟨#[]⟩, .int .i64 fN, .int .i64 0, .int .i64 0, .int .i64 (wrap64 ((bt a0 1) / 64)), .int .i64 (wrap64 (bt a0 3)), .int .i64 0, .int .i64 0, .string fq, .string ⟨#[]⟩, .slice none 0 0, .int .i64 0, .string ⟨#[]⟩, .slice gq dX.length gr] 25 (0, 0)) (by (with_reducible repeat (first | refine blk_drewN ?_ _ | refine blk_drew ?_ | refine blk_alloc ?_ _)); refine blk_far ?_ ct.out _; (with_reducible repeat (first | refine blk_drewN ?_ _ | refine blk_drew ?_ | refine blk_alloc ?_ _)); refine blk_far ?_ ct.out _; (with_reducible repeat (first | refine blk_drewN ?_ _ | refine blk_drew ?_ | refine blk_alloc ?_ _)); refine blk_far ?_ ct.out _; (with_reducible repeat (first | refine blk_drewN ?_ _ | refine blk_drew ?_ | refine blk_alloc ?_ _)); refine blk_far ?_ ct.out _; (with_reducible repeat (first | refine blk_drewN ?_ _ | refine blk_drew ?_ | refine blk_alloc ?_ _)); refine blk_put (cs := #[.int .i64 4, .int .i64 0, .int .i64 0, .string ⟨#[]⟩, .int .i64 0, .int .i64 0, .string ⟨#[]⟩, .int .i64 (wrap64 (bt a0 2)), .int .i64 0, .string ⟨#[]⟩, .int .i64 0, .string ⟨#[]⟩, .int .i64 0, .int .i64 0, .int .i64 0, .int .i64 (wrap64 ((bt a0 1) / 64)), .int .i64 (wrap64 (bt a0 3)), .int .i64 0, .int .i64 0, .string fq, .string ⟨#[]⟩, .slice none 0 0, .int .i64 0, .string ⟨#[]⟩, .slice gq dX.length gr]) ?_ 12 _ rfl; (with_reducible repeat (first | refine blk_drewN ?_ _ | refine blk_drew ?_ | refine blk_alloc ?_ _)); exact dA.out) hb); replace eE := Aside0.mk (blk_below (g := eu) (o := .cells #[.string kB, .int .i64 kC, .int .i64 iy, .bool iz] 60 (0, 0)) Z47 hb); replace HB := Aside0.mk (below_step Z32 hb); clear hb; (try clear hk); have hcz80 := cells_25 dA.out; have hcz81 := cells_4 eE.out) | ((with_reducible refine gate_callee (f := 62) rfl ?_); refine goesL_ (some 89) rfl rfl Try.func62 Z14 rfl #[.agg #[.string jI, .int .i64 jJ, .int .i64 iA, .bool iB], .int .i64 4] rfl Z4 ?_; (with_reducible refine (cursor_Num.calls jI jJ iA iB 4 iC ls lu lv lw _ ut.out).mono ?_); rintro e w82 ⟨rfl, hb⟩; refine ⟨_, rfl, ?_⟩; replace dY := Aside0.mk (Kd.R_below (by (with_reducible repeat (first | apply Kd.R_alloc | apply Kd.R_drewN | apply Kd.R_drew)); exact (Kd.R_mono (Kd.R_mono (Kd.R_far (p := ⟨eu, 3, none⟩) (Kd.R_far (p := ⟨eu, 2, none⟩) (Kd.R_far (p := ⟨eu, 1, none⟩) (Kd.R_far (p := ⟨eu, 0, none⟩) (Kd.R_far (p := ⟨et, 20, none⟩) (Kd.R_types (Kd.R_types dY.out dA.out Z29) eE.out Z29) (fun _ hk => hk.1.2) (.string gn)) (fun _ hk => hk.2) (.string jI)) (fun _ hk => hk.2) (.int .i64 jJ)) (fun _ hk => hk.2) (.int .i64 iA)) (fun _ hk => hk.2) (.bool iB)) (fun _ h_ => h_.1)) (fun _ h_ => h_.1))) hb); replace ae := Aside0.mk (blk_below (g := ag) (o := .cells #[.int .i64 0, .int .i64 0, .int .i64 0, .string ⟨#[]⟩, .int .i64 0, .int .i64 0, .string ⟨#[]⟩, .int .i64 0, .int .i64 0, .string ⟨#[]⟩, .int .i64 0, .string ⟨#[]⟩, .int .i64 0, .int .i64 0, .int .i64 0, .int .i64 0, .int .i64 0, .int .i64 0, .int .i64 0, .string ⟨#[]⟩, .string ⟨#[]⟩, .slice none 0 0, .int .i64 0, .string ⟨#[]⟩, .slice none 0 0] 25 (0, 0)) Z27 hb); replace dA := Aside0.mk (blk_below (g := et) (o := .cells #[.int .i64 4, .int .i64 0, .int .i64 0, .string ⟨#[]⟩, .int .i64 0, .int .i64 0, .string ⟨#[]⟩, .int .i64 (wrap64 (bt a0 2)), .int .i64 0, .string ⟨#[]⟩, .int .i64 0, .string ⟨#[]⟩, .int .i64 fN, .int .i64 0, .int .i64 0, .int .i64 (wrap64 ((bt a0 1) / 64)), .int .i64 (wrap64 (bt a0 3)), .int .i64 0, .int .i64 0, .string fq, .string gn, .slice none 0 0, .int .i64 0, .string ⟨#[]⟩, .slice gq dX.length gr] 25 (0, 0)) (by (with_reducible repeat (first | refine blk_drewN ?_ _ | refine blk_drew ?_ | refine blk_alloc ?_ _)); refine blk_far ?_ ct.out _; (with_reducible repeat (first | refine blk_drewN ?_ _ | refine blk_drew ?_ | refine blk_alloc ?_ _)); refine blk_far ?_ ct.out _; (with_reducible repeat (first | refine blk_drewN ?_ _ | refine blk_drew ?_ | refine blk_alloc ?_ _)); refine blk_far ?_ ct.out _; (with_reducible repeat (first | refine blk_drewN ?_ _ | refine blk_drew ?_ | refine blk_alloc ?_ _)); refine blk_far ?_ ct.out _; (with_reducible repeat (first | refine blk_drewN ?_ _ | refine blk_drew ?_ | refine blk_alloc ?_ _)); refine blk_put (cs := #[.int .i64 4, .int .i64 0, .int .i64 0, .string ⟨#[]⟩, .int .i64 0, .int .i64 0, .string ⟨#[]⟩, .int .i64 (wrap64 (bt a0 2)), .int .i64 0, .string ⟨#[]⟩, .int .i64 0, .string ⟨#[]⟩, .int .i64 fN, .int .i64 0, .int .i64 0, .int .i64 (wrap64 ((bt a0 1) / 64)), .int .i64 (wrap64 (bt a0 3)), .int .i64 0, .int .i64 0, .string fq, .string ⟨#[]⟩, .slice none 0 0, .int .i64 0, .string ⟨#[]⟩, .slice gq dX.length gr]) ?_ 20 _ rfl; (with_reducible repeat (first | refine blk_drewN ?_ _ | refine blk_drew ?_ | refine blk_alloc ?_ _)); exact dA.out) hb); replace eE := Aside0.mk (blk_below (g := eu) (o := .cells #[.string jI, .int .i64 jJ, .int .i64 iA, .bool iB] 60 (0, 0)) Z47 hb); replace HB := Aside0.mk (below_step Z32 hb); clear hb; (try clear hk); have hcz83 := cells_25 dA.out; have hcz84 := cells_25 ae.out) | ((with_reducible refine Pre.gate_store 25 rfl ?_); refine Pre.store_abs (cur := #[.int .i64 0, .int .i64 0, .int .i64 0, .string ⟨#[]⟩, .int .i64 0, .int .i64 0, .string ⟨#[]⟩, .int .i64 0, .int .i64 0, .string ⟨#[]⟩, .int .i64 0, .string ⟨#[]⟩, .int .i64 0, .int .i64 0, .int .i64 0, .int .i64 0, .int .i64 0, .int .i64 0, .int .i64 0, .string ⟨#[]⟩, .string ⟨#[]⟩, .slice none 0 0, .int .i64 0, .string ⟨#[]⟩, .slice none 0 0]) (e := 25) rfl rfl rfl Z23 Z23 (by (with_reducible repeat (first | refine blk_drewN ?_ _ | refine blk_drew ?_ | refine blk_alloc ?_ _)); refine blk_far ?_ fX.out _; (with_reducible repeat (first | refine blk_drewN ?_ _ | refine blk_drew ?_ | refine blk_alloc ?_ _)); exact ae.out) Z14 Z23 Z23 ?_; intro oL hbS_ sS_; have bY : Aside0 (Kd.R k48 48 oL w.heap.size (fun _ => True) (.slice gq dX.length gr) dX) := ⟨Kd.R_mono (Pre.R_sets sS_ (Kd.R_far (p := ⟨et, 14, none⟩) (Kd.R_types (Kd.R_types dY.out dA.out Z29) ae.out Z29) (fun _ hk => hk.1.2) (.int .i64 iC)) (fun _ hk => hk.2)) (fun _ hk => trivial)⟩; have ca : Aside0 (oL.heap[ag]? = some (.cells #[.int .i64 4, .int .i64 0, .int .i64 0, .string ⟨#[]⟩, .int .i64 0, .int .i64 0, .string ⟨#[]⟩, .int .i64 (wrap64 (bt a0 2)), .int .i64 0, .string ⟨#[]⟩, .int .i64 0, .string ⟨#[]⟩, .int .i64 fN, .int .i64 0, .int .i64 iC, .int .i64 (wrap64 ((bt a0 1) / 64)), .int .i64 (wrap64 (bt a0 3)), .int .i64 0, .int .i64 0, .string fq, .string gn, .slice none 0 0, .int .i64 0, .string ⟨#[]⟩, .slice gq dX.length gr] 25 (0, 0))) := ⟨hbS_⟩; have cZ : Aside0 (oL.heap[et]? = some (.cells #[.int .i64 4, .int .i64 0, .int .i64 0, .string ⟨#[]⟩, .int .i64 0, .int .i64 0, .string ⟨#[]⟩, .int .i64 (wrap64 (bt a0 2)), .int .i64 0, .string ⟨#[]⟩, .int .i64 0, .string ⟨#[]⟩, .int .i64 fN, .int .i64 0, .int .i64 iC, .int .i64 (wrap64 ((bt a0 1) / 64)), .int .i64 (wrap64 (bt a0 3)), .int .i64 0, .int .i64 0, .string fq, .string gn, .slice none 0 0, .int .i64 0, .string ⟨#[]⟩, .slice gq dX.length gr] 25 (0, 0))) := ⟨sS_.blk (by (with_reducible repeat (first | refine blk_drewN ?_ _ | refine blk_drew ?_ | refine blk_alloc ?_ _)); refine blk_put (cs := #[.int .i64 4, .int .i64 0, .int .i64 0, .string ⟨#[]⟩, .int .i64 0, .int .i64 0, .string ⟨#[]⟩, .int .i64 (wrap64 (bt a0 2)), .int .i64 0, .string ⟨#[]⟩, .int .i64 0, .string ⟨#[]⟩, .int .i64 fN, .int .i64 0, .int .i64 0, .int .i64 (wrap64 ((bt a0 1) / 64)), .int .i64 (wrap64 (bt a0 3)), .int .i64 0, .int .i64 0, .string fq, .string gn, .slice none 0 0, .int .i64 0, .string ⟨#[]⟩, .slice gq dX.length gr]) ?_ 14 _ rfl; (with_reducible repeat (first | refine blk_drewN ?_ _ | refine blk_drew ?_ | refine blk_alloc ?_ _)); exact dA.out) iM.out⟩; have ex : Aside0 (oL.heap[eu]? = some (.cells #[.string jI, .int .i64 jJ, .int .i64 iA, .bool iB] 60 (0, 0))) := ⟨sS_.blk (by (with_reducible repeat (first | refine blk_drewN ?_ _ | refine blk_drew ?_ | refine blk_alloc ?_ _)); refine blk_far ?_ ha.out _; (with_reducible repeat (first | refine blk_drewN ?_ _ | refine blk_drew ?_ | refine blk_alloc ?_ _)); exact eE.out) iN.out⟩; have hP : Aside0 (Below w.heap.size w oL) := ⟨sS_.below Z32 bm.out⟩; clear hbS_ sS_; replace dY := bY; replace ae := ca; replace dA := cZ; replace eE := ex; replace HB := hP; clear bY ca cZ ex hP))
           refine bodyPost_ret (results_ctt rfl _ _ ag 25 #[.int .i64 4, .int .i64 0, .int .i64 0, .string ⟨#[]⟩, .int .i64 0, .int .i64 0, .string ⟨#[]⟩, .int .i64 (wrap64 (bt a0 2)), .int .i64 0, .string ⟨#[]⟩, .int .i64 0, .string ⟨#[]⟩, .int .i64 fN, .int .i64 0, .int .i64 iC, .int .i64 (wrap64 ((bt a0 1) / 64)), .int .i64 (wrap64 (bt a0 3)), .int .i64 0, .int .i64 0, .string fq, .string gn, .slice none 0 0, .int .i64 0, .string ⟨#[]⟩, .slice gq dX.length gr] (0, 0) _ rfl Z2 Try.underlying25 rfl Z14) rfl ?_
           exact ⟨_, _, Z5, Z13, Z69, Z32⟩
          ·rw [if_neg iG] at H
           exact absurd H Z71
         ·rw [if_neg eb] at H
          have lf : (fh == 0) = false := beq_eq_false_iff_ne.mpr eb
          have lg : (fh != 0) = true := bne_iff_ne.mpr eb
          simp only [Option.some.injEq, Prod.mk.injEq] at H
          obtain ⟨rfl, rfl, rfl, rfl, rfl, rfl, rfl, rfl, rfl, rfl, rfl, rfl, rfl, rfl, rfl, rfl, rfl, rfl, rfl, rfl, rfl, rfl, rfl, rfl, rfl, rfl, rfl⟩ := H
          try go_wp2_with (first | ((with_reducible refine gate_dst (N := 62) rfl ?_); refine Pre.build_event 62 25 [(0, Go.Operand.const (Go.Value.int Go.IntKind.i64 4)), (15, Go.Operand.tmp 54), (7, Go.Operand.tmp 57), (16, Go.Operand.tmp 60), (24, Go.Operand.tmp 61)] rfl rfl rfl (rrep_Get.bd62 _ _ _ _ _ _ _) ?_) | ((with_reducible refine Pre.gate_load 25 rfl ?_); (try (refine gate_guard Z23 ?_; dsimp only)); refine Pre.load_event rfl rfl rfl Z23 Z11 Try.underlying25 rfl Z14 ?_))
          have bY := Aside0.mk (blk_drew ae.out)
          have ca := Aside0.mk (below_drew1 HB.out)
          clear ae
          clear HB
          have ae := bY
          have HB := ca
          clear bY ca
          have p18 : 0 ≤ (1 : Int) := Z40
          have q18 : 1 < a0.size := (by have : (1 : Int) < (a0.size : Int) := of_decide_eq_true Z6; omega)
          have hx18 : ∀ h : 1 < a0.size, ((a0[1]'h).toNat : Int) = bt a0 1 := bt_at a0 1
          clear p18
          have qi18 : (1 < (a0.size : Int)) = True := eq_true (of_decide_eq_true Z6)
          replace q18 := eq_true q18
          have p20 : 0 ≤ (2 : Int) := Z40
          have q20 : 2 < a0.size := (by have : (2 : Int) < (a0.size : Int) := of_decide_eq_true Z6; omega)
          have hx20 : ∀ h : 2 < a0.size, ((a0[2]'h).toNat : Int) = bt a0 2 := bt_at a0 2
          clear p20
          have qi20 : (2 < (a0.size : Int)) = True := eq_true (of_decide_eq_true Z6)
          replace q20 := eq_true q20
          refine start_ (n := 8) (S := fun w' => True) (ds := []) (Sq.b 8 0) Z14 rfl rfl trivial (fun hHeld => ?_); refine with_tabW rrep_Get.tab5 rrep_Get.bits5 (fun HT_ HW_ => ?_)
          generalize wc.drew = w86 at ae HB hHeld ⊢
          refine Sq.pur 0 (some 29) (Sq.b 8 1) HT_.out ?_
          refine Sq.pur 3 (some 32) (Sq.b 8 9) HT_.out ?_
          refine Sq.tak 1 (some 30) (Sq.b 8 11) HT_.out HW_.out hHeld (v := ?_) (a' := ?_) ?_ ?_ ?_
          rotate_left
          ·intro w' _
           go_simp
           with_reducible rfl
          rotate_left
          ·simp only [Act.put, Sq.s1, Sq.s2, Sq.s3, i64_w, i32_w]
           rfl
          refine Sq.pur 2 (some 31) (Sq.b 8 15) HT_.out ?_
          refine Sq.tak 4 (some 33) (Sq.b 8 31) HT_.out HW_.out hHeld (v := ?_) (a' := ?_) ?_ ?_ ?_
          rotate_left
          ·intro w' _
           go_simp
           with_reducible rfl
          rotate_left
          ·simp only [Act.put, Sq.s1, Sq.s2, Sq.s3, i64_w, i32_w]
           rfl
          refine Sq.pur 5 (some 34) (Sq.b 8 63) HT_.out ?_
          refine Sq.pur 6 (some 35) (Sq.b 8 127) HT_.out ?_
          refine Sq.pur 7 (some 36) (Sq.b 8 255) HT_.out ?_
          refine done_ (done_of HT_.out Z14) ?_
          try go_wp2_with (first | ((with_reducible refine gate_dst (N := 62) rfl ?_); refine Pre.build_event 62 25 [(0, Go.Operand.const (Go.Value.int Go.IntKind.i64 4)), (15, Go.Operand.tmp 54), (7, Go.Operand.tmp 57), (16, Go.Operand.tmp 60), (24, Go.Operand.tmp 61)] rfl rfl rfl (rrep_Get.bd62 _ _ _ _ _ _ _) ?_) | ((with_reducible refine Pre.gate_load 25 rfl ?_); (try (refine gate_guard Z23 ?_; dsimp only)); refine Pre.load_event rfl rfl rfl Z23 Z11 Try.underlying25 rfl Z14 ?_) | ((with_reducible refine gate_callee (f := 59) rfl ?_); refine goesL_ (some 41) rfl rfl Try.func59 Z14 rfl #[.string (a0.extract 20 a0.size)] rfl Z4 ?_; (with_reducible refine (ext_Get.calls kj1 (a0.extract 20 a0.size) dX gl fh _ mm.out).mono ?_); rintro e sw ⟨rI, rfl, ho0, hb⟩; refine ⟨_, rfl, ?_⟩; have dY := Aside0.mk (Kd.R_lower ho0 (below_size Z0)); replace ae := Aside0.mk (blk_below (g := ag) Z2 hb); replace HB := Aside0.mk (below_step Z0 hb); clear hb ho0; have hcz88 := cells_25 ae.out) | ((with_reducible refine Pre.gate_store 25 rfl ?_); refine Pre.store_abs (cur := #[.int .i64 0, .int .i64 0, .int .i64 0, .string ⟨#[]⟩, .int .i64 0, .int .i64 0, .string ⟨#[]⟩, .int .i64 0, .int .i64 0, .string ⟨#[]⟩, .int .i64 0, .string ⟨#[]⟩, .int .i64 0, .int .i64 0, .int .i64 0, .int .i64 0, .int .i64 0, .int .i64 0, .int .i64 0, .string ⟨#[]⟩, .string ⟨#[]⟩, .slice none 0 0, .int .i64 0, .string ⟨#[]⟩, .slice none 0 0]) (e := 25) rfl rfl rfl Z23 Z23 Z2 Z14 Z23 Z23 ?_; intro sN hbS_ sS_; have bY : Aside0 (Kd.R k48 48 sN w.heap.size (fun _ => True) rI dX) := ⟨Kd.R_mono (Pre.R_sets sS_ (Kd.R_types dY.out ae.out Z29) (fun _ hk => hk.2)) (fun _ hk => trivial)⟩; have ca : Aside0 (sN.heap[ag]? = some (.cells #[.int .i64 0, .int .i64 0, .int .i64 0, .string ⟨#[]⟩, .int .i64 0, .int .i64 0, .string ⟨#[]⟩, .int .i64 0, .int .i64 0, .string ⟨#[]⟩, .int .i64 0, .string ⟨#[]⟩, .int .i64 0, .int .i64 0, .int .i64 0, .int .i64 0, .int .i64 0, .int .i64 0, .int .i64 0, .string ⟨#[]⟩, .string ⟨#[]⟩, .slice none 0 0, .int .i64 0, .string ⟨#[]⟩, .slice none 0 0] 25 (0, 0))) := ⟨hbS_⟩; have cZ : Aside0 (Below w.heap.size w sN) := ⟨sS_.below Z0 bm.out⟩; clear hbS_ sS_; replace dY := bY; replace ae := ca; replace HB := cZ; clear bY ca cZ))
          refine bodyPost_ret (results_ctt rfl _ _ ag 25 #[.int .i64 0, .int .i64 0, .int .i64 0, .string ⟨#[]⟩, .int .i64 0, .int .i64 0, .string ⟨#[]⟩, .int .i64 0, .int .i64 0, .string ⟨#[]⟩, .int .i64 0, .string ⟨#[]⟩, .int .i64 0, .int .i64 0, .int .i64 0, .int .i64 0, .int .i64 0, .int .i64 0, .int .i64 0, .string ⟨#[]⟩, .string ⟨#[]⟩, .slice none 0 0, .int .i64 0, .string ⟨#[]⟩, .slice none 0 0] (0, 0) _ rfl Z2 Try.underlying25 rfl Z14) rfl ?_
          exact ⟨_, _, Z5, Z13, Z24, Z0⟩
        ·rw [if_neg hv] at H
         exact absurd H Z71
       ·rw [if_neg eL] at H
        have rC : ((Go.bits .or .u8 (Go.bits .and .u8 (bt a0 1) 63) (Go.bits .and .u8 (bt a0 2) 224)) == 0) = false := beq_eq_false_iff_ne.mpr eL
        have rD : ((Go.bits .or .u8 (Go.bits .and .u8 (bt a0 1) 63) (Go.bits .and .u8 (bt a0 2) 224)) != 0) = true := bne_iff_ne.mpr eL
        simp only [Option.some.injEq, Prod.mk.injEq] at H
        obtain ⟨rfl, rfl, rfl, rfl, rfl, rfl, rfl, rfl, rfl, rfl, rfl, rfl, rfl, rfl, rfl, rfl, rfl, rfl, rfl, rfl, rfl, rfl, rfl, rfl, rfl, rfl, rfl⟩ := H
        try go_wp2_with (first | ((with_reducible refine gate_dst (N := 62) rfl ?_); refine Pre.build_event 62 25 [(0, Go.Operand.const (Go.Value.int Go.IntKind.i64 4)), (15, Go.Operand.tmp 54), (7, Go.Operand.tmp 57), (16, Go.Operand.tmp 60), (24, Go.Operand.tmp 61)] rfl rfl rfl (rrep_Get.bd62 _ _ _ _ _ _ _) ?_) | ((with_reducible refine Pre.gate_load 25 rfl ?_); (try (refine gate_guard Z23 ?_; dsimp only)); refine Pre.load_event rfl rfl rfl Z23 Z11 Try.underlying25 rfl Z14 ?_))
        have bY := Aside0.mk (blk_drew ae.out)
        have ca := Aside0.mk (below_drew1 HB.out)
        clear ae
        clear HB
        have ae := bY
        have HB := ca
        clear bY ca
        have p18 : 0 ≤ (1 : Int) := Z40
        have q18 : 1 < a0.size := (by have : (1 : Int) < (a0.size : Int) := of_decide_eq_true Z6; omega)
        have hx18 : ∀ h : 1 < a0.size, ((a0[1]'h).toNat : Int) = bt a0 1 := bt_at a0 1
        clear p18
        have qi18 : (1 < (a0.size : Int)) = True := eq_true (of_decide_eq_true Z6)
        replace q18 := eq_true q18
        have p20 : 0 ≤ (2 : Int) := Z40
        have q20 : 2 < a0.size := (by have : (2 : Int) < (a0.size : Int) := of_decide_eq_true Z6; omega)
        have hx20 : ∀ h : 2 < a0.size, ((a0[2]'h).toNat : Int) = bt a0 2 := bt_at a0 2
        clear p20
        have qi20 : (2 < (a0.size : Int)) = True := eq_true (of_decide_eq_true Z6)
        replace q20 := eq_true q20
        refine start_ (n := 8) (S := fun w' => True) (ds := []) (Sq.b 8 0) Z14 rfl rfl trivial (fun hHeld => ?_); refine with_tabW rrep_Get.tab5 rrep_Get.bits5 (fun HT_ HW_ => ?_)
        generalize wc.drew = w90 at ae HB hHeld ⊢
        refine Sq.pur 0 (some 29) (Sq.b 8 1) HT_.out ?_
        refine Sq.pur 3 (some 32) (Sq.b 8 9) HT_.out ?_
        refine Sq.tak 1 (some 30) (Sq.b 8 11) HT_.out HW_.out hHeld (v := ?_) (a' := ?_) ?_ ?_ ?_
        rotate_left
        ·intro w' _
         go_simp
         with_reducible rfl
        rotate_left
        ·simp only [Act.put, Sq.s1, Sq.s2, Sq.s3, i64_w, i32_w]
         rfl
        refine Sq.pur 2 (some 31) (Sq.b 8 15) HT_.out ?_
        refine Sq.tak 4 (some 33) (Sq.b 8 31) HT_.out HW_.out hHeld (v := ?_) (a' := ?_) ?_ ?_ ?_
        rotate_left
        ·intro w' _
         go_simp
         with_reducible rfl
        rotate_left
        ·simp only [Act.put, Sq.s1, Sq.s2, Sq.s3, i64_w, i32_w]
         rfl
        refine Sq.pur 5 (some 34) (Sq.b 8 63) HT_.out ?_
        refine Sq.pur 6 (some 35) (Sq.b 8 127) HT_.out ?_
        refine Sq.pur 7 (some 36) (Sq.b 8 255) HT_.out ?_
        refine done_ (done_of HT_.out Z14) ?_
        have hcz91 := cells_25 ae.out
        try go_wp2_with (first | ((with_reducible refine gate_dst (N := 62) rfl ?_); refine Pre.build_event 62 25 [(0, Go.Operand.const (Go.Value.int Go.IntKind.i64 4)), (15, Go.Operand.tmp 54), (7, Go.Operand.tmp 57), (16, Go.Operand.tmp 60), (24, Go.Operand.tmp 61)] rfl rfl rfl (rrep_Get.bd62 _ _ _ _ _ _ _) ?_) | ((with_reducible refine Pre.gate_load 25 rfl ?_); (try (refine gate_guard Z23 ?_; dsimp only)); refine Pre.load_event rfl rfl rfl Z23 Z11 Try.underlying25 rfl Z14 ?_) | ((with_reducible refine Pre.gate_store 25 rfl ?_); refine Pre.store_abs (cur := #[.int .i64 0, .int .i64 0, .int .i64 0, .string ⟨#[]⟩, .int .i64 0, .int .i64 0, .string ⟨#[]⟩, .int .i64 0, .int .i64 0, .string ⟨#[]⟩, .int .i64 0, .string ⟨#[]⟩, .int .i64 0, .int .i64 0, .int .i64 0, .int .i64 0, .int .i64 0, .int .i64 0, .int .i64 0, .string ⟨#[]⟩, .string ⟨#[]⟩, .slice none 0 0, .int .i64 0, .string ⟨#[]⟩, .slice none 0 0]) (e := 25) rfl rfl rfl Z23 Z23 Z2 Z14 Z23 Z23 ?_; intro tK hbS_ sS_; have bY : Aside0 (tK.heap[ag]? = some (.cells #[.int .i64 0, .int .i64 0, .int .i64 0, .string ⟨#[]⟩, .int .i64 0, .int .i64 0, .string ⟨#[]⟩, .int .i64 0, .int .i64 0, .string ⟨#[]⟩, .int .i64 0, .string ⟨#[]⟩, .int .i64 0, .int .i64 0, .int .i64 0, .int .i64 0, .int .i64 0, .int .i64 0, .int .i64 0, .string ⟨#[]⟩, .string ⟨#[]⟩, .slice none 0 0, .int .i64 0, .string ⟨#[]⟩, .slice none 0 0] 25 (0, 0))) := ⟨hbS_⟩; have ca : Aside0 (Below w.heap.size w tK) := ⟨sS_.below Z0 bm.out⟩; clear hbS_ sS_; replace ae := bY; replace HB := ca; clear bY ca))
        refine bodyPost_ret (results_ctt rfl _ _ ag 25 #[.int .i64 0, .int .i64 0, .int .i64 0, .string ⟨#[]⟩, .int .i64 0, .int .i64 0, .string ⟨#[]⟩, .int .i64 0, .int .i64 0, .string ⟨#[]⟩, .int .i64 0, .string ⟨#[]⟩, .int .i64 0, .int .i64 0, .int .i64 0, .int .i64 0, .int .i64 0, .int .i64 0, .int .i64 0, .string ⟨#[]⟩, .string ⟨#[]⟩, .slice none 0 0, .int .i64 0, .string ⟨#[]⟩, .slice none 0 0] (0, 0) _ rfl Z2 Try.underlying25 rfl Z14) rfl ?_
        exact ⟨_, _, Z5, Z13, Z24, Z0⟩
      ·rw [if_neg hA] at H
       exact absurd H Z71
     ·rw [if_neg hR] at H
      exact absurd H Z71

end Go.Proofs.Ytccjakjjaemmkaa.PAB
