-- Written by mp.py, a program of this work (wip/tools), out of the translation; Lean checks it.
import Derived.Test.YtccjakjjaemmkaaPAPxZ
import Derived.Test.YtccjakjjaemmkaaPAPxcursor
import Derived.Test.YtccjakjjaemmkaaPAPxext
import Derived.Test.YtccjakjjaemmkaaPAPxrrep
import Derived.Test.YtccjakjjaemmkaaAbs
namespace Go.Proofs.Ytccjakjjaemmkaa.PAP
open Go.RowKit Go.Proofs.YtccjakjjaemmkaaW.PrintWords Go.Proofs.YtccjakjjaemmkaaW.PrintLast Go.Proofs.YtccjakjjaemmkaaW.PrintMore
attribute [local go_sem] max2_int min2_int max_two min_two max_three min_three max_four min_four   -- for this text's walks alone
set_option linter.unusedVariables false
set_option linter.unusedSimpArgs false

/-! ### rrep_Get: function 38 -/
def rrep_Get.j0 : Nat → ByteArray → Bool → Option (Int × Int × Int × ByteArray × Int × Int × ByteArray × Int × Int × ByteArray × Int × ByteArray × Int × Int × Int × Int × Int × Int × Int × ByteArray × ByteArray × (List (S46)) × Int × ByteArray × (List (S48)) × Int × Int)
 | 0, _, _ => none
 | k + 1, x0, uv => if uv = true then ((rrep_ack.f k x0).bind fun aE => (some (aE.1, aE.2.1, aE.2.2.1, aE.2.2.2.1, aE.2.2.2.2.1, aE.2.2.2.2.2.1, aE.2.2.2.2.2.2.1, aE.2.2.2.2.2.2.2.1, aE.2.2.2.2.2.2.2.2.1, aE.2.2.2.2.2.2.2.2.2.1, aE.2.2.2.2.2.2.2.2.2.2.1, aE.2.2.2.2.2.2.2.2.2.2.2.1, aE.2.2.2.2.2.2.2.2.2.2.2.2.1, aE.2.2.2.2.2.2.2.2.2.2.2.2.2.1, aE.2.2.2.2.2.2.2.2.2.2.2.2.2.2.1, aE.2.2.2.2.2.2.2.2.2.2.2.2.2.2.2.1, aE.2.2.2.2.2.2.2.2.2.2.2.2.2.2.2.2.1, aE.2.2.2.2.2.2.2.2.2.2.2.2.2.2.2.2.2.1, aE.2.2.2.2.2.2.2.2.2.2.2.2.2.2.2.2.2.2.1, aE.2.2.2.2.2.2.2.2.2.2.2.2.2.2.2.2.2.2.2.1, aE.2.2.2.2.2.2.2.2.2.2.2.2.2.2.2.2.2.2.2.2.1, aE.2.2.2.2.2.2.2.2.2.2.2.2.2.2.2.2.2.2.2.2.2.1, aE.2.2.2.2.2.2.2.2.2.2.2.2.2.2.2.2.2.2.2.2.2.2.1, aE.2.2.2.2.2.2.2.2.2.2.2.2.2.2.2.2.2.2.2.2.2.2.2.1, aE.2.2.2.2.2.2.2.2.2.2.2.2.2.2.2.2.2.2.2.2.2.2.2.2.1, aE.2.2.2.2.2.2.2.2.2.2.2.2.2.2.2.2.2.2.2.2.2.2.2.2.2.1, aE.2.2.2.2.2.2.2.2.2.2.2.2.2.2.2.2.2.2.2.2.2.2.2.2.2.2))) else (if (x0.size : Int) < 20 then (some (0, 0, 0, (⟨#[]⟩ : ByteArray), 0, 0, (⟨#[]⟩ : ByteArray), 0, 0, (⟨#[]⟩ : ByteArray), 0, (⟨#[]⟩ : ByteArray), 0, 0, 0, 0, 0, 0, 0, (⟨#[]⟩ : ByteArray), (⟨#[]⟩ : ByteArray), ([] : List (S46)), 0, (⟨#[]⟩ : ByteArray), ([] : List (S48)), (x0.size : Int), 2)) else (if 1 < (x0.size : Int) then (if 2 < (x0.size : Int) then (if (Go.bits .or .u8 (Go.bits .and .u8 (bt x0 1) 63) (Go.bits .and .u8 (bt x0 2) 224)) = 0 then (if 20 ≤ (x0.size : Int) then ((ext_Get.f k (x0.extract 20 x0.size)).bind fun aK => (if aK.2.2 = 0 then (if 3 < (x0.size : Int) then ((cursor_New.f x0).bind fun fx => ((cursor_Text.f fx.1 fx.2.1 fx.2.2.1 fx.2.2.2 4).bind fun eM => ((cursor_Text.f eM.2.1 eM.2.2.1 eM.2.2.2.1 eM.2.2.2.2 4).bind fun dR => ((cursor_Num.f dR.2.1 dR.2.2.1 dR.2.2.2.1 dR.2.2.2.2 4).bind fun df => ((cursor_Text.f df.2.1 df.2.2.1 df.2.2.2.1 df.2.2.2.2 4).bind fun cp => ((cursor_Num.f cp.2.1 cp.2.2.1 cp.2.2.2.1 cp.2.2.2.2 4).bind fun aY => (some (4, 0, 0, (⟨#[]⟩ : ByteArray), 0, 0, (⟨#[]⟩ : ByteArray), wrap64 (bt x0 2), 0, (⟨#[]⟩ : ByteArray), 0, (⟨#[]⟩ : ByteArray), df.1, 0, aY.1, wrap64 ((bt x0 1) / 64), wrap64 (bt x0 3), 0, 0, dR.1, cp.1, ([] : List (S46)), 0, (⟨#[]⟩ : ByteArray), aK.1, 0, 0)))))))) else (none)) else (some (0, 0, 0, (⟨#[]⟩ : ByteArray), 0, 0, (⟨#[]⟩ : ByteArray), 0, 0, (⟨#[]⟩ : ByteArray), 0, (⟨#[]⟩ : ByteArray), 0, 0, 0, 0, 0, 0, 0, (⟨#[]⟩ : ByteArray), (⟨#[]⟩ : ByteArray), ([] : List (S46)), 0, (⟨#[]⟩ : ByteArray), ([] : List (S48)), wrap64 (aK.2.1 + 20), aK.2.2)))) else (none)) else (some (0, 0, 0, (⟨#[]⟩ : ByteArray), 0, 0, (⟨#[]⟩ : ByteArray), 0, 0, (⟨#[]⟩ : ByteArray), 0, (⟨#[]⟩ : ByteArray), 0, 0, 0, 0, 0, 0, 0, (⟨#[]⟩ : ByteArray), (⟨#[]⟩ : ByteArray), ([] : List (S46)), 0, (⟨#[]⟩ : ByteArray), ([] : List (S48)), 1, 5))) else (none)) else (none)))
def rrep_Get.f (k : Nat) (a0 : ByteArray) : Option (Int × Int × Int × ByteArray × Int × Int × ByteArray × Int × Int × ByteArray × Int × ByteArray × Int × Int × Int × Int × Int × Int × Int × ByteArray × ByteArray × (List (S46)) × Int × ByteArray × (List (S48)) × Int × Int) := if a0.toList = ([] : List UInt8) then (rrep_Get.j0 k a0 false) else (if 0 < (a0.size : Int) then (rrep_Get.j0 k a0 ((bt a0 0) == 4)) else (none))
theorem rrep_Get.mono_l : ∀ k, (∀ y0 y1, LeO (rrep_Get.j0 k y0 y1) (rrep_Get.j0 (k + 1) y0 y1))
 | 0 => fun _ _ r h => by simp [rrep_Get.j0] at h
 | k + 1 => by
  have ih0 := rrep_Get.mono_l k
  ·intro y0 y1
   unfold rrep_Get.j0
   repeat' first
   | (with_reducible exact ih0 _ _)
   | (with_reducible exact ext_Get.mono _ _)
   | (with_reducible exact rrep_ack.mono _ _)
   | (with_reducible exact LeO.refl _)
   | (with_reducible exact LeO.none _)
   | (with_reducible refine LeO.ite ?_ ?_)
   | (with_reducible refine LeO.bind ?_ (fun _ => ?_))
   | exact ih0 _ _
   | exact ext_Get.mono _ _
   | exact rrep_ack.mono _ _
   | exact LeO.none _
   | refine LeO.ite ?_ ?_
   | refine LeO.bind ?_ (fun _ => ?_)
theorem rrep_Get.mono : ∀ a0 k, LeO (rrep_Get.f k a0) (rrep_Get.f (k + 1) a0) := by
 intro a0 k
 have ih0 := rrep_Get.mono_l k
 unfold rrep_Get.f
 repeat' first
   | (with_reducible exact ih0 _ _)
   | (with_reducible exact ext_Get.mono _ _)
   | (with_reducible exact rrep_ack.mono _ _)
   | (with_reducible exact LeO.refl _)
   | (with_reducible exact LeO.none _)
   | (with_reducible refine LeO.ite ?_ ?_)
   | (with_reducible refine LeO.bind ?_ (fun _ => ?_))
   | exact ih0 _ _
   | exact ext_Get.mono _ _
   | exact rrep_ack.mono _ _
   | exact LeO.none _
   | refine LeO.ite ?_ ?_
   | refine LeO.bind ?_ (fun _ => ?_)
def rrep_Get.T5 : Bool × List (List Nat × List Nat) := (true, [([], []), ([0], [0]), ([1], [1]), ([], []), ([3], [3]), ([4], [4]), ([2, 5], [2, 5]), ([6], [6])])
def rrep_Get.B5 : List Nat := [0, 1, 3, 0, 8, 24, 63, 127]
theorem rrep_Get.tab5 : rtab .any (opsOf Try.f38 5) = rrep_Get.T5 := by kernel_rfl
theorem rrep_Get.bits5 : waitsOk rrep_Get.T5.2 rrep_Get.B5 = true := by kernel_rfl
def rrep_Get.T10 : Bool × List (List Nat × List Nat) := (true, [([], []), ([0], [0]), ([1], [1]), ([2], [2]), ([], []), ([4], [4]), ([5], [5]), ([], []), ([7], [7]), ([8], [8]), ([], []), ([3, 6, 9, 10], [3, 6, 9, 10]), ([], []), ([12, 11, 0, 1, 2, 3, 4, 5, 6, 7, 8, 9, 10, 11, 12], [11, 12])])
def rrep_Get.B10 : List Nat := [0, 1, 3, 7, 0, 16, 48, 0, 128, 384, 0, 2047, 0, 8191]
theorem rrep_Get.tab10 : rtab .any (opsOf Try.f38 10) = rrep_Get.T10 := by kernel_rfl
theorem rrep_Get.bits10 : waitsOk rrep_Get.T10.2 rrep_Get.B10 = true := by kernel_rfl
set_option maxRecDepth 100000 in
theorem rrep_Get.bd62 (v0 : Int) (ig : Int) (v7 : Int) (iF : Int) (eW : Option Addr) (n24 dP : Nat) : Try.prog.built 25 [(0, .int .i64 v0), (15, .int .i64 ig), (7, .int .i64 v7), (16, .int .i64 iF), (24, .slice eW n24 dP)] = some #[.int .i64 v0, .int .i64 0, .int .i64 0, .string ⟨#[]⟩, .int .i64 0, .int .i64 0, .string ⟨#[]⟩, .int .i64 v7, .int .i64 0, .string ⟨#[]⟩, .int .i64 0, .string ⟨#[]⟩, .int .i64 0, .int .i64 0, .int .i64 0, .int .i64 ig, .int .i64 iF, .int .i64 0, .int .i64 0, .string ⟨#[]⟩, .string ⟨#[]⟩, .slice none 0 0, .int .i64 0, .string ⟨#[]⟩, .slice eW n24 dP] := by kernel_rfl
set_option maxHeartbeats 8000000 in
set_option maxRecDepth 100000 in
theorem rrep_Get.calls (k : Nat) (a0 : ByteArray) (r1 : Int) (r2 : Int) (r3 : Int) (r4 : ByteArray) (r5 : Int) (r6 : Int) (r7 : ByteArray) (r8 : Int) (r9 : Int) (r10 : ByteArray) (r11 : Int) (r12 : ByteArray) (r13 : Int) (r14 : Int) (r15 : Int) (r16 : Int) (r17 : Int) (r18 : Int) (r19 : Int) (r20 : ByteArray) (r21 : ByteArray) (r22 : List (S46)) (r23 : Int) (r24 : ByteArray) (r25 : List (S48)) (r26 : Int) (r27 : Int) (w : World) (h : rrep_Get.f k a0 = some (r1, r2, r3, r4, r5, r6, r7, r8, r9, r10, r11, r12, r13, r14, r15, r16, r17, r18, r19, r20, r21, r22, r23, r24, r25, r26, r27)) :
  Calls Try.prog 38 #[.string a0] w fun e w' => ∃ v21_ v24_ : Value, e = .returned (.tuple #[.agg #[.int .i64 r1, .int .i64 r2, .int .i64 r3, .string r4, .int .i64 r5, .int .i64 r6, .string r7, .int .i64 r8, .int .i64 r9, .string r10, .int .i64 r11, .string r12, .int .i64 r13, .int .i64 r14, .int .i64 r15, .int .i64 r16, .int .i64 r17, .int .i64 r18, .int .i64 r19, .string r20, .string r21, v21_, .int .i64 r23, .string r24, v24_], .int .i64 r26, .int .i64 r27]) ∧ Kd.R k46 46 w' w.heap.size (fun _ => True) v21_ r22 ∧ Kd.R k48 48 w' w.heap.size (fun _ => True) v24_ r25 ∧ Below w.heap.size w w' := by
 have fn := Try.underlying25
 have ju := Try.underlying60
 have HB := Aside0.mk (Below.refl w.heap.size w)
 have H : (if a0.toList = ([] : List UInt8) then (rrep_Get.j0 k a0 false) else (if 0 < (a0.size : Int) then (rrep_Get.j0 k a0 ((bt a0 0) == 4)) else (none))) = some (r1, r2, r3, r4, r5, r6, r7, r8, r9, r10, r11, r12, r13, r14, r15, r16, r17, r18, r19, r20, r21, r22, r23, r24, r25, r26, r27) := h
 clear h
 have jO := Aside0.mk H
 clear H
 go_enter Try.func38, Try.ntmps38
 go_upto_region 1 with (first | ((with_reducible refine gate_dst (N := 62) rfl ?_); refine Pre.build_event 62 25 [(0, Go.Operand.const (Go.Value.int Go.IntKind.i64 4)), (15, Go.Operand.tmp 54), (7, Go.Operand.tmp 57), (16, Go.Operand.tmp 60), (24, Go.Operand.tmp 61)] rfl rfl rfl (rrep_Get.bd62 _ _ _ _ _ _ _) ?_) | ((with_reducible refine Pre.gate_load 25 rfl ?_); (try (refine gate_guard Z22 ?_; dsimp only)); refine Pre.load_event rfl rfl rfl Z22 Z13 Try.underlying25 rfl Z14 ?_) | ((with_reducible refine gate_dst (N := 2) rfl ?_); refine Sq.box 2 #[.int .i64 0, .int .i64 0, .int .i64 0, .string ⟨#[]⟩, .int .i64 0, .int .i64 0, .string ⟨#[]⟩, .int .i64 0, .int .i64 0, .string ⟨#[]⟩, .int .i64 0, .string ⟨#[]⟩, .int .i64 0, .int .i64 0, .int .i64 0, .int .i64 0, .int .i64 0, .int .i64 0, .int .i64 0, .string ⟨#[]⟩, .string ⟨#[]⟩, .slice none 0 0, .int .i64 0, .string ⟨#[]⟩, .slice none 0 0] 25 ?_; intro ab hg w3 hbox hb; have aa := Aside0.mk (hbox); have bR := Aside0.mk (Sq.ge hg Z1); have bf := Aside0.mk (Sq.ge hg Z1); replace HB := Aside0.mk (below_step Z1 hb); clear hb hbox hg))
 (try simp only [Act.put, Sq.s1, Sq.s2, Sq.s3])
 go_cut [17] (fun lP wc => ∃ (kq : Nat) (lw : Bool), lP = .bool lw ∧ Aside0 (rrep_Get.j0 kq a0 lw = some (r1, r2, r3, r4, r5, r6, r7, r8, r9, r10, r11, r12, r13, r14, r15, r16, r17, r18, r19, r20, r21, r22, r23, r24, r25, r26, r27)) ∧ Aside0 (kq ≤ k) ∧ Aside0 (wc.heap[ab]? = some (.cells #[.int .i64 0, .int .i64 0, .int .i64 0, .string ⟨#[]⟩, .int .i64 0, .int .i64 0, .string ⟨#[]⟩, .int .i64 0, .int .i64 0, .string ⟨#[]⟩, .int .i64 0, .string ⟨#[]⟩, .int .i64 0, .int .i64 0, .int .i64 0, .int .i64 0, .int .i64 0, .int .i64 0, .int .i64 0, .string ⟨#[]⟩, .string ⟨#[]⟩, (.slice none 0 0), .int .i64 0, .string ⟨#[]⟩, (.slice none 0 0)] 25 (0, 0))) ∧ Aside0 (Below w.heap.size w wc))
 case first =>
  have H := jO.out
  clear jO
  by_cases c4 : a0.toList = ([] : List UInt8)
  ·rw [if_pos c4] at H
   have dL : (a0.toList == ([] : List UInt8)) = true := beq_iff_eq.mpr c4
   have gh : (a0.toList != ([] : List UInt8)) = false := bne_eq_false_iff_eq.mpr c4
   clear c4
   (first | rw [dL] | (simp only [i64_w, i32_w]; rw [dL]) | skip)
   have H' := Aside0.mk H
   clear H
   go_wp2_with (first | ((with_reducible refine gate_dst (N := 62) rfl ?_); refine Pre.build_event 62 25 [(0, Go.Operand.const (Go.Value.int Go.IntKind.i64 4)), (15, Go.Operand.tmp 54), (7, Go.Operand.tmp 57), (16, Go.Operand.tmp 60), (24, Go.Operand.tmp 61)] rfl rfl rfl (rrep_Get.bd62 _ _ _ _ _ _ _) ?_) | ((with_reducible refine Pre.gate_load 25 rfl ?_); (try (refine gate_guard Z22 ?_; dsimp only)); refine Pre.load_event rfl rfl rfl Z22 Z13 Try.underlying25 rfl Z14 ?_))
   go_meet
   case rel => exact ⟨_, (false), Z17, H', ⟨Z43⟩, ⟨Z2⟩, ⟨Z0⟩⟩
  ·rw [if_neg c4] at H
   have dL : (a0.toList == ([] : List UInt8)) = false := beq_eq_false_iff_ne.mpr c4
   have gh : (a0.toList != ([] : List UInt8)) = true := bne_iff_ne.mpr c4
   (first | rw [dL] | (simp only [i64_w, i32_w]; rw [dL]) | skip)
   by_cases c5 : 0 < (a0.size : Int)
   ·rw [if_pos c5] at H
    have fg : decide (0 < (a0.size : Int)) = true := decide_eq_true c5
    have im : decide (0 < a0.size) = true := decide_eq_true Z34
    clear c5
    have H' := Aside0.mk H
    clear H
    have p6 : 0 ≤ (0 : Int) := Z34
    have q6 : 0 < a0.size := (by have : (0 : Int) < (a0.size : Int) := of_decide_eq_true Z6; omega)
    have hx6 : ∀ h : 0 < a0.size, ((a0[0]'h).toNat : Int) = bt a0 0 := bt_at a0 0
    clear p6
    have qi6 : (0 < (a0.size : Int)) = True := eq_true (of_decide_eq_true Z6)
    replace q6 := eq_true q6
    go_wp2_with (first | ((with_reducible refine gate_dst (N := 62) rfl ?_); refine Pre.build_event 62 25 [(0, Go.Operand.const (Go.Value.int Go.IntKind.i64 4)), (15, Go.Operand.tmp 54), (7, Go.Operand.tmp 57), (16, Go.Operand.tmp 60), (24, Go.Operand.tmp 61)] rfl rfl rfl (rrep_Get.bd62 _ _ _ _ _ _ _) ?_) | ((with_reducible refine Pre.gate_load 25 rfl ?_); (try (refine gate_guard Z22 ?_; dsimp only)); refine Pre.load_event rfl rfl rfl Z22 Z13 Try.underlying25 rfl Z14 ?_))
    go_meet
    case rel => exact ⟨_, (((bt a0 0) == 4)), Z17, H', ⟨Z43⟩, ⟨Z2⟩, ⟨Z0⟩⟩
   ·rw [if_neg c5] at H
    exact absurd H Z59
 case rest =>
  clear jO
  try clear c3
  obtain ⟨kq, lw, rfl, HA, mv, aa, HB⟩ := hcut
  cases kq with
  | zero => exact absurd HA.out (by simp [rrep_Get.j0])
  | succ kj1 =>
   have H := HA.out
   clear HA
   simp only [rrep_Get.j0] at H
   by_cases c7 : lw = true
   ·subst c7
    have H1 : ((rrep_ack.f kj1 a0).bind fun aE => (some (aE.1, aE.2.1, aE.2.2.1, aE.2.2.2.1, aE.2.2.2.2.1, aE.2.2.2.2.2.1, aE.2.2.2.2.2.2.1, aE.2.2.2.2.2.2.2.1, aE.2.2.2.2.2.2.2.2.1, aE.2.2.2.2.2.2.2.2.2.1, aE.2.2.2.2.2.2.2.2.2.2.1, aE.2.2.2.2.2.2.2.2.2.2.2.1, aE.2.2.2.2.2.2.2.2.2.2.2.2.1, aE.2.2.2.2.2.2.2.2.2.2.2.2.2.1, aE.2.2.2.2.2.2.2.2.2.2.2.2.2.2.1, aE.2.2.2.2.2.2.2.2.2.2.2.2.2.2.2.1, aE.2.2.2.2.2.2.2.2.2.2.2.2.2.2.2.2.1, aE.2.2.2.2.2.2.2.2.2.2.2.2.2.2.2.2.2.1, aE.2.2.2.2.2.2.2.2.2.2.2.2.2.2.2.2.2.2.1, aE.2.2.2.2.2.2.2.2.2.2.2.2.2.2.2.2.2.2.2.1, aE.2.2.2.2.2.2.2.2.2.2.2.2.2.2.2.2.2.2.2.2.1, aE.2.2.2.2.2.2.2.2.2.2.2.2.2.2.2.2.2.2.2.2.2.1, aE.2.2.2.2.2.2.2.2.2.2.2.2.2.2.2.2.2.2.2.2.2.2.1, aE.2.2.2.2.2.2.2.2.2.2.2.2.2.2.2.2.2.2.2.2.2.2.2.1, aE.2.2.2.2.2.2.2.2.2.2.2.2.2.2.2.2.2.2.2.2.2.2.2.2.1, aE.2.2.2.2.2.2.2.2.2.2.2.2.2.2.2.2.2.2.2.2.2.2.2.2.2.1, aE.2.2.2.2.2.2.2.2.2.2.2.2.2.2.2.2.2.2.2.2.2.2.2.2.2.2))) = some (r1, r2, r3, r4, r5, r6, r7, r8, r9, r10, r11, r12, r13, r14, r15, r16, r17, r18, r19, r20, r21, r22, r23, r24, r25, r26, r27) := by rw [if_pos rfl] at H; exact H
    clear H
    have H := H1
    clear H1
    replace H := Option.bind_eq_some_iff.mp H
    obtain ⟨⟨aM, aX, aV, bi, aU, bp, aQ, ba, bk, bK, cj, bL, bP, bF, bO, cC, bE, bS, bZ, ca, ck, dV, dM, cb, es, ex, hF⟩, oh, H⟩ := H
    replace H : (some (aM, aX, aV, bi, aU, bp, aQ, ba, bk, bK, cj, bL, bP, bF, bO, cC, bE, bS, bZ, ca, ck, dV, dM, cb, es, ex, hF)) = some (r1, r2, r3, r4, r5, r6, r7, r8, r9, r10, r11, r12, r13, r14, r15, r16, r17, r18, r19, r20, r21, r22, r23, r24, r25, r26, r27) := H
    have A8 := Aside0.mk oh
    clear oh
    simp only [Option.some.injEq, Prod.mk.injEq] at H
    obtain ⟨rfl, rfl, rfl, rfl, rfl, rfl, rfl, rfl, rfl, rfl, rfl, rfl, rfl, rfl, rfl, rfl, rfl, rfl, rfl, rfl, rfl, rfl, rfl, rfl, rfl, rfl, rfl⟩ := H
    go_wp2_with (first | ((with_reducible refine gate_dst (N := 62) rfl ?_); refine Pre.build_event 62 25 [(0, Go.Operand.const (Go.Value.int Go.IntKind.i64 4)), (15, Go.Operand.tmp 54), (7, Go.Operand.tmp 57), (16, Go.Operand.tmp 60), (24, Go.Operand.tmp 61)] rfl rfl rfl (rrep_Get.bd62 _ _ _ _ _ _ _) ?_) | ((with_reducible refine Pre.gate_load 25 rfl ?_); (try (refine gate_guard Z22 ?_; dsimp only)); refine Pre.load_event rfl rfl rfl Z22 Z13 Try.underlying25 rfl Z14 ?_) | ((with_reducible refine gate_callee (f := 68) rfl ?_); refine goesL_ (some 19) rfl rfl Try.func68 Z14 rfl #[.string a0] rfl Z4 ?_; (with_reducible refine (rrep_ack.calls kj1 a0 aM aX aV bi aU bp aQ ba bk bK cj bL bP bF bO cC bE bS bZ ca ck dV dM cb es ex hF _ A8.out).mono ?_); rintro e w9 ⟨ph, qM, rfl, ho0, ho1, hb⟩; refine ⟨_, rfl, ?_⟩; have fq := Aside0.mk (Kd.R_lower ho0 (below_size Z0)); have fY := Aside0.mk (Kd.R_lower ho1 (below_size Z0)); replace aa := Aside0.mk (blk_below (g := ab) Z2 hb); replace HB := Aside0.mk (below_step Z0 hb); clear hb ho0 ho1; have iX := cells_25 aa.out; obtain ⟨pi, pj, eo11⟩ := Kd.R_slice fq.out; subst eo11; obtain ⟨pk, mw, eo12⟩ := Kd.R_slice fY.out; subst eo12) | ((with_reducible refine Pre.gate_store 25 rfl ?_); refine Pre.store_abs (cur := #[.int .i64 0, .int .i64 0, .int .i64 0, .string ⟨#[]⟩, .int .i64 0, .int .i64 0, .string ⟨#[]⟩, .int .i64 0, .int .i64 0, .string ⟨#[]⟩, .int .i64 0, .string ⟨#[]⟩, .int .i64 0, .int .i64 0, .int .i64 0, .int .i64 0, .int .i64 0, .int .i64 0, .int .i64 0, .string ⟨#[]⟩, .string ⟨#[]⟩, .slice none 0 0, .int .i64 0, .string ⟨#[]⟩, .slice none 0 0]) (e := 25) rfl rfl rfl Z22 Z22 Z2 Z14 Z22 Z22 ?_; intro jP hbS_ sS_; have bl : Aside0 (Kd.R k46 46 jP w.heap.size (fun _ => True) (.slice pi dV.length pj) dV) := ⟨Kd.R_mono (Pre.R_sets sS_ (Kd.R_types fq.out aa.out Z27) (fun _ hk => hk.2)) (fun _ hk => trivial)⟩; have bm : Aside0 (Kd.R k48 48 jP w.heap.size (fun _ => True) (.slice pk es.length mw) es) := ⟨Kd.R_mono (Pre.R_sets sS_ (Kd.R_types fY.out aa.out Z27) (fun _ hk => hk.2)) (fun _ hk => trivial)⟩; have bI : Aside0 (jP.heap[ab]? = some (.cells #[.int .i64 aM, .int .i64 aX, .int .i64 aV, .string bi, .int .i64 aU, .int .i64 bp, .string aQ, .int .i64 ba, .int .i64 bk, .string bK, .int .i64 cj, .string bL, .int .i64 bP, .int .i64 bF, .int .i64 bO, .int .i64 cC, .int .i64 bE, .int .i64 bS, .int .i64 bZ, .string ca, .string ck, .slice pi dV.length pj, .int .i64 dM, .string cb, .slice pk es.length mw] 25 (0, 0))) := ⟨hbS_⟩; have dU : Aside0 (Below w.heap.size w jP) := ⟨sS_.below Z0 bf.out⟩; clear hbS_ sS_; replace fq := bl; replace fY := bm; replace aa := bI; replace HB := dU; clear bl bm bI dU))
    refine bodyPost_ret (results_ctt rfl _ _ ab 25 #[.int .i64 aM, .int .i64 aX, .int .i64 aV, .string bi, .int .i64 aU, .int .i64 bp, .string aQ, .int .i64 ba, .int .i64 bk, .string bK, .int .i64 cj, .string bL, .int .i64 bP, .int .i64 bF, .int .i64 bO, .int .i64 cC, .int .i64 bE, .int .i64 bS, .int .i64 bZ, .string ca, .string ck, .slice pi dV.length pj, .int .i64 dM, .string cb, .slice pk es.length mw] (0, 0) _ rfl Z2 Try.underlying25 rfl Z14) rfl ?_
    exact ⟨_, _, Z5, Z80, Z92, Z0⟩
   ·replace c7 := Bool.eq_false_iff.mpr c7
    subst c7
    have H1 : (if (a0.size : Int) < 20 then (some (0, 0, 0, (⟨#[]⟩ : ByteArray), 0, 0, (⟨#[]⟩ : ByteArray), 0, 0, (⟨#[]⟩ : ByteArray), 0, (⟨#[]⟩ : ByteArray), 0, 0, 0, 0, 0, 0, 0, (⟨#[]⟩ : ByteArray), (⟨#[]⟩ : ByteArray), ([] : List (S46)), 0, (⟨#[]⟩ : ByteArray), ([] : List (S48)), (a0.size : Int), 2)) else (if 1 < (a0.size : Int) then (if 2 < (a0.size : Int) then (if (Go.bits .or .u8 (Go.bits .and .u8 (bt a0 1) 63) (Go.bits .and .u8 (bt a0 2) 224)) = 0 then (if 20 ≤ (a0.size : Int) then ((ext_Get.f kj1 (a0.extract 20 a0.size)).bind fun aK => (if aK.2.2 = 0 then (if 3 < (a0.size : Int) then ((cursor_New.f a0).bind fun fx => ((cursor_Text.f fx.1 fx.2.1 fx.2.2.1 fx.2.2.2 4).bind fun eM => ((cursor_Text.f eM.2.1 eM.2.2.1 eM.2.2.2.1 eM.2.2.2.2 4).bind fun dR => ((cursor_Num.f dR.2.1 dR.2.2.1 dR.2.2.2.1 dR.2.2.2.2 4).bind fun df => ((cursor_Text.f df.2.1 df.2.2.1 df.2.2.2.1 df.2.2.2.2 4).bind fun cp => ((cursor_Num.f cp.2.1 cp.2.2.1 cp.2.2.2.1 cp.2.2.2.2 4).bind fun aY => (some (4, 0, 0, (⟨#[]⟩ : ByteArray), 0, 0, (⟨#[]⟩ : ByteArray), wrap64 (bt a0 2), 0, (⟨#[]⟩ : ByteArray), 0, (⟨#[]⟩ : ByteArray), df.1, 0, aY.1, wrap64 ((bt a0 1) / 64), wrap64 (bt a0 3), 0, 0, dR.1, cp.1, ([] : List (S46)), 0, (⟨#[]⟩ : ByteArray), aK.1, 0, 0)))))))) else (none)) else (some (0, 0, 0, (⟨#[]⟩ : ByteArray), 0, 0, (⟨#[]⟩ : ByteArray), 0, 0, (⟨#[]⟩ : ByteArray), 0, (⟨#[]⟩ : ByteArray), 0, 0, 0, 0, 0, 0, 0, (⟨#[]⟩ : ByteArray), (⟨#[]⟩ : ByteArray), ([] : List (S46)), 0, (⟨#[]⟩ : ByteArray), ([] : List (S48)), wrap64 (aK.2.1 + 20), aK.2.2)))) else (none)) else (some (0, 0, 0, (⟨#[]⟩ : ByteArray), 0, 0, (⟨#[]⟩ : ByteArray), 0, 0, (⟨#[]⟩ : ByteArray), 0, (⟨#[]⟩ : ByteArray), 0, 0, 0, 0, 0, 0, 0, (⟨#[]⟩ : ByteArray), (⟨#[]⟩ : ByteArray), ([] : List (S46)), 0, (⟨#[]⟩ : ByteArray), ([] : List (S48)), 1, 5))) else (none)) else (none))) = some (r1, r2, r3, r4, r5, r6, r7, r8, r9, r10, r11, r12, r13, r14, r15, r16, r17, r18, r19, r20, r21, r22, r23, r24, r25, r26, r27) := by rw [if_neg (show ¬ (false = true) by decide)] at H; exact H
    clear H
    have H := H1
    clear H1
    by_cases gz : (a0.size : Int) < 20
    ·rw [if_pos gz] at H
     have kz : decide ((a0.size : Int) < 20) = true := decide_eq_true gz
     have kA : decide (a0.size < 20) = true := decide_eq_true Z34
     clear gz
     simp only [Option.some.injEq, Prod.mk.injEq] at H
     obtain ⟨rfl, rfl, rfl, rfl, rfl, rfl, rfl, rfl, rfl, rfl, rfl, rfl, rfl, rfl, rfl, rfl, rfl, rfl, rfl, rfl, rfl, rfl, rfl, rfl, rfl, rfl, rfl⟩ := H
     have mi := cells_25 aa.out
     go_wp2_with (first | ((with_reducible refine gate_dst (N := 62) rfl ?_); refine Pre.build_event 62 25 [(0, Go.Operand.const (Go.Value.int Go.IntKind.i64 4)), (15, Go.Operand.tmp 54), (7, Go.Operand.tmp 57), (16, Go.Operand.tmp 60), (24, Go.Operand.tmp 61)] rfl rfl rfl (rrep_Get.bd62 _ _ _ _ _ _ _) ?_) | ((with_reducible refine Pre.gate_load 25 rfl ?_); (try (refine gate_guard Z22 ?_; dsimp only)); refine Pre.load_event rfl rfl rfl Z22 Z13 Try.underlying25 rfl Z14 ?_) | ((with_reducible refine Pre.gate_store 25 rfl ?_); refine Pre.store_abs (cur := #[.int .i64 0, .int .i64 0, .int .i64 0, .string ⟨#[]⟩, .int .i64 0, .int .i64 0, .string ⟨#[]⟩, .int .i64 0, .int .i64 0, .string ⟨#[]⟩, .int .i64 0, .string ⟨#[]⟩, .int .i64 0, .int .i64 0, .int .i64 0, .int .i64 0, .int .i64 0, .int .i64 0, .int .i64 0, .string ⟨#[]⟩, .string ⟨#[]⟩, .slice none 0 0, .int .i64 0, .string ⟨#[]⟩, .slice none 0 0]) (e := 25) rfl rfl rfl Z22 Z22 Z2 Z14 Z22 Z22 ?_; intro kU hbS_ sS_; have bl : Aside0 (kU.heap[ab]? = some (.cells #[.int .i64 0, .int .i64 0, .int .i64 0, .string ⟨#[]⟩, .int .i64 0, .int .i64 0, .string ⟨#[]⟩, .int .i64 0, .int .i64 0, .string ⟨#[]⟩, .int .i64 0, .string ⟨#[]⟩, .int .i64 0, .int .i64 0, .int .i64 0, .int .i64 0, .int .i64 0, .int .i64 0, .int .i64 0, .string ⟨#[]⟩, .string ⟨#[]⟩, .slice none 0 0, .int .i64 0, .string ⟨#[]⟩, .slice none 0 0] 25 (0, 0))) := ⟨hbS_⟩; have bm : Aside0 (Below w.heap.size w kU) := ⟨sS_.below Z0 bf.out⟩; clear hbS_ sS_; replace aa := bl; replace HB := bm; clear bl bm))
     refine bodyPost_ret (results_ctt rfl _ _ ab 25 #[.int .i64 0, .int .i64 0, .int .i64 0, .string ⟨#[]⟩, .int .i64 0, .int .i64 0, .string ⟨#[]⟩, .int .i64 0, .int .i64 0, .string ⟨#[]⟩, .int .i64 0, .string ⟨#[]⟩, .int .i64 0, .int .i64 0, .int .i64 0, .int .i64 0, .int .i64 0, .int .i64 0, .int .i64 0, .string ⟨#[]⟩, .string ⟨#[]⟩, .slice none 0 0, .int .i64 0, .string ⟨#[]⟩, .slice none 0 0] (0, 0) _ rfl Z2 Try.underlying25 rfl Z14) rfl ?_
     exact ⟨_, _, Z5, Z7, Z20, Z0⟩
    ·rw [if_neg gz] at H
     have kz : decide ((a0.size : Int) < 20) = false := decide_eq_false gz
     have kA : decide (a0.size < 20) = false := decide_eq_false Z34
     clear gz
     by_cases iL : 1 < (a0.size : Int)
     ·rw [if_pos iL] at H
      have kB : decide (1 < (a0.size : Int)) = true := decide_eq_true iL
      have mx : decide (1 < a0.size) = true := decide_eq_true Z34
      clear iL
      by_cases gb : 2 < (a0.size : Int)
      ·rw [if_pos gb] at H
       have iG : decide (2 < (a0.size : Int)) = true := decide_eq_true gb
       have jA : decide (2 < a0.size) = true := decide_eq_true Z34
       clear gb
       by_cases eF : (Go.bits .or .u8 (Go.bits .and .u8 (bt a0 1) 63) (Go.bits .and .u8 (bt a0 2) 224)) = 0
       ·rw [if_pos eF] at H
        have jx : ((Go.bits .or .u8 (Go.bits .and .u8 (bt a0 1) 63) (Go.bits .and .u8 (bt a0 2) 224)) == 0) = true := beq_iff_eq.mpr eF
        have oy : ((Go.bits .or .u8 (Go.bits .and .u8 (bt a0 1) 63) (Go.bits .and .u8 (bt a0 2) 224)) != 0) = false := bne_eq_false_iff_eq.mpr eF
        clear eF
        by_cases iM : 20 ≤ (a0.size : Int)
        ·rw [if_pos iM] at H
         have lx := eq_true iM
         have ly : decide (20 ≤ (a0.size : Int)) = true := decide_eq_true iM
         clear iM
         replace H := Option.bind_eq_some_iff.mp H
         obtain ⟨⟨dN, fA, eS⟩, kC, H⟩ := H
         replace H : (if eS = 0 then (if 3 < (a0.size : Int) then ((cursor_New.f a0).bind fun fx => ((cursor_Text.f fx.1 fx.2.1 fx.2.2.1 fx.2.2.2 4).bind fun eM => ((cursor_Text.f eM.2.1 eM.2.2.1 eM.2.2.2.1 eM.2.2.2.2 4).bind fun dR => ((cursor_Num.f dR.2.1 dR.2.2.1 dR.2.2.2.1 dR.2.2.2.2 4).bind fun df => ((cursor_Text.f df.2.1 df.2.2.1 df.2.2.2.1 df.2.2.2.2 4).bind fun cp => ((cursor_Num.f cp.2.1 cp.2.2.1 cp.2.2.2.1 cp.2.2.2.2 4).bind fun aY => (some (4, 0, 0, (⟨#[]⟩ : ByteArray), 0, 0, (⟨#[]⟩ : ByteArray), wrap64 (bt a0 2), 0, (⟨#[]⟩ : ByteArray), 0, (⟨#[]⟩ : ByteArray), df.1, 0, aY.1, wrap64 ((bt a0 1) / 64), wrap64 (bt a0 3), 0, 0, dR.1, cp.1, ([] : List (S46)), 0, (⟨#[]⟩ : ByteArray), dN, 0, 0)))))))) else (none)) else (some (0, 0, 0, (⟨#[]⟩ : ByteArray), 0, 0, (⟨#[]⟩ : ByteArray), 0, 0, (⟨#[]⟩ : ByteArray), 0, (⟨#[]⟩ : ByteArray), 0, 0, 0, 0, 0, 0, 0, (⟨#[]⟩ : ByteArray), (⟨#[]⟩ : ByteArray), ([] : List (S46)), 0, (⟨#[]⟩ : ByteArray), ([] : List (S48)), wrap64 (fA + 20), eS))) = some (r1, r2, r3, r4, r5, r6, r7, r8, r9, r10, r11, r12, r13, r14, r15, r16, r17, r18, r19, r20, r21, r22, r23, r24, r25, r26, r27) := H
         have nK := Aside0.mk kC
         clear kC
         by_cases dP : eS = 0
         ·rw [if_pos dP] at H
          have lk : (eS == 0) = true := beq_iff_eq.mpr dP
          have ll : (eS != 0) = false := bne_eq_false_iff_eq.mpr dP
          clear dP
          by_cases jM : 3 < (a0.size : Int)
          ·rw [if_pos jM] at H
           have mz : decide (3 < (a0.size : Int)) = true := decide_eq_true jM
           have mA : decide (3 < a0.size) = true := decide_eq_true Z34
           clear jM
           replace H := Option.bind_eq_some_iff.mp H
           obtain ⟨⟨gB, gC, gD, gE⟩, qN, H⟩ := H
           replace H : ((cursor_Text.f gB gC gD gE 4).bind fun eM => ((cursor_Text.f eM.2.1 eM.2.2.1 eM.2.2.2.1 eM.2.2.2.2 4).bind fun dR => ((cursor_Num.f dR.2.1 dR.2.2.1 dR.2.2.2.1 dR.2.2.2.2 4).bind fun df => ((cursor_Text.f df.2.1 df.2.2.1 df.2.2.2.1 df.2.2.2.2 4).bind fun cp => ((cursor_Num.f cp.2.1 cp.2.2.1 cp.2.2.2.1 cp.2.2.2.2 4).bind fun aY => (some (4, 0, 0, (⟨#[]⟩ : ByteArray), 0, 0, (⟨#[]⟩ : ByteArray), wrap64 (bt a0 2), 0, (⟨#[]⟩ : ByteArray), 0, (⟨#[]⟩ : ByteArray), df.1, 0, aY.1, wrap64 ((bt a0 1) / 64), wrap64 (bt a0 3), 0, 0, dR.1, cp.1, ([] : List (S46)), 0, (⟨#[]⟩ : ByteArray), dN, 0, 0))))))) = some (r1, r2, r3, r4, r5, r6, r7, r8, r9, r10, r11, r12, r13, r14, r15, r16, r17, r18, r19, r20, r21, r22, r23, r24, r25, r26, r27) := H
           have uw := Aside0.mk qN
           clear qN
           replace H := Option.bind_eq_some_iff.mp H
           obtain ⟨⟨iZ, gF, gG, gH, gI⟩, mB, H⟩ := H
           replace H : ((cursor_Text.f gF gG gH gI 4).bind fun dR => ((cursor_Num.f dR.2.1 dR.2.2.1 dR.2.2.2.1 dR.2.2.2.2 4).bind fun df => ((cursor_Text.f df.2.1 df.2.2.1 df.2.2.2.1 df.2.2.2.2 4).bind fun cp => ((cursor_Num.f cp.2.1 cp.2.2.1 cp.2.2.2.1 cp.2.2.2.2 4).bind fun aY => (some (4, 0, 0, (⟨#[]⟩ : ByteArray), 0, 0, (⟨#[]⟩ : ByteArray), wrap64 (bt a0 2), 0, (⟨#[]⟩ : ByteArray), 0, (⟨#[]⟩ : ByteArray), df.1, 0, aY.1, wrap64 ((bt a0 1) / 64), wrap64 (bt a0 3), 0, 0, dR.1, cp.1, ([] : List (S46)), 0, (⟨#[]⟩ : ByteArray), dN, 0, 0)))))) = some (r1, r2, r3, r4, r5, r6, r7, r8, r9, r10, r11, r12, r13, r14, r15, r16, r17, r18, r19, r20, r21, r22, r23, r24, r25, r26, r27) := H
           have kX := Aside0.mk mB
           clear mB
           replace H := Option.bind_eq_some_iff.mp H
           obtain ⟨⟨fc, gJ, gK, gL, gM⟩, qO, H⟩ := H
           replace H : ((cursor_Num.f gJ gK gL gM 4).bind fun df => ((cursor_Text.f df.2.1 df.2.2.1 df.2.2.2.1 df.2.2.2.2 4).bind fun cp => ((cursor_Num.f cp.2.1 cp.2.2.1 cp.2.2.2.1 cp.2.2.2.2 4).bind fun aY => (some (4, 0, 0, (⟨#[]⟩ : ByteArray), 0, 0, (⟨#[]⟩ : ByteArray), wrap64 (bt a0 2), 0, (⟨#[]⟩ : ByteArray), 0, (⟨#[]⟩ : ByteArray), df.1, 0, aY.1, wrap64 ((bt a0 1) / 64), wrap64 (bt a0 3), 0, 0, fc, cp.1, ([] : List (S46)), 0, (⟨#[]⟩ : ByteArray), dN, 0, 0))))) = some (r1, r2, r3, r4, r5, r6, r7, r8, r9, r10, r11, r12, r13, r14, r15, r16, r17, r18, r19, r20, r21, r22, r23, r24, r25, r26, r27) := H
           have ux := Aside0.mk qO
           clear qO
           replace H := Option.bind_eq_some_iff.mp H
           obtain ⟨⟨eX, lQ, lR, gN, gO⟩, qP, H⟩ := H
           replace H : ((cursor_Text.f lQ lR gN gO 4).bind fun cp => ((cursor_Num.f cp.2.1 cp.2.2.1 cp.2.2.2.1 cp.2.2.2.2 4).bind fun aY => (some (4, 0, 0, (⟨#[]⟩ : ByteArray), 0, 0, (⟨#[]⟩ : ByteArray), wrap64 (bt a0 2), 0, (⟨#[]⟩ : ByteArray), 0, (⟨#[]⟩ : ByteArray), eX, 0, aY.1, wrap64 ((bt a0 1) / 64), wrap64 (bt a0 3), 0, 0, fc, cp.1, ([] : List (S46)), 0, (⟨#[]⟩ : ByteArray), dN, 0, 0)))) = some (r1, r2, r3, r4, r5, r6, r7, r8, r9, r10, r11, r12, r13, r14, r15, r16, r17, r18, r19, r20, r21, r22, r23, r24, r25, r26, r27) := H
           have uy := Aside0.mk qP
           clear qP
           replace H := Option.bind_eq_some_iff.mp H
           obtain ⟨⟨fr, kY, kZ, io, ip⟩, kD, H⟩ := H
           replace H : ((cursor_Num.f kY kZ io ip 4).bind fun aY => (some (4, 0, 0, (⟨#[]⟩ : ByteArray), 0, 0, (⟨#[]⟩ : ByteArray), wrap64 (bt a0 2), 0, (⟨#[]⟩ : ByteArray), 0, (⟨#[]⟩ : ByteArray), eX, 0, aY.1, wrap64 ((bt a0 1) / 64), wrap64 (bt a0 3), 0, 0, fc, fr, ([] : List (S46)), 0, (⟨#[]⟩ : ByteArray), dN, 0, 0))) = some (r1, r2, r3, r4, r5, r6, r7, r8, r9, r10, r11, r12, r13, r14, r15, r16, r17, r18, r19, r20, r21, r22, r23, r24, r25, r26, r27) := H
           have oz := Aside0.mk kD
           clear kD
           replace H := Option.bind_eq_some_iff.mp H
           obtain ⟨⟨gP, ja, jb, jc, jd⟩, qQ, H⟩ := H
           replace H : (some (4, 0, 0, (⟨#[]⟩ : ByteArray), 0, 0, (⟨#[]⟩ : ByteArray), wrap64 (bt a0 2), 0, (⟨#[]⟩ : ByteArray), 0, (⟨#[]⟩ : ByteArray), eX, 0, gP, wrap64 ((bt a0 1) / 64), wrap64 (bt a0 3), 0, 0, fc, fr, ([] : List (S46)), 0, (⟨#[]⟩ : ByteArray), dN, 0, 0)) = some (r1, r2, r3, r4, r5, r6, r7, r8, r9, r10, r11, r12, r13, r14, r15, r16, r17, r18, r19, r20, r21, r22, r23, r24, r25, r26, r27) := H
           have uz := Aside0.mk qQ
           clear qQ
           simp only [Option.some.injEq, Prod.mk.injEq] at H
           obtain ⟨rfl, rfl, rfl, rfl, rfl, rfl, rfl, rfl, rfl, rfl, rfl, rfl, rfl, rfl, rfl, rfl, rfl, rfl, rfl, rfl, rfl, rfl, rfl, rfl, rfl, rfl, rfl⟩ := H
           try go_wp2_with (first | ((with_reducible refine gate_dst (N := 62) rfl ?_); refine Pre.build_event 62 25 [(0, Go.Operand.const (Go.Value.int Go.IntKind.i64 4)), (15, Go.Operand.tmp 54), (7, Go.Operand.tmp 57), (16, Go.Operand.tmp 60), (24, Go.Operand.tmp 61)] rfl rfl rfl (rrep_Get.bd62 _ _ _ _ _ _ _) ?_) | ((with_reducible refine Pre.gate_load 25 rfl ?_); (try (refine gate_guard Z22 ?_; dsimp only)); refine Pre.load_event rfl rfl rfl Z22 Z13 Try.underlying25 rfl Z14 ?_))
           have bl := Aside0.mk (blk_drew aa.out)
           have bm := Aside0.mk (below_drew1 HB.out)
           clear aa
           clear HB
           have aa := bl
           have HB := bm
           clear bl bm
           have p18 : 0 ≤ (1 : Int) := Z34
           have q18 : 1 < a0.size := (by have : (1 : Int) < (a0.size : Int) := of_decide_eq_true Z6; omega)
           have hx18 : ∀ h : 1 < a0.size, ((a0[1]'h).toNat : Int) = bt a0 1 := bt_at a0 1
           clear p18
           have qi18 : (1 < (a0.size : Int)) = True := eq_true (of_decide_eq_true Z6)
           replace q18 := eq_true q18
           have p20 : 0 ≤ (2 : Int) := Z34
           have q20 : 2 < a0.size := (by have : (2 : Int) < (a0.size : Int) := of_decide_eq_true Z6; omega)
           have hx20 : ∀ h : 2 < a0.size, ((a0[2]'h).toNat : Int) = bt a0 2 := bt_at a0 2
           clear p20
           have qi20 : (2 < (a0.size : Int)) = True := eq_true (of_decide_eq_true Z6)
           replace q20 := eq_true q20
           refine start_ (n := 8) (S := fun w' => True) (ds := []) (Sq.b 8 0) Z14 rfl rfl trivial (fun hHeld => ?_); refine with_tabW rrep_Get.tab5 rrep_Get.bits5 (fun HT_ HW_ => ?_)
           generalize wc.drew = w35 at aa HB hHeld ⊢
           refine Sq.pur 0 (some 29) (Sq.b 8 1) HT_.out ?_
           refine Sq.pur 3 (some 32) (Sq.b 8 9) HT_.out ?_
           refine Sq.tak 1 (some 30) (Sq.b 8 11) HT_.out HW_.out hHeld (v := ?_) (a' := ?_) ?_ ?_ ?_
           rotate_left
           ·intro w' _
            go_simp
            with_reducible rfl
           rotate_left
           ·simp only [Act.put, Sq.s1, Sq.s2, Sq.s3, i64_w, i32_w]
            rfl
           refine Sq.pur 2 (some 31) (Sq.b 8 15) HT_.out ?_
           refine Sq.tak 4 (some 33) (Sq.b 8 31) HT_.out HW_.out hHeld (v := ?_) (a' := ?_) ?_ ?_ ?_
           rotate_left
           ·intro w' _
            go_simp
            with_reducible rfl
           rotate_left
           ·simp only [Act.put, Sq.s1, Sq.s2, Sq.s3, i64_w, i32_w]
            rfl
           refine Sq.pur 5 (some 34) (Sq.b 8 63) HT_.out ?_
           refine Sq.pur 6 (some 35) (Sq.b 8 127) HT_.out ?_
           refine Sq.pur 7 (some 36) (Sq.b 8 255) HT_.out ?_
           refine done_ (done_of HT_.out Z14) ?_
           try go_wp2_with (first | ((with_reducible refine gate_dst (N := 62) rfl ?_); refine Pre.build_event 62 25 [(0, Go.Operand.const (Go.Value.int Go.IntKind.i64 4)), (15, Go.Operand.tmp 54), (7, Go.Operand.tmp 57), (16, Go.Operand.tmp 60), (24, Go.Operand.tmp 61)] rfl rfl rfl (rrep_Get.bd62 _ _ _ _ _ _ _) ?_) | ((with_reducible refine Pre.gate_load 25 rfl ?_); (try (refine gate_guard Z22 ?_; dsimp only)); refine Pre.load_event rfl rfl rfl Z22 Z13 Try.underlying25 rfl Z14 ?_) | ((with_reducible refine gate_callee (f := 59) rfl ?_); refine goesL_ (some 41) rfl rfl Try.func59 Z14 rfl #[.string (a0.extract 20 a0.size)] rfl Z4 ?_; (with_reducible refine (ext_Get.calls kj1 (a0.extract 20 a0.size) dN fA eS _ nK.out).mono ?_); rintro e qc ⟨qR, rfl, ho0, hb⟩; refine ⟨_, rfl, ?_⟩; have dY := Aside0.mk (Kd.R_lower ho0 (below_size Z0)); replace aa := Aside0.mk (blk_below (g := ab) Z2 hb); replace HB := Aside0.mk (below_step Z0 hb); clear hb ho0))
           have bl := Aside0.mk (Kd.R_drew dY.out)
           have bm := Aside0.mk (blk_drew aa.out)
           have bI := Aside0.mk (below_drew1 HB.out)
           clear dY
           clear aa
           clear HB
           have dY := bl
           have aa := bm
           have HB := bI
           clear bl bm bI
           have p25 : 0 ≤ (1 : Int) := Z34
           have q25 : 1 < a0.size := (by have : (1 : Int) < (a0.size : Int) := of_decide_eq_true Z6; omega)
           have hx25 : ∀ h : 1 < a0.size, ((a0[1]'h).toNat : Int) = bt a0 1 := bt_at a0 1
           clear p25
           have qi25 : (1 < (a0.size : Int)) = True := eq_true (of_decide_eq_true Z6)
           replace q25 := eq_true q25
           have p26 : 0 ≤ (2 : Int) := Z34
           have q26 : 2 < a0.size := (by have : (2 : Int) < (a0.size : Int) := of_decide_eq_true Z6; omega)
           have hx26 : ∀ h : 2 < a0.size, ((a0[2]'h).toNat : Int) = bt a0 2 := bt_at a0 2
           clear p26
           have qi26 : (2 < (a0.size : Int)) = True := eq_true (of_decide_eq_true Z6)
           replace q26 := eq_true q26
           have p28 : 0 ≤ (3 : Int) := Z34
           have q28 : 3 < a0.size := (by have : (3 : Int) < (a0.size : Int) := of_decide_eq_true Z6; omega)
           have hx28 : ∀ h : 3 < a0.size, ((a0[3]'h).toNat : Int) = bt a0 3 := bt_at a0 3
           clear p28
           have qi28 : (3 < (a0.size : Int)) = True := eq_true (of_decide_eq_true Z6)
           replace q28 := eq_true q28
           obtain ⟨fB, fC, eo38⟩ := Kd.R_slice dY.out
           (first | subst eo38 | (injection eo38 with f1_ f2_ f3_; have f4_ := f1_.symm; have f5_ := f3_.symm; clear f1_ f2_ f3_; subst f4_; subst f5_))
           refine start_ (n := 14) (S := fun w' => True) (ds := []) (Sq.b 14 0) Z14 rfl rfl trivial (fun hHeld => ?_); refine with_tabW rrep_Get.tab10 rrep_Get.bits10 (fun HT_ HW_ => ?_)
           generalize qc.drew = qS at dY aa HB hHeld ⊢
           refine Sq.pur 0 (some 51) (Sq.b 14 1) HT_.out ?_
           refine Sq.pur 4 (some 55) (Sq.b 14 17) HT_.out ?_
           refine Sq.pur 7 (some 58) (Sq.b 14 145) HT_.out ?_
           refine Sq.pur 10 (some 61) (Sq.b 14 1169) HT_.out ?_
           refine Sq.tak 1 (some 52) (Sq.b 14 1171) HT_.out HW_.out hHeld (v := ?_) (a' := ?_) ?_ ?_ ?_
           rotate_left
           ·intro w' _
            go_simp
            with_reducible rfl
           rotate_left
           ·simp only [Act.put, Sq.s1, Sq.s2, Sq.s3, i64_w, i32_w]
            rfl
           refine Sq.pur 2 (some 53) (Sq.b 14 1175) HT_.out ?_
           refine Sq.pur 3 (some 54) (Sq.b 14 1183) HT_.out ?_
           refine Sq.tak 5 (some 56) (Sq.b 14 1215) HT_.out HW_.out hHeld (v := ?_) (a' := ?_) ?_ ?_ ?_
           rotate_left
           ·intro w' _
            go_simp
            with_reducible rfl
           rotate_left
           ·simp only [Act.put, Sq.s1, Sq.s2, Sq.s3, i64_w, i32_w]
            rfl
           refine Sq.pur 6 (some 57) (Sq.b 14 1279) HT_.out ?_
           refine Sq.tak 8 (some 59) (Sq.b 14 1535) HT_.out HW_.out hHeld (v := ?_) (a' := ?_) ?_ ?_ ?_
           rotate_left
           ·intro w' _
            go_simp
            with_reducible rfl
           rotate_left
           ·simp only [Act.put, Sq.s1, Sq.s2, Sq.s3, i64_w, i32_w]
            rfl
           refine Sq.pur 9 (some 60) (Sq.b 14 2047) HT_.out ?_
           refine pure_ (i := 11) (N := some 62) (v := ?_) (a' := ?_) (Sq.b 14 4095) rfl rfl (any_of HT_.out Z14) (fun _ _ _ h => h) (Or.inl ⟨Z22, ?_⟩) ?_ ?_
           rotate_left
           ·intro w'
            refine Eq.trans (Pre.build_run 25 [(0, Go.Operand.const (Go.Value.int Go.IntKind.i64 4)), (15, Go.Operand.tmp 54), (7, Go.Operand.tmp 57), (16, Go.Operand.tmp 60), (24, Go.Operand.tmp 61)] rfl (rrep_Get.bd62 _ _ _ _ _ _ _)) ?_
            with_reducible rfl
           rotate_left
           ·simp only [Act.put, Sq.s1, Sq.s2, Sq.s3, i64_w, i32_w]
            rfl
           refine one_ (i := 12) (N := some 8) (Sq.b 14 8191) rfl rfl (one_of HT_.out Z14) Z27 (fun K hK => ?_)
           refine box_step ?hg (N := 8) ?hd (cs := #[.int .i64 0, .int .i64 0, .int .i64 0, .string ⟨#[]⟩, .int .i64 0, .int .i64 0, .string ⟨#[]⟩, .int .i64 0, .int .i64 0, .string ⟨#[]⟩, .int .i64 0, .string ⟨#[]⟩, .int .i64 0, .int .i64 0, .int .i64 0, .int .i64 0, .int .i64 0, .int .i64 0, .int .i64 0, .string ⟨#[]⟩, .string ⟨#[]⟩, .slice none 0 0, .int .i64 0, .string ⟨#[]⟩, .slice none 0 0]) (t := 25) ?hr ?_; (case hd => rfl); (case hg => rfl); (case hr => first | (go_simp; done) | (go_simp; rfl))
           intro eG hg qd hbox hb
           have bl := Aside0.mk (Kd.R_below Z72 hb)
           have bm := Aside0.mk (blk_below (g := ab) Z2 hb)
           have bI := Aside0.mk (below_step Z0 hb)
           have dU := Aside0.mk (hbox)
           have hL := Aside0.mk ((by rw [hg]; exact (below_size Z0) : w.heap.size ≤ eG))
           have lz := Aside0.mk ((by rw [hg]; exact (below_size Z0) : w.heap.size ≤ eG))
           have qT := Aside0.mk ((by rw [hg]; exact Nat.ne_of_lt (blk_lt (g := ab) Z2) : ab ≠ eG))
           have qU := Aside0.mk ((by rw [hg]; exact Nat.ne_of_gt (blk_lt (g := ab) Z2) : eG ≠ ab))
           clear dY
           clear aa
           clear HB
           have dY := bl
           have aa := bm
           have HB := bI
           have dW := dU
           have GW138 := hL
           have mC := lz
           have gw := qT
           have jB := qU
           clear bl bm bI dU hL lz qT qU
           clear hb hbox hg
           refine hK.out _ _ trivial (fun hHeld => ?_)
           clear hK K
           refine norm_ (a' := ?_) ?_ ?_
           rotate_left
           ·show Act.put _ (some 8) _ = _
            simp only [Act.put, Sq.s1, Sq.s2, Sq.s3, i64_w, i32_w]
            rfl
           refine one_ (i := 13) (N := none) (Sq.b 14 16383) rfl rfl (one_of HT_.out Z14) Z27 (fun K hK => ?_)
           refine skip_ (w1 := ?_) Z22 rfl ?_ ?_
           rotate_left
           ·refine Eq.trans (Pre.store_run rfl Z22 Z22 dW.out Z14 Z22 Z22) ?_
            rfl
           refine hK.out _ _ trivial (fun hHeld => ?_)
           clear hK K
           refine done_ (done_of HT_.out Z14) ?_
           refine Pre.abs_end (g := eG) (t := 25) (cs := #[.int .i64 0, .int .i64 0, .int .i64 0, .string ⟨#[]⟩, .int .i64 0, .int .i64 0, .string ⟨#[]⟩, .int .i64 0, .int .i64 0, .string ⟨#[]⟩, .int .i64 0, .string ⟨#[]⟩, .int .i64 0, .int .i64 0, .int .i64 0, .int .i64 0, .int .i64 0, .int .i64 0, .int .i64 0, .string ⟨#[]⟩, .string ⟨#[]⟩, .slice none 0 0, .int .i64 0, .string ⟨#[]⟩, .slice none 0 0]) (cells := #[.int .i64 4, .int .i64 0, .int .i64 0, .string ⟨#[]⟩, .int .i64 0, .int .i64 0, .string ⟨#[]⟩, .int .i64 (wrap64 (bt a0 2)), .int .i64 0, .string ⟨#[]⟩, .int .i64 0, .string ⟨#[]⟩, .int .i64 0, .int .i64 0, .int .i64 0, .int .i64 (wrap64 ((bt a0 1) / 64)), .int .i64 (wrap64 (bt a0 3)), .int .i64 0, .int .i64 0, .string ⟨#[]⟩, .string ⟨#[]⟩, .slice none 0 0, .int .i64 0, .string ⟨#[]⟩, .slice fB dN.length fC]) Z65 Z22 ?_
           intro qe hbS_ sS_
           replace hbS_ := Aside0.mk hbS_
           replace sS_ : Aside0 (Pre.Sets eG qd qe) := ⟨⟨sS_.os, sS_.tape, sS_.output, sS_.size, sS_.block⟩⟩
           have bl : Aside0 (Kd.R k48 48 qe w.heap.size (fun _ => True) (.slice fB dN.length fC) dN) := ⟨Kd.R_mono (Pre.R_sets sS_.out (Kd.R_types dY.out dW.out Z27) (fun _ hk => hk.2)) (fun _ hk => trivial)⟩
           have bm : Aside0 (qe.heap[ab]? = some (.cells #[.int .i64 0, .int .i64 0, .int .i64 0, .string ⟨#[]⟩, .int .i64 0, .int .i64 0, .string ⟨#[]⟩, .int .i64 0, .int .i64 0, .string ⟨#[]⟩, .int .i64 0, .string ⟨#[]⟩, .int .i64 0, .int .i64 0, .int .i64 0, .int .i64 0, .int .i64 0, .int .i64 0, .int .i64 0, .string ⟨#[]⟩, .string ⟨#[]⟩, .slice none 0 0, .int .i64 0, .string ⟨#[]⟩, .slice none 0 0] 25 (0, 0))) := ⟨sS_.out.blk Z2 gw.out⟩
           have bI : Aside0 (qe.heap[eG]? = some (.cells #[.int .i64 4, .int .i64 0, .int .i64 0, .string ⟨#[]⟩, .int .i64 0, .int .i64 0, .string ⟨#[]⟩, .int .i64 (wrap64 (bt a0 2)), .int .i64 0, .string ⟨#[]⟩, .int .i64 0, .string ⟨#[]⟩, .int .i64 0, .int .i64 0, .int .i64 0, .int .i64 (wrap64 ((bt a0 1) / 64)), .int .i64 (wrap64 (bt a0 3)), .int .i64 0, .int .i64 0, .string ⟨#[]⟩, .string ⟨#[]⟩, .slice none 0 0, .int .i64 0, .string ⟨#[]⟩, .slice fB dN.length fC] 25 (0, 0))) := ⟨hbS_.out⟩
           have dU : Aside0 (Below w.heap.size w qe) := ⟨sS_.out.below Z41 mC.out⟩
           clear hbS_ sS_
           (try clear dY)
           (try clear aa)
           (try clear dW)
           (try clear HB)
           have dY := bl
           have aa := bm
           have dW := bI
           have HB := dU
           clear bl bm bI dU
           try go_wp2_with (first | ((with_reducible refine gate_dst (N := 62) rfl ?_); refine Pre.build_event 62 25 [(0, Go.Operand.const (Go.Value.int Go.IntKind.i64 4)), (15, Go.Operand.tmp 54), (7, Go.Operand.tmp 57), (16, Go.Operand.tmp 60), (24, Go.Operand.tmp 61)] rfl rfl rfl (rrep_Get.bd62 _ _ _ _ _ _ _) ?_) | ((with_reducible refine Pre.gate_load 25 rfl ?_); (try (refine gate_guard Z22 ?_; dsimp only)); refine Pre.load_event rfl rfl rfl Z22 Z13 Try.underlying25 rfl Z14 ?_) | ((with_reducible refine gate_callee (f := 61) rfl ?_); refine goesL_ (some 65) rfl rfl Try.func61 Z14 rfl #[.string a0] rfl Z4 ?_; (with_reducible refine (cursor_New.calls a0 gB gC gD gE _ uw.out).mono ?_); rintro e uA ⟨rfl, hb⟩; refine ⟨_, rfl, ?_⟩; replace dY := Aside0.mk (Kd.R_below Z72 hb); replace aa := Aside0.mk (blk_below (g := ab) Z2 hb); replace dW := Aside0.mk (blk_below (g := eG) Z65 hb); replace HB := Aside0.mk (below_step Z41 hb); clear hb) | ((with_reducible refine gate_callee (f := 60) rfl ?_); refine goesL_ (some 66) rfl rfl Try.func60 Z14 rfl #[.agg #[.string gB, .int .i64 gC, .int .i64 gD, .bool gE], .int .i64 4] rfl Z4 ?_; (with_reducible refine (cursor_Text.calls gB gC gD gE 4 iZ gF gG gH gI _ kX.out).mono ?_); rintro e sE ⟨rfl, hb⟩; refine ⟨_, rfl, ?_⟩; replace dY := Aside0.mk (Kd.R_below Z72 hb); replace aa := Aside0.mk (blk_below (g := ab) Z2 hb); replace dW := Aside0.mk (blk_below (g := eG) Z65 hb); replace HB := Aside0.mk (below_step Z41 hb); clear hb) | ((with_reducible refine gate_dst (N := 10) rfl ?_); refine Sq.box 10 #[.string ⟨#[]⟩, .int .i64 0, .int .i64 0, .bool false] 60 ?_; intro eH hg w68 hbox hb; have eQ := Aside0.mk (hbox); have GW148 := Aside0.mk (Sq.ge hg Z41); have qV := Aside0.mk (Sq.ge hg Z41); have ey := Aside0.mk (Sq.nl hg (blk_lt (g := ab) Z2)); have jC := Aside0.mk (Sq.ng hg (blk_lt (g := ab) Z2)); have cq := Aside0.mk (Sq.nl hg (blk_lt (g := eG) Z65)); have iq := Aside0.mk (Sq.ng hg (blk_lt (g := eG) Z65)); replace dY := Aside0.mk (Kd.R_below Z72 hb); replace aa := Aside0.mk (blk_below (g := ab) Z2 hb); replace dW := Aside0.mk (blk_below (g := eG) Z65 hb); replace HB := Aside0.mk (below_step Z41 hb); clear hb hbox hg; have hnb69 := jC.out; have hnc69 := ey.out; have hnb70 := iq.out; have hnc70 := cq.out; have qW := cells_4 eQ.out) | ((with_reducible refine gate_callee (f := 60) rfl ?_); refine goesL_ (some 71) rfl rfl Try.func60 Z14 rfl #[.agg #[.string gF, .int .i64 gG, .int .i64 gH, .bool gI], .int .i64 4] rfl Z4 ?_; (with_reducible refine (cursor_Text.calls gF gG gH gI 4 fc gJ gK gL gM _ ux.out).mono ?_); rintro e uB ⟨rfl, hb⟩; refine ⟨_, rfl, ?_⟩; replace dY := Aside0.mk (Kd.R_below (by (with_reducible repeat (first | apply Kd.R_alloc | apply Kd.R_drewN | apply Kd.R_drew)); exact (Kd.R_mono (Kd.R_far (p := ⟨eH, 3, none⟩) (Kd.R_far (p := ⟨eH, 2, none⟩) (Kd.R_far (p := ⟨eH, 1, none⟩) (Kd.R_far (p := ⟨eH, 0, none⟩) (Kd.R_types dY.out eQ.out Z27) (fun _ hk => hk.2) (.string gF)) (fun _ hk => hk.2) (.int .i64 gG)) (fun _ hk => hk.2) (.int .i64 gH)) (fun _ hk => hk.2) (.bool gI)) (fun _ h_ => h_.1))) hb); replace aa := Aside0.mk (blk_below (g := ab) (o := .cells #[.int .i64 0, .int .i64 0, .int .i64 0, .string ⟨#[]⟩, .int .i64 0, .int .i64 0, .string ⟨#[]⟩, .int .i64 0, .int .i64 0, .string ⟨#[]⟩, .int .i64 0, .string ⟨#[]⟩, .int .i64 0, .int .i64 0, .int .i64 0, .int .i64 0, .int .i64 0, .int .i64 0, .int .i64 0, .string ⟨#[]⟩, .string ⟨#[]⟩, .slice none 0 0, .int .i64 0, .string ⟨#[]⟩, .slice none 0 0] 25 (0, 0)) (by (with_reducible repeat (first | refine blk_drewN ?_ _ | refine blk_drew ?_ | refine blk_alloc ?_ _)); refine blk_far ?_ ey.out _; (with_reducible repeat (first | refine blk_drewN ?_ _ | refine blk_drew ?_ | refine blk_alloc ?_ _)); refine blk_far ?_ ey.out _; (with_reducible repeat (first | refine blk_drewN ?_ _ | refine blk_drew ?_ | refine blk_alloc ?_ _)); refine blk_far ?_ ey.out _; (with_reducible repeat (first | refine blk_drewN ?_ _ | refine blk_drew ?_ | refine blk_alloc ?_ _)); refine blk_far ?_ ey.out _; (with_reducible repeat (first | refine blk_drewN ?_ _ | refine blk_drew ?_ | refine blk_alloc ?_ _)); exact aa.out) hb); replace dW := Aside0.mk (blk_below (g := eG) (o := .cells #[.int .i64 4, .int .i64 0, .int .i64 0, .string ⟨#[]⟩, .int .i64 0, .int .i64 0, .string ⟨#[]⟩, .int .i64 (wrap64 (bt a0 2)), .int .i64 0, .string ⟨#[]⟩, .int .i64 0, .string ⟨#[]⟩, .int .i64 0, .int .i64 0, .int .i64 0, .int .i64 (wrap64 ((bt a0 1) / 64)), .int .i64 (wrap64 (bt a0 3)), .int .i64 0, .int .i64 0, .string ⟨#[]⟩, .string ⟨#[]⟩, .slice none 0 0, .int .i64 0, .string ⟨#[]⟩, .slice fB dN.length fC] 25 (0, 0)) (by (with_reducible repeat (first | refine blk_drewN ?_ _ | refine blk_drew ?_ | refine blk_alloc ?_ _)); refine blk_far ?_ cq.out _; (with_reducible repeat (first | refine blk_drewN ?_ _ | refine blk_drew ?_ | refine blk_alloc ?_ _)); refine blk_far ?_ cq.out _; (with_reducible repeat (first | refine blk_drewN ?_ _ | refine blk_drew ?_ | refine blk_alloc ?_ _)); refine blk_far ?_ cq.out _; (with_reducible repeat (first | refine blk_drewN ?_ _ | refine blk_drew ?_ | refine blk_alloc ?_ _)); refine blk_far ?_ cq.out _; (with_reducible repeat (first | refine blk_drewN ?_ _ | refine blk_drew ?_ | refine blk_alloc ?_ _)); exact dW.out) hb); replace eQ := Aside0.mk (blk_below (g := eH) (o := .cells #[.string gF, .int .i64 gG, .int .i64 gH, .bool gI] 60 (0, 0)) (by (with_reducible repeat (first | refine blk_drewN ?_ _ | refine blk_drew ?_ | refine blk_alloc ?_ _)); apply blk_puts4; (with_reducible repeat (first | refine blk_drewN ?_ _ | refine blk_drew ?_ | refine blk_alloc ?_ _)); exact eQ.out) hb); replace HB := Aside0.mk (below_step Z35 hb); clear hb; (try clear hk); have hnb73 := jB.out; have hnc73 := gw.out; have oA := cells_25 dW.out; have hcz75 := cells_4 eQ.out) | ((with_reducible refine gate_callee (f := 62) rfl ?_); refine goesL_ (some 77) rfl rfl Try.func62 Z14 rfl #[.agg #[.string gJ, .int .i64 gK, .int .i64 gL, .bool gM], .int .i64 4] rfl Z4 ?_; (with_reducible refine (cursor_Num.calls gJ gK gL gM 4 eX lQ lR gN gO _ uy.out).mono ?_); rintro e pl ⟨rfl, hb⟩; refine ⟨_, rfl, ?_⟩; replace dY := Aside0.mk (Kd.R_below (by (with_reducible repeat (first | apply Kd.R_alloc | apply Kd.R_drewN | apply Kd.R_drew)); exact (Kd.R_mono (Kd.R_mono (Kd.R_far (p := ⟨eH, 3, none⟩) (Kd.R_far (p := ⟨eH, 2, none⟩) (Kd.R_far (p := ⟨eH, 1, none⟩) (Kd.R_far (p := ⟨eH, 0, none⟩) (Kd.R_far (p := ⟨eG, 19, none⟩) (Kd.R_types (Kd.R_types dY.out dW.out Z27) eQ.out Z27) (fun _ hk => hk.1.2) (.string fc)) (fun _ hk => hk.2) (.string gJ)) (fun _ hk => hk.2) (.int .i64 gK)) (fun _ hk => hk.2) (.int .i64 gL)) (fun _ hk => hk.2) (.bool gM)) (fun _ h_ => h_.1)) (fun _ h_ => h_.1))) hb); replace aa := Aside0.mk (blk_below (g := ab) (o := .cells #[.int .i64 0, .int .i64 0, .int .i64 0, .string ⟨#[]⟩, .int .i64 0, .int .i64 0, .string ⟨#[]⟩, .int .i64 0, .int .i64 0, .string ⟨#[]⟩, .int .i64 0, .string ⟨#[]⟩, .int .i64 0, .int .i64 0, .int .i64 0, .int .i64 0, .int .i64 0, .int .i64 0, .int .i64 0, .string ⟨#[]⟩, .string ⟨#[]⟩, .slice none 0 0, .int .i64 0, .string ⟨#[]⟩, .slice none 0 0] 25 (0, 0)) Z30 hb); replace dW := Aside0.mk (blk_below (g := eG) (o := .cells #[.int .i64 4, .int .i64 0, .int .i64 0, .string ⟨#[]⟩, .int .i64 0, .int .i64 0, .string ⟨#[]⟩, .int .i64 (wrap64 (bt a0 2)), .int .i64 0, .string ⟨#[]⟩, .int .i64 0, .string ⟨#[]⟩, .int .i64 0, .int .i64 0, .int .i64 0, .int .i64 (wrap64 ((bt a0 1) / 64)), .int .i64 (wrap64 (bt a0 3)), .int .i64 0, .int .i64 0, .string fc, .string ⟨#[]⟩, .slice none 0 0, .int .i64 0, .string ⟨#[]⟩, .slice fB dN.length fC] 25 (0, 0)) (by (with_reducible repeat (first | refine blk_drewN ?_ _ | refine blk_drew ?_ | refine blk_alloc ?_ _)); refine blk_far ?_ cq.out _; (with_reducible repeat (first | refine blk_drewN ?_ _ | refine blk_drew ?_ | refine blk_alloc ?_ _)); refine blk_far ?_ cq.out _; (with_reducible repeat (first | refine blk_drewN ?_ _ | refine blk_drew ?_ | refine blk_alloc ?_ _)); refine blk_far ?_ cq.out _; (with_reducible repeat (first | refine blk_drewN ?_ _ | refine blk_drew ?_ | refine blk_alloc ?_ _)); refine blk_far ?_ cq.out _; (with_reducible repeat (first | refine blk_drewN ?_ _ | refine blk_drew ?_ | refine blk_alloc ?_ _)); refine blk_put (cs := #[.int .i64 4, .int .i64 0, .int .i64 0, .string ⟨#[]⟩, .int .i64 0, .int .i64 0, .string ⟨#[]⟩, .int .i64 (wrap64 (bt a0 2)), .int .i64 0, .string ⟨#[]⟩, .int .i64 0, .string ⟨#[]⟩, .int .i64 0, .int .i64 0, .int .i64 0, .int .i64 (wrap64 ((bt a0 1) / 64)), .int .i64 (wrap64 (bt a0 3)), .int .i64 0, .int .i64 0, .string ⟨#[]⟩, .string ⟨#[]⟩, .slice none 0 0, .int .i64 0, .string ⟨#[]⟩, .slice fB dN.length fC]) ?_ 19 _ rfl; (with_reducible repeat (first | refine blk_drewN ?_ _ | refine blk_drew ?_ | refine blk_alloc ?_ _)); exact dW.out) hb); replace eQ := Aside0.mk (blk_below (g := eH) (o := .cells #[.string gJ, .int .i64 gK, .int .i64 gL, .bool gM] 60 (0, 0)) Z55 hb); replace HB := Aside0.mk (below_step Z35 hb); clear hb; (try clear hk); have qX := cells_25 dW.out; have hcz78 := cells_4 eQ.out) | ((with_reducible refine gate_callee (f := 60) rfl ?_); refine goesL_ (some 83) rfl rfl Try.func60 Z14 rfl #[.agg #[.string lQ, .int .i64 lR, .int .i64 gN, .bool gO], .int .i64 4] rfl Z4 ?_; (with_reducible refine (cursor_Text.calls lQ lR gN gO 4 fr kY kZ io ip _ oz.out).mono ?_); rintro e ub ⟨rfl, hb⟩; refine ⟨_, rfl, ?_⟩; replace dY := Aside0.mk (Kd.R_below (by (with_reducible repeat (first | apply Kd.R_alloc | apply Kd.R_drewN | apply Kd.R_drew)); exact (Kd.R_mono (Kd.R_mono (Kd.R_far (p := ⟨eH, 3, none⟩) (Kd.R_far (p := ⟨eH, 2, none⟩) (Kd.R_far (p := ⟨eH, 1, none⟩) (Kd.R_far (p := ⟨eH, 0, none⟩) (Kd.R_far (p := ⟨eG, 12, none⟩) (Kd.R_types (Kd.R_types dY.out dW.out Z27) eQ.out Z27) (fun _ hk => hk.1.2) (.int .i64 eX)) (fun _ hk => hk.2) (.string lQ)) (fun _ hk => hk.2) (.int .i64 lR)) (fun _ hk => hk.2) (.int .i64 gN)) (fun _ hk => hk.2) (.bool gO)) (fun _ h_ => h_.1)) (fun _ h_ => h_.1))) hb); replace aa := Aside0.mk (blk_below (g := ab) (o := .cells #[.int .i64 0, .int .i64 0, .int .i64 0, .string ⟨#[]⟩, .int .i64 0, .int .i64 0, .string ⟨#[]⟩, .int .i64 0, .int .i64 0, .string ⟨#[]⟩, .int .i64 0, .string ⟨#[]⟩, .int .i64 0, .int .i64 0, .int .i64 0, .int .i64 0, .int .i64 0, .int .i64 0, .int .i64 0, .string ⟨#[]⟩, .string ⟨#[]⟩, .slice none 0 0, .int .i64 0, .string ⟨#[]⟩, .slice none 0 0] 25 (0, 0)) Z30 hb); replace dW := Aside0.mk (blk_below (g := eG) (o := .cells #[.int .i64 4, .int .i64 0, .int .i64 0, .string ⟨#[]⟩, .int .i64 0, .int .i64 0, .string ⟨#[]⟩, .int .i64 (wrap64 (bt a0 2)), .int .i64 0, .string ⟨#[]⟩, .int .i64 0, .string ⟨#[]⟩, .int .i64 eX, .int .i64 0, .int .i64 0, .int .i64 (wrap64 ((bt a0 1) / 64)), .int .i64 (wrap64 (bt a0 3)), .int .i64 0, .int .i64 0, .string fc, .string ⟨#[]⟩, .slice none 0 0, .int .i64 0, .string ⟨#[]⟩, .slice fB dN.length fC] 25 (0, 0)) (by (with_reducible repeat (first | refine blk_drewN ?_ _ | refine blk_drew ?_ | refine blk_alloc ?_ _)); refine blk_far ?_ cq.out _; (with_reducible repeat (first | refine blk_drewN ?_ _ | refine blk_drew ?_ | refine blk_alloc ?_ _)); refine blk_far ?_ cq.out _; (with_reducible repeat (first | refine blk_drewN ?_ _ | refine blk_drew ?_ | refine blk_alloc ?_ _)); refine blk_far ?_ cq.out _; (with_reducible repeat (first | refine blk_drewN ?_ _ | refine blk_drew ?_ | refine blk_alloc ?_ _)); refine blk_far ?_ cq.out _; (with_reducible repeat (first | refine blk_drewN ?_ _ | refine blk_drew ?_ | refine blk_alloc ?_ _)); refine blk_put (cs := #[.int .i64 4, .int .i64 0, .int .i64 0, .string ⟨#[]⟩, .int .i64 0, .int .i64 0, .string ⟨#[]⟩, .int .i64 (wrap64 (bt a0 2)), .int .i64 0, .string ⟨#[]⟩, .int .i64 0, .string ⟨#[]⟩, .int .i64 0, .int .i64 0, .int .i64 0, .int .i64 (wrap64 ((bt a0 1) / 64)), .int .i64 (wrap64 (bt a0 3)), .int .i64 0, .int .i64 0, .string fc, .string ⟨#[]⟩, .slice none 0 0, .int .i64 0, .string ⟨#[]⟩, .slice fB dN.length fC]) ?_ 12 _ rfl; (with_reducible repeat (first | refine blk_drewN ?_ _ | refine blk_drew ?_ | refine blk_alloc ?_ _)); exact dW.out) hb); replace eQ := Aside0.mk (blk_below (g := eH) (o := .cells #[.string lQ, .int .i64 lR, .int .i64 gN, .bool gO] 60 (0, 0)) Z55 hb); replace HB := Aside0.mk (below_step Z35 hb); clear hb; (try clear hk); have hcz80 := cells_25 dW.out; have hcz81 := cells_4 eQ.out) | ((with_reducible refine gate_callee (f := 62) rfl ?_); refine goesL_ (some 89) rfl rfl Try.func62 Z14 rfl #[.agg #[.string kY, .int .i64 kZ, .int .i64 io, .bool ip], .int .i64 4] rfl Z4 ?_; (with_reducible refine (cursor_Num.calls kY kZ io ip 4 gP ja jb jc jd _ uz.out).mono ?_); rintro e w82 ⟨rfl, hb⟩; refine ⟨_, rfl, ?_⟩; replace dY := Aside0.mk (Kd.R_below (by (with_reducible repeat (first | apply Kd.R_alloc | apply Kd.R_drewN | apply Kd.R_drew)); exact (Kd.R_mono (Kd.R_mono (Kd.R_far (p := ⟨eH, 3, none⟩) (Kd.R_far (p := ⟨eH, 2, none⟩) (Kd.R_far (p := ⟨eH, 1, none⟩) (Kd.R_far (p := ⟨eH, 0, none⟩) (Kd.R_far (p := ⟨eG, 20, none⟩) (Kd.R_types (Kd.R_types dY.out dW.out Z27) eQ.out Z27) (fun _ hk => hk.1.2) (.string fr)) (fun _ hk => hk.2) (.string kY)) (fun _ hk => hk.2) (.int .i64 kZ)) (fun _ hk => hk.2) (.int .i64 io)) (fun _ hk => hk.2) (.bool ip)) (fun _ h_ => h_.1)) (fun _ h_ => h_.1))) hb); replace aa := Aside0.mk (blk_below (g := ab) (o := .cells #[.int .i64 0, .int .i64 0, .int .i64 0, .string ⟨#[]⟩, .int .i64 0, .int .i64 0, .string ⟨#[]⟩, .int .i64 0, .int .i64 0, .string ⟨#[]⟩, .int .i64 0, .string ⟨#[]⟩, .int .i64 0, .int .i64 0, .int .i64 0, .int .i64 0, .int .i64 0, .int .i64 0, .int .i64 0, .string ⟨#[]⟩, .string ⟨#[]⟩, .slice none 0 0, .int .i64 0, .string ⟨#[]⟩, .slice none 0 0] 25 (0, 0)) Z30 hb); replace dW := Aside0.mk (blk_below (g := eG) (o := .cells #[.int .i64 4, .int .i64 0, .int .i64 0, .string ⟨#[]⟩, .int .i64 0, .int .i64 0, .string ⟨#[]⟩, .int .i64 (wrap64 (bt a0 2)), .int .i64 0, .string ⟨#[]⟩, .int .i64 0, .string ⟨#[]⟩, .int .i64 eX, .int .i64 0, .int .i64 0, .int .i64 (wrap64 ((bt a0 1) / 64)), .int .i64 (wrap64 (bt a0 3)), .int .i64 0, .int .i64 0, .string fc, .string fr, .slice none 0 0, .int .i64 0, .string ⟨#[]⟩, .slice fB dN.length fC] 25 (0, 0)) (by (with_reducible repeat (first | refine blk_drewN ?_ _ | refine blk_drew ?_ | refine blk_alloc ?_ _)); refine blk_far ?_ cq.out _; (with_reducible repeat (first | refine blk_drewN ?_ _ | refine blk_drew ?_ | refine blk_alloc ?_ _)); refine blk_far ?_ cq.out _; (with_reducible repeat (first | refine blk_drewN ?_ _ | refine blk_drew ?_ | refine blk_alloc ?_ _)); refine blk_far ?_ cq.out _; (with_reducible repeat (first | refine blk_drewN ?_ _ | refine blk_drew ?_ | refine blk_alloc ?_ _)); refine blk_far ?_ cq.out _; (with_reducible repeat (first | refine blk_drewN ?_ _ | refine blk_drew ?_ | refine blk_alloc ?_ _)); refine blk_put (cs := #[.int .i64 4, .int .i64 0, .int .i64 0, .string ⟨#[]⟩, .int .i64 0, .int .i64 0, .string ⟨#[]⟩, .int .i64 (wrap64 (bt a0 2)), .int .i64 0, .string ⟨#[]⟩, .int .i64 0, .string ⟨#[]⟩, .int .i64 eX, .int .i64 0, .int .i64 0, .int .i64 (wrap64 ((bt a0 1) / 64)), .int .i64 (wrap64 (bt a0 3)), .int .i64 0, .int .i64 0, .string fc, .string ⟨#[]⟩, .slice none 0 0, .int .i64 0, .string ⟨#[]⟩, .slice fB dN.length fC]) ?_ 20 _ rfl; (with_reducible repeat (first | refine blk_drewN ?_ _ | refine blk_drew ?_ | refine blk_alloc ?_ _)); exact dW.out) hb); replace eQ := Aside0.mk (blk_below (g := eH) (o := .cells #[.string kY, .int .i64 kZ, .int .i64 io, .bool ip] 60 (0, 0)) Z55 hb); replace HB := Aside0.mk (below_step Z35 hb); clear hb; (try clear hk); have hcz83 := cells_25 dW.out; have hcz84 := cells_25 aa.out) | ((with_reducible refine Pre.gate_store 25 rfl ?_); refine Pre.store_abs (cur := #[.int .i64 0, .int .i64 0, .int .i64 0, .string ⟨#[]⟩, .int .i64 0, .int .i64 0, .string ⟨#[]⟩, .int .i64 0, .int .i64 0, .string ⟨#[]⟩, .int .i64 0, .string ⟨#[]⟩, .int .i64 0, .int .i64 0, .int .i64 0, .int .i64 0, .int .i64 0, .int .i64 0, .int .i64 0, .string ⟨#[]⟩, .string ⟨#[]⟩, .slice none 0 0, .int .i64 0, .string ⟨#[]⟩, .slice none 0 0]) (e := 25) rfl rfl rfl Z22 Z22 (by (with_reducible repeat (first | refine blk_drewN ?_ _ | refine blk_drew ?_ | refine blk_alloc ?_ _)); refine blk_far ?_ gw.out _; (with_reducible repeat (first | refine blk_drewN ?_ _ | refine blk_drew ?_ | refine blk_alloc ?_ _)); exact aa.out) Z14 Z22 Z22 ?_; intro pm hbS_ sS_; have bl : Aside0 (Kd.R k48 48 pm w.heap.size (fun _ => True) (.slice fB dN.length fC) dN) := ⟨Kd.R_mono (Pre.R_sets sS_ (Kd.R_far (p := ⟨eG, 14, none⟩) (Kd.R_types (Kd.R_types dY.out dW.out Z27) aa.out Z27) (fun _ hk => hk.1.2) (.int .i64 gP)) (fun _ hk => hk.2)) (fun _ hk => trivial)⟩; have bm : Aside0 (pm.heap[ab]? = some (.cells #[.int .i64 4, .int .i64 0, .int .i64 0, .string ⟨#[]⟩, .int .i64 0, .int .i64 0, .string ⟨#[]⟩, .int .i64 (wrap64 (bt a0 2)), .int .i64 0, .string ⟨#[]⟩, .int .i64 0, .string ⟨#[]⟩, .int .i64 eX, .int .i64 0, .int .i64 gP, .int .i64 (wrap64 ((bt a0 1) / 64)), .int .i64 (wrap64 (bt a0 3)), .int .i64 0, .int .i64 0, .string fc, .string fr, .slice none 0 0, .int .i64 0, .string ⟨#[]⟩, .slice fB dN.length fC] 25 (0, 0))) := ⟨hbS_⟩; have bI : Aside0 (pm.heap[eG]? = some (.cells #[.int .i64 4, .int .i64 0, .int .i64 0, .string ⟨#[]⟩, .int .i64 0, .int .i64 0, .string ⟨#[]⟩, .int .i64 (wrap64 (bt a0 2)), .int .i64 0, .string ⟨#[]⟩, .int .i64 0, .string ⟨#[]⟩, .int .i64 eX, .int .i64 0, .int .i64 gP, .int .i64 (wrap64 ((bt a0 1) / 64)), .int .i64 (wrap64 (bt a0 3)), .int .i64 0, .int .i64 0, .string fc, .string fr, .slice none 0 0, .int .i64 0, .string ⟨#[]⟩, .slice fB dN.length fC] 25 (0, 0))) := ⟨sS_.blk (by (with_reducible repeat (first | refine blk_drewN ?_ _ | refine blk_drew ?_ | refine blk_alloc ?_ _)); refine blk_put (cs := #[.int .i64 4, .int .i64 0, .int .i64 0, .string ⟨#[]⟩, .int .i64 0, .int .i64 0, .string ⟨#[]⟩, .int .i64 (wrap64 (bt a0 2)), .int .i64 0, .string ⟨#[]⟩, .int .i64 0, .string ⟨#[]⟩, .int .i64 eX, .int .i64 0, .int .i64 0, .int .i64 (wrap64 ((bt a0 1) / 64)), .int .i64 (wrap64 (bt a0 3)), .int .i64 0, .int .i64 0, .string fc, .string fr, .slice none 0 0, .int .i64 0, .string ⟨#[]⟩, .slice fB dN.length fC]) ?_ 14 _ rfl; (with_reducible repeat (first | refine blk_drewN ?_ _ | refine blk_drew ?_ | refine blk_alloc ?_ _)); exact dW.out) jB.out⟩; have dU : Aside0 (pm.heap[eH]? = some (.cells #[.string kY, .int .i64 kZ, .int .i64 io, .bool ip] 60 (0, 0))) := ⟨sS_.blk (by (with_reducible repeat (first | refine blk_drewN ?_ _ | refine blk_drew ?_ | refine blk_alloc ?_ _)); refine blk_far ?_ iq.out _; (with_reducible repeat (first | refine blk_drewN ?_ _ | refine blk_drew ?_ | refine blk_alloc ?_ _)); exact eQ.out) jC.out⟩; have hL : Aside0 (Below w.heap.size w pm) := ⟨sS_.below Z35 bf.out⟩; clear hbS_ sS_; replace dY := bl; replace aa := bm; replace dW := bI; replace eQ := dU; replace HB := hL; clear bl bm bI dU hL))
           refine bodyPost_ret (results_ctt rfl _ _ ab 25 #[.int .i64 4, .int .i64 0, .int .i64 0, .string ⟨#[]⟩, .int .i64 0, .int .i64 0, .string ⟨#[]⟩, .int .i64 (wrap64 (bt a0 2)), .int .i64 0, .string ⟨#[]⟩, .int .i64 0, .string ⟨#[]⟩, .int .i64 eX, .int .i64 0, .int .i64 gP, .int .i64 (wrap64 ((bt a0 1) / 64)), .int .i64 (wrap64 (bt a0 3)), .int .i64 0, .int .i64 0, .string fc, .string fr, .slice none 0 0, .int .i64 0, .string ⟨#[]⟩, .slice fB dN.length fC] (0, 0) _ rfl Z2 Try.underlying25 rfl Z14) rfl ?_
           exact ⟨_, _, Z5, Z7, Z72, Z35⟩
          ·rw [if_neg jM] at H
           exact absurd H Z59
         ·rw [if_neg dP] at H
          have lk : (eS == 0) = false := beq_eq_false_iff_ne.mpr dP
          have ll : (eS != 0) = true := bne_iff_ne.mpr dP
          simp only [Option.some.injEq, Prod.mk.injEq] at H
          obtain ⟨rfl, rfl, rfl, rfl, rfl, rfl, rfl, rfl, rfl, rfl, rfl, rfl, rfl, rfl, rfl, rfl, rfl, rfl, rfl, rfl, rfl, rfl, rfl, rfl, rfl, rfl, rfl⟩ := H
          try go_wp2_with (first | ((with_reducible refine gate_dst (N := 62) rfl ?_); refine Pre.build_event 62 25 [(0, Go.Operand.const (Go.Value.int Go.IntKind.i64 4)), (15, Go.Operand.tmp 54), (7, Go.Operand.tmp 57), (16, Go.Operand.tmp 60), (24, Go.Operand.tmp 61)] rfl rfl rfl (rrep_Get.bd62 _ _ _ _ _ _ _) ?_) | ((with_reducible refine Pre.gate_load 25 rfl ?_); (try (refine gate_guard Z22 ?_; dsimp only)); refine Pre.load_event rfl rfl rfl Z22 Z13 Try.underlying25 rfl Z14 ?_))
          have bl := Aside0.mk (blk_drew aa.out)
          have bm := Aside0.mk (below_drew1 HB.out)
          clear aa
          clear HB
          have aa := bl
          have HB := bm
          clear bl bm
          have p18 : 0 ≤ (1 : Int) := Z34
          have q18 : 1 < a0.size := (by have : (1 : Int) < (a0.size : Int) := of_decide_eq_true Z6; omega)
          have hx18 : ∀ h : 1 < a0.size, ((a0[1]'h).toNat : Int) = bt a0 1 := bt_at a0 1
          clear p18
          have qi18 : (1 < (a0.size : Int)) = True := eq_true (of_decide_eq_true Z6)
          replace q18 := eq_true q18
          have p20 : 0 ≤ (2 : Int) := Z34
          have q20 : 2 < a0.size := (by have : (2 : Int) < (a0.size : Int) := of_decide_eq_true Z6; omega)
          have hx20 : ∀ h : 2 < a0.size, ((a0[2]'h).toNat : Int) = bt a0 2 := bt_at a0 2
          clear p20
          have qi20 : (2 < (a0.size : Int)) = True := eq_true (of_decide_eq_true Z6)
          replace q20 := eq_true q20
          refine start_ (n := 8) (S := fun w' => True) (ds := []) (Sq.b 8 0) Z14 rfl rfl trivial (fun hHeld => ?_); refine with_tabW rrep_Get.tab5 rrep_Get.bits5 (fun HT_ HW_ => ?_)
          generalize wc.drew = w86 at aa HB hHeld ⊢
          refine Sq.pur 0 (some 29) (Sq.b 8 1) HT_.out ?_
          refine Sq.pur 3 (some 32) (Sq.b 8 9) HT_.out ?_
          refine Sq.tak 1 (some 30) (Sq.b 8 11) HT_.out HW_.out hHeld (v := ?_) (a' := ?_) ?_ ?_ ?_
          rotate_left
          ·intro w' _
           go_simp
           with_reducible rfl
          rotate_left
          ·simp only [Act.put, Sq.s1, Sq.s2, Sq.s3, i64_w, i32_w]
           rfl
          refine Sq.pur 2 (some 31) (Sq.b 8 15) HT_.out ?_
          refine Sq.tak 4 (some 33) (Sq.b 8 31) HT_.out HW_.out hHeld (v := ?_) (a' := ?_) ?_ ?_ ?_
          rotate_left
          ·intro w' _
           go_simp
           with_reducible rfl
          rotate_left
          ·simp only [Act.put, Sq.s1, Sq.s2, Sq.s3, i64_w, i32_w]
           rfl
          refine Sq.pur 5 (some 34) (Sq.b 8 63) HT_.out ?_
          refine Sq.pur 6 (some 35) (Sq.b 8 127) HT_.out ?_
          refine Sq.pur 7 (some 36) (Sq.b 8 255) HT_.out ?_
          refine done_ (done_of HT_.out Z14) ?_
          try go_wp2_with (first | ((with_reducible refine gate_dst (N := 62) rfl ?_); refine Pre.build_event 62 25 [(0, Go.Operand.const (Go.Value.int Go.IntKind.i64 4)), (15, Go.Operand.tmp 54), (7, Go.Operand.tmp 57), (16, Go.Operand.tmp 60), (24, Go.Operand.tmp 61)] rfl rfl rfl (rrep_Get.bd62 _ _ _ _ _ _ _) ?_) | ((with_reducible refine Pre.gate_load 25 rfl ?_); (try (refine gate_guard Z22 ?_; dsimp only)); refine Pre.load_event rfl rfl rfl Z22 Z13 Try.underlying25 rfl Z14 ?_) | ((with_reducible refine gate_callee (f := 59) rfl ?_); refine goesL_ (some 41) rfl rfl Try.func59 Z14 rfl #[.string (a0.extract 20 a0.size)] rfl Z4 ?_; (with_reducible refine (ext_Get.calls kj1 (a0.extract 20 a0.size) dN fA eS _ nK.out).mono ?_); rintro e pn ⟨qR, rfl, ho0, hb⟩; refine ⟨_, rfl, ?_⟩; have dY := Aside0.mk (Kd.R_lower ho0 (below_size Z0)); replace aa := Aside0.mk (blk_below (g := ab) Z2 hb); replace HB := Aside0.mk (below_step Z0 hb); clear hb ho0; have hcz88 := cells_25 aa.out) | ((with_reducible refine Pre.gate_store 25 rfl ?_); refine Pre.store_abs (cur := #[.int .i64 0, .int .i64 0, .int .i64 0, .string ⟨#[]⟩, .int .i64 0, .int .i64 0, .string ⟨#[]⟩, .int .i64 0, .int .i64 0, .string ⟨#[]⟩, .int .i64 0, .string ⟨#[]⟩, .int .i64 0, .int .i64 0, .int .i64 0, .int .i64 0, .int .i64 0, .int .i64 0, .int .i64 0, .string ⟨#[]⟩, .string ⟨#[]⟩, .slice none 0 0, .int .i64 0, .string ⟨#[]⟩, .slice none 0 0]) (e := 25) rfl rfl rfl Z22 Z22 Z2 Z14 Z22 Z22 ?_; intro sX hbS_ sS_; have bl : Aside0 (Kd.R k48 48 sX w.heap.size (fun _ => True) qR dN) := ⟨Kd.R_mono (Pre.R_sets sS_ (Kd.R_types dY.out aa.out Z27) (fun _ hk => hk.2)) (fun _ hk => trivial)⟩; have bm : Aside0 (sX.heap[ab]? = some (.cells #[.int .i64 0, .int .i64 0, .int .i64 0, .string ⟨#[]⟩, .int .i64 0, .int .i64 0, .string ⟨#[]⟩, .int .i64 0, .int .i64 0, .string ⟨#[]⟩, .int .i64 0, .string ⟨#[]⟩, .int .i64 0, .int .i64 0, .int .i64 0, .int .i64 0, .int .i64 0, .int .i64 0, .int .i64 0, .string ⟨#[]⟩, .string ⟨#[]⟩, .slice none 0 0, .int .i64 0, .string ⟨#[]⟩, .slice none 0 0] 25 (0, 0))) := ⟨hbS_⟩; have bI : Aside0 (Below w.heap.size w sX) := ⟨sS_.below Z0 bf.out⟩; clear hbS_ sS_; replace dY := bl; replace aa := bm; replace HB := bI; clear bl bm bI))
          refine bodyPost_ret (results_ctt rfl _ _ ab 25 #[.int .i64 0, .int .i64 0, .int .i64 0, .string ⟨#[]⟩, .int .i64 0, .int .i64 0, .string ⟨#[]⟩, .int .i64 0, .int .i64 0, .string ⟨#[]⟩, .int .i64 0, .string ⟨#[]⟩, .int .i64 0, .int .i64 0, .int .i64 0, .int .i64 0, .int .i64 0, .int .i64 0, .int .i64 0, .string ⟨#[]⟩, .string ⟨#[]⟩, .slice none 0 0, .int .i64 0, .string ⟨#[]⟩, .slice none 0 0] (0, 0) _ rfl Z2 Try.underlying25 rfl Z14) rfl ?_
          exact ⟨_, _, Z5, Z7, Z20, Z0⟩
        ·rw [if_neg iM] at H
         exact absurd H Z59
       ·rw [if_neg eF] at H
        have jx : ((Go.bits .or .u8 (Go.bits .and .u8 (bt a0 1) 63) (Go.bits .and .u8 (bt a0 2) 224)) == 0) = false := beq_eq_false_iff_ne.mpr eF
        have oy : ((Go.bits .or .u8 (Go.bits .and .u8 (bt a0 1) 63) (Go.bits .and .u8 (bt a0 2) 224)) != 0) = true := bne_iff_ne.mpr eF
        simp only [Option.some.injEq, Prod.mk.injEq] at H
        obtain ⟨rfl, rfl, rfl, rfl, rfl, rfl, rfl, rfl, rfl, rfl, rfl, rfl, rfl, rfl, rfl, rfl, rfl, rfl, rfl, rfl, rfl, rfl, rfl, rfl, rfl, rfl, rfl⟩ := H
        try go_wp2_with (first | ((with_reducible refine gate_dst (N := 62) rfl ?_); refine Pre.build_event 62 25 [(0, Go.Operand.const (Go.Value.int Go.IntKind.i64 4)), (15, Go.Operand.tmp 54), (7, Go.Operand.tmp 57), (16, Go.Operand.tmp 60), (24, Go.Operand.tmp 61)] rfl rfl rfl (rrep_Get.bd62 _ _ _ _ _ _ _) ?_) | ((with_reducible refine Pre.gate_load 25 rfl ?_); (try (refine gate_guard Z22 ?_; dsimp only)); refine Pre.load_event rfl rfl rfl Z22 Z13 Try.underlying25 rfl Z14 ?_))
        have bl := Aside0.mk (blk_drew aa.out)
        have bm := Aside0.mk (below_drew1 HB.out)
        clear aa
        clear HB
        have aa := bl
        have HB := bm
        clear bl bm
        have p18 : 0 ≤ (1 : Int) := Z34
        have q18 : 1 < a0.size := (by have : (1 : Int) < (a0.size : Int) := of_decide_eq_true Z6; omega)
        have hx18 : ∀ h : 1 < a0.size, ((a0[1]'h).toNat : Int) = bt a0 1 := bt_at a0 1
        clear p18
        have qi18 : (1 < (a0.size : Int)) = True := eq_true (of_decide_eq_true Z6)
        replace q18 := eq_true q18
        have p20 : 0 ≤ (2 : Int) := Z34
        have q20 : 2 < a0.size := (by have : (2 : Int) < (a0.size : Int) := of_decide_eq_true Z6; omega)
        have hx20 : ∀ h : 2 < a0.size, ((a0[2]'h).toNat : Int) = bt a0 2 := bt_at a0 2
        clear p20
        have qi20 : (2 < (a0.size : Int)) = True := eq_true (of_decide_eq_true Z6)
        replace q20 := eq_true q20
        refine start_ (n := 8) (S := fun w' => True) (ds := []) (Sq.b 8 0) Z14 rfl rfl trivial (fun hHeld => ?_); refine with_tabW rrep_Get.tab5 rrep_Get.bits5 (fun HT_ HW_ => ?_)
        generalize wc.drew = w90 at aa HB hHeld ⊢
        refine Sq.pur 0 (some 29) (Sq.b 8 1) HT_.out ?_
        refine Sq.pur 3 (some 32) (Sq.b 8 9) HT_.out ?_
        refine Sq.tak 1 (some 30) (Sq.b 8 11) HT_.out HW_.out hHeld (v := ?_) (a' := ?_) ?_ ?_ ?_
        rotate_left
        ·intro w' _
         go_simp
         with_reducible rfl
        rotate_left
        ·simp only [Act.put, Sq.s1, Sq.s2, Sq.s3, i64_w, i32_w]
         rfl
        refine Sq.pur 2 (some 31) (Sq.b 8 15) HT_.out ?_
        refine Sq.tak 4 (some 33) (Sq.b 8 31) HT_.out HW_.out hHeld (v := ?_) (a' := ?_) ?_ ?_ ?_
        rotate_left
        ·intro w' _
         go_simp
         with_reducible rfl
        rotate_left
        ·simp only [Act.put, Sq.s1, Sq.s2, Sq.s3, i64_w, i32_w]
         rfl
        refine Sq.pur 5 (some 34) (Sq.b 8 63) HT_.out ?_
        refine Sq.pur 6 (some 35) (Sq.b 8 127) HT_.out ?_
        refine Sq.pur 7 (some 36) (Sq.b 8 255) HT_.out ?_
        refine done_ (done_of HT_.out Z14) ?_
        have hcz91 := cells_25 aa.out
        try go_wp2_with (first | ((with_reducible refine gate_dst (N := 62) rfl ?_); refine Pre.build_event 62 25 [(0, Go.Operand.const (Go.Value.int Go.IntKind.i64 4)), (15, Go.Operand.tmp 54), (7, Go.Operand.tmp 57), (16, Go.Operand.tmp 60), (24, Go.Operand.tmp 61)] rfl rfl rfl (rrep_Get.bd62 _ _ _ _ _ _ _) ?_) | ((with_reducible refine Pre.gate_load 25 rfl ?_); (try (refine gate_guard Z22 ?_; dsimp only)); refine Pre.load_event rfl rfl rfl Z22 Z13 Try.underlying25 rfl Z14 ?_) | ((with_reducible refine Pre.gate_store 25 rfl ?_); refine Pre.store_abs (cur := #[.int .i64 0, .int .i64 0, .int .i64 0, .string ⟨#[]⟩, .int .i64 0, .int .i64 0, .string ⟨#[]⟩, .int .i64 0, .int .i64 0, .string ⟨#[]⟩, .int .i64 0, .string ⟨#[]⟩, .int .i64 0, .int .i64 0, .int .i64 0, .int .i64 0, .int .i64 0, .int .i64 0, .int .i64 0, .string ⟨#[]⟩, .string ⟨#[]⟩, .slice none 0 0, .int .i64 0, .string ⟨#[]⟩, .slice none 0 0]) (e := 25) rfl rfl rfl Z22 Z22 Z2 Z14 Z22 Z22 ?_; intro uc hbS_ sS_; have bl : Aside0 (uc.heap[ab]? = some (.cells #[.int .i64 0, .int .i64 0, .int .i64 0, .string ⟨#[]⟩, .int .i64 0, .int .i64 0, .string ⟨#[]⟩, .int .i64 0, .int .i64 0, .string ⟨#[]⟩, .int .i64 0, .string ⟨#[]⟩, .int .i64 0, .int .i64 0, .int .i64 0, .int .i64 0, .int .i64 0, .int .i64 0, .int .i64 0, .string ⟨#[]⟩, .string ⟨#[]⟩, .slice none 0 0, .int .i64 0, .string ⟨#[]⟩, .slice none 0 0] 25 (0, 0))) := ⟨hbS_⟩; have bm : Aside0 (Below w.heap.size w uc) := ⟨sS_.below Z0 bf.out⟩; clear hbS_ sS_; replace aa := bl; replace HB := bm; clear bl bm))
        refine bodyPost_ret (results_ctt rfl _ _ ab 25 #[.int .i64 0, .int .i64 0, .int .i64 0, .string ⟨#[]⟩, .int .i64 0, .int .i64 0, .string ⟨#[]⟩, .int .i64 0, .int .i64 0, .string ⟨#[]⟩, .int .i64 0, .string ⟨#[]⟩, .int .i64 0, .int .i64 0, .int .i64 0, .int .i64 0, .int .i64 0, .int .i64 0, .int .i64 0, .string ⟨#[]⟩, .string ⟨#[]⟩, .slice none 0 0, .int .i64 0, .string ⟨#[]⟩, .slice none 0 0] (0, 0) _ rfl Z2 Try.underlying25 rfl Z14) rfl ?_
        exact ⟨_, _, Z5, Z7, Z20, Z0⟩
      ·rw [if_neg gb] at H
       exact absurd H Z59
     ·rw [if_neg iL] at H
      exact absurd H Z59

end Go.Proofs.Ytccjakjjaemmkaa.PAP
