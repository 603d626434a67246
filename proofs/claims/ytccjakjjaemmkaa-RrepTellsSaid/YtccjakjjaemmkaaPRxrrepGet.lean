-- Written by mp.py, a program of this work (wip/tools), out of the translation; Lean checks it.
import Derived.Test.YtccjakjjaemmkaaPRxZ
import Derived.Test.YtccjakjjaemmkaaPRxcursor
import Derived.Test.YtccjakjjaemmkaaPRxext
import Derived.Test.YtccjakjjaemmkaaPRxrrep
import Derived.Test.YtccjakjjaemmkaaAbs
namespace Go.Proofs.Ytccjakjjaemmkaa.PR
open Go.RowKit Go.Proofs.YtccjakjjaemmkaaW.PrintWords Go.Proofs.YtccjakjjaemmkaaW.PrintLast Go.Proofs.YtccjakjjaemmkaaW.PrintMore
attribute [local go_sem] max2_int min2_int max_two min_two max_three min_three max_four min_four   -- for this text's walks alone
set_option linter.unusedVariables false
set_option linter.unusedSimpArgs false

/-! ### rrep_Get: function 38 -/
def rrep_Get.j0 : Nat → ByteArray → Bool → Option (Int × Int × Int × ByteArray × Int × Int × ByteArray × Int × Int × ByteArray × Int × ByteArray × Int × Int × Int × Int × Int × Int × Int × ByteArray × ByteArray × (List (S46)) × Int × ByteArray × (List (S48)) × Int × Int)
 | 0, _, _ => none
 | k + 1, x0, wJ => if wJ = true then ((rrep_ack.f k x0).bind fun bh => (some (bh.1, bh.2.1, bh.2.2.1, bh.2.2.2.1, bh.2.2.2.2.1, bh.2.2.2.2.2.1, bh.2.2.2.2.2.2.1, bh.2.2.2.2.2.2.2.1, bh.2.2.2.2.2.2.2.2.1, bh.2.2.2.2.2.2.2.2.2.1, bh.2.2.2.2.2.2.2.2.2.2.1, bh.2.2.2.2.2.2.2.2.2.2.2.1, bh.2.2.2.2.2.2.2.2.2.2.2.2.1, bh.2.2.2.2.2.2.2.2.2.2.2.2.2.1, bh.2.2.2.2.2.2.2.2.2.2.2.2.2.2.1, bh.2.2.2.2.2.2.2.2.2.2.2.2.2.2.2.1, bh.2.2.2.2.2.2.2.2.2.2.2.2.2.2.2.2.1, bh.2.2.2.2.2.2.2.2.2.2.2.2.2.2.2.2.2.1, bh.2.2.2.2.2.2.2.2.2.2.2.2.2.2.2.2.2.2.1, bh.2.2.2.2.2.2.2.2.2.2.2.2.2.2.2.2.2.2.2.1, bh.2.2.2.2.2.2.2.2.2.2.2.2.2.2.2.2.2.2.2.2.1, bh.2.2.2.2.2.2.2.2.2.2.2.2.2.2.2.2.2.2.2.2.2.1, bh.2.2.2.2.2.2.2.2.2.2.2.2.2.2.2.2.2.2.2.2.2.2.1, bh.2.2.2.2.2.2.2.2.2.2.2.2.2.2.2.2.2.2.2.2.2.2.2.1, bh.2.2.2.2.2.2.2.2.2.2.2.2.2.2.2.2.2.2.2.2.2.2.2.2.1, bh.2.2.2.2.2.2.2.2.2.2.2.2.2.2.2.2.2.2.2.2.2.2.2.2.2.1, bh.2.2.2.2.2.2.2.2.2.2.2.2.2.2.2.2.2.2.2.2.2.2.2.2.2.2))) else (if (x0.size : Int) < 20 then (some (0, 0, 0, (⟨#[]⟩ : ByteArray), 0, 0, (⟨#[]⟩ : ByteArray), 0, 0, (⟨#[]⟩ : ByteArray), 0, (⟨#[]⟩ : ByteArray), 0, 0, 0, 0, 0, 0, 0, (⟨#[]⟩ : ByteArray), (⟨#[]⟩ : ByteArray), ([] : List (S46)), 0, (⟨#[]⟩ : ByteArray), ([] : List (S48)), (x0.size : Int), 2)) else (if 1 < (x0.size : Int) then (if 2 < (x0.size : Int) then (if (Go.bits .or .u8 (Go.bits .and .u8 (bt x0 1) 63) (Go.bits .and .u8 (bt x0 2) 224)) = 0 then (if 20 ≤ (x0.size : Int) then ((ext_Get.f k (x0.extract 20 x0.size)).bind fun cf => (if cf.2.2 = 0 then (if 3 < (x0.size : Int) then ((cursor_New.f x0).bind fun iw => ((cursor_Text.f iw.1 iw.2.1 iw.2.2.1 iw.2.2.2 4).bind fun ht => ((cursor_Text.f ht.2.1 ht.2.2.1 ht.2.2.2.1 ht.2.2.2.2 4).bind fun fy => ((cursor_Num.f fy.2.1 fy.2.2.1 fy.2.2.2.1 fy.2.2.2.2 4).bind fun ek => ((cursor_Text.f ek.2.1 ek.2.2.1 ek.2.2.2.1 ek.2.2.2.2 4).bind fun dC => ((cursor_Num.f dC.2.1 dC.2.2.1 dC.2.2.2.1 dC.2.2.2.2 4).bind fun ip => (some (4, 0, 0, (⟨#[]⟩ : ByteArray), 0, 0, (⟨#[]⟩ : ByteArray), wrap64 (bt x0 2), 0, (⟨#[]⟩ : ByteArray), 0, (⟨#[]⟩ : ByteArray), ek.1, 0, ip.1, wrap64 ((bt x0 1) / 64), wrap64 (bt x0 3), 0, 0, fy.1, dC.1, ([] : List (S46)), 0, (⟨#[]⟩ : ByteArray), cf.1, 0, 0)))))))) else (none)) else (some (0, 0, 0, (⟨#[]⟩ : ByteArray), 0, 0, (⟨#[]⟩ : ByteArray), 0, 0, (⟨#[]⟩ : ByteArray), 0, (⟨#[]⟩ : ByteArray), 0, 0, 0, 0, 0, 0, 0, (⟨#[]⟩ : ByteArray), (⟨#[]⟩ : ByteArray), ([] : List (S46)), 0, (⟨#[]⟩ : ByteArray), ([] : List (S48)), wrap64 (cf.2.1 + 20), cf.2.2)))) else (none)) else (some (0, 0, 0, (⟨#[]⟩ : ByteArray), 0, 0, (⟨#[]⟩ : ByteArray), 0, 0, (⟨#[]⟩ : ByteArray), 0, (⟨#[]⟩ : ByteArray), 0, 0, 0, 0, 0, 0, 0, (⟨#[]⟩ : ByteArray), (⟨#[]⟩ : ByteArray), ([] : List (S46)), 0, (⟨#[]⟩ : ByteArray), ([] : List (S48)), 1, 5))) else (none)) else (none)))
def rrep_Get.f (k : Nat) (a0 : ByteArray) : Option (Int × Int × Int × ByteArray × Int × Int × ByteArray × Int × Int × ByteArray × Int × ByteArray × Int × Int × Int × Int × Int × Int × Int × ByteArray × ByteArray × (List (S46)) × Int × ByteArray × (List (S48)) × Int × Int) := if a0.toList = ([] : List UInt8) then (rrep_Get.j0 k a0 false) else (if 0 < (a0.size : Int) then (rrep_Get.j0 k a0 ((bt a0 0) == 4)) else (none))
theorem rrep_Get.mono_l : ∀ k, (∀ y0 y1, LeO (rrep_Get.j0 k y0 y1) (rrep_Get.j0 (k + 1) y0 y1))
 | 0 => fun _ _ r h => by simp [rrep_Get.j0] at h
 | k + 1 => by
  have ih0 := rrep_Get.mono_l k
  ·intro y0 y1
   unfold rrep_Get.j0
   repeat' first
   | (with_reducible exact ih0 _ _)
   | (with_reducible exact ext_Get.mono _ _)
   | (with_reducible exact rrep_ack.mono _ _)
   | (with_reducible exact LeO.refl _)
   | (with_reducible exact LeO.none _)
   | (with_reducible refine LeO.ite ?_ ?_)
   | (with_reducible refine LeO.bind ?_ (fun _ => ?_))
   | exact ih0 _ _
   | exact ext_Get.mono _ _
   | exact rrep_ack.mono _ _
   | exact LeO.none _
   | refine LeO.ite ?_ ?_
   | refine LeO.bind ?_ (fun _ => ?_)
theorem rrep_Get.mono : ∀ a0 k, LeO (rrep_Get.f k a0) (rrep_Get.f (k + 1) a0) := by
 intro a0 k
 have ih0 := rrep_Get.mono_l k
 unfold rrep_Get.f
 repeat' first
   | (with_reducible exact ih0 _ _)
   | (with_reducible exact ext_Get.mono _ _)
   | (with_reducible exact rrep_ack.mono _ _)
   | (with_reducible exact LeO.refl _)
   | (with_reducible exact LeO.none _)
   | (with_reducible refine LeO.ite ?_ ?_)
   | (with_reducible refine LeO.bind ?_ (fun _ => ?_))
   | exact ih0 _ _
   | exact ext_Get.mono _ _
   | exact rrep_ack.mono _ _
   | exact LeO.none _
   | refine LeO.ite ?_ ?_
   | refine LeO.bind ?_ (fun _ => ?_)
def rrep_Get.T5 : Bool × List (List Nat × List Nat) := (true, [([], []), ([0], [0]), ([1], [1]), ([], []), ([3], [3]), ([4], [4]), ([2, 5], [2, 5]), ([6], [6])])
def rrep_Get.B5 : List Nat := [0, 1, 3, 0, 8, 24, 63, 127]
theorem rrep_Get.tab5 : rtab .any (opsOf Try.f38 5) = rrep_Get.T5 := by kernel_rfl
theorem rrep_Get.bits5 : waitsOk rrep_Get.T5.2 rrep_Get.B5 = true := by kernel_rfl
def rrep_Get.T10 : Bool × List (List Nat × List Nat) := (true, [([], []), ([0], [0]), ([1], [1]), ([2], [2]), ([], []), ([4], [4]), ([5], [5]), ([], []), ([7], [7]), ([8], [8]), ([], []), ([3, 6, 9, 10], [3, 6, 9, 10]), ([], []), ([12, 11, 0, 1, 2, 3, 4, 5, 6, 7, 8, 9, 10, 11, 12], [11, 12])])
def rrep_Get.B10 : List Nat := [0, 1, 3, 7, 0, 16, 48, 0, 128, 384, 0, 2047, 0, 8191]
theorem rrep_Get.tab10 : rtab .any (opsOf Try.f38 10) = rrep_Get.T10 := by kernel_rfl
theorem rrep_Get.bits10 : waitsOk rrep_Get.T10.2 rrep_Get.B10 = true := by kernel_rfl
set_option maxRecDepth 100000 in
theorem rrep_Get.bd62 (v0 : Int) (kd : Int) (v7 : Int) (kx : Int) (hL : Option Addr) (n24 fz : Nat) : Try.prog.built 25 [(0, .int .i64 v0), (15, .int .i64 kd), (7, .int .i64 v7), (16, .int .i64 kx), (24, .slice hL n24 fz)] = some #[.int .i64 v0, .int .i64 0, .int .i64 0, .string ⟨#[]⟩, .int .i64 0, .int .i64 0, .string ⟨#[]⟩, .int .i64 v7, .int .i64 0, .string ⟨#[]⟩, .int .i64 0, .string ⟨#[]⟩, .int .i64 0, .int .i64 0, .int .i64 0, .int .i64 kd, .int .i64 kx, .int .i64 0, .int .i64 0, .string ⟨#[]⟩, .string ⟨#[]⟩, .slice none 0 0, .int .i64 0, .string ⟨#[]⟩, .slice hL n24 fz] := by kernel_rfl
set_option maxHeartbeats 8000000 in
set_option maxRecDepth 100000 in
theorem rrep_Get.calls (k : Nat) (a0 : ByteArray) (r1 : Int) (r2 : Int) (r3 : Int) (r4 : ByteArray) (r5 : Int) (r6 : Int) (r7 : ByteArray) (r8 : Int) (r9 : Int) (r10 : ByteArray) (r11 : Int) (r12 : ByteArray) (r13 : Int) (r14 : Int) (r15 : Int) (r16 : Int) (r17 : Int) (r18 : Int) (r19 : Int) (r20 : ByteArray) (r21 : ByteArray) (r22 : List (S46)) (r23 : Int) (r24 : ByteArray) (r25 : List (S48)) (r26 : Int) (r27 : Int) (w : World) (h : rrep_Get.f k a0 = some (r1, r2, r3, r4, r5, r6, r7, r8, r9, r10, r11, r12, r13, r14, r15, r16, r17, r18, r19, r20, r21, r22, r23, r24, r25, r26, r27)) :
  Calls Try.prog 38 #[.string a0] w fun e w' => ∃ v21_ v24_ : Value, e = .returned (.tuple #[.agg #[.int .i64 r1, .int .i64 r2, .int .i64 r3, .string r4, .int .i64 r5, .int .i64 r6, .string r7, .int .i64 r8, .int .i64 r9, .string r10, .int .i64 r11, .string r12, .int .i64 r13, .int .i64 r14, .int .i64 r15, .int .i64 r16, .int .i64 r17, .int .i64 r18, .int .i64 r19, .string r20, .string r21, v21_, .int .i64 r23, .string r24, v24_], .int .i64 r26, .int .i64 r27]) ∧ Kd.R k46 46 w' w.heap.size (fun _ => True) v21_ r22 ∧ Kd.R k48 48 w' w.heap.size (fun _ => True) v24_ r25 ∧ Below w.heap.size w w' := by
 have gB := Try.underlying25
 have kZ := Try.underlying60
 have HB := Aside0.mk (Below.refl w.heap.size w)
 have H : (if a0.toList = ([] : List UInt8) then (rrep_Get.j0 k a0 false) else (if 0 < (a0.size : Int) then (rrep_Get.j0 k a0 ((bt a0 0) == 4)) else (none))) = some (r1, r2, r3, r4, r5, r6, r7, r8, r9, r10, r11, r12, r13, r14, r15, r16, r17, r18, r19, r20, r21, r22, r23, r24, r25, r26, r27) := h
 clear h
 have iB := Aside0.mk H
 clear H
 go_enter Try.func38, Try.ntmps38
 go_upto_region 1 with (first | ((with_reducible refine gate_dst (N := 62) rfl ?_); refine Pre.build_event 62 25 [(0, Go.Operand.const (Go.Value.int Go.IntKind.i64 4)), (15, Go.Operand.tmp 54), (7, Go.Operand.tmp 57), (16, Go.Operand.tmp 60), (24, Go.Operand.tmp 61)] rfl rfl rfl (rrep_Get.bd62 _ _ _ _ _ _ _) ?_) | ((with_reducible refine Pre.gate_load 25 rfl ?_); (try (refine gate_guard Z13 ?_; dsimp only)); refine Pre.load_event rfl rfl rfl Z13 Z18 Try.underlying25 rfl Z6 ?_) | ((with_reducible refine gate_dst (N := 2) rfl ?_); refine box_event ?hg (N := 2) ?hd (cs := #[.int .i64 0, .int .i64 0, .int .i64 0, .string ⟨#[]⟩, .int .i64 0, .int .i64 0, .string ⟨#[]⟩, .int .i64 0, .int .i64 0, .string ⟨#[]⟩, .int .i64 0, .string ⟨#[]⟩, .int .i64 0, .int .i64 0, .int .i64 0, .int .i64 0, .int .i64 0, .int .i64 0, .int .i64 0, .string ⟨#[]⟩, .string ⟨#[]⟩, .slice none 0 0, .int .i64 0, .string ⟨#[]⟩, .slice none 0 0]) (t := 25) ?hr ?_; (case hd => rfl); (case hg => rfl); (case hr => first | (go_simp; done) | (go_simp; rfl)); intro aa hg w3 hbox hb; have aG := Aside0.mk (below_step Z3 hb); have aH := Aside0.mk (hbox); have aI := Aside0.mk ((by rw [hg]; exact (below_size Z3) : w.heap.size ≤ aa)); have aZ := Aside0.mk ((by rw [hg]; exact (below_size Z3) : w.heap.size ≤ aa)); replace HB := aG; have ab := aH; have cl := aI; have bs := aZ; clear aG aH aI aZ; clear hb hbox hg))
 (try simp only [Act.put, List.setIfInBounds_toArray, List.set_cons_zero, List.set_cons_succ])
 go_cut [17] (fun nz wc => ∃ (kq : Nat) (mV : Bool), nz = .bool mV ∧ Aside0 (rrep_Get.j0 kq a0 mV = some (r1, r2, r3, r4, r5, r6, r7, r8, r9, r10, r11, r12, r13, r14, r15, r16, r17, r18, r19, r20, r21, r22, r23, r24, r25, r26, r27)) ∧ Aside0 (kq ≤ k) ∧ Aside0 (wc.heap[aa]? = some (.cells #[.int .i64 0, .int .i64 0, .int .i64 0, .string ⟨#[]⟩, .int .i64 0, .int .i64 0, .string ⟨#[]⟩, .int .i64 0, .int .i64 0, .string ⟨#[]⟩, .int .i64 0, .string ⟨#[]⟩, .int .i64 0, .int .i64 0, .int .i64 0, .int .i64 0, .int .i64 0, .int .i64 0, .int .i64 0, .string ⟨#[]⟩, .string ⟨#[]⟩, (.slice none 0 0), .int .i64 0, .string ⟨#[]⟩, (.slice none 0 0)] 25 (0, 0))) ∧ Aside0 (Below w.heap.size w wc))
 case first =>
  have H := iB.out
  clear iB
  by_cases c4 : a0.toList = ([] : List UInt8)
  ·rw [if_pos c4] at H
   have cS : (a0.toList == ([] : List UInt8)) = true := beq_iff_eq.mpr c4
   have gY : (a0.toList != ([] : List UInt8)) = false := bne_eq_false_iff_eq.mpr c4
   clear c4
   (first | rw [cS] | (simp only [i64_w, i32_w]; rw [cS]) | skip)
   have H' := Aside0.mk H
   clear H
   go_wp2_with (first | ((with_reducible refine gate_dst (N := 62) rfl ?_); refine Pre.build_event 62 25 [(0, Go.Operand.const (Go.Value.int Go.IntKind.i64 4)), (15, Go.Operand.tmp 54), (7, Go.Operand.tmp 57), (16, Go.Operand.tmp 60), (24, Go.Operand.tmp 61)] rfl rfl rfl (rrep_Get.bd62 _ _ _ _ _ _ _) ?_) | ((with_reducible refine Pre.gate_load 25 rfl ?_); (try (refine gate_guard Z13 ?_; dsimp only)); refine Pre.load_event rfl rfl rfl Z13 Z18 Try.underlying25 rfl Z6 ?_))
   go_meet
   case rel => exact ⟨_, (false), Z14, H', ⟨Z41⟩, ⟨Z1⟩, ⟨Z0⟩⟩
  ·rw [if_neg c4] at H
   have cS : (a0.toList == ([] : List UInt8)) = false := beq_eq_false_iff_ne.mpr c4
   have gY : (a0.toList != ([] : List UInt8)) = true := bne_iff_ne.mpr c4
   (first | rw [cS] | (simp only [i64_w, i32_w]; rw [cS]) | skip)
   by_cases c5 : 0 < (a0.size : Int)
   ·rw [if_pos c5] at H
    have hm : decide (0 < (a0.size : Int)) = true := decide_eq_true c5
    have jC : decide (0 < a0.size) = true := decide_eq_true Z55
    clear c5
    have H' := Aside0.mk H
    clear H
    have p6 : 0 ≤ (0 : Int) := Z55
    have q6 : 0 < a0.size := (by have : (0 : Int) < (a0.size : Int) := of_decide_eq_true Z10; omega)
    have hx6 : ∀ h : 0 < a0.size, ((a0[0]'h).toNat : Int) = bt a0 0 := bt_at a0 0
    clear p6
    have qi6 : (0 < (a0.size : Int)) = True := eq_true (of_decide_eq_true Z10)
    replace q6 := eq_true q6
    go_wp2_with (first | ((with_reducible refine gate_dst (N := 62) rfl ?_); refine Pre.build_event 62 25 [(0, Go.Operand.const (Go.Value.int Go.IntKind.i64 4)), (15, Go.Operand.tmp 54), (7, Go.Operand.tmp 57), (16, Go.Operand.tmp 60), (24, Go.Operand.tmp 61)] rfl rfl rfl (rrep_Get.bd62 _ _ _ _ _ _ _) ?_) | ((with_reducible refine Pre.gate_load 25 rfl ?_); (try (refine gate_guard Z13 ?_; dsimp only)); refine Pre.load_event rfl rfl rfl Z13 Z18 Try.underlying25 rfl Z6 ?_))
    go_meet
    case rel => exact ⟨_, (((bt a0 0) == 4)), Z14, H', ⟨Z41⟩, ⟨Z1⟩, ⟨Z0⟩⟩
   ·rw [if_neg c5] at H
    exact absurd H Z73
 case rest =>
  clear iB
  try clear c3
  obtain ⟨kq, mV, rfl, HA, kB, ab, HB⟩ := hcut
  cases kq with
  | zero => exact absurd HA.out (by simp [rrep_Get.j0])
  | succ kj1 =>
   have H := HA.out
   clear HA
   simp only [rrep_Get.j0] at H
   by_cases c7 : mV = true
   ·subst c7
    have H1 : ((rrep_ack.f kj1 a0).bind fun bh => (some (bh.1, bh.2.1, bh.2.2.1, bh.2.2.2.1, bh.2.2.2.2.1, bh.2.2.2.2.2.1, bh.2.2.2.2.2.2.1, bh.2.2.2.2.2.2.2.1, bh.2.2.2.2.2.2.2.2.1, bh.2.2.2.2.2.2.2.2.2.1, bh.2.2.2.2.2.2.2.2.2.2.1, bh.2.2.2.2.2.2.2.2.2.2.2.1, bh.2.2.2.2.2.2.2.2.2.2.2.2.1, bh.2.2.2.2.2.2.2.2.2.2.2.2.2.1, bh.2.2.2.2.2.2.2.2.2.2.2.2.2.2.1, bh.2.2.2.2.2.2.2.2.2.2.2.2.2.2.2.1, bh.2.2.2.2.2.2.2.2.2.2.2.2.2.2.2.2.1, bh.2.2.2.2.2.2.2.2.2.2.2.2.2.2.2.2.2.1, bh.2.2.2.2.2.2.2.2.2.2.2.2.2.2.2.2.2.2.1, bh.2.2.2.2.2.2.2.2.2.2.2.2.2.2.2.2.2.2.2.1, bh.2.2.2.2.2.2.2.2.2.2.2.2.2.2.2.2.2.2.2.2.1, bh.2.2.2.2.2.2.2.2.2.2.2.2.2.2.2.2.2.2.2.2.2.1, bh.2.2.2.2.2.2.2.2.2.2.2.2.2.2.2.2.2.2.2.2.2.2.1, bh.2.2.2.2.2.2.2.2.2.2.2.2.2.2.2.2.2.2.2.2.2.2.2.1, bh.2.2.2.2.2.2.2.2.2.2.2.2.2.2.2.2.2.2.2.2.2.2.2.2.1, bh.2.2.2.2.2.2.2.2.2.2.2.2.2.2.2.2.2.2.2.2.2.2.2.2.2.1, bh.2.2.2.2.2.2.2.2.2.2.2.2.2.2.2.2.2.2.2.2.2.2.2.2.2.2))) = some (r1, r2, r3, r4, r5, r6, r7, r8, r9, r10, r11, r12, r13, r14, r15, r16, r17, r18, r19, r20, r21, r22, r23, r24, r25, r26, r27) := by rw [if_pos rfl] at H; exact H
    clear H
    have H := H1
    clear H1
    replace H := Option.bind_eq_some_iff.mp H
    obtain ⟨⟨ba, bf, bc, bk, bm, bp, aQ, aV, bi, cy, cF, cD, cj, cm, ce, cq, cg, co, ck, cu, ch, cG, cN, cr, cz, cE, fh⟩, kn, H⟩ := H
    replace H : (some (ba, bf, bc, bk, bm, bp, aQ, aV, bi, cy, cF, cD, cj, cm, ce, cq, cg, co, ck, cu, ch, cG, cN, cr, cz, cE, fh)) = some (r1, r2, r3, r4, r5, r6, r7, r8, r9, r10, r11, r12, r13, r14, r15, r16, r17, r18, r19, r20, r21, r22, r23, r24, r25, r26, r27) := H
    have A8 := Aside0.mk kn
    clear kn
    simp only [Option.some.injEq, Prod.mk.injEq] at H
    obtain ⟨rfl, rfl, rfl, rfl, rfl, rfl, rfl, rfl, rfl, rfl, rfl, rfl, rfl, rfl, rfl, rfl, rfl, rfl, rfl, rfl, rfl, rfl, rfl, rfl, rfl, rfl, rfl⟩ := H
    go_wp2_with (first | ((with_reducible refine gate_dst (N := 62) rfl ?_); refine Pre.build_event 62 25 [(0, Go.Operand.const (Go.Value.int Go.IntKind.i64 4)), (15, Go.Operand.tmp 54), (7, Go.Operand.tmp 57), (16, Go.Operand.tmp 60), (24, Go.Operand.tmp 61)] rfl rfl rfl (rrep_Get.bd62 _ _ _ _ _ _ _) ?_) | ((with_reducible refine Pre.gate_load 25 rfl ?_); (try (refine gate_guard Z13 ?_; dsimp only)); refine Pre.load_event rfl rfl rfl Z13 Z18 Try.underlying25 rfl Z6 ?_) | ((with_reducible refine gate_callee (f := 68) rfl ?_); refine goesL_ (some 19) rfl rfl Try.func68 Z6 rfl #[.string a0] rfl Z5 ?_; (with_reducible refine (rrep_ack.calls kj1 a0 ba bf bc bk bm bp aQ aV bi cy cF cD cj cm ce cq cg co ck cu ch cG cN cr cz cE fh _ A8.out).mono ?_); rintro e w9 ⟨pF, nA, rfl, ho0, ho1, hb⟩; refine ⟨_, rfl, ?_⟩; have aG := Aside0.mk (Kd.R_lower ho0 (below_size Z0)); have aH := Aside0.mk (Kd.R_lower ho1 (below_size Z0)); have aI := Aside0.mk (blk_below (g := aa) Z1 hb); have aZ := Aside0.mk (below_step Z0 hb); have dx := aG; have cw := aH; replace ab := aI; replace HB := aZ; clear aG aH aI aZ; (try clear hb); (try clear hb2); (try clear hk); (try clear hi); (try clear ho0); (try clear ho1); have jH := cells_25 ab.out; obtain ⟨qT, qU, eo11⟩ := Kd.R_slice dx.out; subst eo11; obtain ⟨qV, nU, eo12⟩ := Kd.R_slice cw.out; subst eo12) | ((with_reducible refine Pre.gate_store 25 rfl ?_); refine Pre.store_abs (cur := #[.int .i64 0, .int .i64 0, .int .i64 0, .string ⟨#[]⟩, .int .i64 0, .int .i64 0, .string ⟨#[]⟩, .int .i64 0, .int .i64 0, .string ⟨#[]⟩, .int .i64 0, .string ⟨#[]⟩, .int .i64 0, .int .i64 0, .int .i64 0, .int .i64 0, .int .i64 0, .int .i64 0, .int .i64 0, .string ⟨#[]⟩, .string ⟨#[]⟩, .slice none 0 0, .int .i64 0, .string ⟨#[]⟩, .slice none 0 0]) (e := 25) rfl rfl rfl Z13 Z13 Z1 Z6 Z13 Z13 ?_; intro lb hbS_ sS_; have aG : Aside0 (Kd.R k46 46 lb w.heap.size (fun _ => True) (.slice qT cG.length qU) cG) := ⟨Kd.R_mono (Pre.R_sets sS_ (Kd.R_types dx.out ab.out Z32) (fun _ hk => hk.2)) (fun _ hk => trivial)⟩; have aH : Aside0 (Kd.R k48 48 lb w.heap.size (fun _ => True) (.slice qV cz.length nU) cz) := ⟨Kd.R_mono (Pre.R_sets sS_ (Kd.R_types cw.out ab.out Z32) (fun _ hk => hk.2)) (fun _ hk => trivial)⟩; have aI : Aside0 (lb.heap[aa]? = some (.cells #[.int .i64 ba, .int .i64 bf, .int .i64 bc, .string bk, .int .i64 bm, .int .i64 bp, .string aQ, .int .i64 aV, .int .i64 bi, .string cy, .int .i64 cF, .string cD, .int .i64 cj, .int .i64 cm, .int .i64 ce, .int .i64 cq, .int .i64 cg, .int .i64 co, .int .i64 ck, .string cu, .string ch, .slice qT cG.length qU, .int .i64 cN, .string cr, .slice qV cz.length nU] 25 (0, 0))) := ⟨hbS_⟩; have aZ : Aside0 (Below w.heap.size w lb) := ⟨sS_.below Z0 bs.out⟩; clear hbS_ sS_; replace dx := aG; replace cw := aH; replace ab := aI; replace HB := aZ; clear aG aH aI aZ))
    refine bodyPost_ret (results_ctt rfl _ _ aa 25 #[.int .i64 ba, .int .i64 bf, .int .i64 bc, .string bk, .int .i64 bm, .int .i64 bp, .string aQ, .int .i64 aV, .int .i64 bi, .string cy, .int .i64 cF, .string cD, .int .i64 cj, .int .i64 cm, .int .i64 ce, .int .i64 cq, .int .i64 cg, .int .i64 co, .int .i64 ck, .string cu, .string ch, .slice qT cG.length qU, .int .i64 cN, .string cr, .slice qV cz.length nU] (0, 0) _ rfl Z1 Try.underlying25 rfl Z6) rfl ?_
    exact ⟨_, _, Z9, Z42, Z25, Z0⟩
   ·replace c7 := Bool.eq_false_iff.mpr c7
    subst c7
    have H1 : (if (a0.size : Int) < 20 then (some (0, 0, 0, (⟨#[]⟩ : ByteArray), 0, 0, (⟨#[]⟩ : ByteArray), 0, 0, (⟨#[]⟩ : ByteArray), 0, (⟨#[]⟩ : ByteArray), 0, 0, 0, 0, 0, 0, 0, (⟨#[]⟩ : ByteArray), (⟨#[]⟩ : ByteArray), ([] : List (S46)), 0, (⟨#[]⟩ : ByteArray), ([] : List (S48)), (a0.size : Int), 2)) else (if 1 < (a0.size : Int) then (if 2 < (a0.size : Int) then (if (Go.bits .or .u8 (Go.bits .and .u8 (bt a0 1) 63) (Go.bits .and .u8 (bt a0 2) 224)) = 0 then (if 20 ≤ (a0.size : Int) then ((ext_Get.f kj1 (a0.extract 20 a0.size)).bind fun cf => (if cf.2.2 = 0 then (if 3 < (a0.size : Int) then ((cursor_New.f a0).bind fun iw => ((cursor_Text.f iw.1 iw.2.1 iw.2.2.1 iw.2.2.2 4).bind fun ht => ((cursor_Text.f ht.2.1 ht.2.2.1 ht.2.2.2.1 ht.2.2.2.2 4).bind fun fy => ((cursor_Num.f fy.2.1 fy.2.2.1 fy.2.2.2.1 fy.2.2.2.2 4).bind fun ek => ((cursor_Text.f ek.2.1 ek.2.2.1 ek.2.2.2.1 ek.2.2.2.2 4).bind fun dC => ((cursor_Num.f dC.2.1 dC.2.2.1 dC.2.2.2.1 dC.2.2.2.2 4).bind fun ip => (some (4, 0, 0, (⟨#[]⟩ : ByteArray), 0, 0, (⟨#[]⟩ : ByteArray), wrap64 (bt a0 2), 0, (⟨#[]⟩ : ByteArray), 0, (⟨#[]⟩ : ByteArray), ek.1, 0, ip.1, wrap64 ((bt a0 1) / 64), wrap64 (bt a0 3), 0, 0, fy.1, dC.1, ([] : List (S46)), 0, (⟨#[]⟩ : ByteArray), cf.1, 0, 0)))))))) else (none)) else (some (0, 0, 0, (⟨#[]⟩ : ByteArray), 0, 0, (⟨#[]⟩ : ByteArray), 0, 0, (⟨#[]⟩ : ByteArray), 0, (⟨#[]⟩ : ByteArray), 0, 0, 0, 0, 0, 0, 0, (⟨#[]⟩ : ByteArray), (⟨#[]⟩ : ByteArray), ([] : List (S46)), 0, (⟨#[]⟩ : ByteArray), ([] : List (S48)), wrap64 (cf.2.1 + 20), cf.2.2)))) else (none)) else (some (0, 0, 0, (⟨#[]⟩ : ByteArray), 0, 0, (⟨#[]⟩ : ByteArray), 0, 0, (⟨#[]⟩ : ByteArray), 0, (⟨#[]⟩ : ByteArray), 0, 0, 0, 0, 0, 0, 0, (⟨#[]⟩ : ByteArray), (⟨#[]⟩ : ByteArray), ([] : List (S46)), 0, (⟨#[]⟩ : ByteArray), ([] : List (S48)), 1, 5))) else (none)) else (none))) = some (r1, r2, r3, r4, r5, r6, r7, r8, r9, r10, r11, r12, r13, r14, r15, r16, r17, r18, r19, r20, r21, r22, r23, r24, r25, r26, r27) := by rw [if_neg (show ¬ (false = true) by decide)] at H; exact H
    clear H
    have H := H1
    clear H1
    by_cases gW : (a0.size : Int) < 20
    ·rw [if_pos gW] at H
     have ko : decide ((a0.size : Int) < 20) = true := decide_eq_true gW
     have kp : decide (a0.size < 20) = true := decide_eq_true Z55
     clear gW
     simp only [Option.some.injEq, Prod.mk.injEq] at H
     obtain ⟨rfl, rfl, rfl, rfl, rfl, rfl, rfl, rfl, rfl, rfl, rfl, rfl, rfl, rfl, rfl, rfl, rfl, rfl, rfl, rfl, rfl, rfl, rfl, rfl, rfl, rfl, rfl⟩ := H
     have kC := cells_25 ab.out
     go_wp2_with (first | ((with_reducible refine gate_dst (N := 62) rfl ?_); refine Pre.build_event 62 25 [(0, Go.Operand.const (Go.Value.int Go.IntKind.i64 4)), (15, Go.Operand.tmp 54), (7, Go.Operand.tmp 57), (16, Go.Operand.tmp 60), (24, Go.Operand.tmp 61)] rfl rfl rfl (rrep_Get.bd62 _ _ _ _ _ _ _) ?_) | ((with_reducible refine Pre.gate_load 25 rfl ?_); (try (refine gate_guard Z13 ?_; dsimp only)); refine Pre.load_event rfl rfl rfl Z13 Z18 Try.underlying25 rfl Z6 ?_) | ((with_reducible refine Pre.gate_store 25 rfl ?_); refine Pre.store_abs (cur := #[.int .i64 0, .int .i64 0, .int .i64 0, .string ⟨#[]⟩, .int .i64 0, .int .i64 0, .string ⟨#[]⟩, .int .i64 0, .int .i64 0, .string ⟨#[]⟩, .int .i64 0, .string ⟨#[]⟩, .int .i64 0, .int .i64 0, .int .i64 0, .int .i64 0, .int .i64 0, .int .i64 0, .int .i64 0, .string ⟨#[]⟩, .string ⟨#[]⟩, .slice none 0 0, .int .i64 0, .string ⟨#[]⟩, .slice none 0 0]) (e := 25) rfl rfl rfl Z13 Z13 Z1 Z6 Z13 Z13 ?_; intro lR hbS_ sS_; have aG : Aside0 (lR.heap[aa]? = some (.cells #[.int .i64 0, .int .i64 0, .int .i64 0, .string ⟨#[]⟩, .int .i64 0, .int .i64 0, .string ⟨#[]⟩, .int .i64 0, .int .i64 0, .string ⟨#[]⟩, .int .i64 0, .string ⟨#[]⟩, .int .i64 0, .int .i64 0, .int .i64 0, .int .i64 0, .int .i64 0, .int .i64 0, .int .i64 0, .string ⟨#[]⟩, .string ⟨#[]⟩, .slice none 0 0, .int .i64 0, .string ⟨#[]⟩, .slice none 0 0] 25 (0, 0))) := ⟨hbS_⟩; have aH : Aside0 (Below w.heap.size w lR) := ⟨sS_.below Z0 bs.out⟩; clear hbS_ sS_; replace ab := aG; replace HB := aH; clear aG aH))
     refine bodyPost_ret (results_ctt rfl _ _ aa 25 #[.int .i64 0, .int .i64 0, .int .i64 0, .string ⟨#[]⟩, .int .i64 0, .int .i64 0, .string ⟨#[]⟩, .int .i64 0, .int .i64 0, .string ⟨#[]⟩, .int .i64 0, .string ⟨#[]⟩, .int .i64 0, .int .i64 0, .int .i64 0, .int .i64 0, .int .i64 0, .int .i64 0, .int .i64 0, .string ⟨#[]⟩, .string ⟨#[]⟩, .slice none 0 0, .int .i64 0, .string ⟨#[]⟩, .slice none 0 0] (0, 0) _ rfl Z1 Try.underlying25 rfl Z6) rfl ?_
     exact ⟨_, _, Z9, Z12, Z27, Z0⟩
    ·rw [if_neg gW] at H
     have ko : decide ((a0.size : Int) < 20) = false := decide_eq_false gW
     have kp : decide (a0.size < 20) = false := decide_eq_false Z55
     clear gW
     by_cases hY : 1 < (a0.size : Int)
     ·rw [if_pos hY] at H
      have jI : decide (1 < (a0.size : Int)) = true := decide_eq_true hY
      have mW : decide (1 < a0.size) = true := decide_eq_true Z55
      clear hY
      by_cases fe : 2 < (a0.size : Int)
      ·rw [if_pos fe] at H
       have eV : decide (2 < (a0.size : Int)) = true := decide_eq_true fe
       have ic : decide (2 < a0.size) = true := decide_eq_true Z55
       clear fe
       by_cases gU : (Go.bits .or .u8 (Go.bits .and .u8 (bt a0 1) 63) (Go.bits .and .u8 (bt a0 2) 224)) = 0
       ·rw [if_pos gU] at H
        have kD : ((Go.bits .or .u8 (Go.bits .and .u8 (bt a0 1) 63) (Go.bits .and .u8 (bt a0 2) 224)) == 0) = true := beq_iff_eq.mpr gU
        have nV : ((Go.bits .or .u8 (Go.bits .and .u8 (bt a0 1) 63) (Go.bits .and .u8 (bt a0 2) 224)) != 0) = false := bne_eq_false_iff_eq.mpr gU
        clear gU
        by_cases iC : 20 ≤ (a0.size : Int)
        ·rw [if_pos iC] at H
         have mX := eq_true iC
         have qc : decide (20 ≤ (a0.size : Int)) = true := decide_eq_true iC
         clear iC
         replace H := Option.bind_eq_some_iff.mp H
         obtain ⟨⟨cA, gq, dt⟩, iI, H⟩ := H
         replace H : (if dt = 0 then (if 3 < (a0.size : Int) then ((cursor_New.f a0).bind fun iw => ((cursor_Text.f iw.1 iw.2.1 iw.2.2.1 iw.2.2.2 4).bind fun ht => ((cursor_Text.f ht.2.1 ht.2.2.1 ht.2.2.2.1 ht.2.2.2.2 4).bind fun fy => ((cursor_Num.f fy.2.1 fy.2.2.1 fy.2.2.2.1 fy.2.2.2.2 4).bind fun ek => ((cursor_Text.f ek.2.1 ek.2.2.1 ek.2.2.2.1 ek.2.2.2.2 4).bind fun dC => ((cursor_Num.f dC.2.1 dC.2.2.1 dC.2.2.2.1 dC.2.2.2.2 4).bind fun ip => (some (4, 0, 0, (⟨#[]⟩ : ByteArray), 0, 0, (⟨#[]⟩ : ByteArray), wrap64 (bt a0 2), 0, (⟨#[]⟩ : ByteArray), 0, (⟨#[]⟩ : ByteArray), ek.1, 0, ip.1, wrap64 ((bt a0 1) / 64), wrap64 (bt a0 3), 0, 0, fy.1, dC.1, ([] : List (S46)), 0, (⟨#[]⟩ : ByteArray), cA, 0, 0)))))))) else (none)) else (some (0, 0, 0, (⟨#[]⟩ : ByteArray), 0, 0, (⟨#[]⟩ : ByteArray), 0, 0, (⟨#[]⟩ : ByteArray), 0, (⟨#[]⟩ : ByteArray), 0, 0, 0, 0, 0, 0, 0, (⟨#[]⟩ : ByteArray), (⟨#[]⟩ : ByteArray), ([] : List (S46)), 0, (⟨#[]⟩ : ByteArray), ([] : List (S48)), wrap64 (gq + 20), dt))) = some (r1, r2, r3, r4, r5, r6, r7, r8, r9, r10, r11, r12, r13, r14, r15, r16, r17, r18, r19, r20, r21, r22, r23, r24, r25, r26, r27) := H
         have lT := Aside0.mk iI
         clear iI
         by_cases fz : dt = 0
         ·rw [if_pos fz] at H
          have lc : (dt == 0) = true := beq_iff_eq.mpr fz
          have ld : (dt != 0) = false := bne_eq_false_iff_eq.mpr fz
          clear fz
          by_cases iD : 3 < (a0.size : Int)
          ·rw [if_pos iD] at H
           have nW : decide (3 < (a0.size : Int)) = true := decide_eq_true iD
           have nX : decide (3 < a0.size) = true := decide_eq_true Z55
           clear iD
           replace H := Option.bind_eq_some_iff.mp H
           obtain ⟨⟨gC, gp, dg, dh⟩, sn, H⟩ := H
           replace H : ((cursor_Text.f gC gp dg dh 4).bind fun ht => ((cursor_Text.f ht.2.1 ht.2.2.1 ht.2.2.2.1 ht.2.2.2.2 4).bind fun fy => ((cursor_Num.f fy.2.1 fy.2.2.1 fy.2.2.2.1 fy.2.2.2.2 4).bind fun ek => ((cursor_Text.f ek.2.1 ek.2.2.1 ek.2.2.2.1 ek.2.2.2.2 4).bind fun dC => ((cursor_Num.f dC.2.1 dC.2.2.1 dC.2.2.2.1 dC.2.2.2.2 4).bind fun ip => (some (4, 0, 0, (⟨#[]⟩ : ByteArray), 0, 0, (⟨#[]⟩ : ByteArray), wrap64 (bt a0 2), 0, (⟨#[]⟩ : ByteArray), 0, (⟨#[]⟩ : ByteArray), ek.1, 0, ip.1, wrap64 ((bt a0 1) / 64), wrap64 (bt a0 3), 0, 0, fy.1, dC.1, ([] : List (S46)), 0, (⟨#[]⟩ : ByteArray), cA, 0, 0))))))) = some (r1, r2, r3, r4, r5, r6, r7, r8, r9, r10, r11, r12, r13, r14, r15, r16, r17, r18, r19, r20, r21, r22, r23, r24, r25, r26, r27) := H
           have wK := Aside0.mk sn
           clear sn
           replace H := Option.bind_eq_some_iff.mp H
           obtain ⟨⟨dz, di, dj, dk, dl⟩, jJ, H⟩ := H
           replace H : ((cursor_Text.f di dj dk dl 4).bind fun fy => ((cursor_Num.f fy.2.1 fy.2.2.1 fy.2.2.2.1 fy.2.2.2.2 4).bind fun ek => ((cursor_Text.f ek.2.1 ek.2.2.1 ek.2.2.2.1 ek.2.2.2.2 4).bind fun dC => ((cursor_Num.f dC.2.1 dC.2.2.1 dC.2.2.2.1 dC.2.2.2.2 4).bind fun ip => (some (4, 0, 0, (⟨#[]⟩ : ByteArray), 0, 0, (⟨#[]⟩ : ByteArray), wrap64 (bt a0 2), 0, (⟨#[]⟩ : ByteArray), 0, (⟨#[]⟩ : ByteArray), ek.1, 0, ip.1, wrap64 ((bt a0 1) / 64), wrap64 (bt a0 3), 0, 0, fy.1, dC.1, ([] : List (S46)), 0, (⟨#[]⟩ : ByteArray), cA, 0, 0)))))) = some (r1, r2, r3, r4, r5, r6, r7, r8, r9, r10, r11, r12, r13, r14, r15, r16, r17, r18, r19, r20, r21, r22, r23, r24, r25, r26, r27) := H
           have ky := Aside0.mk jJ
           clear jJ
           replace H := Option.bind_eq_some_iff.mp H
           obtain ⟨⟨cQ, dm, dn, dp, dq⟩, sp, H⟩ := H
           replace H : ((cursor_Num.f dm dn dp dq 4).bind fun ek => ((cursor_Text.f ek.2.1 ek.2.2.1 ek.2.2.2.1 ek.2.2.2.2 4).bind fun dC => ((cursor_Num.f dC.2.1 dC.2.2.1 dC.2.2.2.1 dC.2.2.2.2 4).bind fun ip => (some (4, 0, 0, (⟨#[]⟩ : ByteArray), 0, 0, (⟨#[]⟩ : ByteArray), wrap64 (bt a0 2), 0, (⟨#[]⟩ : ByteArray), 0, (⟨#[]⟩ : ByteArray), ek.1, 0, ip.1, wrap64 ((bt a0 1) / 64), wrap64 (bt a0 3), 0, 0, cQ, dC.1, ([] : List (S46)), 0, (⟨#[]⟩ : ByteArray), cA, 0, 0))))) = some (r1, r2, r3, r4, r5, r6, r7, r8, r9, r10, r11, r12, r13, r14, r15, r16, r17, r18, r19, r20, r21, r22, r23, r24, r25, r26, r27) := H
           have wL := Aside0.mk sp
           clear sp
           replace H := Option.bind_eq_some_iff.mp H
           obtain ⟨⟨cZ, cR, eF, eG, dr⟩, sq, H⟩ := H
           replace H : ((cursor_Text.f cR eF eG dr 4).bind fun dC => ((cursor_Num.f dC.2.1 dC.2.2.1 dC.2.2.2.1 dC.2.2.2.2 4).bind fun ip => (some (4, 0, 0, (⟨#[]⟩ : ByteArray), 0, 0, (⟨#[]⟩ : ByteArray), wrap64 (bt a0 2), 0, (⟨#[]⟩ : ByteArray), 0, (⟨#[]⟩ : ByteArray), cZ, 0, ip.1, wrap64 ((bt a0 1) / 64), wrap64 (bt a0 3), 0, 0, cQ, dC.1, ([] : List (S46)), 0, (⟨#[]⟩ : ByteArray), cA, 0, 0)))) = some (r1, r2, r3, r4, r5, r6, r7, r8, r9, r10, r11, r12, r13, r14, r15, r16, r17, r18, r19, r20, r21, r22, r23, r24, r25, r26, r27) := H
           have wM := Aside0.mk sq
           clear sq
           replace H := Option.bind_eq_some_iff.mp H
           obtain ⟨⟨dd, cO, es, dA, gv⟩, lU, H⟩ := H
           replace H : ((cursor_Num.f cO es dA gv 4).bind fun ip => (some (4, 0, 0, (⟨#[]⟩ : ByteArray), 0, 0, (⟨#[]⟩ : ByteArray), wrap64 (bt a0 2), 0, (⟨#[]⟩ : ByteArray), 0, (⟨#[]⟩ : ByteArray), cZ, 0, ip.1, wrap64 ((bt a0 1) / 64), wrap64 (bt a0 3), 0, 0, cQ, dd, ([] : List (S46)), 0, (⟨#[]⟩ : ByteArray), cA, 0, 0))) = some (r1, r2, r3, r4, r5, r6, r7, r8, r9, r10, r11, r12, r13, r14, r15, r16, r17, r18, r19, r20, r21, r22, r23, r24, r25, r26, r27) := H
           have qd := Aside0.mk lU
           clear lU
           replace H := Option.bind_eq_some_iff.mp H
           obtain ⟨⟨iE, fc, db, cB, vp⟩, nY, H⟩ := H
           replace H : (some (4, 0, 0, (⟨#[]⟩ : ByteArray), 0, 0, (⟨#[]⟩ : ByteArray), wrap64 (bt a0 2), 0, (⟨#[]⟩ : ByteArray), 0, (⟨#[]⟩ : ByteArray), cZ, 0, iE, wrap64 ((bt a0 1) / 64), wrap64 (bt a0 3), 0, 0, cQ, dd, ([] : List (S46)), 0, (⟨#[]⟩ : ByteArray), cA, 0, 0)) = some (r1, r2, r3, r4, r5, r6, r7, r8, r9, r10, r11, r12, r13, r14, r15, r16, r17, r18, r19, r20, r21, r22, r23, r24, r25, r26, r27) := H
           have vc := Aside0.mk nY
           clear nY
           simp only [Option.some.injEq, Prod.mk.injEq] at H
           obtain ⟨rfl, rfl, rfl, rfl, rfl, rfl, rfl, rfl, rfl, rfl, rfl, rfl, rfl, rfl, rfl, rfl, rfl, rfl, rfl, rfl, rfl, rfl, rfl, rfl, rfl, rfl, rfl⟩ := H
           try go_wp2_with (first | ((with_reducible refine gate_dst (N := 62) rfl ?_); refine Pre.build_event 62 25 [(0, Go.Operand.const (Go.Value.int Go.IntKind.i64 4)), (15, Go.Operand.tmp 54), (7, Go.Operand.tmp 57), (16, Go.Operand.tmp 60), (24, Go.Operand.tmp 61)] rfl rfl rfl (rrep_Get.bd62 _ _ _ _ _ _ _) ?_) | ((with_reducible refine Pre.gate_load 25 rfl ?_); (try (refine gate_guard Z13 ?_; dsimp only)); refine Pre.load_event rfl rfl rfl Z13 Z18 Try.underlying25 rfl Z6 ?_))
           have aG := Aside0.mk (blk_drew ab.out)
           have aH := Aside0.mk (below_drew1 HB.out)
           clear ab
           clear HB
           have ab := aG
           have HB := aH
           clear aG aH
           have p18 : 0 ≤ (1 : Int) := Z55
           have q18 : 1 < a0.size := (by have : (1 : Int) < (a0.size : Int) := of_decide_eq_true Z10; omega)
           have hx18 : ∀ h : 1 < a0.size, ((a0[1]'h).toNat : Int) = bt a0 1 := bt_at a0 1
           clear p18
           have qi18 : (1 < (a0.size : Int)) = True := eq_true (of_decide_eq_true Z10)
           replace q18 := eq_true q18
           have p20 : 0 ≤ (2 : Int) := Z55
           have q20 : 2 < a0.size := (by have : (2 : Int) < (a0.size : Int) := of_decide_eq_true Z10; omega)
           have hx20 : ∀ h : 2 < a0.size, ((a0[2]'h).toNat : Int) = bt a0 2 := bt_at a0 2
           clear p20
           have qi20 : (2 < (a0.size : Int)) = True := eq_true (of_decide_eq_true Z10)
           replace q20 := eq_true q20
           refine start_ (n := 8) (S := fun w' => True) (ds := []) #[false, false, false, false, false, false, false, false] Z6 rfl rfl trivial (fun hHeld => ?_); refine with_tabW rrep_Get.tab5 rrep_Get.bits5 (fun HT_ HW_ => ?_)
           generalize wc.drew = wN at ab HB hHeld ⊢
           refine pure_ (i := 0) (N := some 29) (v := ?_) (a' := ?_) #[true, false, false, false, false, false, false, false] rfl rfl (any_of HT_.out Z6) (fun _ _ _ h => h) (Or.inl ⟨Z13, ?_⟩) ?_ ?_
           rotate_left
           ·intro w'
            go_simp
            with_reducible rfl
           rotate_left
           ·simp only [Act.put, List.setIfInBounds_toArray, List.set_cons_zero, List.set_cons_succ, i64_w, i32_w]
            rfl
           refine pure_ (i := 3) (N := some 32) (v := ?_) (a' := ?_) #[true, false, false, true, false, false, false, false] rfl rfl (any_of HT_.out Z6) (fun _ _ _ h => h) (Or.inl ⟨Z13, ?_⟩) ?_ ?_
           rotate_left
           ·intro w'
            go_simp
            with_reducible rfl
           rotate_left
           ·simp only [Act.put, List.setIfInBounds_toArray, List.set_cons_zero, List.set_cons_succ, i64_w, i32_w]
            rfl
           refine take_ (i := 1) (N := some 30) (v := ?_) (a' := ?_) #[true, true, false, true, false, false, false, false] rfl rfl (take_ofW HT_.out HW_.out Z6) (fun _ _ _ h => h) (Or.inl ⟨Z13, ?_⟩) hHeld ?_ ?_
           rotate_left
           ·intro w' _
            go_simp
            with_reducible rfl
           rotate_left
           ·simp only [Act.put, List.setIfInBounds_toArray, List.set_cons_zero, List.set_cons_succ, i64_w, i32_w]
            rfl
           refine pure_ (i := 2) (N := some 31) (v := ?_) (a' := ?_) #[true, true, true, true, false, false, false, false] rfl rfl (any_of HT_.out Z6) (fun _ _ _ h => h) (Or.inl ⟨Z13, ?_⟩) ?_ ?_
           rotate_left
           ·intro w'
            go_simp
            with_reducible rfl
           rotate_left
           ·simp only [Act.put, List.setIfInBounds_toArray, List.set_cons_zero, List.set_cons_succ, i64_w, i32_w]
            rfl
           refine take_ (i := 4) (N := some 33) (v := ?_) (a' := ?_) #[true, true, true, true, true, false, false, false] rfl rfl (take_ofW HT_.out HW_.out Z6) (fun _ _ _ h => h) (Or.inl ⟨Z13, ?_⟩) hHeld ?_ ?_
           rotate_left
           ·intro w' _
            go_simp
            with_reducible rfl
           rotate_left
           ·simp only [Act.put, List.setIfInBounds_toArray, List.set_cons_zero, List.set_cons_succ, i64_w, i32_w]
            rfl
           refine pure_ (i := 5) (N := some 34) (v := ?_) (a' := ?_) #[true, true, true, true, true, true, false, false] rfl rfl (any_of HT_.out Z6) (fun _ _ _ h => h) (Or.inl ⟨Z13, ?_⟩) ?_ ?_
           rotate_left
           ·intro w'
            go_simp
            with_reducible rfl
           rotate_left
           ·simp only [Act.put, List.setIfInBounds_toArray, List.set_cons_zero, List.set_cons_succ, i64_w, i32_w]
            rfl
           refine pure_ (i := 6) (N := some 35) (v := ?_) (a' := ?_) #[true, true, true, true, true, true, true, false] rfl rfl (any_of HT_.out Z6) (fun _ _ _ h => h) (Or.inl ⟨Z13, ?_⟩) ?_ ?_
           rotate_left
           ·intro w'
            go_simp
            with_reducible rfl
           rotate_left
           ·simp only [Act.put, List.setIfInBounds_toArray, List.set_cons_zero, List.set_cons_succ, i64_w, i32_w]
            rfl
           refine pure_ (i := 7) (N := some 36) (v := ?_) (a' := ?_) #[true, true, true, true, true, true, true, true] rfl rfl (any_of HT_.out Z6) (fun _ _ _ h => h) (Or.inl ⟨Z13, ?_⟩) ?_ ?_
           rotate_left
           ·intro w'
            go_simp
            with_reducible rfl
           rotate_left
           ·simp only [Act.put, List.setIfInBounds_toArray, List.set_cons_zero, List.set_cons_succ, i64_w, i32_w]
            rfl
           refine done_ (done_of HT_.out Z6) ?_
           try go_wp2_with (first | ((with_reducible refine gate_dst (N := 62) rfl ?_); refine Pre.build_event 62 25 [(0, Go.Operand.const (Go.Value.int Go.IntKind.i64 4)), (15, Go.Operand.tmp 54), (7, Go.Operand.tmp 57), (16, Go.Operand.tmp 60), (24, Go.Operand.tmp 61)] rfl rfl rfl (rrep_Get.bd62 _ _ _ _ _ _ _) ?_) | ((with_reducible refine Pre.gate_load 25 rfl ?_); (try (refine gate_guard Z13 ?_; dsimp only)); refine Pre.load_event rfl rfl rfl Z13 Z18 Try.underlying25 rfl Z6 ?_) | ((with_reducible refine gate_callee (f := 59) rfl ?_); refine goesL_ (some 41) rfl rfl Try.func59 Z6 rfl #[.string (a0.extract 20 a0.size)] rfl Z5 ?_; (with_reducible refine (ext_Get.calls kj1 (a0.extract 20 a0.size) cA gq dt _ lT.out).mono ?_); rintro e qe ⟨sr, rfl, ho0, hb⟩; refine ⟨_, rfl, ?_⟩; have aG := Aside0.mk (Kd.R_lower ho0 (below_size Z0)); have aH := Aside0.mk (blk_below (g := aa) Z1 hb); have aI := Aside0.mk (below_step Z0 hb); have fG := aG; replace ab := aH; replace HB := aI; clear aG aH aI; (try clear hb); (try clear hb2); (try clear hk); (try clear hi); (try clear ho0)))
           have aG := Aside0.mk (Kd.R_drew fG.out)
           have aH := Aside0.mk (blk_drew ab.out)
           have aI := Aside0.mk (below_drew1 HB.out)
           clear fG
           clear ab
           clear HB
           have fG := aG
           have ab := aH
           have HB := aI
           clear aG aH aI
           have p25 : 0 ≤ (1 : Int) := Z55
           have q25 : 1 < a0.size := (by have : (1 : Int) < (a0.size : Int) := of_decide_eq_true Z10; omega)
           have hx25 : ∀ h : 1 < a0.size, ((a0[1]'h).toNat : Int) = bt a0 1 := bt_at a0 1
           clear p25
           have qi25 : (1 < (a0.size : Int)) = True := eq_true (of_decide_eq_true Z10)
           replace q25 := eq_true q25
           have p26 : 0 ≤ (2 : Int) := Z55
           have q26 : 2 < a0.size := (by have : (2 : Int) < (a0.size : Int) := of_decide_eq_true Z10; omega)
           have hx26 : ∀ h : 2 < a0.size, ((a0[2]'h).toNat : Int) = bt a0 2 := bt_at a0 2
           clear p26
           have qi26 : (2 < (a0.size : Int)) = True := eq_true (of_decide_eq_true Z10)
           replace q26 := eq_true q26
           have p28 : 0 ≤ (3 : Int) := Z55
           have q28 : 3 < a0.size := (by have : (3 : Int) < (a0.size : Int) := of_decide_eq_true Z10; omega)
           have hx28 : ∀ h : 3 < a0.size, ((a0[3]'h).toNat : Int) = bt a0 3 := bt_at a0 3
           clear p28
           have qi28 : (3 < (a0.size : Int)) = True := eq_true (of_decide_eq_true Z10)
           replace q28 := eq_true q28
           obtain ⟨iJ, iK, eo38⟩ := Kd.R_slice fG.out
           (first | subst eo38 | (injection eo38 with f1_ f2_ f3_; have f4_ := f1_.symm; have f5_ := f3_.symm; clear f1_ f2_ f3_; subst f4_; subst f5_))
           refine start_ (n := 14) (S := fun w' => True) (ds := []) #[false, false, false, false, false, false, false, false, false, false, false, false, false, false] Z6 rfl rfl trivial (fun hHeld => ?_); refine with_tabW rrep_Get.tab10 rrep_Get.bits10 (fun HT_ HW_ => ?_)
           generalize qe.drew = ss at fG ab HB hHeld ⊢
           refine pure_ (i := 0) (N := some 51) (v := ?_) (a' := ?_) #[true, false, false, false, false, false, false, false, false, false, false, false, false, false] rfl rfl (any_of HT_.out Z6) (fun _ _ _ h => h) (Or.inl ⟨Z13, ?_⟩) ?_ ?_
           rotate_left
           ·intro w'
            go_simp
            with_reducible rfl
           rotate_left
           ·simp only [Act.put, List.setIfInBounds_toArray, List.set_cons_zero, List.set_cons_succ, i64_w, i32_w]
            rfl
           refine pure_ (i := 4) (N := some 55) (v := ?_) (a' := ?_) #[true, false, false, false, true, false, false, false, false, false, false, false, false, false] rfl rfl (any_of HT_.out Z6) (fun _ _ _ h => h) (Or.inl ⟨Z13, ?_⟩) ?_ ?_
           rotate_left
           ·intro w'
            go_simp
            with_reducible rfl
           rotate_left
           ·simp only [Act.put, List.setIfInBounds_toArray, List.set_cons_zero, List.set_cons_succ, i64_w, i32_w]
            rfl
           refine pure_ (i := 7) (N := some 58) (v := ?_) (a' := ?_) #[true, false, false, false, true, false, false, true, false, false, false, false, false, false] rfl rfl (any_of HT_.out Z6) (fun _ _ _ h => h) (Or.inl ⟨Z13, ?_⟩) ?_ ?_
           rotate_left
           ·intro w'
            go_simp
            with_reducible rfl
           rotate_left
           ·simp only [Act.put, List.setIfInBounds_toArray, List.set_cons_zero, List.set_cons_succ, i64_w, i32_w]
            rfl
           refine pure_ (i := 10) (N := some 61) (v := ?_) (a' := ?_) #[true, false, false, false, true, false, false, true, false, false, true, false, false, false] rfl rfl (any_of HT_.out Z6) (fun _ _ _ h => h) (Or.inl ⟨Z13, ?_⟩) ?_ ?_
           rotate_left
           ·intro w'
            go_simp
            with_reducible rfl
           rotate_left
           ·simp only [Act.put, List.setIfInBounds_toArray, List.set_cons_zero, List.set_cons_succ, i64_w, i32_w]
            rfl
           refine take_ (i := 1) (N := some 52) (v := ?_) (a' := ?_) #[true, true, false, false, true, false, false, true, false, false, true, false, false, false] rfl rfl (take_ofW HT_.out HW_.out Z6) (fun _ _ _ h => h) (Or.inl ⟨Z13, ?_⟩) hHeld ?_ ?_
           rotate_left
           ·intro w' _
            go_simp
            with_reducible rfl
           rotate_left
           ·simp only [Act.put, List.setIfInBounds_toArray, List.set_cons_zero, List.set_cons_succ, i64_w, i32_w]
            rfl
           refine pure_ (i := 2) (N := some 53) (v := ?_) (a' := ?_) #[true, true, true, false, true, false, false, true, false, false, true, false, false, false] rfl rfl (any_of HT_.out Z6) (fun _ _ _ h => h) (Or.inl ⟨Z13, ?_⟩) ?_ ?_
           rotate_left
           ·intro w'
            go_simp
            with_reducible rfl
           rotate_left
           ·simp only [Act.put, List.setIfInBounds_toArray, List.set_cons_zero, List.set_cons_succ, i64_w, i32_w]
            rfl
           refine pure_ (i := 3) (N := some 54) (v := ?_) (a' := ?_) #[true, true, true, true, true, false, false, true, false, false, true, false, false, false] rfl rfl (any_of HT_.out Z6) (fun _ _ _ h => h) (Or.inl ⟨Z13, ?_⟩) ?_ ?_
           rotate_left
           ·intro w'
            go_simp
            with_reducible rfl
           rotate_left
           ·simp only [Act.put, List.setIfInBounds_toArray, List.set_cons_zero, List.set_cons_succ, i64_w, i32_w]
            rfl
           refine take_ (i := 5) (N := some 56) (v := ?_) (a' := ?_) #[true, true, true, true, true, true, false, true, false, false, true, false, false, false] rfl rfl (take_ofW HT_.out HW_.out Z6) (fun _ _ _ h => h) (Or.inl ⟨Z13, ?_⟩) hHeld ?_ ?_
           rotate_left
           ·intro w' _
            go_simp
            with_reducible rfl
           rotate_left
           ·simp only [Act.put, List.setIfInBounds_toArray, List.set_cons_zero, List.set_cons_succ, i64_w, i32_w]
            rfl
           refine pure_ (i := 6) (N := some 57) (v := ?_) (a' := ?_) #[true, true, true, true, true, true, true, true, false, false, true, false, false, false] rfl rfl (any_of HT_.out Z6) (fun _ _ _ h => h) (Or.inl ⟨Z13, ?_⟩) ?_ ?_
           rotate_left
           ·intro w'
            go_simp
            with_reducible rfl
           rotate_left
           ·simp only [Act.put, List.setIfInBounds_toArray, List.set_cons_zero, List.set_cons_succ, i64_w, i32_w]
            rfl
           refine take_ (i := 8) (N := some 59) (v := ?_) (a' := ?_) #[true, true, true, true, true, true, true, true, true, false, true, false, false, false] rfl rfl (take_ofW HT_.out HW_.out Z6) (fun _ _ _ h => h) (Or.inl ⟨Z13, ?_⟩) hHeld ?_ ?_
           rotate_left
           ·intro w' _
            go_simp
            with_reducible rfl
           rotate_left
           ·simp only [Act.put, List.setIfInBounds_toArray, List.set_cons_zero, List.set_cons_succ, i64_w, i32_w]
            rfl
           refine pure_ (i := 9) (N := some 60) (v := ?_) (a' := ?_) #[true, true, true, true, true, true, true, true, true, true, true, false, false, false] rfl rfl (any_of HT_.out Z6) (fun _ _ _ h => h) (Or.inl ⟨Z13, ?_⟩) ?_ ?_
           rotate_left
           ·intro w'
            go_simp
            with_reducible rfl
           rotate_left
           ·simp only [Act.put, List.setIfInBounds_toArray, List.set_cons_zero, List.set_cons_succ, i64_w, i32_w]
            rfl
           refine pure_ (i := 11) (N := some 62) (v := ?_) (a' := ?_) #[true, true, true, true, true, true, true, true, true, true, true, true, false, false] rfl rfl (any_of HT_.out Z6) (fun _ _ _ h => h) (Or.inl ⟨Z13, ?_⟩) ?_ ?_
           rotate_left
           ·intro w'
            refine Eq.trans (Pre.build_run 25 [(0, Go.Operand.const (Go.Value.int Go.IntKind.i64 4)), (15, Go.Operand.tmp 54), (7, Go.Operand.tmp 57), (16, Go.Operand.tmp 60), (24, Go.Operand.tmp 61)] rfl (rrep_Get.bd62 _ _ _ _ _ _ _)) ?_
            with_reducible rfl
           rotate_left
           ·simp only [Act.put, List.setIfInBounds_toArray, List.set_cons_zero, List.set_cons_succ, i64_w, i32_w]
            rfl
           refine one_ (i := 12) (N := some 8) #[true, true, true, true, true, true, true, true, true, true, true, true, true, false] rfl rfl (one_of HT_.out Z6) Z32 (fun K hK => ?_)
           refine box_step ?hg (N := 8) ?hd (cs := #[.int .i64 0, .int .i64 0, .int .i64 0, .string ⟨#[]⟩, .int .i64 0, .int .i64 0, .string ⟨#[]⟩, .int .i64 0, .int .i64 0, .string ⟨#[]⟩, .int .i64 0, .string ⟨#[]⟩, .int .i64 0, .int .i64 0, .int .i64 0, .int .i64 0, .int .i64 0, .int .i64 0, .int .i64 0, .string ⟨#[]⟩, .string ⟨#[]⟩, .slice none 0 0, .int .i64 0, .string ⟨#[]⟩, .slice none 0 0]) (t := 25) ?hr ?_; (case hd => rfl); (case hg => rfl); (case hr => first | (go_simp; done) | (go_simp; rfl))
           intro de hg mE hbox hb
           have aG := Aside0.mk (Kd.R_below Z104 hb)
           have aH := Aside0.mk (blk_below (g := aa) Z1 hb)
           have aI := Aside0.mk (below_step Z0 hb)
           have aZ := Aside0.mk (hbox)
           have bH := Aside0.mk ((by rw [hg]; exact (below_size Z0) : w.heap.size ≤ de))
           have cx := Aside0.mk ((by rw [hg]; exact (below_size Z0) : w.heap.size ≤ de))
           have du := Aside0.mk ((by rw [hg]; exact Nat.ne_of_lt (blk_lt (g := aa) Z1) : aa ≠ de))
           have gE := Aside0.mk ((by rw [hg]; exact Nat.ne_of_gt (blk_lt (g := aa) Z1) : de ≠ aa))
           clear fG
           clear ab
           clear HB
           have fG := aG
           have ab := aH
           have HB := aI
           have cM := aZ
           have nZ := bH
           have jK := cx
           have dW := du
           have fH := gE
           clear aG aH aI aZ bH cx du gE
           clear hb hbox hg
           refine hK.out _ _ trivial (fun hHeld => ?_)
           clear hK K
           refine norm_ (a' := ?_) ?_ ?_
           rotate_left
           ·show Act.put _ (some 8) _ = _
            simp only [Act.put, List.setIfInBounds_toArray, List.set_cons_zero, List.set_cons_succ, i64_w, i32_w]
            rfl
           refine one_ (i := 13) (N := none) #[true, true, true, true, true, true, true, true, true, true, true, true, true, true] rfl rfl (one_of HT_.out Z6) Z32 (fun K hK => ?_)
           refine skip_ (w1 := ?_) Z13 rfl ?_ ?_
           rotate_left
           ·refine Eq.trans (Pre.store_run rfl Z13 Z13 cM.out Z6 Z13 Z13) ?_
            rfl
           refine hK.out _ _ trivial (fun hHeld => ?_)
           clear hK K
           refine done_ (done_of HT_.out Z6) ?_
           refine Pre.abs_end (g := de) (t := 25) (cs := #[.int .i64 0, .int .i64 0, .int .i64 0, .string ⟨#[]⟩, .int .i64 0, .int .i64 0, .string ⟨#[]⟩, .int .i64 0, .int .i64 0, .string ⟨#[]⟩, .int .i64 0, .string ⟨#[]⟩, .int .i64 0, .int .i64 0, .int .i64 0, .int .i64 0, .int .i64 0, .int .i64 0, .int .i64 0, .string ⟨#[]⟩, .string ⟨#[]⟩, .slice none 0 0, .int .i64 0, .string ⟨#[]⟩, .slice none 0 0]) (cells := #[.int .i64 4, .int .i64 0, .int .i64 0, .string ⟨#[]⟩, .int .i64 0, .int .i64 0, .string ⟨#[]⟩, .int .i64 (wrap64 (bt a0 2)), .int .i64 0, .string ⟨#[]⟩, .int .i64 0, .string ⟨#[]⟩, .int .i64 0, .int .i64 0, .int .i64 0, .int .i64 (wrap64 ((bt a0 1) / 64)), .int .i64 (wrap64 (bt a0 3)), .int .i64 0, .int .i64 0, .string ⟨#[]⟩, .string ⟨#[]⟩, .slice none 0 0, .int .i64 0, .string ⟨#[]⟩, .slice iJ cA.length iK]) Z35 Z13 ?_
           intro qW hbS_ sS_
           replace hbS_ := Aside0.mk hbS_
           replace sS_ : Aside0 (Pre.Sets de mE qW) := ⟨⟨sS_.os, sS_.tape, sS_.output, sS_.size, sS_.block⟩⟩
           have aG : Aside0 (Kd.R k48 48 qW w.heap.size (fun _ => True) (.slice iJ cA.length iK) cA) := ⟨Kd.R_mono (Pre.R_sets sS_.out (Kd.R_types fG.out cM.out Z32) (fun _ hk => hk.2)) (fun _ hk => trivial)⟩
           have aH : Aside0 (qW.heap[aa]? = some (.cells #[.int .i64 0, .int .i64 0, .int .i64 0, .string ⟨#[]⟩, .int .i64 0, .int .i64 0, .string ⟨#[]⟩, .int .i64 0, .int .i64 0, .string ⟨#[]⟩, .int .i64 0, .string ⟨#[]⟩, .int .i64 0, .int .i64 0, .int .i64 0, .int .i64 0, .int .i64 0, .int .i64 0, .int .i64 0, .string ⟨#[]⟩, .string ⟨#[]⟩, .slice none 0 0, .int .i64 0, .string ⟨#[]⟩, .slice none 0 0] 25 (0, 0))) := ⟨sS_.out.blk Z1 dW.out⟩
           have aI : Aside0 (qW.heap[de]? = some (.cells #[.int .i64 4, .int .i64 0, .int .i64 0, .string ⟨#[]⟩, .int .i64 0, .int .i64 0, .string ⟨#[]⟩, .int .i64 (wrap64 (bt a0 2)), .int .i64 0, .string ⟨#[]⟩, .int .i64 0, .string ⟨#[]⟩, .int .i64 0, .int .i64 0, .int .i64 0, .int .i64 (wrap64 ((bt a0 1) / 64)), .int .i64 (wrap64 (bt a0 3)), .int .i64 0, .int .i64 0, .string ⟨#[]⟩, .string ⟨#[]⟩, .slice none 0 0, .int .i64 0, .string ⟨#[]⟩, .slice iJ cA.length iK] 25 (0, 0))) := ⟨hbS_.out⟩
           have aZ : Aside0 (Below w.heap.size w qW) := ⟨sS_.out.below Z22 jK.out⟩
           clear hbS_ sS_
           (try clear fG)
           (try clear ab)
           (try clear cM)
           (try clear HB)
           have fG := aG
           have ab := aH
           have cM := aI
           have HB := aZ
           clear aG aH aI aZ
           try go_wp2_with (first | ((with_reducible refine gate_dst (N := 62) rfl ?_); refine Pre.build_event 62 25 [(0, Go.Operand.const (Go.Value.int Go.IntKind.i64 4)), (15, Go.Operand.tmp 54), (7, Go.Operand.tmp 57), (16, Go.Operand.tmp 60), (24, Go.Operand.tmp 61)] rfl rfl rfl (rrep_Get.bd62 _ _ _ _ _ _ _) ?_) | ((with_reducible refine Pre.gate_load 25 rfl ?_); (try (refine gate_guard Z13 ?_; dsimp only)); refine Pre.load_event rfl rfl rfl Z13 Z18 Try.underlying25 rfl Z6 ?_) | ((with_reducible refine gate_callee (f := 61) rfl ?_); refine goesL_ (some 65) rfl rfl Try.func61 Z6 rfl #[.string a0] rfl Z5 ?_; (with_reducible refine (cursor_New.calls a0 gC gp dg dh _ wK.out).mono ?_); rintro e wu ⟨rfl, hb⟩; refine ⟨_, rfl, ?_⟩; have aG := Aside0.mk (Kd.R_below Z104 hb); have aH := Aside0.mk (blk_below (g := aa) Z1 hb); have aI := Aside0.mk (blk_below (g := de) Z35 hb); have aZ := Aside0.mk (below_step Z22 hb); replace fG := aG; replace ab := aH; replace cM := aI; replace HB := aZ; clear aG aH aI aZ; (try clear hb); (try clear hb2); (try clear hk); (try clear hi)) | ((with_reducible refine gate_callee (f := 60) rfl ?_); refine goesL_ (some 66) rfl rfl Try.func60 Z6 rfl #[.agg #[.string gC, .int .i64 gp, .int .i64 dg, .bool dh], .int .i64 4] rfl Z5 ?_; (with_reducible refine (cursor_Text.calls gC gp dg dh 4 dz di dj dk dl _ ky.out).mono ?_); rintro e vd ⟨rfl, hb⟩; refine ⟨_, rfl, ?_⟩; have aG := Aside0.mk (Kd.R_below Z104 hb); have aH := Aside0.mk (blk_below (g := aa) Z1 hb); have aI := Aside0.mk (blk_below (g := de) Z35 hb); have aZ := Aside0.mk (below_step Z22 hb); replace fG := aG; replace ab := aH; replace cM := aI; replace HB := aZ; clear aG aH aI aZ; (try clear hb); (try clear hb2); (try clear hk); (try clear hi)) | ((with_reducible refine gate_dst (N := 10) rfl ?_); refine box_event ?hg (N := 10) ?hd (cs := #[.string ⟨#[]⟩, .int .i64 0, .int .i64 0, .bool false]) (t := 60) ?hr ?_; (case hd => rfl); (case hg => rfl); (case hr => first | (go_simp; done) | (go_simp; rfl)); intro fI hg w68 hbox hb; have aG := Aside0.mk (Kd.R_below Z104 hb); have aH := Aside0.mk (blk_below (g := aa) Z1 hb); have aI := Aside0.mk (blk_below (g := de) Z35 hb); have aZ := Aside0.mk (below_step Z22 hb); have bH := Aside0.mk (hbox); have cx := Aside0.mk ((by rw [hg]; exact (below_size Z22) : w.heap.size ≤ fI)); have du := Aside0.mk ((by rw [hg]; exact (below_size Z22) : w.heap.size ≤ fI)); have gE := Aside0.mk ((by rw [hg]; exact Nat.ne_of_lt (blk_lt (g := aa) Z1) : aa ≠ fI)); have hC := Aside0.mk ((by rw [hg]; exact Nat.ne_of_gt (blk_lt (g := aa) Z1) : fI ≠ aa)); have jL := Aside0.mk ((by rw [hg]; exact Nat.ne_of_lt (blk_lt (g := de) Z35) : de ≠ fI)); have iL := Aside0.mk ((by rw [hg]; exact Nat.ne_of_gt (blk_lt (g := de) Z35) : fI ≠ de)); replace fG := aG; replace ab := aH; replace cM := aI; replace HB := aZ; have hD := bH; have GW148 := cx; have st := du; have gI := gE; have lf := hC; have dD := jL; have ke := iL; clear aG aH aI aZ bH cx du gE hC jL iL; clear hb hbox hg; have hnb69 := lf.out; have hnc69 := gI.out; have hnb70 := ke.out; have hnc70 := dD.out; have su := cells_4 hD.out) | ((with_reducible refine gate_callee (f := 60) rfl ?_); refine goesL_ (some 71) rfl rfl Try.func60 Z6 rfl #[.agg #[.string di, .int .i64 dj, .int .i64 dk, .bool dl], .int .i64 4] rfl Z5 ?_; (with_reducible refine (cursor_Text.calls di dj dk dl 4 cQ dm dn dp dq _ wL.out).mono ?_); rintro e vq ⟨rfl, hb⟩; refine ⟨_, rfl, ?_⟩; have aG := Aside0.mk (Kd.R_below (by (with_reducible repeat (first | apply Kd.R_alloc | apply Kd.R_drewN | apply Kd.R_drew)); exact (Kd.R_mono (Kd.R_far (p := ⟨fI, 3, none⟩) (Kd.R_far (p := ⟨fI, 2, none⟩) (Kd.R_far (p := ⟨fI, 1, none⟩) (Kd.R_far (p := ⟨fI, 0, none⟩) (Kd.R_types fG.out hD.out Z32) (fun _ hk => hk.2) (.string di)) (fun _ hk => hk.2) (.int .i64 dj)) (fun _ hk => hk.2) (.int .i64 dk)) (fun _ hk => hk.2) (.bool dl)) (fun _ h_ => h_.1))) hb); have aH := Aside0.mk (blk_below (g := aa) (o := .cells #[.int .i64 0, .int .i64 0, .int .i64 0, .string ⟨#[]⟩, .int .i64 0, .int .i64 0, .string ⟨#[]⟩, .int .i64 0, .int .i64 0, .string ⟨#[]⟩, .int .i64 0, .string ⟨#[]⟩, .int .i64 0, .int .i64 0, .int .i64 0, .int .i64 0, .int .i64 0, .int .i64 0, .int .i64 0, .string ⟨#[]⟩, .string ⟨#[]⟩, .slice none 0 0, .int .i64 0, .string ⟨#[]⟩, .slice none 0 0] 25 (0, 0)) (by (with_reducible repeat (first | refine blk_drewN ?_ _ | refine blk_drew ?_ | refine blk_alloc ?_ _)); refine blk_far ?_ gI.out _; (with_reducible repeat (first | refine blk_drewN ?_ _ | refine blk_drew ?_ | refine blk_alloc ?_ _)); refine blk_far ?_ gI.out _; (with_reducible repeat (first | refine blk_drewN ?_ _ | refine blk_drew ?_ | refine blk_alloc ?_ _)); refine blk_far ?_ gI.out _; (with_reducible repeat (first | refine blk_drewN ?_ _ | refine blk_drew ?_ | refine blk_alloc ?_ _)); refine blk_far ?_ gI.out _; (with_reducible repeat (first | refine blk_drewN ?_ _ | refine blk_drew ?_ | refine blk_alloc ?_ _)); exact ab.out) hb); have aI := Aside0.mk (blk_below (g := de) (o := .cells #[.int .i64 4, .int .i64 0, .int .i64 0, .string ⟨#[]⟩, .int .i64 0, .int .i64 0, .string ⟨#[]⟩, .int .i64 (wrap64 (bt a0 2)), .int .i64 0, .string ⟨#[]⟩, .int .i64 0, .string ⟨#[]⟩, .int .i64 0, .int .i64 0, .int .i64 0, .int .i64 (wrap64 ((bt a0 1) / 64)), .int .i64 (wrap64 (bt a0 3)), .int .i64 0, .int .i64 0, .string ⟨#[]⟩, .string ⟨#[]⟩, .slice none 0 0, .int .i64 0, .string ⟨#[]⟩, .slice iJ cA.length iK] 25 (0, 0)) (by (with_reducible repeat (first | refine blk_drewN ?_ _ | refine blk_drew ?_ | refine blk_alloc ?_ _)); refine blk_far ?_ dD.out _; (with_reducible repeat (first | refine blk_drewN ?_ _ | refine blk_drew ?_ | refine blk_alloc ?_ _)); refine blk_far ?_ dD.out _; (with_reducible repeat (first | refine blk_drewN ?_ _ | refine blk_drew ?_ | refine blk_alloc ?_ _)); refine blk_far ?_ dD.out _; (with_reducible repeat (first | refine blk_drewN ?_ _ | refine blk_drew ?_ | refine blk_alloc ?_ _)); refine blk_far ?_ dD.out _; (with_reducible repeat (first | refine blk_drewN ?_ _ | refine blk_drew ?_ | refine blk_alloc ?_ _)); exact cM.out) hb); have aZ := Aside0.mk (blk_below (g := fI) (o := .cells #[.string di, .int .i64 dj, .int .i64 dk, .bool dl] 60 (0, 0)) (by (with_reducible repeat (first | refine blk_drewN ?_ _ | refine blk_drew ?_ | refine blk_alloc ?_ _)); apply blk_puts4; (with_reducible repeat (first | refine blk_drewN ?_ _ | refine blk_drew ?_ | refine blk_alloc ?_ _)); exact hD.out) hb); have bH := Aside0.mk (below_step Z56 hb); replace fG := aG; replace ab := aH; replace cM := aI; replace hD := aZ; replace HB := bH; clear aG aH aI aZ bH; (try clear hb); (try clear hb2); (try clear hk); (try clear hi); have hnb73 := fH.out; have hnc73 := dW.out; have qf := cells_25 cM.out; have sv := cells_4 hD.out) | ((with_reducible refine gate_callee (f := 62) rfl ?_); refine goesL_ (some 77) rfl rfl Try.func62 Z6 rfl #[.agg #[.string dm, .int .i64 dn, .int .i64 dp, .bool dq], .int .i64 4] rfl Z5 ?_; (with_reducible refine (cursor_Num.calls dm dn dp dq 4 cZ cR eF eG dr _ wM.out).mono ?_); rintro e qg ⟨rfl, hb⟩; refine ⟨_, rfl, ?_⟩; have aG := Aside0.mk (Kd.R_below (by (with_reducible repeat (first | apply Kd.R_alloc | apply Kd.R_drewN | apply Kd.R_drew)); exact (Kd.R_mono (Kd.R_mono (Kd.R_far (p := ⟨fI, 3, none⟩) (Kd.R_far (p := ⟨fI, 2, none⟩) (Kd.R_far (p := ⟨fI, 1, none⟩) (Kd.R_far (p := ⟨fI, 0, none⟩) (Kd.R_far (p := ⟨de, 19, none⟩) (Kd.R_types (Kd.R_types fG.out cM.out Z32) hD.out Z32) (fun _ hk => hk.1.2) (.string cQ)) (fun _ hk => hk.2) (.string dm)) (fun _ hk => hk.2) (.int .i64 dn)) (fun _ hk => hk.2) (.int .i64 dp)) (fun _ hk => hk.2) (.bool dq)) (fun _ h_ => h_.1)) (fun _ h_ => h_.1))) hb); have aH := Aside0.mk (blk_below (g := aa) (o := .cells #[.int .i64 0, .int .i64 0, .int .i64 0, .string ⟨#[]⟩, .int .i64 0, .int .i64 0, .string ⟨#[]⟩, .int .i64 0, .int .i64 0, .string ⟨#[]⟩, .int .i64 0, .string ⟨#[]⟩, .int .i64 0, .int .i64 0, .int .i64 0, .int .i64 0, .int .i64 0, .int .i64 0, .int .i64 0, .string ⟨#[]⟩, .string ⟨#[]⟩, .slice none 0 0, .int .i64 0, .string ⟨#[]⟩, .slice none 0 0] 25 (0, 0)) Z48 hb); have aI := Aside0.mk (blk_below (g := de) (o := .cells #[.int .i64 4, .int .i64 0, .int .i64 0, .string ⟨#[]⟩, .int .i64 0, .int .i64 0, .string ⟨#[]⟩, .int .i64 (wrap64 (bt a0 2)), .int .i64 0, .string ⟨#[]⟩, .int .i64 0, .string ⟨#[]⟩, .int .i64 0, .int .i64 0, .int .i64 0, .int .i64 (wrap64 ((bt a0 1) / 64)), .int .i64 (wrap64 (bt a0 3)), .int .i64 0, .int .i64 0, .string cQ, .string ⟨#[]⟩, .slice none 0 0, .int .i64 0, .string ⟨#[]⟩, .slice iJ cA.length iK] 25 (0, 0)) (by (with_reducible repeat (first | refine blk_drewN ?_ _ | refine blk_drew ?_ | refine blk_alloc ?_ _)); refine blk_far ?_ dD.out _; (with_reducible repeat (first | refine blk_drewN ?_ _ | refine blk_drew ?_ | refine blk_alloc ?_ _)); refine blk_far ?_ dD.out _; (with_reducible repeat (first | refine blk_drewN ?_ _ | refine blk_drew ?_ | refine blk_alloc ?_ _)); refine blk_far ?_ dD.out _; (with_reducible repeat (first | refine blk_drewN ?_ _ | refine blk_drew ?_ | refine blk_alloc ?_ _)); refine blk_far ?_ dD.out _; (with_reducible repeat (first | refine blk_drewN ?_ _ | refine blk_drew ?_ | refine blk_alloc ?_ _)); refine blk_put (cs := #[.int .i64 4, .int .i64 0, .int .i64 0, .string ⟨#[]⟩, .int .i64 0, .int .i64 0, .string ⟨#[]⟩, .int .i64 (wrap64 (bt a0 2)), .int .i64 0, .string ⟨#[]⟩, .int .i64 0, .string ⟨#[]⟩, .int .i64 0, .int .i64 0, .int .i64 0, .int .i64 (wrap64 ((bt a0 1) / 64)), .int .i64 (wrap64 (bt a0 3)), .int .i64 0, .int .i64 0, .string ⟨#[]⟩, .string ⟨#[]⟩, .slice none 0 0, .int .i64 0, .string ⟨#[]⟩, .slice iJ cA.length iK]) ?_ 19 _ rfl; (with_reducible repeat (first | refine blk_drewN ?_ _ | refine blk_drew ?_ | refine blk_alloc ?_ _)); exact cM.out) hb); have aZ := Aside0.mk (blk_below (g := fI) (o := .cells #[.string dm, .int .i64 dn, .int .i64 dp, .bool dq] 60 (0, 0)) Z87 hb); have bH := Aside0.mk (below_step Z56 hb); replace fG := aG; replace ab := aH; replace cM := aI; replace hD := aZ; replace HB := bH; clear aG aH aI aZ bH; (try clear hb); (try clear hb2); (try clear hk); (try clear hi); have sw := cells_25 cM.out; have hcz78 := cells_4 hD.out) | ((with_reducible refine gate_callee (f := 60) rfl ?_); refine goesL_ (some 83) rfl rfl Try.func60 Z6 rfl #[.agg #[.string cR, .int .i64 eF, .int .i64 eG, .bool dr], .int .i64 4] rfl Z5 ?_; (with_reducible refine (cursor_Text.calls cR eF eG dr 4 dd cO es dA gv _ qd.out).mono ?_); rintro e wv ⟨rfl, hb⟩; refine ⟨_, rfl, ?_⟩; have aG := Aside0.mk (Kd.R_below (by (with_reducible repeat (first | apply Kd.R_alloc | apply Kd.R_drewN | apply Kd.R_drew)); exact (Kd.R_mono (Kd.R_mono (Kd.R_far (p := ⟨fI, 3, none⟩) (Kd.R_far (p := ⟨fI, 2, none⟩) (Kd.R_far (p := ⟨fI, 1, none⟩) (Kd.R_far (p := ⟨fI, 0, none⟩) (Kd.R_far (p := ⟨de, 12, none⟩) (Kd.R_types (Kd.R_types fG.out cM.out Z32) hD.out Z32) (fun _ hk => hk.1.2) (.int .i64 cZ)) (fun _ hk => hk.2) (.string cR)) (fun _ hk => hk.2) (.int .i64 eF)) (fun _ hk => hk.2) (.int .i64 eG)) (fun _ hk => hk.2) (.bool dr)) (fun _ h_ => h_.1)) (fun _ h_ => h_.1))) hb); have aH := Aside0.mk (blk_below (g := aa) (o := .cells #[.int .i64 0, .int .i64 0, .int .i64 0, .string ⟨#[]⟩, .int .i64 0, .int .i64 0, .string ⟨#[]⟩, .int .i64 0, .int .i64 0, .string ⟨#[]⟩, .int .i64 0, .string ⟨#[]⟩, .int .i64 0, .int .i64 0, .int .i64 0, .int .i64 0, .int .i64 0, .int .i64 0, .int .i64 0, .string ⟨#[]⟩, .string ⟨#[]⟩, .slice none 0 0, .int .i64 0, .string ⟨#[]⟩, .slice none 0 0] 25 (0, 0)) Z48 hb); have aI := Aside0.mk (blk_below (g := de) (o := .cells #[.int .i64 4, .int .i64 0, .int .i64 0, .string ⟨#[]⟩, .int .i64 0, .int .i64 0, .string ⟨#[]⟩, .int .i64 (wrap64 (bt a0 2)), .int .i64 0, .string ⟨#[]⟩, .int .i64 0, .string ⟨#[]⟩, .int .i64 cZ, .int .i64 0, .int .i64 0, .int .i64 (wrap64 ((bt a0 1) / 64)), .int .i64 (wrap64 (bt a0 3)), .int .i64 0, .int .i64 0, .string cQ, .string ⟨#[]⟩, .slice none 0 0, .int .i64 0, .string ⟨#[]⟩, .slice iJ cA.length iK] 25 (0, 0)) (by (with_reducible repeat (first | refine blk_drewN ?_ _ | refine blk_drew ?_ | refine blk_alloc ?_ _)); refine blk_far ?_ dD.out _; (with_reducible repeat (first | refine blk_drewN ?_ _ | refine blk_drew ?_ | refine blk_alloc ?_ _)); refine blk_far ?_ dD.out _; (with_reducible repeat (first | refine blk_drewN ?_ _ | refine blk_drew ?_ | refine blk_alloc ?_ _)); refine blk_far ?_ dD.out _; (with_reducible repeat (first | refine blk_drewN ?_ _ | refine blk_drew ?_ | refine blk_alloc ?_ _)); refine blk_far ?_ dD.out _; (with_reducible repeat (first | refine blk_drewN ?_ _ | refine blk_drew ?_ | refine blk_alloc ?_ _)); refine blk_put (cs := #[.int .i64 4, .int .i64 0, .int .i64 0, .string ⟨#[]⟩, .int .i64 0, .int .i64 0, .string ⟨#[]⟩, .int .i64 (wrap64 (bt a0 2)), .int .i64 0, .string ⟨#[]⟩, .int .i64 0, .string ⟨#[]⟩, .int .i64 0, .int .i64 0, .int .i64 0, .int .i64 (wrap64 ((bt a0 1) / 64)), .int .i64 (wrap64 (bt a0 3)), .int .i64 0, .int .i64 0, .string cQ, .string ⟨#[]⟩, .slice none 0 0, .int .i64 0, .string ⟨#[]⟩, .slice iJ cA.length iK]) ?_ 12 _ rfl; (with_reducible repeat (first | refine blk_drewN ?_ _ | refine blk_drew ?_ | refine blk_alloc ?_ _)); exact cM.out) hb); have aZ := Aside0.mk (blk_below (g := fI) (o := .cells #[.string cR, .int .i64 eF, .int .i64 eG, .bool dr] 60 (0, 0)) Z87 hb); have bH := Aside0.mk (below_step Z56 hb); replace fG := aG; replace ab := aH; replace cM := aI; replace hD := aZ; replace HB := bH; clear aG aH aI aZ bH; (try clear hb); (try clear hb2); (try clear hk); (try clear hi); have hcz80 := cells_25 cM.out; have hcz81 := cells_4 hD.out) | ((with_reducible refine gate_callee (f := 62) rfl ?_); refine goesL_ (some 89) rfl rfl Try.func62 Z6 rfl #[.agg #[.string cO, .int .i64 es, .int .i64 dA, .bool gv], .int .i64 4] rfl Z5 ?_; (with_reducible refine (cursor_Num.calls cO es dA gv 4 iE fc db cB vp _ vc.out).mono ?_); rintro e wO ⟨rfl, hb⟩; refine ⟨_, rfl, ?_⟩; have aG := Aside0.mk (Kd.R_below (by (with_reducible repeat (first | apply Kd.R_alloc | apply Kd.R_drewN | apply Kd.R_drew)); exact (Kd.R_mono (Kd.R_mono (Kd.R_far (p := ⟨fI, 3, none⟩) (Kd.R_far (p := ⟨fI, 2, none⟩) (Kd.R_far (p := ⟨fI, 1, none⟩) (Kd.R_far (p := ⟨fI, 0, none⟩) (Kd.R_far (p := ⟨de, 20, none⟩) (Kd.R_types (Kd.R_types fG.out cM.out Z32) hD.out Z32) (fun _ hk => hk.1.2) (.string dd)) (fun _ hk => hk.2) (.string cO)) (fun _ hk => hk.2) (.int .i64 es)) (fun _ hk => hk.2) (.int .i64 dA)) (fun _ hk => hk.2) (.bool gv)) (fun _ h_ => h_.1)) (fun _ h_ => h_.1))) hb); have aH := Aside0.mk (blk_below (g := aa) (o := .cells #[.int .i64 0, .int .i64 0, .int .i64 0, .string ⟨#[]⟩, .int .i64 0, .int .i64 0, .string ⟨#[]⟩, .int .i64 0, .int .i64 0, .string ⟨#[]⟩, .int .i64 0, .string ⟨#[]⟩, .int .i64 0, .int .i64 0, .int .i64 0, .int .i64 0, .int .i64 0, .int .i64 0, .int .i64 0, .string ⟨#[]⟩, .string ⟨#[]⟩, .slice none 0 0, .int .i64 0, .string ⟨#[]⟩, .slice none 0 0] 25 (0, 0)) Z48 hb); have aI := Aside0.mk (blk_below (g := de) (o := .cells #[.int .i64 4, .int .i64 0, .int .i64 0, .string ⟨#[]⟩, .int .i64 0, .int .i64 0, .string ⟨#[]⟩, .int .i64 (wrap64 (bt a0 2)), .int .i64 0, .string ⟨#[]⟩, .int .i64 0, .string ⟨#[]⟩, .int .i64 cZ, .int .i64 0, .int .i64 0, .int .i64 (wrap64 ((bt a0 1) / 64)), .int .i64 (wrap64 (bt a0 3)), .int .i64 0, .int .i64 0, .string cQ, .string dd, .slice none 0 0, .int .i64 0, .string ⟨#[]⟩, .slice iJ cA.length iK] 25 (0, 0)) (by (with_reducible repeat (first | refine blk_drewN ?_ _ | refine blk_drew ?_ | refine blk_alloc ?_ _)); refine blk_far ?_ dD.out _; (with_reducible repeat (first | refine blk_drewN ?_ _ | refine blk_drew ?_ | refine blk_alloc ?_ _)); refine blk_far ?_ dD.out _; (with_reducible repeat (first | refine blk_drewN ?_ _ | refine blk_drew ?_ | refine blk_alloc ?_ _)); refine blk_far ?_ dD.out _; (with_reducible repeat (first | refine blk_drewN ?_ _ | refine blk_drew ?_ | refine blk_alloc ?_ _)); refine blk_far ?_ dD.out _; (with_reducible repeat (first | refine blk_drewN ?_ _ | refine blk_drew ?_ | refine blk_alloc ?_ _)); refine blk_put (cs := #[.int .i64 4, .int .i64 0, .int .i64 0, .string ⟨#[]⟩, .int .i64 0, .int .i64 0, .string ⟨#[]⟩, .int .i64 (wrap64 (bt a0 2)), .int .i64 0, .string ⟨#[]⟩, .int .i64 0, .string ⟨#[]⟩, .int .i64 cZ, .int .i64 0, .int .i64 0, .int .i64 (wrap64 ((bt a0 1) / 64)), .int .i64 (wrap64 (bt a0 3)), .int .i64 0, .int .i64 0, .string cQ, .string ⟨#[]⟩, .slice none 0 0, .int .i64 0, .string ⟨#[]⟩, .slice iJ cA.length iK]) ?_ 20 _ rfl; (with_reducible repeat (first | refine blk_drewN ?_ _ | refine blk_drew ?_ | refine blk_alloc ?_ _)); exact cM.out) hb); have aZ := Aside0.mk (blk_below (g := fI) (o := .cells #[.string cO, .int .i64 es, .int .i64 dA, .bool gv] 60 (0, 0)) Z87 hb); have bH := Aside0.mk (below_step Z56 hb); replace fG := aG; replace ab := aH; replace cM := aI; replace hD := aZ; replace HB := bH; clear aG aH aI aZ bH; (try clear hb); (try clear hb2); (try clear hk); (try clear hi); have qh := cells_25 cM.out; have hcz84 := cells_25 ab.out) | ((with_reducible refine Pre.gate_store 25 rfl ?_); refine Pre.store_abs (cur := #[.int .i64 0, .int .i64 0, .int .i64 0, .string ⟨#[]⟩, .int .i64 0, .int .i64 0, .string ⟨#[]⟩, .int .i64 0, .int .i64 0, .string ⟨#[]⟩, .int .i64 0, .string ⟨#[]⟩, .int .i64 0, .int .i64 0, .int .i64 0, .int .i64 0, .int .i64 0, .int .i64 0, .int .i64 0, .string ⟨#[]⟩, .string ⟨#[]⟩, .slice none 0 0, .int .i64 0, .string ⟨#[]⟩, .slice none 0 0]) (e := 25) rfl rfl rfl Z13 Z13 (by (with_reducible repeat (first | refine blk_drewN ?_ _ | refine blk_drew ?_ | refine blk_alloc ?_ _)); refine blk_far ?_ dW.out _; (with_reducible repeat (first | refine blk_drewN ?_ _ | refine blk_drew ?_ | refine blk_alloc ?_ _)); exact ab.out) Z6 Z13 Z13 ?_; intro qX hbS_ sS_; have aG : Aside0 (Kd.R k48 48 qX w.heap.size (fun _ => True) (.slice iJ cA.length iK) cA) := ⟨Kd.R_mono (Pre.R_sets sS_ (Kd.R_far (p := ⟨de, 14, none⟩) (Kd.R_types (Kd.R_types fG.out cM.out Z32) ab.out Z32) (fun _ hk => hk.1.2) (.int .i64 iE)) (fun _ hk => hk.2)) (fun _ hk => trivial)⟩; have aH : Aside0 (qX.heap[aa]? = some (.cells #[.int .i64 4, .int .i64 0, .int .i64 0, .string ⟨#[]⟩, .int .i64 0, .int .i64 0, .string ⟨#[]⟩, .int .i64 (wrap64 (bt a0 2)), .int .i64 0, .string ⟨#[]⟩, .int .i64 0, .string ⟨#[]⟩, .int .i64 cZ, .int .i64 0, .int .i64 iE, .int .i64 (wrap64 ((bt a0 1) / 64)), .int .i64 (wrap64 (bt a0 3)), .int .i64 0, .int .i64 0, .string cQ, .string dd, .slice none 0 0, .int .i64 0, .string ⟨#[]⟩, .slice iJ cA.length iK] 25 (0, 0))) := ⟨hbS_⟩; have aI : Aside0 (qX.heap[de]? = some (.cells #[.int .i64 4, .int .i64 0, .int .i64 0, .string ⟨#[]⟩, .int .i64 0, .int .i64 0, .string ⟨#[]⟩, .int .i64 (wrap64 (bt a0 2)), .int .i64 0, .string ⟨#[]⟩, .int .i64 0, .string ⟨#[]⟩, .int .i64 cZ, .int .i64 0, .int .i64 iE, .int .i64 (wrap64 ((bt a0 1) / 64)), .int .i64 (wrap64 (bt a0 3)), .int .i64 0, .int .i64 0, .string cQ, .string dd, .slice none 0 0, .int .i64 0, .string ⟨#[]⟩, .slice iJ cA.length iK] 25 (0, 0))) := ⟨sS_.blk (by (with_reducible repeat (first | refine blk_drewN ?_ _ | refine blk_drew ?_ | refine blk_alloc ?_ _)); refine blk_put (cs := #[.int .i64 4, .int .i64 0, .int .i64 0, .string ⟨#[]⟩, .int .i64 0, .int .i64 0, .string ⟨#[]⟩, .int .i64 (wrap64 (bt a0 2)), .int .i64 0, .string ⟨#[]⟩, .int .i64 0, .string ⟨#[]⟩, .int .i64 cZ, .int .i64 0, .int .i64 0, .int .i64 (wrap64 ((bt a0 1) / 64)), .int .i64 (wrap64 (bt a0 3)), .int .i64 0, .int .i64 0, .string cQ, .string dd, .slice none 0 0, .int .i64 0, .string ⟨#[]⟩, .slice iJ cA.length iK]) ?_ 14 _ rfl; (with_reducible repeat (first | refine blk_drewN ?_ _ | refine blk_drew ?_ | refine blk_alloc ?_ _)); exact cM.out) fH.out⟩; have aZ : Aside0 (qX.heap[fI]? = some (.cells #[.string cO, .int .i64 es, .int .i64 dA, .bool gv] 60 (0, 0))) := ⟨sS_.blk (by (with_reducible repeat (first | refine blk_drewN ?_ _ | refine blk_drew ?_ | refine blk_alloc ?_ _)); refine blk_far ?_ ke.out _; (with_reducible repeat (first | refine blk_drewN ?_ _ | refine blk_drew ?_ | refine blk_alloc ?_ _)); exact hD.out) lf.out⟩; have bH : Aside0 (Below w.heap.size w qX) := ⟨sS_.below Z56 bs.out⟩; clear hbS_ sS_; replace fG := aG; replace ab := aH; replace cM := aI; replace hD := aZ; replace HB := bH; clear aG aH aI aZ bH))
           refine bodyPost_ret (results_ctt rfl _ _ aa 25 #[.int .i64 4, .int .i64 0, .int .i64 0, .string ⟨#[]⟩, .int .i64 0, .int .i64 0, .string ⟨#[]⟩, .int .i64 (wrap64 (bt a0 2)), .int .i64 0, .string ⟨#[]⟩, .int .i64 0, .string ⟨#[]⟩, .int .i64 cZ, .int .i64 0, .int .i64 iE, .int .i64 (wrap64 ((bt a0 1) / 64)), .int .i64 (wrap64 (bt a0 3)), .int .i64 0, .int .i64 0, .string cQ, .string dd, .slice none 0 0, .int .i64 0, .string ⟨#[]⟩, .slice iJ cA.length iK] (0, 0) _ rfl Z1 Try.underlying25 rfl Z6) rfl ?_
           exact ⟨_, _, Z9, Z12, Z104, Z56⟩
          ·rw [if_neg iD] at H
           exact absurd H Z73
         ·rw [if_neg fz] at H
          have lc : (dt == 0) = false := beq_eq_false_iff_ne.mpr fz
          have ld : (dt != 0) = true := bne_iff_ne.mpr fz
          simp only [Option.some.injEq, Prod.mk.injEq] at H
          obtain ⟨rfl, rfl, rfl, rfl, rfl, rfl, rfl, rfl, rfl, rfl, rfl, rfl, rfl, rfl, rfl, rfl, rfl, rfl, rfl, rfl, rfl, rfl, rfl, rfl, rfl, rfl, rfl⟩ := H
          try go_wp2_with (first | ((with_reducible refine gate_dst (N := 62) rfl ?_); refine Pre.build_event 62 25 [(0, Go.Operand.const (Go.Value.int Go.IntKind.i64 4)), (15, Go.Operand.tmp 54), (7, Go.Operand.tmp 57), (16, Go.Operand.tmp 60), (24, Go.Operand.tmp 61)] rfl rfl rfl (rrep_Get.bd62 _ _ _ _ _ _ _) ?_) | ((with_reducible refine Pre.gate_load 25 rfl ?_); (try (refine gate_guard Z13 ?_; dsimp only)); refine Pre.load_event rfl rfl rfl Z13 Z18 Try.underlying25 rfl Z6 ?_))
          have aG := Aside0.mk (blk_drew ab.out)
          have aH := Aside0.mk (below_drew1 HB.out)
          clear ab
          clear HB
          have ab := aG
          have HB := aH
          clear aG aH
          have p18 : 0 ≤ (1 : Int) := Z55
          have q18 : 1 < a0.size := (by have : (1 : Int) < (a0.size : Int) := of_decide_eq_true Z10; omega)
          have hx18 : ∀ h : 1 < a0.size, ((a0[1]'h).toNat : Int) = bt a0 1 := bt_at a0 1
          clear p18
          have qi18 : (1 < (a0.size : Int)) = True := eq_true (of_decide_eq_true Z10)
          replace q18 := eq_true q18
          have p20 : 0 ≤ (2 : Int) := Z55
          have q20 : 2 < a0.size := (by have : (2 : Int) < (a0.size : Int) := of_decide_eq_true Z10; omega)
          have hx20 : ∀ h : 2 < a0.size, ((a0[2]'h).toNat : Int) = bt a0 2 := bt_at a0 2
          clear p20
          have qi20 : (2 < (a0.size : Int)) = True := eq_true (of_decide_eq_true Z10)
          replace q20 := eq_true q20
          refine start_ (n := 8) (S := fun w' => True) (ds := []) #[false, false, false, false, false, false, false, false] Z6 rfl rfl trivial (fun hHeld => ?_); refine with_tabW rrep_Get.tab5 rrep_Get.bits5 (fun HT_ HW_ => ?_)
          generalize wc.drew = nQ at ab HB hHeld ⊢
          refine pure_ (i := 0) (N := some 29) (v := ?_) (a' := ?_) #[true, false, false, false, false, false, false, false] rfl rfl (any_of HT_.out Z6) (fun _ _ _ h => h) (Or.inl ⟨Z13, ?_⟩) ?_ ?_
          rotate_left
          ·intro w'
           go_simp
           with_reducible rfl
          rotate_left
          ·simp only [Act.put, List.setIfInBounds_toArray, List.set_cons_zero, List.set_cons_succ, i64_w, i32_w]
           rfl
          refine pure_ (i := 3) (N := some 32) (v := ?_) (a' := ?_) #[true, false, false, true, false, false, false, false] rfl rfl (any_of HT_.out Z6) (fun _ _ _ h => h) (Or.inl ⟨Z13, ?_⟩) ?_ ?_
          rotate_left
          ·intro w'
           go_simp
           with_reducible rfl
          rotate_left
          ·simp only [Act.put, List.setIfInBounds_toArray, List.set_cons_zero, List.set_cons_succ, i64_w, i32_w]
           rfl
          refine take_ (i := 1) (N := some 30) (v := ?_) (a' := ?_) #[true, true, false, true, false, false, false, false] rfl rfl (take_ofW HT_.out HW_.out Z6) (fun _ _ _ h => h) (Or.inl ⟨Z13, ?_⟩) hHeld ?_ ?_
          rotate_left
          ·intro w' _
           go_simp
           with_reducible rfl
          rotate_left
          ·simp only [Act.put, List.setIfInBounds_toArray, List.set_cons_zero, List.set_cons_succ, i64_w, i32_w]
           rfl
          refine pure_ (i := 2) (N := some 31) (v := ?_) (a' := ?_) #[true, true, true, true, false, false, false, false] rfl rfl (any_of HT_.out Z6) (fun _ _ _ h => h) (Or.inl ⟨Z13, ?_⟩) ?_ ?_
          rotate_left
          ·intro w'
           go_simp
           with_reducible rfl
          rotate_left
          ·simp only [Act.put, List.setIfInBounds_toArray, List.set_cons_zero, List.set_cons_succ, i64_w, i32_w]
           rfl
          refine take_ (i := 4) (N := some 33) (v := ?_) (a' := ?_) #[true, true, true, true, true, false, false, false] rfl rfl (take_ofW HT_.out HW_.out Z6) (fun _ _ _ h => h) (Or.inl ⟨Z13, ?_⟩) hHeld ?_ ?_
          rotate_left
          ·intro w' _
           go_simp
           with_reducible rfl
          rotate_left
          ·simp only [Act.put, List.setIfInBounds_toArray, List.set_cons_zero, List.set_cons_succ, i64_w, i32_w]
           rfl
          refine pure_ (i := 5) (N := some 34) (v := ?_) (a' := ?_) #[true, true, true, true, true, true, false, false] rfl rfl (any_of HT_.out Z6) (fun _ _ _ h => h) (Or.inl ⟨Z13, ?_⟩) ?_ ?_
          rotate_left
          ·intro w'
           go_simp
           with_reducible rfl
          rotate_left
          ·simp only [Act.put, List.setIfInBounds_toArray, List.set_cons_zero, List.set_cons_succ, i64_w, i32_w]
           rfl
          refine pure_ (i := 6) (N := some 35) (v := ?_) (a' := ?_) #[true, true, true, true, true, true, true, false] rfl rfl (any_of HT_.out Z6) (fun _ _ _ h => h) (Or.inl ⟨Z13, ?_⟩) ?_ ?_
          rotate_left
          ·intro w'
           go_simp
           with_reducible rfl
          rotate_left
          ·simp only [Act.put, List.setIfInBounds_toArray, List.set_cons_zero, List.set_cons_succ, i64_w, i32_w]
           rfl
          refine pure_ (i := 7) (N := some 36) (v := ?_) (a' := ?_) #[true, true, true, true, true, true, true, true] rfl rfl (any_of HT_.out Z6) (fun _ _ _ h => h) (Or.inl ⟨Z13, ?_⟩) ?_ ?_
          rotate_left
          ·intro w'
           go_simp
           with_reducible rfl
          rotate_left
          ·simp only [Act.put, List.setIfInBounds_toArray, List.set_cons_zero, List.set_cons_succ, i64_w, i32_w]
           rfl
          refine done_ (done_of HT_.out Z6) ?_
          try go_wp2_with (first | ((with_reducible refine gate_dst (N := 62) rfl ?_); refine Pre.build_event 62 25 [(0, Go.Operand.const (Go.Value.int Go.IntKind.i64 4)), (15, Go.Operand.tmp 54), (7, Go.Operand.tmp 57), (16, Go.Operand.tmp 60), (24, Go.Operand.tmp 61)] rfl rfl rfl (rrep_Get.bd62 _ _ _ _ _ _ _) ?_) | ((with_reducible refine Pre.gate_load 25 rfl ?_); (try (refine gate_guard Z13 ?_; dsimp only)); refine Pre.load_event rfl rfl rfl Z13 Z18 Try.underlying25 rfl Z6 ?_) | ((with_reducible refine gate_callee (f := 59) rfl ?_); refine goesL_ (some 41) rfl rfl Try.func59 Z6 rfl #[.string (a0.extract 20 a0.size)] rfl Z5 ?_; (with_reducible refine (ext_Get.calls kj1 (a0.extract 20 a0.size) cA gq dt _ lT.out).mono ?_); rintro e pG ⟨sr, rfl, ho0, hb⟩; refine ⟨_, rfl, ?_⟩; have aG := Aside0.mk (Kd.R_lower ho0 (below_size Z0)); have aH := Aside0.mk (blk_below (g := aa) Z1 hb); have aI := Aside0.mk (below_step Z0 hb); have fG := aG; replace ab := aH; replace HB := aI; clear aG aH aI; (try clear hb); (try clear hb2); (try clear hk); (try clear hi); (try clear ho0); have qi := cells_25 ab.out) | ((with_reducible refine Pre.gate_store 25 rfl ?_); refine Pre.store_abs (cur := #[.int .i64 0, .int .i64 0, .int .i64 0, .string ⟨#[]⟩, .int .i64 0, .int .i64 0, .string ⟨#[]⟩, .int .i64 0, .int .i64 0, .string ⟨#[]⟩, .int .i64 0, .string ⟨#[]⟩, .int .i64 0, .int .i64 0, .int .i64 0, .int .i64 0, .int .i64 0, .int .i64 0, .int .i64 0, .string ⟨#[]⟩, .string ⟨#[]⟩, .slice none 0 0, .int .i64 0, .string ⟨#[]⟩, .slice none 0 0]) (e := 25) rfl rfl rfl Z13 Z13 Z1 Z6 Z13 Z13 ?_; intro rZ hbS_ sS_; have aG : Aside0 (Kd.R k48 48 rZ w.heap.size (fun _ => True) sr cA) := ⟨Kd.R_mono (Pre.R_sets sS_ (Kd.R_types fG.out ab.out Z32) (fun _ hk => hk.2)) (fun _ hk => trivial)⟩; have aH : Aside0 (rZ.heap[aa]? = some (.cells #[.int .i64 0, .int .i64 0, .int .i64 0, .string ⟨#[]⟩, .int .i64 0, .int .i64 0, .string ⟨#[]⟩, .int .i64 0, .int .i64 0, .string ⟨#[]⟩, .int .i64 0, .string ⟨#[]⟩, .int .i64 0, .int .i64 0, .int .i64 0, .int .i64 0, .int .i64 0, .int .i64 0, .int .i64 0, .string ⟨#[]⟩, .string ⟨#[]⟩, .slice none 0 0, .int .i64 0, .string ⟨#[]⟩, .slice none 0 0] 25 (0, 0))) := ⟨hbS_⟩; have aI : Aside0 (Below w.heap.size w rZ) := ⟨sS_.below Z0 bs.out⟩; clear hbS_ sS_; replace fG := aG; replace ab := aH; replace HB := aI; clear aG aH aI))
          refine bodyPost_ret (results_ctt rfl _ _ aa 25 #[.int .i64 0, .int .i64 0, .int .i64 0, .string ⟨#[]⟩, .int .i64 0, .int .i64 0, .string ⟨#[]⟩, .int .i64 0, .int .i64 0, .string ⟨#[]⟩, .int .i64 0, .string ⟨#[]⟩, .int .i64 0, .int .i64 0, .int .i64 0, .int .i64 0, .int .i64 0, .int .i64 0, .int .i64 0, .string ⟨#[]⟩, .string ⟨#[]⟩, .slice none 0 0, .int .i64 0, .string ⟨#[]⟩, .slice none 0 0] (0, 0) _ rfl Z1 Try.underlying25 rfl Z6) rfl ?_
          exact ⟨_, _, Z9, Z12, Z27, Z0⟩
        ·rw [if_neg iC] at H
         exact absurd H Z73
       ·rw [if_neg gU] at H
        have kD : ((Go.bits .or .u8 (Go.bits .and .u8 (bt a0 1) 63) (Go.bits .and .u8 (bt a0 2) 224)) == 0) = false := beq_eq_false_iff_ne.mpr gU
        have nV : ((Go.bits .or .u8 (Go.bits .and .u8 (bt a0 1) 63) (Go.bits .and .u8 (bt a0 2) 224)) != 0) = true := bne_iff_ne.mpr gU
        simp only [Option.some.injEq, Prod.mk.injEq] at H
        obtain ⟨rfl, rfl, rfl, rfl, rfl, rfl, rfl, rfl, rfl, rfl, rfl, rfl, rfl, rfl, rfl, rfl, rfl, rfl, rfl, rfl, rfl, rfl, rfl, rfl, rfl, rfl, rfl⟩ := H
        try go_wp2_with (first | ((with_reducible refine gate_dst (N := 62) rfl ?_); refine Pre.build_event 62 25 [(0, Go.Operand.const (Go.Value.int Go.IntKind.i64 4)), (15, Go.Operand.tmp 54), (7, Go.Operand.tmp 57), (16, Go.Operand.tmp 60), (24, Go.Operand.tmp 61)] rfl rfl rfl (rrep_Get.bd62 _ _ _ _ _ _ _) ?_) | ((with_reducible refine Pre.gate_load 25 rfl ?_); (try (refine gate_guard Z13 ?_; dsimp only)); refine Pre.load_event rfl rfl rfl Z13 Z18 Try.underlying25 rfl Z6 ?_))
        have aG := Aside0.mk (blk_drew ab.out)
        have aH := Aside0.mk (below_drew1 HB.out)
        clear ab
        clear HB
        have ab := aG
        have HB := aH
        clear aG aH
        have p18 : 0 ≤ (1 : Int) := Z55
        have q18 : 1 < a0.size := (by have : (1 : Int) < (a0.size : Int) := of_decide_eq_true Z10; omega)
        have hx18 : ∀ h : 1 < a0.size, ((a0[1]'h).toNat : Int) = bt a0 1 := bt_at a0 1
        clear p18
        have qi18 : (1 < (a0.size : Int)) = True := eq_true (of_decide_eq_true Z10)
        replace q18 := eq_true q18
        have p20 : 0 ≤ (2 : Int) := Z55
        have q20 : 2 < a0.size := (by have : (2 : Int) < (a0.size : Int) := of_decide_eq_true Z10; omega)
        have hx20 : ∀ h : 2 < a0.size, ((a0[2]'h).toNat : Int) = bt a0 2 := bt_at a0 2
        clear p20
        have qi20 : (2 < (a0.size : Int)) = True := eq_true (of_decide_eq_true Z10)
        replace q20 := eq_true q20
        refine start_ (n := 8) (S := fun w' => True) (ds := []) #[false, false, false, false, false, false, false, false] Z6 rfl rfl trivial (fun hHeld => ?_); refine with_tabW rrep_Get.tab5 rrep_Get.bits5 (fun HT_ HW_ => ?_)
        generalize wc.drew = w90 at ab HB hHeld ⊢
        refine pure_ (i := 0) (N := some 29) (v := ?_) (a' := ?_) #[true, false, false, false, false, false, false, false] rfl rfl (any_of HT_.out Z6) (fun _ _ _ h => h) (Or.inl ⟨Z13, ?_⟩) ?_ ?_
        rotate_left
        ·intro w'
         go_simp
         with_reducible rfl
        rotate_left
        ·simp only [Act.put, List.setIfInBounds_toArray, List.set_cons_zero, List.set_cons_succ, i64_w, i32_w]
         rfl
        refine pure_ (i := 3) (N := some 32) (v := ?_) (a' := ?_) #[true, false, false, true, false, false, false, false] rfl rfl (any_of HT_.out Z6) (fun _ _ _ h => h) (Or.inl ⟨Z13, ?_⟩) ?_ ?_
        rotate_left
        ·intro w'
         go_simp
         with_reducible rfl
        rotate_left
        ·simp only [Act.put, List.setIfInBounds_toArray, List.set_cons_zero, List.set_cons_succ, i64_w, i32_w]
         rfl
        refine take_ (i := 1) (N := some 30) (v := ?_) (a' := ?_) #[true, true, false, true, false, false, false, false] rfl rfl (take_ofW HT_.out HW_.out Z6) (fun _ _ _ h => h) (Or.inl ⟨Z13, ?_⟩) hHeld ?_ ?_
        rotate_left
        ·intro w' _
         go_simp
         with_reducible rfl
        rotate_left
        ·simp only [Act.put, List.setIfInBounds_toArray, List.set_cons_zero, List.set_cons_succ, i64_w, i32_w]
         rfl
        refine pure_ (i := 2) (N := some 31) (v := ?_) (a' := ?_) #[true, true, true, true, false, false, false, false] rfl rfl (any_of HT_.out Z6) (fun _ _ _ h => h) (Or.inl ⟨Z13, ?_⟩) ?_ ?_
        rotate_left
        ·intro w'
         go_simp
         with_reducible rfl
        rotate_left
        ·simp only [Act.put, List.setIfInBounds_toArray, List.set_cons_zero, List.set_cons_succ, i64_w, i32_w]
         rfl
        refine take_ (i := 4) (N := some 33) (v := ?_) (a' := ?_) #[true, true, true, true, true, false, false, false] rfl rfl (take_ofW HT_.out HW_.out Z6) (fun _ _ _ h => h) (Or.inl ⟨Z13, ?_⟩) hHeld ?_ ?_
        rotate_left
        ·intro w' _
         go_simp
         with_reducible rfl
        rotate_left
        ·simp only [Act.put, List.setIfInBounds_toArray, List.set_cons_zero, List.set_cons_succ, i64_w, i32_w]
         rfl
        refine pure_ (i := 5) (N := some 34) (v := ?_) (a' := ?_) #[true, true, true, true, true, true, false, false] rfl rfl (any_of HT_.out Z6) (fun _ _ _ h => h) (Or.inl ⟨Z13, ?_⟩) ?_ ?_
        rotate_left
        ·intro w'
         go_simp
         with_reducible rfl
        rotate_left
        ·simp only [Act.put, List.setIfInBounds_toArray, List.set_cons_zero, List.set_cons_succ, i64_w, i32_w]
         rfl
        refine pure_ (i := 6) (N := some 35) (v := ?_) (a' := ?_) #[true, true, true, true, true, true, true, false] rfl rfl (any_of HT_.out Z6) (fun _ _ _ h => h) (Or.inl ⟨Z13, ?_⟩) ?_ ?_
        rotate_left
        ·intro w'
         go_simp
         with_reducible rfl
        rotate_left
        ·simp only [Act.put, List.setIfInBounds_toArray, List.set_cons_zero, List.set_cons_succ, i64_w, i32_w]
         rfl
        refine pure_ (i := 7) (N := some 36) (v := ?_) (a' := ?_) #[true, true, true, true, true, true, true, true] rfl rfl (any_of HT_.out Z6) (fun _ _ _ h => h) (Or.inl ⟨Z13, ?_⟩) ?_ ?_
        rotate_left
        ·intro w'
         go_simp
         with_reducible rfl
        rotate_left
        ·simp only [Act.put, List.setIfInBounds_toArray, List.set_cons_zero, List.set_cons_succ, i64_w, i32_w]
         rfl
        refine done_ (done_of HT_.out Z6) ?_
        have hcz91 := cells_25 ab.out
        try go_wp2_with (first | ((with_reducible refine gate_dst (N := 62) rfl ?_); refine Pre.build_event 62 25 [(0, Go.Operand.const (Go.Value.int Go.IntKind.i64 4)), (15, Go.Operand.tmp 54), (7, Go.Operand.tmp 57), (16, Go.Operand.tmp 60), (24, Go.Operand.tmp 61)] rfl rfl rfl (rrep_Get.bd62 _ _ _ _ _ _ _) ?_) | ((with_reducible refine Pre.gate_load 25 rfl ?_); (try (refine gate_guard Z13 ?_; dsimp only)); refine Pre.load_event rfl rfl rfl Z13 Z18 Try.underlying25 rfl Z6 ?_) | ((with_reducible refine Pre.gate_store 25 rfl ?_); refine Pre.store_abs (cur := #[.int .i64 0, .int .i64 0, .int .i64 0, .string ⟨#[]⟩, .int .i64 0, .int .i64 0, .string ⟨#[]⟩, .int .i64 0, .int .i64 0, .string ⟨#[]⟩, .int .i64 0, .string ⟨#[]⟩, .int .i64 0, .int .i64 0, .int .i64 0, .int .i64 0, .int .i64 0, .int .i64 0, .int .i64 0, .string ⟨#[]⟩, .string ⟨#[]⟩, .slice none 0 0, .int .i64 0, .string ⟨#[]⟩, .slice none 0 0]) (e := 25) rfl rfl rfl Z13 Z13 Z1 Z6 Z13 Z13 ?_; intro ww hbS_ sS_; have aG : Aside0 (ww.heap[aa]? = some (.cells #[.int .i64 0, .int .i64 0, .int .i64 0, .string ⟨#[]⟩, .int .i64 0, .int .i64 0, .string ⟨#[]⟩, .int .i64 0, .int .i64 0, .string ⟨#[]⟩, .int .i64 0, .string ⟨#[]⟩, .int .i64 0, .int .i64 0, .int .i64 0, .int .i64 0, .int .i64 0, .int .i64 0, .int .i64 0, .string ⟨#[]⟩, .string ⟨#[]⟩, .slice none 0 0, .int .i64 0, .string ⟨#[]⟩, .slice none 0 0] 25 (0, 0))) := ⟨hbS_⟩; have aH : Aside0 (Below w.heap.size w ww) := ⟨sS_.below Z0 bs.out⟩; clear hbS_ sS_; replace ab := aG; replace HB := aH; clear aG aH))
        refine bodyPost_ret (results_ctt rfl _ _ aa 25 #[.int .i64 0, .int .i64 0, .int .i64 0, .string ⟨#[]⟩, .int .i64 0, .int .i64 0, .string ⟨#[]⟩, .int .i64 0, .int .i64 0, .string ⟨#[]⟩, .int .i64 0, .string ⟨#[]⟩, .int .i64 0, .int .i64 0, .int .i64 0, .int .i64 0, .int .i64 0, .int .i64 0, .int .i64 0, .string ⟨#[]⟩, .string ⟨#[]⟩, .slice none 0 0, .int .i64 0, .string ⟨#[]⟩, .slice none 0 0] (0, 0) _ rfl Z1 Try.underlying25 rfl Z6) rfl ?_
        exact ⟨_, _, Z9, Z12, Z27, Z0⟩
      ·rw [if_neg fe] at H
       exact absurd H Z73
     ·rw [if_neg hY] at H
      exact absurd H Z73

end Go.Proofs.Ytccjakjjaemmkaa.PR
