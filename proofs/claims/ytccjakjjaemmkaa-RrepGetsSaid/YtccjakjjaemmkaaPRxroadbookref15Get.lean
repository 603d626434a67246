-- Written by mp.py, a program of this work (wip/tools), out of the translation; Lean checks it.
import Derived.Test.YtccjakjjaemmkaaPRxZ
import Derived.Test.YtccjakjjaemmkaaPRxroadbookref08
import Derived.Test.YtccjakjjaemmkaaPRxroadbookref13
import Derived.Test.YtccjakjjaemmkaaAbs
namespace Go.Proofs.Ytccjakjjaemmkaa.PR
open Go.RowKit Go.Proofs.YtccjakjjaemmkaaW.PrintWords Go.Proofs.YtccjakjjaemmkaaW.PrintLast Go.Proofs.YtccjakjjaemmkaaW.PrintMore
attribute [local go_sem] max2_int min2_int max_two min_two max_three min_three max_four min_four   -- for this text's walks alone
set_option linter.unusedVariables false
set_option linter.unusedSimpArgs false

/-! ### roadbookref15_Get: function 39 -/
mutual
def roadbookref15_Get.j0 : Nat → ByteArray → Int → Bool → Option (Int × Int × Int × ByteArray × Int × Int × ByteArray × Int × Int × ByteArray × Int × ByteArray × Int × Int × Int × Int × Int × Int × Int × ByteArray × ByteArray × (List (S46)) × Int × ByteArray × (List (S48)) × Int × Int)
 | 0, _, _, _ => none
 | k + 1, x0, x5, vr => if vr = true then (roadbookref15_Get.j1 k x0 2) else (roadbookref15_Get.j1 k x0 x5)
def roadbookref15_Get.j1 : Nat → ByteArray → Int → Option (Int × Int × Int × ByteArray × Int × Int × ByteArray × Int × Int × ByteArray × Int × ByteArray × Int × Int × Int × Int × Int × Int × Int × ByteArray × ByteArray × (List (S46)) × Int × ByteArray × (List (S48)) × Int × Int)
 | 0, _, _ => none
 | k + 1, x0, x5 => if (x0.size : Int) < x5 then (some (0, 0, 0, (⟨#[]⟩ : ByteArray), 0, 0, (⟨#[]⟩ : ByteArray), 0, 0, (⟨#[]⟩ : ByteArray), 0, (⟨#[]⟩ : ByteArray), 0, 0, 0, 0, 0, 0, 0, (⟨#[]⟩ : ByteArray), (⟨#[]⟩ : ByteArray), ([] : List (S46)), 0, (⟨#[]⟩ : ByteArray), ([] : List (S48)), (x0.size : Int), 2)) else (if x5 = 2 then (if 1 < (x0.size : Int) then (if (bt x0 1) = 0 then (if x5 = 20 then (if (Int.tmod (bt x0 1) 64) = 0 then (if 2 < (x0.size : Int) then (roadbookref15_Get.j2 k x0 x5 (decide ((bt x0 2) ≥ 32))) else (none)) else (roadbookref15_Get.j2 k x0 x5 true)) else (roadbookref15_Get.j2 k x0 x5 false)) else (roadbookref15_Get.j2 k x0 x5 true)) else (none)) else (if x5 = 20 then (if 1 < (x0.size : Int) then (if (Int.tmod (bt x0 1) 64) = 0 then (if 2 < (x0.size : Int) then (roadbookref15_Get.j2 k x0 x5 (decide ((bt x0 2) ≥ 32))) else (none)) else (roadbookref15_Get.j2 k x0 x5 true)) else (none)) else (roadbookref15_Get.j2 k x0 x5 false)))
def roadbookref15_Get.j2 : Nat → ByteArray → Int → Bool → Option (Int × Int × Int × ByteArray × Int × Int × ByteArray × Int × Int × ByteArray × Int × ByteArray × Int × Int × Int × Int × Int × Int × Int × ByteArray × ByteArray × (List (S46)) × Int × ByteArray × (List (S48)) × Int × Int)
 | 0, _, _, _ => none
 | k + 1, x0, x5, wP => if wP = true then (some (0, 0, 0, (⟨#[]⟩ : ByteArray), 0, 0, (⟨#[]⟩ : ByteArray), 0, 0, (⟨#[]⟩ : ByteArray), 0, (⟨#[]⟩ : ByteArray), 0, 0, 0, 0, 0, 0, 0, (⟨#[]⟩ : ByteArray), (⟨#[]⟩ : ByteArray), ([] : List (S46)), 0, (⟨#[]⟩ : ByteArray), ([] : List (S48)), 1, 5)) else (if 0 ≤ x5 then (if x5 ≤ (x0.size : Int) then ((roadbookref13_Get.f k (x0.extract (x5 : Int).toNat x0.size)).bind fun bh => (if bh.2.2 = 0 then (if x5 = 2 then (some (6, 0, 0, (⟨#[]⟩ : ByteArray), 0, 0, (⟨#[]⟩ : ByteArray), 0, 0, (⟨#[]⟩ : ByteArray), 0, (⟨#[]⟩ : ByteArray), 0, 0, 0, 0, 0, 0, 0, (⟨#[]⟩ : ByteArray), (⟨#[]⟩ : ByteArray), ([] : List (S46)), 0, (⟨#[]⟩ : ByteArray), bh.1, 0, 0)) else (if 1 < (x0.size : Int) then (if 2 < (x0.size : Int) then (if 3 < (x0.size : Int) then (if 4 ≤ 8 then (if 8 ≤ (x0.size : Int) then (if 8 ≤ 12 then (if 12 ≤ (x0.size : Int) then ((roadbookref08_Number.f k (x0.extract 8 12)).bind fun bp => (if 12 ≤ 16 then (if 16 ≤ (x0.size : Int) then (if 16 ≤ 20 then (if 20 ≤ (x0.size : Int) then ((roadbookref08_Number.f k (x0.extract 16 20)).bind fun aQ => (some (4, 0, 0, (⟨#[]⟩ : ByteArray), 0, 0, (⟨#[]⟩ : ByteArray), wrap64 (bt x0 2), 0, (⟨#[]⟩ : ByteArray), 0, (⟨#[]⟩ : ByteArray), bp, 0, aQ, wrap64 (Int.tdiv (wrap64 (bt x0 1)) 64), wrap64 (bt x0 3), 0, 0, x0.extract 4 8, x0.extract 12 16, ([] : List (S46)), 0, (⟨#[]⟩ : ByteArray), bh.1, 0, 0))) else (none)) else (none)) else (none)) else (none))) else (none)) else (none)) else (none)) else (none)) else (none)) else (none)) else (none))) else (some (0, 0, 0, (⟨#[]⟩ : ByteArray), 0, 0, (⟨#[]⟩ : ByteArray), 0, 0, (⟨#[]⟩ : ByteArray), 0, (⟨#[]⟩ : ByteArray), 0, 0, 0, 0, 0, 0, 0, (⟨#[]⟩ : ByteArray), (⟨#[]⟩ : ByteArray), ([] : List (S46)), 0, (⟨#[]⟩ : ByteArray), ([] : List (S48)), wrap64 (x5 + bh.2.1), bh.2.2)))) else (none)) else (none))
end
def roadbookref15_Get.f (k : Nat) (a0 : ByteArray) : Option (Int × Int × Int × ByteArray × Int × Int × ByteArray × Int × Int × ByteArray × Int × ByteArray × Int × Int × Int × Int × Int × Int × Int × ByteArray × ByteArray × (List (S46)) × Int × ByteArray × (List (S48)) × Int × Int) := if (a0.size : Int) > 0 then (if 0 < (a0.size : Int) then (roadbookref15_Get.j0 k a0 20 ((bt a0 0) == 4)) else (none)) else (roadbookref15_Get.j0 k a0 20 false)
theorem roadbookref15_Get.mono_l : ∀ k, (∀ y0 y1 y2, LeO (roadbookref15_Get.j0 k y0 y1 y2) (roadbookref15_Get.j0 (k + 1) y0 y1 y2)) ∧ (∀ y0 y1, LeO (roadbookref15_Get.j1 k y0 y1) (roadbookref15_Get.j1 (k + 1) y0 y1)) ∧ (∀ y0 y1 y2, LeO (roadbookref15_Get.j2 k y0 y1 y2) (roadbookref15_Get.j2 (k + 1) y0 y1 y2))
 | 0 => ⟨fun _ _ _ r h => by simp [roadbookref15_Get.j0] at h, fun _ _ r h => by simp [roadbookref15_Get.j1] at h, fun _ _ _ r h => by simp [roadbookref15_Get.j2] at h⟩
 | k + 1 => by
  obtain ⟨ih0, ih1, ih2⟩ := roadbookref15_Get.mono_l k
  refine ⟨?_, ?_, ?_⟩
  ·intro y0 y1 y2
   unfold roadbookref15_Get.j0
   repeat' first
   | (with_reducible exact ih0 ..)
   | (with_reducible exact ih1 _ _)
   | (with_reducible exact ih2 ..)
   | (with_reducible exact roadbookref08_Number.mono _ _)
   | (with_reducible exact roadbookref13_Get.mono _ _)
   | (with_reducible exact LeO.refl _)
   | (with_reducible exact LeO.none _)
   | (with_reducible refine LeO.ite ?_ ?_)
   | (with_reducible refine LeO.bind ?_ (fun _ => ?_))
   | exact ih0 ..
   | exact ih1 _ _
   | exact ih2 ..
   | exact roadbookref08_Number.mono _ _
   | exact roadbookref13_Get.mono _ _
   | exact LeO.none _
   | refine LeO.ite ?_ ?_
   | refine LeO.bind ?_ (fun _ => ?_)
  ·intro y0 y1
   unfold roadbookref15_Get.j1
   repeat' first
   | (with_reducible exact ih0 ..)
   | (with_reducible exact ih1 _ _)
   | (with_reducible exact ih2 ..)
   | (with_reducible exact roadbookref08_Number.mono _ _)
   | (with_reducible exact roadbookref13_Get.mono _ _)
   | (with_reducible exact LeO.refl _)
   | (with_reducible exact LeO.none _)
   | (with_reducible refine LeO.ite ?_ ?_)
   | (with_reducible refine LeO.bind ?_ (fun _ => ?_))
   | exact ih0 ..
   | exact ih1 _ _
   | exact ih2 ..
   | exact roadbookref08_Number.mono _ _
   | exact roadbookref13_Get.mono _ _
   | exact LeO.none _
   | refine LeO.ite ?_ ?_
   | refine LeO.bind ?_ (fun _ => ?_)
  ·intro y0 y1 y2
   unfold roadbookref15_Get.j2
   repeat' first
   | (with_reducible exact ih0 ..)
   | (with_reducible exact ih1 _ _)
   | (with_reducible exact ih2 ..)
   | (with_reducible exact roadbookref08_Number.mono _ _)
   | (with_reducible exact roadbookref13_Get.mono _ _)
   | (with_reducible exact LeO.refl _)
   | (with_reducible exact LeO.none _)
   | (with_reducible refine LeO.ite ?_ ?_)
   | (with_reducible refine LeO.bind ?_ (fun _ => ?_))
   | exact ih0 ..
   | exact ih1 _ _
   | exact ih2 ..
   | exact roadbookref08_Number.mono _ _
   | exact roadbookref13_Get.mono _ _
   | exact LeO.none _
   | refine LeO.ite ?_ ?_
   | refine LeO.bind ?_ (fun _ => ?_)
theorem roadbookref15_Get.mono : ∀ a0 k, LeO (roadbookref15_Get.f k a0) (roadbookref15_Get.f (k + 1) a0) := by
 intro a0 k
 obtain ⟨ih0, ih1, ih2⟩ := roadbookref15_Get.mono_l k
 unfold roadbookref15_Get.f
 repeat' first
   | (with_reducible exact ih0 ..)
   | (with_reducible exact ih1 _ _)
   | (with_reducible exact ih2 ..)
   | (with_reducible exact roadbookref08_Number.mono _ _)
   | (with_reducible exact roadbookref13_Get.mono _ _)
   | (with_reducible exact LeO.refl _)
   | (with_reducible exact LeO.none _)
   | (with_reducible refine LeO.ite ?_ ?_)
   | (with_reducible refine LeO.bind ?_ (fun _ => ?_))
   | exact ih0 ..
   | exact ih1 _ _
   | exact ih2 ..
   | exact roadbookref08_Number.mono _ _
   | exact roadbookref13_Get.mono _ _
   | exact LeO.none _
   | refine LeO.ite ?_ ?_
   | refine LeO.bind ?_ (fun _ => ?_)
def roadbookref15_Get.T13 : Bool × List (List Nat × List Nat) := (true, [([], []), ([0], [0]), ([1], [1]), ([2], [2]), ([], []), ([4], [4]), ([5], [5]), ([], []), ([7], [7]), ([8], [8]), ([], []), ([10], [10]), ([], []), ([12], [12]), ([13], [13]), ([], []), ([15], [15]), ([], []), ([17], [17]), ([18, 14], [18]), ([], []), ([3, 6, 9, 11, 14, 16, 19, 20], [3, 6, 9, 11, 14, 16, 19, 20]), ([21, 19, 0, 1, 2, 3, 4, 5, 6, 7, 8, 9, 10, 11, 12, 13, 14, 15, 16, 17, 18, 19, 20, 21], [21]), ([22, 0, 1, 2, 3, 4, 5, 6, 7, 8, 9, 10, 11, 12, 13, 14, 15, 16, 17, 18, 19, 20, 21, 22], []), ([23, 0, 1, 2, 3, 4, 5, 6, 7, 8, 9, 10, 11, 12, 13, 14, 15, 16, 17, 18, 19, 20, 21, 22, 23], [])])
def roadbookref15_Get.B13 : List Nat := [0, 1, 3, 7, 0, 16, 48, 0, 128, 384, 0, 1024, 0, 4096, 12288, 0, 32768, 0, 131072, 421888, 0, 2097151, 4194303, 8388607, 16777215]
theorem roadbookref15_Get.tab13 : rtab .any (opsOf Try.f39 13) = roadbookref15_Get.T13 := by kernel_rfl
theorem roadbookref15_Get.bits13 : waitsOk roadbookref15_Get.T13.2 roadbookref15_Get.B13 = true := by kernel_rfl
set_option maxRecDepth 100000 in
theorem roadbookref15_Get.bd65 (v0 : Int) (hL : Option Addr) (n24 fz : Nat) : Try.prog.built 25 [(0, .int .i64 v0), (24, .slice hL n24 fz)] = some #[.int .i64 v0, .int .i64 0, .int .i64 0, .string ⟨#[]⟩, .int .i64 0, .int .i64 0, .string ⟨#[]⟩, .int .i64 0, .int .i64 0, .string ⟨#[]⟩, .int .i64 0, .string ⟨#[]⟩, .int .i64 0, .int .i64 0, .int .i64 0, .int .i64 0, .int .i64 0, .int .i64 0, .int .i64 0, .string ⟨#[]⟩, .string ⟨#[]⟩, .slice none 0 0, .int .i64 0, .string ⟨#[]⟩, .slice hL n24 fz] := by kernel_rfl
set_option maxRecDepth 100000 in
theorem roadbookref15_Get.bd87 (v0 : Int) (kd : Int) (v7 : Int) (kx : Int) (mY : ByteArray) (mZ : Int) (na : ByteArray) (oa : Int) (hL : Option Addr) (n24 fz : Nat) : Try.prog.built 25 [(0, .int .i64 v0), (15, .int .i64 kd), (7, .int .i64 v7), (16, .int .i64 kx), (19, .string mY), (12, .int .i64 mZ), (20, .string na), (14, .int .i64 oa), (24, .slice hL n24 fz)] = some #[.int .i64 v0, .int .i64 0, .int .i64 0, .string ⟨#[]⟩, .int .i64 0, .int .i64 0, .string ⟨#[]⟩, .int .i64 v7, .int .i64 0, .string ⟨#[]⟩, .int .i64 0, .string ⟨#[]⟩, .int .i64 mZ, .int .i64 0, .int .i64 oa, .int .i64 kd, .int .i64 kx, .int .i64 0, .int .i64 0, .string mY, .string na, .slice none 0 0, .int .i64 0, .string ⟨#[]⟩, .slice hL n24 fz] := by kernel_rfl
set_option maxHeartbeats 8000000 in
set_option maxRecDepth 100000 in
theorem roadbookref15_Get.calls (k : Nat) (a0 : ByteArray) (r1 : Int) (r2 : Int) (r3 : Int) (r4 : ByteArray) (r5 : Int) (r6 : Int) (r7 : ByteArray) (r8 : Int) (r9 : Int) (r10 : ByteArray) (r11 : Int) (r12 : ByteArray) (r13 : Int) (r14 : Int) (r15 : Int) (r16 : Int) (r17 : Int) (r18 : Int) (r19 : Int) (r20 : ByteArray) (r21 : ByteArray) (r22 : List (S46)) (r23 : Int) (r24 : ByteArray) (r25 : List (S48)) (r26 : Int) (r27 : Int) (w : World) (h : roadbookref15_Get.f k a0 = some (r1, r2, r3, r4, r5, r6, r7, r8, r9, r10, r11, r12, r13, r14, r15, r16, r17, r18, r19, r20, r21, r22, r23, r24, r25, r26, r27)) :
  Calls Try.prog 39 #[.string a0] w fun e w' => ∃ v21_ v24_ : Value, e = .returned (.tuple #[.agg #[.int .i64 r1, .int .i64 r2, .int .i64 r3, .string r4, .int .i64 r5, .int .i64 r6, .string r7, .int .i64 r8, .int .i64 r9, .string r10, .int .i64 r11, .string r12, .int .i64 r13, .int .i64 r14, .int .i64 r15, .int .i64 r16, .int .i64 r17, .int .i64 r18, .int .i64 r19, .string r20, .string r21, v21_, .int .i64 r23, .string r24, v24_], .int .i64 r26, .int .i64 r27]) ∧ Kd.R k46 46 w' w.heap.size (fun _ => True) v21_ r22 ∧ Kd.R k48 48 w' w.heap.size (fun _ => True) v24_ r25 ∧ Below w.heap.size w w' := by
 have gB := Try.underlying25
 have HB := Aside0.mk (Below.refl w.heap.size w)
 have H : (if (a0.size : Int) > 0 then (if 0 < (a0.size : Int) then (roadbookref15_Get.j0 k a0 20 ((bt a0 0) == 4)) else (none)) else (roadbookref15_Get.j0 k a0 20 false)) = some (r1, r2, r3, r4, r5, r6, r7, r8, r9, r10, r11, r12, r13, r14, r15, r16, r17, r18, r19, r20, r21, r22, r23, r24, r25, r26, r27) := h
 clear h
 have iB := Aside0.mk H
 clear H
 go_enter Try.func39, Try.ntmps39
 go_upto_region 2 with (first | ((with_reducible refine gate_dst (N := 65) rfl ?_); refine Pre.build_event 65 25 [(0, Go.Operand.const (Go.Value.int Go.IntKind.i64 6)), (24, Go.Operand.tmp 64)] rfl rfl rfl (roadbookref15_Get.bd65 _ _ _ _) ?_) | ((with_reducible refine gate_dst (N := 87) rfl ?_); refine Pre.build_event 87 25 [(0, Go.Operand.const (Go.Value.int Go.IntKind.i64 4)), (15, Go.Operand.tmp 69), (7, Go.Operand.tmp 72), (16, Go.Operand.tmp 75), (19, Go.Operand.tmp 77), (12, Go.Operand.tmp 80), (20, Go.Operand.tmp 82), (14, Go.Operand.tmp 85), (24, Go.Operand.tmp 86)] rfl rfl rfl (roadbookref15_Get.bd87 _ _ _ _ _ _ _ _ _ _ _) ?_) | ((with_reducible refine gate_dst (N := 2) rfl ?_); refine box_event ?hg (N := 2) ?hd (cs := #[.int .i64 0, .int .i64 0, .int .i64 0, .string ⟨#[]⟩, .int .i64 0, .int .i64 0, .string ⟨#[]⟩, .int .i64 0, .int .i64 0, .string ⟨#[]⟩, .int .i64 0, .string ⟨#[]⟩, .int .i64 0, .int .i64 0, .int .i64 0, .int .i64 0, .int .i64 0, .int .i64 0, .int .i64 0, .string ⟨#[]⟩, .string ⟨#[]⟩, .slice none 0 0, .int .i64 0, .string ⟨#[]⟩, .slice none 0 0]) (t := 25) ?hr ?_; (case hd => rfl); (case hg => rfl); (case hr => first | (go_simp; done) | (go_simp; rfl)); intro aa hg w3 hbox hb; have aG := Aside0.mk (below_step Z3 hb); have aH := Aside0.mk (hbox); have aI := Aside0.mk ((by rw [hg]; exact (below_size Z3) : w.heap.size ≤ aa)); have aZ := Aside0.mk ((by rw [hg]; exact (below_size Z3) : w.heap.size ≤ aa)); replace HB := aG; have ab := aH; have cl := aI; have bs := aZ; clear aG aH aI aZ; clear hb hbox hg))
 (try simp only [Act.put, List.setIfInBounds_toArray, List.set_cons_zero, List.set_cons_succ])
 go_cut [16] (fun kx wc => ∃ (kq : Nat) (nb : Bool), kx = .bool nb ∧ Aside0 (roadbookref15_Get.j0 kq a0 20 nb = some (r1, r2, r3, r4, r5, r6, r7, r8, r9, r10, r11, r12, r13, r14, r15, r16, r17, r18, r19, r20, r21, r22, r23, r24, r25, r26, r27)) ∧ Aside0 (kq ≤ k) ∧ Aside0 (wc.heap[aa]? = some (.cells #[.int .i64 0, .int .i64 0, .int .i64 0, .string ⟨#[]⟩, .int .i64 0, .int .i64 0, .string ⟨#[]⟩, .int .i64 0, .int .i64 0, .string ⟨#[]⟩, .int .i64 0, .string ⟨#[]⟩, .int .i64 0, .int .i64 0, .int .i64 0, .int .i64 0, .int .i64 0, .int .i64 0, .int .i64 0, .string ⟨#[]⟩, .string ⟨#[]⟩, (.slice none 0 0), .int .i64 0, .string ⟨#[]⟩, (.slice none 0 0)] 25 (0, 0))) ∧ Aside0 (Below w.heap.size w wc))
 case first =>
  have H := iB.out
  clear iB
  by_cases c4 : (a0.size : Int) > 0
  ·rw [if_pos c4] at H
   have cS : decide (0 < (a0.size : Int)) = true := decide_eq_true c4
   have gY : decide (0 < a0.size) = true := decide_eq_true Z55
   clear c4
   (first | rw [cS] | (simp only [i64_w, i32_w]; rw [cS]) | skip)
   by_cases c5 : 0 < (a0.size : Int)
   ·rw [if_pos c5] at H
    have hm : decide (0 < (a0.size : Int)) = true := decide_eq_true c5
    have jC : decide (0 < a0.size) = true := decide_eq_true Z55
    clear c5
    have H' := Aside0.mk H
    clear H
    have p6 : 0 ≤ (0 : Int) := Z55
    have q6 : 0 < a0.size := (by have : (0 : Int) < (a0.size : Int) := of_decide_eq_true Z10; omega)
    have hx6 : ∀ h : 0 < a0.size, ((a0[0]'h).toNat : Int) = bt a0 0 := bt_at a0 0
    clear p6
    have qi6 : (0 < (a0.size : Int)) = True := eq_true (of_decide_eq_true Z10)
    replace q6 := eq_true q6
    go_wp2_with (first | ((with_reducible refine gate_dst (N := 65) rfl ?_); refine Pre.build_event 65 25 [(0, Go.Operand.const (Go.Value.int Go.IntKind.i64 6)), (24, Go.Operand.tmp 64)] rfl rfl rfl (roadbookref15_Get.bd65 _ _ _ _) ?_) | ((with_reducible refine gate_dst (N := 87) rfl ?_); refine Pre.build_event 87 25 [(0, Go.Operand.const (Go.Value.int Go.IntKind.i64 4)), (15, Go.Operand.tmp 69), (7, Go.Operand.tmp 72), (16, Go.Operand.tmp 75), (19, Go.Operand.tmp 77), (12, Go.Operand.tmp 80), (20, Go.Operand.tmp 82), (14, Go.Operand.tmp 85), (24, Go.Operand.tmp 86)] rfl rfl rfl (roadbookref15_Get.bd87 _ _ _ _ _ _ _ _ _ _ _) ?_))
    go_meet
    case rel => exact ⟨_, (((bt a0 0) == 4)), Z14, H', ⟨Z41⟩, ⟨Z1⟩, ⟨Z0⟩⟩
   ·rw [if_neg c5] at H
    exact absurd H Z73
  ·rw [if_neg c4] at H
   have cS : decide (0 < (a0.size : Int)) = false := decide_eq_false c4
   have gY : decide (0 < a0.size) = false := decide_eq_false Z55
   clear c4
   (first | rw [cS] | (simp only [i64_w, i32_w]; rw [cS]) | skip)
   have H' := Aside0.mk H
   clear H
   go_wp2_with (first | ((with_reducible refine gate_dst (N := 65) rfl ?_); refine Pre.build_event 65 25 [(0, Go.Operand.const (Go.Value.int Go.IntKind.i64 6)), (24, Go.Operand.tmp 64)] rfl rfl rfl (roadbookref15_Get.bd65 _ _ _ _) ?_) | ((with_reducible refine gate_dst (N := 87) rfl ?_); refine Pre.build_event 87 25 [(0, Go.Operand.const (Go.Value.int Go.IntKind.i64 4)), (15, Go.Operand.tmp 69), (7, Go.Operand.tmp 72), (16, Go.Operand.tmp 75), (19, Go.Operand.tmp 77), (12, Go.Operand.tmp 80), (20, Go.Operand.tmp 82), (14, Go.Operand.tmp 85), (24, Go.Operand.tmp 86)] rfl rfl rfl (roadbookref15_Get.bd87 _ _ _ _ _ _ _ _ _ _ _) ?_))
   go_meet
   case rel => exact ⟨_, (false), Z14, H', ⟨Z41⟩, ⟨Z1⟩, ⟨Z0⟩⟩
 case rest =>
  clear iB
  try clear c3
  obtain ⟨kq, nb, rfl, HA, kB, ab, HB⟩ := hcut
  cases kq with
  | zero => exact absurd HA.out (by simp [roadbookref15_Get.j0])
  | succ kj1 =>
   have H := HA.out
   clear HA
   simp only [roadbookref15_Get.j0] at H
   have vs := Aside0.mk H
   clear H
   go_upto_if 16 with (first | ((with_reducible refine gate_dst (N := 65) rfl ?_); refine Pre.build_event 65 25 [(0, Go.Operand.const (Go.Value.int Go.IntKind.i64 6)), (24, Go.Operand.tmp 64)] rfl rfl rfl (roadbookref15_Get.bd65 _ _ _ _) ?_) | ((with_reducible refine gate_dst (N := 87) rfl ?_); refine Pre.build_event 87 25 [(0, Go.Operand.const (Go.Value.int Go.IntKind.i64 4)), (15, Go.Operand.tmp 69), (7, Go.Operand.tmp 72), (16, Go.Operand.tmp 75), (19, Go.Operand.tmp 77), (12, Go.Operand.tmp 80), (20, Go.Operand.tmp 82), (14, Go.Operand.tmp 85), (24, Go.Operand.tmp 86)] rfl rfl rfl (roadbookref15_Get.bd87 _ _ _ _ _ _ _ _ _ _ _) ?_))
   go_cut [5] (fun v5 wc => ∃ (kq : Nat) (fA : Int), v5 = .int .i64 fA ∧ Aside0 (roadbookref15_Get.j1 kq a0 fA = some (r1, r2, r3, r4, r5, r6, r7, r8, r9, r10, r11, r12, r13, r14, r15, r16, r17, r18, r19, r20, r21, r22, r23, r24, r25, r26, r27)) ∧ Aside0 (kq ≤ kj1) ∧ Aside0 (wc.heap[aa]? = some (.cells #[.int .i64 0, .int .i64 0, .int .i64 0, .string ⟨#[]⟩, .int .i64 0, .int .i64 0, .string ⟨#[]⟩, .int .i64 0, .int .i64 0, .string ⟨#[]⟩, .int .i64 0, .string ⟨#[]⟩, .int .i64 0, .int .i64 0, .int .i64 0, .int .i64 0, .int .i64 0, .int .i64 0, .int .i64 0, .string ⟨#[]⟩, .string ⟨#[]⟩, (.slice none 0 0), .int .i64 0, .string ⟨#[]⟩, (.slice none 0 0)] 25 (0, 0))) ∧ Aside0 (Below w.heap.size w wc))
   case first =>
    have H := vs.out
    clear vs
    by_cases c8 : nb = true
    ·subst c8
     have H1 : (roadbookref15_Get.j1 kj1 a0 2) = some (r1, r2, r3, r4, r5, r6, r7, r8, r9, r10, r11, r12, r13, r14, r15, r16, r17, r18, r19, r20, r21, r22, r23, r24, r25, r26, r27) := by rw [if_pos rfl] at H; exact H
     clear H
     have H := H1
     clear H1
     have H' := Aside0.mk H
     clear H
     go_wp2_with (first | ((with_reducible refine gate_dst (N := 65) rfl ?_); refine Pre.build_event 65 25 [(0, Go.Operand.const (Go.Value.int Go.IntKind.i64 6)), (24, Go.Operand.tmp 64)] rfl rfl rfl (roadbookref15_Get.bd65 _ _ _ _) ?_) | ((with_reducible refine gate_dst (N := 87) rfl ?_); refine Pre.build_event 87 25 [(0, Go.Operand.const (Go.Value.int Go.IntKind.i64 4)), (15, Go.Operand.tmp 69), (7, Go.Operand.tmp 72), (16, Go.Operand.tmp 75), (19, Go.Operand.tmp 77), (12, Go.Operand.tmp 80), (20, Go.Operand.tmp 82), (14, Go.Operand.tmp 85), (24, Go.Operand.tmp 86)] rfl rfl rfl (roadbookref15_Get.bd87 _ _ _ _ _ _ _ _ _ _ _) ?_))
     go_meet
     case rel => exact ⟨_, (2), Z14, H', ⟨by have := kB.out; first | omega | exact Nat.le_refl _⟩, ⟨Z1⟩, ⟨Z0⟩⟩
    ·replace c8 := Bool.eq_false_iff.mpr c8
     subst c8
     have H1 : (roadbookref15_Get.j1 kj1 a0 20) = some (r1, r2, r3, r4, r5, r6, r7, r8, r9, r10, r11, r12, r13, r14, r15, r16, r17, r18, r19, r20, r21, r22, r23, r24, r25, r26, r27) := by rw [if_neg (show ¬ (false = true) by decide)] at H; exact H
     clear H
     have H := H1
     clear H1
     have H' := Aside0.mk H
     clear H
     go_wp2_with (first | ((with_reducible refine gate_dst (N := 65) rfl ?_); refine Pre.build_event 65 25 [(0, Go.Operand.const (Go.Value.int Go.IntKind.i64 6)), (24, Go.Operand.tmp 64)] rfl rfl rfl (roadbookref15_Get.bd65 _ _ _ _) ?_) | ((with_reducible refine gate_dst (N := 87) rfl ?_); refine Pre.build_event 87 25 [(0, Go.Operand.const (Go.Value.int Go.IntKind.i64 4)), (15, Go.Operand.tmp 69), (7, Go.Operand.tmp 72), (16, Go.Operand.tmp 75), (19, Go.Operand.tmp 77), (12, Go.Operand.tmp 80), (20, Go.Operand.tmp 82), (14, Go.Operand.tmp 85), (24, Go.Operand.tmp 86)] rfl rfl rfl (roadbookref15_Get.bd87 _ _ _ _ _ _ _ _ _ _ _) ?_))
     go_meet
     case rel => exact ⟨_, (20), Z14, H', ⟨by have := kB.out; first | omega | exact Nat.le_refl _⟩, ⟨Z1⟩, ⟨Z0⟩⟩
   case rest =>
    clear vs
    try clear p2
    try clear c3
    try clear c4
    try clear cS
    try clear gY
    try clear c5
    obtain ⟨kq, fA, rfl, HA, wQ, ab, HB⟩ := hcut
    cases kq with
    | zero => exact absurd HA.out (by simp [roadbookref15_Get.j1])
    | succ kj6 =>
     have H := HA.out
     clear HA
     simp only [roadbookref15_Get.j1] at H
     by_cases c9 : (a0.size : Int) < fA
     ·rw [if_pos c9] at H
      have ju : decide ((a0.size : Int) < fA) = true := decide_eq_true c9
      clear c9
      simp only [Option.some.injEq, Prod.mk.injEq] at H
      obtain ⟨rfl, rfl, rfl, rfl, rfl, rfl, rfl, rfl, rfl, rfl, rfl, rfl, rfl, rfl, rfl, rfl, rfl, rfl, rfl, rfl, rfl, rfl, rfl, rfl, rfl, rfl, rfl⟩ := H
      have jH := cells_25 ab.out
      go_wp2_with (first | ((with_reducible refine gate_dst (N := 65) rfl ?_); refine Pre.build_event 65 25 [(0, Go.Operand.const (Go.Value.int Go.IntKind.i64 6)), (24, Go.Operand.tmp 64)] rfl rfl rfl (roadbookref15_Get.bd65 _ _ _ _) ?_) | ((with_reducible refine gate_dst (N := 87) rfl ?_); refine Pre.build_event 87 25 [(0, Go.Operand.const (Go.Value.int Go.IntKind.i64 4)), (15, Go.Operand.tmp 69), (7, Go.Operand.tmp 72), (16, Go.Operand.tmp 75), (19, Go.Operand.tmp 77), (12, Go.Operand.tmp 80), (20, Go.Operand.tmp 82), (14, Go.Operand.tmp 85), (24, Go.Operand.tmp 86)] rfl rfl rfl (roadbookref15_Get.bd87 _ _ _ _ _ _ _ _ _ _ _) ?_) | ((with_reducible refine Pre.gate_store 25 rfl ?_); refine Pre.store_abs (cur := #[.int .i64 0, .int .i64 0, .int .i64 0, .string ⟨#[]⟩, .int .i64 0, .int .i64 0, .string ⟨#[]⟩, .int .i64 0, .int .i64 0, .string ⟨#[]⟩, .int .i64 0, .string ⟨#[]⟩, .int .i64 0, .int .i64 0, .int .i64 0, .int .i64 0, .int .i64 0, .int .i64 0, .int .i64 0, .string ⟨#[]⟩, .string ⟨#[]⟩, .slice none 0 0, .int .i64 0, .string ⟨#[]⟩, .slice none 0 0]) (e := 25) rfl rfl rfl Z13 Z13 Z1 Z6 Z13 Z13 ?_; intro pA hbS_ sS_; have aG : Aside0 (pA.heap[aa]? = some (.cells #[.int .i64 0, .int .i64 0, .int .i64 0, .string ⟨#[]⟩, .int .i64 0, .int .i64 0, .string ⟨#[]⟩, .int .i64 0, .int .i64 0, .string ⟨#[]⟩, .int .i64 0, .string ⟨#[]⟩, .int .i64 0, .int .i64 0, .int .i64 0, .int .i64 0, .int .i64 0, .int .i64 0, .int .i64 0, .string ⟨#[]⟩, .string ⟨#[]⟩, .slice none 0 0, .int .i64 0, .string ⟨#[]⟩, .slice none 0 0] 25 (0, 0))) := ⟨hbS_⟩; have aH : Aside0 (Below w.heap.size w pA) := ⟨sS_.below Z0 bs.out⟩; clear hbS_ sS_; replace ab := aG; replace HB := aH; clear aG aH))
      refine bodyPost_ret (results_ctt rfl _ _ aa 25 #[.int .i64 0, .int .i64 0, .int .i64 0, .string ⟨#[]⟩, .int .i64 0, .int .i64 0, .string ⟨#[]⟩, .int .i64 0, .int .i64 0, .string ⟨#[]⟩, .int .i64 0, .string ⟨#[]⟩, .int .i64 0, .int .i64 0, .int .i64 0, .int .i64 0, .int .i64 0, .int .i64 0, .int .i64 0, .string ⟨#[]⟩, .string ⟨#[]⟩, .slice none 0 0, .int .i64 0, .string ⟨#[]⟩, .slice none 0 0] (0, 0) _ rfl Z1 Try.underlying25 rfl Z6) rfl ?_
      exact ⟨_, _, Z9, Z12, Z27, Z0⟩
     ·rw [if_neg c9] at H
      have ju : decide ((a0.size : Int) < fA) = false := decide_eq_false c9
      clear c9
      have qY := Aside0.mk H
      clear H
      go_upto_region 6 with (first | ((with_reducible refine gate_dst (N := 65) rfl ?_); refine Pre.build_event 65 25 [(0, Go.Operand.const (Go.Value.int Go.IntKind.i64 6)), (24, Go.Operand.tmp 64)] rfl rfl rfl (roadbookref15_Get.bd65 _ _ _ _) ?_) | ((with_reducible refine gate_dst (N := 87) rfl ?_); refine Pre.build_event 87 25 [(0, Go.Operand.const (Go.Value.int Go.IntKind.i64 4)), (15, Go.Operand.tmp 69), (7, Go.Operand.tmp 72), (16, Go.Operand.tmp 75), (19, Go.Operand.tmp 77), (12, Go.Operand.tmp 80), (20, Go.Operand.tmp 82), (14, Go.Operand.tmp 85), (24, Go.Operand.tmp 86)] rfl rfl rfl (roadbookref15_Get.bd87 _ _ _ _ _ _ _ _ _ _ _) ?_))
      go_cut [45] (fun wR wc => ∃ (kq : Nat) (lI : Bool), wR = .bool lI ∧ Aside0 (roadbookref15_Get.j2 kq a0 fA lI = some (r1, r2, r3, r4, r5, r6, r7, r8, r9, r10, r11, r12, r13, r14, r15, r16, r17, r18, r19, r20, r21, r22, r23, r24, r25, r26, r27)) ∧ Aside0 (kq ≤ kj6) ∧ Aside0 (wc.heap[aa]? = some (.cells #[.int .i64 0, .int .i64 0, .int .i64 0, .string ⟨#[]⟩, .int .i64 0, .int .i64 0, .string ⟨#[]⟩, .int .i64 0, .int .i64 0, .string ⟨#[]⟩, .int .i64 0, .string ⟨#[]⟩, .int .i64 0, .int .i64 0, .int .i64 0, .int .i64 0, .int .i64 0, .int .i64 0, .int .i64 0, .string ⟨#[]⟩, .string ⟨#[]⟩, (.slice none 0 0), .int .i64 0, .string ⟨#[]⟩, (.slice none 0 0)] 25 (0, 0))) ∧ Aside0 (Below w.heap.size w wc))
      case first =>
       have H := qY.out
       clear qY
       by_cases dB : fA = 2
       ·rw [if_pos dB] at H
        have gF : (fA == 2) = true := beq_iff_eq.mpr dB
        have ie : (fA != 2) = false := bne_eq_false_iff_eq.mpr dB
        clear dB
        (first | rw [gF] | (simp only [i64_w, i32_w]; rw [gF]) | skip)
        by_cases gW : 1 < (a0.size : Int)
        ·rw [if_pos gW] at H
         have ko : decide (1 < (a0.size : Int)) = true := decide_eq_true gW
         have kp : decide (1 < a0.size) = true := decide_eq_true Z55
         clear gW
         by_cases ej : (bt a0 1) = 0
         ·rw [if_pos ej] at H
          have gL : ((bt a0 1) == 0) = true := beq_iff_eq.mpr ej
          have hM : ((bt a0 1) != 0) = false := bne_eq_false_iff_eq.mpr ej
          clear ej
          by_cases hY : fA = 20
          ·rw [if_pos hY] at H
           have jI : (fA == 20) = true := beq_iff_eq.mpr hY
           have mW : (fA != 20) = false := bne_eq_false_iff_eq.mpr hY
           clear hY
           by_cases fe : (Int.tmod (bt a0 1) 64) = 0
           ·rw [if_pos fe] at H
            have eV : ((Int.tmod (bt a0 1) 64) == 0) = true := beq_iff_eq.mpr fe
            have ic : ((Int.tmod (bt a0 1) 64) != 0) = false := bne_eq_false_iff_eq.mpr fe
            clear fe
            by_cases lg : 2 < (a0.size : Int)
            ·rw [if_pos lg] at H
             have ob : decide (2 < (a0.size : Int)) = true := decide_eq_true lg
             have sx : decide (2 < a0.size) = true := decide_eq_true Z55
             clear lg
             have H' := Aside0.mk H
             clear H
             have p15 : 0 ≤ (1 : Int) := Z55
             have q15 : 1 < a0.size := (by have : (1 : Int) < (a0.size : Int) := of_decide_eq_true Z10; omega)
             have hx15 : ∀ h : 1 < a0.size, ((a0[1]'h).toNat : Int) = bt a0 1 := bt_at a0 1
             clear p15
             have qi15 : (1 < (a0.size : Int)) = True := eq_true (of_decide_eq_true Z10)
             replace q15 := eq_true q15
             have p18 : 0 ≤ (1 : Int) := Z55
             have q18 : 1 < a0.size := (by have : (1 : Int) < (a0.size : Int) := of_decide_eq_true Z10; omega)
             have hx18 : ∀ h : 1 < a0.size, ((a0[1]'h).toNat : Int) = bt a0 1 := bt_at a0 1
             clear p18
             have qi18 : (1 < (a0.size : Int)) = True := eq_true (of_decide_eq_true Z10)
             replace q18 := eq_true q18
             have p21 : 0 ≤ (2 : Int) := Z55
             have q21 : 2 < a0.size := (by have : (2 : Int) < (a0.size : Int) := of_decide_eq_true Z10; omega)
             have hx21 : ∀ h : 2 < a0.size, ((a0[2]'h).toNat : Int) = bt a0 2 := bt_at a0 2
             clear p21
             have qi21 : (2 < (a0.size : Int)) = True := eq_true (of_decide_eq_true Z10)
             replace q21 := eq_true q21
             go_wp2_with (first | ((with_reducible refine gate_dst (N := 65) rfl ?_); refine Pre.build_event 65 25 [(0, Go.Operand.const (Go.Value.int Go.IntKind.i64 6)), (24, Go.Operand.tmp 64)] rfl rfl rfl (roadbookref15_Get.bd65 _ _ _ _) ?_) | ((with_reducible refine gate_dst (N := 87) rfl ?_); refine Pre.build_event 87 25 [(0, Go.Operand.const (Go.Value.int Go.IntKind.i64 4)), (15, Go.Operand.tmp 69), (7, Go.Operand.tmp 72), (16, Go.Operand.tmp 75), (19, Go.Operand.tmp 77), (12, Go.Operand.tmp 80), (20, Go.Operand.tmp 82), (14, Go.Operand.tmp 85), (24, Go.Operand.tmp 86)] rfl rfl rfl (roadbookref15_Get.bd87 _ _ _ _ _ _ _ _ _ _ _) ?_))
             go_meet
             case rel => exact ⟨_, (decide ((bt a0 2) ≥ 32)), Z14, H', ⟨Z103⟩, ⟨Z1⟩, ⟨Z0⟩⟩
            ·rw [if_neg lg] at H
             exact absurd H Z73
           ·rw [if_neg fe] at H
            have eV : ((Int.tmod (bt a0 1) 64) == 0) = false := beq_eq_false_iff_ne.mpr fe
            have ic : ((Int.tmod (bt a0 1) 64) != 0) = true := bne_iff_ne.mpr fe
            have H' := Aside0.mk H
            clear H
            have p15 : 0 ≤ (1 : Int) := Z55
            have q15 : 1 < a0.size := (by have : (1 : Int) < (a0.size : Int) := of_decide_eq_true Z10; omega)
            have hx15 : ∀ h : 1 < a0.size, ((a0[1]'h).toNat : Int) = bt a0 1 := bt_at a0 1
            clear p15
            have qi15 : (1 < (a0.size : Int)) = True := eq_true (of_decide_eq_true Z10)
            replace q15 := eq_true q15
            have p18 : 0 ≤ (1 : Int) := Z55
            have q18 : 1 < a0.size := (by have : (1 : Int) < (a0.size : Int) := of_decide_eq_true Z10; omega)
            have hx18 : ∀ h : 1 < a0.size, ((a0[1]'h).toNat : Int) = bt a0 1 := bt_at a0 1
            clear p18
            have qi18 : (1 < (a0.size : Int)) = True := eq_true (of_decide_eq_true Z10)
            replace q18 := eq_true q18
            go_wp2_with (first | ((with_reducible refine gate_dst (N := 65) rfl ?_); refine Pre.build_event 65 25 [(0, Go.Operand.const (Go.Value.int Go.IntKind.i64 6)), (24, Go.Operand.tmp 64)] rfl rfl rfl (roadbookref15_Get.bd65 _ _ _ _) ?_) | ((with_reducible refine gate_dst (N := 87) rfl ?_); refine Pre.build_event 87 25 [(0, Go.Operand.const (Go.Value.int Go.IntKind.i64 4)), (15, Go.Operand.tmp 69), (7, Go.Operand.tmp 72), (16, Go.Operand.tmp 75), (19, Go.Operand.tmp 77), (12, Go.Operand.tmp 80), (20, Go.Operand.tmp 82), (14, Go.Operand.tmp 85), (24, Go.Operand.tmp 86)] rfl rfl rfl (roadbookref15_Get.bd87 _ _ _ _ _ _ _ _ _ _ _) ?_))
            go_meet
            case rel => exact ⟨_, (true), Z14, H', ⟨Z103⟩, ⟨Z1⟩, ⟨Z0⟩⟩
          ·rw [if_neg hY] at H
           have jI : (fA == 20) = false := beq_eq_false_iff_ne.mpr hY
           have mW : (fA != 20) = true := bne_iff_ne.mpr hY
           have H' := Aside0.mk H
           clear H
           have p15 : 0 ≤ (1 : Int) := Z55
           have q15 : 1 < a0.size := (by have : (1 : Int) < (a0.size : Int) := of_decide_eq_true Z10; omega)
           have hx15 : ∀ h : 1 < a0.size, ((a0[1]'h).toNat : Int) = bt a0 1 := bt_at a0 1
           clear p15
           have qi15 : (1 < (a0.size : Int)) = True := eq_true (of_decide_eq_true Z10)
           replace q15 := eq_true q15
           go_wp2_with (first | ((with_reducible refine gate_dst (N := 65) rfl ?_); refine Pre.build_event 65 25 [(0, Go.Operand.const (Go.Value.int Go.IntKind.i64 6)), (24, Go.Operand.tmp 64)] rfl rfl rfl (roadbookref15_Get.bd65 _ _ _ _) ?_) | ((with_reducible refine gate_dst (N := 87) rfl ?_); refine Pre.build_event 87 25 [(0, Go.Operand.const (Go.Value.int Go.IntKind.i64 4)), (15, Go.Operand.tmp 69), (7, Go.Operand.tmp 72), (16, Go.Operand.tmp 75), (19, Go.Operand.tmp 77), (12, Go.Operand.tmp 80), (20, Go.Operand.tmp 82), (14, Go.Operand.tmp 85), (24, Go.Operand.tmp 86)] rfl rfl rfl (roadbookref15_Get.bd87 _ _ _ _ _ _ _ _ _ _ _) ?_))
           go_meet
           case rel => exact ⟨_, (false), Z14, H', ⟨Z103⟩, ⟨Z1⟩, ⟨Z0⟩⟩
         ·rw [if_neg ej] at H
          have gL : ((bt a0 1) == 0) = false := beq_eq_false_iff_ne.mpr ej
          have hM : ((bt a0 1) != 0) = true := bne_iff_ne.mpr ej
          have H' := Aside0.mk H
          clear H
          have p15 : 0 ≤ (1 : Int) := Z55
          have q15 : 1 < a0.size := (by have : (1 : Int) < (a0.size : Int) := of_decide_eq_true Z10; omega)
          have hx15 : ∀ h : 1 < a0.size, ((a0[1]'h).toNat : Int) = bt a0 1 := bt_at a0 1
          clear p15
          have qi15 : (1 < (a0.size : Int)) = True := eq_true (of_decide_eq_true Z10)
          replace q15 := eq_true q15
          go_wp2_with (first | ((with_reducible refine gate_dst (N := 65) rfl ?_); refine Pre.build_event 65 25 [(0, Go.Operand.const (Go.Value.int Go.IntKind.i64 6)), (24, Go.Operand.tmp 64)] rfl rfl rfl (roadbookref15_Get.bd65 _ _ _ _) ?_) | ((with_reducible refine gate_dst (N := 87) rfl ?_); refine Pre.build_event 87 25 [(0, Go.Operand.const (Go.Value.int Go.IntKind.i64 4)), (15, Go.Operand.tmp 69), (7, Go.Operand.tmp 72), (16, Go.Operand.tmp 75), (19, Go.Operand.tmp 77), (12, Go.Operand.tmp 80), (20, Go.Operand.tmp 82), (14, Go.Operand.tmp 85), (24, Go.Operand.tmp 86)] rfl rfl rfl (roadbookref15_Get.bd87 _ _ _ _ _ _ _ _ _ _ _) ?_))
          go_meet
          case rel => exact ⟨_, (true), Z14, H', ⟨Z103⟩, ⟨Z1⟩, ⟨Z0⟩⟩
        ·rw [if_neg gW] at H
         exact absurd H Z73
       ·rw [if_neg dB] at H
        have gF : (fA == 2) = false := beq_eq_false_iff_ne.mpr dB
        have ie : (fA != 2) = true := bne_iff_ne.mpr dB
        (first | rw [gF] | (simp only [i64_w, i32_w]; rw [gF]) | skip)
        by_cases iC : fA = 20
        ·rw [if_pos iC] at H
         have mX : (fA == 20) = true := beq_iff_eq.mpr iC
         have qc : (fA != 20) = false := bne_eq_false_iff_eq.mpr iC
         clear iC
         by_cases lh : 1 < (a0.size : Int)
         ·rw [if_pos lh] at H
          have qj : decide (1 < (a0.size : Int)) = true := decide_eq_true lh
          have sy : decide (1 < a0.size) = true := decide_eq_true Z55
          clear lh
          by_cases kf : (Int.tmod (bt a0 1) 64) = 0
          ·rw [if_pos kf] at H
           have qk : ((Int.tmod (bt a0 1) 64) == 0) = true := beq_iff_eq.mpr kf
           have ql : ((Int.tmod (bt a0 1) 64) != 0) = false := bne_eq_false_iff_eq.mpr kf
           clear kf
           by_cases jG : 2 < (a0.size : Int)
           ·rw [if_pos jG] at H
            have oc : decide (2 < (a0.size : Int)) = true := decide_eq_true jG
            have od : decide (2 < a0.size) = true := decide_eq_true Z55
            clear jG
            have H' := Aside0.mk H
            clear H
            have p24 : 0 ≤ (1 : Int) := Z55
            have q24 : 1 < a0.size := (by have : (1 : Int) < (a0.size : Int) := of_decide_eq_true Z10; omega)
            have hx24 : ∀ h : 1 < a0.size, ((a0[1]'h).toNat : Int) = bt a0 1 := bt_at a0 1
            clear p24
            have qi24 : (1 < (a0.size : Int)) = True := eq_true (of_decide_eq_true Z10)
            replace q24 := eq_true q24
            have p27 : 0 ≤ (2 : Int) := Z55
            have q27 : 2 < a0.size := (by have : (2 : Int) < (a0.size : Int) := of_decide_eq_true Z10; omega)
            have hx27 : ∀ h : 2 < a0.size, ((a0[2]'h).toNat : Int) = bt a0 2 := bt_at a0 2
            clear p27
            have qi27 : (2 < (a0.size : Int)) = True := eq_true (of_decide_eq_true Z10)
            replace q27 := eq_true q27
            go_wp2_with (first | ((with_reducible refine gate_dst (N := 65) rfl ?_); refine Pre.build_event 65 25 [(0, Go.Operand.const (Go.Value.int Go.IntKind.i64 6)), (24, Go.Operand.tmp 64)] rfl rfl rfl (roadbookref15_Get.bd65 _ _ _ _) ?_) | ((with_reducible refine gate_dst (N := 87) rfl ?_); refine Pre.build_event 87 25 [(0, Go.Operand.const (Go.Value.int Go.IntKind.i64 4)), (15, Go.Operand.tmp 69), (7, Go.Operand.tmp 72), (16, Go.Operand.tmp 75), (19, Go.Operand.tmp 77), (12, Go.Operand.tmp 80), (20, Go.Operand.tmp 82), (14, Go.Operand.tmp 85), (24, Go.Operand.tmp 86)] rfl rfl rfl (roadbookref15_Get.bd87 _ _ _ _ _ _ _ _ _ _ _) ?_))
            go_meet
            case rel => exact ⟨_, (decide ((bt a0 2) ≥ 32)), Z14, H', ⟨Z103⟩, ⟨Z1⟩, ⟨Z0⟩⟩
           ·rw [if_neg jG] at H
            exact absurd H Z73
          ·rw [if_neg kf] at H
           have qk : ((Int.tmod (bt a0 1) 64) == 0) = false := beq_eq_false_iff_ne.mpr kf
           have ql : ((Int.tmod (bt a0 1) 64) != 0) = true := bne_iff_ne.mpr kf
           have H' := Aside0.mk H
           clear H
           have p24 : 0 ≤ (1 : Int) := Z55
           have q24 : 1 < a0.size := (by have : (1 : Int) < (a0.size : Int) := of_decide_eq_true Z10; omega)
           have hx24 : ∀ h : 1 < a0.size, ((a0[1]'h).toNat : Int) = bt a0 1 := bt_at a0 1
           clear p24
           have qi24 : (1 < (a0.size : Int)) = True := eq_true (of_decide_eq_true Z10)
           replace q24 := eq_true q24
           go_wp2_with (first | ((with_reducible refine gate_dst (N := 65) rfl ?_); refine Pre.build_event 65 25 [(0, Go.Operand.const (Go.Value.int Go.IntKind.i64 6)), (24, Go.Operand.tmp 64)] rfl rfl rfl (roadbookref15_Get.bd65 _ _ _ _) ?_) | ((with_reducible refine gate_dst (N := 87) rfl ?_); refine Pre.build_event 87 25 [(0, Go.Operand.const (Go.Value.int Go.IntKind.i64 4)), (15, Go.Operand.tmp 69), (7, Go.Operand.tmp 72), (16, Go.Operand.tmp 75), (19, Go.Operand.tmp 77), (12, Go.Operand.tmp 80), (20, Go.Operand.tmp 82), (14, Go.Operand.tmp 85), (24, Go.Operand.tmp 86)] rfl rfl rfl (roadbookref15_Get.bd87 _ _ _ _ _ _ _ _ _ _ _) ?_))
           go_meet
           case rel => exact ⟨_, (true), Z14, H', ⟨Z103⟩, ⟨Z1⟩, ⟨Z0⟩⟩
         ·rw [if_neg lh] at H
          exact absurd H Z73
        ·rw [if_neg iC] at H
         have mX : (fA == 20) = false := beq_eq_false_iff_ne.mpr iC
         have qc : (fA != 20) = true := bne_iff_ne.mpr iC
         have H' := Aside0.mk H
         clear H
         go_wp2_with (first | ((with_reducible refine gate_dst (N := 65) rfl ?_); refine Pre.build_event 65 25 [(0, Go.Operand.const (Go.Value.int Go.IntKind.i64 6)), (24, Go.Operand.tmp 64)] rfl rfl rfl (roadbookref15_Get.bd65 _ _ _ _) ?_) | ((with_reducible refine gate_dst (N := 87) rfl ?_); refine Pre.build_event 87 25 [(0, Go.Operand.const (Go.Value.int Go.IntKind.i64 4)), (15, Go.Operand.tmp 69), (7, Go.Operand.tmp 72), (16, Go.Operand.tmp 75), (19, Go.Operand.tmp 77), (12, Go.Operand.tmp 80), (20, Go.Operand.tmp 82), (14, Go.Operand.tmp 85), (24, Go.Operand.tmp 86)] rfl rfl rfl (roadbookref15_Get.bd87 _ _ _ _ _ _ _ _ _ _ _) ?_))
         go_meet
         case rel => exact ⟨_, (false), Z14, H', ⟨Z103⟩, ⟨Z1⟩, ⟨Z0⟩⟩
      case rest =>
       clear qY
       try clear p2
       try clear c3
       try clear c4
       try clear cS
       try clear gY
       try clear c5
       try clear hm
       try clear jC
       try clear p6
       try clear q6
       try clear hx6
       try clear qi6
       try clear c8
       try clear c9
       try clear ju
       try clear jH
       try clear p2
       try clear p6
       try clear q6
       obtain ⟨kq, lI, rfl, HA, HJ11, ab, HB⟩ := hcut
       cases kq with
       | zero => exact absurd HA.out (by simp [roadbookref15_Get.j2])
       | succ kj11 =>
        have H := HA.out
        clear HA
        simp only [roadbookref15_Get.j2] at H
        by_cases nB : lI = true
        ·subst nB
         have H1 : (some (0, 0, 0, (⟨#[]⟩ : ByteArray), 0, 0, (⟨#[]⟩ : ByteArray), 0, 0, (⟨#[]⟩ : ByteArray), 0, (⟨#[]⟩ : ByteArray), 0, 0, 0, 0, 0, 0, 0, (⟨#[]⟩ : ByteArray), (⟨#[]⟩ : ByteArray), ([] : List (S46)), 0, (⟨#[]⟩ : ByteArray), ([] : List (S48)), 1, 5)) = some (r1, r2, r3, r4, r5, r6, r7, r8, r9, r10, r11, r12, r13, r14, r15, r16, r17, r18, r19, r20, r21, r22, r23, r24, r25, r26, r27) := by rw [if_pos rfl] at H; exact H
         clear H
         have H := H1
         clear H1
         simp only [Option.some.injEq, Prod.mk.injEq] at H
         obtain ⟨rfl, rfl, rfl, rfl, rfl, rfl, rfl, rfl, rfl, rfl, rfl, rfl, rfl, rfl, rfl, rfl, rfl, rfl, rfl, rfl, rfl, rfl, rfl, rfl, rfl, rfl, rfl⟩ := H
         have kr := cells_25 ab.out
         go_wp2_with (first | ((with_reducible refine gate_dst (N := 65) rfl ?_); refine Pre.build_event 65 25 [(0, Go.Operand.const (Go.Value.int Go.IntKind.i64 6)), (24, Go.Operand.tmp 64)] rfl rfl rfl (roadbookref15_Get.bd65 _ _ _ _) ?_) | ((with_reducible refine gate_dst (N := 87) rfl ?_); refine Pre.build_event 87 25 [(0, Go.Operand.const (Go.Value.int Go.IntKind.i64 4)), (15, Go.Operand.tmp 69), (7, Go.Operand.tmp 72), (16, Go.Operand.tmp 75), (19, Go.Operand.tmp 77), (12, Go.Operand.tmp 80), (20, Go.Operand.tmp 82), (14, Go.Operand.tmp 85), (24, Go.Operand.tmp 86)] rfl rfl rfl (roadbookref15_Get.bd87 _ _ _ _ _ _ _ _ _ _ _) ?_) | ((with_reducible refine Pre.gate_store 25 rfl ?_); refine Pre.store_abs (cur := #[.int .i64 0, .int .i64 0, .int .i64 0, .string ⟨#[]⟩, .int .i64 0, .int .i64 0, .string ⟨#[]⟩, .int .i64 0, .int .i64 0, .string ⟨#[]⟩, .int .i64 0, .string ⟨#[]⟩, .int .i64 0, .int .i64 0, .int .i64 0, .int .i64 0, .int .i64 0, .int .i64 0, .int .i64 0, .string ⟨#[]⟩, .string ⟨#[]⟩, .slice none 0 0, .int .i64 0, .string ⟨#[]⟩, .slice none 0 0]) (e := 25) rfl rfl rfl Z13 Z13 Z1 Z6 Z13 Z13 ?_; intro gM hbS_ sS_; have aG : Aside0 (gM.heap[aa]? = some (.cells #[.int .i64 0, .int .i64 0, .int .i64 0, .string ⟨#[]⟩, .int .i64 0, .int .i64 0, .string ⟨#[]⟩, .int .i64 0, .int .i64 0, .string ⟨#[]⟩, .int .i64 0, .string ⟨#[]⟩, .int .i64 0, .int .i64 0, .int .i64 0, .int .i64 0, .int .i64 0, .int .i64 0, .int .i64 0, .string ⟨#[]⟩, .string ⟨#[]⟩, .slice none 0 0, .int .i64 0, .string ⟨#[]⟩, .slice none 0 0] 25 (0, 0))) := ⟨hbS_⟩; have aH : Aside0 (Below w.heap.size w gM) := ⟨sS_.below Z0 bs.out⟩; clear hbS_ sS_; replace ab := aG; replace HB := aH; clear aG aH))
         refine bodyPost_ret (results_ctt rfl _ _ aa 25 #[.int .i64 0, .int .i64 0, .int .i64 0, .string ⟨#[]⟩, .int .i64 0, .int .i64 0, .string ⟨#[]⟩, .int .i64 0, .int .i64 0, .string ⟨#[]⟩, .int .i64 0, .string ⟨#[]⟩, .int .i64 0, .int .i64 0, .int .i64 0, .int .i64 0, .int .i64 0, .int .i64 0, .int .i64 0, .string ⟨#[]⟩, .string ⟨#[]⟩, .slice none 0 0, .int .i64 0, .string ⟨#[]⟩, .slice none 0 0] (0, 0) _ rfl Z1 Try.underlying25 rfl Z6) rfl ?_
         exact ⟨_, _, Z9, Z12, Z27, Z0⟩
        ·replace nB := Bool.eq_false_iff.mpr nB
         subst nB
         have H1 : (if 0 ≤ fA then (if fA ≤ (a0.size : Int) then ((roadbookref13_Get.f kj11 (a0.extract (fA : Int).toNat a0.size)).bind fun bh => (if bh.2.2 = 0 then (if fA = 2 then (some (6, 0, 0, (⟨#[]⟩ : ByteArray), 0, 0, (⟨#[]⟩ : ByteArray), 0, 0, (⟨#[]⟩ : ByteArray), 0, (⟨#[]⟩ : ByteArray), 0, 0, 0, 0, 0, 0, 0, (⟨#[]⟩ : ByteArray), (⟨#[]⟩ : ByteArray), ([] : List (S46)), 0, (⟨#[]⟩ : ByteArray), bh.1, 0, 0)) else (if 1 < (a0.size : Int) then (if 2 < (a0.size : Int) then (if 3 < (a0.size : Int) then (if 4 ≤ 8 then (if 8 ≤ (a0.size : Int) then (if 8 ≤ 12 then (if 12 ≤ (a0.size : Int) then ((roadbookref08_Number.f kj11 (a0.extract 8 12)).bind fun bp => (if 12 ≤ 16 then (if 16 ≤ (a0.size : Int) then (if 16 ≤ 20 then (if 20 ≤ (a0.size : Int) then ((roadbookref08_Number.f kj11 (a0.extract 16 20)).bind fun aQ => (some (4, 0, 0, (⟨#[]⟩ : ByteArray), 0, 0, (⟨#[]⟩ : ByteArray), wrap64 (bt a0 2), 0, (⟨#[]⟩ : ByteArray), 0, (⟨#[]⟩ : ByteArray), bp, 0, aQ, wrap64 (Int.tdiv (wrap64 (bt a0 1)) 64), wrap64 (bt a0 3), 0, 0, a0.extract 4 8, a0.extract 12 16, ([] : List (S46)), 0, (⟨#[]⟩ : ByteArray), bh.1, 0, 0))) else (none)) else (none)) else (none)) else (none))) else (none)) else (none)) else (none)) else (none)) else (none)) else (none)) else (none))) else (some (0, 0, 0, (⟨#[]⟩ : ByteArray), 0, 0, (⟨#[]⟩ : ByteArray), 0, 0, (⟨#[]⟩ : ByteArray), 0, (⟨#[]⟩ : ByteArray), 0, 0, 0, 0, 0, 0, 0, (⟨#[]⟩ : ByteArray), (⟨#[]⟩ : ByteArray), ([] : List (S46)), 0, (⟨#[]⟩ : ByteArray), ([] : List (S48)), wrap64 (fA + bh.2.1), bh.2.2)))) else (none)) else (none)) = some (r1, r2, r3, r4, r5, r6, r7, r8, r9, r10, r11, r12, r13, r14, r15, r16, r17, r18, r19, r20, r21, r22, r23, r24, r25, r26, r27) := by rw [if_neg (show ¬ (false = true) by decide)] at H; exact H
         clear H
         have H := H1
         clear H1
         by_cases jD : 0 ≤ fA
         ·rw [if_pos jD] at H
          have li := eq_true jD
          have sz : decide (0 ≤ fA) = true := decide_eq_true jD
          clear jD
          by_cases jv : fA ≤ (a0.size : Int)
          ·rw [if_pos jv] at H
           have lV := eq_true jv
           have qm : decide (fA ≤ (a0.size : Int)) = true := decide_eq_true jv
           clear jv
           replace H := Option.bind_eq_some_iff.mp H
           obtain ⟨⟨ba, bf, bc⟩, lU, H⟩ := H
           replace H : (if bc = 0 then (if fA = 2 then (some (6, 0, 0, (⟨#[]⟩ : ByteArray), 0, 0, (⟨#[]⟩ : ByteArray), 0, 0, (⟨#[]⟩ : ByteArray), 0, (⟨#[]⟩ : ByteArray), 0, 0, 0, 0, 0, 0, 0, (⟨#[]⟩ : ByteArray), (⟨#[]⟩ : ByteArray), ([] : List (S46)), 0, (⟨#[]⟩ : ByteArray), ba, 0, 0)) else (if 1 < (a0.size : Int) then (if 2 < (a0.size : Int) then (if 3 < (a0.size : Int) then (if 4 ≤ 8 then (if 8 ≤ (a0.size : Int) then (if 8 ≤ 12 then (if 12 ≤ (a0.size : Int) then ((roadbookref08_Number.f kj11 (a0.extract 8 12)).bind fun bp => (if 12 ≤ 16 then (if 16 ≤ (a0.size : Int) then (if 16 ≤ 20 then (if 20 ≤ (a0.size : Int) then ((roadbookref08_Number.f kj11 (a0.extract 16 20)).bind fun aQ => (some (4, 0, 0, (⟨#[]⟩ : ByteArray), 0, 0, (⟨#[]⟩ : ByteArray), wrap64 (bt a0 2), 0, (⟨#[]⟩ : ByteArray), 0, (⟨#[]⟩ : ByteArray), bp, 0, aQ, wrap64 (Int.tdiv (wrap64 (bt a0 1)) 64), wrap64 (bt a0 3), 0, 0, a0.extract 4 8, a0.extract 12 16, ([] : List (S46)), 0, (⟨#[]⟩ : ByteArray), ba, 0, 0))) else (none)) else (none)) else (none)) else (none))) else (none)) else (none)) else (none)) else (none)) else (none)) else (none)) else (none))) else (some (0, 0, 0, (⟨#[]⟩ : ByteArray), 0, 0, (⟨#[]⟩ : ByteArray), 0, 0, (⟨#[]⟩ : ByteArray), 0, (⟨#[]⟩ : ByteArray), 0, 0, 0, 0, 0, 0, 0, (⟨#[]⟩ : ByteArray), (⟨#[]⟩ : ByteArray), ([] : List (S46)), 0, (⟨#[]⟩ : ByteArray), ([] : List (S48)), wrap64 (fA + bf), bc))) = some (r1, r2, r3, r4, r5, r6, r7, r8, r9, r10, r11, r12, r13, r14, r15, r16, r17, r18, r19, r20, r21, r22, r23, r24, r25, r26, r27) := H
           have qd := Aside0.mk lU
           clear lU
           by_cases jf : bc = 0
           ·rw [if_pos jf] at H
            have ks : (bc == 0) = true := beq_iff_eq.mpr jf
            have lW : (bc != 0) = false := bne_eq_false_iff_eq.mpr jf
            clear jf
            by_cases nR : fA = 2
            ·rw [if_pos nR] at H
             have sA : (fA == 2) = true := beq_iff_eq.mpr nR
             have sB : (fA != 2) = false := bne_eq_false_iff_eq.mpr nR
             clear nR
             simp only [Option.some.injEq, Prod.mk.injEq] at H
             obtain ⟨rfl, rfl, rfl, rfl, rfl, rfl, rfl, rfl, rfl, rfl, rfl, rfl, rfl, rfl, rfl, rfl, rfl, rfl, rfl, rfl, rfl, rfl, rfl, rfl, rfl, rfl, rfl⟩ := H
             go_wp2_with (first | ((with_reducible refine gate_dst (N := 65) rfl ?_); refine Pre.build_event 65 25 [(0, Go.Operand.const (Go.Value.int Go.IntKind.i64 6)), (24, Go.Operand.tmp 64)] rfl rfl rfl (roadbookref15_Get.bd65 _ _ _ _) ?_) | ((with_reducible refine gate_dst (N := 87) rfl ?_); refine Pre.build_event 87 25 [(0, Go.Operand.const (Go.Value.int Go.IntKind.i64 4)), (15, Go.Operand.tmp 69), (7, Go.Operand.tmp 72), (16, Go.Operand.tmp 75), (19, Go.Operand.tmp 77), (12, Go.Operand.tmp 80), (20, Go.Operand.tmp 82), (14, Go.Operand.tmp 85), (24, Go.Operand.tmp 86)] rfl rfl rfl (roadbookref15_Get.bd87 _ _ _ _ _ _ _ _ _ _ _) ?_) | ((with_reducible refine gate_callee (f := 63) rfl ?_); refine goesL_ (some 51) rfl rfl Try.func63 Z6 rfl #[.string (a0.extract (fA : Int).toNat a0.size)] rfl Z5 ?_; (with_reducible refine (roadbookref13_Get.calls kj11 (a0.extract (fA : Int).toNat a0.size) ba bf bc _ qd.out).mono ?_); rintro e qe ⟨jM, rfl, ho0, hb⟩; refine ⟨_, rfl, ?_⟩; have aG := Aside0.mk (Kd.R_lower ho0 (below_size Z0)); have aH := Aside0.mk (blk_below (g := aa) Z1 hb); have aI := Aside0.mk (below_step Z0 hb); have cn := aG; replace ab := aH; replace HB := aI; clear aG aH aI; (try clear hb); (try clear hb2); (try clear hk); (try clear hi); (try clear ho0); obtain ⟨jd, je, eo37⟩ := Kd.R_slice cn.out; subst eo37; have qn := cells_25 ab.out) | ((with_reducible refine Pre.gate_store 25 rfl ?_); refine Pre.store_abs (cur := #[.int .i64 0, .int .i64 0, .int .i64 0, .string ⟨#[]⟩, .int .i64 0, .int .i64 0, .string ⟨#[]⟩, .int .i64 0, .int .i64 0, .string ⟨#[]⟩, .int .i64 0, .string ⟨#[]⟩, .int .i64 0, .int .i64 0, .int .i64 0, .int .i64 0, .int .i64 0, .int .i64 0, .int .i64 0, .string ⟨#[]⟩, .string ⟨#[]⟩, .slice none 0 0, .int .i64 0, .string ⟨#[]⟩, .slice none 0 0]) (e := 25) rfl rfl rfl Z13 Z13 Z1 Z6 Z13 Z13 ?_; intro mE hbS_ sS_; have aG : Aside0 (Kd.R k48 48 mE w.heap.size (fun _ => True) (.slice jd ba.length je) ba) := ⟨Kd.R_mono (Pre.R_sets sS_ (Kd.R_types cn.out ab.out Z32) (fun _ hk => hk.2)) (fun _ hk => trivial)⟩; have aH : Aside0 (mE.heap[aa]? = some (.cells #[.int .i64 6, .int .i64 0, .int .i64 0, .string ⟨#[]⟩, .int .i64 0, .int .i64 0, .string ⟨#[]⟩, .int .i64 0, .int .i64 0, .string ⟨#[]⟩, .int .i64 0, .string ⟨#[]⟩, .int .i64 0, .int .i64 0, .int .i64 0, .int .i64 0, .int .i64 0, .int .i64 0, .int .i64 0, .string ⟨#[]⟩, .string ⟨#[]⟩, .slice none 0 0, .int .i64 0, .string ⟨#[]⟩, .slice jd ba.length je] 25 (0, 0))) := ⟨hbS_⟩; have aI : Aside0 (Below w.heap.size w mE) := ⟨sS_.below Z0 bs.out⟩; clear hbS_ sS_; replace cn := aG; replace ab := aH; replace HB := aI; clear aG aH aI))
             refine bodyPost_ret (results_ctt rfl _ _ aa 25 #[.int .i64 6, .int .i64 0, .int .i64 0, .string ⟨#[]⟩, .int .i64 0, .int .i64 0, .string ⟨#[]⟩, .int .i64 0, .int .i64 0, .string ⟨#[]⟩, .int .i64 0, .string ⟨#[]⟩, .int .i64 0, .int .i64 0, .int .i64 0, .int .i64 0, .int .i64 0, .int .i64 0, .int .i64 0, .string ⟨#[]⟩, .string ⟨#[]⟩, .slice none 0 0, .int .i64 0, .string ⟨#[]⟩, .slice jd ba.length je] (0, 0) _ rfl Z1 Try.underlying25 rfl Z6) rfl ?_
             exact ⟨_, _, Z9, Z12, Z77, Z0⟩
            ·rw [if_neg nR] at H
             have sA : (fA == 2) = false := beq_eq_false_iff_ne.mpr nR
             have sB : (fA != 2) = true := bne_iff_ne.mpr nR
             by_cases jw : 1 < (a0.size : Int)
             ·rw [if_pos jw] at H
              have lj : decide (1 < (a0.size : Int)) = true := decide_eq_true jw
              have lk : decide (1 < a0.size) = true := decide_eq_true Z55
              clear jw
              by_cases ve : 2 < (a0.size : Int)
              ·rw [if_pos ve] at H
               have c42b0 : decide (2 < (a0.size : Int)) = true := decide_eq_true ve
               have c42b1 : decide (2 < a0.size) = true := decide_eq_true Z55
               clear ve
               by_cases vf : 3 < (a0.size : Int)
               ·rw [if_pos vf] at H
                have c44b0 : decide (3 < (a0.size : Int)) = true := decide_eq_true vf
                have c44b1 : decide (3 < a0.size) = true := decide_eq_true Z55
                clear vf
                by_cases kg : 4 ≤ 8
                ·rw [if_pos kg] at H
                 have sC := eq_true kg
                 have sD : decide (4 ≤ 8) = true := decide_eq_true kg
                 clear kg
                 by_cases oe : 8 ≤ (a0.size : Int)
                 ·rw [if_pos oe] at H
                  have sE := eq_true oe
                  have sF : decide (8 ≤ (a0.size : Int)) = true := decide_eq_true oe
                  clear oe
                  by_cases jN : 8 ≤ 12
                  ·rw [if_pos jN] at H
                   have hF := eq_true jN
                   have ll : decide (8 ≤ 12) = true := decide_eq_true jN
                   clear jN
                   by_cases jo : 12 ≤ (a0.size : Int)
                   ·rw [if_pos jo] at H
                    have lX := eq_true jo
                    have lY : decide (12 ≤ (a0.size : Int)) = true := decide_eq_true jo
                    clear jo
                    replace H := Option.bind_eq_some_iff.mp H
                    obtain ⟨bp, sG, H⟩ := H
                    replace H : (if 12 ≤ 16 then (if 16 ≤ (a0.size : Int) then (if 16 ≤ 20 then (if 20 ≤ (a0.size : Int) then ((roadbookref08_Number.f kj11 (a0.extract 16 20)).bind fun aQ => (some (4, 0, 0, (⟨#[]⟩ : ByteArray), 0, 0, (⟨#[]⟩ : ByteArray), wrap64 (bt a0 2), 0, (⟨#[]⟩ : ByteArray), 0, (⟨#[]⟩ : ByteArray), bp, 0, aQ, wrap64 (Int.tdiv (wrap64 (bt a0 1)) 64), wrap64 (bt a0 3), 0, 0, a0.extract 4 8, a0.extract 12 16, ([] : List (S46)), 0, (⟨#[]⟩ : ByteArray), ba, 0, 0))) else (none)) else (none)) else (none)) else (none)) = some (r1, r2, r3, r4, r5, r6, r7, r8, r9, r10, r11, r12, r13, r14, r15, r16, r17, r18, r19, r20, r21, r22, r23, r24, r25, r26, r27) := H
                    have jp := Aside0.mk sG
                    clear sG
                    by_cases kE : 12 ≤ 16
                    ·rw [if_pos kE] at H
                     have qo := eq_true kE
                     have qp : decide (12 ≤ 16) = true := decide_eq_true kE
                     clear kE
                     by_cases sH : 16 ≤ (a0.size : Int)
                     ·rw [if_pos sH] at H
                      have c52b0 := eq_true sH
                      have c52b1 : decide (16 ≤ (a0.size : Int)) = true := decide_eq_true sH
                      clear sH
                      by_cases pB : 16 ≤ 20
                      ·rw [if_pos pB] at H
                       have c53b0 := eq_true pB
                       have c53b1 : decide (16 ≤ 20) = true := decide_eq_true pB
                       clear pB
                       by_cases sI : 20 ≤ (a0.size : Int)
                       ·rw [if_pos sI] at H
                        have c54b0 := eq_true sI
                        have c54b1 : decide (20 ≤ (a0.size : Int)) = true := decide_eq_true sI
                        clear sI
                        replace H := Option.bind_eq_some_iff.mp H
                        obtain ⟨aQ, sJ, H⟩ := H
                        replace H : (some (4, 0, 0, (⟨#[]⟩ : ByteArray), 0, 0, (⟨#[]⟩ : ByteArray), wrap64 (bt a0 2), 0, (⟨#[]⟩ : ByteArray), 0, (⟨#[]⟩ : ByteArray), bp, 0, aQ, wrap64 (Int.tdiv (wrap64 (bt a0 1)) 64), wrap64 (bt a0 3), 0, 0, a0.extract 4 8, a0.extract 12 16, ([] : List (S46)), 0, (⟨#[]⟩ : ByteArray), ba, 0, 0)) = some (r1, r2, r3, r4, r5, r6, r7, r8, r9, r10, r11, r12, r13, r14, r15, r16, r17, r18, r19, r20, r21, r22, r23, r24, r25, r26, r27) := H
                        have wT := Aside0.mk sJ
                        clear sJ
                        simp only [Option.some.injEq, Prod.mk.injEq] at H
                        obtain ⟨rfl, rfl, rfl, rfl, rfl, rfl, rfl, rfl, rfl, rfl, rfl, rfl, rfl, rfl, rfl, rfl, rfl, rfl, rfl, rfl, rfl, rfl, rfl, rfl, rfl, rfl, rfl⟩ := H
                        try go_wp2_with (first | ((with_reducible refine gate_dst (N := 65) rfl ?_); refine Pre.build_event 65 25 [(0, Go.Operand.const (Go.Value.int Go.IntKind.i64 6)), (24, Go.Operand.tmp 64)] rfl rfl rfl (roadbookref15_Get.bd65 _ _ _ _) ?_) | ((with_reducible refine gate_dst (N := 87) rfl ?_); refine Pre.build_event 87 25 [(0, Go.Operand.const (Go.Value.int Go.IntKind.i64 4)), (15, Go.Operand.tmp 69), (7, Go.Operand.tmp 72), (16, Go.Operand.tmp 75), (19, Go.Operand.tmp 77), (12, Go.Operand.tmp 80), (20, Go.Operand.tmp 82), (14, Go.Operand.tmp 85), (24, Go.Operand.tmp 86)] rfl rfl rfl (roadbookref15_Get.bd87 _ _ _ _ _ _ _ _ _ _ _) ?_) | ((with_reducible refine gate_callee (f := 63) rfl ?_); refine goesL_ (some 51) rfl rfl Try.func63 Z6 rfl #[.string (a0.extract (fA : Int).toNat a0.size)] rfl Z5 ?_; (with_reducible refine (roadbookref13_Get.calls kj11 (a0.extract (fA : Int).toNat a0.size) ba bf bc _ qd.out).mono ?_); rintro e pH ⟨jM, rfl, ho0, hb⟩; refine ⟨_, rfl, ?_⟩; have aG := Aside0.mk (Kd.R_lower ho0 (below_size Z0)); have aH := Aside0.mk (blk_below (g := aa) Z1 hb); have aI := Aside0.mk (below_step Z0 hb); have cn := aG; replace ab := aH; replace HB := aI; clear aG aH aI; (try clear hb); (try clear hb2); (try clear hk); (try clear hi); (try clear ho0)))
                        have aG := Aside0.mk (Kd.R_drew cn.out)
                        have aH := Aside0.mk (blk_drew ab.out)
                        have aI := Aside0.mk (below_drew1 HB.out)
                        clear cn
                        clear ab
                        clear HB
                        have cn := aG
                        have ab := aH
                        have HB := aI
                        clear aG aH aI
                        have p41 : 0 ≤ (1 : Int) := Z55
                        have q41 : 1 < a0.size := (by have : (1 : Int) < (a0.size : Int) := of_decide_eq_true Z10; omega)
                        have hx41 : ∀ h : 1 < a0.size, ((a0[1]'h).toNat : Int) = bt a0 1 := bt_at a0 1
                        clear p41
                        have qi41 : (1 < (a0.size : Int)) = True := eq_true (of_decide_eq_true Z10)
                        replace q41 := eq_true q41
                        have p43 : 0 ≤ (2 : Int) := Z55
                        have q43 : 2 < a0.size := (by have : (2 : Int) < (a0.size : Int) := of_decide_eq_true Z10; omega)
                        have hx43 : ∀ h : 2 < a0.size, ((a0[2]'h).toNat : Int) = bt a0 2 := bt_at a0 2
                        clear p43
                        have qi43 : (2 < (a0.size : Int)) = True := eq_true (of_decide_eq_true Z10)
                        replace q43 := eq_true q43
                        have p45 : 0 ≤ (3 : Int) := Z55
                        have q45 : 3 < a0.size := (by have : (3 : Int) < (a0.size : Int) := of_decide_eq_true Z10; omega)
                        have hx45 : ∀ h : 3 < a0.size, ((a0[3]'h).toNat : Int) = bt a0 3 := bt_at a0 3
                        clear p45
                        have qi45 : (3 < (a0.size : Int)) = True := eq_true (of_decide_eq_true Z10)
                        replace q45 := eq_true q45
                        refine start_ (n := 25) (S := fun w' => True) (ds := []) #[false, false, false, false, false, false, false, false, false, false, false, false, false, false, false, false, false, false, false, false, false, false, false, false, false] Z6 rfl rfl trivial (fun hHeld => ?_); refine with_tabW roadbookref15_Get.tab13 roadbookref15_Get.bits13 (fun HT_ HW_ => ?_)
                        generalize pH.drew = vg at cn ab HB hHeld ⊢
                        refine pure_ (i := 0) (N := some 66) (v := ?_) (a' := ?_) #[true, false, false, false, false, false, false, false, false, false, false, false, false, false, false, false, false, false, false, false, false, false, false, false, false] rfl rfl (any_of HT_.out Z6) (fun _ _ _ h => h) (Or.inl ⟨Z13, ?_⟩) ?_ ?_
                        rotate_left
                        ·intro w'
                         go_simp
                         with_reducible rfl
                        rotate_left
                        ·simp only [Act.put, List.setIfInBounds_toArray, List.set_cons_zero, List.set_cons_succ, i64_w, i32_w]
                         rfl
                        refine pure_ (i := 4) (N := some 70) (v := ?_) (a' := ?_) #[true, false, false, false, true, false, false, false, false, false, false, false, false, false, false, false, false, false, false, false, false, false, false, false, false] rfl rfl (any_of HT_.out Z6) (fun _ _ _ h => h) (Or.inl ⟨Z13, ?_⟩) ?_ ?_
                        rotate_left
                        ·intro w'
                         go_simp
                         with_reducible rfl
                        rotate_left
                        ·simp only [Act.put, List.setIfInBounds_toArray, List.set_cons_zero, List.set_cons_succ, i64_w, i32_w]
                         rfl
                        refine pure_ (i := 7) (N := some 73) (v := ?_) (a' := ?_) #[true, false, false, false, true, false, false, true, false, false, false, false, false, false, false, false, false, false, false, false, false, false, false, false, false] rfl rfl (any_of HT_.out Z6) (fun _ _ _ h => h) (Or.inl ⟨Z13, ?_⟩) ?_ ?_
                        rotate_left
                        ·intro w'
                         go_simp
                         with_reducible rfl
                        rotate_left
                        ·simp only [Act.put, List.setIfInBounds_toArray, List.set_cons_zero, List.set_cons_succ, i64_w, i32_w]
                         rfl
                        refine pure_ (i := 10) (N := some 76) (v := ?_) (a' := ?_) #[true, false, false, false, true, false, false, true, false, false, true, false, false, false, false, false, false, false, false, false, false, false, false, false, false] rfl rfl (any_of HT_.out Z6) (fun _ _ _ h => h) (Or.inl ⟨Z13, ?_⟩) ?_ ?_
                        rotate_left
                        ·intro w'
                         go_simp
                         with_reducible rfl
                        rotate_left
                        ·simp only [Act.put, List.setIfInBounds_toArray, List.set_cons_zero, List.set_cons_succ, i64_w, i32_w]
                         rfl
                        refine pure_ (i := 11) (N := some 77) (v := ?_) (a' := ?_) #[true, false, false, false, true, false, false, true, false, false, true, true, false, false, false, false, false, false, false, false, false, false, false, false, false] rfl rfl (any_of HT_.out Z6) (fun _ _ _ h => h) (Or.inl ⟨Z13, ?_⟩) ?_ ?_
                        rotate_left
                        ·intro w'
                         go_simp
                         with_reducible rfl
                        rotate_left
                        ·simp only [Act.put, List.setIfInBounds_toArray, List.set_cons_zero, List.set_cons_succ, i64_w, i32_w]
                         rfl
                        refine pure_ (i := 12) (N := some 78) (v := ?_) (a' := ?_) #[true, false, false, false, true, false, false, true, false, false, true, true, true, false, false, false, false, false, false, false, false, false, false, false, false] rfl rfl (any_of HT_.out Z6) (fun _ _ _ h => h) (Or.inl ⟨Z13, ?_⟩) ?_ ?_
                        rotate_left
                        ·intro w'
                         go_simp
                         with_reducible rfl
                        rotate_left
                        ·simp only [Act.put, List.setIfInBounds_toArray, List.set_cons_zero, List.set_cons_succ, i64_w, i32_w]
                         rfl
                        refine pure_ (i := 13) (N := some 79) (v := ?_) (a' := ?_) #[true, false, false, false, true, false, false, true, false, false, true, true, true, true, false, false, false, false, false, false, false, false, false, false, false] rfl rfl (any_of HT_.out Z6) (fun _ _ _ h => h) (Or.inl ⟨Z13, ?_⟩) ?_ ?_
                        rotate_left
                        ·intro w'
                         go_simp
                         with_reducible rfl
                        rotate_left
                        ·simp only [Act.put, List.setIfInBounds_toArray, List.set_cons_zero, List.set_cons_succ, i64_w, i32_w]
                         rfl
                        refine pure_ (i := 15) (N := some 81) (v := ?_) (a' := ?_) #[true, false, false, false, true, false, false, true, false, false, true, true, true, true, false, true, false, false, false, false, false, false, false, false, false] rfl rfl (any_of HT_.out Z6) (fun _ _ _ h => h) (Or.inl ⟨Z13, ?_⟩) ?_ ?_
                        rotate_left
                        ·intro w'
                         go_simp
                         with_reducible rfl
                        rotate_left
                        ·simp only [Act.put, List.setIfInBounds_toArray, List.set_cons_zero, List.set_cons_succ, i64_w, i32_w]
                         rfl
                        refine pure_ (i := 16) (N := some 82) (v := ?_) (a' := ?_) #[true, false, false, false, true, false, false, true, false, false, true, true, true, true, false, true, true, false, false, false, false, false, false, false, false] rfl rfl (any_of HT_.out Z6) (fun _ _ _ h => h) (Or.inl ⟨Z13, ?_⟩) ?_ ?_
                        rotate_left
                        ·intro w'
                         go_simp
                         with_reducible rfl
                        rotate_left
                        ·simp only [Act.put, List.setIfInBounds_toArray, List.set_cons_zero, List.set_cons_succ, i64_w, i32_w]
                         rfl
                        refine pure_ (i := 17) (N := some 83) (v := ?_) (a' := ?_) #[true, false, false, false, true, false, false, true, false, false, true, true, true, true, false, true, true, true, false, false, false, false, false, false, false] rfl rfl (any_of HT_.out Z6) (fun _ _ _ h => h) (Or.inl ⟨Z13, ?_⟩) ?_ ?_
                        rotate_left
                        ·intro w'
                         go_simp
                         with_reducible rfl
                        rotate_left
                        ·simp only [Act.put, List.setIfInBounds_toArray, List.set_cons_zero, List.set_cons_succ, i64_w, i32_w]
                         rfl
                        refine pure_ (i := 18) (N := some 84) (v := ?_) (a' := ?_) #[true, false, false, false, true, false, false, true, false, false, true, true, true, true, false, true, true, true, true, false, false, false, false, false, false] rfl rfl (any_of HT_.out Z6) (fun _ _ _ h => h) (Or.inl ⟨Z13, ?_⟩) ?_ ?_
                        rotate_left
                        ·intro w'
                         go_simp
                         with_reducible rfl
                        rotate_left
                        ·simp only [Act.put, List.setIfInBounds_toArray, List.set_cons_zero, List.set_cons_succ, i64_w, i32_w]
                         rfl
                        refine pure_ (i := 20) (N := some 86) (v := ?_) (a' := ?_) #[true, false, false, false, true, false, false, true, false, false, true, true, true, true, false, true, true, true, true, false, true, false, false, false, false] rfl rfl (any_of HT_.out Z6) (fun _ _ _ h => h) (Or.inl ⟨Z13, ?_⟩) ?_ ?_
                        rotate_left
                        ·intro w'
                         go_simp
                         with_reducible rfl
                        rotate_left
                        ·simp only [Act.put, List.setIfInBounds_toArray, List.set_cons_zero, List.set_cons_succ, i64_w, i32_w]
                         rfl
                        refine take_ (i := 1) (N := some 67) (v := ?_) (a' := ?_) #[true, true, false, false, true, false, false, true, false, false, true, true, true, true, false, true, true, true, true, false, true, false, false, false, false] rfl rfl (take_ofW HT_.out HW_.out Z6) (fun _ _ _ h => h) (Or.inl ⟨Z13, ?_⟩) hHeld ?_ ?_
                        rotate_left
                        ·intro w' _
                         go_simp
                         with_reducible rfl
                        rotate_left
                        ·simp only [Act.put, List.setIfInBounds_toArray, List.set_cons_zero, List.set_cons_succ, i64_w, i32_w]
                         rfl
                        refine pure_ (i := 2) (N := some 68) (v := ?_) (a' := ?_) #[true, true, true, false, true, false, false, true, false, false, true, true, true, true, false, true, true, true, true, false, true, false, false, false, false] rfl rfl (any_of HT_.out Z6) (fun _ _ _ h => h) (Or.inl ⟨Z13, ?_⟩) ?_ ?_
                        rotate_left
                        ·intro w'
                         go_simp
                         with_reducible rfl
                        rotate_left
                        ·simp only [Act.put, List.setIfInBounds_toArray, List.set_cons_zero, List.set_cons_succ, i64_w, i32_w]
                         rfl
                        refine pure_ (i := 3) (N := some 69) (v := ?_) (a' := ?_) #[true, true, true, true, true, false, false, true, false, false, true, true, true, true, false, true, true, true, true, false, true, false, false, false, false] rfl rfl (any_of HT_.out Z6) (fun _ _ _ h => h) (Or.inl ⟨Z13, ?_⟩) ?_ ?_
                        rotate_left
                        ·intro w'
                         go_simp
                         with_reducible rfl
                        rotate_left
                        ·simp only [Act.put, List.setIfInBounds_toArray, List.set_cons_zero, List.set_cons_succ, i64_w, i32_w]
                         rfl
                        refine take_ (i := 5) (N := some 71) (v := ?_) (a' := ?_) #[true, true, true, true, true, true, false, true, false, false, true, true, true, true, false, true, true, true, true, false, true, false, false, false, false] rfl rfl (take_ofW HT_.out HW_.out Z6) (fun _ _ _ h => h) (Or.inl ⟨Z13, ?_⟩) hHeld ?_ ?_
                        rotate_left
                        ·intro w' _
                         go_simp
                         with_reducible rfl
                        rotate_left
                        ·simp only [Act.put, List.setIfInBounds_toArray, List.set_cons_zero, List.set_cons_succ, i64_w, i32_w]
                         rfl
                        refine pure_ (i := 6) (N := some 72) (v := ?_) (a' := ?_) #[true, true, true, true, true, true, true, true, false, false, true, true, true, true, false, true, true, true, true, false, true, false, false, false, false] rfl rfl (any_of HT_.out Z6) (fun _ _ _ h => h) (Or.inl ⟨Z13, ?_⟩) ?_ ?_
                        rotate_left
                        ·intro w'
                         go_simp
                         with_reducible rfl
                        rotate_left
                        ·simp only [Act.put, List.setIfInBounds_toArray, List.set_cons_zero, List.set_cons_succ, i64_w, i32_w]
                         rfl
                        refine take_ (i := 8) (N := some 74) (v := ?_) (a' := ?_) #[true, true, true, true, true, true, true, true, true, false, true, true, true, true, false, true, true, true, true, false, true, false, false, false, false] rfl rfl (take_ofW HT_.out HW_.out Z6) (fun _ _ _ h => h) (Or.inl ⟨Z13, ?_⟩) hHeld ?_ ?_
                        rotate_left
                        ·intro w' _
                         go_simp
                         with_reducible rfl
                        rotate_left
                        ·simp only [Act.put, List.setIfInBounds_toArray, List.set_cons_zero, List.set_cons_succ, i64_w, i32_w]
                         rfl
                        refine pure_ (i := 9) (N := some 75) (v := ?_) (a' := ?_) #[true, true, true, true, true, true, true, true, true, true, true, true, true, true, false, true, true, true, true, false, true, false, false, false, false] rfl rfl (any_of HT_.out Z6) (fun _ _ _ h => h) (Or.inl ⟨Z13, ?_⟩) ?_ ?_
                        rotate_left
                        ·intro w'
                         go_simp
                         with_reducible rfl
                        rotate_left
                        ·simp only [Act.put, List.setIfInBounds_toArray, List.set_cons_zero, List.set_cons_succ, i64_w, i32_w]
                         rfl
                        refine one_ (i := 14) (N := some 80) #[true, true, true, true, true, true, true, true, true, true, true, true, true, true, true, true, true, true, true, false, true, false, false, false, false] rfl rfl (one_of HT_.out Z6) Z32 (fun K hK => ?_)
                        refine goes_ Try.func64 Z6 rfl #[.string (a0.extract 8 12)] Z13 rfl rfl Z5 ?_
                        with_reducible refine (roadbookref08_Number.calls kj11 (a0.extract 8 12) bp _ jp.out).mono ?_
                        rintro e w' ⟨rfl, ⟨nd, rfl⟩⟩
                        refine ⟨_, rfl, ?_⟩
                        refine hK.out _ _ trivial (fun hHeld => ?_)
                        clear hK K
                        refine norm_ (a' := ?_) ?_ ?_
                        rotate_left
                        ·show Act.put _ (some 80) _ = _
                         simp only [Act.put, List.setIfInBounds_toArray, List.set_cons_zero, List.set_cons_succ, i64_w, i32_w]
                         rfl
                        refine one_ (i := 19) (N := some 85) #[true, true, true, true, true, true, true, true, true, true, true, true, true, true, true, true, true, true, true, true, true, false, false, false, false] rfl rfl (one_of HT_.out Z6) Z32 (fun K hK => ?_)
                        refine goes_ Try.func64 Z6 rfl #[.string (a0.extract 16 20)] Z13 rfl rfl Z5 ?_
                        with_reducible refine (roadbookref08_Number.calls kj11 (a0.extract 16 20) aQ _ wT.out).mono ?_
                        rintro e w' ⟨rfl, ⟨nd, rfl⟩⟩
                        refine ⟨_, rfl, ?_⟩
                        obtain ⟨pI, pJ, eo58⟩ := Kd.R_slice cn.out
                        (first | subst eo58 | (injection eo58 with f1_ f2_ f3_; have f4_ := f1_.symm; have f5_ := f3_.symm; clear f1_ f2_ f3_; subst f4_; subst f5_))
                        refine hK.out _ _ trivial (fun hHeld => ?_)
                        clear hK K
                        refine norm_ (a' := ?_) ?_ ?_
                        rotate_left
                        ·show Act.put _ (some 85) _ = _
                         simp only [Act.put, List.setIfInBounds_toArray, List.set_cons_zero, List.set_cons_succ, i64_w, i32_w]
                         rfl
                        refine pure_ (i := 21) (N := some 87) (v := ?_) (a' := ?_) #[true, true, true, true, true, true, true, true, true, true, true, true, true, true, true, true, true, true, true, true, true, true, false, false, false] rfl rfl (any_of HT_.out Z6) (fun _ _ _ h => h) (Or.inl ⟨Z13, ?_⟩) ?_ ?_
                        rotate_left
                        ·intro w'
                         refine Eq.trans (Pre.build_run 25 [(0, Go.Operand.const (Go.Value.int Go.IntKind.i64 4)), (15, Go.Operand.tmp 69), (7, Go.Operand.tmp 72), (16, Go.Operand.tmp 75), (19, Go.Operand.tmp 77), (12, Go.Operand.tmp 80), (20, Go.Operand.tmp 82), (14, Go.Operand.tmp 85), (24, Go.Operand.tmp 86)] rfl (roadbookref15_Get.bd87 _ _ _ _ _ _ _ _ _ _ _)) ?_
                         with_reducible rfl
                        rotate_left
                        ·simp only [Act.put, List.setIfInBounds_toArray, List.set_cons_zero, List.set_cons_succ, i64_w, i32_w]
                         rfl
                        refine one_ (i := 22) (N := none) #[true, true, true, true, true, true, true, true, true, true, true, true, true, true, true, true, true, true, true, true, true, true, true, false, false] rfl rfl (one_of HT_.out Z6) Z32 (fun K hK => ?_)
                        refine skip_ (w1 := ?_) Z13 rfl ?_ ?_
                        rotate_left
                        ·refine Eq.trans (Pre.store_run rfl Z13 Z13 ab.out Z6 Z13 Z13) ?_
                         rfl
                        refine hK.out _ _ trivial (fun hHeld => ?_)
                        clear hK K
                        refine pure_ (i := 23) (N := some 3) (v := ?_) (a' := ?_) #[true, true, true, true, true, true, true, true, true, true, true, true, true, true, true, true, true, true, true, true, true, true, true, true, false] rfl rfl (any_of HT_.out Z6) (fun _ _ _ h => h) (Or.inl ⟨Z13, ?_⟩) ?_ ?_
                        rotate_left
                        ·intro w'
                         go_simp
                         with_reducible rfl
                        rotate_left
                        ·simp only [Act.put, List.setIfInBounds_toArray, List.set_cons_zero, List.set_cons_succ, i64_w, i32_w]
                         rfl
                        refine pure_ (i := 24) (N := some 4) (v := ?_) (a' := ?_) #[true, true, true, true, true, true, true, true, true, true, true, true, true, true, true, true, true, true, true, true, true, true, true, true, true] rfl rfl (any_of HT_.out Z6) (fun _ _ _ h => h) (Or.inl ⟨Z13, ?_⟩) ?_ ?_
                        rotate_left
                        ·intro w'
                         go_simp
                         with_reducible rfl
                        rotate_left
                        ·simp only [Act.put, List.setIfInBounds_toArray, List.set_cons_zero, List.set_cons_succ, i64_w, i32_w]
                         rfl
                        refine done_ (done_of HT_.out Z6) ?_
                        refine Pre.abs_end (g := aa) (t := 25) (cs := #[.int .i64 0, .int .i64 0, .int .i64 0, .string ⟨#[]⟩, .int .i64 0, .int .i64 0, .string ⟨#[]⟩, .int .i64 0, .int .i64 0, .string ⟨#[]⟩, .int .i64 0, .string ⟨#[]⟩, .int .i64 0, .int .i64 0, .int .i64 0, .int .i64 0, .int .i64 0, .int .i64 0, .int .i64 0, .string ⟨#[]⟩, .string ⟨#[]⟩, .slice none 0 0, .int .i64 0, .string ⟨#[]⟩, .slice none 0 0]) (cells := #[.int .i64 4, .int .i64 0, .int .i64 0, .string ⟨#[]⟩, .int .i64 0, .int .i64 0, .string ⟨#[]⟩, .int .i64 (wrap64 (bt a0 2)), .int .i64 0, .string ⟨#[]⟩, .int .i64 0, .string ⟨#[]⟩, .int .i64 bp, .int .i64 0, .int .i64 aQ, .int .i64 (wrap64 (Int.tdiv (wrap64 (bt a0 1)) 64)), .int .i64 (wrap64 (bt a0 3)), .int .i64 0, .int .i64 0, .string (a0.extract 4 8), .string (a0.extract 12 16), .slice none 0 0, .int .i64 0, .string ⟨#[]⟩, .slice pI ba.length pJ]) Z1 Z13 ?_
                        intro sa hbS_ sS_
                        replace hbS_ := Aside0.mk hbS_
                        replace sS_ : Aside0 (Pre.Sets aa vg sa) := ⟨⟨sS_.os, sS_.tape, sS_.output, sS_.size, sS_.block⟩⟩
                        have aG : Aside0 (Kd.R k48 48 sa w.heap.size (fun _ => True) (.slice pI ba.length pJ) ba) := ⟨Kd.R_mono (Pre.R_sets sS_.out (Kd.R_types cn.out ab.out Z32) (fun _ hk => hk.2)) (fun _ hk => trivial)⟩
                        have aH : Aside0 (sa.heap[aa]? = some (.cells #[.int .i64 4, .int .i64 0, .int .i64 0, .string ⟨#[]⟩, .int .i64 0, .int .i64 0, .string ⟨#[]⟩, .int .i64 (wrap64 (bt a0 2)), .int .i64 0, .string ⟨#[]⟩, .int .i64 0, .string ⟨#[]⟩, .int .i64 bp, .int .i64 0, .int .i64 aQ, .int .i64 (wrap64 (Int.tdiv (wrap64 (bt a0 1)) 64)), .int .i64 (wrap64 (bt a0 3)), .int .i64 0, .int .i64 0, .string (a0.extract 4 8), .string (a0.extract 12 16), .slice none 0 0, .int .i64 0, .string ⟨#[]⟩, .slice pI ba.length pJ] 25 (0, 0))) := ⟨hbS_.out⟩
                        have aI : Aside0 (Below w.heap.size w sa) := ⟨sS_.out.below Z0 bs.out⟩
                        clear hbS_ sS_
                        (try clear cn)
                        (try clear ab)
                        (try clear HB)
                        have cn := aG
                        have ab := aH
                        have HB := aI
                        clear aG aH aI
                        try go_wp2_with (first | ((with_reducible refine gate_dst (N := 65) rfl ?_); refine Pre.build_event 65 25 [(0, Go.Operand.const (Go.Value.int Go.IntKind.i64 6)), (24, Go.Operand.tmp 64)] rfl rfl rfl (roadbookref15_Get.bd65 _ _ _ _) ?_) | ((with_reducible refine gate_dst (N := 87) rfl ?_); refine Pre.build_event 87 25 [(0, Go.Operand.const (Go.Value.int Go.IntKind.i64 4)), (15, Go.Operand.tmp 69), (7, Go.Operand.tmp 72), (16, Go.Operand.tmp 75), (19, Go.Operand.tmp 77), (12, Go.Operand.tmp 80), (20, Go.Operand.tmp 82), (14, Go.Operand.tmp 85), (24, Go.Operand.tmp 86)] rfl rfl rfl (roadbookref15_Get.bd87 _ _ _ _ _ _ _ _ _ _ _) ?_))
                        refine bodyPost_ret (results_ctt rfl _ _ aa 25 #[.int .i64 4, .int .i64 0, .int .i64 0, .string ⟨#[]⟩, .int .i64 0, .int .i64 0, .string ⟨#[]⟩, .int .i64 (wrap64 (bt a0 2)), .int .i64 0, .string ⟨#[]⟩, .int .i64 0, .string ⟨#[]⟩, .int .i64 bp, .int .i64 0, .int .i64 aQ, .int .i64 (wrap64 (Int.tdiv (wrap64 (bt a0 1)) 64)), .int .i64 (wrap64 (bt a0 3)), .int .i64 0, .int .i64 0, .string (a0.extract 4 8), .string (a0.extract 12 16), .slice none 0 0, .int .i64 0, .string ⟨#[]⟩, .slice pI ba.length pJ] (0, 0) _ rfl Z1 Try.underlying25 rfl Z6) rfl ?_
                        exact ⟨_, _, Z9, Z12, Z77, Z0⟩
                       ·rw [if_neg sI] at H
                        exact absurd H Z73
                      ·rw [if_neg pB] at H
                       exact absurd H Z73
                     ·rw [if_neg sH] at H
                      exact absurd H Z73
                    ·rw [if_neg kE] at H
                     exact absurd H Z73
                   ·rw [if_neg jo] at H
                    exact absurd H Z73
                  ·rw [if_neg jN] at H
                   exact absurd H Z73
                 ·rw [if_neg oe] at H
                  exact absurd H Z73
                ·rw [if_neg kg] at H
                 exact absurd H Z73
               ·rw [if_neg vf] at H
                exact absurd H Z73
              ·rw [if_neg ve] at H
               exact absurd H Z73
             ·rw [if_neg jw] at H
              exact absurd H Z73
           ·rw [if_neg jf] at H
            have ks : (bc == 0) = false := beq_eq_false_iff_ne.mpr jf
            have lW : (bc != 0) = true := bne_iff_ne.mpr jf
            simp only [Option.some.injEq, Prod.mk.injEq] at H
            obtain ⟨rfl, rfl, rfl, rfl, rfl, rfl, rfl, rfl, rfl, rfl, rfl, rfl, rfl, rfl, rfl, rfl, rfl, rfl, rfl, rfl, rfl, rfl, rfl, rfl, rfl, rfl, rfl⟩ := H
            go_wp2_with (first | ((with_reducible refine gate_dst (N := 65) rfl ?_); refine Pre.build_event 65 25 [(0, Go.Operand.const (Go.Value.int Go.IntKind.i64 6)), (24, Go.Operand.tmp 64)] rfl rfl rfl (roadbookref15_Get.bd65 _ _ _ _) ?_) | ((with_reducible refine gate_dst (N := 87) rfl ?_); refine Pre.build_event 87 25 [(0, Go.Operand.const (Go.Value.int Go.IntKind.i64 4)), (15, Go.Operand.tmp 69), (7, Go.Operand.tmp 72), (16, Go.Operand.tmp 75), (19, Go.Operand.tmp 77), (12, Go.Operand.tmp 80), (20, Go.Operand.tmp 82), (14, Go.Operand.tmp 85), (24, Go.Operand.tmp 86)] rfl rfl rfl (roadbookref15_Get.bd87 _ _ _ _ _ _ _ _ _ _ _) ?_) | ((with_reducible refine gate_callee (f := 63) rfl ?_); refine goesL_ (some 51) rfl rfl Try.func63 Z6 rfl #[.string (a0.extract (fA : Int).toNat a0.size)] rfl Z5 ?_; (with_reducible refine (roadbookref13_Get.calls kj11 (a0.extract (fA : Int).toNat a0.size) ba bf bc _ qd.out).mono ?_); rintro e qX ⟨jM, rfl, ho0, hb⟩; refine ⟨_, rfl, ?_⟩; have aG := Aside0.mk (Kd.R_lower ho0 (below_size Z0)); have aH := Aside0.mk (blk_below (g := aa) Z1 hb); have aI := Aside0.mk (below_step Z0 hb); have cn := aG; replace ab := aH; replace HB := aI; clear aG aH aI; (try clear hb); (try clear hb2); (try clear hk); (try clear hi); (try clear ho0); have sK := cells_25 ab.out) | ((with_reducible refine Pre.gate_store 25 rfl ?_); refine Pre.store_abs (cur := #[.int .i64 0, .int .i64 0, .int .i64 0, .string ⟨#[]⟩, .int .i64 0, .int .i64 0, .string ⟨#[]⟩, .int .i64 0, .int .i64 0, .string ⟨#[]⟩, .int .i64 0, .string ⟨#[]⟩, .int .i64 0, .int .i64 0, .int .i64 0, .int .i64 0, .int .i64 0, .int .i64 0, .int .i64 0, .string ⟨#[]⟩, .string ⟨#[]⟩, .slice none 0 0, .int .i64 0, .string ⟨#[]⟩, .slice none 0 0]) (e := 25) rfl rfl rfl Z13 Z13 Z1 Z6 Z13 Z13 ?_; intro pG hbS_ sS_; have aG : Aside0 (Kd.R k48 48 pG w.heap.size (fun _ => True) jM ba) := ⟨Kd.R_mono (Pre.R_sets sS_ (Kd.R_types cn.out ab.out Z32) (fun _ hk => hk.2)) (fun _ hk => trivial)⟩; have aH : Aside0 (pG.heap[aa]? = some (.cells #[.int .i64 0, .int .i64 0, .int .i64 0, .string ⟨#[]⟩, .int .i64 0, .int .i64 0, .string ⟨#[]⟩, .int .i64 0, .int .i64 0, .string ⟨#[]⟩, .int .i64 0, .string ⟨#[]⟩, .int .i64 0, .int .i64 0, .int .i64 0, .int .i64 0, .int .i64 0, .int .i64 0, .int .i64 0, .string ⟨#[]⟩, .string ⟨#[]⟩, .slice none 0 0, .int .i64 0, .string ⟨#[]⟩, .slice none 0 0] 25 (0, 0))) := ⟨hbS_⟩; have aI : Aside0 (Below w.heap.size w pG) := ⟨sS_.below Z0 bs.out⟩; clear hbS_ sS_; replace cn := aG; replace ab := aH; replace HB := aI; clear aG aH aI))
            refine bodyPost_ret (results_ctt rfl _ _ aa 25 #[.int .i64 0, .int .i64 0, .int .i64 0, .string ⟨#[]⟩, .int .i64 0, .int .i64 0, .string ⟨#[]⟩, .int .i64 0, .int .i64 0, .string ⟨#[]⟩, .int .i64 0, .string ⟨#[]⟩, .int .i64 0, .int .i64 0, .int .i64 0, .int .i64 0, .int .i64 0, .int .i64 0, .int .i64 0, .string ⟨#[]⟩, .string ⟨#[]⟩, .slice none 0 0, .int .i64 0, .string ⟨#[]⟩, .slice none 0 0] (0, 0) _ rfl Z1 Try.underlying25 rfl Z6) rfl ?_
            exact ⟨_, _, Z9, Z12, Z27, Z0⟩
          ·rw [if_neg jv] at H
           exact absurd H Z73
         ·rw [if_neg jD] at H
          exact absurd H Z73

end Go.Proofs.Ytccjakjjaemmkaa.PR
