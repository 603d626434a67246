-- Written by mp.py, a program of this work (wip/tools), out of the translation; Lean checks it.
import Derived.Test.YtccjakjjaemmkaaPAPxZ
import Derived.Test.YtccjakjjaemmkaaPAPxroadbookref13
import Derived.Test.YtccjakjjaemmkaaAbs
namespace Go.Proofs.Ytccjakjjaemmkaa.PAP
open Go.RowKit Go.Proofs.YtccjakjjaemmkaaW.PrintWords Go.Proofs.YtccjakjjaemmkaaW.PrintLast Go.Proofs.YtccjakjjaemmkaaW.PrintMore
attribute [local go_sem] max2_int min2_int max_two min_two max_three min_three max_four min_four   -- for this text's walks alone
set_option linter.unusedVariables false
set_option linter.unusedSimpArgs false

/-! ### roadbookref15_Get: function 39 -/
mutual
def roadbookref15_Get.j0 : Nat → ByteArray → Int → Bool → Option (Int × Int × Int × ByteArray × Int × Int × ByteArray × Int × Int × ByteArray × Int × ByteArray × Int × Int × Int × Int × Int × Int × Int × ByteArray × ByteArray × (List (S46)) × Int × ByteArray × (List (S48)) × Int × Int)
 | 0, _, _, _ => none
 | k + 1, x0, x5, ro => if ro = true then (roadbookref15_Get.j1 k x0 2) else (roadbookref15_Get.j1 k x0 x5)
def roadbookref15_Get.j1 : Nat → ByteArray → Int → Option (Int × Int × Int × ByteArray × Int × Int × ByteArray × Int × Int × ByteArray × Int × ByteArray × Int × Int × Int × Int × Int × Int × Int × ByteArray × ByteArray × (List (S46)) × Int × ByteArray × (List (S48)) × Int × Int)
 | 0, _, _ => none
 | k + 1, x0, x5 => if (x0.size : Int) < x5 then (some (0, 0, 0, (⟨#[]⟩ : ByteArray), 0, 0, (⟨#[]⟩ : ByteArray), 0, 0, (⟨#[]⟩ : ByteArray), 0, (⟨#[]⟩ : ByteArray), 0, 0, 0, 0, 0, 0, 0, (⟨#[]⟩ : ByteArray), (⟨#[]⟩ : ByteArray), ([] : List (S46)), 0, (⟨#[]⟩ : ByteArray), ([] : List (S48)), (x0.size : Int), 2)) else (if x5 = 2 then (if 1 < (x0.size : Int) then (if (bt x0 1) = 0 then (if x5 = 20 then (if (Int.tmod (bt x0 1) 64) = 0 then (if 2 < (x0.size : Int) then (roadbookref15_Get.j2 k x0 x5 (decide ((bt x0 2) ≥ 32))) else (none)) else (roadbookref15_Get.j2 k x0 x5 true)) else (roadbookref15_Get.j2 k x0 x5 false)) else (roadbookref15_Get.j2 k x0 x5 true)) else (none)) else (if x5 = 20 then (if 1 < (x0.size : Int) then (if (Int.tmod (bt x0 1) 64) = 0 then (if 2 < (x0.size : Int) then (roadbookref15_Get.j2 k x0 x5 (decide ((bt x0 2) ≥ 32))) else (none)) else (roadbookref15_Get.j2 k x0 x5 true)) else (none)) else (roadbookref15_Get.j2 k x0 x5 false)))
def roadbookref15_Get.j2 : Nat → ByteArray → Int → Bool → Option (Int × Int × Int × ByteArray × Int × Int × ByteArray × Int × Int × ByteArray × Int × ByteArray × Int × Int × Int × Int × Int × Int × Int × ByteArray × ByteArray × (List (S46)) × Int × ByteArray × (List (S48)) × Int × Int)
 | 0, _, _, _ => none
 | k + 1, x0, x5, uG => if uG = true then (some (0, 0, 0, (⟨#[]⟩ : ByteArray), 0, 0, (⟨#[]⟩ : ByteArray), 0, 0, (⟨#[]⟩ : ByteArray), 0, (⟨#[]⟩ : ByteArray), 0, 0, 0, 0, 0, 0, 0, (⟨#[]⟩ : ByteArray), (⟨#[]⟩ : ByteArray), ([] : List (S46)), 0, (⟨#[]⟩ : ByteArray), ([] : List (S48)), 1, 5)) else (if 0 ≤ x5 then (if x5 ≤ (x0.size : Int) then ((roadbookref13_Get.f k (x0.extract (x5 : Int).toNat x0.size)).bind fun aE => (if aE.2.2 = 0 then (if x5 = 2 then (some (6, 0, 0, (⟨#[]⟩ : ByteArray), 0, 0, (⟨#[]⟩ : ByteArray), 0, 0, (⟨#[]⟩ : ByteArray), 0, (⟨#[]⟩ : ByteArray), 0, 0, 0, 0, 0, 0, 0, (⟨#[]⟩ : ByteArray), (⟨#[]⟩ : ByteArray), ([] : List (S46)), 0, (⟨#[]⟩ : ByteArray), aE.1, 0, 0)) else (if 1 < (x0.size : Int) then (if 2 < (x0.size : Int) then (if 3 < (x0.size : Int) then (if 4 ≤ 8 then (if 8 ≤ (x0.size : Int) then (if 8 ≤ 12 then (if 12 ≤ (x0.size : Int) then ((roadbookref08_Number.f k (x0.extract 8 12)).bind fun bp => (if 12 ≤ 16 then (if 16 ≤ (x0.size : Int) then (if 16 ≤ 20 then (if 20 ≤ (x0.size : Int) then ((roadbookref08_Number.f k (x0.extract 16 20)).bind fun aQ => (some (4, 0, 0, (⟨#[]⟩ : ByteArray), 0, 0, (⟨#[]⟩ : ByteArray), wrap64 (bt x0 2), 0, (⟨#[]⟩ : ByteArray), 0, (⟨#[]⟩ : ByteArray), bp, 0, aQ, wrap64 (Int.tdiv (wrap64 (bt x0 1)) 64), wrap64 (bt x0 3), 0, 0, x0.extract 4 8, x0.extract 12 16, ([] : List (S46)), 0, (⟨#[]⟩ : ByteArray), aE.1, 0, 0))) else (none)) else (none)) else (none)) else (none))) else (none)) else (none)) else (none)) else (none)) else (none)) else (none)) else (none))) else (some (0, 0, 0, (⟨#[]⟩ : ByteArray), 0, 0, (⟨#[]⟩ : ByteArray), 0, 0, (⟨#[]⟩ : ByteArray), 0, (⟨#[]⟩ : ByteArray), 0, 0, 0, 0, 0, 0, 0, (⟨#[]⟩ : ByteArray), (⟨#[]⟩ : ByteArray), ([] : List (S46)), 0, (⟨#[]⟩ : ByteArray), ([] : List (S48)), wrap64 (x5 + aE.2.1), aE.2.2)))) else (none)) else (none))
end
def roadbookref15_Get.f (k : Nat) (a0 : ByteArray) : Option (Int × Int × Int × ByteArray × Int × Int × ByteArray × Int × Int × ByteArray × Int × ByteArray × Int × Int × Int × Int × Int × Int × Int × ByteArray × ByteArray × (List (S46)) × Int × ByteArray × (List (S48)) × Int × Int) := if (a0.size : Int) > 0 then (if 0 < (a0.size : Int) then (roadbookref15_Get.j0 k a0 20 ((bt a0 0) == 4)) else (none)) else (roadbookref15_Get.j0 k a0 20 false)
theorem roadbookref15_Get.mono_l : ∀ k, (∀ y0 y1 y2, LeO (roadbookref15_Get.j0 k y0 y1 y2) (roadbookref15_Get.j0 (k + 1) y0 y1 y2)) ∧ (∀ y0 y1, LeO (roadbookref15_Get.j1 k y0 y1) (roadbookref15_Get.j1 (k + 1) y0 y1)) ∧ (∀ y0 y1 y2, LeO (roadbookref15_Get.j2 k y0 y1 y2) (roadbookref15_Get.j2 (k + 1) y0 y1 y2))
 | 0 => ⟨fun _ _ _ r h => by simp [roadbookref15_Get.j0] at h, fun _ _ r h => by simp [roadbookref15_Get.j1] at h, fun _ _ _ r h => by simp [roadbookref15_Get.j2] at h⟩
 | k + 1 => by
  obtain ⟨ih0, ih1, ih2⟩ := roadbookref15_Get.mono_l k
  refine ⟨?_, ?_, ?_⟩
  ·intro y0 y1 y2
   unfold roadbookref15_Get.j0
   repeat' first
   | (with_reducible exact ih0 ..)
   | (with_reducible exact ih1 _ _)
   | (with_reducible exact ih2 ..)
   | (with_reducible exact roadbookref08_Number.mono _ _)
   | (with_reducible exact roadbookref13_Get.mono _ _)
   | (with_reducible exact LeO.refl _)
   | (with_reducible exact LeO.none _)
   | (with_reducible refine LeO.ite ?_ ?_)
   | (with_reducible refine LeO.bind ?_ (fun _ => ?_))
   | exact ih0 ..
   | exact ih1 _ _
   | exact ih2 ..
   | exact roadbookref08_Number.mono _ _
   | exact roadbookref13_Get.mono _ _
   | exact LeO.none _
   | refine LeO.ite ?_ ?_
   | refine LeO.bind ?_ (fun _ => ?_)
  ·intro y0 y1
   unfold roadbookref15_Get.j1
   repeat' first
   | (with_reducible exact ih0 ..)
   | (with_reducible exact ih1 _ _)
   | (with_reducible exact ih2 ..)
   | (with_reducible exact roadbookref08_Number.mono _ _)
   | (with_reducible exact roadbookref13_Get.mono _ _)
   | (with_reducible exact LeO.refl _)
   | (with_reducible exact LeO.none _)
   | (with_reducible refine LeO.ite ?_ ?_)
   | (with_reducible refine LeO.bind ?_ (fun _ => ?_))
   | exact ih0 ..
   | exact ih1 _ _
   | exact ih2 ..
   | exact roadbookref08_Number.mono _ _
   | exact roadbookref13_Get.mono _ _
   | exact LeO.none _
   | refine LeO.ite ?_ ?_
   | refine LeO.bind ?_ (fun _ => ?_)
  ·intro y0 y1 y2
   unfold roadbookref15_Get.j2
   repeat' first
   | (with_reducible exact ih0 ..)
   | (with_reducible exact ih1 _ _)
   | (with_reducible exact ih2 ..)
   | (with_reducible exact roadbookref08_Number.mono _ _)
   | (with_reducible exact roadbookref13_Get.mono _ _)
   | (with_reducible exact LeO.refl _)
   | (with_reducible exact LeO.none _)
   | (with_reducible refine LeO.ite ?_ ?_)
   | (with_reducible refine LeO.bind ?_ (fun _ => ?_))
   | exact ih0 ..
   | exact ih1 _ _
   | exact ih2 ..
   | exact roadbookref08_Number.mono _ _
   | exact roadbookref13_Get.mono _ _
   | exact LeO.none _
   | refine LeO.ite ?_ ?_
   | refine LeO.bind ?_ (fun _ => ?_)
theorem roadbookref15_Get.mono : ∀ a0 k, LeO (roadbookref15_Get.f k a0) (roadbookref15_Get.f (k + 1) a0) := by
 intro a0 k
 obtain ⟨ih0, ih1, ih2⟩ := roadbookref15_Get.mono_l k
 unfold roadbookref15_Get.f
 repeat' first
   | (with_reducible exact ih0 ..)
   | (with_reducible exact ih1 _ _)
   | (with_reducible exact ih2 ..)
   | (with_reducible exact roadbookref08_Number.mono _ _)
   | (with_reducible exact roadbookref13_Get.mono _ _)
   | (with_reducible exact LeO.refl _)
   | (with_reducible exact LeO.none _)
   | (with_reducible refine LeO.ite ?_ ?_)
   | (with_reducible refine LeO.bind ?_ (fun _ => ?_))
   | exact ih0 ..
   | exact ih1 _ _
   | exact ih2 ..
   | exact roadbookref08_Number.mono _ _
   | exact roadbookref13_Get.mono _ _
   | exact LeO.none _
   | refine LeO.ite ?_ ?_
   | refine LeO.bind ?_ (fun _ => ?_)
def roadbookref15_Get.T13 : Bool × List (List Nat × List Nat) := (true, [([], []), ([0], [0]), ([1], [1]), ([2], [2]), ([], []), ([4], [4]), ([5], [5]), ([], []), ([7], [7]), ([8], [8]), ([], []), ([10], [10]), ([], []), ([12], [12]), ([13], [13]), ([], []), ([15], [15]), ([], []), ([17], [17]), ([18, 14], [18]), ([], []), ([3, 6, 9, 11, 14, 16, 19, 20], [3, 6, 9, 11, 14, 16, 19, 20]), ([21, 19, 0, 1, 2, 3, 4, 5, 6, 7, 8, 9, 10, 11, 12, 13, 14, 15, 16, 17, 18, 19, 20, 21], [21]), ([22, 0, 1, 2, 3, 4, 5, 6, 7, 8, 9, 10, 11, 12, 13, 14, 15, 16, 17, 18, 19, 20, 21, 22], []), ([23, 0, 1, 2, 3, 4, 5, 6, 7, 8, 9, 10, 11, 12, 13, 14, 15, 16, 17, 18, 19, 20, 21, 22, 23], [])])
def roadbookref15_Get.B13 : List Nat := [0, 1, 3, 7, 0, 16, 48, 0, 128, 384, 0, 1024, 0, 4096, 12288, 0, 32768, 0, 131072, 421888, 0, 2097151, 4194303, 8388607, 16777215]
theorem roadbookref15_Get.tab13 : rtab .any (opsOf Try.f39 13) = roadbookref15_Get.T13 := by kernel_rfl
theorem roadbookref15_Get.bits13 : waitsOk roadbookref15_Get.T13.2 roadbookref15_Get.B13 = true := by kernel_rfl
set_option maxRecDepth 100000 in
theorem roadbookref15_Get.bd65 (v0 : Int) (eW : Option Addr) (n24 dP : Nat) : Try.prog.built 25 [(0, .int .i64 v0), (24, .slice eW n24 dP)] = some #[.int .i64 v0, .int .i64 0, .int .i64 0, .string ⟨#[]⟩, .int .i64 0, .int .i64 0, .string ⟨#[]⟩, .int .i64 0, .int .i64 0, .string ⟨#[]⟩, .int .i64 0, .string ⟨#[]⟩, .int .i64 0, .int .i64 0, .int .i64 0, .int .i64 0, .int .i64 0, .int .i64 0, .int .i64 0, .string ⟨#[]⟩, .string ⟨#[]⟩, .slice none 0 0, .int .i64 0, .string ⟨#[]⟩, .slice eW n24 dP] := by kernel_rfl
set_option maxRecDepth 100000 in
theorem roadbookref15_Get.bd87 (v0 : Int) (ig : Int) (v7 : Int) (iF : Int) (lu : ByteArray) (ls : Int) (lv : ByteArray) (mu : Int) (eW : Option Addr) (n24 dP : Nat) : Try.prog.built 25 [(0, .int .i64 v0), (15, .int .i64 ig), (7, .int .i64 v7), (16, .int .i64 iF), (19, .string lu), (12, .int .i64 ls), (20, .string lv), (14, .int .i64 mu), (24, .slice eW n24 dP)] = some #[.int .i64 v0, .int .i64 0, .int .i64 0, .string ⟨#[]⟩, .int .i64 0, .int .i64 0, .string ⟨#[]⟩, .int .i64 v7, .int .i64 0, .string ⟨#[]⟩, .int .i64 0, .string ⟨#[]⟩, .int .i64 ls, .int .i64 0, .int .i64 mu, .int .i64 ig, .int .i64 iF, .int .i64 0, .int .i64 0, .string lu, .string lv, .slice none 0 0, .int .i64 0, .string ⟨#[]⟩, .slice eW n24 dP] := by kernel_rfl
set_option maxHeartbeats 8000000 in
set_option maxRecDepth 100000 in
theorem roadbookref15_Get.calls (k : Nat) (a0 : ByteArray) (r1 : Int) (r2 : Int) (r3 : Int) (r4 : ByteArray) (r5 : Int) (r6 : Int) (r7 : ByteArray) (r8 : Int) (r9 : Int) (r10 : ByteArray) (r11 : Int) (r12 : ByteArray) (r13 : Int) (r14 : Int) (r15 : Int) (r16 : Int) (r17 : Int) (r18 : Int) (r19 : Int) (r20 : ByteArray) (r21 : ByteArray) (r22 : List (S46)) (r23 : Int) (r24 : ByteArray) (r25 : List (S48)) (r26 : Int) (r27 : Int) (w : World) (h : roadbookref15_Get.f k a0 = some (r1, r2, r3, r4, r5, r6, r7, r8, r9, r10, r11, r12, r13, r14, r15, r16, r17, r18, r19, r20, r21, r22, r23, r24, r25, r26, r27)) :
  Calls Try.prog 39 #[.string a0] w fun e w' => ∃ v21_ v24_ : Value, e = .returned (.tuple #[.agg #[.int .i64 r1, .int .i64 r2, .int .i64 r3, .string r4, .int .i64 r5, .int .i64 r6, .string r7, .int .i64 r8, .int .i64 r9, .string r10, .int .i64 r11, .string r12, .int .i64 r13, .int .i64 r14, .int .i64 r15, .int .i64 r16, .int .i64 r17, .int .i64 r18, .int .i64 r19, .string r20, .string r21, v21_, .int .i64 r23, .string r24, v24_], .int .i64 r26, .int .i64 r27]) ∧ Kd.R k46 46 w' w.heap.size (fun _ => True) v21_ r22 ∧ Kd.R k48 48 w' w.heap.size (fun _ => True) v24_ r25 ∧ Below w.heap.size w w' := by
 have fn := Try.underlying25
 have HB := Aside0.mk (Below.refl w.heap.size w)
 have H : (if (a0.size : Int) > 0 then (if 0 < (a0.size : Int) then (roadbookref15_Get.j0 k a0 20 ((bt a0 0) == 4)) else (none)) else (roadbookref15_Get.j0 k a0 20 false)) = some (r1, r2, r3, r4, r5, r6, r7, r8, r9, r10, r11, r12, r13, r14, r15, r16, r17, r18, r19, r20, r21, r22, r23, r24, r25, r26, r27) := h
 clear h
 have jO := Aside0.mk H
 clear H
 go_enter Try.func39, Try.ntmps39
 go_upto_region 2 with (first | ((with_reducible refine gate_dst (N := 65) rfl ?_); refine Pre.build_event 65 25 [(0, Go.Operand.const (Go.Value.int Go.IntKind.i64 6)), (24, Go.Operand.tmp 64)] rfl rfl rfl (roadbookref15_Get.bd65 _ _ _ _) ?_) | ((with_reducible refine gate_dst (N := 87) rfl ?_); refine Pre.build_event 87 25 [(0, Go.Operand.const (Go.Value.int Go.IntKind.i64 4)), (15, Go.Operand.tmp 69), (7, Go.Operand.tmp 72), (16, Go.Operand.tmp 75), (19, Go.Operand.tmp 77), (12, Go.Operand.tmp 80), (20, Go.Operand.tmp 82), (14, Go.Operand.tmp 85), (24, Go.Operand.tmp 86)] rfl rfl rfl (roadbookref15_Get.bd87 _ _ _ _ _ _ _ _ _ _ _) ?_) | ((with_reducible refine gate_dst (N := 2) rfl ?_); refine Sq.box 2 #[.int .i64 0, .int .i64 0, .int .i64 0, .string ⟨#[]⟩, .int .i64 0, .int .i64 0, .string ⟨#[]⟩, .int .i64 0, .int .i64 0, .string ⟨#[]⟩, .int .i64 0, .string ⟨#[]⟩, .int .i64 0, .int .i64 0, .int .i64 0, .int .i64 0, .int .i64 0, .int .i64 0, .int .i64 0, .string ⟨#[]⟩, .string ⟨#[]⟩, .slice none 0 0, .int .i64 0, .string ⟨#[]⟩, .slice none 0 0] 25 ?_; intro ab hg w3 hbox hb; have aa := Aside0.mk (hbox); have bR := Aside0.mk (Sq.ge hg Z1); have bf := Aside0.mk (Sq.ge hg Z1); replace HB := Aside0.mk (below_step Z1 hb); clear hb hbox hg))
 (try simp only [Act.put, Sq.s1, Sq.s2, Sq.s3])
 go_cut [16] (fun iF wc => ∃ (kq : Nat) (lB : Bool), iF = .bool lB ∧ Aside0 (roadbookref15_Get.j0 kq a0 20 lB = some (r1, r2, r3, r4, r5, r6, r7, r8, r9, r10, r11, r12, r13, r14, r15, r16, r17, r18, r19, r20, r21, r22, r23, r24, r25, r26, r27)) ∧ Aside0 (kq ≤ k) ∧ Aside0 (wc.heap[ab]? = some (.cells #[.int .i64 0, .int .i64 0, .int .i64 0, .string ⟨#[]⟩, .int .i64 0, .int .i64 0, .string ⟨#[]⟩, .int .i64 0, .int .i64 0, .string ⟨#[]⟩, .int .i64 0, .string ⟨#[]⟩, .int .i64 0, .int .i64 0, .int .i64 0, .int .i64 0, .int .i64 0, .int .i64 0, .int .i64 0, .string ⟨#[]⟩, .string ⟨#[]⟩, (.slice none 0 0), .int .i64 0, .string ⟨#[]⟩, (.slice none 0 0)] 25 (0, 0))) ∧ Aside0 (Below w.heap.size w wc))
 case first =>
  have H := jO.out
  clear jO
  by_cases c4 : (a0.size : Int) > 0
  ·rw [if_pos c4] at H
   have dL : decide (0 < (a0.size : Int)) = true := decide_eq_true c4
   have gh : decide (0 < a0.size) = true := decide_eq_true Z34
   clear c4
   (first | rw [dL] | (simp only [i64_w, i32_w]; rw [dL]) | skip)
   by_cases c5 : 0 < (a0.size : Int)
   ·rw [if_pos c5] at H
    have fg : decide (0 < (a0.size : Int)) = true := decide_eq_true c5
    have im : decide (0 < a0.size) = true := decide_eq_true Z34
    clear c5
    have H' := Aside0.mk H
    clear H
    have p6 : 0 ≤ (0 : Int) := Z34
    have q6 : 0 < a0.size := (by have : (0 : Int) < (a0.size : Int) := of_decide_eq_true Z6; omega)
    have hx6 : ∀ h : 0 < a0.size, ((a0[0]'h).toNat : Int) = bt a0 0 := bt_at a0 0
    clear p6
    have qi6 : (0 < (a0.size : Int)) = True := eq_true (of_decide_eq_true Z6)
    replace q6 := eq_true q6
    go_wp2_with (first | ((with_reducible refine gate_dst (N := 65) rfl ?_); refine Pre.build_event 65 25 [(0, Go.Operand.const (Go.Value.int Go.IntKind.i64 6)), (24, Go.Operand.tmp 64)] rfl rfl rfl (roadbookref15_Get.bd65 _ _ _ _) ?_) | ((with_reducible refine gate_dst (N := 87) rfl ?_); refine Pre.build_event 87 25 [(0, Go.Operand.const (Go.Value.int Go.IntKind.i64 4)), (15, Go.Operand.tmp 69), (7, Go.Operand.tmp 72), (16, Go.Operand.tmp 75), (19, Go.Operand.tmp 77), (12, Go.Operand.tmp 80), (20, Go.Operand.tmp 82), (14, Go.Operand.tmp 85), (24, Go.Operand.tmp 86)] rfl rfl rfl (roadbookref15_Get.bd87 _ _ _ _ _ _ _ _ _ _ _) ?_))
    go_meet
    case rel => exact ⟨_, (((bt a0 0) == 4)), Z17, H', ⟨Z43⟩, ⟨Z2⟩, ⟨Z0⟩⟩
   ·rw [if_neg c5] at H
    exact absurd H Z59
  ·rw [if_neg c4] at H
   have dL : decide (0 < (a0.size : Int)) = false := decide_eq_false c4
   have gh : decide (0 < a0.size) = false := decide_eq_false Z34
   clear c4
   (first | rw [dL] | (simp only [i64_w, i32_w]; rw [dL]) | skip)
   have H' := Aside0.mk H
   clear H
   go_wp2_with (first | ((with_reducible refine gate_dst (N := 65) rfl ?_); refine Pre.build_event 65 25 [(0, Go.Operand.const (Go.Value.int Go.IntKind.i64 6)), (24, Go.Operand.tmp 64)] rfl rfl rfl (roadbookref15_Get.bd65 _ _ _ _) ?_) | ((with_reducible refine gate_dst (N := 87) rfl ?_); refine Pre.build_event 87 25 [(0, Go.Operand.const (Go.Value.int Go.IntKind.i64 4)), (15, Go.Operand.tmp 69), (7, Go.Operand.tmp 72), (16, Go.Operand.tmp 75), (19, Go.Operand.tmp 77), (12, Go.Operand.tmp 80), (20, Go.Operand.tmp 82), (14, Go.Operand.tmp 85), (24, Go.Operand.tmp 86)] rfl rfl rfl (roadbookref15_Get.bd87 _ _ _ _ _ _ _ _ _ _ _) ?_))
   go_meet
   case rel => exact ⟨_, (false), Z17, H', ⟨Z43⟩, ⟨Z2⟩, ⟨Z0⟩⟩
 case rest =>
  clear jO
  try clear c3
  obtain ⟨kq, lB, rfl, HA, mv, aa, HB⟩ := hcut
  cases kq with
  | zero => exact absurd HA.out (by simp [roadbookref15_Get.j0])
  | succ kj1 =>
   have H := HA.out
   clear HA
   simp only [roadbookref15_Get.j0] at H
   have th := Aside0.mk H
   clear H
   go_upto_if 16 with (first | ((with_reducible refine gate_dst (N := 65) rfl ?_); refine Pre.build_event 65 25 [(0, Go.Operand.const (Go.Value.int Go.IntKind.i64 6)), (24, Go.Operand.tmp 64)] rfl rfl rfl (roadbookref15_Get.bd65 _ _ _ _) ?_) | ((with_reducible refine gate_dst (N := 87) rfl ?_); refine Pre.build_event 87 25 [(0, Go.Operand.const (Go.Value.int Go.IntKind.i64 4)), (15, Go.Operand.tmp 69), (7, Go.Operand.tmp 72), (16, Go.Operand.tmp 75), (19, Go.Operand.tmp 77), (12, Go.Operand.tmp 80), (20, Go.Operand.tmp 82), (14, Go.Operand.tmp 85), (24, Go.Operand.tmp 86)] rfl rfl rfl (roadbookref15_Get.bd87 _ _ _ _ _ _ _ _ _ _ _) ?_))
   go_cut [5] (fun v5 wc => ∃ (kq : Nat) (dS : Int), v5 = .int .i64 dS ∧ Aside0 (roadbookref15_Get.j1 kq a0 dS = some (r1, r2, r3, r4, r5, r6, r7, r8, r9, r10, r11, r12, r13, r14, r15, r16, r17, r18, r19, r20, r21, r22, r23, r24, r25, r26, r27)) ∧ Aside0 (kq ≤ kj1) ∧ Aside0 (wc.heap[ab]? = some (.cells #[.int .i64 0, .int .i64 0, .int .i64 0, .string ⟨#[]⟩, .int .i64 0, .int .i64 0, .string ⟨#[]⟩, .int .i64 0, .int .i64 0, .string ⟨#[]⟩, .int .i64 0, .string ⟨#[]⟩, .int .i64 0, .int .i64 0, .int .i64 0, .int .i64 0, .int .i64 0, .int .i64 0, .int .i64 0, .string ⟨#[]⟩, .string ⟨#[]⟩, (.slice none 0 0), .int .i64 0, .string ⟨#[]⟩, (.slice none 0 0)] 25 (0, 0))) ∧ Aside0 (Below w.heap.size w wc))
   case first =>
    have H := th.out
    clear th
    by_cases c8 : lB = true
    ·subst c8
     have H1 : (roadbookref15_Get.j1 kj1 a0 2) = some (r1, r2, r3, r4, r5, r6, r7, r8, r9, r10, r11, r12, r13, r14, r15, r16, r17, r18, r19, r20, r21, r22, r23, r24, r25, r26, r27) := by rw [if_pos rfl] at H; exact H
     clear H
     have H := H1
     clear H1
     have H' := Aside0.mk H
     clear H
     go_wp2_with (first | ((with_reducible refine gate_dst (N := 65) rfl ?_); refine Pre.build_event 65 25 [(0, Go.Operand.const (Go.Value.int Go.IntKind.i64 6)), (24, Go.Operand.tmp 64)] rfl rfl rfl (roadbookref15_Get.bd65 _ _ _ _) ?_) | ((with_reducible refine gate_dst (N := 87) rfl ?_); refine Pre.build_event 87 25 [(0, Go.Operand.const (Go.Value.int Go.IntKind.i64 4)), (15, Go.Operand.tmp 69), (7, Go.Operand.tmp 72), (16, Go.Operand.tmp 75), (19, Go.Operand.tmp 77), (12, Go.Operand.tmp 80), (20, Go.Operand.tmp 82), (14, Go.Operand.tmp 85), (24, Go.Operand.tmp 86)] rfl rfl rfl (roadbookref15_Get.bd87 _ _ _ _ _ _ _ _ _ _ _) ?_))
     go_meet
     case rel => exact ⟨_, (2), Z17, H', ⟨by have := mv.out; first | omega | exact Nat.le_refl _⟩, ⟨Z2⟩, ⟨Z0⟩⟩
    ·replace c8 := Bool.eq_false_iff.mpr c8
     subst c8
     have H1 : (roadbookref15_Get.j1 kj1 a0 20) = some (r1, r2, r3, r4, r5, r6, r7, r8, r9, r10, r11, r12, r13, r14, r15, r16, r17, r18, r19, r20, r21, r22, r23, r24, r25, r26, r27) := by rw [if_neg (show ¬ (false = true) by decide)] at H; exact H
     clear H
     have H := H1
     clear H1
     have H' := Aside0.mk H
     clear H
     go_wp2_with (first | ((with_reducible refine gate_dst (N := 65) rfl ?_); refine Pre.build_event 65 25 [(0, Go.Operand.const (Go.Value.int Go.IntKind.i64 6)), (24, Go.Operand.tmp 64)] rfl rfl rfl (roadbookref15_Get.bd65 _ _ _ _) ?_) | ((with_reducible refine gate_dst (N := 87) rfl ?_); refine Pre.build_event 87 25 [(0, Go.Operand.const (Go.Value.int Go.IntKind.i64 4)), (15, Go.Operand.tmp 69), (7, Go.Operand.tmp 72), (16, Go.Operand.tmp 75), (19, Go.Operand.tmp 77), (12, Go.Operand.tmp 80), (20, Go.Operand.tmp 82), (14, Go.Operand.tmp 85), (24, Go.Operand.tmp 86)] rfl rfl rfl (roadbookref15_Get.bd87 _ _ _ _ _ _ _ _ _ _ _) ?_))
     go_meet
     case rel => exact ⟨_, (20), Z17, H', ⟨by have := mv.out; first | omega | exact Nat.le_refl _⟩, ⟨Z2⟩, ⟨Z0⟩⟩
   case rest =>
    clear th
    try clear p2
    try clear c3
    try clear c4
    try clear dL
    try clear gh
    try clear c5
    obtain ⟨kq, dS, rfl, HA, uH, aa, HB⟩ := hcut
    cases kq with
    | zero => exact absurd HA.out (by simp [roadbookref15_Get.j1])
    | succ kj6 =>
     have H := HA.out
     clear HA
     simp only [roadbookref15_Get.j1] at H
     by_cases c9 : (a0.size : Int) < dS
     ·rw [if_pos c9] at H
      have ij : decide ((a0.size : Int) < dS) = true := decide_eq_true c9
      clear c9
      simp only [Option.some.injEq, Prod.mk.injEq] at H
      obtain ⟨rfl, rfl, rfl, rfl, rfl, rfl, rfl, rfl, rfl, rfl, rfl, rfl, rfl, rfl, rfl, rfl, rfl, rfl, rfl, rfl, rfl, rfl, rfl, rfl, rfl, rfl, rfl⟩ := H
      have iX := cells_25 aa.out
      go_wp2_with (first | ((with_reducible refine gate_dst (N := 65) rfl ?_); refine Pre.build_event 65 25 [(0, Go.Operand.const (Go.Value.int Go.IntKind.i64 6)), (24, Go.Operand.tmp 64)] rfl rfl rfl (roadbookref15_Get.bd65 _ _ _ _) ?_) | ((with_reducible refine gate_dst (N := 87) rfl ?_); refine Pre.build_event 87 25 [(0, Go.Operand.const (Go.Value.int Go.IntKind.i64 4)), (15, Go.Operand.tmp 69), (7, Go.Operand.tmp 72), (16, Go.Operand.tmp 75), (19, Go.Operand.tmp 77), (12, Go.Operand.tmp 80), (20, Go.Operand.tmp 82), (14, Go.Operand.tmp 85), (24, Go.Operand.tmp 86)] rfl rfl rfl (roadbookref15_Get.bd87 _ _ _ _ _ _ _ _ _ _ _) ?_) | ((with_reducible refine Pre.gate_store 25 rfl ?_); refine Pre.store_abs (cur := #[.int .i64 0, .int .i64 0, .int .i64 0, .string ⟨#[]⟩, .int .i64 0, .int .i64 0, .string ⟨#[]⟩, .int .i64 0, .int .i64 0, .string ⟨#[]⟩, .int .i64 0, .string ⟨#[]⟩, .int .i64 0, .int .i64 0, .int .i64 0, .int .i64 0, .int .i64 0, .int .i64 0, .int .i64 0, .string ⟨#[]⟩, .string ⟨#[]⟩, .slice none 0 0, .int .i64 0, .string ⟨#[]⟩, .slice none 0 0]) (e := 25) rfl rfl rfl Z22 Z22 Z2 Z14 Z22 Z22 ?_; intro jQ hbS_ sS_; have bl : Aside0 (jQ.heap[ab]? = some (.cells #[.int .i64 0, .int .i64 0, .int .i64 0, .string ⟨#[]⟩, .int .i64 0, .int .i64 0, .string ⟨#[]⟩, .int .i64 0, .int .i64 0, .string ⟨#[]⟩, .int .i64 0, .string ⟨#[]⟩, .int .i64 0, .int .i64 0, .int .i64 0, .int .i64 0, .int .i64 0, .int .i64 0, .int .i64 0, .string ⟨#[]⟩, .string ⟨#[]⟩, .slice none 0 0, .int .i64 0, .string ⟨#[]⟩, .slice none 0 0] 25 (0, 0))) := ⟨hbS_⟩; have bm : Aside0 (Below w.heap.size w jQ) := ⟨sS_.below Z0 bf.out⟩; clear hbS_ sS_; replace aa := bl; replace HB := bm; clear bl bm))
      refine bodyPost_ret (results_ctt rfl _ _ ab 25 #[.int .i64 0, .int .i64 0, .int .i64 0, .string ⟨#[]⟩, .int .i64 0, .int .i64 0, .string ⟨#[]⟩, .int .i64 0, .int .i64 0, .string ⟨#[]⟩, .int .i64 0, .string ⟨#[]⟩, .int .i64 0, .int .i64 0, .int .i64 0, .int .i64 0, .int .i64 0, .int .i64 0, .int .i64 0, .string ⟨#[]⟩, .string ⟨#[]⟩, .slice none 0 0, .int .i64 0, .string ⟨#[]⟩, .slice none 0 0] (0, 0) _ rfl Z2 Try.underlying25 rfl Z14) rfl ?_
      exact ⟨_, _, Z5, Z7, Z20, Z0⟩
     ·rw [if_neg c9] at H
      have ij : decide ((a0.size : Int) < dS) = false := decide_eq_false c9
      clear c9
      have pw := Aside0.mk H
      clear H
      go_upto_region 6 with (first | ((with_reducible refine gate_dst (N := 65) rfl ?_); refine Pre.build_event 65 25 [(0, Go.Operand.const (Go.Value.int Go.IntKind.i64 6)), (24, Go.Operand.tmp 64)] rfl rfl rfl (roadbookref15_Get.bd65 _ _ _ _) ?_) | ((with_reducible refine gate_dst (N := 87) rfl ?_); refine Pre.build_event 87 25 [(0, Go.Operand.const (Go.Value.int Go.IntKind.i64 4)), (15, Go.Operand.tmp 69), (7, Go.Operand.tmp 72), (16, Go.Operand.tmp 75), (19, Go.Operand.tmp 77), (12, Go.Operand.tmp 80), (20, Go.Operand.tmp 82), (14, Go.Operand.tmp 85), (24, Go.Operand.tmp 86)] rfl rfl rfl (roadbookref15_Get.bd87 _ _ _ _ _ _ _ _ _ _ _) ?_))
      go_cut [45] (fun uI wc => ∃ (kq : Nat) (kk : Bool), uI = .bool kk ∧ Aside0 (roadbookref15_Get.j2 kq a0 dS kk = some (r1, r2, r3, r4, r5, r6, r7, r8, r9, r10, r11, r12, r13, r14, r15, r16, r17, r18, r19, r20, r21, r22, r23, r24, r25, r26, r27)) ∧ Aside0 (kq ≤ kj6) ∧ Aside0 (wc.heap[ab]? = some (.cells #[.int .i64 0, .int .i64 0, .int .i64 0, .string ⟨#[]⟩, .int .i64 0, .int .i64 0, .string ⟨#[]⟩, .int .i64 0, .int .i64 0, .string ⟨#[]⟩, .int .i64 0, .string ⟨#[]⟩, .int .i64 0, .int .i64 0, .int .i64 0, .int .i64 0, .int .i64 0, .int .i64 0, .int .i64 0, .string ⟨#[]⟩, .string ⟨#[]⟩, (.slice none 0 0), .int .i64 0, .string ⟨#[]⟩, (.slice none 0 0)] 25 (0, 0))) ∧ Aside0 (Below w.heap.size w wc))
      case first =>
       have H := pw.out
       clear pw
       by_cases ew : dS = 2
       ·rw [if_pos ew] at H
        have fd : (dS == 2) = true := beq_iff_eq.mpr ew
        have gT : (dS != 2) = false := bne_eq_false_iff_eq.mpr ew
        clear ew
        (first | rw [fd] | (simp only [i64_w, i32_w]; rw [fd]) | skip)
        by_cases gz : 1 < (a0.size : Int)
        ·rw [if_pos gz] at H
         have kz : decide (1 < (a0.size : Int)) = true := decide_eq_true gz
         have kA : decide (1 < a0.size) = true := decide_eq_true Z34
         clear gz
         by_cases fa : (bt a0 1) = 0
         ·rw [if_pos fa] at H
          have hH : ((bt a0 1) == 0) = true := beq_iff_eq.mpr fa
          have hI : ((bt a0 1) != 0) = false := bne_eq_false_iff_eq.mpr fa
          clear fa
          by_cases iL : dS = 20
          ·rw [if_pos iL] at H
           have kB : (dS == 20) = true := beq_iff_eq.mpr iL
           have mx : (dS != 20) = false := bne_eq_false_iff_eq.mpr iL
           clear iL
           by_cases gb : (Int.tmod (bt a0 1) 64) = 0
           ·rw [if_pos gb] at H
            have iG : ((Int.tmod (bt a0 1) 64) == 0) = true := beq_iff_eq.mpr gb
            have jA : ((Int.tmod (bt a0 1) 64) != 0) = false := bne_eq_false_iff_eq.mpr gb
            clear gb
            by_cases kt : 2 < (a0.size : Int)
            ·rw [if_pos kt] at H
             have mO : decide (2 < (a0.size : Int)) = true := decide_eq_true kt
             have rr : decide (2 < a0.size) = true := decide_eq_true Z34
             clear kt
             have H' := Aside0.mk H
             clear H
             have p15 : 0 ≤ (1 : Int) := Z34
             have q15 : 1 < a0.size := (by have : (1 : Int) < (a0.size : Int) := of_decide_eq_true Z6; omega)
             have hx15 : ∀ h : 1 < a0.size, ((a0[1]'h).toNat : Int) = bt a0 1 := bt_at a0 1
             clear p15
             have qi15 : (1 < (a0.size : Int)) = True := eq_true (of_decide_eq_true Z6)
             replace q15 := eq_true q15
             have p18 : 0 ≤ (1 : Int) := Z34
             have q18 : 1 < a0.size := (by have : (1 : Int) < (a0.size : Int) := of_decide_eq_true Z6; omega)
             have hx18 : ∀ h : 1 < a0.size, ((a0[1]'h).toNat : Int) = bt a0 1 := bt_at a0 1
             clear p18
             have qi18 : (1 < (a0.size : Int)) = True := eq_true (of_decide_eq_true Z6)
             replace q18 := eq_true q18
             have p21 : 0 ≤ (2 : Int) := Z34
             have q21 : 2 < a0.size := (by have : (2 : Int) < (a0.size : Int) := of_decide_eq_true Z6; omega)
             have hx21 : ∀ h : 2 < a0.size, ((a0[2]'h).toNat : Int) = bt a0 2 := bt_at a0 2
             clear p21
             have qi21 : (2 < (a0.size : Int)) = True := eq_true (of_decide_eq_true Z6)
             replace q21 := eq_true q21
             go_wp2_with (first | ((with_reducible refine gate_dst (N := 65) rfl ?_); refine Pre.build_event 65 25 [(0, Go.Operand.const (Go.Value.int Go.IntKind.i64 6)), (24, Go.Operand.tmp 64)] rfl rfl rfl (roadbookref15_Get.bd65 _ _ _ _) ?_) | ((with_reducible refine gate_dst (N := 87) rfl ?_); refine Pre.build_event 87 25 [(0, Go.Operand.const (Go.Value.int Go.IntKind.i64 4)), (15, Go.Operand.tmp 69), (7, Go.Operand.tmp 72), (16, Go.Operand.tmp 75), (19, Go.Operand.tmp 77), (12, Go.Operand.tmp 80), (20, Go.Operand.tmp 82), (14, Go.Operand.tmp 85), (24, Go.Operand.tmp 86)] rfl rfl rfl (roadbookref15_Get.bd87 _ _ _ _ _ _ _ _ _ _ _) ?_))
             go_meet
             case rel => exact ⟨_, (decide ((bt a0 2) ≥ 32)), Z17, H', ⟨Z71⟩, ⟨Z2⟩, ⟨Z0⟩⟩
            ·rw [if_neg kt] at H
             exact absurd H Z59
           ·rw [if_neg gb] at H
            have iG : ((Int.tmod (bt a0 1) 64) == 0) = false := beq_eq_false_iff_ne.mpr gb
            have jA : ((Int.tmod (bt a0 1) 64) != 0) = true := bne_iff_ne.mpr gb
            have H' := Aside0.mk H
            clear H
            have p15 : 0 ≤ (1 : Int) := Z34
            have q15 : 1 < a0.size := (by have : (1 : Int) < (a0.size : Int) := of_decide_eq_true Z6; omega)
            have hx15 : ∀ h : 1 < a0.size, ((a0[1]'h).toNat : Int) = bt a0 1 := bt_at a0 1
            clear p15
            have qi15 : (1 < (a0.size : Int)) = True := eq_true (of_decide_eq_true Z6)
            replace q15 := eq_true q15
            have p18 : 0 ≤ (1 : Int) := Z34
            have q18 : 1 < a0.size := (by have : (1 : Int) < (a0.size : Int) := of_decide_eq_true Z6; omega)
            have hx18 : ∀ h : 1 < a0.size, ((a0[1]'h).toNat : Int) = bt a0 1 := bt_at a0 1
            clear p18
            have qi18 : (1 < (a0.size : Int)) = True := eq_true (of_decide_eq_true Z6)
            replace q18 := eq_true q18
            go_wp2_with (first | ((with_reducible refine gate_dst (N := 65) rfl ?_); refine Pre.build_event 65 25 [(0, Go.Operand.const (Go.Value.int Go.IntKind.i64 6)), (24, Go.Operand.tmp 64)] rfl rfl rfl (roadbookref15_Get.bd65 _ _ _ _) ?_) | ((with_reducible refine gate_dst (N := 87) rfl ?_); refine Pre.build_event 87 25 [(0, Go.Operand.const (Go.Value.int Go.IntKind.i64 4)), (15, Go.Operand.tmp 69), (7, Go.Operand.tmp 72), (16, Go.Operand.tmp 75), (19, Go.Operand.tmp 77), (12, Go.Operand.tmp 80), (20, Go.Operand.tmp 82), (14, Go.Operand.tmp 85), (24, Go.Operand.tmp 86)] rfl rfl rfl (roadbookref15_Get.bd87 _ _ _ _ _ _ _ _ _ _ _) ?_))
            go_meet
            case rel => exact ⟨_, (true), Z17, H', ⟨Z71⟩, ⟨Z2⟩, ⟨Z0⟩⟩
          ·rw [if_neg iL] at H
           have kB : (dS == 20) = false := beq_eq_false_iff_ne.mpr iL
           have mx : (dS != 20) = true := bne_iff_ne.mpr iL
           have H' := Aside0.mk H
           clear H
           have p15 : 0 ≤ (1 : Int) := Z34
           have q15 : 1 < a0.size := (by have : (1 : Int) < (a0.size : Int) := of_decide_eq_true Z6; omega)
           have hx15 : ∀ h : 1 < a0.size, ((a0[1]'h).toNat : Int) = bt a0 1 := bt_at a0 1
           clear p15
           have qi15 : (1 < (a0.size : Int)) = True := eq_true (of_decide_eq_true Z6)
           replace q15 := eq_true q15
           go_wp2_with (first | ((with_reducible refine gate_dst (N := 65) rfl ?_); refine Pre.build_event 65 25 [(0, Go.Operand.const (Go.Value.int Go.IntKind.i64 6)), (24, Go.Operand.tmp 64)] rfl rfl rfl (roadbookref15_Get.bd65 _ _ _ _) ?_) | ((with_reducible refine gate_dst (N := 87) rfl ?_); refine Pre.build_event 87 25 [(0, Go.Operand.const (Go.Value.int Go.IntKind.i64 4)), (15, Go.Operand.tmp 69), (7, Go.Operand.tmp 72), (16, Go.Operand.tmp 75), (19, Go.Operand.tmp 77), (12, Go.Operand.tmp 80), (20, Go.Operand.tmp 82), (14, Go.Operand.tmp 85), (24, Go.Operand.tmp 86)] rfl rfl rfl (roadbookref15_Get.bd87 _ _ _ _ _ _ _ _ _ _ _) ?_))
           go_meet
           case rel => exact ⟨_, (false), Z17, H', ⟨Z71⟩, ⟨Z2⟩, ⟨Z0⟩⟩
         ·rw [if_neg fa] at H
          have hH : ((bt a0 1) == 0) = false := beq_eq_false_iff_ne.mpr fa
          have hI : ((bt a0 1) != 0) = true := bne_iff_ne.mpr fa
          have H' := Aside0.mk H
          clear H
          have p15 : 0 ≤ (1 : Int) := Z34
          have q15 : 1 < a0.size := (by have : (1 : Int) < (a0.size : Int) := of_decide_eq_true Z6; omega)
          have hx15 : ∀ h : 1 < a0.size, ((a0[1]'h).toNat : Int) = bt a0 1 := bt_at a0 1
          clear p15
          have qi15 : (1 < (a0.size : Int)) = True := eq_true (of_decide_eq_true Z6)
          replace q15 := eq_true q15
          go_wp2_with (first | ((with_reducible refine gate_dst (N := 65) rfl ?_); refine Pre.build_event 65 25 [(0, Go.Operand.const (Go.Value.int Go.IntKind.i64 6)), (24, Go.Operand.tmp 64)] rfl rfl rfl (roadbookref15_Get.bd65 _ _ _ _) ?_) | ((with_reducible refine gate_dst (N := 87) rfl ?_); refine Pre.build_event 87 25 [(0, Go.Operand.const (Go.Value.int Go.IntKind.i64 4)), (15, Go.Operand.tmp 69), (7, Go.Operand.tmp 72), (16, Go.Operand.tmp 75), (19, Go.Operand.tmp 77), (12, Go.Operand.tmp 80), (20, Go.Operand.tmp 82), (14, Go.Operand.tmp 85), (24, Go.Operand.tmp 86)] rfl rfl rfl (roadbookref15_Get.bd87 _ _ _ _ _ _ _ _ _ _ _) ?_))
          go_meet
          case rel => exact ⟨_, (true), Z17, H', ⟨Z71⟩, ⟨Z2⟩, ⟨Z0⟩⟩
        ·rw [if_neg gz] at H
         exact absurd H Z59
       ·rw [if_neg ew] at H
        have fd : (dS == 2) = false := beq_eq_false_iff_ne.mpr ew
        have gT : (dS != 2) = true := bne_iff_ne.mpr ew
        (first | rw [fd] | (simp only [i64_w, i32_w]; rw [fd]) | skip)
        by_cases iM : dS = 20
        ·rw [if_pos iM] at H
         have lx : (dS == 20) = true := beq_iff_eq.mpr iM
         have ly : (dS != 20) = false := bne_eq_false_iff_eq.mpr iM
         clear iM
         by_cases nz : 1 < (a0.size : Int)
         ·rw [if_pos nz] at H
          have rs : decide (1 < (a0.size : Int)) = true := decide_eq_true nz
          have rt : decide (1 < a0.size) = true := decide_eq_true Z34
          clear nz
          by_cases jz : (Int.tmod (bt a0 1) 64) = 0
          ·rw [if_pos jz] at H
           have ov : ((Int.tmod (bt a0 1) 64) == 0) = true := beq_iff_eq.mpr jz
           have ow : ((Int.tmod (bt a0 1) 64) != 0) = false := bne_eq_false_iff_eq.mpr jz
           clear jz
           by_cases jH : 2 < (a0.size : Int)
           ·rw [if_pos jH] at H
            have ru : decide (2 < (a0.size : Int)) = true := decide_eq_true jH
            have rv : decide (2 < a0.size) = true := decide_eq_true Z34
            clear jH
            have H' := Aside0.mk H
            clear H
            have p24 : 0 ≤ (1 : Int) := Z34
            have q24 : 1 < a0.size := (by have : (1 : Int) < (a0.size : Int) := of_decide_eq_true Z6; omega)
            have hx24 : ∀ h : 1 < a0.size, ((a0[1]'h).toNat : Int) = bt a0 1 := bt_at a0 1
            clear p24
            have qi24 : (1 < (a0.size : Int)) = True := eq_true (of_decide_eq_true Z6)
            replace q24 := eq_true q24
            have p27 : 0 ≤ (2 : Int) := Z34
            have q27 : 2 < a0.size := (by have : (2 : Int) < (a0.size : Int) := of_decide_eq_true Z6; omega)
            have hx27 : ∀ h : 2 < a0.size, ((a0[2]'h).toNat : Int) = bt a0 2 := bt_at a0 2
            clear p27
            have qi27 : (2 < (a0.size : Int)) = True := eq_true (of_decide_eq_true Z6)
            replace q27 := eq_true q27
            go_wp2_with (first | ((with_reducible refine gate_dst (N := 65) rfl ?_); refine Pre.build_event 65 25 [(0, Go.Operand.const (Go.Value.int Go.IntKind.i64 6)), (24, Go.Operand.tmp 64)] rfl rfl rfl (roadbookref15_Get.bd65 _ _ _ _) ?_) | ((with_reducible refine gate_dst (N := 87) rfl ?_); refine Pre.build_event 87 25 [(0, Go.Operand.const (Go.Value.int Go.IntKind.i64 4)), (15, Go.Operand.tmp 69), (7, Go.Operand.tmp 72), (16, Go.Operand.tmp 75), (19, Go.Operand.tmp 77), (12, Go.Operand.tmp 80), (20, Go.Operand.tmp 82), (14, Go.Operand.tmp 85), (24, Go.Operand.tmp 86)] rfl rfl rfl (roadbookref15_Get.bd87 _ _ _ _ _ _ _ _ _ _ _) ?_))
            go_meet
            case rel => exact ⟨_, (decide ((bt a0 2) ≥ 32)), Z17, H', ⟨Z71⟩, ⟨Z2⟩, ⟨Z0⟩⟩
           ·rw [if_neg jH] at H
            exact absurd H Z59
          ·rw [if_neg jz] at H
           have ov : ((Int.tmod (bt a0 1) 64) == 0) = false := beq_eq_false_iff_ne.mpr jz
           have ow : ((Int.tmod (bt a0 1) 64) != 0) = true := bne_iff_ne.mpr jz
           have H' := Aside0.mk H
           clear H
           have p24 : 0 ≤ (1 : Int) := Z34
           have q24 : 1 < a0.size := (by have : (1 : Int) < (a0.size : Int) := of_decide_eq_true Z6; omega)
           have hx24 : ∀ h : 1 < a0.size, ((a0[1]'h).toNat : Int) = bt a0 1 := bt_at a0 1
           clear p24
           have qi24 : (1 < (a0.size : Int)) = True := eq_true (of_decide_eq_true Z6)
           replace q24 := eq_true q24
           go_wp2_with (first | ((with_reducible refine gate_dst (N := 65) rfl ?_); refine Pre.build_event 65 25 [(0, Go.Operand.const (Go.Value.int Go.IntKind.i64 6)), (24, Go.Operand.tmp 64)] rfl rfl rfl (roadbookref15_Get.bd65 _ _ _ _) ?_) | ((with_reducible refine gate_dst (N := 87) rfl ?_); refine Pre.build_event 87 25 [(0, Go.Operand.const (Go.Value.int Go.IntKind.i64 4)), (15, Go.Operand.tmp 69), (7, Go.Operand.tmp 72), (16, Go.Operand.tmp 75), (19, Go.Operand.tmp 77), (12, Go.Operand.tmp 80), (20, Go.Operand.tmp 82), (14, Go.Operand.tmp 85), (24, Go.Operand.tmp 86)] rfl rfl rfl (roadbookref15_Get.bd87 _ _ _ _ _ _ _ _ _ _ _) ?_))
           go_meet
           case rel => exact ⟨_, (true), Z17, H', ⟨Z71⟩, ⟨Z2⟩, ⟨Z0⟩⟩
         ·rw [if_neg nz] at H
          exact absurd H Z59
        ·rw [if_neg iM] at H
         have lx : (dS == 20) = false := beq_eq_false_iff_ne.mpr iM
         have ly : (dS != 20) = true := bne_iff_ne.mpr iM
         have H' := Aside0.mk H
         clear H
         go_wp2_with (first | ((with_reducible refine gate_dst (N := 65) rfl ?_); refine Pre.build_event 65 25 [(0, Go.Operand.const (Go.Value.int Go.IntKind.i64 6)), (24, Go.Operand.tmp 64)] rfl rfl rfl (roadbookref15_Get.bd65 _ _ _ _) ?_) | ((with_reducible refine gate_dst (N := 87) rfl ?_); refine Pre.build_event 87 25 [(0, Go.Operand.const (Go.Value.int Go.IntKind.i64 4)), (15, Go.Operand.tmp 69), (7, Go.Operand.tmp 72), (16, Go.Operand.tmp 75), (19, Go.Operand.tmp 77), (12, Go.Operand.tmp 80), (20, Go.Operand.tmp 82), (14, Go.Operand.tmp 85), (24, Go.Operand.tmp 86)] rfl rfl rfl (roadbookref15_Get.bd87 _ _ _ _ _ _ _ _ _ _ _) ?_))
         go_meet
         case rel => exact ⟨_, (false), Z17, H', ⟨Z71⟩, ⟨Z2⟩, ⟨Z0⟩⟩
      case rest =>
       clear pw
       try clear p2
       try clear c3
       try clear c4
       try clear dL
       try clear gh
       try clear c5
       try clear fg
       try clear im
       try clear p6
       try clear q6
       try clear hx6
       try clear qi6
       try clear c8
       try clear c9
       try clear ij
       try clear iX
       try clear p2
       try clear p6
       try clear q6
       obtain ⟨kq, kk, rfl, HA, HJ11, aa, HB⟩ := hcut
       cases kq with
       | zero => exact absurd HA.out (by simp [roadbookref15_Get.j2])
       | succ kj11 =>
        have H := HA.out
        clear HA
        simp only [roadbookref15_Get.j2] at H
        by_cases mf : kk = true
        ·subst mf
         have H1 : (some (0, 0, 0, (⟨#[]⟩ : ByteArray), 0, 0, (⟨#[]⟩ : ByteArray), 0, 0, (⟨#[]⟩ : ByteArray), 0, (⟨#[]⟩ : ByteArray), 0, 0, 0, 0, 0, 0, 0, (⟨#[]⟩ : ByteArray), (⟨#[]⟩ : ByteArray), ([] : List (S46)), 0, (⟨#[]⟩ : ByteArray), ([] : List (S48)), 1, 5)) = some (r1, r2, r3, r4, r5, r6, r7, r8, r9, r10, r11, r12, r13, r14, r15, r16, r17, r18, r19, r20, r21, r22, r23, r24, r25, r26, r27) := by rw [if_pos rfl] at H; exact H
         clear H
         have H := H1
         clear H1
         simp only [Option.some.injEq, Prod.mk.injEq] at H
         obtain ⟨rfl, rfl, rfl, rfl, rfl, rfl, rfl, rfl, rfl, rfl, rfl, rfl, rfl, rfl, rfl, rfl, rfl, rfl, rfl, rfl, rfl, rfl, rfl, rfl, rfl, rfl, rfl⟩ := H
         have mP := cells_25 aa.out
         go_wp2_with (first | ((with_reducible refine gate_dst (N := 65) rfl ?_); refine Pre.build_event 65 25 [(0, Go.Operand.const (Go.Value.int Go.IntKind.i64 6)), (24, Go.Operand.tmp 64)] rfl rfl rfl (roadbookref15_Get.bd65 _ _ _ _) ?_) | ((with_reducible refine gate_dst (N := 87) rfl ?_); refine Pre.build_event 87 25 [(0, Go.Operand.const (Go.Value.int Go.IntKind.i64 4)), (15, Go.Operand.tmp 69), (7, Go.Operand.tmp 72), (16, Go.Operand.tmp 75), (19, Go.Operand.tmp 77), (12, Go.Operand.tmp 80), (20, Go.Operand.tmp 82), (14, Go.Operand.tmp 85), (24, Go.Operand.tmp 86)] rfl rfl rfl (roadbookref15_Get.bd87 _ _ _ _ _ _ _ _ _ _ _) ?_) | ((with_reducible refine Pre.gate_store 25 rfl ?_); refine Pre.store_abs (cur := #[.int .i64 0, .int .i64 0, .int .i64 0, .string ⟨#[]⟩, .int .i64 0, .int .i64 0, .string ⟨#[]⟩, .int .i64 0, .int .i64 0, .string ⟨#[]⟩, .int .i64 0, .string ⟨#[]⟩, .int .i64 0, .int .i64 0, .int .i64 0, .int .i64 0, .int .i64 0, .int .i64 0, .int .i64 0, .string ⟨#[]⟩, .string ⟨#[]⟩, .slice none 0 0, .int .i64 0, .string ⟨#[]⟩, .slice none 0 0]) (e := 25) rfl rfl rfl Z22 Z22 Z2 Z14 Z22 Z22 ?_; intro rx hbS_ sS_; have bl : Aside0 (rx.heap[ab]? = some (.cells #[.int .i64 0, .int .i64 0, .int .i64 0, .string ⟨#[]⟩, .int .i64 0, .int .i64 0, .string ⟨#[]⟩, .int .i64 0, .int .i64 0, .string ⟨#[]⟩, .int .i64 0, .string ⟨#[]⟩, .int .i64 0, .int .i64 0, .int .i64 0, .int .i64 0, .int .i64 0, .int .i64 0, .int .i64 0, .string ⟨#[]⟩, .string ⟨#[]⟩, .slice none 0 0, .int .i64 0, .string ⟨#[]⟩, .slice none 0 0] 25 (0, 0))) := ⟨hbS_⟩; have bm : Aside0 (Below w.heap.size w rx) := ⟨sS_.below Z0 bf.out⟩; clear hbS_ sS_; replace aa := bl; replace HB := bm; clear bl bm))
         refine bodyPost_ret (results_ctt rfl _ _ ab 25 #[.int .i64 0, .int .i64 0, .int .i64 0, .string ⟨#[]⟩, .int .i64 0, .int .i64 0, .string ⟨#[]⟩, .int .i64 0, .int .i64 0, .string ⟨#[]⟩, .int .i64 0, .string ⟨#[]⟩, .int .i64 0, .int .i64 0, .int .i64 0, .int .i64 0, .int .i64 0, .int .i64 0, .int .i64 0, .string ⟨#[]⟩, .string ⟨#[]⟩, .slice none 0 0, .int .i64 0, .string ⟨#[]⟩, .slice none 0 0] (0, 0) _ rfl Z2 Try.underlying25 rfl Z14) rfl ?_
         exact ⟨_, _, Z5, Z7, Z20, Z0⟩
        ·replace mf := Bool.eq_false_iff.mpr mf
         subst mf
         have H1 : (if 0 ≤ dS then (if dS ≤ (a0.size : Int) then ((roadbookref13_Get.f kj11 (a0.extract (dS : Int).toNat a0.size)).bind fun aE => (if aE.2.2 = 0 then (if dS = 2 then (some (6, 0, 0, (⟨#[]⟩ : ByteArray), 0, 0, (⟨#[]⟩ : ByteArray), 0, 0, (⟨#[]⟩ : ByteArray), 0, (⟨#[]⟩ : ByteArray), 0, 0, 0, 0, 0, 0, 0, (⟨#[]⟩ : ByteArray), (⟨#[]⟩ : ByteArray), ([] : List (S46)), 0, (⟨#[]⟩ : ByteArray), aE.1, 0, 0)) else (if 1 < (a0.size : Int) then (if 2 < (a0.size : Int) then (if 3 < (a0.size : Int) then (if 4 ≤ 8 then (if 8 ≤ (a0.size : Int) then (if 8 ≤ 12 then (if 12 ≤ (a0.size : Int) then ((roadbookref08_Number.f kj11 (a0.extract 8 12)).bind fun bp => (if 12 ≤ 16 then (if 16 ≤ (a0.size : Int) then (if 16 ≤ 20 then (if 20 ≤ (a0.size : Int) then ((roadbookref08_Number.f kj11 (a0.extract 16 20)).bind fun aQ => (some (4, 0, 0, (⟨#[]⟩ : ByteArray), 0, 0, (⟨#[]⟩ : ByteArray), wrap64 (bt a0 2), 0, (⟨#[]⟩ : ByteArray), 0, (⟨#[]⟩ : ByteArray), bp, 0, aQ, wrap64 (Int.tdiv (wrap64 (bt a0 1)) 64), wrap64 (bt a0 3), 0, 0, a0.extract 4 8, a0.extract 12 16, ([] : List (S46)), 0, (⟨#[]⟩ : ByteArray), aE.1, 0, 0))) else (none)) else (none)) else (none)) else (none))) else (none)) else (none)) else (none)) else (none)) else (none)) else (none)) else (none))) else (some (0, 0, 0, (⟨#[]⟩ : ByteArray), 0, 0, (⟨#[]⟩ : ByteArray), 0, 0, (⟨#[]⟩ : ByteArray), 0, (⟨#[]⟩ : ByteArray), 0, 0, 0, 0, 0, 0, 0, (⟨#[]⟩ : ByteArray), (⟨#[]⟩ : ByteArray), ([] : List (S46)), 0, (⟨#[]⟩ : ByteArray), ([] : List (S48)), wrap64 (dS + aE.2.1), aE.2.2)))) else (none)) else (none)) = some (r1, r2, r3, r4, r5, r6, r7, r8, r9, r10, r11, r12, r13, r14, r15, r16, r17, r18, r19, r20, r21, r22, r23, r24, r25, r26, r27) := by rw [if_neg (show ¬ (false = true) by decide)] at H; exact H
         clear H
         have H := H1
         clear H1
         by_cases iS : 0 ≤ dS
         ·rw [if_pos iS] at H
          have lC := eq_true iS
          have ry : decide (0 ≤ dS) = true := decide_eq_true iS
          clear iS
          by_cases ih : dS ≤ (a0.size : Int)
          ·rw [if_pos ih] at H
           have ln := eq_true ih
           have ol : decide (dS ≤ (a0.size : Int)) = true := decide_eq_true ih
           clear ih
           replace H := Option.bind_eq_some_iff.mp H
           obtain ⟨⟨aM, aX, aV⟩, kD, H⟩ := H
           replace H : (if aV = 0 then (if dS = 2 then (some (6, 0, 0, (⟨#[]⟩ : ByteArray), 0, 0, (⟨#[]⟩ : ByteArray), 0, 0, (⟨#[]⟩ : ByteArray), 0, (⟨#[]⟩ : ByteArray), 0, 0, 0, 0, 0, 0, 0, (⟨#[]⟩ : ByteArray), (⟨#[]⟩ : ByteArray), ([] : List (S46)), 0, (⟨#[]⟩ : ByteArray), aM, 0, 0)) else (if 1 < (a0.size : Int) then (if 2 < (a0.size : Int) then (if 3 < (a0.size : Int) then (if 4 ≤ 8 then (if 8 ≤ (a0.size : Int) then (if 8 ≤ 12 then (if 12 ≤ (a0.size : Int) then ((roadbookref08_Number.f kj11 (a0.extract 8 12)).bind fun bp => (if 12 ≤ 16 then (if 16 ≤ (a0.size : Int) then (if 16 ≤ 20 then (if 20 ≤ (a0.size : Int) then ((roadbookref08_Number.f kj11 (a0.extract 16 20)).bind fun aQ => (some (4, 0, 0, (⟨#[]⟩ : ByteArray), 0, 0, (⟨#[]⟩ : ByteArray), wrap64 (bt a0 2), 0, (⟨#[]⟩ : ByteArray), 0, (⟨#[]⟩ : ByteArray), bp, 0, aQ, wrap64 (Int.tdiv (wrap64 (bt a0 1)) 64), wrap64 (bt a0 3), 0, 0, a0.extract 4 8, a0.extract 12 16, ([] : List (S46)), 0, (⟨#[]⟩ : ByteArray), aM, 0, 0))) else (none)) else (none)) else (none)) else (none))) else (none)) else (none)) else (none)) else (none)) else (none)) else (none)) else (none))) else (some (0, 0, 0, (⟨#[]⟩ : ByteArray), 0, 0, (⟨#[]⟩ : ByteArray), 0, 0, (⟨#[]⟩ : ByteArray), 0, (⟨#[]⟩ : ByteArray), 0, 0, 0, 0, 0, 0, 0, (⟨#[]⟩ : ByteArray), (⟨#[]⟩ : ByteArray), ([] : List (S46)), 0, (⟨#[]⟩ : ByteArray), ([] : List (S48)), wrap64 (dS + aX), aV))) = some (r1, r2, r3, r4, r5, r6, r7, r8, r9, r10, r11, r12, r13, r14, r15, r16, r17, r18, r19, r20, r21, r22, r23, r24, r25, r26, r27) := H
           have oz := Aside0.mk kD
           clear kD
           by_cases gA : aV = 0
           ·rw [if_pos gA] at H
            have iD : (aV == 0) = true := beq_iff_eq.mpr gA
            have kx : (aV != 0) = false := bne_eq_false_iff_eq.mpr gA
            clear gA
            by_cases px : dS = 2
            ·rw [if_pos px] at H
             have rz : (dS == 2) = true := beq_iff_eq.mpr px
             have rA : (dS != 2) = false := bne_eq_false_iff_eq.mpr px
             clear px
             simp only [Option.some.injEq, Prod.mk.injEq] at H
             obtain ⟨rfl, rfl, rfl, rfl, rfl, rfl, rfl, rfl, rfl, rfl, rfl, rfl, rfl, rfl, rfl, rfl, rfl, rfl, rfl, rfl, rfl, rfl, rfl, rfl, rfl, rfl, rfl⟩ := H
             go_wp2_with (first | ((with_reducible refine gate_dst (N := 65) rfl ?_); refine Pre.build_event 65 25 [(0, Go.Operand.const (Go.Value.int Go.IntKind.i64 6)), (24, Go.Operand.tmp 64)] rfl rfl rfl (roadbookref15_Get.bd65 _ _ _ _) ?_) | ((with_reducible refine gate_dst (N := 87) rfl ?_); refine Pre.build_event 87 25 [(0, Go.Operand.const (Go.Value.int Go.IntKind.i64 4)), (15, Go.Operand.tmp 69), (7, Go.Operand.tmp 72), (16, Go.Operand.tmp 75), (19, Go.Operand.tmp 77), (12, Go.Operand.tmp 80), (20, Go.Operand.tmp 82), (14, Go.Operand.tmp 85), (24, Go.Operand.tmp 86)] rfl rfl rfl (roadbookref15_Get.bd87 _ _ _ _ _ _ _ _ _ _ _) ?_) | ((with_reducible refine gate_callee (f := 63) rfl ?_); refine goesL_ (some 51) rfl rfl Try.func63 Z14 rfl #[.string (a0.extract (dS : Int).toNat a0.size)] rfl Z4 ?_; (with_reducible refine (roadbookref13_Get.calls kj11 (a0.extract (dS : Int).toNat a0.size) aM aX aV _ oz.out).mono ?_); rintro e qc ⟨il, rfl, ho0, hb⟩; refine ⟨_, rfl, ?_⟩; have bw := Aside0.mk (Kd.R_lower ho0 (below_size Z0)); replace aa := Aside0.mk (blk_below (g := ab) Z2 hb); replace HB := Aside0.mk (below_step Z0 hb); clear hb ho0; obtain ⟨pz, pA, eo37⟩ := Kd.R_slice bw.out; subst eo37; have rB := cells_25 aa.out) | ((with_reducible refine Pre.gate_store 25 rfl ?_); refine Pre.store_abs (cur := #[.int .i64 0, .int .i64 0, .int .i64 0, .string ⟨#[]⟩, .int .i64 0, .int .i64 0, .string ⟨#[]⟩, .int .i64 0, .int .i64 0, .string ⟨#[]⟩, .int .i64 0, .string ⟨#[]⟩, .int .i64 0, .int .i64 0, .int .i64 0, .int .i64 0, .int .i64 0, .int .i64 0, .int .i64 0, .string ⟨#[]⟩, .string ⟨#[]⟩, .slice none 0 0, .int .i64 0, .string ⟨#[]⟩, .slice none 0 0]) (e := 25) rfl rfl rfl Z22 Z22 Z2 Z14 Z22 Z22 ?_; intro qd hbS_ sS_; have bl : Aside0 (Kd.R k48 48 qd w.heap.size (fun _ => True) (.slice pz aM.length pA) aM) := ⟨Kd.R_mono (Pre.R_sets sS_ (Kd.R_types bw.out aa.out Z27) (fun _ hk => hk.2)) (fun _ hk => trivial)⟩; have bm : Aside0 (qd.heap[ab]? = some (.cells #[.int .i64 6, .int .i64 0, .int .i64 0, .string ⟨#[]⟩, .int .i64 0, .int .i64 0, .string ⟨#[]⟩, .int .i64 0, .int .i64 0, .string ⟨#[]⟩, .int .i64 0, .string ⟨#[]⟩, .int .i64 0, .int .i64 0, .int .i64 0, .int .i64 0, .int .i64 0, .int .i64 0, .int .i64 0, .string ⟨#[]⟩, .string ⟨#[]⟩, .slice none 0 0, .int .i64 0, .string ⟨#[]⟩, .slice pz aM.length pA] 25 (0, 0))) := ⟨hbS_⟩; have bI : Aside0 (Below w.heap.size w qd) := ⟨sS_.below Z0 bf.out⟩; clear hbS_ sS_; replace bw := bl; replace aa := bm; replace HB := bI; clear bl bm bI))
             refine bodyPost_ret (results_ctt rfl _ _ ab 25 #[.int .i64 6, .int .i64 0, .int .i64 0, .string ⟨#[]⟩, .int .i64 0, .int .i64 0, .string ⟨#[]⟩, .int .i64 0, .int .i64 0, .string ⟨#[]⟩, .int .i64 0, .string ⟨#[]⟩, .int .i64 0, .int .i64 0, .int .i64 0, .int .i64 0, .int .i64 0, .int .i64 0, .int .i64 0, .string ⟨#[]⟩, .string ⟨#[]⟩, .slice none 0 0, .int .i64 0, .string ⟨#[]⟩, .slice pz aM.length pA] (0, 0) _ rfl Z2 Try.underlying25 rfl Z14) rfl ?_
             exact ⟨_, _, Z5, Z7, Z47, Z0⟩
            ·rw [if_neg px] at H
             have rz : (dS == 2) = false := beq_eq_false_iff_ne.mpr px
             have rA : (dS != 2) = true := bne_iff_ne.mpr px
             by_cases nD : 1 < (a0.size : Int)
             ·rw [if_pos nD] at H
              have c40b0 : decide (1 < (a0.size : Int)) = true := decide_eq_true nD
              have c40b1 : decide (1 < a0.size) = true := decide_eq_true Z34
              clear nD
              by_cases sH : 2 < (a0.size : Int)
              ·rw [if_pos sH] at H
               have c42b0 : decide (2 < (a0.size : Int)) = true := decide_eq_true sH
               have c42b1 : decide (2 < a0.size) = true := decide_eq_true Z34
               clear sH
               by_cases sI : 3 < (a0.size : Int)
               ·rw [if_pos sI] at H
                have c44b0 : decide (3 < (a0.size : Int)) = true := decide_eq_true sI
                have c44b1 : decide (3 < a0.size) = true := decide_eq_true Z34
                clear sI
                by_cases mc : 4 ≤ 8
                ·rw [if_pos mc] at H
                 have qt := eq_true mc
                 have qu : decide (4 ≤ 8) = true := decide_eq_true mc
                 clear mc
                 by_cases mn : 8 ≤ (a0.size : Int)
                 ·rw [if_pos mn] at H
                  have qv := eq_true mn
                  have qw : decide (8 ≤ (a0.size : Int)) = true := decide_eq_true mn
                  clear mn
                  by_cases rC : 8 ≤ 12
                  ·rw [if_pos rC] at H
                   have c48b0 := eq_true rC
                   have c48b1 : decide (8 ≤ 12) = true := decide_eq_true rC
                   clear rC
                   by_cases jN : 12 ≤ (a0.size : Int)
                   ·rw [if_pos jN] at H
                    have oo := eq_true jN
                    have oq : decide (12 ≤ (a0.size : Int)) = true := decide_eq_true jN
                    clear jN
                    replace H := Option.bind_eq_some_iff.mp H
                    obtain ⟨bp, rD, H⟩ := H
                    replace H : (if 12 ≤ 16 then (if 16 ≤ (a0.size : Int) then (if 16 ≤ 20 then (if 20 ≤ (a0.size : Int) then ((roadbookref08_Number.f kj11 (a0.extract 16 20)).bind fun aQ => (some (4, 0, 0, (⟨#[]⟩ : ByteArray), 0, 0, (⟨#[]⟩ : ByteArray), wrap64 (bt a0 2), 0, (⟨#[]⟩ : ByteArray), 0, (⟨#[]⟩ : ByteArray), bp, 0, aQ, wrap64 (Int.tdiv (wrap64 (bt a0 1)) 64), wrap64 (bt a0 3), 0, 0, a0.extract 4 8, a0.extract 12 16, ([] : List (S46)), 0, (⟨#[]⟩ : ByteArray), aM, 0, 0))) else (none)) else (none)) else (none)) else (none)) = some (r1, r2, r3, r4, r5, r6, r7, r8, r9, r10, r11, r12, r13, r14, r15, r16, r17, r18, r19, r20, r21, r22, r23, r24, r25, r26, r27) := H
                    have jt := Aside0.mk rD
                    clear rD
                    by_cases rE : 12 ≤ 16
                    ·rw [if_pos rE] at H
                     have c51b0 := eq_true rE
                     have c51b1 : decide (12 ≤ 16) = true := decide_eq_true rE
                     clear rE
                     by_cases rF : 16 ≤ (a0.size : Int)
                     ·rw [if_pos rF] at H
                      have c52b0 := eq_true rF
                      have c52b1 : decide (16 ≤ (a0.size : Int)) = true := decide_eq_true rF
                      clear rF
                      by_cases rG : 16 ≤ 20
                      ·rw [if_pos rG] at H
                       have c53b0 := eq_true rG
                       have c53b1 : decide (16 ≤ 20) = true := decide_eq_true rG
                       clear rG
                       by_cases rH : 20 ≤ (a0.size : Int)
                       ·rw [if_pos rH] at H
                        have c54b0 := eq_true rH
                        have c54b1 : decide (20 ≤ (a0.size : Int)) = true := decide_eq_true rH
                        clear rH
                        replace H := Option.bind_eq_some_iff.mp H
                        obtain ⟨aQ, rI, H⟩ := H
                        replace H : (some (4, 0, 0, (⟨#[]⟩ : ByteArray), 0, 0, (⟨#[]⟩ : ByteArray), wrap64 (bt a0 2), 0, (⟨#[]⟩ : ByteArray), 0, (⟨#[]⟩ : ByteArray), bp, 0, aQ, wrap64 (Int.tdiv (wrap64 (bt a0 1)) 64), wrap64 (bt a0 3), 0, 0, a0.extract 4 8, a0.extract 12 16, ([] : List (S46)), 0, (⟨#[]⟩ : ByteArray), aM, 0, 0)) = some (r1, r2, r3, r4, r5, r6, r7, r8, r9, r10, r11, r12, r13, r14, r15, r16, r17, r18, r19, r20, r21, r22, r23, r24, r25, r26, r27) := H
                        have uJ := Aside0.mk rI
                        clear rI
                        simp only [Option.some.injEq, Prod.mk.injEq] at H
                        obtain ⟨rfl, rfl, rfl, rfl, rfl, rfl, rfl, rfl, rfl, rfl, rfl, rfl, rfl, rfl, rfl, rfl, rfl, rfl, rfl, rfl, rfl, rfl, rfl, rfl, rfl, rfl, rfl⟩ := H
                        try go_wp2_with (first | ((with_reducible refine gate_dst (N := 65) rfl ?_); refine Pre.build_event 65 25 [(0, Go.Operand.const (Go.Value.int Go.IntKind.i64 6)), (24, Go.Operand.tmp 64)] rfl rfl rfl (roadbookref15_Get.bd65 _ _ _ _) ?_) | ((with_reducible refine gate_dst (N := 87) rfl ?_); refine Pre.build_event 87 25 [(0, Go.Operand.const (Go.Value.int Go.IntKind.i64 4)), (15, Go.Operand.tmp 69), (7, Go.Operand.tmp 72), (16, Go.Operand.tmp 75), (19, Go.Operand.tmp 77), (12, Go.Operand.tmp 80), (20, Go.Operand.tmp 82), (14, Go.Operand.tmp 85), (24, Go.Operand.tmp 86)] rfl rfl rfl (roadbookref15_Get.bd87 _ _ _ _ _ _ _ _ _ _ _) ?_) | ((with_reducible refine gate_callee (f := 63) rfl ?_); refine goesL_ (some 51) rfl rfl Try.func63 Z14 rfl #[.string (a0.extract (dS : Int).toNat a0.size)] rfl Z4 ?_; (with_reducible refine (roadbookref13_Get.calls kj11 (a0.extract (dS : Int).toNat a0.size) aM aX aV _ oz.out).mono ?_); rintro e ot ⟨il, rfl, ho0, hb⟩; refine ⟨_, rfl, ?_⟩; have bw := Aside0.mk (Kd.R_lower ho0 (below_size Z0)); replace aa := Aside0.mk (blk_below (g := ab) Z2 hb); replace HB := Aside0.mk (below_step Z0 hb); clear hb ho0))
                        have bl := Aside0.mk (Kd.R_drew bw.out)
                        have bm := Aside0.mk (blk_drew aa.out)
                        have bI := Aside0.mk (below_drew1 HB.out)
                        clear bw
                        clear aa
                        clear HB
                        have bw := bl
                        have aa := bm
                        have HB := bI
                        clear bl bm bI
                        have p41 : 0 ≤ (1 : Int) := Z34
                        have q41 : 1 < a0.size := (by have : (1 : Int) < (a0.size : Int) := of_decide_eq_true Z6; omega)
                        have hx41 : ∀ h : 1 < a0.size, ((a0[1]'h).toNat : Int) = bt a0 1 := bt_at a0 1
                        clear p41
                        have qi41 : (1 < (a0.size : Int)) = True := eq_true (of_decide_eq_true Z6)
                        replace q41 := eq_true q41
                        have p43 : 0 ≤ (2 : Int) := Z34
                        have q43 : 2 < a0.size := (by have : (2 : Int) < (a0.size : Int) := of_decide_eq_true Z6; omega)
                        have hx43 : ∀ h : 2 < a0.size, ((a0[2]'h).toNat : Int) = bt a0 2 := bt_at a0 2
                        clear p43
                        have qi43 : (2 < (a0.size : Int)) = True := eq_true (of_decide_eq_true Z6)
                        replace q43 := eq_true q43
                        have p45 : 0 ≤ (3 : Int) := Z34
                        have q45 : 3 < a0.size := (by have : (3 : Int) < (a0.size : Int) := of_decide_eq_true Z6; omega)
                        have hx45 : ∀ h : 3 < a0.size, ((a0[3]'h).toNat : Int) = bt a0 3 := bt_at a0 3
                        clear p45
                        have qi45 : (3 < (a0.size : Int)) = True := eq_true (of_decide_eq_true Z6)
                        replace q45 := eq_true q45
                        refine start_ (n := 25) (S := fun w' => True) (ds := []) (Sq.b 25 0) Z14 rfl rfl trivial (fun hHeld => ?_); refine with_tabW roadbookref15_Get.tab13 roadbookref15_Get.bits13 (fun HT_ HW_ => ?_)
                        generalize ot.drew = sV at bw aa HB hHeld ⊢
                        refine Sq.pur 0 (some 66) (Sq.b 25 1) HT_.out ?_
                        refine Sq.pur 4 (some 70) (Sq.b 25 17) HT_.out ?_
                        refine Sq.pur 7 (some 73) (Sq.b 25 145) HT_.out ?_
                        refine Sq.pur 10 (some 76) (Sq.b 25 1169) HT_.out ?_
                        refine Sq.pur 11 (some 77) (Sq.b 25 3217) HT_.out ?_
                        refine Sq.pur 12 (some 78) (Sq.b 25 7313) HT_.out ?_
                        refine Sq.pur 13 (some 79) (Sq.b 25 15505) HT_.out ?_
                        refine Sq.pur 15 (some 81) (Sq.b 25 48273) HT_.out ?_
                        refine Sq.pur 16 (some 82) (Sq.b 25 113809) HT_.out ?_
                        refine Sq.pur 17 (some 83) (Sq.b 25 244881) HT_.out ?_
                        refine Sq.pur 18 (some 84) (Sq.b 25 507025) HT_.out ?_
                        refine Sq.pur 20 (some 86) (Sq.b 25 1555601) HT_.out ?_
                        refine Sq.tak 1 (some 67) (Sq.b 25 1555603) HT_.out HW_.out hHeld (v := ?_) (a' := ?_) ?_ ?_ ?_
                        rotate_left
                        ·intro w' _
                         go_simp
                         with_reducible rfl
                        rotate_left
                        ·simp only [Act.put, Sq.s1, Sq.s2, Sq.s3, i64_w, i32_w]
                         rfl
                        refine Sq.pur 2 (some 68) (Sq.b 25 1555607) HT_.out ?_
                        refine Sq.pur 3 (some 69) (Sq.b 25 1555615) HT_.out ?_
                        refine Sq.tak 5 (some 71) (Sq.b 25 1555647) HT_.out HW_.out hHeld (v := ?_) (a' := ?_) ?_ ?_ ?_
                        rotate_left
                        ·intro w' _
                         go_simp
                         with_reducible rfl
                        rotate_left
                        ·simp only [Act.put, Sq.s1, Sq.s2, Sq.s3, i64_w, i32_w]
                         rfl
                        refine Sq.pur 6 (some 72) (Sq.b 25 1555711) HT_.out ?_
                        refine Sq.tak 8 (some 74) (Sq.b 25 1555967) HT_.out HW_.out hHeld (v := ?_) (a' := ?_) ?_ ?_ ?_
                        rotate_left
                        ·intro w' _
                         go_simp
                         with_reducible rfl
                        rotate_left
                        ·simp only [Act.put, Sq.s1, Sq.s2, Sq.s3, i64_w, i32_w]
                         rfl
                        refine Sq.pur 9 (some 75) (Sq.b 25 1556479) HT_.out ?_
                        refine one_ (i := 14) (N := some 80) (Sq.b 25 1572863) rfl rfl (one_of HT_.out Z14) Z27 (fun K hK => ?_)
                        refine goes_ Try.func64 Z14 rfl #[.string (a0.extract 8 12)] Z22 rfl rfl Z4 ?_
                        with_reducible refine (roadbookref08_Number.calls kj11 (a0.extract 8 12) bp _ jt.out).mono ?_
                        rintro e w' ⟨rfl, ⟨nd, rfl⟩⟩
                        refine ⟨_, rfl, ?_⟩
                        refine hK.out _ _ trivial (fun hHeld => ?_)
                        clear hK K
                        refine norm_ (a' := ?_) ?_ ?_
                        rotate_left
                        ·show Act.put _ (some 80) _ = _
                         simp only [Act.put, Sq.s1, Sq.s2, Sq.s3, i64_w, i32_w]
                         rfl
                        refine one_ (i := 19) (N := some 85) (Sq.b 25 2097151) rfl rfl (one_of HT_.out Z14) Z27 (fun K hK => ?_)
                        refine goes_ Try.func64 Z14 rfl #[.string (a0.extract 16 20)] Z22 rfl rfl Z4 ?_
                        with_reducible refine (roadbookref08_Number.calls kj11 (a0.extract 16 20) aQ _ uJ.out).mono ?_
                        rintro e w' ⟨rfl, ⟨nd, rfl⟩⟩
                        refine ⟨_, rfl, ?_⟩
                        obtain ⟨nM, nN, eo58⟩ := Kd.R_slice bw.out
                        (first | subst eo58 | (injection eo58 with f1_ f2_ f3_; have f4_ := f1_.symm; have f5_ := f3_.symm; clear f1_ f2_ f3_; subst f4_; subst f5_))
                        refine hK.out _ _ trivial (fun hHeld => ?_)
                        clear hK K
                        refine norm_ (a' := ?_) ?_ ?_
                        rotate_left
                        ·show Act.put _ (some 85) _ = _
                         simp only [Act.put, Sq.s1, Sq.s2, Sq.s3, i64_w, i32_w]
                         rfl
                        refine pure_ (i := 21) (N := some 87) (v := ?_) (a' := ?_) (Sq.b 25 4194303) rfl rfl (any_of HT_.out Z14) (fun _ _ _ h => h) (Or.inl ⟨Z22, ?_⟩) ?_ ?_
                        rotate_left
                        ·intro w'
                         refine Eq.trans (Pre.build_run 25 [(0, Go.Operand.const (Go.Value.int Go.IntKind.i64 4)), (15, Go.Operand.tmp 69), (7, Go.Operand.tmp 72), (16, Go.Operand.tmp 75), (19, Go.Operand.tmp 77), (12, Go.Operand.tmp 80), (20, Go.Operand.tmp 82), (14, Go.Operand.tmp 85), (24, Go.Operand.tmp 86)] rfl (roadbookref15_Get.bd87 _ _ _ _ _ _ _ _ _ _ _)) ?_
                         with_reducible rfl
                        rotate_left
                        ·simp only [Act.put, Sq.s1, Sq.s2, Sq.s3, i64_w, i32_w]
                         rfl
                        refine one_ (i := 22) (N := none) (Sq.b 25 8388607) rfl rfl (one_of HT_.out Z14) Z27 (fun K hK => ?_)
                        refine skip_ (w1 := ?_) Z22 rfl ?_ ?_
                        rotate_left
                        ·refine Eq.trans (Pre.store_run rfl Z22 Z22 aa.out Z14 Z22 Z22) ?_
                         rfl
                        refine hK.out _ _ trivial (fun hHeld => ?_)
                        clear hK K
                        refine Sq.pur 23 (some 3) (Sq.b 25 16777215) HT_.out ?_
                        refine Sq.pur 24 (some 4) (Sq.b 25 33554431) HT_.out ?_
                        refine done_ (done_of HT_.out Z14) ?_
                        refine Pre.abs_end (g := ab) (t := 25) (cs := #[.int .i64 0, .int .i64 0, .int .i64 0, .string ⟨#[]⟩, .int .i64 0, .int .i64 0, .string ⟨#[]⟩, .int .i64 0, .int .i64 0, .string ⟨#[]⟩, .int .i64 0, .string ⟨#[]⟩, .int .i64 0, .int .i64 0, .int .i64 0, .int .i64 0, .int .i64 0, .int .i64 0, .int .i64 0, .string ⟨#[]⟩, .string ⟨#[]⟩, .slice none 0 0, .int .i64 0, .string ⟨#[]⟩, .slice none 0 0]) (cells := #[.int .i64 4, .int .i64 0, .int .i64 0, .string ⟨#[]⟩, .int .i64 0, .int .i64 0, .string ⟨#[]⟩, .int .i64 (wrap64 (bt a0 2)), .int .i64 0, .string ⟨#[]⟩, .int .i64 0, .string ⟨#[]⟩, .int .i64 bp, .int .i64 0, .int .i64 aQ, .int .i64 (wrap64 (Int.tdiv (wrap64 (bt a0 1)) 64)), .int .i64 (wrap64 (bt a0 3)), .int .i64 0, .int .i64 0, .string (a0.extract 4 8), .string (a0.extract 12 16), .slice none 0 0, .int .i64 0, .string ⟨#[]⟩, .slice nM aM.length nN]) Z2 Z22 ?_
                        intro qg hbS_ sS_
                        replace hbS_ := Aside0.mk hbS_
                        replace sS_ : Aside0 (Pre.Sets ab sV qg) := ⟨⟨sS_.os, sS_.tape, sS_.output, sS_.size, sS_.block⟩⟩
                        have bl : Aside0 (Kd.R k48 48 qg w.heap.size (fun _ => True) (.slice nM aM.length nN) aM) := ⟨Kd.R_mono (Pre.R_sets sS_.out (Kd.R_types bw.out aa.out Z27) (fun _ hk => hk.2)) (fun _ hk => trivial)⟩
                        have bm : Aside0 (qg.heap[ab]? = some (.cells #[.int .i64 4, .int .i64 0, .int .i64 0, .string ⟨#[]⟩, .int .i64 0, .int .i64 0, .string ⟨#[]⟩, .int .i64 (wrap64 (bt a0 2)), .int .i64 0, .string ⟨#[]⟩, .int .i64 0, .string ⟨#[]⟩, .int .i64 bp, .int .i64 0, .int .i64 aQ, .int .i64 (wrap64 (Int.tdiv (wrap64 (bt a0 1)) 64)), .int .i64 (wrap64 (bt a0 3)), .int .i64 0, .int .i64 0, .string (a0.extract 4 8), .string (a0.extract 12 16), .slice none 0 0, .int .i64 0, .string ⟨#[]⟩, .slice nM aM.length nN] 25 (0, 0))) := ⟨hbS_.out⟩
                        have bI : Aside0 (Below w.heap.size w qg) := ⟨sS_.out.below Z0 bf.out⟩
                        clear hbS_ sS_
                        (try clear bw)
                        (try clear aa)
                        (try clear HB)
                        have bw := bl
                        have aa := bm
                        have HB := bI
                        clear bl bm bI
                        try go_wp2_with (first | ((with_reducible refine gate_dst (N := 65) rfl ?_); refine Pre.build_event 65 25 [(0, Go.Operand.const (Go.Value.int Go.IntKind.i64 6)), (24, Go.Operand.tmp 64)] rfl rfl rfl (roadbookref15_Get.bd65 _ _ _ _) ?_) | ((with_reducible refine gate_dst (N := 87) rfl ?_); refine Pre.build_event 87 25 [(0, Go.Operand.const (Go.Value.int Go.IntKind.i64 4)), (15, Go.Operand.tmp 69), (7, Go.Operand.tmp 72), (16, Go.Operand.tmp 75), (19, Go.Operand.tmp 77), (12, Go.Operand.tmp 80), (20, Go.Operand.tmp 82), (14, Go.Operand.tmp 85), (24, Go.Operand.tmp 86)] rfl rfl rfl (roadbookref15_Get.bd87 _ _ _ _ _ _ _ _ _ _ _) ?_))
                        refine bodyPost_ret (results_ctt rfl _ _ ab 25 #[.int .i64 4, .int .i64 0, .int .i64 0, .string ⟨#[]⟩, .int .i64 0, .int .i64 0, .string ⟨#[]⟩, .int .i64 (wrap64 (bt a0 2)), .int .i64 0, .string ⟨#[]⟩, .int .i64 0, .string ⟨#[]⟩, .int .i64 bp, .int .i64 0, .int .i64 aQ, .int .i64 (wrap64 (Int.tdiv (wrap64 (bt a0 1)) 64)), .int .i64 (wrap64 (bt a0 3)), .int .i64 0, .int .i64 0, .string (a0.extract 4 8), .string (a0.extract 12 16), .slice none 0 0, .int .i64 0, .string ⟨#[]⟩, .slice nM aM.length nN] (0, 0) _ rfl Z2 Try.underlying25 rfl Z14) rfl ?_
                        exact ⟨_, _, Z5, Z7, Z47, Z0⟩
                       ·rw [if_neg rH] at H
                        exact absurd H Z59
                      ·rw [if_neg rG] at H
                       exact absurd H Z59
                     ·rw [if_neg rF] at H
                      exact absurd H Z59
                    ·rw [if_neg rE] at H
                     exact absurd H Z59
                   ·rw [if_neg jN] at H
                    exact absurd H Z59
                  ·rw [if_neg rC] at H
                   exact absurd H Z59
                 ·rw [if_neg mn] at H
                  exact absurd H Z59
                ·rw [if_neg mc] at H
                 exact absurd H Z59
               ·rw [if_neg sI] at H
                exact absurd H Z59
              ·rw [if_neg sH] at H
               exact absurd H Z59
             ·rw [if_neg nD] at H
              exact absurd H Z59
           ·rw [if_neg gA] at H
            have iD : (aV == 0) = false := beq_eq_false_iff_ne.mpr gA
            have kx : (aV != 0) = true := bne_iff_ne.mpr gA
            simp only [Option.some.injEq, Prod.mk.injEq] at H
            obtain ⟨rfl, rfl, rfl, rfl, rfl, rfl, rfl, rfl, rfl, rfl, rfl, rfl, rfl, rfl, rfl, rfl, rfl, rfl, rfl, rfl, rfl, rfl, rfl, rfl, rfl, rfl, rfl⟩ := H
            go_wp2_with (first | ((with_reducible refine gate_dst (N := 65) rfl ?_); refine Pre.build_event 65 25 [(0, Go.Operand.const (Go.Value.int Go.IntKind.i64 6)), (24, Go.Operand.tmp 64)] rfl rfl rfl (roadbookref15_Get.bd65 _ _ _ _) ?_) | ((with_reducible refine gate_dst (N := 87) rfl ?_); refine Pre.build_event 87 25 [(0, Go.Operand.const (Go.Value.int Go.IntKind.i64 4)), (15, Go.Operand.tmp 69), (7, Go.Operand.tmp 72), (16, Go.Operand.tmp 75), (19, Go.Operand.tmp 77), (12, Go.Operand.tmp 80), (20, Go.Operand.tmp 82), (14, Go.Operand.tmp 85), (24, Go.Operand.tmp 86)] rfl rfl rfl (roadbookref15_Get.bd87 _ _ _ _ _ _ _ _ _ _ _) ?_) | ((with_reducible refine gate_callee (f := 63) rfl ?_); refine goesL_ (some 51) rfl rfl Try.func63 Z14 rfl #[.string (a0.extract (dS : Int).toNat a0.size)] rfl Z4 ?_; (with_reducible refine (roadbookref13_Get.calls kj11 (a0.extract (dS : Int).toNat a0.size) aM aX aV _ oz.out).mono ?_); rintro e pm ⟨il, rfl, ho0, hb⟩; refine ⟨_, rfl, ?_⟩; have bw := Aside0.mk (Kd.R_lower ho0 (below_size Z0)); replace aa := Aside0.mk (blk_below (g := ab) Z2 hb); replace HB := Aside0.mk (below_step Z0 hb); clear hb ho0; have rm := cells_25 aa.out) | ((with_reducible refine Pre.gate_store 25 rfl ?_); refine Pre.store_abs (cur := #[.int .i64 0, .int .i64 0, .int .i64 0, .string ⟨#[]⟩, .int .i64 0, .int .i64 0, .string ⟨#[]⟩, .int .i64 0, .int .i64 0, .string ⟨#[]⟩, .int .i64 0, .string ⟨#[]⟩, .int .i64 0, .int .i64 0, .int .i64 0, .int .i64 0, .int .i64 0, .int .i64 0, .int .i64 0, .string ⟨#[]⟩, .string ⟨#[]⟩, .slice none 0 0, .int .i64 0, .string ⟨#[]⟩, .slice none 0 0]) (e := 25) rfl rfl rfl Z22 Z22 Z2 Z14 Z22 Z22 ?_; intro pn hbS_ sS_; have bl : Aside0 (Kd.R k48 48 pn w.heap.size (fun _ => True) il aM) := ⟨Kd.R_mono (Pre.R_sets sS_ (Kd.R_types bw.out aa.out Z27) (fun _ hk => hk.2)) (fun _ hk => trivial)⟩; have bm : Aside0 (pn.heap[ab]? = some (.cells #[.int .i64 0, .int .i64 0, .int .i64 0, .string ⟨#[]⟩, .int .i64 0, .int .i64 0, .string ⟨#[]⟩, .int .i64 0, .int .i64 0, .string ⟨#[]⟩, .int .i64 0, .string ⟨#[]⟩, .int .i64 0, .int .i64 0, .int .i64 0, .int .i64 0, .int .i64 0, .int .i64 0, .int .i64 0, .string ⟨#[]⟩, .string ⟨#[]⟩, .slice none 0 0, .int .i64 0, .string ⟨#[]⟩, .slice none 0 0] 25 (0, 0))) := ⟨hbS_⟩; have bI : Aside0 (Below w.heap.size w pn) := ⟨sS_.below Z0 bf.out⟩; clear hbS_ sS_; replace bw := bl; replace aa := bm; replace HB := bI; clear bl bm bI))
            refine bodyPost_ret (results_ctt rfl _ _ ab 25 #[.int .i64 0, .int .i64 0, .int .i64 0, .string ⟨#[]⟩, .int .i64 0, .int .i64 0, .string ⟨#[]⟩, .int .i64 0, .int .i64 0, .string ⟨#[]⟩, .int .i64 0, .string ⟨#[]⟩, .int .i64 0, .int .i64 0, .int .i64 0, .int .i64 0, .int .i64 0, .int .i64 0, .int .i64 0, .string ⟨#[]⟩, .string ⟨#[]⟩, .slice none 0 0, .int .i64 0, .string ⟨#[]⟩, .slice none 0 0] (0, 0) _ rfl Z2 Try.underlying25 rfl Z14) rfl ?_
            exact ⟨_, _, Z5, Z7, Z20, Z0⟩
          ·rw [if_neg ih] at H
           exact absurd H Z59
         ·rw [if_neg iS] at H
          exact absurd H Z59

end Go.Proofs.Ytccjakjjaemmkaa.PAP
