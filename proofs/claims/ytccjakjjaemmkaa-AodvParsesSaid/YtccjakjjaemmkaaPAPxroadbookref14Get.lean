-- Written by mp.py, a program of this work (wip/tools), out of the translation; Lean checks it.
import Derived.Test.YtccjakjjaemmkaaPAPxZ
import Derived.Test.YtccjakjjaemmkaaPAPxroadbookref13
import Derived.Test.YtccjakjjaemmkaaAbs
namespace Go.Proofs.Ytccjakjjaemmkaa.PAP
open Go.RowKit Go.Proofs.YtccjakjjaemmkaaW.PrintWords Go.Proofs.YtccjakjjaemmkaaW.PrintLast Go.Proofs.YtccjakjjaemmkaaW.PrintMore
attribute [local go_sem] max2_int min2_int max_two min_two max_three min_three max_four min_four   -- for this text's walks alone
set_option linter.unusedVariables false
set_option linter.unusedSimpArgs false

/-! ### roadbookref14_Get: function 23 -/
def roadbookref14_Get.j0 : Nat → ByteArray → Bool → Option (Int × Int × Int × ByteArray × Int × Int × ByteArray × Int × Int × ByteArray × Int × ByteArray × Int × Int × Int × Int × Int × Int × Int × ByteArray × ByteArray × (List (S46)) × Int × ByteArray × (List (S48)) × Int × Int)
 | 0, _, _ => none
 | k + 1, x0, uS => if uS = true then (some (0, 0, 0, (⟨#[]⟩ : ByteArray), 0, 0, (⟨#[]⟩ : ByteArray), 0, 0, (⟨#[]⟩ : ByteArray), 0, (⟨#[]⟩ : ByteArray), 0, 0, 0, 0, 0, 0, 0, (⟨#[]⟩ : ByteArray), (⟨#[]⟩ : ByteArray), ([] : List (S46)), 0, (⟨#[]⟩ : ByteArray), ([] : List (S48)), 1, 5)) else (if 24 ≤ (x0.size : Int) then ((roadbookref13_Get.f k (x0.extract 24 x0.size)).bind fun aE => (if aE.2.2 = 0 then (if 1 < (x0.size : Int) then (if 3 < (x0.size : Int) then (if 4 ≤ 8 then (if 8 ≤ (x0.size : Int) then ((roadbookref08_Number.f k (x0.extract 4 8)).bind fun bp => (if 8 ≤ 12 then (if 12 ≤ (x0.size : Int) then (if 12 ≤ 16 then (if 16 ≤ (x0.size : Int) then ((roadbookref08_Number.f k (x0.extract 12 16)).bind fun aQ => (if 16 ≤ 20 then (if 20 ≤ (x0.size : Int) then (if 20 ≤ 24 then ((roadbookref08_Number.f k (x0.extract 20 24)).bind fun ba => (some (3, 0, 0, (⟨#[]⟩ : ByteArray), 0, 0, (⟨#[]⟩ : ByteArray), 0, 0, (⟨#[]⟩ : ByteArray), 0, (⟨#[]⟩ : ByteArray), aQ, ba, 0, wrap64 (Int.tdiv (wrap64 (bt x0 1)) 8), wrap64 (bt x0 3), bp, 0, x0.extract 8 12, x0.extract 16 20, ([] : List (S46)), 0, (⟨#[]⟩ : ByteArray), aE.1, 0, 0))) else (none)) else (none)) else (none))) else (none)) else (none)) else (none)) else (none))) else (none)) else (none)) else (none)) else (none)) else (some (0, 0, 0, (⟨#[]⟩ : ByteArray), 0, 0, (⟨#[]⟩ : ByteArray), 0, 0, (⟨#[]⟩ : ByteArray), 0, (⟨#[]⟩ : ByteArray), 0, 0, 0, 0, 0, 0, 0, (⟨#[]⟩ : ByteArray), (⟨#[]⟩ : ByteArray), ([] : List (S46)), 0, (⟨#[]⟩ : ByteArray), ([] : List (S48)), wrap64 (24 + aE.2.1), aE.2.2)))) else (none))
def roadbookref14_Get.f (k : Nat) (a0 : ByteArray) : Option (Int × Int × Int × ByteArray × Int × Int × ByteArray × Int × Int × ByteArray × Int × ByteArray × Int × Int × Int × Int × Int × Int × Int × ByteArray × ByteArray × (List (S46)) × Int × ByteArray × (List (S48)) × Int × Int) := if (a0.size : Int) < 24 then (some (0, 0, 0, (⟨#[]⟩ : ByteArray), 0, 0, (⟨#[]⟩ : ByteArray), 0, 0, (⟨#[]⟩ : ByteArray), 0, (⟨#[]⟩ : ByteArray), 0, 0, 0, 0, 0, 0, 0, (⟨#[]⟩ : ByteArray), (⟨#[]⟩ : ByteArray), ([] : List (S46)), 0, (⟨#[]⟩ : ByteArray), ([] : List (S48)), (a0.size : Int), 2)) else (if 1 < (a0.size : Int) then (if (Int.tmod (bt a0 1) 8) = 0 then (if 2 < (a0.size : Int) then (roadbookref14_Get.j0 k a0 ((bt a0 2) != 0)) else (none)) else (roadbookref14_Get.j0 k a0 true)) else (none))
theorem roadbookref14_Get.mono_l : ∀ k, (∀ y0 y1, LeO (roadbookref14_Get.j0 k y0 y1) (roadbookref14_Get.j0 (k + 1) y0 y1))
 | 0 => fun _ _ r h => by simp [roadbookref14_Get.j0] at h
 | k + 1 => by
  have ih0 := roadbookref14_Get.mono_l k
  ·intro y0 y1
   unfold roadbookref14_Get.j0
   repeat' first
   | (with_reducible exact ih0 _ _)
   | (with_reducible exact roadbookref08_Number.mono _ _)
   | (with_reducible exact roadbookref13_Get.mono _ _)
   | (with_reducible exact LeO.refl _)
   | (with_reducible exact LeO.none _)
   | (with_reducible refine LeO.ite ?_ ?_)
   | (with_reducible refine LeO.bind ?_ (fun _ => ?_))
   | exact ih0 _ _
   | exact roadbookref08_Number.mono _ _
   | exact roadbookref13_Get.mono _ _
   | exact LeO.none _
   | refine LeO.ite ?_ ?_
   | refine LeO.bind ?_ (fun _ => ?_)
theorem roadbookref14_Get.mono : ∀ a0 k, LeO (roadbookref14_Get.f k a0) (roadbookref14_Get.f (k + 1) a0) := by
 intro a0 k
 have ih0 := roadbookref14_Get.mono_l k
 unfold roadbookref14_Get.f
 repeat' first
   | (with_reducible exact ih0 _ _)
   | (with_reducible exact roadbookref08_Number.mono _ _)
   | (with_reducible exact roadbookref13_Get.mono _ _)
   | (with_reducible exact LeO.refl _)
   | (with_reducible exact LeO.none _)
   | (with_reducible refine LeO.ite ?_ ?_)
   | (with_reducible refine LeO.bind ?_ (fun _ => ?_))
   | exact ih0 _ _
   | exact roadbookref08_Number.mono _ _
   | exact roadbookref13_Get.mono _ _
   | exact LeO.none _
   | refine LeO.ite ?_ ?_
   | refine LeO.bind ?_ (fun _ => ?_)
def roadbookref14_Get.T8 : Bool × List (List Nat × List Nat) := (true, [([], []), ([0], [0]), ([1], [1]), ([2], [2]), ([], []), ([4], [4]), ([5], [5]), ([], []), ([7], [7]), ([8], [8]), ([], []), ([10], [10]), ([], []), ([12], [12]), ([13, 9], [13]), ([], []), ([15], [15]), ([], []), ([17], [17]), ([18, 14], [18]), ([], []), ([3, 6, 9, 11, 14, 16, 19, 20], [3, 6, 9, 11, 14, 16, 19, 20]), ([21, 19, 0, 1, 2, 3, 4, 5, 6, 7, 8, 9, 10, 11, 12, 13, 14, 15, 16, 17, 18, 19, 20, 21], [21]), ([22, 0, 1, 2, 3, 4, 5, 6, 7, 8, 9, 10, 11, 12, 13, 14, 15, 16, 17, 18, 19, 20, 21, 22], []), ([23, 0, 1, 2, 3, 4, 5, 6, 7, 8, 9, 10, 11, 12, 13, 14, 15, 16, 17, 18, 19, 20, 21, 22, 23], [])])
def roadbookref14_Get.B8 : List Nat := [0, 1, 3, 7, 0, 16, 48, 0, 128, 384, 0, 1024, 0, 4096, 13184, 0, 32768, 0, 131072, 422784, 0, 2097151, 4194303, 8388607, 16777215]
theorem roadbookref14_Get.tab8 : rtab .any (opsOf Try.f23 8) = roadbookref14_Get.T8 := by kernel_rfl
theorem roadbookref14_Get.bits8 : waitsOk roadbookref14_Get.T8.2 roadbookref14_Get.B8 = true := by kernel_rfl
set_option maxRecDepth 100000 in
theorem roadbookref14_Get.bd58 (v0 : Int) (ig : Int) (iF : Int) (lP : Int) (lu : ByteArray) (ls : Int) (lv : ByteArray) (mt : Int) (eW : Option Addr) (n24 dP : Nat) : Try.prog.built 25 [(0, .int .i64 v0), (15, .int .i64 ig), (16, .int .i64 iF), (17, .int .i64 lP), (19, .string lu), (12, .int .i64 ls), (20, .string lv), (13, .int .i64 mt), (24, .slice eW n24 dP)] = some #[.int .i64 v0, .int .i64 0, .int .i64 0, .string ⟨#[]⟩, .int .i64 0, .int .i64 0, .string ⟨#[]⟩, .int .i64 0, .int .i64 0, .string ⟨#[]⟩, .int .i64 0, .string ⟨#[]⟩, .int .i64 ls, .int .i64 mt, .int .i64 0, .int .i64 ig, .int .i64 iF, .int .i64 lP, .int .i64 0, .string lu, .string lv, .slice none 0 0, .int .i64 0, .string ⟨#[]⟩, .slice eW n24 dP] := by kernel_rfl
set_option maxHeartbeats 8000000 in
set_option maxRecDepth 100000 in
theorem roadbookref14_Get.calls (k : Nat) (a0 : ByteArray) (r1 : Int) (r2 : Int) (r3 : Int) (r4 : ByteArray) (r5 : Int) (r6 : Int) (r7 : ByteArray) (r8 : Int) (r9 : Int) (r10 : ByteArray) (r11 : Int) (r12 : ByteArray) (r13 : Int) (r14 : Int) (r15 : Int) (r16 : Int) (r17 : Int) (r18 : Int) (r19 : Int) (r20 : ByteArray) (r21 : ByteArray) (r22 : List (S46)) (r23 : Int) (r24 : ByteArray) (r25 : List (S48)) (r26 : Int) (r27 : Int) (w : World) (h : roadbookref14_Get.f k a0 = some (r1, r2, r3, r4, r5, r6, r7, r8, r9, r10, r11, r12, r13, r14, r15, r16, r17, r18, r19, r20, r21, r22, r23, r24, r25, r26, r27)) :
  Calls Try.prog 23 #[.string a0] w fun e w' => ∃ v21_ v24_ : Value, e = .returned (.tuple #[.agg #[.int .i64 r1, .int .i64 r2, .int .i64 r3, .string r4, .int .i64 r5, .int .i64 r6, .string r7, .int .i64 r8, .int .i64 r9, .string r10, .int .i64 r11, .string r12, .int .i64 r13, .int .i64 r14, .int .i64 r15, .int .i64 r16, .int .i64 r17, .int .i64 r18, .int .i64 r19, .string r20, .string r21, v21_, .int .i64 r23, .string r24, v24_], .int .i64 r26, .int .i64 r27]) ∧ Kd.R k46 46 w' w.heap.size (fun _ => True) v21_ r22 ∧ Kd.R k48 48 w' w.heap.size (fun _ => True) v24_ r25 ∧ Below w.heap.size w w' := by
 have fn := Try.underlying25
 have HB := Aside0.mk (Below.refl w.heap.size w)
 have H : (if (a0.size : Int) < 24 then (some (0, 0, 0, (⟨#[]⟩ : ByteArray), 0, 0, (⟨#[]⟩ : ByteArray), 0, 0, (⟨#[]⟩ : ByteArray), 0, (⟨#[]⟩ : ByteArray), 0, 0, 0, 0, 0, 0, 0, (⟨#[]⟩ : ByteArray), (⟨#[]⟩ : ByteArray), ([] : List (S46)), 0, (⟨#[]⟩ : ByteArray), ([] : List (S48)), (a0.size : Int), 2)) else (if 1 < (a0.size : Int) then (if (Int.tmod (bt a0 1) 8) = 0 then (if 2 < (a0.size : Int) then (roadbookref14_Get.j0 k a0 ((bt a0 2) != 0)) else (none)) else (roadbookref14_Get.j0 k a0 true)) else (none))) = some (r1, r2, r3, r4, r5, r6, r7, r8, r9, r10, r11, r12, r13, r14, r15, r16, r17, r18, r19, r20, r21, r22, r23, r24, r25, r26, r27) := h
 clear h
 by_cases c2 : (a0.size : Int) < 24
 ·rw [if_pos c2] at H
  have eE : decide ((a0.size : Int) < 24) = true := decide_eq_true c2
  have fo : decide (a0.size < 24) = true := decide_eq_true Z34
  clear c2
  simp only [Option.some.injEq, Prod.mk.injEq] at H
  obtain ⟨rfl, rfl, rfl, rfl, rfl, rfl, rfl, rfl, rfl, rfl, rfl, rfl, rfl, rfl, rfl, rfl, rfl, rfl, rfl, rfl, rfl, rfl, rfl, rfl, rfl, rfl, rfl⟩ := H
  go_enter Try.func23, Try.ntmps23
  go_wp2_with (first | ((with_reducible refine gate_dst (N := 58) rfl ?_); refine Pre.build_event 58 25 [(0, Go.Operand.const (Go.Value.int Go.IntKind.i64 3)), (15, Go.Operand.tmp 40), (16, Go.Operand.tmp 43), (17, Go.Operand.tmp 46), (19, Go.Operand.tmp 48), (12, Go.Operand.tmp 51), (20, Go.Operand.tmp 53), (13, Go.Operand.tmp 56), (24, Go.Operand.tmp 57)] rfl rfl rfl (roadbookref14_Get.bd58 _ _ _ _ _ _ _ _ _ _ _) ?_) | ((with_reducible refine gate_dst (N := 2) rfl ?_); refine Sq.box 2 #[.int .i64 0, .int .i64 0, .int .i64 0, .string ⟨#[]⟩, .int .i64 0, .int .i64 0, .string ⟨#[]⟩, .int .i64 0, .int .i64 0, .string ⟨#[]⟩, .int .i64 0, .string ⟨#[]⟩, .int .i64 0, .int .i64 0, .int .i64 0, .int .i64 0, .int .i64 0, .int .i64 0, .int .i64 0, .string ⟨#[]⟩, .string ⟨#[]⟩, .slice none 0 0, .int .i64 0, .string ⟨#[]⟩, .slice none 0 0] 25 ?_; intro ab hg w3 hbox hb; have aa := Aside0.mk (hbox); have bR := Aside0.mk (Sq.ge hg Z1); have bf := Aside0.mk (Sq.ge hg Z1); replace HB := Aside0.mk (below_step Z1 hb); clear hb hbox hg; have jL := cells_25 aa.out) | ((with_reducible refine Pre.gate_store 25 rfl ?_); refine Pre.store_abs (cur := #[.int .i64 0, .int .i64 0, .int .i64 0, .string ⟨#[]⟩, .int .i64 0, .int .i64 0, .string ⟨#[]⟩, .int .i64 0, .int .i64 0, .string ⟨#[]⟩, .int .i64 0, .string ⟨#[]⟩, .int .i64 0, .int .i64 0, .int .i64 0, .int .i64 0, .int .i64 0, .int .i64 0, .int .i64 0, .string ⟨#[]⟩, .string ⟨#[]⟩, .slice none 0 0, .int .i64 0, .string ⟨#[]⟩, .slice none 0 0]) (e := 25) rfl rfl rfl Z22 Z22 Z2 Z14 Z22 Z22 ?_; intro w5 hbS_ sS_; have bl : Aside0 (w5.heap[ab]? = some (.cells #[.int .i64 0, .int .i64 0, .int .i64 0, .string ⟨#[]⟩, .int .i64 0, .int .i64 0, .string ⟨#[]⟩, .int .i64 0, .int .i64 0, .string ⟨#[]⟩, .int .i64 0, .string ⟨#[]⟩, .int .i64 0, .int .i64 0, .int .i64 0, .int .i64 0, .int .i64 0, .int .i64 0, .int .i64 0, .string ⟨#[]⟩, .string ⟨#[]⟩, .slice none 0 0, .int .i64 0, .string ⟨#[]⟩, .slice none 0 0] 25 (0, 0))) := ⟨hbS_⟩; have bm : Aside0 (Below w.heap.size w w5) := ⟨sS_.below Z0 bf.out⟩; clear hbS_ sS_; replace aa := bl; replace HB := bm; clear bl bm))
  refine bodyPost_ret (results_ctt rfl _ _ ab 25 #[.int .i64 0, .int .i64 0, .int .i64 0, .string ⟨#[]⟩, .int .i64 0, .int .i64 0, .string ⟨#[]⟩, .int .i64 0, .int .i64 0, .string ⟨#[]⟩, .int .i64 0, .string ⟨#[]⟩, .int .i64 0, .int .i64 0, .int .i64 0, .int .i64 0, .int .i64 0, .int .i64 0, .int .i64 0, .string ⟨#[]⟩, .string ⟨#[]⟩, .slice none 0 0, .int .i64 0, .string ⟨#[]⟩, .slice none 0 0] (0, 0) _ rfl Z2 Try.underlying25 rfl Z14) rfl ?_
  exact ⟨_, _, Z5, Z7, Z20, Z0⟩
 ·rw [if_neg c2] at H
  have eE : decide ((a0.size : Int) < 24) = false := decide_eq_false c2
  have fo : decide (a0.size < 24) = false := decide_eq_false Z34
  clear c2
  have pc := Aside0.mk H
  clear H
  go_enter Try.func23, Try.ntmps23
  go_upto_region 3 with (first | ((with_reducible refine gate_dst (N := 58) rfl ?_); refine Pre.build_event 58 25 [(0, Go.Operand.const (Go.Value.int Go.IntKind.i64 3)), (15, Go.Operand.tmp 40), (16, Go.Operand.tmp 43), (17, Go.Operand.tmp 46), (19, Go.Operand.tmp 48), (12, Go.Operand.tmp 51), (20, Go.Operand.tmp 53), (13, Go.Operand.tmp 56), (24, Go.Operand.tmp 57)] rfl rfl rfl (roadbookref14_Get.bd58 _ _ _ _ _ _ _ _ _ _ _) ?_) | ((with_reducible refine gate_dst (N := 2) rfl ?_); refine Sq.box 2 #[.int .i64 0, .int .i64 0, .int .i64 0, .string ⟨#[]⟩, .int .i64 0, .int .i64 0, .string ⟨#[]⟩, .int .i64 0, .int .i64 0, .string ⟨#[]⟩, .int .i64 0, .string ⟨#[]⟩, .int .i64 0, .int .i64 0, .int .i64 0, .int .i64 0, .int .i64 0, .int .i64 0, .int .i64 0, .string ⟨#[]⟩, .string ⟨#[]⟩, .slice none 0 0, .int .i64 0, .string ⟨#[]⟩, .slice none 0 0] 25 ?_; intro ab hg w7 hbox hb; have aa := Aside0.mk (hbox); have bR := Aside0.mk (Sq.ge hg Z1); have bf := Aside0.mk (Sq.ge hg Z1); replace HB := Aside0.mk (below_step Z1 hb); clear hb hbox hg))
  (try simp only [Act.put, Sq.s1, Sq.s2, Sq.s3])
  go_cut [22] (fun ny wc => ∃ (kq : Nat) (lJ : Bool), ny = .bool lJ ∧ Aside0 (roadbookref14_Get.j0 kq a0 lJ = some (r1, r2, r3, r4, r5, r6, r7, r8, r9, r10, r11, r12, r13, r14, r15, r16, r17, r18, r19, r20, r21, r22, r23, r24, r25, r26, r27)) ∧ Aside0 (kq ≤ k) ∧ Aside0 (wc.heap[ab]? = some (.cells #[.int .i64 0, .int .i64 0, .int .i64 0, .string ⟨#[]⟩, .int .i64 0, .int .i64 0, .string ⟨#[]⟩, .int .i64 0, .int .i64 0, .string ⟨#[]⟩, .int .i64 0, .string ⟨#[]⟩, .int .i64 0, .int .i64 0, .int .i64 0, .int .i64 0, .int .i64 0, .int .i64 0, .int .i64 0, .string ⟨#[]⟩, .string ⟨#[]⟩, (.slice none 0 0), .int .i64 0, .string ⟨#[]⟩, (.slice none 0 0)] 25 (0, 0))) ∧ Aside0 (Below w.heap.size w wc))
  case first =>
   have H := pc.out
   clear pc
   by_cases c8 : 1 < (a0.size : Int)
   ·rw [if_pos c8] at H
    have gf : decide (1 < (a0.size : Int)) = true := decide_eq_true c8
    have iU : decide (1 < a0.size) = true := decide_eq_true Z34
    clear c8
    (first | rw [gf] | (simp only [i64_w, i32_w]; rw [gf]) | skip)
    by_cases en : (Int.tmod (bt a0 1) 8) = 0
    ·rw [if_pos en] at H
     have eP : ((Int.tmod (bt a0 1) 8) == 0) = true := beq_iff_eq.mpr en
     have fv : ((Int.tmod (bt a0 1) 8) != 0) = false := bne_eq_false_iff_eq.mpr en
     clear en
     by_cases dK : 2 < (a0.size : Int)
     ·rw [if_pos dK] at H
      have eB : decide (2 < (a0.size : Int)) = true := decide_eq_true dK
      have fp : decide (2 < a0.size) = true := decide_eq_true Z34
      clear dK
      have H' := Aside0.mk H
      clear H
      have p9 : 0 ≤ (1 : Int) := Z34
      have q9 : 1 < a0.size := (by have : (1 : Int) < (a0.size : Int) := of_decide_eq_true Z6; omega)
      have hx9 : ∀ h : 1 < a0.size, ((a0[1]'h).toNat : Int) = bt a0 1 := bt_at a0 1
      clear p9
      have qi9 : (1 < (a0.size : Int)) = True := eq_true (of_decide_eq_true Z6)
      replace q9 := eq_true q9
      have p12 : 0 ≤ (2 : Int) := Z34
      have q12 : 2 < a0.size := (by have : (2 : Int) < (a0.size : Int) := of_decide_eq_true Z6; omega)
      have hx12 : ∀ h : 2 < a0.size, ((a0[2]'h).toNat : Int) = bt a0 2 := bt_at a0 2
      clear p12
      have qi12 : (2 < (a0.size : Int)) = True := eq_true (of_decide_eq_true Z6)
      replace q12 := eq_true q12
      go_wp2_with (first | ((with_reducible refine gate_dst (N := 58) rfl ?_); refine Pre.build_event 58 25 [(0, Go.Operand.const (Go.Value.int Go.IntKind.i64 3)), (15, Go.Operand.tmp 40), (16, Go.Operand.tmp 43), (17, Go.Operand.tmp 46), (19, Go.Operand.tmp 48), (12, Go.Operand.tmp 51), (20, Go.Operand.tmp 53), (13, Go.Operand.tmp 56), (24, Go.Operand.tmp 57)] rfl rfl rfl (roadbookref14_Get.bd58 _ _ _ _ _ _ _ _ _ _ _) ?_))
      go_meet
      case rel => exact ⟨_, (((bt a0 2) != 0)), Z17, H', ⟨Z43⟩, ⟨Z2⟩, ⟨Z0⟩⟩
     ·rw [if_neg dK] at H
      exact absurd H Z59
    ·rw [if_neg en] at H
     have eP : ((Int.tmod (bt a0 1) 8) == 0) = false := beq_eq_false_iff_ne.mpr en
     have fv : ((Int.tmod (bt a0 1) 8) != 0) = true := bne_iff_ne.mpr en
     have H' := Aside0.mk H
     clear H
     have p9 : 0 ≤ (1 : Int) := Z34
     have q9 : 1 < a0.size := (by have : (1 : Int) < (a0.size : Int) := of_decide_eq_true Z6; omega)
     have hx9 : ∀ h : 1 < a0.size, ((a0[1]'h).toNat : Int) = bt a0 1 := bt_at a0 1
     clear p9
     have qi9 : (1 < (a0.size : Int)) = True := eq_true (of_decide_eq_true Z6)
     replace q9 := eq_true q9
     go_wp2_with (first | ((with_reducible refine gate_dst (N := 58) rfl ?_); refine Pre.build_event 58 25 [(0, Go.Operand.const (Go.Value.int Go.IntKind.i64 3)), (15, Go.Operand.tmp 40), (16, Go.Operand.tmp 43), (17, Go.Operand.tmp 46), (19, Go.Operand.tmp 48), (12, Go.Operand.tmp 51), (20, Go.Operand.tmp 53), (13, Go.Operand.tmp 56), (24, Go.Operand.tmp 57)] rfl rfl rfl (roadbookref14_Get.bd58 _ _ _ _ _ _ _ _ _ _ _) ?_))
     go_meet
     case rel => exact ⟨_, (true), Z17, H', ⟨Z43⟩, ⟨Z2⟩, ⟨Z0⟩⟩
   ·rw [if_neg c8] at H
    exact absurd H Z59
  case rest =>
   clear pc
   try clear c2
   try clear eE
   try clear fo
   try clear p2
   try clear jL
   obtain ⟨kq, lJ, rfl, HA, sU, aa, HB⟩ := hcut
   cases kq with
   | zero => exact absurd HA.out (by simp [roadbookref14_Get.j0])
   | succ kj5 =>
    have H := HA.out
    clear HA
    simp only [roadbookref14_Get.j0] at H
    by_cases ew : lJ = true
    ·subst ew
     have H1 : (some (0, 0, 0, (⟨#[]⟩ : ByteArray), 0, 0, (⟨#[]⟩ : ByteArray), 0, 0, (⟨#[]⟩ : ByteArray), 0, (⟨#[]⟩ : ByteArray), 0, 0, 0, 0, 0, 0, 0, (⟨#[]⟩ : ByteArray), (⟨#[]⟩ : ByteArray), ([] : List (S46)), 0, (⟨#[]⟩ : ByteArray), ([] : List (S48)), 1, 5)) = some (r1, r2, r3, r4, r5, r6, r7, r8, r9, r10, r11, r12, r13, r14, r15, r16, r17, r18, r19, r20, r21, r22, r23, r24, r25, r26, r27) := by rw [if_pos rfl] at H; exact H
     clear H
     have H := H1
     clear H1
     simp only [Option.some.injEq, Prod.mk.injEq] at H
     obtain ⟨rfl, rfl, rfl, rfl, rfl, rfl, rfl, rfl, rfl, rfl, rfl, rfl, rfl, rfl, rfl, rfl, rfl, rfl, rfl, rfl, rfl, rfl, rfl, rfl, rfl, rfl, rfl⟩ := H
     have iC := cells_25 aa.out
     go_wp2_with (first | ((with_reducible refine gate_dst (N := 58) rfl ?_); refine Pre.build_event 58 25 [(0, Go.Operand.const (Go.Value.int Go.IntKind.i64 3)), (15, Go.Operand.tmp 40), (16, Go.Operand.tmp 43), (17, Go.Operand.tmp 46), (19, Go.Operand.tmp 48), (12, Go.Operand.tmp 51), (20, Go.Operand.tmp 53), (13, Go.Operand.tmp 56), (24, Go.Operand.tmp 57)] rfl rfl rfl (roadbookref14_Get.bd58 _ _ _ _ _ _ _ _ _ _ _) ?_) | ((with_reducible refine Pre.gate_store 25 rfl ?_); refine Pre.store_abs (cur := #[.int .i64 0, .int .i64 0, .int .i64 0, .string ⟨#[]⟩, .int .i64 0, .int .i64 0, .string ⟨#[]⟩, .int .i64 0, .int .i64 0, .string ⟨#[]⟩, .int .i64 0, .string ⟨#[]⟩, .int .i64 0, .int .i64 0, .int .i64 0, .int .i64 0, .int .i64 0, .int .i64 0, .int .i64 0, .string ⟨#[]⟩, .string ⟨#[]⟩, .slice none 0 0, .int .i64 0, .string ⟨#[]⟩, .slice none 0 0]) (e := 25) rfl rfl rfl Z22 Z22 Z2 Z14 Z22 Z22 ?_; intro mj hbS_ sS_; have bl : Aside0 (mj.heap[ab]? = some (.cells #[.int .i64 0, .int .i64 0, .int .i64 0, .string ⟨#[]⟩, .int .i64 0, .int .i64 0, .string ⟨#[]⟩, .int .i64 0, .int .i64 0, .string ⟨#[]⟩, .int .i64 0, .string ⟨#[]⟩, .int .i64 0, .int .i64 0, .int .i64 0, .int .i64 0, .int .i64 0, .int .i64 0, .int .i64 0, .string ⟨#[]⟩, .string ⟨#[]⟩, .slice none 0 0, .int .i64 0, .string ⟨#[]⟩, .slice none 0 0] 25 (0, 0))) := ⟨hbS_⟩; have bm : Aside0 (Below w.heap.size w mj) := ⟨sS_.below Z0 bf.out⟩; clear hbS_ sS_; replace aa := bl; replace HB := bm; clear bl bm))
     refine bodyPost_ret (results_ctt rfl _ _ ab 25 #[.int .i64 0, .int .i64 0, .int .i64 0, .string ⟨#[]⟩, .int .i64 0, .int .i64 0, .string ⟨#[]⟩, .int .i64 0, .int .i64 0, .string ⟨#[]⟩, .int .i64 0, .string ⟨#[]⟩, .int .i64 0, .int .i64 0, .int .i64 0, .int .i64 0, .int .i64 0, .int .i64 0, .int .i64 0, .string ⟨#[]⟩, .string ⟨#[]⟩, .slice none 0 0, .int .i64 0, .string ⟨#[]⟩, .slice none 0 0] (0, 0) _ rfl Z2 Try.underlying25 rfl Z14) rfl ?_
     exact ⟨_, _, Z5, Z7, Z20, Z0⟩
    ·replace ew := Bool.eq_false_iff.mpr ew
     subst ew
     have H1 : (if 24 ≤ (a0.size : Int) then ((roadbookref13_Get.f kj5 (a0.extract 24 a0.size)).bind fun aE => (if aE.2.2 = 0 then (if 1 < (a0.size : Int) then (if 3 < (a0.size : Int) then (if 4 ≤ 8 then (if 8 ≤ (a0.size : Int) then ((roadbookref08_Number.f kj5 (a0.extract 4 8)).bind fun bp => (if 8 ≤ 12 then (if 12 ≤ (a0.size : Int) then (if 12 ≤ 16 then (if 16 ≤ (a0.size : Int) then ((roadbookref08_Number.f kj5 (a0.extract 12 16)).bind fun aQ => (if 16 ≤ 20 then (if 20 ≤ (a0.size : Int) then (if 20 ≤ 24 then ((roadbookref08_Number.f kj5 (a0.extract 20 24)).bind fun ba => (some (3, 0, 0, (⟨#[]⟩ : ByteArray), 0, 0, (⟨#[]⟩ : ByteArray), 0, 0, (⟨#[]⟩ : ByteArray), 0, (⟨#[]⟩ : ByteArray), aQ, ba, 0, wrap64 (Int.tdiv (wrap64 (bt a0 1)) 8), wrap64 (bt a0 3), bp, 0, a0.extract 8 12, a0.extract 16 20, ([] : List (S46)), 0, (⟨#[]⟩ : ByteArray), aE.1, 0, 0))) else (none)) else (none)) else (none))) else (none)) else (none)) else (none)) else (none))) else (none)) else (none)) else (none)) else (none)) else (some (0, 0, 0, (⟨#[]⟩ : ByteArray), 0, 0, (⟨#[]⟩ : ByteArray), 0, 0, (⟨#[]⟩ : ByteArray), 0, (⟨#[]⟩ : ByteArray), 0, 0, 0, 0, 0, 0, 0, (⟨#[]⟩ : ByteArray), (⟨#[]⟩ : ByteArray), ([] : List (S46)), 0, (⟨#[]⟩ : ByteArray), ([] : List (S48)), wrap64 (24 + aE.2.1), aE.2.2)))) else (none)) = some (r1, r2, r3, r4, r5, r6, r7, r8, r9, r10, r11, r12, r13, r14, r15, r16, r17, r18, r19, r20, r21, r22, r23, r24, r25, r26, r27) := by rw [if_neg (show ¬ (false = true) by decide)] at H; exact H
     clear H
     have H := H1
     clear H1
     by_cases fa : 24 ≤ (a0.size : Int)
     ·rw [if_pos fa] at H
      have hH := eq_true fa
      have hI : decide (24 ≤ (a0.size : Int)) = true := decide_eq_true fa
      clear fa
      replace H := Option.bind_eq_some_iff.mp H
      obtain ⟨⟨aM, aX, aV⟩, mG, H⟩ := H
      replace H : (if aV = 0 then (if 1 < (a0.size : Int) then (if 3 < (a0.size : Int) then (if 4 ≤ 8 then (if 8 ≤ (a0.size : Int) then ((roadbookref08_Number.f kj5 (a0.extract 4 8)).bind fun bp => (if 8 ≤ 12 then (if 12 ≤ (a0.size : Int) then (if 12 ≤ 16 then (if 16 ≤ (a0.size : Int) then ((roadbookref08_Number.f kj5 (a0.extract 12 16)).bind fun aQ => (if 16 ≤ 20 then (if 20 ≤ (a0.size : Int) then (if 20 ≤ 24 then ((roadbookref08_Number.f kj5 (a0.extract 20 24)).bind fun ba => (some (3, 0, 0, (⟨#[]⟩ : ByteArray), 0, 0, (⟨#[]⟩ : ByteArray), 0, 0, (⟨#[]⟩ : ByteArray), 0, (⟨#[]⟩ : ByteArray), aQ, ba, 0, wrap64 (Int.tdiv (wrap64 (bt a0 1)) 8), wrap64 (bt a0 3), bp, 0, a0.extract 8 12, a0.extract 16 20, ([] : List (S46)), 0, (⟨#[]⟩ : ByteArray), aM, 0, 0))) else (none)) else (none)) else (none))) else (none)) else (none)) else (none)) else (none))) else (none)) else (none)) else (none)) else (none)) else (some (0, 0, 0, (⟨#[]⟩ : ByteArray), 0, 0, (⟨#[]⟩ : ByteArray), 0, 0, (⟨#[]⟩ : ByteArray), 0, (⟨#[]⟩ : ByteArray), 0, 0, 0, 0, 0, 0, 0, (⟨#[]⟩ : ByteArray), (⟨#[]⟩ : ByteArray), ([] : List (S46)), 0, (⟨#[]⟩ : ByteArray), ([] : List (S48)), wrap64 (24 + aX), aV))) = some (r1, r2, r3, r4, r5, r6, r7, r8, r9, r10, r11, r12, r13, r14, r15, r16, r17, r18, r19, r20, r21, r22, r23, r24, r25, r26, r27) := H
      have sG := Aside0.mk mG
      clear mG
      by_cases gu : aV = 0
      ·rw [if_pos gu] at H
       have iV : (aV == 0) = true := beq_iff_eq.mpr gu
       have kw : (aV != 0) = false := bne_eq_false_iff_eq.mpr gu
       clear gu
       by_cases gb : 1 < (a0.size : Int)
       ·rw [if_pos gb] at H
        have iG : decide (1 < (a0.size : Int)) = true := decide_eq_true gb
        have jA : decide (1 < a0.size) = true := decide_eq_true Z34
        clear gb
        by_cases eF : 3 < (a0.size : Int)
        ·rw [if_pos eF] at H
         have jx : decide (3 < (a0.size : Int)) = true := decide_eq_true eF
         have oy : decide (3 < a0.size) = true := decide_eq_true Z34
         clear eF
         by_cases nz : 4 ≤ 8
         ·rw [if_pos nz] at H
          have rs := eq_true nz
          have rt : decide (4 ≤ 8) = true := decide_eq_true nz
          clear nz
          by_cases dP : 8 ≤ (a0.size : Int)
          ·rw [if_pos dP] at H
           have lk := eq_true dP
           have ll : decide (8 ≤ (a0.size : Int)) = true := decide_eq_true dP
           clear dP
           replace H := Option.bind_eq_some_iff.mp H
           obtain ⟨bp, nj, H⟩ := H
           replace H : (if 8 ≤ 12 then (if 12 ≤ (a0.size : Int) then (if 12 ≤ 16 then (if 16 ≤ (a0.size : Int) then ((roadbookref08_Number.f kj5 (a0.extract 12 16)).bind fun aQ => (if 16 ≤ 20 then (if 20 ≤ (a0.size : Int) then (if 20 ≤ 24 then ((roadbookref08_Number.f kj5 (a0.extract 20 24)).bind fun ba => (some (3, 0, 0, (⟨#[]⟩ : ByteArray), 0, 0, (⟨#[]⟩ : ByteArray), 0, 0, (⟨#[]⟩ : ByteArray), 0, (⟨#[]⟩ : ByteArray), aQ, ba, 0, wrap64 (Int.tdiv (wrap64 (bt a0 1)) 8), wrap64 (bt a0 3), bp, 0, a0.extract 8 12, a0.extract 16 20, ([] : List (S46)), 0, (⟨#[]⟩ : ByteArray), aM, 0, 0))) else (none)) else (none)) else (none))) else (none)) else (none)) else (none)) else (none)) = some (r1, r2, r3, r4, r5, r6, r7, r8, r9, r10, r11, r12, r13, r14, r15, r16, r17, r18, r19, r20, r21, r22, r23, r24, r25, r26, r27) := H
           have sr := Aside0.mk nj
           clear nj
           by_cases jH : 8 ≤ 12
           ·rw [if_pos jH] at H
            have ru := eq_true jH
            have rv : decide (8 ≤ 12) = true := decide_eq_true jH
            clear jH
            by_cases jM : 12 ≤ (a0.size : Int)
            ·rw [if_pos jM] at H
             have mz := eq_true jM
             have mA : decide (12 ≤ (a0.size : Int)) = true := decide_eq_true jM
             clear jM
             by_cases mf : 12 ≤ 16
             ·rw [if_pos mf] at H
              have c28b0 := eq_true mf
              have c28b1 : decide (12 ≤ 16) = true := decide_eq_true mf
              clear mf
              by_cases mQ : 16 ≤ (a0.size : Int)
              ·rw [if_pos mQ] at H
               have c29b0 := eq_true mQ
               have c29b1 : decide (16 ≤ (a0.size : Int)) = true := decide_eq_true mQ
               clear mQ
               replace H := Option.bind_eq_some_iff.mp H
               obtain ⟨aQ, mB, H⟩ := H
               replace H : (if 16 ≤ 20 then (if 20 ≤ (a0.size : Int) then (if 20 ≤ 24 then ((roadbookref08_Number.f kj5 (a0.extract 20 24)).bind fun ba => (some (3, 0, 0, (⟨#[]⟩ : ByteArray), 0, 0, (⟨#[]⟩ : ByteArray), 0, 0, (⟨#[]⟩ : ByteArray), 0, (⟨#[]⟩ : ByteArray), aQ, ba, 0, wrap64 (Int.tdiv (wrap64 (bt a0 1)) 8), wrap64 (bt a0 3), bp, 0, a0.extract 8 12, a0.extract 16 20, ([] : List (S46)), 0, (⟨#[]⟩ : ByteArray), aM, 0, 0))) else (none)) else (none)) else (none)) = some (r1, r2, r3, r4, r5, r6, r7, r8, r9, r10, r11, r12, r13, r14, r15, r16, r17, r18, r19, r20, r21, r22, r23, r24, r25, r26, r27) := H
               have kX := Aside0.mk mB
               clear mB
               by_cases iS : 16 ≤ 20
               ·rw [if_pos iS] at H
                have lC := eq_true iS
                have ry : decide (16 ≤ 20) = true := decide_eq_true iS
                clear iS
                by_cases ih : 20 ≤ (a0.size : Int)
                ·rw [if_pos ih] at H
                 have ln := eq_true ih
                 have ol : decide (20 ≤ (a0.size : Int)) = true := decide_eq_true ih
                 clear ih
                 by_cases kS : 20 ≤ 24
                 ·rw [if_pos kS] at H
                  have mm := eq_true kS
                  have om : decide (20 ≤ 24) = true := decide_eq_true kS
                  clear kS
                  have iD := eq_true (of_decide_eq_true Z6 : 24 ≤ (a0.size : Int))
                  replace H := Option.bind_eq_some_iff.mp H
                  obtain ⟨ba, jj, H⟩ := H
                  replace H : (some (3, 0, 0, (⟨#[]⟩ : ByteArray), 0, 0, (⟨#[]⟩ : ByteArray), 0, 0, (⟨#[]⟩ : ByteArray), 0, (⟨#[]⟩ : ByteArray), aQ, ba, 0, wrap64 (Int.tdiv (wrap64 (bt a0 1)) 8), wrap64 (bt a0 3), bp, 0, a0.extract 8 12, a0.extract 16 20, ([] : List (S46)), 0, (⟨#[]⟩ : ByteArray), aM, 0, 0)) = some (r1, r2, r3, r4, r5, r6, r7, r8, r9, r10, r11, r12, r13, r14, r15, r16, r17, r18, r19, r20, r21, r22, r23, r24, r25, r26, r27) := H
                  have nO := Aside0.mk jj
                  clear jj
                  simp only [Option.some.injEq, Prod.mk.injEq] at H
                  obtain ⟨rfl, rfl, rfl, rfl, rfl, rfl, rfl, rfl, rfl, rfl, rfl, rfl, rfl, rfl, rfl, rfl, rfl, rfl, rfl, rfl, rfl, rfl, rfl, rfl, rfl, rfl, rfl⟩ := H
                  try go_wp2_with (first | ((with_reducible refine gate_dst (N := 58) rfl ?_); refine Pre.build_event 58 25 [(0, Go.Operand.const (Go.Value.int Go.IntKind.i64 3)), (15, Go.Operand.tmp 40), (16, Go.Operand.tmp 43), (17, Go.Operand.tmp 46), (19, Go.Operand.tmp 48), (12, Go.Operand.tmp 51), (20, Go.Operand.tmp 53), (13, Go.Operand.tmp 56), (24, Go.Operand.tmp 57)] rfl rfl rfl (roadbookref14_Get.bd58 _ _ _ _ _ _ _ _ _ _ _) ?_) | ((with_reducible refine gate_callee (f := 63) rfl ?_); refine goesL_ (some 27) rfl rfl Try.func63 Z14 rfl #[.string (a0.extract 24 a0.size)] rfl Z4 ?_; (with_reducible refine (roadbookref13_Get.calls kj5 (a0.extract 24 a0.size) aM aX aV _ sG.out).mono ?_); rintro e qc ⟨il, rfl, ho0, hb⟩; refine ⟨_, rfl, ?_⟩; have bw := Aside0.mk (Kd.R_lower ho0 (below_size Z0)); replace aa := Aside0.mk (blk_below (g := ab) Z2 hb); replace HB := Aside0.mk (below_step Z0 hb); clear hb ho0))
                  have bl := Aside0.mk (Kd.R_drew bw.out)
                  have bm := Aside0.mk (blk_drew aa.out)
                  have bI := Aside0.mk (below_drew1 HB.out)
                  clear bw
                  clear aa
                  clear HB
                  have bw := bl
                  have aa := bm
                  have HB := bI
                  clear bl bm bI
                  have p20 : 0 ≤ (1 : Int) := Z34
                  have q20 : 1 < a0.size := (by have : (1 : Int) < (a0.size : Int) := of_decide_eq_true Z6; omega)
                  have hx20 : ∀ h : 1 < a0.size, ((a0[1]'h).toNat : Int) = bt a0 1 := bt_at a0 1
                  clear p20
                  have qi20 : (1 < (a0.size : Int)) = True := eq_true (of_decide_eq_true Z6)
                  replace q20 := eq_true q20
                  have p22 : 0 ≤ (3 : Int) := Z34
                  have q22 : 3 < a0.size := (by have : (3 : Int) < (a0.size : Int) := of_decide_eq_true Z6; omega)
                  have hx22 : ∀ h : 3 < a0.size, ((a0[3]'h).toNat : Int) = bt a0 3 := bt_at a0 3
                  clear p22
                  have qi22 : (3 < (a0.size : Int)) = True := eq_true (of_decide_eq_true Z6)
                  replace q22 := eq_true q22
                  refine start_ (n := 25) (S := fun w' => True) (ds := []) (Sq.b 25 0) Z14 rfl rfl trivial (fun hHeld => ?_); refine with_tabW roadbookref14_Get.tab8 roadbookref14_Get.bits8 (fun HT_ HW_ => ?_)
                  generalize qc.drew = qS at bw aa HB hHeld ⊢
                  refine Sq.pur 0 (some 37) (Sq.b 25 1) HT_.out ?_
                  refine Sq.pur 4 (some 41) (Sq.b 25 17) HT_.out ?_
                  refine Sq.pur 7 (some 44) (Sq.b 25 145) HT_.out ?_
                  refine Sq.pur 8 (some 45) (Sq.b 25 401) HT_.out ?_
                  refine Sq.pur 10 (some 47) (Sq.b 25 1425) HT_.out ?_
                  refine Sq.pur 11 (some 48) (Sq.b 25 3473) HT_.out ?_
                  refine Sq.pur 12 (some 49) (Sq.b 25 7569) HT_.out ?_
                  refine Sq.pur 13 (some 50) (Sq.b 25 15761) HT_.out ?_
                  refine Sq.pur 15 (some 52) (Sq.b 25 48529) HT_.out ?_
                  refine Sq.pur 16 (some 53) (Sq.b 25 114065) HT_.out ?_
                  refine Sq.pur 17 (some 54) (Sq.b 25 245137) HT_.out ?_
                  refine Sq.pur 18 (some 55) (Sq.b 25 507281) HT_.out ?_
                  refine Sq.pur 20 (some 57) (Sq.b 25 1555857) HT_.out ?_
                  refine Sq.tak 1 (some 38) (Sq.b 25 1555859) HT_.out HW_.out hHeld (v := ?_) (a' := ?_) ?_ ?_ ?_
                  rotate_left
                  ·intro w' _
                   go_simp
                   with_reducible rfl
                  rotate_left
                  ·simp only [Act.put, Sq.s1, Sq.s2, Sq.s3, i64_w, i32_w]
                   rfl
                  refine Sq.pur 2 (some 39) (Sq.b 25 1555863) HT_.out ?_
                  refine Sq.pur 3 (some 40) (Sq.b 25 1555871) HT_.out ?_
                  refine Sq.tak 5 (some 42) (Sq.b 25 1555903) HT_.out HW_.out hHeld (v := ?_) (a' := ?_) ?_ ?_ ?_
                  rotate_left
                  ·intro w' _
                   go_simp
                   with_reducible rfl
                  rotate_left
                  ·simp only [Act.put, Sq.s1, Sq.s2, Sq.s3, i64_w, i32_w]
                   rfl
                  refine Sq.pur 6 (some 43) (Sq.b 25 1555967) HT_.out ?_
                  refine one_ (i := 9) (N := some 46) (Sq.b 25 1556479) rfl rfl (one_of HT_.out Z14) Z27 (fun K hK => ?_)
                  refine goes_ Try.func64 Z14 rfl #[.string (a0.extract 4 8)] Z22 rfl rfl Z4 ?_
                  with_reducible refine (roadbookref08_Number.calls kj5 (a0.extract 4 8) bp _ sr.out).mono ?_
                  rintro e w' ⟨rfl, ⟨nd, rfl⟩⟩
                  refine ⟨_, rfl, ?_⟩
                  refine hK.out _ _ trivial (fun hHeld => ?_)
                  clear hK K
                  refine norm_ (a' := ?_) ?_ ?_
                  rotate_left
                  ·show Act.put _ (some 46) _ = _
                   simp only [Act.put, Sq.s1, Sq.s2, Sq.s3, i64_w, i32_w]
                   rfl
                  refine one_ (i := 14) (N := some 51) (Sq.b 25 1572863) rfl rfl (one_of HT_.out Z14) Z27 (fun K hK => ?_)
                  refine goes_ Try.func64 Z14 rfl #[.string (a0.extract 12 16)] Z22 rfl rfl Z4 ?_
                  with_reducible refine (roadbookref08_Number.calls kj5 (a0.extract 12 16) aQ _ kX.out).mono ?_
                  rintro e w' ⟨rfl, ⟨nd, rfl⟩⟩
                  refine ⟨_, rfl, ?_⟩
                  refine hK.out _ _ trivial (fun hHeld => ?_)
                  clear hK K
                  refine norm_ (a' := ?_) ?_ ?_
                  rotate_left
                  ·show Act.put _ (some 51) _ = _
                   simp only [Act.put, Sq.s1, Sq.s2, Sq.s3, i64_w, i32_w]
                   rfl
                  refine one_ (i := 19) (N := some 56) (Sq.b 25 2097151) rfl rfl (one_of HT_.out Z14) Z27 (fun K hK => ?_)
                  refine goes_ Try.func64 Z14 rfl #[.string (a0.extract 20 24)] Z22 rfl rfl Z4 ?_
                  with_reducible refine (roadbookref08_Number.calls kj5 (a0.extract 20 24) ba _ nO.out).mono ?_
                  rintro e w' ⟨rfl, ⟨nd, rfl⟩⟩
                  refine ⟨_, rfl, ?_⟩
                  obtain ⟨fB, fC, eo38⟩ := Kd.R_slice bw.out
                  (first | subst eo38 | (injection eo38 with f1_ f2_ f3_; have f4_ := f1_.symm; have f5_ := f3_.symm; clear f1_ f2_ f3_; subst f4_; subst f5_))
                  refine hK.out _ _ trivial (fun hHeld => ?_)
                  clear hK K
                  refine norm_ (a' := ?_) ?_ ?_
                  rotate_left
                  ·show Act.put _ (some 56) _ = _
                   simp only [Act.put, Sq.s1, Sq.s2, Sq.s3, i64_w, i32_w]
                   rfl
                  refine pure_ (i := 21) (N := some 58) (v := ?_) (a' := ?_) (Sq.b 25 4194303) rfl rfl (any_of HT_.out Z14) (fun _ _ _ h => h) (Or.inl ⟨Z22, ?_⟩) ?_ ?_
                  rotate_left
                  ·intro w'
                   refine Eq.trans (Pre.build_run 25 [(0, Go.Operand.const (Go.Value.int Go.IntKind.i64 3)), (15, Go.Operand.tmp 40), (16, Go.Operand.tmp 43), (17, Go.Operand.tmp 46), (19, Go.Operand.tmp 48), (12, Go.Operand.tmp 51), (20, Go.Operand.tmp 53), (13, Go.Operand.tmp 56), (24, Go.Operand.tmp 57)] rfl (roadbookref14_Get.bd58 _ _ _ _ _ _ _ _ _ _ _)) ?_
                   with_reducible rfl
                  rotate_left
                  ·simp only [Act.put, Sq.s1, Sq.s2, Sq.s3, i64_w, i32_w]
                   rfl
                  refine one_ (i := 22) (N := none) (Sq.b 25 8388607) rfl rfl (one_of HT_.out Z14) Z27 (fun K hK => ?_)
                  refine skip_ (w1 := ?_) Z22 rfl ?_ ?_
                  rotate_left
                  ·refine Eq.trans (Pre.store_run rfl Z22 Z22 aa.out Z14 Z22 Z22) ?_
                   rfl
                  refine hK.out _ _ trivial (fun hHeld => ?_)
                  clear hK K
                  refine Sq.pur 23 (some 3) (Sq.b 25 16777215) HT_.out ?_
                  refine Sq.pur 24 (some 4) (Sq.b 25 33554431) HT_.out ?_
                  refine done_ (done_of HT_.out Z14) ?_
                  refine Pre.abs_end (g := ab) (t := 25) (cs := #[.int .i64 0, .int .i64 0, .int .i64 0, .string ⟨#[]⟩, .int .i64 0, .int .i64 0, .string ⟨#[]⟩, .int .i64 0, .int .i64 0, .string ⟨#[]⟩, .int .i64 0, .string ⟨#[]⟩, .int .i64 0, .int .i64 0, .int .i64 0, .int .i64 0, .int .i64 0, .int .i64 0, .int .i64 0, .string ⟨#[]⟩, .string ⟨#[]⟩, .slice none 0 0, .int .i64 0, .string ⟨#[]⟩, .slice none 0 0]) (cells := #[.int .i64 3, .int .i64 0, .int .i64 0, .string ⟨#[]⟩, .int .i64 0, .int .i64 0, .string ⟨#[]⟩, .int .i64 0, .int .i64 0, .string ⟨#[]⟩, .int .i64 0, .string ⟨#[]⟩, .int .i64 aQ, .int .i64 ba, .int .i64 0, .int .i64 (wrap64 (Int.tdiv (wrap64 (bt a0 1)) 8)), .int .i64 (wrap64 (bt a0 3)), .int .i64 bp, .int .i64 0, .string (a0.extract 8 12), .string (a0.extract 16 20), .slice none 0 0, .int .i64 0, .string ⟨#[]⟩, .slice fB aM.length fC]) Z2 Z22 ?_
                  intro sN hbS_ sS_
                  replace hbS_ := Aside0.mk hbS_
                  replace sS_ : Aside0 (Pre.Sets ab qS sN) := ⟨⟨sS_.os, sS_.tape, sS_.output, sS_.size, sS_.block⟩⟩
                  have bl : Aside0 (Kd.R k48 48 sN w.heap.size (fun _ => True) (.slice fB aM.length fC) aM) := ⟨Kd.R_mono (Pre.R_sets sS_.out (Kd.R_types bw.out aa.out Z27) (fun _ hk => hk.2)) (fun _ hk => trivial)⟩
                  have bm : Aside0 (sN.heap[ab]? = some (.cells #[.int .i64 3, .int .i64 0, .int .i64 0, .string ⟨#[]⟩, .int .i64 0, .int .i64 0, .string ⟨#[]⟩, .int .i64 0, .int .i64 0, .string ⟨#[]⟩, .int .i64 0, .string ⟨#[]⟩, .int .i64 aQ, .int .i64 ba, .int .i64 0, .int .i64 (wrap64 (Int.tdiv (wrap64 (bt a0 1)) 8)), .int .i64 (wrap64 (bt a0 3)), .int .i64 bp, .int .i64 0, .string (a0.extract 8 12), .string (a0.extract 16 20), .slice none 0 0, .int .i64 0, .string ⟨#[]⟩, .slice fB aM.length fC] 25 (0, 0))) := ⟨hbS_.out⟩
                  have bI : Aside0 (Below w.heap.size w sN) := ⟨sS_.out.below Z0 bf.out⟩
                  clear hbS_ sS_
                  (try clear bw)
                  (try clear aa)
                  (try clear HB)
                  have bw := bl
                  have aa := bm
                  have HB := bI
                  clear bl bm bI
                  try go_wp2_with (first | ((with_reducible refine gate_dst (N := 58) rfl ?_); refine Pre.build_event 58 25 [(0, Go.Operand.const (Go.Value.int Go.IntKind.i64 3)), (15, Go.Operand.tmp 40), (16, Go.Operand.tmp 43), (17, Go.Operand.tmp 46), (19, Go.Operand.tmp 48), (12, Go.Operand.tmp 51), (20, Go.Operand.tmp 53), (13, Go.Operand.tmp 56), (24, Go.Operand.tmp 57)] rfl rfl rfl (roadbookref14_Get.bd58 _ _ _ _ _ _ _ _ _ _ _) ?_))
                  refine bodyPost_ret (results_ctt rfl _ _ ab 25 #[.int .i64 3, .int .i64 0, .int .i64 0, .string ⟨#[]⟩, .int .i64 0, .int .i64 0, .string ⟨#[]⟩, .int .i64 0, .int .i64 0, .string ⟨#[]⟩, .int .i64 0, .string ⟨#[]⟩, .int .i64 aQ, .int .i64 ba, .int .i64 0, .int .i64 (wrap64 (Int.tdiv (wrap64 (bt a0 1)) 8)), .int .i64 (wrap64 (bt a0 3)), .int .i64 bp, .int .i64 0, .string (a0.extract 8 12), .string (a0.extract 16 20), .slice none 0 0, .int .i64 0, .string ⟨#[]⟩, .slice fB aM.length fC] (0, 0) _ rfl Z2 Try.underlying25 rfl Z14) rfl ?_
                  exact ⟨_, _, Z5, Z7, Z47, Z0⟩
                 ·rw [if_neg kS] at H
                  exact absurd H Z59
                ·rw [if_neg ih] at H
                 exact absurd H Z59
               ·rw [if_neg iS] at H
                exact absurd H Z59
              ·rw [if_neg mQ] at H
               exact absurd H Z59
             ·rw [if_neg mf] at H
              exact absurd H Z59
            ·rw [if_neg jM] at H
             exact absurd H Z59
           ·rw [if_neg jH] at H
            exact absurd H Z59
          ·rw [if_neg dP] at H
           exact absurd H Z59
         ·rw [if_neg nz] at H
          exact absurd H Z59
        ·rw [if_neg eF] at H
         exact absurd H Z59
       ·rw [if_neg gb] at H
        exact absurd H Z59
      ·rw [if_neg gu] at H
       have iV : (aV == 0) = false := beq_eq_false_iff_ne.mpr gu
       have kw : (aV != 0) = true := bne_iff_ne.mpr gu
       simp only [Option.some.injEq, Prod.mk.injEq] at H
       obtain ⟨rfl, rfl, rfl, rfl, rfl, rfl, rfl, rfl, rfl, rfl, rfl, rfl, rfl, rfl, rfl, rfl, rfl, rfl, rfl, rfl, rfl, rfl, rfl, rfl, rfl, rfl, rfl⟩ := H
       go_wp2_with (first | ((with_reducible refine gate_dst (N := 58) rfl ?_); refine Pre.build_event 58 25 [(0, Go.Operand.const (Go.Value.int Go.IntKind.i64 3)), (15, Go.Operand.tmp 40), (16, Go.Operand.tmp 43), (17, Go.Operand.tmp 46), (19, Go.Operand.tmp 48), (12, Go.Operand.tmp 51), (20, Go.Operand.tmp 53), (13, Go.Operand.tmp 56), (24, Go.Operand.tmp 57)] rfl rfl rfl (roadbookref14_Get.bd58 _ _ _ _ _ _ _ _ _ _ _) ?_) | ((with_reducible refine gate_callee (f := 63) rfl ?_); refine goesL_ (some 27) rfl rfl Try.func63 Z14 rfl #[.string (a0.extract 24 a0.size)] rfl Z4 ?_; (with_reducible refine (roadbookref13_Get.calls kj5 (a0.extract 24 a0.size) aM aX aV _ sG.out).mono ?_); rintro e qe ⟨il, rfl, ho0, hb⟩; refine ⟨_, rfl, ?_⟩; have bw := Aside0.mk (Kd.R_lower ho0 (below_size Z0)); replace aa := Aside0.mk (blk_below (g := ab) Z2 hb); replace HB := Aside0.mk (below_step Z0 hb); clear hb ho0; have hcz66 := cells_25 aa.out) | ((with_reducible refine Pre.gate_store 25 rfl ?_); refine Pre.store_abs (cur := #[.int .i64 0, .int .i64 0, .int .i64 0, .string ⟨#[]⟩, .int .i64 0, .int .i64 0, .string ⟨#[]⟩, .int .i64 0, .int .i64 0, .string ⟨#[]⟩, .int .i64 0, .string ⟨#[]⟩, .int .i64 0, .int .i64 0, .int .i64 0, .int .i64 0, .int .i64 0, .int .i64 0, .int .i64 0, .string ⟨#[]⟩, .string ⟨#[]⟩, .slice none 0 0, .int .i64 0, .string ⟨#[]⟩, .slice none 0 0]) (e := 25) rfl rfl rfl Z22 Z22 Z2 Z14 Z22 Z22 ?_; intro sE hbS_ sS_; have bl : Aside0 (Kd.R k48 48 sE w.heap.size (fun _ => True) il aM) := ⟨Kd.R_mono (Pre.R_sets sS_ (Kd.R_types bw.out aa.out Z27) (fun _ hk => hk.2)) (fun _ hk => trivial)⟩; have bm : Aside0 (sE.heap[ab]? = some (.cells #[.int .i64 0, .int .i64 0, .int .i64 0, .string ⟨#[]⟩, .int .i64 0, .int .i64 0, .string ⟨#[]⟩, .int .i64 0, .int .i64 0, .string ⟨#[]⟩, .int .i64 0, .string ⟨#[]⟩, .int .i64 0, .int .i64 0, .int .i64 0, .int .i64 0, .int .i64 0, .int .i64 0, .int .i64 0, .string ⟨#[]⟩, .string ⟨#[]⟩, .slice none 0 0, .int .i64 0, .string ⟨#[]⟩, .slice none 0 0] 25 (0, 0))) := ⟨hbS_⟩; have bI : Aside0 (Below w.heap.size w sE) := ⟨sS_.below Z0 bf.out⟩; clear hbS_ sS_; replace bw := bl; replace aa := bm; replace HB := bI; clear bl bm bI))
       refine bodyPost_ret (results_ctt rfl _ _ ab 25 #[.int .i64 0, .int .i64 0, .int .i64 0, .string ⟨#[]⟩, .int .i64 0, .int .i64 0, .string ⟨#[]⟩, .int .i64 0, .int .i64 0, .string ⟨#[]⟩, .int .i64 0, .string ⟨#[]⟩, .int .i64 0, .int .i64 0, .int .i64 0, .int .i64 0, .int .i64 0, .int .i64 0, .int .i64 0, .string ⟨#[]⟩, .string ⟨#[]⟩, .slice none 0 0, .int .i64 0, .string ⟨#[]⟩, .slice none 0 0] (0, 0) _ rfl Z2 Try.underlying25 rfl Z14) rfl ?_
       exact ⟨_, _, Z5, Z7, Z20, Z0⟩
     ·rw [if_neg fa] at H
      exact absurd H Z59

end Go.Proofs.Ytccjakjjaemmkaa.PAP
