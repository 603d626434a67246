-- Written by mp.py, a program of this work (wip/tools), out of the translation; Lean checks it.
import Derived.Test.YtccjakjjaemmkaaPRx0
import Derived.Test.YtccjakjjaemmkaaPRxroadbookref08
import Derived.Test.YtccjakjjaemmkaaPRxroadbookref13
import Derived.Test.YtccjakjjaemmkaaAbs
namespace Go.Proofs.Ytccjakjjaemmkaa.PR
open Go.RowKit Go.Proofs.YtccjakjjaemmkaaW.PrintWords Go.Proofs.YtccjakjjaemmkaaW.PrintLast Go.Proofs.YtccjakjjaemmkaaW.PrintMore
attribute [local go_sem] max2_int min2_int max_two min_two max_three min_three max_four min_four   -- for this text's walks alone
set_option linter.unusedVariables false
set_option linter.unusedSimpArgs false

/-! ### roadbookref14_Get: function 23 -/
def roadbookref14_Get.j0 : Nat → ByteArray → Bool → Option (Int × Int × Int × ByteArray × Int × Int × ByteArray × Int × Int × ByteArray × Int × ByteArray × Int × Int × Int × Int × Int × Int × Int × ByteArray × ByteArray × (List (S46)) × Int × ByteArray × (List (S48)) × Int × Int)
  | 0, _, _ => none
  | k + 1, x0, x22 => if x22 = true then (some (0, 0, 0, (⟨#[]⟩ : ByteArray), 0, 0, (⟨#[]⟩ : ByteArray), 0, 0, (⟨#[]⟩ : ByteArray), 0, (⟨#[]⟩ : ByteArray), 0, 0, 0, 0, 0, 0, 0, (⟨#[]⟩ : ByteArray), (⟨#[]⟩ : ByteArray), ([] : List (S46)), 0, (⟨#[]⟩ : ByteArray), ([] : List (S48)), 1, 5)) else (if 24 ≤ (x0.size : Int) then ((roadbookref13_Get.f k (x0.extract 24 x0.size)).bind fun bt102 => (if bt102.2.2 = 0 then (if 1 < (x0.size : Int) then (if 3 < (x0.size : Int) then (if 4 ≤ 8 then (if 8 ≤ (x0.size : Int) then ((roadbookref08_Number.f k (x0.extract 4 8)).bind fun t107 => (if 8 ≤ 12 then (if 12 ≤ (x0.size : Int) then (if 12 ≤ 16 then (if 16 ≤ (x0.size : Int) then ((roadbookref08_Number.f k (x0.extract 12 16)).bind fun t108 => (if 16 ≤ 20 then (if 20 ≤ (x0.size : Int) then (if 20 ≤ 24 then ((roadbookref08_Number.f k (x0.extract 20 24)).bind fun t109 => (some (3, 0, 0, (⟨#[]⟩ : ByteArray), 0, 0, (⟨#[]⟩ : ByteArray), 0, 0, (⟨#[]⟩ : ByteArray), 0, (⟨#[]⟩ : ByteArray), t108, t109, 0, wrap64 (Int.tdiv (wrap64 (bt x0 1)) 8), wrap64 (bt x0 3), t107, 0, x0.extract 8 12, x0.extract 16 20, ([] : List (S46)), 0, (⟨#[]⟩ : ByteArray), bt102.1, 0, 0))) else (none)) else (none)) else (none))) else (none)) else (none)) else (none)) else (none))) else (none)) else (none)) else (none)) else (none)) else (some (0, 0, 0, (⟨#[]⟩ : ByteArray), 0, 0, (⟨#[]⟩ : ByteArray), 0, 0, (⟨#[]⟩ : ByteArray), 0, (⟨#[]⟩ : ByteArray), 0, 0, 0, 0, 0, 0, 0, (⟨#[]⟩ : ByteArray), (⟨#[]⟩ : ByteArray), ([] : List (S46)), 0, (⟨#[]⟩ : ByteArray), ([] : List (S48)), wrap64 (24 + bt102.2.1), bt102.2.2)))) else (none))
def roadbookref14_Get.f (k : Nat) (a0 : ByteArray) : Option (Int × Int × Int × ByteArray × Int × Int × ByteArray × Int × Int × ByteArray × Int × ByteArray × Int × Int × Int × Int × Int × Int × Int × ByteArray × ByteArray × (List (S46)) × Int × ByteArray × (List (S48)) × Int × Int) := if (a0.size : Int) < 24 then (some (0, 0, 0, (⟨#[]⟩ : ByteArray), 0, 0, (⟨#[]⟩ : ByteArray), 0, 0, (⟨#[]⟩ : ByteArray), 0, (⟨#[]⟩ : ByteArray), 0, 0, 0, 0, 0, 0, 0, (⟨#[]⟩ : ByteArray), (⟨#[]⟩ : ByteArray), ([] : List (S46)), 0, (⟨#[]⟩ : ByteArray), ([] : List (S48)), (a0.size : Int), 2)) else (if 1 < (a0.size : Int) then (if (Int.tmod (bt a0 1) 8) = 0 then (if 2 < (a0.size : Int) then (roadbookref14_Get.j0 k a0 ((bt a0 2) != 0)) else (none)) else (roadbookref14_Get.j0 k a0 true)) else (none))
theorem roadbookref14_Get.mono_l : ∀ k, (∀ y0 y1, LeO (roadbookref14_Get.j0 k y0 y1) (roadbookref14_Get.j0 (k + 1) y0 y1))
  | 0 => fun _ _ r h => by simp [roadbookref14_Get.j0] at h
  | k + 1 => by
    have ih0 := roadbookref14_Get.mono_l k
    · intro y0 y1
      unfold roadbookref14_Get.j0
      repeat' first
      | (with_reducible exact ih0 _ _)
      | (with_reducible exact roadbookref08_Number.mono _ _)
      | (with_reducible exact roadbookref13_Get.mono _ _)
      | (with_reducible exact LeO.refl _)
      | (with_reducible exact LeO.none _)
      | (with_reducible refine LeO.ite ?_ ?_)
      | (with_reducible refine LeO.bind ?_ (fun _ => ?_))
      | exact ih0 _ _
      | exact roadbookref08_Number.mono _ _
      | exact roadbookref13_Get.mono _ _
      | exact LeO.none _
      | refine LeO.ite ?_ ?_
      | refine LeO.bind ?_ (fun _ => ?_)
theorem roadbookref14_Get.mono : ∀ a0 k, LeO (roadbookref14_Get.f k a0) (roadbookref14_Get.f (k + 1) a0) := by
  intro a0 k
  have ih0 := roadbookref14_Get.mono_l k
  unfold roadbookref14_Get.f
  repeat' first
      | (with_reducible exact ih0 _ _)
      | (with_reducible exact roadbookref08_Number.mono _ _)
      | (with_reducible exact roadbookref13_Get.mono _ _)
      | (with_reducible exact LeO.refl _)
      | (with_reducible exact LeO.none _)
      | (with_reducible refine LeO.ite ?_ ?_)
      | (with_reducible refine LeO.bind ?_ (fun _ => ?_))
      | exact ih0 _ _
      | exact roadbookref08_Number.mono _ _
      | exact roadbookref13_Get.mono _ _
      | exact LeO.none _
      | refine LeO.ite ?_ ?_
      | refine LeO.bind ?_ (fun _ => ?_)
def roadbookref14_Get.T8 : Bool × List (List Nat × List Nat) := (true, [([], []), ([0], [0]), ([1], [1]), ([2], [2]), ([], []), ([4], [4]), ([5], [5]), ([], []), ([7], [7]), ([8], [8]), ([], []), ([10], [10]), ([], []), ([12], [12]), ([13, 9], [13]), ([], []), ([15], [15]), ([], []), ([17], [17]), ([18, 14], [18]), ([], []), ([3, 6, 9, 11, 14, 16, 19, 20], [3, 6, 9, 11, 14, 16, 19, 20]), ([21, 19, 0, 1, 2, 3, 4, 5, 6, 7, 8, 9, 10, 11, 12, 13, 14, 15, 16, 17, 18, 19, 20, 21], [21]), ([22, 0, 1, 2, 3, 4, 5, 6, 7, 8, 9, 10, 11, 12, 13, 14, 15, 16, 17, 18, 19, 20, 21, 22], []), ([23, 0, 1, 2, 3, 4, 5, 6, 7, 8, 9, 10, 11, 12, 13, 14, 15, 16, 17, 18, 19, 20, 21, 22, 23], [])])
def roadbookref14_Get.B8 : List Nat := [0, 1, 3, 7, 0, 16, 48, 0, 128, 384, 0, 1024, 0, 4096, 13184, 0, 32768, 0, 131072, 422784, 0, 2097151, 4194303, 8388607, 16777215]
theorem roadbookref14_Get.tab8 : rtab .any (opsOf Try.f23 8) = roadbookref14_Get.T8 := by kernel_rfl
theorem roadbookref14_Get.bits8 : waitsOk roadbookref14_Get.T8.2 roadbookref14_Get.B8 = true := by kernel_rfl
set_option maxRecDepth 100000 in
theorem roadbookref14_Get.bd58 (v0 : Int) (v15 : Int) (v16 : Int) (v17 : Int) (v19 : ByteArray) (v12 : Int) (v20 : ByteArray) (v13 : Int) (v24 : Option Addr) (n24 c24 : Nat) : Try.prog.built 25 [(0, .int .i64 v0), (15, .int .i64 v15), (16, .int .i64 v16), (17, .int .i64 v17), (19, .string v19), (12, .int .i64 v12), (20, .string v20), (13, .int .i64 v13), (24, .slice v24 n24 c24)] = some #[.int .i64 v0, .int .i64 0, .int .i64 0, .string (⟨#[]⟩ : ByteArray), .int .i64 0, .int .i64 0, .string (⟨#[]⟩ : ByteArray), .int .i64 0, .int .i64 0, .string (⟨#[]⟩ : ByteArray), .int .i64 0, .string (⟨#[]⟩ : ByteArray), .int .i64 v12, .int .i64 v13, .int .i64 0, .int .i64 v15, .int .i64 v16, .int .i64 v17, .int .i64 0, .string v19, .string v20, .slice none 0 0, .int .i64 0, .string (⟨#[]⟩ : ByteArray), .slice v24 n24 c24] := by kernel_rfl
set_option maxHeartbeats 8000000 in
set_option maxRecDepth 100000 in
theorem roadbookref14_Get.calls (k : Nat) (a0 : ByteArray) (r1 : Int) (r2 : Int) (r3 : Int) (r4 : ByteArray) (r5 : Int) (r6 : Int) (r7 : ByteArray) (r8 : Int) (r9 : Int) (r10 : ByteArray) (r11 : Int) (r12 : ByteArray) (r13 : Int) (r14 : Int) (r15 : Int) (r16 : Int) (r17 : Int) (r18 : Int) (r19 : Int) (r20 : ByteArray) (r21 : ByteArray) (r22 : List (S46)) (r23 : Int) (r24 : ByteArray) (r25 : List (S48)) (r26 : Int) (r27 : Int) (w : World) (h : roadbookref14_Get.f k a0 = some (r1, r2, r3, r4, r5, r6, r7, r8, r9, r10, r11, r12, r13, r14, r15, r16, r17, r18, r19, r20, r21, r22, r23, r24, r25, r26, r27)) :
    Calls Try.prog 23 #[.string a0] w fun e w' => ∃ v21_ v24_ : Value, e = .returned (.tuple #[.agg #[.int .i64 r1, .int .i64 r2, .int .i64 r3, .string r4, .int .i64 r5, .int .i64 r6, .string r7, .int .i64 r8, .int .i64 r9, .string r10, .int .i64 r11, .string r12, .int .i64 r13, .int .i64 r14, .int .i64 r15, .int .i64 r16, .int .i64 r17, .int .i64 r18, .int .i64 r19, .string r20, .string r21, v21_, .int .i64 r23, .string r24, v24_], .int .i64 r26, .int .i64 r27]) ∧ Kd.R k46 46 w' w.heap.size (fun _ => True) v21_ r22 ∧ Kd.R k48 48 w' w.heap.size (fun _ => True) v24_ r25 ∧ Below w.heap.size w w' := by
  have hu25 := Try.underlying25
  have HB := Aside0.mk (Below.refl w.heap.size w)
  have H : (if (a0.size : Int) < 24 then (some (0, 0, 0, (⟨#[]⟩ : ByteArray), 0, 0, (⟨#[]⟩ : ByteArray), 0, 0, (⟨#[]⟩ : ByteArray), 0, (⟨#[]⟩ : ByteArray), 0, 0, 0, 0, 0, 0, 0, (⟨#[]⟩ : ByteArray), (⟨#[]⟩ : ByteArray), ([] : List (S46)), 0, (⟨#[]⟩ : ByteArray), ([] : List (S48)), (a0.size : Int), 2)) else (if 1 < (a0.size : Int) then (if (Int.tmod (bt a0 1) 8) = 0 then (if 2 < (a0.size : Int) then (roadbookref14_Get.j0 k a0 ((bt a0 2) != 0)) else (none)) else (roadbookref14_Get.j0 k a0 true)) else (none))) = some (r1, r2, r3, r4, r5, r6, r7, r8, r9, r10, r11, r12, r13, r14, r15, r16, r17, r18, r19, r20, r21, r22, r23, r24, r25, r26, r27) := h
  clear h
  by_cases c2 : (a0.size : Int) < 24
  · rw [if_pos c2] at H
    have c2b0 : decide ((a0.size : Int) < 24) = true := decide_eq_true c2
    have c2b1 : decide (a0.size < 24) = true := decide_eq_true (by omega)
    clear c2
    simp only [Option.some.injEq, Prod.mk.injEq] at H
    obtain ⟨rfl, rfl, rfl, rfl, rfl, rfl, rfl, rfl, rfl, rfl, rfl, rfl, rfl, rfl, rfl, rfl, rfl, rfl, rfl, rfl, rfl, rfl, rfl, rfl, rfl, rfl, rfl⟩ := H
    go_enter Try.func23, Try.ntmps23
    go_wp2_with (first | ((with_reducible refine gate_dst (N := 58) rfl ?_); refine Go.Proofs.Ytccjakjjaemmkaa.Pre.build_event 58 25 [(0, Go.Operand.const (Go.Value.int Go.IntKind.i64 3)), (15, Go.Operand.tmp 40), (16, Go.Operand.tmp 43), (17, Go.Operand.tmp 46), (19, Go.Operand.tmp 48), (12, Go.Operand.tmp 51), (20, Go.Operand.tmp 53), (13, Go.Operand.tmp 56), (24, Go.Operand.tmp 57)] rfl rfl rfl (roadbookref14_Get.bd58 _ _ _ _ _ _ _ _ _ _ _) ?_) | ((with_reducible refine gate_dst (N := 2) rfl ?_); refine box_event ?hg (N := 2) ?hd (cs := #[.int .i64 0, .int .i64 0, .int .i64 0, .string (⟨#[]⟩ : ByteArray), .int .i64 0, .int .i64 0, .string (⟨#[]⟩ : ByteArray), .int .i64 0, .int .i64 0, .string (⟨#[]⟩ : ByteArray), .int .i64 0, .string (⟨#[]⟩ : ByteArray), .int .i64 0, .int .i64 0, .int .i64 0, .int .i64 0, .int .i64 0, .int .i64 0, .int .i64 0, .string (⟨#[]⟩ : ByteArray), .string (⟨#[]⟩ : ByteArray), .slice none 0 0, .int .i64 0, .string (⟨#[]⟩ : ByteArray), .slice none 0 0]) (t := 25) ?hr ?_; (case hd => rfl); (case hg => rfl); (case hr => first | (go_simp; done) | (go_simp; rfl)); intro gb101 hg w3 hbox hb; have n0_ := Aside0.mk (below_step (by repeat (first | (with_reducible first | exact HB.out | apply below_alloc | apply pw_below_drewN | apply below_drew1) | exact HB.out)) hb); have n1_ := Aside0.mk (hbox); have n2_ := Aside0.mk ((by rw [hg]; exact (below_size (by repeat (first | (with_reducible first | exact HB.out | apply below_alloc | apply pw_below_drewN | apply below_drew1) | exact HB.out))) : w.heap.size ≤ gb101)); have n3_ := Aside0.mk ((by rw [hg]; exact (below_size (by repeat (first | (with_reducible first | exact HB.out | apply below_alloc | apply pw_below_drewN | apply below_drew1) | exact HB.out))) : w.heap.size ≤ gb101)); clear HB; have HB := n0_; have BK101 := n1_; have GW101 := n2_; have GE101 := n3_; clear n0_ n1_ n2_ n3_; clear hb hbox hg; obtain ⟨hcz4_0, hcz4_1, hcz4_2, hcz4_3, hcz4_4, hcz4_5, hcz4_6, hcz4_7, hcz4_8, hcz4_9, hcz4_10, hcz4_11, hcz4_12, hcz4_13, hcz4_14, hcz4_15, hcz4_16, hcz4_17, hcz4_18, hcz4_19, hcz4_20, hcz4_21, hcz4_22, hcz4_23, hcz4_24, hfz4_0, hfz4_1, hfz4_2, hfz4_3, hfz4_4, hfz4_5, hfz4_6, hfz4_7, hfz4_8, hfz4_9, hfz4_10, hfz4_11, hfz4_12, hfz4_13, hfz4_14, hfz4_15, hfz4_16, hfz4_17, hfz4_18, hfz4_19, hfz4_20, hfz4_21, hfz4_22, hfz4_23, hfz4_24⟩ := cells_25 BK101.out) | ((with_reducible refine Go.Proofs.Ytccjakjjaemmkaa.Pre.gate_store 25 rfl ?_); refine Go.Proofs.Ytccjakjjaemmkaa.Pre.store_abs (cur := #[.int .i64 0, .int .i64 0, .int .i64 0, .string (⟨#[]⟩ : ByteArray), .int .i64 0, .int .i64 0, .string (⟨#[]⟩ : ByteArray), .int .i64 0, .int .i64 0, .string (⟨#[]⟩ : ByteArray), .int .i64 0, .string (⟨#[]⟩ : ByteArray), .int .i64 0, .int .i64 0, .int .i64 0, .int .i64 0, .int .i64 0, .int .i64 0, .int .i64 0, .string (⟨#[]⟩ : ByteArray), .string (⟨#[]⟩ : ByteArray), .slice none 0 0, .int .i64 0, .string (⟨#[]⟩ : ByteArray), .slice none 0 0]) (e := 25) rfl rfl rfl (by rfl) (by rfl) (by (with_reducible repeat (first | refine blk_drewN ?_ _ | refine blk_drew ?_ | refine blk_alloc ?_ _)); exact BK101.out) (by kernel_rfl) (by rfl) (by rfl) ?_; intro w5 hbS_ sS_; have n0_ : Aside0 (w5.heap[gb101]? = some (.cells #[.int .i64 0, .int .i64 0, .int .i64 0, .string (⟨#[]⟩ : ByteArray), .int .i64 0, .int .i64 0, .string (⟨#[]⟩ : ByteArray), .int .i64 0, .int .i64 0, .string (⟨#[]⟩ : ByteArray), .int .i64 0, .string (⟨#[]⟩ : ByteArray), .int .i64 0, .int .i64 0, .int .i64 0, .int .i64 0, .int .i64 0, .int .i64 0, .int .i64 0, .string (⟨#[]⟩ : ByteArray), .string (⟨#[]⟩ : ByteArray), .slice none 0 0, .int .i64 0, .string (⟨#[]⟩ : ByteArray), .slice none 0 0] 25 (0, 0))) := ⟨hbS_⟩; have n1_ : Aside0 (Below w.heap.size w w5) := ⟨sS_.below (by repeat (first | (with_reducible first | exact HB.out | apply below_alloc | apply pw_below_drewN | apply below_drew1 | refine below_set ?_ GE101.out) | exact HB.out)) GE101.out⟩; clear hbS_ sS_; clear BK101; clear HB; have BK101 := n0_; have HB := n1_; clear n0_ n1_))
    refine bodyPost_ret (results_ctt rfl _ _ gb101 25 #[.int .i64 0, .int .i64 0, .int .i64 0, .string (⟨#[]⟩ : ByteArray), .int .i64 0, .int .i64 0, .string (⟨#[]⟩ : ByteArray), .int .i64 0, .int .i64 0, .string (⟨#[]⟩ : ByteArray), .int .i64 0, .string (⟨#[]⟩ : ByteArray), .int .i64 0, .int .i64 0, .int .i64 0, .int .i64 0, .int .i64 0, .int .i64 0, .int .i64 0, .string (⟨#[]⟩ : ByteArray), .string (⟨#[]⟩ : ByteArray), .slice none 0 0, .int .i64 0, .string (⟨#[]⟩ : ByteArray), .slice none 0 0] (0, 0) _ rfl (by (with_reducible repeat (first | refine blk_drewN ?_ _ | refine blk_drew ?_ | refine blk_alloc ?_ _)); exact BK101.out) Try.underlying25 rfl (by kernel_rfl)) rfl ?_
    exact ⟨_, _, by first | rfl | (simp [errW_none, errW_some] <;> rfl) | (simp [*, errW_none, errW_some] <;> rfl), by first | exact Kd.R_nil _ _ _ _ _ | exact Kd.N_nil _ _ _ _ _ | exact Kd.V_nil _ _ _ _ _ | exact Kd.Q_nil _ _ _ _ _ | exact Kd.S_nil _ _ _ _ _, by first | exact Kd.R_nil _ _ _ _ _ | exact Kd.N_nil _ _ _ _ _ | exact Kd.V_nil _ _ _ _ _ | exact Kd.Q_nil _ _ _ _ _ | exact Kd.S_nil _ _ _ _ _, by repeat (first | (with_reducible first | exact HB.out | apply below_alloc | apply pw_below_drewN | apply below_drew1 | refine below_set ?_ GE101.out) | exact HB.out)⟩
  · rw [if_neg c2] at H
    have c2b0 : decide ((a0.size : Int) < 24) = false := decide_eq_false c2
    have c2b1 : decide (a0.size < 24) = false := decide_eq_false (by omega)
    clear c2
    have HC6 := Aside0.mk H
    clear H
    go_enter Try.func23, Try.ntmps23
    go_upto_region 3 with (first | ((with_reducible refine gate_dst (N := 58) rfl ?_); refine Go.Proofs.Ytccjakjjaemmkaa.Pre.build_event 58 25 [(0, Go.Operand.const (Go.Value.int Go.IntKind.i64 3)), (15, Go.Operand.tmp 40), (16, Go.Operand.tmp 43), (17, Go.Operand.tmp 46), (19, Go.Operand.tmp 48), (12, Go.Operand.tmp 51), (20, Go.Operand.tmp 53), (13, Go.Operand.tmp 56), (24, Go.Operand.tmp 57)] rfl rfl rfl (roadbookref14_Get.bd58 _ _ _ _ _ _ _ _ _ _ _) ?_) | ((with_reducible refine gate_dst (N := 2) rfl ?_); refine box_event ?hg (N := 2) ?hd (cs := #[.int .i64 0, .int .i64 0, .int .i64 0, .string (⟨#[]⟩ : ByteArray), .int .i64 0, .int .i64 0, .string (⟨#[]⟩ : ByteArray), .int .i64 0, .int .i64 0, .string (⟨#[]⟩ : ByteArray), .int .i64 0, .string (⟨#[]⟩ : ByteArray), .int .i64 0, .int .i64 0, .int .i64 0, .int .i64 0, .int .i64 0, .int .i64 0, .int .i64 0, .string (⟨#[]⟩ : ByteArray), .string (⟨#[]⟩ : ByteArray), .slice none 0 0, .int .i64 0, .string (⟨#[]⟩ : ByteArray), .slice none 0 0]) (t := 25) ?hr ?_; (case hd => rfl); (case hg => rfl); (case hr => first | (go_simp; done) | (go_simp; rfl)); intro gb101 hg w7 hbox hb; have n0_ := Aside0.mk (below_step (by repeat (first | (with_reducible first | exact HB.out | apply below_alloc | apply pw_below_drewN | apply below_drew1) | exact HB.out)) hb); have n1_ := Aside0.mk (hbox); have n2_ := Aside0.mk ((by rw [hg]; exact (below_size (by repeat (first | (with_reducible first | exact HB.out | apply below_alloc | apply pw_below_drewN | apply below_drew1) | exact HB.out))) : w.heap.size ≤ gb101)); have n3_ := Aside0.mk ((by rw [hg]; exact (below_size (by repeat (first | (with_reducible first | exact HB.out | apply below_alloc | apply pw_below_drewN | apply below_drew1) | exact HB.out))) : w.heap.size ≤ gb101)); clear HB; have HB := n0_; have BK101 := n1_; have GW101 := n2_; have GE101 := n3_; clear n0_ n1_ n2_ n3_; clear hb hbox hg))
    (try simp only [Act.put, List.setIfInBounds_toArray, List.set_cons_zero, List.set_cons_succ])
    go_cut [22] (fun v22 wc => ∃ (kq : Nat) (x22_5 : Bool), v22 = .bool x22_5 ∧ Aside0 (roadbookref14_Get.j0 kq a0 x22_5 = some (r1, r2, r3, r4, r5, r6, r7, r8, r9, r10, r11, r12, r13, r14, r15, r16, r17, r18, r19, r20, r21, r22, r23, r24, r25, r26, r27)) ∧ Aside0 (kq ≤ k) ∧ Aside0 (wc.heap[gb101]? = some (.cells #[.int .i64 0, .int .i64 0, .int .i64 0, .string (⟨#[]⟩ : ByteArray), .int .i64 0, .int .i64 0, .string (⟨#[]⟩ : ByteArray), .int .i64 0, .int .i64 0, .string (⟨#[]⟩ : ByteArray), .int .i64 0, .string (⟨#[]⟩ : ByteArray), .int .i64 0, .int .i64 0, .int .i64 0, .int .i64 0, .int .i64 0, .int .i64 0, .int .i64 0, .string (⟨#[]⟩ : ByteArray), .string (⟨#[]⟩ : ByteArray), (.slice none 0 0), .int .i64 0, .string (⟨#[]⟩ : ByteArray), (.slice none 0 0)] 25 (0, 0))) ∧ Aside0 (Below w.heap.size w wc))
    case first =>
      have H := HC6.out
      clear HC6
      by_cases c8 : 1 < (a0.size : Int)
      · rw [if_pos c8] at H
        have c8b0 : decide (1 < (a0.size : Int)) = true := decide_eq_true c8
        have c8b1 : decide (1 < a0.size) = true := decide_eq_true (by omega)
        clear c8
        (first | rw [c8b0] | (simp only [i64_w, i32_w]; rw [c8b0]) | skip)
        by_cases c10 : (Int.tmod (bt a0 1) 8) = 0
        · rw [if_pos c10] at H
          have c10b0 : ((Int.tmod (bt a0 1) 8) == 0) = true := beq_iff_eq.mpr c10
          have c10b1 : ((Int.tmod (bt a0 1) 8) != 0) = false := bne_eq_false_iff_eq.mpr c10
          clear c10
          by_cases c11 : 2 < (a0.size : Int)
          · rw [if_pos c11] at H
            have c11b0 : decide (2 < (a0.size : Int)) = true := decide_eq_true c11
            have c11b1 : decide (2 < a0.size) = true := decide_eq_true (by omega)
            clear c11
            have H' := Aside0.mk H
            clear H
            have p9 : 0 ≤ (1 : Int) := (by omega)
            have q9 : 1 < a0.size := (by have : (1 : Int) < (a0.size : Int) := of_decide_eq_true (by first | (with_reducible assumption) | assumption); omega)
            have hx9 : ∀ h : 1 < a0.size, ((a0[1]'h).toNat : Int) = bt a0 1 := bt_at a0 1
            clear p9
            have qi9 : (1 < (a0.size : Int)) = True := eq_true (of_decide_eq_true (by first | (with_reducible assumption) | assumption))
            replace q9 := eq_true q9
            have p12 : 0 ≤ (2 : Int) := (by omega)
            have q12 : 2 < a0.size := (by have : (2 : Int) < (a0.size : Int) := of_decide_eq_true (by first | (with_reducible assumption) | assumption); omega)
            have hx12 : ∀ h : 2 < a0.size, ((a0[2]'h).toNat : Int) = bt a0 2 := bt_at a0 2
            clear p12
            have qi12 : (2 < (a0.size : Int)) = True := eq_true (of_decide_eq_true (by first | (with_reducible assumption) | assumption))
            replace q12 := eq_true q12
            go_wp2_with (first | ((with_reducible refine gate_dst (N := 58) rfl ?_); refine Go.Proofs.Ytccjakjjaemmkaa.Pre.build_event 58 25 [(0, Go.Operand.const (Go.Value.int Go.IntKind.i64 3)), (15, Go.Operand.tmp 40), (16, Go.Operand.tmp 43), (17, Go.Operand.tmp 46), (19, Go.Operand.tmp 48), (12, Go.Operand.tmp 51), (20, Go.Operand.tmp 53), (13, Go.Operand.tmp 56), (24, Go.Operand.tmp 57)] rfl rfl rfl (roadbookref14_Get.bd58 _ _ _ _ _ _ _ _ _ _ _) ?_))
            go_meet
            case rel => exact ⟨_, (((bt a0 2) != 0)), (by first | rfl | (simp; done) | (simp [*]; done)), H', ⟨by first | omega | exact Nat.le_refl _⟩, ⟨by (with_reducible repeat (first | refine blk_drewN ?_ _ | refine blk_drew ?_ | refine blk_alloc ?_ _)); exact BK101.out⟩, ⟨by repeat (first | (with_reducible first | exact HB.out | apply below_alloc | apply pw_below_drewN | apply below_drew1 | refine below_set ?_ GE101.out) | exact HB.out)⟩⟩
          · rw [if_neg c11] at H
            exact absurd H (by simp)
        · rw [if_neg c10] at H
          have c10b0 : ((Int.tmod (bt a0 1) 8) == 0) = false := beq_eq_false_iff_ne.mpr c10
          have c10b1 : ((Int.tmod (bt a0 1) 8) != 0) = true := bne_iff_ne.mpr c10
          have H' := Aside0.mk H
          clear H
          have p9 : 0 ≤ (1 : Int) := (by omega)
          have q9 : 1 < a0.size := (by have : (1 : Int) < (a0.size : Int) := of_decide_eq_true (by first | (with_reducible assumption) | assumption); omega)
          have hx9 : ∀ h : 1 < a0.size, ((a0[1]'h).toNat : Int) = bt a0 1 := bt_at a0 1
          clear p9
          have qi9 : (1 < (a0.size : Int)) = True := eq_true (of_decide_eq_true (by first | (with_reducible assumption) | assumption))
          replace q9 := eq_true q9
          go_wp2_with (first | ((with_reducible refine gate_dst (N := 58) rfl ?_); refine Go.Proofs.Ytccjakjjaemmkaa.Pre.build_event 58 25 [(0, Go.Operand.const (Go.Value.int Go.IntKind.i64 3)), (15, Go.Operand.tmp 40), (16, Go.Operand.tmp 43), (17, Go.Operand.tmp 46), (19, Go.Operand.tmp 48), (12, Go.Operand.tmp 51), (20, Go.Operand.tmp 53), (13, Go.Operand.tmp 56), (24, Go.Operand.tmp 57)] rfl rfl rfl (roadbookref14_Get.bd58 _ _ _ _ _ _ _ _ _ _ _) ?_))
          go_meet
          case rel => exact ⟨_, (true), (by first | rfl | (simp; done) | (simp [*]; done)), H', ⟨by first | omega | exact Nat.le_refl _⟩, ⟨by (with_reducible repeat (first | refine blk_drewN ?_ _ | refine blk_drew ?_ | refine blk_alloc ?_ _)); exact BK101.out⟩, ⟨by repeat (first | (with_reducible first | exact HB.out | apply below_alloc | apply pw_below_drewN | apply below_drew1 | refine below_set ?_ GE101.out) | exact HB.out)⟩⟩
      · rw [if_neg c8] at H
        exact absurd H (by simp)
    case rest =>
      clear HC6
      try clear c2
      try clear c2b0
      try clear c2b1
      try clear p2
      try clear hcz4_0
      try clear hcz4_1
      try clear hcz4_10
      try clear hcz4_11
      try clear hcz4_12
      try clear hcz4_13
      try clear hcz4_14
      try clear hcz4_15
      try clear hcz4_16
      try clear hcz4_17
      try clear hcz4_18
      try clear hcz4_19
      try clear hcz4_2
      try clear hcz4_20
      try clear hcz4_21
      try clear hcz4_22
      try clear hcz4_23
      try clear hcz4_24
      try clear hcz4_3
      try clear hcz4_4
      try clear hcz4_5
      try clear hcz4_6
      try clear hcz4_7
      try clear hcz4_8
      try clear hcz4_9
      try clear hfz4_0
      try clear hfz4_1
      try clear hfz4_10
      try clear hfz4_11
      try clear hfz4_12
      try clear hfz4_13
      try clear hfz4_14
      try clear hfz4_15
      try clear hfz4_16
      try clear hfz4_17
      try clear hfz4_18
      try clear hfz4_19
      try clear hfz4_2
      try clear hfz4_20
      try clear hfz4_21
      try clear hfz4_22
      try clear hfz4_23
      try clear hfz4_24
      try clear hfz4_3
      try clear hfz4_4
      try clear hfz4_5
      try clear hfz4_6
      try clear hfz4_7
      try clear hfz4_8
      try clear hfz4_9
      obtain ⟨kq, x22_5, rfl, HA, HJ5, BK101, HB⟩ := hcut
      cases kq with
      | zero => exact absurd HA.out (by simp [roadbookref14_Get.j0])
      | succ kj5 =>
        have H := HA.out
        clear HA
        simp only [roadbookref14_Get.j0] at H
        by_cases c13 : x22_5 = true
        · subst c13
          have H1 : (some (0, 0, 0, (⟨#[]⟩ : ByteArray), 0, 0, (⟨#[]⟩ : ByteArray), 0, 0, (⟨#[]⟩ : ByteArray), 0, (⟨#[]⟩ : ByteArray), 0, 0, 0, 0, 0, 0, 0, (⟨#[]⟩ : ByteArray), (⟨#[]⟩ : ByteArray), ([] : List (S46)), 0, (⟨#[]⟩ : ByteArray), ([] : List (S48)), 1, 5)) = some (r1, r2, r3, r4, r5, r6, r7, r8, r9, r10, r11, r12, r13, r14, r15, r16, r17, r18, r19, r20, r21, r22, r23, r24, r25, r26, r27) := by rw [if_pos rfl] at H; exact H
          clear H
          have H := H1
          clear H1
          simp only [Option.some.injEq, Prod.mk.injEq] at H
          obtain ⟨rfl, rfl, rfl, rfl, rfl, rfl, rfl, rfl, rfl, rfl, rfl, rfl, rfl, rfl, rfl, rfl, rfl, rfl, rfl, rfl, rfl, rfl, rfl, rfl, rfl, rfl, rfl⟩ := H
          obtain ⟨hcz14_0, hcz14_1, hcz14_2, hcz14_3, hcz14_4, hcz14_5, hcz14_6, hcz14_7, hcz14_8, hcz14_9, hcz14_10, hcz14_11, hcz14_12, hcz14_13, hcz14_14, hcz14_15, hcz14_16, hcz14_17, hcz14_18, hcz14_19, hcz14_20, hcz14_21, hcz14_22, hcz14_23, hcz14_24, hfz14_0, hfz14_1, hfz14_2, hfz14_3, hfz14_4, hfz14_5, hfz14_6, hfz14_7, hfz14_8, hfz14_9, hfz14_10, hfz14_11, hfz14_12, hfz14_13, hfz14_14, hfz14_15, hfz14_16, hfz14_17, hfz14_18, hfz14_19, hfz14_20, hfz14_21, hfz14_22, hfz14_23, hfz14_24⟩ := cells_25 BK101.out
          go_wp2_with (first | ((with_reducible refine gate_dst (N := 58) rfl ?_); refine Go.Proofs.Ytccjakjjaemmkaa.Pre.build_event 58 25 [(0, Go.Operand.const (Go.Value.int Go.IntKind.i64 3)), (15, Go.Operand.tmp 40), (16, Go.Operand.tmp 43), (17, Go.Operand.tmp 46), (19, Go.Operand.tmp 48), (12, Go.Operand.tmp 51), (20, Go.Operand.tmp 53), (13, Go.Operand.tmp 56), (24, Go.Operand.tmp 57)] rfl rfl rfl (roadbookref14_Get.bd58 _ _ _ _ _ _ _ _ _ _ _) ?_) | ((with_reducible refine Go.Proofs.Ytccjakjjaemmkaa.Pre.gate_store 25 rfl ?_); refine Go.Proofs.Ytccjakjjaemmkaa.Pre.store_abs (cur := #[.int .i64 0, .int .i64 0, .int .i64 0, .string (⟨#[]⟩ : ByteArray), .int .i64 0, .int .i64 0, .string (⟨#[]⟩ : ByteArray), .int .i64 0, .int .i64 0, .string (⟨#[]⟩ : ByteArray), .int .i64 0, .string (⟨#[]⟩ : ByteArray), .int .i64 0, .int .i64 0, .int .i64 0, .int .i64 0, .int .i64 0, .int .i64 0, .int .i64 0, .string (⟨#[]⟩ : ByteArray), .string (⟨#[]⟩ : ByteArray), .slice none 0 0, .int .i64 0, .string (⟨#[]⟩ : ByteArray), .slice none 0 0]) (e := 25) rfl rfl rfl (by rfl) (by rfl) (by (with_reducible repeat (first | refine blk_drewN ?_ _ | refine blk_drew ?_ | refine blk_alloc ?_ _)); exact BK101.out) (by kernel_rfl) (by rfl) (by rfl) ?_; intro w15 hbS_ sS_; have n0_ : Aside0 (w15.heap[gb101]? = some (.cells #[.int .i64 0, .int .i64 0, .int .i64 0, .string (⟨#[]⟩ : ByteArray), .int .i64 0, .int .i64 0, .string (⟨#[]⟩ : ByteArray), .int .i64 0, .int .i64 0, .string (⟨#[]⟩ : ByteArray), .int .i64 0, .string (⟨#[]⟩ : ByteArray), .int .i64 0, .int .i64 0, .int .i64 0, .int .i64 0, .int .i64 0, .int .i64 0, .int .i64 0, .string (⟨#[]⟩ : ByteArray), .string (⟨#[]⟩ : ByteArray), .slice none 0 0, .int .i64 0, .string (⟨#[]⟩ : ByteArray), .slice none 0 0] 25 (0, 0))) := ⟨hbS_⟩; have n1_ : Aside0 (Below w.heap.size w w15) := ⟨sS_.below (by repeat (first | (with_reducible first | exact HB.out | apply below_alloc | apply pw_below_drewN | apply below_drew1 | refine below_set ?_ GE101.out) | exact HB.out)) GE101.out⟩; clear hbS_ sS_; clear BK101; clear HB; have BK101 := n0_; have HB := n1_; clear n0_ n1_))
          refine bodyPost_ret (results_ctt rfl _ _ gb101 25 #[.int .i64 0, .int .i64 0, .int .i64 0, .string (⟨#[]⟩ : ByteArray), .int .i64 0, .int .i64 0, .string (⟨#[]⟩ : ByteArray), .int .i64 0, .int .i64 0, .string (⟨#[]⟩ : ByteArray), .int .i64 0, .string (⟨#[]⟩ : ByteArray), .int .i64 0, .int .i64 0, .int .i64 0, .int .i64 0, .int .i64 0, .int .i64 0, .int .i64 0, .string (⟨#[]⟩ : ByteArray), .string (⟨#[]⟩ : ByteArray), .slice none 0 0, .int .i64 0, .string (⟨#[]⟩ : ByteArray), .slice none 0 0] (0, 0) _ rfl (by (with_reducible repeat (first | refine blk_drewN ?_ _ | refine blk_drew ?_ | refine blk_alloc ?_ _)); exact BK101.out) Try.underlying25 rfl (by kernel_rfl)) rfl ?_
          exact ⟨_, _, by first | rfl | (simp [errW_none, errW_some] <;> rfl) | (simp [*, errW_none, errW_some] <;> rfl), by first | exact Kd.R_nil _ _ _ _ _ | exact Kd.N_nil _ _ _ _ _ | exact Kd.V_nil _ _ _ _ _ | exact Kd.Q_nil _ _ _ _ _ | exact Kd.S_nil _ _ _ _ _, by first | exact Kd.R_nil _ _ _ _ _ | exact Kd.N_nil _ _ _ _ _ | exact Kd.V_nil _ _ _ _ _ | exact Kd.Q_nil _ _ _ _ _ | exact Kd.S_nil _ _ _ _ _, by repeat (first | (with_reducible first | exact HB.out | apply below_alloc | apply pw_below_drewN | apply below_drew1 | refine below_set ?_ GE101.out) | exact HB.out)⟩
        · replace c13 := Bool.eq_false_iff.mpr c13
          subst c13
          have H1 : (if 24 ≤ (a0.size : Int) then ((roadbookref13_Get.f kj5 (a0.extract 24 a0.size)).bind fun bt102 => (if bt102.2.2 = 0 then (if 1 < (a0.size : Int) then (if 3 < (a0.size : Int) then (if 4 ≤ 8 then (if 8 ≤ (a0.size : Int) then ((roadbookref08_Number.f kj5 (a0.extract 4 8)).bind fun t107 => (if 8 ≤ 12 then (if 12 ≤ (a0.size : Int) then (if 12 ≤ 16 then (if 16 ≤ (a0.size : Int) then ((roadbookref08_Number.f kj5 (a0.extract 12 16)).bind fun t108 => (if 16 ≤ 20 then (if 20 ≤ (a0.size : Int) then (if 20 ≤ 24 then ((roadbookref08_Number.f kj5 (a0.extract 20 24)).bind fun t109 => (some (3, 0, 0, (⟨#[]⟩ : ByteArray), 0, 0, (⟨#[]⟩ : ByteArray), 0, 0, (⟨#[]⟩ : ByteArray), 0, (⟨#[]⟩ : ByteArray), t108, t109, 0, wrap64 (Int.tdiv (wrap64 (bt a0 1)) 8), wrap64 (bt a0 3), t107, 0, a0.extract 8 12, a0.extract 16 20, ([] : List (S46)), 0, (⟨#[]⟩ : ByteArray), bt102.1, 0, 0))) else (none)) else (none)) else (none))) else (none)) else (none)) else (none)) else (none))) else (none)) else (none)) else (none)) else (none)) else (some (0, 0, 0, (⟨#[]⟩ : ByteArray), 0, 0, (⟨#[]⟩ : ByteArray), 0, 0, (⟨#[]⟩ : ByteArray), 0, (⟨#[]⟩ : ByteArray), 0, 0, 0, 0, 0, 0, 0, (⟨#[]⟩ : ByteArray), (⟨#[]⟩ : ByteArray), ([] : List (S46)), 0, (⟨#[]⟩ : ByteArray), ([] : List (S48)), wrap64 (24 + bt102.2.1), bt102.2.2)))) else (none)) = some (r1, r2, r3, r4, r5, r6, r7, r8, r9, r10, r11, r12, r13, r14, r15, r16, r17, r18, r19, r20, r21, r22, r23, r24, r25, r26, r27) := by rw [if_neg (show ¬ (false = true) by decide)] at H; exact H
          clear H
          have H := H1
          clear H1
          by_cases c16 : 24 ≤ (a0.size : Int)
          · rw [if_pos c16] at H
            have c16b0 := eq_true c16
            have c16b1 : decide (24 ≤ (a0.size : Int)) = true := decide_eq_true c16
            clear c16
            replace H := Option.bind_eq_some_iff.mp H
            obtain ⟨⟨t102, t103, t104⟩, A170, H⟩ := H
            replace H : (if t104 = 0 then (if 1 < (a0.size : Int) then (if 3 < (a0.size : Int) then (if 4 ≤ 8 then (if 8 ≤ (a0.size : Int) then ((roadbookref08_Number.f kj5 (a0.extract 4 8)).bind fun t107 => (if 8 ≤ 12 then (if 12 ≤ (a0.size : Int) then (if 12 ≤ 16 then (if 16 ≤ (a0.size : Int) then ((roadbookref08_Number.f kj5 (a0.extract 12 16)).bind fun t108 => (if 16 ≤ 20 then (if 20 ≤ (a0.size : Int) then (if 20 ≤ 24 then ((roadbookref08_Number.f kj5 (a0.extract 20 24)).bind fun t109 => (some (3, 0, 0, (⟨#[]⟩ : ByteArray), 0, 0, (⟨#[]⟩ : ByteArray), 0, 0, (⟨#[]⟩ : ByteArray), 0, (⟨#[]⟩ : ByteArray), t108, t109, 0, wrap64 (Int.tdiv (wrap64 (bt a0 1)) 8), wrap64 (bt a0 3), t107, 0, a0.extract 8 12, a0.extract 16 20, ([] : List (S46)), 0, (⟨#[]⟩ : ByteArray), t102, 0, 0))) else (none)) else (none)) else (none))) else (none)) else (none)) else (none)) else (none))) else (none)) else (none)) else (none)) else (none)) else (some (0, 0, 0, (⟨#[]⟩ : ByteArray), 0, 0, (⟨#[]⟩ : ByteArray), 0, 0, (⟨#[]⟩ : ByteArray), 0, (⟨#[]⟩ : ByteArray), 0, 0, 0, 0, 0, 0, 0, (⟨#[]⟩ : ByteArray), (⟨#[]⟩ : ByteArray), ([] : List (S46)), 0, (⟨#[]⟩ : ByteArray), ([] : List (S48)), wrap64 (24 + t103), t104))) = some (r1, r2, r3, r4, r5, r6, r7, r8, r9, r10, r11, r12, r13, r14, r15, r16, r17, r18, r19, r20, r21, r22, r23, r24, r25, r26, r27) := H
            have A17 := Aside0.mk A170
            clear A170
            by_cases c18 : t104 = 0
            · rw [if_pos c18] at H
              have c18b0 : (t104 == 0) = true := beq_iff_eq.mpr c18
              have c18b1 : (t104 != 0) = false := bne_eq_false_iff_eq.mpr c18
              clear c18
              by_cases c19 : 1 < (a0.size : Int)
              · rw [if_pos c19] at H
                have c19b0 : decide (1 < (a0.size : Int)) = true := decide_eq_true c19
                have c19b1 : decide (1 < a0.size) = true := decide_eq_true (by omega)
                clear c19
                by_cases c21 : 3 < (a0.size : Int)
                · rw [if_pos c21] at H
                  have c21b0 : decide (3 < (a0.size : Int)) = true := decide_eq_true c21
                  have c21b1 : decide (3 < a0.size) = true := decide_eq_true (by omega)
                  clear c21
                  by_cases c23 : 4 ≤ 8
                  · rw [if_pos c23] at H
                    have c23b0 := eq_true c23
                    have c23b1 : decide (4 ≤ 8) = true := decide_eq_true c23
                    clear c23
                    by_cases c24 : 8 ≤ (a0.size : Int)
                    · rw [if_pos c24] at H
                      have c24b0 := eq_true c24
                      have c24b1 : decide (8 ≤ (a0.size : Int)) = true := decide_eq_true c24
                      clear c24
                      replace H := Option.bind_eq_some_iff.mp H
                      obtain ⟨t107, A250, H⟩ := H
                      replace H : (if 8 ≤ 12 then (if 12 ≤ (a0.size : Int) then (if 12 ≤ 16 then (if 16 ≤ (a0.size : Int) then ((roadbookref08_Number.f kj5 (a0.extract 12 16)).bind fun t108 => (if 16 ≤ 20 then (if 20 ≤ (a0.size : Int) then (if 20 ≤ 24 then ((roadbookref08_Number.f kj5 (a0.extract 20 24)).bind fun t109 => (some (3, 0, 0, (⟨#[]⟩ : ByteArray), 0, 0, (⟨#[]⟩ : ByteArray), 0, 0, (⟨#[]⟩ : ByteArray), 0, (⟨#[]⟩ : ByteArray), t108, t109, 0, wrap64 (Int.tdiv (wrap64 (bt a0 1)) 8), wrap64 (bt a0 3), t107, 0, a0.extract 8 12, a0.extract 16 20, ([] : List (S46)), 0, (⟨#[]⟩ : ByteArray), t102, 0, 0))) else (none)) else (none)) else (none))) else (none)) else (none)) else (none)) else (none)) = some (r1, r2, r3, r4, r5, r6, r7, r8, r9, r10, r11, r12, r13, r14, r15, r16, r17, r18, r19, r20, r21, r22, r23, r24, r25, r26, r27) := H
                      have A25 := Aside0.mk A250
                      clear A250
                      by_cases c26 : 8 ≤ 12
                      · rw [if_pos c26] at H
                        have c26b0 := eq_true c26
                        have c26b1 : decide (8 ≤ 12) = true := decide_eq_true c26
                        clear c26
                        by_cases c27 : 12 ≤ (a0.size : Int)
                        · rw [if_pos c27] at H
                          have c27b0 := eq_true c27
                          have c27b1 : decide (12 ≤ (a0.size : Int)) = true := decide_eq_true c27
                          clear c27
                          by_cases c28 : 12 ≤ 16
                          · rw [if_pos c28] at H
                            have c28b0 := eq_true c28
                            have c28b1 : decide (12 ≤ 16) = true := decide_eq_true c28
                            clear c28
                            by_cases c29 : 16 ≤ (a0.size : Int)
                            · rw [if_pos c29] at H
                              have c29b0 := eq_true c29
                              have c29b1 : decide (16 ≤ (a0.size : Int)) = true := decide_eq_true c29
                              clear c29
                              replace H := Option.bind_eq_some_iff.mp H
                              obtain ⟨t108, A300, H⟩ := H
                              replace H : (if 16 ≤ 20 then (if 20 ≤ (a0.size : Int) then (if 20 ≤ 24 then ((roadbookref08_Number.f kj5 (a0.extract 20 24)).bind fun t109 => (some (3, 0, 0, (⟨#[]⟩ : ByteArray), 0, 0, (⟨#[]⟩ : ByteArray), 0, 0, (⟨#[]⟩ : ByteArray), 0, (⟨#[]⟩ : ByteArray), t108, t109, 0, wrap64 (Int.tdiv (wrap64 (bt a0 1)) 8), wrap64 (bt a0 3), t107, 0, a0.extract 8 12, a0.extract 16 20, ([] : List (S46)), 0, (⟨#[]⟩ : ByteArray), t102, 0, 0))) else (none)) else (none)) else (none)) = some (r1, r2, r3, r4, r5, r6, r7, r8, r9, r10, r11, r12, r13, r14, r15, r16, r17, r18, r19, r20, r21, r22, r23, r24, r25, r26, r27) := H
                              have A30 := Aside0.mk A300
                              clear A300
                              by_cases c31 : 16 ≤ 20
                              · rw [if_pos c31] at H
                                have c31b0 := eq_true c31
                                have c31b1 : decide (16 ≤ 20) = true := decide_eq_true c31
                                clear c31
                                by_cases c32 : 20 ≤ (a0.size : Int)
                                · rw [if_pos c32] at H
                                  have c32b0 := eq_true c32
                                  have c32b1 : decide (20 ≤ (a0.size : Int)) = true := decide_eq_true c32
                                  clear c32
                                  by_cases c33 : 20 ≤ 24
                                  · rw [if_pos c33] at H
                                    have c33b0 := eq_true c33
                                    have c33b1 : decide (20 ≤ 24) = true := decide_eq_true c33
                                    clear c33
                                    have c34b0 := eq_true (of_decide_eq_true (by first | (with_reducible assumption) | assumption) : 24 ≤ (a0.size : Int))
                                    replace H := Option.bind_eq_some_iff.mp H
                                    obtain ⟨t109, A350, H⟩ := H
                                    replace H : (some (3, 0, 0, (⟨#[]⟩ : ByteArray), 0, 0, (⟨#[]⟩ : ByteArray), 0, 0, (⟨#[]⟩ : ByteArray), 0, (⟨#[]⟩ : ByteArray), t108, t109, 0, wrap64 (Int.tdiv (wrap64 (bt a0 1)) 8), wrap64 (bt a0 3), t107, 0, a0.extract 8 12, a0.extract 16 20, ([] : List (S46)), 0, (⟨#[]⟩ : ByteArray), t102, 0, 0)) = some (r1, r2, r3, r4, r5, r6, r7, r8, r9, r10, r11, r12, r13, r14, r15, r16, r17, r18, r19, r20, r21, r22, r23, r24, r25, r26, r27) := H
                                    have A35 := Aside0.mk A350
                                    clear A350
                                    simp only [Option.some.injEq, Prod.mk.injEq] at H
                                    obtain ⟨rfl, rfl, rfl, rfl, rfl, rfl, rfl, rfl, rfl, rfl, rfl, rfl, rfl, rfl, rfl, rfl, rfl, rfl, rfl, rfl, rfl, rfl, rfl, rfl, rfl, rfl, rfl⟩ := H
                                    try go_wp2_with (first | ((with_reducible refine gate_dst (N := 58) rfl ?_); refine Go.Proofs.Ytccjakjjaemmkaa.Pre.build_event 58 25 [(0, Go.Operand.const (Go.Value.int Go.IntKind.i64 3)), (15, Go.Operand.tmp 40), (16, Go.Operand.tmp 43), (17, Go.Operand.tmp 46), (19, Go.Operand.tmp 48), (12, Go.Operand.tmp 51), (20, Go.Operand.tmp 53), (13, Go.Operand.tmp 56), (24, Go.Operand.tmp 57)] rfl rfl rfl (roadbookref14_Get.bd58 _ _ _ _ _ _ _ _ _ _ _) ?_) | ((with_reducible refine gate_callee (f := 63) rfl ?_); refine goesL_ (some 27) rfl rfl Try.func63 (by kernel_rfl) rfl #[.string (a0.extract 24 a0.size)] rfl (by (try simp only [List.map_toArray, List.map_cons, List.map_nil]); first | done | rfl | (simp only [List.length_drop, List.length_take]; rfl)) ?_; (with_reducible refine (roadbookref13_Get.calls kj5 (a0.extract 24 a0.size) t102 t103 t104 _ A17.out).mono ?_); rintro e w36 ⟨v105, rfl, ho0, hb⟩; refine ⟨_, rfl, ?_⟩; have n0_ := Aside0.mk (Kd.R_lower ho0 (below_size (by repeat (first | (with_reducible first | exact HB.out | apply below_alloc | apply pw_below_drewN | apply below_drew1 | refine below_set ?_ GE101.out) | exact HB.out)))); have n1_ := Aside0.mk (blk_below (g := gb101) (by (with_reducible repeat (first | refine blk_drewN ?_ _ | refine blk_drew ?_ | refine blk_alloc ?_ _)); exact BK101.out) hb); have n2_ := Aside0.mk (below_step (by repeat (first | (with_reducible first | exact HB.out | apply below_alloc | apply pw_below_drewN | apply below_drew1 | refine below_set ?_ GE101.out) | exact HB.out)) hb); clear BK101; clear HB; have HO106 := n0_; have BK101 := n1_; have HB := n2_; clear n0_ n1_ n2_; (try clear hb); (try clear hb2); (try clear hk); (try clear hi); (try clear ho0)))
                                    have n0_ := Aside0.mk (Kd.R_drew HO106.out)
                                    have n1_ := Aside0.mk (blk_drew BK101.out)
                                    have n2_ := Aside0.mk (below_drew1 HB.out)
                                    clear HO106
                                    clear BK101
                                    clear HB
                                    have HO106 := n0_
                                    have BK101 := n1_
                                    have HB := n2_
                                    clear n0_ n1_ n2_
                                    have p20 : 0 ≤ (1 : Int) := (by omega)
                                    have q20 : 1 < a0.size := (by have : (1 : Int) < (a0.size : Int) := of_decide_eq_true (by first | (with_reducible assumption) | assumption); omega)
                                    have hx20 : ∀ h : 1 < a0.size, ((a0[1]'h).toNat : Int) = bt a0 1 := bt_at a0 1
                                    clear p20
                                    have qi20 : (1 < (a0.size : Int)) = True := eq_true (of_decide_eq_true (by first | (with_reducible assumption) | assumption))
                                    replace q20 := eq_true q20
                                    have p22 : 0 ≤ (3 : Int) := (by omega)
                                    have q22 : 3 < a0.size := (by have : (3 : Int) < (a0.size : Int) := of_decide_eq_true (by first | (with_reducible assumption) | assumption); omega)
                                    have hx22 : ∀ h : 3 < a0.size, ((a0[3]'h).toNat : Int) = bt a0 3 := bt_at a0 3
                                    clear p22
                                    have qi22 : (3 < (a0.size : Int)) = True := eq_true (of_decide_eq_true (by first | (with_reducible assumption) | assumption))
                                    replace q22 := eq_true q22
                                    refine start_ (n := 25) (S := fun w' => True) (ds := []) #[false, false, false, false, false, false, false, false, false, false, false, false, false, false, false, false, false, false, false, false, false, false, false, false, false] (by kernel_rfl) rfl rfl trivial (fun hHeld => ?_); refine with_tabW roadbookref14_Get.tab8 roadbookref14_Get.bits8 (fun HT_ HW_ => ?_)
                                    generalize w36.drew = w37 at HO106 BK101 HB hHeld ⊢
                                    refine pure_ (i := 0) (N := some 37) (v := ?_) (a' := ?_) #[true, false, false, false, false, false, false, false, false, false, false, false, false, false, false, false, false, false, false, false, false, false, false, false, false] rfl rfl (any_of HT_.out (by kernel_rfl)) (fun _ _ _ h => h) (Or.inl ⟨by rfl, ?_⟩) ?_ ?_
                                    rotate_left
                                    · intro w'
                                      go_simp
                                      with_reducible rfl
                                    rotate_left
                                    · simp only [Act.put, List.setIfInBounds_toArray, List.set_cons_zero, List.set_cons_succ, i64_w, i32_w]
                                      rfl
                                    refine pure_ (i := 4) (N := some 41) (v := ?_) (a' := ?_) #[true, false, false, false, true, false, false, false, false, false, false, false, false, false, false, false, false, false, false, false, false, false, false, false, false] rfl rfl (any_of HT_.out (by kernel_rfl)) (fun _ _ _ h => h) (Or.inl ⟨by rfl, ?_⟩) ?_ ?_
                                    rotate_left
                                    · intro w'
                                      go_simp
                                      with_reducible rfl
                                    rotate_left
                                    · simp only [Act.put, List.setIfInBounds_toArray, List.set_cons_zero, List.set_cons_succ, i64_w, i32_w]
                                      rfl
                                    refine pure_ (i := 7) (N := some 44) (v := ?_) (a' := ?_) #[true, false, false, false, true, false, false, true, false, false, false, false, false, false, false, false, false, false, false, false, false, false, false, false, false] rfl rfl (any_of HT_.out (by kernel_rfl)) (fun _ _ _ h => h) (Or.inl ⟨by rfl, ?_⟩) ?_ ?_
                                    rotate_left
                                    · intro w'
                                      go_simp
                                      with_reducible rfl
                                    rotate_left
                                    · simp only [Act.put, List.setIfInBounds_toArray, List.set_cons_zero, List.set_cons_succ, i64_w, i32_w]
                                      rfl
                                    refine pure_ (i := 8) (N := some 45) (v := ?_) (a' := ?_) #[true, false, false, false, true, false, false, true, true, false, false, false, false, false, false, false, false, false, false, false, false, false, false, false, false] rfl rfl (any_of HT_.out (by kernel_rfl)) (fun _ _ _ h => h) (Or.inl ⟨by rfl, ?_⟩) ?_ ?_
                                    rotate_left
                                    · intro w'
                                      go_simp
                                      with_reducible rfl
                                    rotate_left
                                    · simp only [Act.put, List.setIfInBounds_toArray, List.set_cons_zero, List.set_cons_succ, i64_w, i32_w]
                                      rfl
                                    refine pure_ (i := 10) (N := some 47) (v := ?_) (a' := ?_) #[true, false, false, false, true, false, false, true, true, false, true, false, false, false, false, false, false, false, false, false, false, false, false, false, false] rfl rfl (any_of HT_.out (by kernel_rfl)) (fun _ _ _ h => h) (Or.inl ⟨by rfl, ?_⟩) ?_ ?_
                                    rotate_left
                                    · intro w'
                                      go_simp
                                      with_reducible rfl
                                    rotate_left
                                    · simp only [Act.put, List.setIfInBounds_toArray, List.set_cons_zero, List.set_cons_succ, i64_w, i32_w]
                                      rfl
                                    refine pure_ (i := 11) (N := some 48) (v := ?_) (a' := ?_) #[true, false, false, false, true, false, false, true, true, false, true, true, false, false, false, false, false, false, false, false, false, false, false, false, false] rfl rfl (any_of HT_.out (by kernel_rfl)) (fun _ _ _ h => h) (Or.inl ⟨by rfl, ?_⟩) ?_ ?_
                                    rotate_left
                                    · intro w'
                                      go_simp
                                      with_reducible rfl
                                    rotate_left
                                    · simp only [Act.put, List.setIfInBounds_toArray, List.set_cons_zero, List.set_cons_succ, i64_w, i32_w]
                                      rfl
                                    refine pure_ (i := 12) (N := some 49) (v := ?_) (a' := ?_) #[true, false, false, false, true, false, false, true, true, false, true, true, true, false, false, false, false, false, false, false, false, false, false, false, false] rfl rfl (any_of HT_.out (by kernel_rfl)) (fun _ _ _ h => h) (Or.inl ⟨by rfl, ?_⟩) ?_ ?_
                                    rotate_left
                                    · intro w'
                                      go_simp
                                      with_reducible rfl
                                    rotate_left
                                    · simp only [Act.put, List.setIfInBounds_toArray, List.set_cons_zero, List.set_cons_succ, i64_w, i32_w]
                                      rfl
                                    refine pure_ (i := 13) (N := some 50) (v := ?_) (a' := ?_) #[true, false, false, false, true, false, false, true, true, false, true, true, true, true, false, false, false, false, false, false, false, false, false, false, false] rfl rfl (any_of HT_.out (by kernel_rfl)) (fun _ _ _ h => h) (Or.inl ⟨by rfl, ?_⟩) ?_ ?_
                                    rotate_left
                                    · intro w'
                                      go_simp
                                      with_reducible rfl
                                    rotate_left
                                    · simp only [Act.put, List.setIfInBounds_toArray, List.set_cons_zero, List.set_cons_succ, i64_w, i32_w]
                                      rfl
                                    refine pure_ (i := 15) (N := some 52) (v := ?_) (a' := ?_) #[true, false, false, false, true, false, false, true, true, false, true, true, true, true, false, true, false, false, false, false, false, false, false, false, false] rfl rfl (any_of HT_.out (by kernel_rfl)) (fun _ _ _ h => h) (Or.inl ⟨by rfl, ?_⟩) ?_ ?_
                                    rotate_left
                                    · intro w'
                                      go_simp
                                      with_reducible rfl
                                    rotate_left
                                    · simp only [Act.put, List.setIfInBounds_toArray, List.set_cons_zero, List.set_cons_succ, i64_w, i32_w]
                                      rfl
                                    refine pure_ (i := 16) (N := some 53) (v := ?_) (a' := ?_) #[true, false, false, false, true, false, false, true, true, false, true, true, true, true, false, true, true, false, false, false, false, false, false, false, false] rfl rfl (any_of HT_.out (by kernel_rfl)) (fun _ _ _ h => h) (Or.inl ⟨by rfl, ?_⟩) ?_ ?_
                                    rotate_left
                                    · intro w'
                                      go_simp
                                      with_reducible rfl
                                    rotate_left
                                    · simp only [Act.put, List.setIfInBounds_toArray, List.set_cons_zero, List.set_cons_succ, i64_w, i32_w]
                                      rfl
                                    refine pure_ (i := 17) (N := some 54) (v := ?_) (a' := ?_) #[true, false, false, false, true, false, false, true, true, false, true, true, true, true, false, true, true, true, false, false, false, false, false, false, false] rfl rfl (any_of HT_.out (by kernel_rfl)) (fun _ _ _ h => h) (Or.inl ⟨by rfl, ?_⟩) ?_ ?_
                                    rotate_left
                                    · intro w'
                                      go_simp
                                      with_reducible rfl
                                    rotate_left
                                    · simp only [Act.put, List.setIfInBounds_toArray, List.set_cons_zero, List.set_cons_succ, i64_w, i32_w]
                                      rfl
                                    refine pure_ (i := 18) (N := some 55) (v := ?_) (a' := ?_) #[true, false, false, false, true, false, false, true, true, false, true, true, true, true, false, true, true, true, true, false, false, false, false, false, false] rfl rfl (any_of HT_.out (by kernel_rfl)) (fun _ _ _ h => h) (Or.inl ⟨by rfl, ?_⟩) ?_ ?_
                                    rotate_left
                                    · intro w'
                                      go_simp
                                      with_reducible rfl
                                    rotate_left
                                    · simp only [Act.put, List.setIfInBounds_toArray, List.set_cons_zero, List.set_cons_succ, i64_w, i32_w]
                                      rfl
                                    refine pure_ (i := 20) (N := some 57) (v := ?_) (a' := ?_) #[true, false, false, false, true, false, false, true, true, false, true, true, true, true, false, true, true, true, true, false, true, false, false, false, false] rfl rfl (any_of HT_.out (by kernel_rfl)) (fun _ _ _ h => h) (Or.inl ⟨by rfl, ?_⟩) ?_ ?_
                                    rotate_left
                                    · intro w'
                                      go_simp
                                      with_reducible rfl
                                    rotate_left
                                    · simp only [Act.put, List.setIfInBounds_toArray, List.set_cons_zero, List.set_cons_succ, i64_w, i32_w]
                                      rfl
                                    refine take_ (i := 1) (N := some 38) (v := ?_) (a' := ?_) #[true, true, false, false, true, false, false, true, true, false, true, true, true, true, false, true, true, true, true, false, true, false, false, false, false] rfl rfl (take_ofW HT_.out HW_.out (by kernel_rfl)) (fun _ _ _ h => h) (Or.inl ⟨by rfl, ?_⟩) hHeld ?_ ?_
                                    rotate_left
                                    · intro w' _
                                      go_simp
                                      with_reducible rfl
                                    rotate_left
                                    · simp only [Act.put, List.setIfInBounds_toArray, List.set_cons_zero, List.set_cons_succ, i64_w, i32_w]
                                      rfl
                                    refine pure_ (i := 2) (N := some 39) (v := ?_) (a' := ?_) #[true, true, true, false, true, false, false, true, true, false, true, true, true, true, false, true, true, true, true, false, true, false, false, false, false] rfl rfl (any_of HT_.out (by kernel_rfl)) (fun _ _ _ h => h) (Or.inl ⟨by rfl, ?_⟩) ?_ ?_
                                    rotate_left
                                    · intro w'
                                      go_simp
                                      with_reducible rfl
                                    rotate_left
                                    · simp only [Act.put, List.setIfInBounds_toArray, List.set_cons_zero, List.set_cons_succ, i64_w, i32_w]
                                      rfl
                                    refine pure_ (i := 3) (N := some 40) (v := ?_) (a' := ?_) #[true, true, true, true, true, false, false, true, true, false, true, true, true, true, false, true, true, true, true, false, true, false, false, false, false] rfl rfl (any_of HT_.out (by kernel_rfl)) (fun _ _ _ h => h) (Or.inl ⟨by rfl, ?_⟩) ?_ ?_
                                    rotate_left
                                    · intro w'
                                      go_simp
                                      with_reducible rfl
                                    rotate_left
                                    · simp only [Act.put, List.setIfInBounds_toArray, List.set_cons_zero, List.set_cons_succ, i64_w, i32_w]
                                      rfl
                                    refine take_ (i := 5) (N := some 42) (v := ?_) (a' := ?_) #[true, true, true, true, true, true, false, true, true, false, true, true, true, true, false, true, true, true, true, false, true, false, false, false, false] rfl rfl (take_ofW HT_.out HW_.out (by kernel_rfl)) (fun _ _ _ h => h) (Or.inl ⟨by rfl, ?_⟩) hHeld ?_ ?_
                                    rotate_left
                                    · intro w' _
                                      go_simp
                                      with_reducible rfl
                                    rotate_left
                                    · simp only [Act.put, List.setIfInBounds_toArray, List.set_cons_zero, List.set_cons_succ, i64_w, i32_w]
                                      rfl
                                    refine pure_ (i := 6) (N := some 43) (v := ?_) (a' := ?_) #[true, true, true, true, true, true, true, true, true, false, true, true, true, true, false, true, true, true, true, false, true, false, false, false, false] rfl rfl (any_of HT_.out (by kernel_rfl)) (fun _ _ _ h => h) (Or.inl ⟨by rfl, ?_⟩) ?_ ?_
                                    rotate_left
                                    · intro w'
                                      go_simp
                                      with_reducible rfl
                                    rotate_left
                                    · simp only [Act.put, List.setIfInBounds_toArray, List.set_cons_zero, List.set_cons_succ, i64_w, i32_w]
                                      rfl
                                    refine one_ (i := 9) (N := some 46) #[true, true, true, true, true, true, true, true, true, true, true, true, true, true, false, true, true, true, true, false, true, false, false, false, false] rfl rfl (one_of HT_.out (by kernel_rfl)) (by decide) (fun K hK => ?_)
                                    refine goes_ Try.func64 (by kernel_rfl) rfl #[.string (a0.extract 4 8)] (by rfl) rfl rfl (by (try simp only [List.map_toArray, List.map_cons, List.map_nil]); first | done | rfl | (simp only [List.length_drop, List.length_take]; rfl)) ?_
                                    with_reducible refine (roadbookref08_Number.calls kj5 (a0.extract 4 8) t107 _ A25.out).mono ?_
                                    rintro e w' ⟨rfl, ⟨nd, rfl⟩⟩
                                    refine ⟨_, rfl, ?_⟩
                                    refine hK.out _ _ trivial (fun hHeld => ?_)
                                    clear hK K
                                    refine norm_ (a' := ?_) ?_ ?_
                                    rotate_left
                                    · show Act.put _ (some 46) _ = _
                                      simp only [Act.put, List.setIfInBounds_toArray, List.set_cons_zero, List.set_cons_succ, i64_w, i32_w]
                                      rfl
                                    refine one_ (i := 14) (N := some 51) #[true, true, true, true, true, true, true, true, true, true, true, true, true, true, true, true, true, true, true, false, true, false, false, false, false] rfl rfl (one_of HT_.out (by kernel_rfl)) (by decide) (fun K hK => ?_)
                                    refine goes_ Try.func64 (by kernel_rfl) rfl #[.string (a0.extract 12 16)] (by rfl) rfl rfl (by (try simp only [List.map_toArray, List.map_cons, List.map_nil]); first | done | rfl | (simp only [List.length_drop, List.length_take]; rfl)) ?_
                                    with_reducible refine (roadbookref08_Number.calls kj5 (a0.extract 12 16) t108 _ A30.out).mono ?_
                                    rintro e w' ⟨rfl, ⟨nd, rfl⟩⟩
                                    refine ⟨_, rfl, ?_⟩
                                    refine hK.out _ _ trivial (fun hHeld => ?_)
                                    clear hK K
                                    refine norm_ (a' := ?_) ?_ ?_
                                    rotate_left
                                    · show Act.put _ (some 51) _ = _
                                      simp only [Act.put, List.setIfInBounds_toArray, List.set_cons_zero, List.set_cons_succ, i64_w, i32_w]
                                      rfl
                                    refine one_ (i := 19) (N := some 56) #[true, true, true, true, true, true, true, true, true, true, true, true, true, true, true, true, true, true, true, true, true, false, false, false, false] rfl rfl (one_of HT_.out (by kernel_rfl)) (by decide) (fun K hK => ?_)
                                    refine goes_ Try.func64 (by kernel_rfl) rfl #[.string (a0.extract 20 24)] (by rfl) rfl rfl (by (try simp only [List.map_toArray, List.map_cons, List.map_nil]); first | done | rfl | (simp only [List.length_drop, List.length_take]; rfl)) ?_
                                    with_reducible refine (roadbookref08_Number.calls kj5 (a0.extract 20 24) t109 _ A35.out).mono ?_
                                    rintro e w' ⟨rfl, ⟨nd, rfl⟩⟩
                                    refine ⟨_, rfl, ?_⟩
                                    obtain ⟨Ao38, co38, eo38⟩ := Kd.R_slice HO106.out
                                    (first | subst eo38 | (injection eo38 with f1_ f2_ f3_; have f4_ := f1_.symm; have f5_ := f3_.symm; clear f1_ f2_ f3_; subst f4_; subst f5_))
                                    refine hK.out _ _ trivial (fun hHeld => ?_)
                                    clear hK K
                                    refine norm_ (a' := ?_) ?_ ?_
                                    rotate_left
                                    · show Act.put _ (some 56) _ = _
                                      simp only [Act.put, List.setIfInBounds_toArray, List.set_cons_zero, List.set_cons_succ, i64_w, i32_w]
                                      rfl
                                    refine pure_ (i := 21) (N := some 58) (v := ?_) (a' := ?_) #[true, true, true, true, true, true, true, true, true, true, true, true, true, true, true, true, true, true, true, true, true, true, false, false, false] rfl rfl (any_of HT_.out (by kernel_rfl)) (fun _ _ _ h => h) (Or.inl ⟨by rfl, ?_⟩) ?_ ?_
                                    rotate_left
                                    · intro w'
                                      refine Eq.trans (Go.Proofs.Ytccjakjjaemmkaa.Pre.build_run 25 [(0, Go.Operand.const (Go.Value.int Go.IntKind.i64 3)), (15, Go.Operand.tmp 40), (16, Go.Operand.tmp 43), (17, Go.Operand.tmp 46), (19, Go.Operand.tmp 48), (12, Go.Operand.tmp 51), (20, Go.Operand.tmp 53), (13, Go.Operand.tmp 56), (24, Go.Operand.tmp 57)] rfl (roadbookref14_Get.bd58 _ _ _ _ _ _ _ _ _ _ _)) ?_
                                      with_reducible rfl
                                    rotate_left
                                    · simp only [Act.put, List.setIfInBounds_toArray, List.set_cons_zero, List.set_cons_succ, i64_w, i32_w]
                                      rfl
                                    refine one_ (i := 22) (N := none) #[true, true, true, true, true, true, true, true, true, true, true, true, true, true, true, true, true, true, true, true, true, true, true, false, false] rfl rfl (one_of HT_.out (by kernel_rfl)) (by decide) (fun K hK => ?_)
                                    refine skip_ (w1 := ?_) (by rfl) rfl ?_ ?_
                                    rotate_left
                                    · refine Eq.trans (Go.Proofs.Ytccjakjjaemmkaa.Pre.store_run rfl (by rfl) (by rfl) BK101.out (by kernel_rfl) (by rfl) (by rfl)) ?_
                                      rfl
                                    refine hK.out _ _ trivial (fun hHeld => ?_)
                                    clear hK K
                                    refine pure_ (i := 23) (N := some 3) (v := ?_) (a' := ?_) #[true, true, true, true, true, true, true, true, true, true, true, true, true, true, true, true, true, true, true, true, true, true, true, true, false] rfl rfl (any_of HT_.out (by kernel_rfl)) (fun _ _ _ h => h) (Or.inl ⟨by rfl, ?_⟩) ?_ ?_
                                    rotate_left
                                    · intro w'
                                      go_simp
                                      with_reducible rfl
                                    rotate_left
                                    · simp only [Act.put, List.setIfInBounds_toArray, List.set_cons_zero, List.set_cons_succ, i64_w, i32_w]
                                      rfl
                                    refine pure_ (i := 24) (N := some 4) (v := ?_) (a' := ?_) #[true, true, true, true, true, true, true, true, true, true, true, true, true, true, true, true, true, true, true, true, true, true, true, true, true] rfl rfl (any_of HT_.out (by kernel_rfl)) (fun _ _ _ h => h) (Or.inl ⟨by rfl, ?_⟩) ?_ ?_
                                    rotate_left
                                    · intro w'
                                      go_simp
                                      with_reducible rfl
                                    rotate_left
                                    · simp only [Act.put, List.setIfInBounds_toArray, List.set_cons_zero, List.set_cons_succ, i64_w, i32_w]
                                      rfl
                                    refine done_ (done_of HT_.out (by kernel_rfl)) ?_
                                    refine Go.Proofs.Ytccjakjjaemmkaa.Pre.abs_end (g := gb101) (t := 25) (cs := #[.int .i64 0, .int .i64 0, .int .i64 0, .string (⟨#[]⟩ : ByteArray), .int .i64 0, .int .i64 0, .string (⟨#[]⟩ : ByteArray), .int .i64 0, .int .i64 0, .string (⟨#[]⟩ : ByteArray), .int .i64 0, .string (⟨#[]⟩ : ByteArray), .int .i64 0, .int .i64 0, .int .i64 0, .int .i64 0, .int .i64 0, .int .i64 0, .int .i64 0, .string (⟨#[]⟩ : ByteArray), .string (⟨#[]⟩ : ByteArray), .slice none 0 0, .int .i64 0, .string (⟨#[]⟩ : ByteArray), .slice none 0 0]) (cells := #[.int .i64 3, .int .i64 0, .int .i64 0, .string (⟨#[]⟩ : ByteArray), .int .i64 0, .int .i64 0, .string (⟨#[]⟩ : ByteArray), .int .i64 0, .int .i64 0, .string (⟨#[]⟩ : ByteArray), .int .i64 0, .string (⟨#[]⟩ : ByteArray), .int .i64 t108, .int .i64 t109, .int .i64 0, .int .i64 (wrap64 (Int.tdiv (wrap64 (bt a0 1)) 8)), .int .i64 (wrap64 (bt a0 3)), .int .i64 t107, .int .i64 0, .string (a0.extract 8 12), .string (a0.extract 16 20), .slice none 0 0, .int .i64 0, .string (⟨#[]⟩ : ByteArray), .slice Ao38 t102.length co38]) (by (with_reducible repeat (first | refine blk_drewN ?_ _ | refine blk_drew ?_ | refine blk_alloc ?_ _)); exact BK101.out) (by rfl) ?_
                                    intro w64 hbS_ sS_
                                    replace hbS_ := Aside0.mk hbS_
                                    replace sS_ : Aside0 (Go.Proofs.Ytccjakjjaemmkaa.Pre.Sets gb101 w37 w64) := ⟨⟨sS_.os, sS_.tape, sS_.output, sS_.size, sS_.block⟩⟩
                                    have n0_ : Aside0 (Kd.R k48 48 w64 w.heap.size (fun _ => True) (.slice Ao38 t102.length co38) t102) := ⟨Kd.R_mono (Go.Proofs.Ytccjakjjaemmkaa.Pre.R_sets sS_.out (Kd.R_types HO106.out BK101.out (by decide)) (fun _ hk => hk.2)) (fun _ hk => trivial)⟩
                                    have n1_ : Aside0 (w64.heap[gb101]? = some (.cells #[.int .i64 3, .int .i64 0, .int .i64 0, .string (⟨#[]⟩ : ByteArray), .int .i64 0, .int .i64 0, .string (⟨#[]⟩ : ByteArray), .int .i64 0, .int .i64 0, .string (⟨#[]⟩ : ByteArray), .int .i64 0, .string (⟨#[]⟩ : ByteArray), .int .i64 t108, .int .i64 t109, .int .i64 0, .int .i64 (wrap64 (Int.tdiv (wrap64 (bt a0 1)) 8)), .int .i64 (wrap64 (bt a0 3)), .int .i64 t107, .int .i64 0, .string (a0.extract 8 12), .string (a0.extract 16 20), .slice none 0 0, .int .i64 0, .string (⟨#[]⟩ : ByteArray), .slice Ao38 t102.length co38] 25 (0, 0))) := ⟨hbS_.out⟩
                                    have n2_ : Aside0 (Below w.heap.size w w64) := ⟨sS_.out.below (by repeat (first | (with_reducible first | exact HB.out | apply below_alloc | apply pw_below_drewN | apply below_drew1 | refine below_set ?_ GE101.out) | exact HB.out)) GE101.out⟩
                                    clear hbS_ sS_
                                    (try clear HO106)
                                    (try clear BK101)
                                    (try clear HB)
                                    have HO106 := n0_
                                    have BK101 := n1_
                                    have HB := n2_
                                    clear n0_ n1_ n2_
                                    try go_wp2_with (first | ((with_reducible refine gate_dst (N := 58) rfl ?_); refine Go.Proofs.Ytccjakjjaemmkaa.Pre.build_event 58 25 [(0, Go.Operand.const (Go.Value.int Go.IntKind.i64 3)), (15, Go.Operand.tmp 40), (16, Go.Operand.tmp 43), (17, Go.Operand.tmp 46), (19, Go.Operand.tmp 48), (12, Go.Operand.tmp 51), (20, Go.Operand.tmp 53), (13, Go.Operand.tmp 56), (24, Go.Operand.tmp 57)] rfl rfl rfl (roadbookref14_Get.bd58 _ _ _ _ _ _ _ _ _ _ _) ?_))
                                    refine bodyPost_ret (results_ctt rfl _ _ gb101 25 #[.int .i64 3, .int .i64 0, .int .i64 0, .string (⟨#[]⟩ : ByteArray), .int .i64 0, .int .i64 0, .string (⟨#[]⟩ : ByteArray), .int .i64 0, .int .i64 0, .string (⟨#[]⟩ : ByteArray), .int .i64 0, .string (⟨#[]⟩ : ByteArray), .int .i64 t108, .int .i64 t109, .int .i64 0, .int .i64 (wrap64 (Int.tdiv (wrap64 (bt a0 1)) 8)), .int .i64 (wrap64 (bt a0 3)), .int .i64 t107, .int .i64 0, .string (a0.extract 8 12), .string (a0.extract 16 20), .slice none 0 0, .int .i64 0, .string (⟨#[]⟩ : ByteArray), .slice Ao38 t102.length co38] (0, 0) _ rfl (by (with_reducible repeat (first | refine blk_drewN ?_ _ | refine blk_drew ?_ | refine blk_alloc ?_ _)); exact BK101.out) Try.underlying25 rfl (by kernel_rfl)) rfl ?_
                                    exact ⟨_, _, by first | rfl | (simp [errW_none, errW_some] <;> rfl) | (simp [*, errW_none, errW_some] <;> rfl), by first | exact Kd.R_nil _ _ _ _ _ | exact Kd.N_nil _ _ _ _ _ | exact Kd.V_nil _ _ _ _ _ | exact Kd.Q_nil _ _ _ _ _ | exact Kd.S_nil _ _ _ _ _, by (with_reducible repeat (first | apply Kd.R_alloc | apply Kd.R_drewN | apply Kd.R_drew)); exact HO106.out, by repeat (first | (with_reducible first | exact HB.out | apply below_alloc | apply pw_below_drewN | apply below_drew1 | refine below_set ?_ GE101.out) | exact HB.out)⟩
                                  · rw [if_neg c33] at H
                                    exact absurd H (by simp)
                                · rw [if_neg c32] at H
                                  exact absurd H (by simp)
                              · rw [if_neg c31] at H
                                exact absurd H (by simp)
                            · rw [if_neg c29] at H
                              exact absurd H (by simp)
                          · rw [if_neg c28] at H
                            exact absurd H (by simp)
                        · rw [if_neg c27] at H
                          exact absurd H (by simp)
                      · rw [if_neg c26] at H
                        exact absurd H (by simp)
                    · rw [if_neg c24] at H
                      exact absurd H (by simp)
                  · rw [if_neg c23] at H
                    exact absurd H (by simp)
                · rw [if_neg c21] at H
                  exact absurd H (by simp)
              · rw [if_neg c19] at H
                exact absurd H (by simp)
            · rw [if_neg c18] at H
              have c18b0 : (t104 == 0) = false := beq_eq_false_iff_ne.mpr c18
              have c18b1 : (t104 != 0) = true := bne_iff_ne.mpr c18
              simp only [Option.some.injEq, Prod.mk.injEq] at H
              obtain ⟨rfl, rfl, rfl, rfl, rfl, rfl, rfl, rfl, rfl, rfl, rfl, rfl, rfl, rfl, rfl, rfl, rfl, rfl, rfl, rfl, rfl, rfl, rfl, rfl, rfl, rfl, rfl⟩ := H
              go_wp2_with (first | ((with_reducible refine gate_dst (N := 58) rfl ?_); refine Go.Proofs.Ytccjakjjaemmkaa.Pre.build_event 58 25 [(0, Go.Operand.const (Go.Value.int Go.IntKind.i64 3)), (15, Go.Operand.tmp 40), (16, Go.Operand.tmp 43), (17, Go.Operand.tmp 46), (19, Go.Operand.tmp 48), (12, Go.Operand.tmp 51), (20, Go.Operand.tmp 53), (13, Go.Operand.tmp 56), (24, Go.Operand.tmp 57)] rfl rfl rfl (roadbookref14_Get.bd58 _ _ _ _ _ _ _ _ _ _ _) ?_) | ((with_reducible refine gate_callee (f := 63) rfl ?_); refine goesL_ (some 27) rfl rfl Try.func63 (by kernel_rfl) rfl #[.string (a0.extract 24 a0.size)] rfl (by (try simp only [List.map_toArray, List.map_cons, List.map_nil]); first | done | rfl | (simp only [List.length_drop, List.length_take]; rfl)) ?_; (with_reducible refine (roadbookref13_Get.calls kj5 (a0.extract 24 a0.size) t102 t103 t104 _ A17.out).mono ?_); rintro e w65 ⟨v105, rfl, ho0, hb⟩; refine ⟨_, rfl, ?_⟩; have n0_ := Aside0.mk (Kd.R_lower ho0 (below_size (by repeat (first | (with_reducible first | exact HB.out | apply below_alloc | apply pw_below_drewN | apply below_drew1 | refine below_set ?_ GE101.out) | exact HB.out)))); have n1_ := Aside0.mk (blk_below (g := gb101) (by (with_reducible repeat (first | refine blk_drewN ?_ _ | refine blk_drew ?_ | refine blk_alloc ?_ _)); exact BK101.out) hb); have n2_ := Aside0.mk (below_step (by repeat (first | (with_reducible first | exact HB.out | apply below_alloc | apply pw_below_drewN | apply below_drew1 | refine below_set ?_ GE101.out) | exact HB.out)) hb); clear BK101; clear HB; have HO106 := n0_; have BK101 := n1_; have HB := n2_; clear n0_ n1_ n2_; (try clear hb); (try clear hb2); (try clear hk); (try clear hi); (try clear ho0); obtain ⟨hcz66_0, hcz66_1, hcz66_2, hcz66_3, hcz66_4, hcz66_5, hcz66_6, hcz66_7, hcz66_8, hcz66_9, hcz66_10, hcz66_11, hcz66_12, hcz66_13, hcz66_14, hcz66_15, hcz66_16, hcz66_17, hcz66_18, hcz66_19, hcz66_20, hcz66_21, hcz66_22, hcz66_23, hcz66_24, hfz66_0, hfz66_1, hfz66_2, hfz66_3, hfz66_4, hfz66_5, hfz66_6, hfz66_7, hfz66_8, hfz66_9, hfz66_10, hfz66_11, hfz66_12, hfz66_13, hfz66_14, hfz66_15, hfz66_16, hfz66_17, hfz66_18, hfz66_19, hfz66_20, hfz66_21, hfz66_22, hfz66_23, hfz66_24⟩ := cells_25 BK101.out) | ((with_reducible refine Go.Proofs.Ytccjakjjaemmkaa.Pre.gate_store 25 rfl ?_); refine Go.Proofs.Ytccjakjjaemmkaa.Pre.store_abs (cur := #[.int .i64 0, .int .i64 0, .int .i64 0, .string (⟨#[]⟩ : ByteArray), .int .i64 0, .int .i64 0, .string (⟨#[]⟩ : ByteArray), .int .i64 0, .int .i64 0, .string (⟨#[]⟩ : ByteArray), .int .i64 0, .string (⟨#[]⟩ : ByteArray), .int .i64 0, .int .i64 0, .int .i64 0, .int .i64 0, .int .i64 0, .int .i64 0, .int .i64 0, .string (⟨#[]⟩ : ByteArray), .string (⟨#[]⟩ : ByteArray), .slice none 0 0, .int .i64 0, .string (⟨#[]⟩ : ByteArray), .slice none 0 0]) (e := 25) rfl rfl rfl (by rfl) (by rfl) (by (with_reducible repeat (first | refine blk_drewN ?_ _ | refine blk_drew ?_ | refine blk_alloc ?_ _)); exact BK101.out) (by kernel_rfl) (by rfl) (by rfl) ?_; intro w67 hbS_ sS_; have n0_ : Aside0 (Kd.R k48 48 w67 w.heap.size (fun _ => True) v105 t102) := ⟨Kd.R_mono (Go.Proofs.Ytccjakjjaemmkaa.Pre.R_sets sS_ (Kd.R_types HO106.out BK101.out (by decide)) (fun _ hk => hk.2)) (fun _ hk => trivial)⟩; have n1_ : Aside0 (w67.heap[gb101]? = some (.cells #[.int .i64 0, .int .i64 0, .int .i64 0, .string (⟨#[]⟩ : ByteArray), .int .i64 0, .int .i64 0, .string (⟨#[]⟩ : ByteArray), .int .i64 0, .int .i64 0, .string (⟨#[]⟩ : ByteArray), .int .i64 0, .string (⟨#[]⟩ : ByteArray), .int .i64 0, .int .i64 0, .int .i64 0, .int .i64 0, .int .i64 0, .int .i64 0, .int .i64 0, .string (⟨#[]⟩ : ByteArray), .string (⟨#[]⟩ : ByteArray), .slice none 0 0, .int .i64 0, .string (⟨#[]⟩ : ByteArray), .slice none 0 0] 25 (0, 0))) := ⟨hbS_⟩; have n2_ : Aside0 (Below w.heap.size w w67) := ⟨sS_.below (by repeat (first | (with_reducible first | exact HB.out | apply below_alloc | apply pw_below_drewN | apply below_drew1 | refine below_set ?_ GE101.out) | exact HB.out)) GE101.out⟩; clear hbS_ sS_; clear HO106; clear BK101; clear HB; have HO106 := n0_; have BK101 := n1_; have HB := n2_; clear n0_ n1_ n2_))
              refine bodyPost_ret (results_ctt rfl _ _ gb101 25 #[.int .i64 0, .int .i64 0, .int .i64 0, .string (⟨#[]⟩ : ByteArray), .int .i64 0, .int .i64 0, .string (⟨#[]⟩ : ByteArray), .int .i64 0, .int .i64 0, .string (⟨#[]⟩ : ByteArray), .int .i64 0, .string (⟨#[]⟩ : ByteArray), .int .i64 0, .int .i64 0, .int .i64 0, .int .i64 0, .int .i64 0, .int .i64 0, .int .i64 0, .string (⟨#[]⟩ : ByteArray), .string (⟨#[]⟩ : ByteArray), .slice none 0 0, .int .i64 0, .string (⟨#[]⟩ : ByteArray), .slice none 0 0] (0, 0) _ rfl (by (with_reducible repeat (first | refine blk_drewN ?_ _ | refine blk_drew ?_ | refine blk_alloc ?_ _)); exact BK101.out) Try.underlying25 rfl (by kernel_rfl)) rfl ?_
              exact ⟨_, _, by first | rfl | (simp [errW_none, errW_some] <;> rfl) | (simp [*, errW_none, errW_some] <;> rfl), by first | exact Kd.R_nil _ _ _ _ _ | exact Kd.N_nil _ _ _ _ _ | exact Kd.V_nil _ _ _ _ _ | exact Kd.Q_nil _ _ _ _ _ | exact Kd.S_nil _ _ _ _ _, by first | exact Kd.R_nil _ _ _ _ _ | exact Kd.N_nil _ _ _ _ _ | exact Kd.V_nil _ _ _ _ _ | exact Kd.Q_nil _ _ _ _ _ | exact Kd.S_nil _ _ _ _ _, by repeat (first | (with_reducible first | exact HB.out | apply below_alloc | apply pw_below_drewN | apply below_drew1 | refine below_set ?_ GE101.out) | exact HB.out)⟩
          · rw [if_neg c16] at H
            exact absurd H (by simp)

end Go.Proofs.Ytccjakjjaemmkaa.PR
