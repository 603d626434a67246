-- Written by mp.py, a program of this work (wip/tools), out of the translation; Lean checks it.
import Derived.Test.YtccjakjjaemmkaaPRxZ
import Derived.Test.YtccjakjjaemmkaaPRxroadbookref08
import Derived.Test.YtccjakjjaemmkaaPRxroadbookref13
import Derived.Test.YtccjakjjaemmkaaLoad
namespace Go.Proofs.Ytccjakjjaemmkaa.PR
open Go.RowKit Go.Proofs.YtccjakjjaemmkaaW.PrintWords Go.Proofs.YtccjakjjaemmkaaW.PrintLast Go.Proofs.YtccjakjjaemmkaaW.PrintMore
attribute [local go_sem] max2_int min2_int max_two min_two max_three min_three max_four min_four   -- for this text's walks alone
set_option linter.unusedVariables false
set_option linter.unusedSimpArgs false

/-! ### roadbookref16_Get: function 31 -/
mutual
def roadbookref16_Get.j0 : Nat → ByteArray → Bool → Option (Int × Int × Int × ByteArray × Int × Int × ByteArray × Int × Int × ByteArray × Int × ByteArray × Int × Int × Int × Int × Int × Int × Int × ByteArray × ByteArray × (List (S46)) × Int × ByteArray × (List (S48)) × Int × Int)
 | 0, _, _ => none
 | k + 1, x0, vm => if vm = true then (some (0, 0, 0, (⟨#[]⟩ : ByteArray), 0, 0, (⟨#[]⟩ : ByteArray), 0, 0, (⟨#[]⟩ : ByteArray), 0, (⟨#[]⟩ : ByteArray), 0, 0, 0, 0, 0, 0, 0, (⟨#[]⟩ : ByteArray), (⟨#[]⟩ : ByteArray), ([] : List (S46)), 0, (⟨#[]⟩ : ByteArray), ([] : List (S48)), 1, 5)) else (if 3 < (x0.size : Int) then (if (wrap64 (bt x0 3)) = 0 then (some (0, 0, 0, (⟨#[]⟩ : ByteArray), 0, 0, (⟨#[]⟩ : ByteArray), 0, 0, (⟨#[]⟩ : ByteArray), 0, (⟨#[]⟩ : ByteArray), 0, 0, 0, 0, 0, 0, 0, (⟨#[]⟩ : ByteArray), (⟨#[]⟩ : ByteArray), ([] : List (S46)), 0, (⟨#[]⟩ : ByteArray), ([] : List (S48)), 3, 8)) else (if (x0.size : Int) < (wrap64 (4 + (wrap64 (8 * (wrap64 (bt x0 3)))))) then (some (0, 0, 0, (⟨#[]⟩ : ByteArray), 0, 0, (⟨#[]⟩ : ByteArray), 0, 0, (⟨#[]⟩ : ByteArray), 0, (⟨#[]⟩ : ByteArray), 0, 0, 0, 0, 0, 0, 0, (⟨#[]⟩ : ByteArray), (⟨#[]⟩ : ByteArray), ([] : List (S46)), 0, (⟨#[]⟩ : ByteArray), ([] : List (S48)), (x0.size : Int), 2)) else (if 1 < (x0.size : Int) then (roadbookref16_Get.l0 k x0 (wrap64 (bt x0 3)) 0 5 0 0 (⟨#[]⟩ : ByteArray) 0 0 (⟨#[]⟩ : ByteArray) 0 0 (⟨#[]⟩ : ByteArray) 0 (⟨#[]⟩ : ByteArray) 0 0 0 (wrap64 (Int.tdiv (wrap64 (bt x0 1)) 128)) 0 0 0 (⟨#[]⟩ : ByteArray) (⟨#[]⟩ : ByteArray) ([] : List (S46)) 0 (⟨#[]⟩ : ByteArray)) else (none)))) else (none))
def roadbookref16_Get.l0 : Nat → ByteArray → Int → Int → Int → Int → Int → ByteArray → Int → Int → ByteArray → Int → Int → ByteArray → Int → ByteArray → Int → Int → Int → Int → Int → Int → Int → ByteArray → ByteArray → List (S46) → Int → ByteArray → Option (Int × Int × Int × ByteArray × Int × Int × ByteArray × Int × Int × ByteArray × Int × ByteArray × Int × Int × Int × Int × Int × Int × Int × ByteArray × ByteArray × (List (S46)) × Int × ByteArray × (List (S48)) × Int × Int)
 | 0, _, _, _, _, _, _, _, _, _, _, _, _, _, _, _, _, _, _, _, _, _, _, _, _, _, _, _ => none
 | k + 1, x0, x5, x7, eK, eL, eM, eN, eO, eP, eQ, eR, eS, eT, eU, et, eu, ev, ew, ex, ey, ez, eA, eB, eC, dZ, eD, eE => if x7 < x5 then (if 0 ≤ (wrap64 (4 + (wrap64 (8 * x7)))) then (if (wrap64 (4 + (wrap64 (8 * x7)))) ≤ (wrap64 (8 + (wrap64 (8 * x7)))) then (if (wrap64 (8 + (wrap64 (8 * x7)))) ≤ (x0.size : Int) then (if 0 ≤ (wrap64 (8 + (wrap64 (8 * x7)))) then (if (wrap64 (8 + (wrap64 (8 * x7)))) ≤ (wrap64 (12 + (wrap64 (8 * x7)))) then (if (wrap64 (12 + (wrap64 (8 * x7)))) ≤ (x0.size : Int) then ((roadbookref08_Number.f k (x0.extract ((wrap64 (8 + (wrap64 (8 * x7)))) : Int).toNat ((wrap64 (12 + (wrap64 (8 * x7)))) : Int).toNat)).bind fun bf => (if dZ.length < 5864062014805 then (roadbookref16_Get.l0 k x0 x5 (wrap64 (x7 + 1)) eK eL eM eN eO eP eQ eR eS eT eU et eu ev ew ex ey ez eA eB eC (dZ ++ [(⟨x0.extract ((wrap64 (4 + (wrap64 (8 * x7)))) : Int).toNat ((wrap64 (8 + (wrap64 (8 * x7)))) : Int).toNat, bf⟩ : S46)]) eD eE) else (none))) else (none)) else (none)) else (none)) else (none)) else (none)) else (none)) else (if 0 ≤ (wrap64 (4 + (wrap64 (8 * x5)))) then (if (wrap64 (4 + (wrap64 (8 * x5)))) ≤ (x0.size : Int) then ((roadbookref13_Get.f k (x0.extract ((wrap64 (4 + (wrap64 (8 * x5)))) : Int).toNat x0.size)).bind fun bn => (if bn.2.2 = 0 then (some (eK, eL, eM, eN, eO, eP, eQ, eR, eS, eT, eU, et, eu, ev, ew, ex, ey, ez, eA, eB, eC, dZ, eD, eE, bn.1, 0, 0)) else (some (0, 0, 0, (⟨#[]⟩ : ByteArray), 0, 0, (⟨#[]⟩ : ByteArray), 0, 0, (⟨#[]⟩ : ByteArray), 0, (⟨#[]⟩ : ByteArray), 0, 0, 0, 0, 0, 0, 0, (⟨#[]⟩ : ByteArray), (⟨#[]⟩ : ByteArray), ([] : List (S46)), 0, (⟨#[]⟩ : ByteArray), ([] : List (S48)), wrap64 ((wrap64 (4 + (wrap64 (8 * x5)))) + bn.2.1), bn.2.2)))) else (none)) else (none))
end
def roadbookref16_Get.f (k : Nat) (a0 : ByteArray) : Option (Int × Int × Int × ByteArray × Int × Int × ByteArray × Int × Int × ByteArray × Int × ByteArray × Int × Int × Int × Int × Int × Int × Int × ByteArray × ByteArray × (List (S46)) × Int × ByteArray × (List (S48)) × Int × Int) := if (a0.size : Int) < 4 then (some (0, 0, 0, (⟨#[]⟩ : ByteArray), 0, 0, (⟨#[]⟩ : ByteArray), 0, 0, (⟨#[]⟩ : ByteArray), 0, (⟨#[]⟩ : ByteArray), 0, 0, 0, 0, 0, 0, 0, (⟨#[]⟩ : ByteArray), (⟨#[]⟩ : ByteArray), ([] : List (S46)), 0, (⟨#[]⟩ : ByteArray), ([] : List (S48)), (a0.size : Int), 2)) else (if 1 < (a0.size : Int) then (if (Int.tmod (bt a0 1) 128) = 0 then (if 2 < (a0.size : Int) then (roadbookref16_Get.j0 k a0 ((bt a0 2) != 0)) else (none)) else (roadbookref16_Get.j0 k a0 true)) else (none))
theorem roadbookref16_Get.mono_l : ∀ k, (∀ y0 y1, LeO (roadbookref16_Get.j0 k y0 y1) (roadbookref16_Get.j0 (k + 1) y0 y1)) ∧ (∀ y0 y1 y2 y3 y4 y5 y6 y7 y8 y9 fi fj fk fl fm fn fo fp fq fr fs ft fu fv fw fx hH, LeO (roadbookref16_Get.l0 k y0 y1 y2 y3 y4 y5 y6 y7 y8 y9 fi fj fk fl fm fn fo fp fq fr fs ft fu fv fw fx hH) (roadbookref16_Get.l0 (k + 1) y0 y1 y2 y3 y4 y5 y6 y7 y8 y9 fi fj fk fl fm fn fo fp fq fr fs ft fu fv fw fx hH))
 | 0 => ⟨fun _ _ r h => by simp [roadbookref16_Get.j0] at h, fun _ _ _ _ _ _ _ _ _ _ _ _ _ _ _ _ _ _ _ _ _ _ _ _ _ _ _ r h => by simp [roadbookref16_Get.l0] at h⟩
 | k + 1 => by
  obtain ⟨ih0, ih1⟩ := roadbookref16_Get.mono_l k
  refine ⟨?_, ?_⟩
  ·intro y0 y1
   unfold roadbookref16_Get.j0
   repeat' first
   | (with_reducible exact ih0 _ _)
   | (with_reducible exact ih1 ..)
   | (with_reducible exact roadbookref08_Number.mono _ _)
   | (with_reducible exact roadbookref13_Get.mono _ _)
   | (with_reducible exact LeO.refl _)
   | (with_reducible exact LeO.none _)
   | (with_reducible refine LeO.ite ?_ ?_)
   | (with_reducible refine LeO.bind ?_ (fun _ => ?_))
   | exact ih0 _ _
   | exact ih1 ..
   | exact roadbookref08_Number.mono _ _
   | exact roadbookref13_Get.mono _ _
   | exact LeO.none _
   | refine LeO.ite ?_ ?_
   | refine LeO.bind ?_ (fun _ => ?_)
  ·intro y0 y1 y2 y3 y4 y5 y6 y7 y8 y9 fi fj fk fl fm fn fo fp fq fr fs ft fu fv fw fx hH
   unfold roadbookref16_Get.l0
   repeat' first
   | (with_reducible exact ih0 _ _)
   | (with_reducible exact ih1 ..)
   | (with_reducible exact roadbookref08_Number.mono _ _)
   | (with_reducible exact roadbookref13_Get.mono _ _)
   | (with_reducible exact LeO.refl _)
   | (with_reducible exact LeO.none _)
   | (with_reducible refine LeO.ite ?_ ?_)
   | (with_reducible refine LeO.bind ?_ (fun _ => ?_))
   | exact ih0 _ _
   | exact ih1 ..
   | exact roadbookref08_Number.mono _ _
   | exact roadbookref13_Get.mono _ _
   | exact LeO.none _
   | refine LeO.ite ?_ ?_
   | refine LeO.bind ?_ (fun _ => ?_)
theorem roadbookref16_Get.mono : ∀ a0 k, LeO (roadbookref16_Get.f k a0) (roadbookref16_Get.f (k + 1) a0) := by
 intro a0 k
 obtain ⟨ih0, ih1⟩ := roadbookref16_Get.mono_l k
 unfold roadbookref16_Get.f
 repeat' first
   | (with_reducible exact ih0 _ _)
   | (with_reducible exact ih1 ..)
   | (with_reducible exact roadbookref08_Number.mono _ _)
   | (with_reducible exact roadbookref13_Get.mono _ _)
   | (with_reducible exact LeO.refl _)
   | (with_reducible exact LeO.none _)
   | (with_reducible refine LeO.ite ?_ ?_)
   | (with_reducible refine LeO.bind ?_ (fun _ => ?_))
   | exact ih0 _ _
   | exact ih1 ..
   | exact roadbookref08_Number.mono _ _
   | exact roadbookref13_Get.mono _ _
   | exact LeO.none _
   | refine LeO.ite ?_ ?_
   | refine LeO.bind ?_ (fun _ => ?_)
def roadbookref16_Get.T14 : Bool × List (List Nat × List Nat) := (true, [([], []), ([0], [0]), ([], []), ([], []), ([3], [3]), ([4], [4]), ([], []), ([6], [6]), ([7], [7]), ([2, 5, 8], [2, 5, 8]), ([], []), ([], []), ([11], [11]), ([12], [12]), ([], []), ([14], [14]), ([15], [15]), ([10, 13, 16], [10, 13, 16]), ([17], [17]), ([9, 18], [9, 18]), ([19], [19]), ([1, 20, 18], [1, 20]), ([0, 1, 2, 3, 4, 5, 6, 7, 8, 9, 10, 11, 12, 13, 14, 15, 16, 17, 18, 19, 20, 21], []), ([22, 21, 21, 0, 1, 2, 3, 4, 5, 6, 7, 8, 9, 10, 11, 12, 13, 14, 15, 16, 17, 18, 19, 20, 21], [21, 22])])
def roadbookref16_Get.B14 : List Nat := [0, 1, 0, 0, 8, 24, 0, 64, 192, 508, 0, 0, 2048, 6144, 0, 16384, 49152, 130048, 261120, 524284, 1048572, 2097151, 4194303, 8388607]
theorem roadbookref16_Get.tab14 : rtab .any (opsOf Try.f31 14) = roadbookref16_Get.T14 := by kernel_rfl
theorem roadbookref16_Get.bits14 : waitsOk roadbookref16_Get.T14.2 roadbookref16_Get.B14 = true := by kernel_rfl
set_option maxRecDepth 100000 in
theorem roadbookref16_Get.bd46 (v0 : Int) (kd : Int) : Try.prog.built 25 [(0, .int .i64 v0), (15, .int .i64 kd)] = some #[.int .i64 v0, .int .i64 0, .int .i64 0, .string ⟨#[]⟩, .int .i64 0, .int .i64 0, .string ⟨#[]⟩, .int .i64 0, .int .i64 0, .string ⟨#[]⟩, .int .i64 0, .string ⟨#[]⟩, .int .i64 0, .int .i64 0, .int .i64 0, .int .i64 kd, .int .i64 0, .int .i64 0, .int .i64 0, .string ⟨#[]⟩, .string ⟨#[]⟩, .slice none 0 0, .int .i64 0, .string ⟨#[]⟩, .slice none 0 0] := by kernel_rfl
set_option maxHeartbeats 8000000 in
set_option maxRecDepth 100000 in
theorem roadbookref16_Get.calls (k : Nat) (a0 : ByteArray) (r1 : Int) (r2 : Int) (r3 : Int) (r4 : ByteArray) (r5 : Int) (r6 : Int) (r7 : ByteArray) (r8 : Int) (r9 : Int) (r10 : ByteArray) (r11 : Int) (r12 : ByteArray) (r13 : Int) (r14 : Int) (r15 : Int) (r16 : Int) (r17 : Int) (r18 : Int) (r19 : Int) (r20 : ByteArray) (r21 : ByteArray) (r22 : List (S46)) (r23 : Int) (r24 : ByteArray) (r25 : List (S48)) (r26 : Int) (r27 : Int) (w : World) (h : roadbookref16_Get.f k a0 = some (r1, r2, r3, r4, r5, r6, r7, r8, r9, r10, r11, r12, r13, r14, r15, r16, r17, r18, r19, r20, r21, r22, r23, r24, r25, r26, r27)) :
  Calls Try.prog 31 #[.string a0] w fun e w' => ∃ v21_ v24_ : Value, e = .returned (.tuple #[.agg #[.int .i64 r1, .int .i64 r2, .int .i64 r3, .string r4, .int .i64 r5, .int .i64 r6, .string r7, .int .i64 r8, .int .i64 r9, .string r10, .int .i64 r11, .string r12, .int .i64 r13, .int .i64 r14, .int .i64 r15, .int .i64 r16, .int .i64 r17, .int .i64 r18, .int .i64 r19, .string r20, .string r21, v21_, .int .i64 r23, .string r24, v24_], .int .i64 r26, .int .i64 r27]) ∧ Kd.R k46 46 w' w.heap.size (fun _ => True) v21_ r22 ∧ Kd.R k48 48 w' w.heap.size (fun _ => True) v24_ r25 ∧ Below w.heap.size w w' := by
 have gB := Try.underlying25
 have pa := Try.underlying46
 have HB := Aside0.mk (Below.refl w.heap.size w)
 have H : (if (a0.size : Int) < 4 then (some (0, 0, 0, (⟨#[]⟩ : ByteArray), 0, 0, (⟨#[]⟩ : ByteArray), 0, 0, (⟨#[]⟩ : ByteArray), 0, (⟨#[]⟩ : ByteArray), 0, 0, 0, 0, 0, 0, 0, (⟨#[]⟩ : ByteArray), (⟨#[]⟩ : ByteArray), ([] : List (S46)), 0, (⟨#[]⟩ : ByteArray), ([] : List (S48)), (a0.size : Int), 2)) else (if 1 < (a0.size : Int) then (if (Int.tmod (bt a0 1) 128) = 0 then (if 2 < (a0.size : Int) then (roadbookref16_Get.j0 k a0 ((bt a0 2) != 0)) else (none)) else (roadbookref16_Get.j0 k a0 true)) else (none))) = some (r1, r2, r3, r4, r5, r6, r7, r8, r9, r10, r11, r12, r13, r14, r15, r16, r17, r18, r19, r20, r21, r22, r23, r24, r25, r26, r27) := h
 clear h
 by_cases c2 : (a0.size : Int) < 4
 ·rw [if_pos c2] at H
  have iq : decide ((a0.size : Int) < 4) = true := decide_eq_true c2
  have jE : decide (a0.size < 4) = true := decide_eq_true Z55
  clear c2
  simp only [Option.some.injEq, Prod.mk.injEq] at H
  obtain ⟨rfl, rfl, rfl, rfl, rfl, rfl, rfl, rfl, rfl, rfl, rfl, rfl, rfl, rfl, rfl, rfl, rfl, rfl, rfl, rfl, rfl, rfl, rfl, rfl, rfl, rfl, rfl⟩ := H
  go_enter Try.func31, Try.ntmps31
  go_wp2_with (first | ((with_reducible refine gate_dst (N := 46) rfl ?_); refine Pre.build_event 46 25 [(0, Go.Operand.const (Go.Value.int Go.IntKind.i64 5)), (15, Go.Operand.tmp 45)] rfl rfl rfl (roadbookref16_Get.bd46 _ _) ?_) | ((with_reducible refine Pre.gate_load 25 rfl ?_); (try (refine gate_guard Z13 ?_; dsimp only)); refine Pre.load_event rfl rfl rfl Z13 Z19 Try.underlying25 rfl Z6 ?_) | ((with_reducible refine gate_dst (N := 2) rfl ?_); refine box_event ?hg (N := 2) ?hd (cs := #[.int .i64 0, .int .i64 0, .int .i64 0, .string ⟨#[]⟩, .int .i64 0, .int .i64 0, .string ⟨#[]⟩, .int .i64 0, .int .i64 0, .string ⟨#[]⟩, .int .i64 0, .string ⟨#[]⟩, .int .i64 0, .int .i64 0, .int .i64 0, .int .i64 0, .int .i64 0, .int .i64 0, .int .i64 0, .string ⟨#[]⟩, .string ⟨#[]⟩, .slice none 0 0, .int .i64 0, .string ⟨#[]⟩, .slice none 0 0]) (t := 25) ?hr ?_; (case hd => rfl); (case hg => rfl); (case hr => first | (go_simp; done) | (go_simp; rfl)); intro aa hg w3 hbox hb; have aG := Aside0.mk (below_step Z3 hb); have aH := Aside0.mk (hbox); have aI := Aside0.mk ((by rw [hg]; exact (below_size Z3) : w.heap.size ≤ aa)); have aZ := Aside0.mk ((by rw [hg]; exact (below_size Z3) : w.heap.size ≤ aa)); replace HB := aG; have ab := aH; have cl := aI; have bs := aZ; clear aG aH aI aZ; clear hb hbox hg; have lK := cells_25 ab.out) | ((with_reducible refine Pre.gate_store 25 rfl ?_); refine Pre.store_abs (cur := #[.int .i64 0, .int .i64 0, .int .i64 0, .string ⟨#[]⟩, .int .i64 0, .int .i64 0, .string ⟨#[]⟩, .int .i64 0, .int .i64 0, .string ⟨#[]⟩, .int .i64 0, .string ⟨#[]⟩, .int .i64 0, .int .i64 0, .int .i64 0, .int .i64 0, .int .i64 0, .int .i64 0, .int .i64 0, .string ⟨#[]⟩, .string ⟨#[]⟩, .slice none 0 0, .int .i64 0, .string ⟨#[]⟩, .slice none 0 0]) (e := 25) rfl rfl rfl Z13 Z13 Z1 Z6 Z13 Z13 ?_; intro w5 hbS_ sS_; have aG : Aside0 (w5.heap[aa]? = some (.cells #[.int .i64 0, .int .i64 0, .int .i64 0, .string ⟨#[]⟩, .int .i64 0, .int .i64 0, .string ⟨#[]⟩, .int .i64 0, .int .i64 0, .string ⟨#[]⟩, .int .i64 0, .string ⟨#[]⟩, .int .i64 0, .int .i64 0, .int .i64 0, .int .i64 0, .int .i64 0, .int .i64 0, .int .i64 0, .string ⟨#[]⟩, .string ⟨#[]⟩, .slice none 0 0, .int .i64 0, .string ⟨#[]⟩, .slice none 0 0] 25 (0, 0))) := ⟨hbS_⟩; have aH : Aside0 (Below w.heap.size w w5) := ⟨sS_.below Z0 bs.out⟩; clear hbS_ sS_; replace ab := aG; replace HB := aH; clear aG aH))
  refine bodyPost_ret (results_ctt rfl _ _ aa 25 #[.int .i64 0, .int .i64 0, .int .i64 0, .string ⟨#[]⟩, .int .i64 0, .int .i64 0, .string ⟨#[]⟩, .int .i64 0, .int .i64 0, .string ⟨#[]⟩, .int .i64 0, .string ⟨#[]⟩, .int .i64 0, .int .i64 0, .int .i64 0, .int .i64 0, .int .i64 0, .int .i64 0, .int .i64 0, .string ⟨#[]⟩, .string ⟨#[]⟩, .slice none 0 0, .int .i64 0, .string ⟨#[]⟩, .slice none 0 0] (0, 0) _ rfl Z1 Try.underlying25 rfl Z6) rfl ?_
  exact ⟨_, _, Z9, Z12, Z27, Z0⟩
 ·rw [if_neg c2] at H
  have iq : decide ((a0.size : Int) < 4) = false := decide_eq_false c2
  have jE : decide (a0.size < 4) = false := decide_eq_false Z55
  clear c2
  have rr := Aside0.mk H
  clear H
  go_enter Try.func31, Try.ntmps31
  go_upto_region 3 with (first | ((with_reducible refine gate_dst (N := 46) rfl ?_); refine Pre.build_event 46 25 [(0, Go.Operand.const (Go.Value.int Go.IntKind.i64 5)), (15, Go.Operand.tmp 45)] rfl rfl rfl (roadbookref16_Get.bd46 _ _) ?_) | ((with_reducible refine Pre.gate_load 25 rfl ?_); (try (refine gate_guard Z13 ?_; dsimp only)); refine Pre.load_event rfl rfl rfl Z13 Z19 Try.underlying25 rfl Z6 ?_) | ((with_reducible refine gate_dst (N := 2) rfl ?_); refine box_event ?hg (N := 2) ?hd (cs := #[.int .i64 0, .int .i64 0, .int .i64 0, .string ⟨#[]⟩, .int .i64 0, .int .i64 0, .string ⟨#[]⟩, .int .i64 0, .int .i64 0, .string ⟨#[]⟩, .int .i64 0, .string ⟨#[]⟩, .int .i64 0, .int .i64 0, .int .i64 0, .int .i64 0, .int .i64 0, .int .i64 0, .int .i64 0, .string ⟨#[]⟩, .string ⟨#[]⟩, .slice none 0 0, .int .i64 0, .string ⟨#[]⟩, .slice none 0 0]) (t := 25) ?hr ?_; (case hd => rfl); (case hg => rfl); (case hr => first | (go_simp; done) | (go_simp; rfl)); intro aa hg w7 hbox hb; have aG := Aside0.mk (below_step Z3 hb); have aH := Aside0.mk (hbox); have aI := Aside0.mk ((by rw [hg]; exact (below_size Z3) : w.heap.size ≤ aa)); have aZ := Aside0.mk ((by rw [hg]; exact (below_size Z3) : w.heap.size ≤ aa)); replace HB := aG; have ab := aH; have cl := aI; have bs := aZ; clear aG aH aI aZ; clear hb hbox hg))
  (try simp only [Act.put, List.setIfInBounds_toArray, List.set_cons_zero, List.set_cons_succ])
  go_cut [25] (fun xf wc => ∃ (kq : Nat) (nr : Bool), xf = .bool nr ∧ Aside0 (roadbookref16_Get.j0 kq a0 nr = some (r1, r2, r3, r4, r5, r6, r7, r8, r9, r10, r11, r12, r13, r14, r15, r16, r17, r18, r19, r20, r21, r22, r23, r24, r25, r26, r27)) ∧ Aside0 (kq ≤ k) ∧ Aside0 (wc.heap[aa]? = some (.cells #[.int .i64 0, .int .i64 0, .int .i64 0, .string ⟨#[]⟩, .int .i64 0, .int .i64 0, .string ⟨#[]⟩, .int .i64 0, .int .i64 0, .string ⟨#[]⟩, .int .i64 0, .string ⟨#[]⟩, .int .i64 0, .int .i64 0, .int .i64 0, .int .i64 0, .int .i64 0, .int .i64 0, .int .i64 0, .string ⟨#[]⟩, .string ⟨#[]⟩, (.slice none 0 0), .int .i64 0, .string ⟨#[]⟩, (.slice none 0 0)] 25 (0, 0))) ∧ Aside0 (Below w.heap.size w wc))
  case first =>
   have H := rr.out
   clear rr
   by_cases c8 : 1 < (a0.size : Int)
   ·rw [if_pos c8] at H
    have iG : decide (1 < (a0.size : Int)) = true := decide_eq_true c8
    have kt : decide (1 < a0.size) = true := decide_eq_true Z55
    clear c8
    (first | rw [iG] | (simp only [i64_w, i32_w]; rw [iG]) | skip)
    by_cases cX : (Int.tmod (bt a0 1) 128) = 0
    ·rw [if_pos cX] at H
     have ff : ((Int.tmod (bt a0 1) 128) == 0) = true := beq_iff_eq.mpr cX
     have gG : ((Int.tmod (bt a0 1) 128) != 0) = false := bne_eq_false_iff_eq.mpr cX
     clear cX
     by_cases cU : 2 < (a0.size : Int)
     ·rw [if_pos cU] at H
      have fE : decide (2 < (a0.size : Int)) = true := decide_eq_true cU
      have hu : decide (2 < a0.size) = true := decide_eq_true Z55
      clear cU
      have H' := Aside0.mk H
      clear H
      have p9 : 0 ≤ (1 : Int) := Z55
      have q9 : 1 < a0.size := (by have : (1 : Int) < (a0.size : Int) := of_decide_eq_true Z10; omega)
      have hx9 : ∀ h : 1 < a0.size, ((a0[1]'h).toNat : Int) = bt a0 1 := bt_at a0 1
      clear p9
      have qi9 : (1 < (a0.size : Int)) = True := eq_true (of_decide_eq_true Z10)
      replace q9 := eq_true q9
      have p12 : 0 ≤ (2 : Int) := Z55
      have q12 : 2 < a0.size := (by have : (2 : Int) < (a0.size : Int) := of_decide_eq_true Z10; omega)
      have hx12 : ∀ h : 2 < a0.size, ((a0[2]'h).toNat : Int) = bt a0 2 := bt_at a0 2
      clear p12
      have qi12 : (2 < (a0.size : Int)) = True := eq_true (of_decide_eq_true Z10)
      replace q12 := eq_true q12
      go_wp2_with (first | ((with_reducible refine gate_dst (N := 46) rfl ?_); refine Pre.build_event 46 25 [(0, Go.Operand.const (Go.Value.int Go.IntKind.i64 5)), (15, Go.Operand.tmp 45)] rfl rfl rfl (roadbookref16_Get.bd46 _ _) ?_) | ((with_reducible refine Pre.gate_load 25 rfl ?_); (try (refine gate_guard Z13 ?_; dsimp only)); refine Pre.load_event rfl rfl rfl Z13 Z19 Try.underlying25 rfl Z6 ?_))
      go_meet
      case rel => exact ⟨_, (((bt a0 2) != 0)), Z14, H', ⟨Z41⟩, ⟨Z1⟩, ⟨Z0⟩⟩
     ·rw [if_neg cU] at H
      exact absurd H Z73
    ·rw [if_neg cX] at H
     have ff : ((Int.tmod (bt a0 1) 128) == 0) = false := beq_eq_false_iff_ne.mpr cX
     have gG : ((Int.tmod (bt a0 1) 128) != 0) = true := bne_iff_ne.mpr cX
     have H' := Aside0.mk H
     clear H
     have p9 : 0 ≤ (1 : Int) := Z55
     have q9 : 1 < a0.size := (by have : (1 : Int) < (a0.size : Int) := of_decide_eq_true Z10; omega)
     have hx9 : ∀ h : 1 < a0.size, ((a0[1]'h).toNat : Int) = bt a0 1 := bt_at a0 1
     clear p9
     have qi9 : (1 < (a0.size : Int)) = True := eq_true (of_decide_eq_true Z10)
     replace q9 := eq_true q9
     go_wp2_with (first | ((with_reducible refine gate_dst (N := 46) rfl ?_); refine Pre.build_event 46 25 [(0, Go.Operand.const (Go.Value.int Go.IntKind.i64 5)), (15, Go.Operand.tmp 45)] rfl rfl rfl (roadbookref16_Get.bd46 _ _) ?_) | ((with_reducible refine Pre.gate_load 25 rfl ?_); (try (refine gate_guard Z13 ?_; dsimp only)); refine Pre.load_event rfl rfl rfl Z13 Z19 Try.underlying25 rfl Z6 ?_))
     go_meet
     case rel => exact ⟨_, (true), Z14, H', ⟨Z41⟩, ⟨Z1⟩, ⟨Z0⟩⟩
   ·rw [if_neg c8] at H
    exact absurd H Z73
  case rest =>
   clear rr
   try clear c2
   try clear iq
   try clear jE
   try clear p2
   try clear c3
   try clear lK
   obtain ⟨kq, nr, rfl, HA, vH, ab, HB⟩ := hcut
   cases kq with
   | zero => exact absurd HA.out (by simp [roadbookref16_Get.j0])
   | succ kj5 =>
    have H := HA.out
    clear HA
    simp only [roadbookref16_Get.j0] at H
    by_cases dB : nr = true
    ·subst dB
     have H1 : (some (0, 0, 0, (⟨#[]⟩ : ByteArray), 0, 0, (⟨#[]⟩ : ByteArray), 0, 0, (⟨#[]⟩ : ByteArray), 0, (⟨#[]⟩ : ByteArray), 0, 0, 0, 0, 0, 0, 0, (⟨#[]⟩ : ByteArray), (⟨#[]⟩ : ByteArray), ([] : List (S46)), 0, (⟨#[]⟩ : ByteArray), ([] : List (S48)), 1, 5)) = some (r1, r2, r3, r4, r5, r6, r7, r8, r9, r10, r11, r12, r13, r14, r15, r16, r17, r18, r19, r20, r21, r22, r23, r24, r25, r26, r27) := by rw [if_pos rfl] at H; exact H
     clear H
     have H := H1
     clear H1
     simp only [Option.some.injEq, Prod.mk.injEq] at H
     obtain ⟨rfl, rfl, rfl, rfl, rfl, rfl, rfl, rfl, rfl, rfl, rfl, rfl, rfl, rfl, rfl, rfl, rfl, rfl, rfl, rfl, rfl, rfl, rfl, rfl, rfl, rfl, rfl⟩ := H
     have ji := cells_25 ab.out
     go_wp2_with (first | ((with_reducible refine gate_dst (N := 46) rfl ?_); refine Pre.build_event 46 25 [(0, Go.Operand.const (Go.Value.int Go.IntKind.i64 5)), (15, Go.Operand.tmp 45)] rfl rfl rfl (roadbookref16_Get.bd46 _ _) ?_) | ((with_reducible refine Pre.gate_load 25 rfl ?_); (try (refine gate_guard Z13 ?_; dsimp only)); refine Pre.load_event rfl rfl rfl Z13 Z19 Try.underlying25 rfl Z6 ?_) | ((with_reducible refine Pre.gate_store 25 rfl ?_); refine Pre.store_abs (cur := #[.int .i64 0, .int .i64 0, .int .i64 0, .string ⟨#[]⟩, .int .i64 0, .int .i64 0, .string ⟨#[]⟩, .int .i64 0, .int .i64 0, .string ⟨#[]⟩, .int .i64 0, .string ⟨#[]⟩, .int .i64 0, .int .i64 0, .int .i64 0, .int .i64 0, .int .i64 0, .int .i64 0, .int .i64 0, .string ⟨#[]⟩, .string ⟨#[]⟩, .slice none 0 0, .int .i64 0, .string ⟨#[]⟩, .slice none 0 0]) (e := 25) rfl rfl rfl Z13 Z13 Z1 Z6 Z13 Z13 ?_; intro pE hbS_ sS_; have aG : Aside0 (pE.heap[aa]? = some (.cells #[.int .i64 0, .int .i64 0, .int .i64 0, .string ⟨#[]⟩, .int .i64 0, .int .i64 0, .string ⟨#[]⟩, .int .i64 0, .int .i64 0, .string ⟨#[]⟩, .int .i64 0, .string ⟨#[]⟩, .int .i64 0, .int .i64 0, .int .i64 0, .int .i64 0, .int .i64 0, .int .i64 0, .int .i64 0, .string ⟨#[]⟩, .string ⟨#[]⟩, .slice none 0 0, .int .i64 0, .string ⟨#[]⟩, .slice none 0 0] 25 (0, 0))) := ⟨hbS_⟩; have aH : Aside0 (Below w.heap.size w pE) := ⟨sS_.below Z0 bs.out⟩; clear hbS_ sS_; replace ab := aG; replace HB := aH; clear aG aH))
     refine bodyPost_ret (results_ctt rfl _ _ aa 25 #[.int .i64 0, .int .i64 0, .int .i64 0, .string ⟨#[]⟩, .int .i64 0, .int .i64 0, .string ⟨#[]⟩, .int .i64 0, .int .i64 0, .string ⟨#[]⟩, .int .i64 0, .string ⟨#[]⟩, .int .i64 0, .int .i64 0, .int .i64 0, .int .i64 0, .int .i64 0, .int .i64 0, .int .i64 0, .string ⟨#[]⟩, .string ⟨#[]⟩, .slice none 0 0, .int .i64 0, .string ⟨#[]⟩, .slice none 0 0] (0, 0) _ rfl Z1 Try.underlying25 rfl Z6) rfl ?_
     exact ⟨_, _, Z9, Z12, Z27, Z0⟩
    ·replace dB := Bool.eq_false_iff.mpr dB
     subst dB
     have H1 : (if 3 < (a0.size : Int) then (if (wrap64 (bt a0 3)) = 0 then (some (0, 0, 0, (⟨#[]⟩ : ByteArray), 0, 0, (⟨#[]⟩ : ByteArray), 0, 0, (⟨#[]⟩ : ByteArray), 0, (⟨#[]⟩ : ByteArray), 0, 0, 0, 0, 0, 0, 0, (⟨#[]⟩ : ByteArray), (⟨#[]⟩ : ByteArray), ([] : List (S46)), 0, (⟨#[]⟩ : ByteArray), ([] : List (S48)), 3, 8)) else (if (a0.size : Int) < (wrap64 (4 + (wrap64 (8 * (wrap64 (bt a0 3)))))) then (some (0, 0, 0, (⟨#[]⟩ : ByteArray), 0, 0, (⟨#[]⟩ : ByteArray), 0, 0, (⟨#[]⟩ : ByteArray), 0, (⟨#[]⟩ : ByteArray), 0, 0, 0, 0, 0, 0, 0, (⟨#[]⟩ : ByteArray), (⟨#[]⟩ : ByteArray), ([] : List (S46)), 0, (⟨#[]⟩ : ByteArray), ([] : List (S48)), (a0.size : Int), 2)) else (if 1 < (a0.size : Int) then (roadbookref16_Get.l0 kj5 a0 (wrap64 (bt a0 3)) 0 5 0 0 (⟨#[]⟩ : ByteArray) 0 0 (⟨#[]⟩ : ByteArray) 0 0 (⟨#[]⟩ : ByteArray) 0 (⟨#[]⟩ : ByteArray) 0 0 0 (wrap64 (Int.tdiv (wrap64 (bt a0 1)) 128)) 0 0 0 (⟨#[]⟩ : ByteArray) (⟨#[]⟩ : ByteArray) ([] : List (S46)) 0 (⟨#[]⟩ : ByteArray)) else (none)))) else (none)) = some (r1, r2, r3, r4, r5, r6, r7, r8, r9, r10, r11, r12, r13, r14, r15, r16, r17, r18, r19, r20, r21, r22, r23, r24, r25, r26, r27) := by rw [if_neg (show ¬ (false = true) by decide)] at H; exact H
     clear H
     have H := H1
     clear H1
     by_cases ej : 3 < (a0.size : Int)
     ·rw [if_pos ej] at H
      have gL : decide (3 < (a0.size : Int)) = true := decide_eq_true ej
      have hM : decide (3 < a0.size) = true := decide_eq_true Z55
      clear ej
      by_cases hP : (wrap64 (bt a0 3)) = 0
      ·rw [if_pos hP] at H
       have iN : ((wrap64 (bt a0 3)) == 0) = true := beq_iff_eq.mpr hP
       have jS : ((wrap64 (bt a0 3)) != 0) = false := bne_eq_false_iff_eq.mpr hP
       clear hP
       simp only [Option.some.injEq, Prod.mk.injEq] at H
       obtain ⟨rfl, rfl, rfl, rfl, rfl, rfl, rfl, rfl, rfl, rfl, rfl, rfl, rfl, rfl, rfl, rfl, rfl, rfl, rfl, rfl, rfl, rfl, rfl, rfl, rfl, rfl, rfl⟩ := H
       have p17 : 0 ≤ (3 : Int) := Z55
       have q17 : 3 < a0.size := (by have : (3 : Int) < (a0.size : Int) := of_decide_eq_true Z10; omega)
       have hx17 : ∀ h : 3 < a0.size, ((a0[3]'h).toNat : Int) = bt a0 3 := bt_at a0 3
       clear p17
       have qi17 : (3 < (a0.size : Int)) = True := eq_true (of_decide_eq_true Z10)
       replace q17 := eq_true q17
       have jh := cells_25 ab.out
       go_wp2_with (first | ((with_reducible refine gate_dst (N := 46) rfl ?_); refine Pre.build_event 46 25 [(0, Go.Operand.const (Go.Value.int Go.IntKind.i64 5)), (15, Go.Operand.tmp 45)] rfl rfl rfl (roadbookref16_Get.bd46 _ _) ?_) | ((with_reducible refine Pre.gate_load 25 rfl ?_); (try (refine gate_guard Z13 ?_; dsimp only)); refine Pre.load_event rfl rfl rfl Z13 Z19 Try.underlying25 rfl Z6 ?_) | ((with_reducible refine Pre.gate_store 25 rfl ?_); refine Pre.store_abs (cur := #[.int .i64 0, .int .i64 0, .int .i64 0, .string ⟨#[]⟩, .int .i64 0, .int .i64 0, .string ⟨#[]⟩, .int .i64 0, .int .i64 0, .string ⟨#[]⟩, .int .i64 0, .string ⟨#[]⟩, .int .i64 0, .int .i64 0, .int .i64 0, .int .i64 0, .int .i64 0, .int .i64 0, .int .i64 0, .string ⟨#[]⟩, .string ⟨#[]⟩, .slice none 0 0, .int .i64 0, .string ⟨#[]⟩, .slice none 0 0]) (e := 25) rfl rfl rfl Z13 Z13 Z1 Z6 Z13 Z13 ?_; intro kG hbS_ sS_; have aG : Aside0 (kG.heap[aa]? = some (.cells #[.int .i64 0, .int .i64 0, .int .i64 0, .string ⟨#[]⟩, .int .i64 0, .int .i64 0, .string ⟨#[]⟩, .int .i64 0, .int .i64 0, .string ⟨#[]⟩, .int .i64 0, .string ⟨#[]⟩, .int .i64 0, .int .i64 0, .int .i64 0, .int .i64 0, .int .i64 0, .int .i64 0, .int .i64 0, .string ⟨#[]⟩, .string ⟨#[]⟩, .slice none 0 0, .int .i64 0, .string ⟨#[]⟩, .slice none 0 0] 25 (0, 0))) := ⟨hbS_⟩; have aH : Aside0 (Below w.heap.size w kG) := ⟨sS_.below Z0 bs.out⟩; clear hbS_ sS_; replace ab := aG; replace HB := aH; clear aG aH))
       refine bodyPost_ret (results_ctt rfl _ _ aa 25 #[.int .i64 0, .int .i64 0, .int .i64 0, .string ⟨#[]⟩, .int .i64 0, .int .i64 0, .string ⟨#[]⟩, .int .i64 0, .int .i64 0, .string ⟨#[]⟩, .int .i64 0, .string ⟨#[]⟩, .int .i64 0, .int .i64 0, .int .i64 0, .int .i64 0, .int .i64 0, .int .i64 0, .int .i64 0, .string ⟨#[]⟩, .string ⟨#[]⟩, .slice none 0 0, .int .i64 0, .string ⟨#[]⟩, .slice none 0 0] (0, 0) _ rfl Z1 Try.underlying25 rfl Z6) rfl ?_
       exact ⟨_, _, Z9, Z12, Z27, Z0⟩
      ·rw [if_neg hP] at H
       have iN : ((wrap64 (bt a0 3)) == 0) = false := beq_eq_false_iff_ne.mpr hP
       have jS : ((wrap64 (bt a0 3)) != 0) = true := bne_iff_ne.mpr hP
       by_cases gU : (a0.size : Int) < (wrap64 (4 + (wrap64 (8 * (wrap64 (bt a0 3))))))
       ·rw [if_pos gU] at H
        have kD : decide ((a0.size : Int) < (wrap64 (4 + (wrap64 (8 * (wrap64 (bt a0 3))))))) = true := decide_eq_true gU
        clear gU
        simp only [Option.some.injEq, Prod.mk.injEq] at H
        obtain ⟨rfl, rfl, rfl, rfl, rfl, rfl, rfl, rfl, rfl, rfl, rfl, rfl, rfl, rfl, rfl, rfl, rfl, rfl, rfl, rfl, rfl, rfl, rfl, rfl, rfl, rfl, rfl⟩ := H
        have p17 : 0 ≤ (3 : Int) := Z55
        have q17 : 3 < a0.size := (by have : (3 : Int) < (a0.size : Int) := of_decide_eq_true Z10; omega)
        have hx17 : ∀ h : 3 < a0.size, ((a0[3]'h).toNat : Int) = bt a0 3 := bt_at a0 3
        clear p17
        have qi17 : (3 < (a0.size : Int)) = True := eq_true (of_decide_eq_true Z10)
        replace q17 := eq_true q17
        have jl := cells_25 ab.out
        go_wp2_with (first | ((with_reducible refine gate_dst (N := 46) rfl ?_); refine Pre.build_event 46 25 [(0, Go.Operand.const (Go.Value.int Go.IntKind.i64 5)), (15, Go.Operand.tmp 45)] rfl rfl rfl (roadbookref16_Get.bd46 _ _) ?_) | ((with_reducible refine Pre.gate_load 25 rfl ?_); (try (refine gate_guard Z13 ?_; dsimp only)); refine Pre.load_event rfl rfl rfl Z13 Z19 Try.underlying25 rfl Z6 ?_) | ((with_reducible refine Pre.gate_store 25 rfl ?_); refine Pre.store_abs (cur := #[.int .i64 0, .int .i64 0, .int .i64 0, .string ⟨#[]⟩, .int .i64 0, .int .i64 0, .string ⟨#[]⟩, .int .i64 0, .int .i64 0, .string ⟨#[]⟩, .int .i64 0, .string ⟨#[]⟩, .int .i64 0, .int .i64 0, .int .i64 0, .int .i64 0, .int .i64 0, .int .i64 0, .int .i64 0, .string ⟨#[]⟩, .string ⟨#[]⟩, .slice none 0 0, .int .i64 0, .string ⟨#[]⟩, .slice none 0 0]) (e := 25) rfl rfl rfl Z13 Z13 Z1 Z6 Z13 Z13 ?_; intro gn hbS_ sS_; have aG : Aside0 (gn.heap[aa]? = some (.cells #[.int .i64 0, .int .i64 0, .int .i64 0, .string ⟨#[]⟩, .int .i64 0, .int .i64 0, .string ⟨#[]⟩, .int .i64 0, .int .i64 0, .string ⟨#[]⟩, .int .i64 0, .string ⟨#[]⟩, .int .i64 0, .int .i64 0, .int .i64 0, .int .i64 0, .int .i64 0, .int .i64 0, .int .i64 0, .string ⟨#[]⟩, .string ⟨#[]⟩, .slice none 0 0, .int .i64 0, .string ⟨#[]⟩, .slice none 0 0] 25 (0, 0))) := ⟨hbS_⟩; have aH : Aside0 (Below w.heap.size w gn) := ⟨sS_.below Z0 bs.out⟩; clear hbS_ sS_; replace ab := aG; replace HB := aH; clear aG aH))
        refine bodyPost_ret (results_ctt rfl _ _ aa 25 #[.int .i64 0, .int .i64 0, .int .i64 0, .string ⟨#[]⟩, .int .i64 0, .int .i64 0, .string ⟨#[]⟩, .int .i64 0, .int .i64 0, .string ⟨#[]⟩, .int .i64 0, .string ⟨#[]⟩, .int .i64 0, .int .i64 0, .int .i64 0, .int .i64 0, .int .i64 0, .int .i64 0, .int .i64 0, .string ⟨#[]⟩, .string ⟨#[]⟩, .slice none 0 0, .int .i64 0, .string ⟨#[]⟩, .slice none 0 0] (0, 0) _ rfl Z1 Try.underlying25 rfl Z6) rfl ?_
        exact ⟨_, _, Z9, Z12, Z27, Z0⟩
       ·rw [if_neg gU] at H
        have kD : decide ((a0.size : Int) < (wrap64 (4 + (wrap64 (8 * (wrap64 (bt a0 3))))))) = false := decide_eq_false gU
        clear gU
        by_cases fz : 1 < (a0.size : Int)
        ·rw [if_pos fz] at H
         have lc : decide (1 < (a0.size : Int)) = true := decide_eq_true fz
         have ld : decide (1 < a0.size) = true := decide_eq_true Z55
         clear fz
         have H' := Aside0.mk H
         clear H
         have p17 : 0 ≤ (3 : Int) := Z55
         have q17 : 3 < a0.size := (by have : (3 : Int) < (a0.size : Int) := of_decide_eq_true Z10; omega)
         have hx17 : ∀ h : 3 < a0.size, ((a0[3]'h).toNat : Int) = bt a0 3 := bt_at a0 3
         clear p17
         have qi17 : (3 < (a0.size : Int)) = True := eq_true (of_decide_eq_true Z10)
         replace q17 := eq_true q17
         have p25 : 0 ≤ (1 : Int) := Z55
         have q25 : 1 < a0.size := (by have : (1 : Int) < (a0.size : Int) := of_decide_eq_true Z10; omega)
         have hx25 : ∀ h : 1 < a0.size, ((a0[1]'h).toNat : Int) = bt a0 1 := bt_at a0 1
         clear p25
         have qi25 : (1 < (a0.size : Int)) = True := eq_true (of_decide_eq_true Z10)
         replace q25 := eq_true q25
         go_wp2_with (first | ((with_reducible refine gate_dst (N := 46) rfl ?_); refine Pre.build_event 46 25 [(0, Go.Operand.const (Go.Value.int Go.IntKind.i64 5)), (15, Go.Operand.tmp 45)] rfl rfl rfl (roadbookref16_Get.bd46 _ _) ?_) | ((with_reducible refine Pre.gate_load 25 rfl ?_); (try (refine gate_guard Z13 ?_; dsimp only)); refine Pre.load_event rfl rfl rfl Z13 Z19 Try.underlying25 rfl Z6 ?_) | ((with_reducible refine gate_dst (N := 6) rfl ?_); refine box_event ?hg (N := 6) ?hd (cs := #[.int .i64 0, .int .i64 0, .int .i64 0, .string ⟨#[]⟩, .int .i64 0, .int .i64 0, .string ⟨#[]⟩, .int .i64 0, .int .i64 0, .string ⟨#[]⟩, .int .i64 0, .string ⟨#[]⟩, .int .i64 0, .int .i64 0, .int .i64 0, .int .i64 0, .int .i64 0, .int .i64 0, .int .i64 0, .string ⟨#[]⟩, .string ⟨#[]⟩, .slice none 0 0, .int .i64 0, .string ⟨#[]⟩, .slice none 0 0]) (t := 25) ?hr ?_; (case hd => rfl); (case hg => rfl); (case hr => first | (go_simp; done) | (go_simp; rfl)); intro aU hg gD hbox hb; have aG := Aside0.mk (blk_below (g := aa) Z1 hb); have aH := Aside0.mk (below_step Z0 hb); have aI := Aside0.mk (hbox); have aZ := Aside0.mk ((by rw [hg]; exact (below_size Z0) : w.heap.size ≤ aU)); have bH := Aside0.mk ((by rw [hg]; exact (below_size Z0) : w.heap.size ≤ aU)); have cx := Aside0.mk ((by rw [hg]; exact Nat.ne_of_lt (blk_lt (g := aa) Z1) : aa ≠ aU)); have du := Aside0.mk ((by rw [hg]; exact Nat.ne_of_gt (blk_lt (g := aa) Z1) : aU ≠ aa)); replace ab := aG; replace HB := aH; have aX := aI; have iA := aZ; have gS := bH; have bo := cx; have cc := du; clear aG aH aI aZ bH cx du; clear hb hbox hg; have tc := cc.out; have td := bo.out; have kI := cells_25 aX.out) | ((with_reducible refine Pre.gate_store 25 rfl ?_); refine Pre.store_abs (cur := #[.int .i64 0, .int .i64 0, .int .i64 0, .string ⟨#[]⟩, .int .i64 0, .int .i64 0, .string ⟨#[]⟩, .int .i64 0, .int .i64 0, .string ⟨#[]⟩, .int .i64 0, .string ⟨#[]⟩, .int .i64 0, .int .i64 0, .int .i64 0, .int .i64 0, .int .i64 0, .int .i64 0, .int .i64 0, .string ⟨#[]⟩, .string ⟨#[]⟩, .slice none 0 0, .int .i64 0, .string ⟨#[]⟩, .slice none 0 0]) (e := 25) rfl rfl rfl Z13 Z13 Z26 Z6 Z13 Z13 ?_; intro hX hbS_ sS_; have aG : Aside0 (hX.heap[aa]? = some (.cells #[.int .i64 0, .int .i64 0, .int .i64 0, .string ⟨#[]⟩, .int .i64 0, .int .i64 0, .string ⟨#[]⟩, .int .i64 0, .int .i64 0, .string ⟨#[]⟩, .int .i64 0, .string ⟨#[]⟩, .int .i64 0, .int .i64 0, .int .i64 0, .int .i64 0, .int .i64 0, .int .i64 0, .int .i64 0, .string ⟨#[]⟩, .string ⟨#[]⟩, .slice none 0 0, .int .i64 0, .string ⟨#[]⟩, .slice none 0 0] 25 (0, 0))) := ⟨sS_.blk Z1 bo.out⟩; have aH : Aside0 (hX.heap[aU]? = some (.cells #[.int .i64 5, .int .i64 0, .int .i64 0, .string ⟨#[]⟩, .int .i64 0, .int .i64 0, .string ⟨#[]⟩, .int .i64 0, .int .i64 0, .string ⟨#[]⟩, .int .i64 0, .string ⟨#[]⟩, .int .i64 0, .int .i64 0, .int .i64 0, .int .i64 (wrap64 (Int.tdiv (wrap64 (bt a0 1)) 128)), .int .i64 0, .int .i64 0, .int .i64 0, .string ⟨#[]⟩, .string ⟨#[]⟩, .slice none 0 0, .int .i64 0, .string ⟨#[]⟩, .slice none 0 0] 25 (0, 0))) := ⟨hbS_⟩; have aI : Aside0 (Below w.heap.size w hX) := ⟨sS_.below Z15 gS.out⟩; clear hbS_ sS_; replace ab := aG; replace aX := aH; replace HB := aI; clear aG aH aI))
         go_loopg [7] kj5 (fun kq v7 w' => ∃ (gy : Int) (cW : List (S46)) (u103021 : Value), v7 = .int .i64 gy ∧ Aside0 (roadbookref16_Get.l0 kq a0 (wrap64 (bt a0 3)) gy 5 0 0 (⟨#[]⟩ : ByteArray) 0 0 (⟨#[]⟩ : ByteArray) 0 0 (⟨#[]⟩ : ByteArray) 0 (⟨#[]⟩ : ByteArray) 0 0 0 (wrap64 (Int.tdiv (wrap64 (bt a0 1)) 128)) 0 0 0 (⟨#[]⟩ : ByteArray) (⟨#[]⟩ : ByteArray) cW 0 (⟨#[]⟩ : ByteArray) = some (r1, r2, r3, r4, r5, r6, r7, r8, r9, r10, r11, r12, r13, r14, r15, r16, r17, r18, r19, r20, r21, r22, r23, r24, r25, r26, r27)) ∧ Aside0 (kq ≤ kj5) ∧ Aside0 (Kd.R k46 46 w' w.heap.size (fun _ => True) u103021 cW) ∧ Aside0 (w'.heap[aa]? = some (.cells #[.int .i64 0, .int .i64 0, .int .i64 0, .string ⟨#[]⟩, .int .i64 0, .int .i64 0, .string ⟨#[]⟩, .int .i64 0, .int .i64 0, .string ⟨#[]⟩, .int .i64 0, .string ⟨#[]⟩, .int .i64 0, .int .i64 0, .int .i64 0, .int .i64 0, .int .i64 0, .int .i64 0, .int .i64 0, .string ⟨#[]⟩, .string ⟨#[]⟩, (.slice none 0 0), .int .i64 0, .string ⟨#[]⟩, (.slice none 0 0)] 25 (0, 0))) ∧ Aside0 (w'.heap[aU]? = some (.cells #[.int .i64 5, .int .i64 0, .int .i64 0, .string ⟨#[]⟩, .int .i64 0, .int .i64 0, .string ⟨#[]⟩, .int .i64 0, .int .i64 0, .string ⟨#[]⟩, .int .i64 0, .string ⟨#[]⟩, .int .i64 0, .int .i64 0, .int .i64 0, .int .i64 (wrap64 (Int.tdiv (wrap64 (bt a0 1)) 128)), .int .i64 0, .int .i64 0, .int .i64 0, .string ⟨#[]⟩, .string ⟨#[]⟩, u103021, .int .i64 0, .string ⟨#[]⟩, (.slice none 0 0)] 25 (0, 0))) ∧ Aside0 (Below w.heap.size w w'))
         case atStart => exact ⟨(0), (([] : List (S46))), (.slice none 0 0), Z14, H', ⟨Nat.le_refl _⟩, ⟨Z12⟩, ⟨Z1⟩, ⟨Z26⟩, ⟨Z15⟩⟩
         case round =>
          clear H'
          try clear c1
          try clear p1
          try clear q1
          try clear hx1
          try clear qi1
          try clear c2
          try clear iq
          try clear jE
          try clear p2
          try clear q2
          try clear hx2
          try clear qi2
          try clear c3
          try clear p6
          try clear c8
          try clear iG
          try clear kt
          try clear p9
          try clear q9
          try clear hx9
          try clear qi9
          try clear cX
          try clear ff
          try clear gG
          try clear cU
          try clear fE
          try clear hu
          try clear p12
          try clear q12
          try clear hx12
          try clear qi12
          try clear dB
          try clear ej
          try clear gL
          try clear hM
          try clear p17
          try clear q17
          try clear hx17
          try clear qi17
          try clear hP
          try clear iN
          try clear jS
          try clear gU
          try clear kD
          try clear fz
          try clear lc
          try clear ld
          try clear p25
          try clear q25
          try clear hx25
          try clear qi25
          try clear iD
          try clear ji
          try clear jh
          try clear jl
          try clear kI
          try clear lK
          try clear p12
          try clear p17
          try clear p2
          try clear p25
          try clear p9
          try clear q12
          try clear q17
          try clear q25
          try clear q9
          obtain ⟨gy, cW, u103021, rfl, HA, HK2, HO_103021, ab, aX, HB⟩ := hrel
          cases gk with
          | zero => exact absurd HA.out (by simp [roadbookref16_Get.l0])
          | succ k2 =>
           have H := HA.out
           clear HA
           simp only [roadbookref16_Get.l0] at H
           by_cases la : gy < (wrap64 (bt a0 3))
           ·rw [if_pos la] at H
            have ou : decide (gy < (wrap64 (bt a0 3))) = true := decide_eq_true la
            clear la
            obtain ⟨ji31, hji31⟩ : ∃ j_ : Int, (wrap64 (4 + (wrap64 (8 * gy)))) = j_ := ⟨_, rfl⟩
            replace H : (if 0 ≤ (ji31) then (if (ji31) ≤ (wrap64 (8 + (wrap64 (8 * gy)))) then (if (wrap64 (8 + (wrap64 (8 * gy)))) ≤ (a0.size : Int) then (if 0 ≤ (wrap64 (8 + (wrap64 (8 * gy)))) then (if (wrap64 (8 + (wrap64 (8 * gy)))) ≤ (wrap64 (12 + (wrap64 (8 * gy)))) then (if (wrap64 (12 + (wrap64 (8 * gy)))) ≤ (a0.size : Int) then ((roadbookref08_Number.f k2 (a0.extract ((wrap64 (8 + (wrap64 (8 * gy)))) : Int).toNat ((wrap64 (12 + (wrap64 (8 * gy)))) : Int).toNat)).bind fun bf => (if cW.length < 5864062014805 then (roadbookref16_Get.l0 k2 a0 (wrap64 (bt a0 3)) (wrap64 (gy + 1)) 5 0 0 (⟨#[]⟩ : ByteArray) 0 0 (⟨#[]⟩ : ByteArray) 0 0 (⟨#[]⟩ : ByteArray) 0 (⟨#[]⟩ : ByteArray) 0 0 0 (wrap64 (Int.tdiv (wrap64 (bt a0 1)) 128)) 0 0 0 (⟨#[]⟩ : ByteArray) (⟨#[]⟩ : ByteArray) (cW ++ [(⟨a0.extract ((ji31) : Int).toNat ((wrap64 (8 + (wrap64 (8 * gy)))) : Int).toNat, bf⟩ : S46)]) 0 (⟨#[]⟩ : ByteArray)) else (none))) else (none)) else (none)) else (none)) else (none)) else (none)) else (none)) = some (r1, r2, r3, r4, r5, r6, r7, r8, r9, r10, r11, r12, r13, r14, r15, r16, r17, r18, r19, r20, r21, r22, r23, r24, r25, r26, r27) := by first | (rw [hji31] at H; exact H) | (simp only [hji31] at H ⊢; exact H)
            have hji31w : (IntKind.i64.wrap (4 + (wrap64 (8 * gy)))) = ji31 := (i64_w _).trans hji31
            by_cases jv : 0 ≤ (ji31)
            ·rw [if_pos jv] at H
             have lV := eq_true jv
             have qm : decide (0 ≤ (ji31)) = true := decide_eq_true jv
             clear jv
             by_cases kv : (ji31) ≤ (wrap64 (8 + (wrap64 (8 * gy))))
             ·rw [if_pos kv] at H
              have ms := eq_true kv
              have nq : decide ((ji31) ≤ (wrap64 (8 + (wrap64 (8 * gy))))) = true := decide_eq_true kv
              by_cases jf : (wrap64 (8 + (wrap64 (8 * gy)))) ≤ (a0.size : Int)
              ·rw [if_pos jf] at H
               have ks := eq_true jf
               have lW : decide ((wrap64 (8 + (wrap64 (8 * gy)))) ≤ (a0.size : Int)) = true := decide_eq_true jf
               obtain ⟨ji35, hji35⟩ : ∃ j_ : Int, (wrap64 (8 + (wrap64 (8 * gy)))) = j_ := ⟨_, rfl⟩
               replace H : (if 0 ≤ (ji35) then (if (ji35) ≤ (wrap64 (12 + (wrap64 (8 * gy)))) then (if (wrap64 (12 + (wrap64 (8 * gy)))) ≤ (a0.size : Int) then ((roadbookref08_Number.f k2 (a0.extract ((ji35) : Int).toNat ((wrap64 (12 + (wrap64 (8 * gy)))) : Int).toNat)).bind fun bf => (if cW.length < 5864062014805 then (roadbookref16_Get.l0 k2 a0 (wrap64 (bt a0 3)) (wrap64 (gy + 1)) 5 0 0 (⟨#[]⟩ : ByteArray) 0 0 (⟨#[]⟩ : ByteArray) 0 0 (⟨#[]⟩ : ByteArray) 0 (⟨#[]⟩ : ByteArray) 0 0 0 (wrap64 (Int.tdiv (wrap64 (bt a0 1)) 128)) 0 0 0 (⟨#[]⟩ : ByteArray) (⟨#[]⟩ : ByteArray) (cW ++ [(⟨a0.extract ((ji31) : Int).toNat ((ji35) : Int).toNat, bf⟩ : S46)]) 0 (⟨#[]⟩ : ByteArray)) else (none))) else (none)) else (none)) else (none)) = some (r1, r2, r3, r4, r5, r6, r7, r8, r9, r10, r11, r12, r13, r14, r15, r16, r17, r18, r19, r20, r21, r22, r23, r24, r25, r26, r27) := by first | (rw [hji35] at H; exact H) | (simp only [hji35] at H ⊢; exact H)
               (try rw [hji35] at ms)
               (try rw [hji35] at nq)
               (try rw [hji35] at kv)
               (try rw [hji35] at ks)
               (try rw [hji35] at lW)
               (try rw [hji35] at jf)
               have hji35w : (IntKind.i64.wrap (8 + (wrap64 (8 * gy)))) = ji35 := (i64_w _).trans hji35
               by_cases mC : 0 ≤ (ji35)
               ·rw [if_pos mC] at H
                have c36b0 := eq_true mC
                have c36b1 : decide (0 ≤ (ji35)) = true := decide_eq_true mC
                clear mC
                by_cases pS : (ji35) ≤ (wrap64 (12 + (wrap64 (8 * gy))))
                ·rw [if_pos pS] at H
                 have c37b0 := eq_true pS
                 have c37b1 : decide ((ji35) ≤ (wrap64 (12 + (wrap64 (8 * gy))))) = true := decide_eq_true pS
                 by_cases ua : (wrap64 (12 + (wrap64 (8 * gy)))) ≤ (a0.size : Int)
                 ·rw [if_pos ua] at H
                  have c38b0 := eq_true ua
                  have c38b1 : decide ((wrap64 (12 + (wrap64 (8 * gy)))) ≤ (a0.size : Int)) = true := decide_eq_true ua
                  replace H := Option.bind_eq_some_iff.mp H
                  obtain ⟨bf, ub, H⟩ := H
                  replace H : (if cW.length < 5864062014805 then (roadbookref16_Get.l0 k2 a0 (wrap64 (bt a0 3)) (wrap64 (gy + 1)) 5 0 0 (⟨#[]⟩ : ByteArray) 0 0 (⟨#[]⟩ : ByteArray) 0 0 (⟨#[]⟩ : ByteArray) 0 (⟨#[]⟩ : ByteArray) 0 0 0 (wrap64 (Int.tdiv (wrap64 (bt a0 1)) 128)) 0 0 0 (⟨#[]⟩ : ByteArray) (⟨#[]⟩ : ByteArray) (cW ++ [(⟨a0.extract ((ji31) : Int).toNat ((ji35) : Int).toNat, bf⟩ : S46)]) 0 (⟨#[]⟩ : ByteArray)) else (none)) = some (r1, r2, r3, r4, r5, r6, r7, r8, r9, r10, r11, r12, r13, r14, r15, r16, r17, r18, r19, r20, r21, r22, r23, r24, r25, r26, r27) := H
                  have xg := Aside0.mk ub
                  clear ub
                  by_cases jw : cW.length < 5864062014805
                  ·rw [if_pos jw] at H
                   have LMc40 := Aside0.mk jw
                   clear jw
                   obtain ⟨iY, hy104⟩ : ∃ y_ : List (S46), y_ = (cW ++ [(⟨a0.extract ((ji31) : Int).toNat ((ji35) : Int).toNat, bf⟩ : S46)]) := ⟨_, rfl⟩
                   replace H : (roadbookref16_Get.l0 k2 a0 (wrap64 (bt a0 3)) (wrap64 (gy + 1)) 5 0 0 (⟨#[]⟩ : ByteArray) 0 0 (⟨#[]⟩ : ByteArray) 0 0 (⟨#[]⟩ : ByteArray) 0 (⟨#[]⟩ : ByteArray) 0 0 0 (wrap64 (Int.tdiv (wrap64 (bt a0 1)) 128)) 0 0 0 (⟨#[]⟩ : ByteArray) (⟨#[]⟩ : ByteArray) iY 0 (⟨#[]⟩ : ByteArray)) = some (r1, r2, r3, r4, r5, r6, r7, r8, r9, r10, r11, r12, r13, r14, r15, r16, r17, r18, r19, r20, r21, r22, r23, r24, r25, r26, r27) := by first | (rw [hy104]; with_reducible exact H) | (have H2_ := (Option.bind_some _ _).symm.trans H; rw [hy104]; with_reducible exact H2_) | (have H2_ := (Option.bind_some _ _).symm.trans H; with_reducible exact H2_) | with_reducible exact H | (rw [hy104]; exact H) | exact H
                   have Ny104 := Aside0.mk hy104
                   clear hy104
                   have H' := Aside0.mk H
                   clear H
                   try go_wp2_with (first | ((with_reducible refine gate_dst (N := 46) rfl ?_); refine Pre.build_event 46 25 [(0, Go.Operand.const (Go.Value.int Go.IntKind.i64 5)), (15, Go.Operand.tmp 45)] rfl rfl rfl (roadbookref16_Get.bd46 _ _) ?_) | ((with_reducible refine Pre.gate_load 25 rfl ?_); (try (refine gate_guard Z13 ?_; dsimp only)); refine Pre.load_event rfl rfl rfl Z13 Z19 Try.underlying25 rfl Z6 ?_))
                   have aG := Aside0.mk (Kd.R_drew HO_103021.out)
                   have aH := Aside0.mk (blk_drew ab.out)
                   have aI := Aside0.mk (blk_drew aX.out)
                   have aZ := Aside0.mk (below_drew1 HB.out)
                   clear HO_103021
                   clear ab
                   clear aX
                   clear HB
                   have HO_103021 := aG
                   have ab := aH
                   have aX := aI
                   have HB := aZ
                   clear aG aH aI aZ
                   refine start_ (n := 24) (S := fun w' => w'.cell? ⟨aU, 0, none⟩ = some (.int .i64 5) ∧ w'.cell? ⟨aU, 1, none⟩ = some (.int .i64 0) ∧ w'.cell? ⟨aU, 2, none⟩ = some (.int .i64 0) ∧ w'.cell? ⟨aU, 3, none⟩ = some (.string ⟨#[]⟩) ∧ w'.cell? ⟨aU, 4, none⟩ = some (.int .i64 0) ∧ w'.cell? ⟨aU, 5, none⟩ = some (.int .i64 0) ∧ w'.cell? ⟨aU, 6, none⟩ = some (.string ⟨#[]⟩) ∧ w'.cell? ⟨aU, 7, none⟩ = some (.int .i64 0) ∧ w'.cell? ⟨aU, 8, none⟩ = some (.int .i64 0) ∧ w'.cell? ⟨aU, 9, none⟩ = some (.string ⟨#[]⟩) ∧ w'.cell? ⟨aU, 10, none⟩ = some (.int .i64 0) ∧ w'.cell? ⟨aU, 11, none⟩ = some (.string ⟨#[]⟩) ∧ w'.cell? ⟨aU, 12, none⟩ = some (.int .i64 0) ∧ w'.cell? ⟨aU, 13, none⟩ = some (.int .i64 0) ∧ w'.cell? ⟨aU, 14, none⟩ = some (.int .i64 0) ∧ w'.cell? ⟨aU, 15, none⟩ = some (.int .i64 (wrap64 (Int.tdiv (wrap64 (bt a0 1)) 128))) ∧ w'.cell? ⟨aU, 16, none⟩ = some (.int .i64 0) ∧ w'.cell? ⟨aU, 17, none⟩ = some (.int .i64 0) ∧ w'.cell? ⟨aU, 18, none⟩ = some (.int .i64 0) ∧ w'.cell? ⟨aU, 19, none⟩ = some (.string ⟨#[]⟩) ∧ w'.cell? ⟨aU, 20, none⟩ = some (.string ⟨#[]⟩) ∧ w'.cell? ⟨aU, 21, none⟩ = some (u103021) ∧ w'.cell? ⟨aU, 22, none⟩ = some (.int .i64 0) ∧ w'.cell? ⟨aU, 23, none⟩ = some (.string ⟨#[]⟩) ∧ w'.cell? ⟨aU, 24, none⟩ = some (.slice none 0 0)) (ds := [23]) #[false, false, false, false, false, false, false, false, false, false, false, false, false, false, false, false, false, false, false, false, false, false, false, false] Z6 rfl rfl ⟨(blk_cell aX.out 0).trans rfl, (blk_cell aX.out 1).trans rfl, (blk_cell aX.out 2).trans rfl, (blk_cell aX.out 3).trans rfl, (blk_cell aX.out 4).trans rfl, (blk_cell aX.out 5).trans rfl, (blk_cell aX.out 6).trans rfl, (blk_cell aX.out 7).trans rfl, (blk_cell aX.out 8).trans rfl, (blk_cell aX.out 9).trans rfl, (blk_cell aX.out 10).trans rfl, (blk_cell aX.out 11).trans rfl, (blk_cell aX.out 12).trans rfl, (blk_cell aX.out 13).trans rfl, (blk_cell aX.out 14).trans rfl, (blk_cell aX.out 15).trans rfl, (blk_cell aX.out 16).trans rfl, (blk_cell aX.out 17).trans rfl, (blk_cell aX.out 18).trans rfl, (blk_cell aX.out 19).trans rfl, (blk_cell aX.out 20).trans rfl, (blk_cell aX.out 21).trans rfl, (blk_cell aX.out 22).trans rfl, (blk_cell aX.out 23).trans rfl, (blk_cell aX.out 24).trans rfl⟩ (fun hHeld => ?_); refine with_tabW roadbookref16_Get.tab14 roadbookref16_Get.bits14 (fun HT_ HW_ => ?_)
                   generalize wr.drew = pC at HO_103021 ab aX HB hHeld ⊢
                   refine pure_ (i := 0) (N := some 52) (v := ?_) (a' := ?_) #[true, false, false, false, false, false, false, false, false, false, false, false, false, false, false, false, false, false, false, false, false, false, false, false] rfl rfl (any_of HT_.out Z6) (fun _ _ _ h => h) (Or.inl ⟨Z13, ?_⟩) ?_ ?_
                   rotate_left
                   ·intro w'
                    go_simp
                    with_reducible rfl
                   rotate_left
                   ·simp only [Act.put, List.setIfInBounds_toArray, List.set_cons_zero, List.set_cons_succ, i64_w, i32_w]
                    rfl
                   refine pure_ (i := 2) (N := some 54) (v := ?_) (a' := ?_) #[true, false, true, false, false, false, false, false, false, false, false, false, false, false, false, false, false, false, false, false, false, false, false, false] rfl rfl (any_of HT_.out Z6) (fun _ _ _ h => h) (Or.inl ⟨Z13, ?_⟩) ?_ ?_
                   rotate_left
                   ·intro w'
                    go_simp
                    with_reducible rfl
                   rotate_left
                   ·simp only [Act.put, List.setIfInBounds_toArray, List.set_cons_zero, List.set_cons_succ, i64_w, i32_w]
                    rfl
                   refine pure_ (i := 3) (N := some 55) (v := ?_) (a' := ?_) #[true, false, true, true, false, false, false, false, false, false, false, false, false, false, false, false, false, false, false, false, false, false, false, false] rfl rfl (any_of HT_.out Z6) (fun _ _ _ h => h) (Or.inl ⟨Z13, ?_⟩) ?_ ?_
                   rotate_left
                   ·intro w'
                    go_simp
                    with_reducible rfl
                   rotate_left
                   ·simp only [Act.put, List.setIfInBounds_toArray, List.set_cons_zero, List.set_cons_succ, i64_w, i32_w]
                    rfl
                   refine pure_ (i := 4) (N := some 56) (v := ?_) (a' := ?_) #[true, false, true, true, true, false, false, false, false, false, false, false, false, false, false, false, false, false, false, false, false, false, false, false] rfl rfl (any_of HT_.out Z6) (fun _ _ _ h => h) (Or.inl ⟨Z13, ?_⟩) ?_ ?_
                   rotate_left
                   ·intro w'
                    go_simp
                    with_reducible rfl
                   rotate_left
                   ·simp only [Act.put, List.setIfInBounds_toArray, List.set_cons_zero, List.set_cons_succ, i64_w, i32_w]
                    rfl
                   refine pure_ (i := 5) (N := some 57) (v := ?_) (a' := ?_) #[true, false, true, true, true, true, false, false, false, false, false, false, false, false, false, false, false, false, false, false, false, false, false, false] rfl rfl (any_of HT_.out Z6) (fun _ _ _ h => h) (Or.inl ⟨Z13, ?_⟩) ?_ ?_
                   rotate_left
                   ·intro w'
                    go_simp
                    with_reducible rfl
                   rotate_left
                   ·simp only [Act.put, List.setIfInBounds_toArray, List.set_cons_zero, List.set_cons_succ, i64_w, i32_w]
                    rfl
                   refine pure_ (i := 6) (N := some 58) (v := ?_) (a' := ?_) #[true, false, true, true, true, true, true, false, false, false, false, false, false, false, false, false, false, false, false, false, false, false, false, false] rfl rfl (any_of HT_.out Z6) (fun _ _ _ h => h) (Or.inl ⟨Z13, ?_⟩) ?_ ?_
                   rotate_left
                   ·intro w'
                    go_simp
                    with_reducible rfl
                   rotate_left
                   ·simp only [Act.put, List.setIfInBounds_toArray, List.set_cons_zero, List.set_cons_succ, i64_w, i32_w]
                    rfl
                   refine pure_ (i := 7) (N := some 59) (v := ?_) (a' := ?_) #[true, false, true, true, true, true, true, true, false, false, false, false, false, false, false, false, false, false, false, false, false, false, false, false] rfl rfl (any_of HT_.out Z6) (fun _ _ _ h => h) (Or.inl ⟨Z13, ?_⟩) ?_ ?_
                   rotate_left
                   ·intro w'
                    go_simp
                    with_reducible rfl
                   rotate_left
                   ·simp only [Act.put, List.setIfInBounds_toArray, List.set_cons_zero, List.set_cons_succ, i64_w, i32_w]
                    rfl
                   refine pure_ (i := 8) (N := some 60) (v := ?_) (a' := ?_) #[true, false, true, true, true, true, true, true, true, false, false, false, false, false, false, false, false, false, false, false, false, false, false, false] rfl rfl (any_of HT_.out Z6) (fun _ _ _ h => h) (Or.inl ⟨Z13, ?_⟩) ?_ ?_
                   rotate_left
                   ·intro w'
                    go_simp
                    with_reducible rfl
                   rotate_left
                   ·simp only [Act.put, List.setIfInBounds_toArray, List.set_cons_zero, List.set_cons_succ, i64_w, i32_w]
                    rfl
                   refine pure_ (i := 9) (N := some 61) (v := ?_) (a' := ?_) #[true, false, true, true, true, true, true, true, true, true, false, false, false, false, false, false, false, false, false, false, false, false, false, false] rfl rfl (any_of HT_.out Z6) (fun _ _ _ h => h) (Or.inl ⟨Z13, ?_⟩) ?_ ?_
                   rotate_left
                   ·intro w'
                    go_simp
                    with_reducible rfl
                   rotate_left
                   ·simp only [Act.put, List.setIfInBounds_toArray, List.set_cons_zero, List.set_cons_succ, i64_w, i32_w]
                    rfl
                   refine pure_ (i := 10) (N := some 62) (v := ?_) (a' := ?_) #[true, false, true, true, true, true, true, true, true, true, true, false, false, false, false, false, false, false, false, false, false, false, false, false] rfl rfl (any_of HT_.out Z6) (fun _ _ _ h => h) (Or.inl ⟨Z13, ?_⟩) ?_ ?_
                   rotate_left
                   ·intro w'
                    go_simp
                    with_reducible rfl
                   rotate_left
                   ·simp only [Act.put, List.setIfInBounds_toArray, List.set_cons_zero, List.set_cons_succ, i64_w, i32_w]
                    rfl
                   refine pure_ (i := 11) (N := some 63) (v := ?_) (a' := ?_) #[true, false, true, true, true, true, true, true, true, true, true, true, false, false, false, false, false, false, false, false, false, false, false, false] rfl rfl (any_of HT_.out Z6) (fun _ _ _ h => h) (Or.inl ⟨Z13, ?_⟩) ?_ ?_
                   rotate_left
                   ·intro w'
                    go_simp
                    with_reducible rfl
                   rotate_left
                   ·simp only [Act.put, List.setIfInBounds_toArray, List.set_cons_zero, List.set_cons_succ, i64_w, i32_w]
                    rfl
                   refine pure_ (i := 12) (N := some 64) (v := ?_) (a' := ?_) #[true, false, true, true, true, true, true, true, true, true, true, true, true, false, false, false, false, false, false, false, false, false, false, false] rfl rfl (any_of HT_.out Z6) (fun _ _ _ h => h) (Or.inl ⟨Z13, ?_⟩) ?_ ?_
                   rotate_left
                   ·intro w'
                    go_simp
                    with_reducible rfl
                   rotate_left
                   ·simp only [Act.put, List.setIfInBounds_toArray, List.set_cons_zero, List.set_cons_succ, i64_w, i32_w]
                    rfl
                   refine pure_ (i := 13) (N := some 65) (v := ?_) (a' := ?_) #[true, false, true, true, true, true, true, true, true, true, true, true, true, true, false, false, false, false, false, false, false, false, false, false] rfl rfl (any_of HT_.out Z6) (fun _ _ _ h => h) (Or.inl ⟨Z13, ?_⟩) ?_ ?_
                   rotate_left
                   ·intro w'
                    go_simp
                    with_reducible rfl
                   rotate_left
                   ·simp only [Act.put, List.setIfInBounds_toArray, List.set_cons_zero, List.set_cons_succ, i64_w, i32_w]
                    rfl
                   refine pure_ (i := 14) (N := some 66) (v := ?_) (a' := ?_) #[true, false, true, true, true, true, true, true, true, true, true, true, true, true, true, false, false, false, false, false, false, false, false, false] rfl rfl (any_of HT_.out Z6) (fun _ _ _ h => h) (Or.inl ⟨Z13, ?_⟩) ?_ ?_
                   rotate_left
                   ·intro w'
                    go_simp
                    with_reducible rfl
                   rotate_left
                   ·simp only [Act.put, List.setIfInBounds_toArray, List.set_cons_zero, List.set_cons_succ, i64_w, i32_w]
                    rfl
                   refine pure_ (i := 15) (N := some 67) (v := ?_) (a' := ?_) #[true, false, true, true, true, true, true, true, true, true, true, true, true, true, true, true, false, false, false, false, false, false, false, false] rfl rfl (any_of HT_.out Z6) (fun _ _ _ h => h) (Or.inl ⟨Z13, ?_⟩) ?_ ?_
                   rotate_left
                   ·intro w'
                    go_simp
                    with_reducible rfl
                   rotate_left
                   ·simp only [Act.put, List.setIfInBounds_toArray, List.set_cons_zero, List.set_cons_succ, i64_w, i32_w]
                    rfl
                   refine pure_ (i := 16) (N := some 68) (v := ?_) (a' := ?_) #[true, false, true, true, true, true, true, true, true, true, true, true, true, true, true, true, true, false, false, false, false, false, false, false] rfl rfl (any_of HT_.out Z6) (fun _ _ _ h => h) (Or.inl ⟨Z13, ?_⟩) ?_ ?_
                   rotate_left
                   ·intro w'
                    go_simp
                    with_reducible rfl
                   rotate_left
                   ·simp only [Act.put, List.setIfInBounds_toArray, List.set_cons_zero, List.set_cons_succ, i64_w, i32_w]
                    rfl
                   refine pure_ (i := 17) (N := some 69) (v := ?_) (a' := ?_) #[true, false, true, true, true, true, true, true, true, true, true, true, true, true, true, true, true, true, false, false, false, false, false, false] rfl rfl (any_of HT_.out Z6) (fun _ _ _ h => h) (Or.inl ⟨Z13, ?_⟩) ?_ ?_
                   rotate_left
                   ·intro w'
                    go_simp
                    with_reducible rfl
                   rotate_left
                   ·simp only [Act.put, List.setIfInBounds_toArray, List.set_cons_zero, List.set_cons_succ, i64_w, i32_w]
                    rfl
                   refine take_ (i := 1) (N := some 53) (v := ?_) (a' := ?_) #[true, true, true, true, true, true, true, true, true, true, true, true, true, true, true, true, true, true, false, false, false, false, false, false] rfl rfl (take_ofW HT_.out HW_.out Z6) (fun _ _ _ h => h) (Or.inl ⟨Z13, ?_⟩) hHeld ?_ ?_
                   rotate_left
                   ·rintro w' ⟨s0, s1, s2, s3, s4, s5, s6, s7, s8, s9, s10, s11, s12, s13, s14, s15, s16, s17, s18, s19, s20, s21, s22, s23, s24⟩
                    first | (refine Eq.trans (Pre.load_run (ty := 25) rfl Z13 s0 Try.underlying25 rfl Z6) ?_; with_reducible rfl) | (refine Eq.trans (Pre.load_run (ty := 25) rfl Z13 s1 Try.underlying25 rfl Z6) ?_; with_reducible rfl) | (refine Eq.trans (Pre.load_run (ty := 25) rfl Z13 s2 Try.underlying25 rfl Z6) ?_; with_reducible rfl) | (refine Eq.trans (Pre.load_run (ty := 25) rfl Z13 s3 Try.underlying25 rfl Z6) ?_; with_reducible rfl) | (refine Eq.trans (Pre.load_run (ty := 25) rfl Z13 s4 Try.underlying25 rfl Z6) ?_; with_reducible rfl) | (refine Eq.trans (Pre.load_run (ty := 25) rfl Z13 s5 Try.underlying25 rfl Z6) ?_; with_reducible rfl) | (refine Eq.trans (Pre.load_run (ty := 25) rfl Z13 s6 Try.underlying25 rfl Z6) ?_; with_reducible rfl) | (refine Eq.trans (Pre.load_run (ty := 25) rfl Z13 s7 Try.underlying25 rfl Z6) ?_; with_reducible rfl) | (refine Eq.trans (Pre.load_run (ty := 25) rfl Z13 s8 Try.underlying25 rfl Z6) ?_; with_reducible rfl) | (refine Eq.trans (Pre.load_run (ty := 25) rfl Z13 s9 Try.underlying25 rfl Z6) ?_; with_reducible rfl) | (refine Eq.trans (Pre.load_run (ty := 25) rfl Z13 s10 Try.underlying25 rfl Z6) ?_; with_reducible rfl) | (refine Eq.trans (Pre.load_run (ty := 25) rfl Z13 s11 Try.underlying25 rfl Z6) ?_; with_reducible rfl) | (refine Eq.trans (Pre.load_run (ty := 25) rfl Z13 s12 Try.underlying25 rfl Z6) ?_; with_reducible rfl) | (refine Eq.trans (Pre.load_run (ty := 25) rfl Z13 s13 Try.underlying25 rfl Z6) ?_; with_reducible rfl) | (refine Eq.trans (Pre.load_run (ty := 25) rfl Z13 s14 Try.underlying25 rfl Z6) ?_; with_reducible rfl) | (refine Eq.trans (Pre.load_run (ty := 25) rfl Z13 s15 Try.underlying25 rfl Z6) ?_; with_reducible rfl) | (refine Eq.trans (Pre.load_run (ty := 25) rfl Z13 s16 Try.underlying25 rfl Z6) ?_; with_reducible rfl) | (refine Eq.trans (Pre.load_run (ty := 25) rfl Z13 s17 Try.underlying25 rfl Z6) ?_; with_reducible rfl) | (refine Eq.trans (Pre.load_run (ty := 25) rfl Z13 s18 Try.underlying25 rfl Z6) ?_; with_reducible rfl) | (refine Eq.trans (Pre.load_run (ty := 25) rfl Z13 s19 Try.underlying25 rfl Z6) ?_; with_reducible rfl) | (refine Eq.trans (Pre.load_run (ty := 25) rfl Z13 s20 Try.underlying25 rfl Z6) ?_; with_reducible rfl) | (refine Eq.trans (Pre.load_run (ty := 25) rfl Z13 s21 Try.underlying25 rfl Z6) ?_; with_reducible rfl) | (refine Eq.trans (Pre.load_run (ty := 25) rfl Z13 s22 Try.underlying25 rfl Z6) ?_; with_reducible rfl) | (refine Eq.trans (Pre.load_run (ty := 25) rfl Z13 s23 Try.underlying25 rfl Z6) ?_; with_reducible rfl) | (refine Eq.trans (Pre.load_run (ty := 25) rfl Z13 s24 Try.underlying25 rfl Z6) ?_; with_reducible rfl) | (go_simp; with_reducible rfl)
                   rotate_left
                   ·simp only [Act.put, List.setIfInBounds_toArray, List.set_cons_zero, List.set_cons_succ, i64_w, i32_w]
                    rfl
                   refine one_ (i := 18) (N := some 70) #[true, true, true, true, true, true, true, true, true, true, true, true, true, true, true, true, true, true, true, false, false, false, false, false] rfl rfl (one_of HT_.out Z6) Z32 (fun K hK => ?_)
                   refine goes_ Try.func64 Z6 rfl #[.string (a0.extract ((ji35) : Int).toNat ((wrap64 (12 + (wrap64 (8 * gy)))) : Int).toNat)] Z13 rfl rfl (by (try simp only [List.map_toArray, List.map_cons, List.map_nil]); first | done | (simp only [hji35]; rfl) | rfl | (simp only [List.length_drop, List.length_take]; rfl)) ?_
                   with_reducible refine (roadbookref08_Number.calls k2 (a0.extract ((ji35) : Int).toNat ((wrap64 (12 + (wrap64 (8 * gy)))) : Int).toNat) bf _ xg.out).mono ?_
                   rintro e w' ⟨rfl, ⟨nd, rfl⟩⟩
                   refine ⟨_, rfl, ?_⟩
                   refine hK.out _ _ ⟨(blk_cell aX.out 0).trans rfl, (blk_cell aX.out 1).trans rfl, (blk_cell aX.out 2).trans rfl, (blk_cell aX.out 3).trans rfl, (blk_cell aX.out 4).trans rfl, (blk_cell aX.out 5).trans rfl, (blk_cell aX.out 6).trans rfl, (blk_cell aX.out 7).trans rfl, (blk_cell aX.out 8).trans rfl, (blk_cell aX.out 9).trans rfl, (blk_cell aX.out 10).trans rfl, (blk_cell aX.out 11).trans rfl, (blk_cell aX.out 12).trans rfl, (blk_cell aX.out 13).trans rfl, (blk_cell aX.out 14).trans rfl, (blk_cell aX.out 15).trans rfl, (blk_cell aX.out 16).trans rfl, (blk_cell aX.out 17).trans rfl, (blk_cell aX.out 18).trans rfl, (blk_cell aX.out 19).trans rfl, (blk_cell aX.out 20).trans rfl, (blk_cell aX.out 21).trans rfl, (blk_cell aX.out 22).trans rfl, (blk_cell aX.out 23).trans rfl, (blk_cell aX.out 24).trans rfl⟩ (fun hHeld => ?_)
                   clear hK K
                   refine norm_ (a' := ?_) ?_ ?_
                   rotate_left
                   ·show Act.put _ (some 70) _ = _
                    simp only [Act.put, List.setIfInBounds_toArray, List.set_cons_zero, List.set_cons_succ, i64_w, i32_w]
                    rfl
                   refine pure_ (i := 19) (N := some 71) (v := ?_) (a' := ?_) #[true, true, true, true, true, true, true, true, true, true, true, true, true, true, true, true, true, true, true, true, false, false, false, false] rfl rfl (any_of HT_.out Z6) (fun _ _ _ h => h) (Or.inl ⟨Z13, ?_⟩) ?_ ?_
                   rotate_left
                   ·intro w'
                    go_simp
                    with_reducible rfl
                   rotate_left
                   ·simp only [Act.put, List.setIfInBounds_toArray, List.set_cons_zero, List.set_cons_succ, i64_w, i32_w]
                    rfl
                   refine one_ (i := 20) (N := some 72) #[true, true, true, true, true, true, true, true, true, true, true, true, true, true, true, true, true, true, true, true, true, false, false, false] rfl rfl (one_of HT_.out Z6) Z32 (fun K hK => ?_)
                   refine value_ (w1 := ?_) (v := ?_) Z13 rfl ?_ ?_
                   rotate_left 2
                   ·go_simp
                    constructor
                    ·rfl
                    ·rfl
                   refine hK.out _ _ ⟨(blk_cell (blk_alloc aX.out _) 0).trans rfl, (blk_cell (blk_alloc aX.out _) 1).trans rfl, (blk_cell (blk_alloc aX.out _) 2).trans rfl, (blk_cell (blk_alloc aX.out _) 3).trans rfl, (blk_cell (blk_alloc aX.out _) 4).trans rfl, (blk_cell (blk_alloc aX.out _) 5).trans rfl, (blk_cell (blk_alloc aX.out _) 6).trans rfl, (blk_cell (blk_alloc aX.out _) 7).trans rfl, (blk_cell (blk_alloc aX.out _) 8).trans rfl, (blk_cell (blk_alloc aX.out _) 9).trans rfl, (blk_cell (blk_alloc aX.out _) 10).trans rfl, (blk_cell (blk_alloc aX.out _) 11).trans rfl, (blk_cell (blk_alloc aX.out _) 12).trans rfl, (blk_cell (blk_alloc aX.out _) 13).trans rfl, (blk_cell (blk_alloc aX.out _) 14).trans rfl, (blk_cell (blk_alloc aX.out _) 15).trans rfl, (blk_cell (blk_alloc aX.out _) 16).trans rfl, (blk_cell (blk_alloc aX.out _) 17).trans rfl, (blk_cell (blk_alloc aX.out _) 18).trans rfl, (blk_cell (blk_alloc aX.out _) 19).trans rfl, (blk_cell (blk_alloc aX.out _) 20).trans rfl, (blk_cell (blk_alloc aX.out _) 21).trans rfl, (blk_cell (blk_alloc aX.out _) 22).trans rfl, (blk_cell (blk_alloc aX.out _) 23).trans rfl, (blk_cell (blk_alloc aX.out _) 24).trans rfl⟩ (fun hHeld => ?_)
                   clear hK K
                   refine norm_ (a' := ?_) ?_ ?_
                   rotate_left
                   ·show Act.put _ (some 72) _ = _
                    simp only [Act.put, List.setIfInBounds_toArray, List.set_cons_zero, List.set_cons_succ, i64_w, i32_w]
                    rfl
                   refine one_ (i := 21) (N := some 73) #[true, true, true, true, true, true, true, true, true, true, true, true, true, true, true, true, true, true, true, true, true, true, false, false] rfl rfl (one_of HT_.out Z6) Z32 (fun K hK => ?_)
                   refine Kd.R_append_step k46 (w0 := w) w.heap.size Z13 (.tmp 53) (.tmp 72) 22 46 (.agg #[(.string ⟨#[]⟩), (.int .i64 0)]) 24 rfl Try.underlying22 info46 rfl Z32 Z55 u103021 cW (⟨a0.extract ((ji31) : Int).toNat ((ji35) : Int).toNat, bf⟩ : S46) [.string (a0.extract ((ji31) : Int).toNat ((ji35) : Int).toNat), .int .i64 bf] (fun _ => True) (fun _ => False) rfl rfl ?aP (fun _ hk => hk.elim) ?aF ?aO ?aB ?aS ?aL ?_
                   (case aP => exact k46_mkM _ _ _ (⟨a0.extract ((ji31) : Int).toNat ((ji35) : Int).toNat, bf⟩ : S46))
                   (case aB => exact Z15)
                   (case aF => exact (fun _ _ => trivial))
                   (case aO => exact Z69)
                   (case aS => exact (below_size Z15))
                   (case aL => have := LMc40.out; omega)
                   intro jM pL ho hb hg hat
                   rw [← Ny104.out] at ho
                   have aG := Aside0.mk (blk_grown (g := aa) (o := .cells #[.int .i64 0, .int .i64 0, .int .i64 0, .string ⟨#[]⟩, .int .i64 0, .int .i64 0, .string ⟨#[]⟩, .int .i64 0, .int .i64 0, .string ⟨#[]⟩, .int .i64 0, .string ⟨#[]⟩, .int .i64 0, .int .i64 0, .int .i64 0, .int .i64 0, .int .i64 0, .int .i64 0, .int .i64 0, .string ⟨#[]⟩, .string ⟨#[]⟩, .slice none 0 0, .int .i64 0, .string ⟨#[]⟩, .slice none 0 0] 25 (0, 0)) Z1 hg (Kd.R_ne HO_103021.out ab.out Z32))
                   have aH := Aside0.mk (blk_grown (g := aU) (o := .cells #[.int .i64 5, .int .i64 0, .int .i64 0, .string ⟨#[]⟩, .int .i64 0, .int .i64 0, .string ⟨#[]⟩, .int .i64 0, .int .i64 0, .string ⟨#[]⟩, .int .i64 0, .string ⟨#[]⟩, .int .i64 0, .int .i64 0, .int .i64 0, .int .i64 (wrap64 (Int.tdiv (wrap64 (bt a0 1)) 128)), .int .i64 0, .int .i64 0, .int .i64 0, .string ⟨#[]⟩, .string ⟨#[]⟩, u103021, .int .i64 0, .string ⟨#[]⟩, .slice none 0 0] 25 (0, 0)) Z26 hg (Kd.R_ne HO_103021.out aX.out Z32))
                   have aI := Aside0.mk (hb)
                   have aZ := Aside0.mk (ho)
                   clear ab
                   clear aX
                   clear HB
                   clear HO_103021
                   have ab := aG
                   have aX := aH
                   have HB := aI
                   have cn := aZ
                   clear aG aH aI aZ
                   clear ho hb hg hat
                   obtain ⟨uc, ud, eo43⟩ := Kd.R_slice cn.out
                   (first | subst eo43 | (injection eo43 with f1_ f2_ f3_; have f4_ := f1_.symm; have f5_ := f3_.symm; clear f1_ f2_ f3_; subst f4_; subst f5_))
                   refine hK.out _ _ ⟨(blk_cell aX.out 0).trans rfl, (blk_cell aX.out 1).trans rfl, (blk_cell aX.out 2).trans rfl, (blk_cell aX.out 3).trans rfl, (blk_cell aX.out 4).trans rfl, (blk_cell aX.out 5).trans rfl, (blk_cell aX.out 6).trans rfl, (blk_cell aX.out 7).trans rfl, (blk_cell aX.out 8).trans rfl, (blk_cell aX.out 9).trans rfl, (blk_cell aX.out 10).trans rfl, (blk_cell aX.out 11).trans rfl, (blk_cell aX.out 12).trans rfl, (blk_cell aX.out 13).trans rfl, (blk_cell aX.out 14).trans rfl, (blk_cell aX.out 15).trans rfl, (blk_cell aX.out 16).trans rfl, (blk_cell aX.out 17).trans rfl, (blk_cell aX.out 18).trans rfl, (blk_cell aX.out 19).trans rfl, (blk_cell aX.out 20).trans rfl, (blk_cell aX.out 21).trans rfl, (blk_cell aX.out 22).trans rfl, (blk_cell aX.out 23).trans rfl, (blk_cell aX.out 24).trans rfl⟩ (fun hHeld => ?_)
                   clear hK K
                   refine norm_ (a' := ?_) ?_ ?_
                   rotate_left
                   ·show Act.put _ (some 73) _ = _
                    simp only [Act.put, List.setIfInBounds_toArray, List.set_cons_zero, List.set_cons_succ, i64_w, i32_w]
                    rfl
                   refine pure_ (i := 22) (N := some 74) (v := ?_) (a' := ?_) #[true, true, true, true, true, true, true, true, true, true, true, true, true, true, true, true, true, true, true, true, true, true, true, false] rfl rfl (any_of HT_.out Z6) (fun _ _ _ h => h) (Or.inl ⟨Z13, ?_⟩) ?_ ?_
                   rotate_left
                   ·intro w'
                    go_simp
                    with_reducible rfl
                   rotate_left
                   ·simp only [Act.put, List.setIfInBounds_toArray, List.set_cons_zero, List.set_cons_succ, i64_w, i32_w]
                    rfl
                   refine last_ (i := 23) (N := none) #[true, true, true, true, true, true, true, true, true, true, true, true, true, true, true, true, true, true, true, true, true, true, true, true] rfl rfl (one_of HT_.out Z6) Z32 (fun K hK => ?_)
                   have hs44 : pL.cell? ⟨aU, 21, none⟩ = some (u103021) := (blk_cell aX.out 21).trans rfl
                   have hfs44 := blk_frozen aX.out 21
                   have hns44_0 := bo.out
                   have hms44_0 := cc.out
                   refine skip_ (w1 := ?_) Z13 rfl ?_ ?_
                   rotate_left
                   ·go_simp
                    rfl
                   refine hK.out _ _ ?_
                   clear hK K
                   refine done_ (done_of HT_.out Z6) ?_
                   try go_wp2_with (first | ((with_reducible refine gate_dst (N := 46) rfl ?_); refine Pre.build_event 46 25 [(0, Go.Operand.const (Go.Value.int Go.IntKind.i64 5)), (15, Go.Operand.tmp 45)] rfl rfl rfl (roadbookref16_Get.bd46 _ _) ?_) | ((with_reducible refine Pre.gate_load 25 rfl ?_); (try (refine gate_guard Z13 ?_; dsimp only)); refine Pre.load_event rfl rfl rfl Z13 Z19 Try.underlying25 rfl Z6 ?_))
                   go_roundg k2
                   case measure => have := vH.out; have := HK2.out; omega
                   case rel => exact ⟨(wrap64 (gy + 1)), (iY), (.slice uc iY.length ud), Z14, H', ⟨by have := vH.out; have := HK2.out; omega⟩, ⟨by (with_reducible repeat (first | apply Kd.R_alloc | apply Kd.R_drewN | apply Kd.R_drew)); exact Kd.R_mono (Kd.R_far (p := ⟨aU, 21, none⟩) (Kd.R_types cn.out aX.out Z32) (fun _ hk => hk.2) (.slice uc iY.length ud)) (fun _ hk => trivial)⟩, ⟨Z86⟩, ⟨by (with_reducible repeat (first | refine blk_drewN ?_ _ | refine blk_drew ?_ | refine blk_alloc ?_ _)); refine blk_put (cs := #[.int .i64 5, .int .i64 0, .int .i64 0, .string ⟨#[]⟩, .int .i64 0, .int .i64 0, .string ⟨#[]⟩, .int .i64 0, .int .i64 0, .string ⟨#[]⟩, .int .i64 0, .string ⟨#[]⟩, .int .i64 0, .int .i64 0, .int .i64 0, .int .i64 (wrap64 (Int.tdiv (wrap64 (bt a0 1)) 128)), .int .i64 0, .int .i64 0, .int .i64 0, .string ⟨#[]⟩, .string ⟨#[]⟩, u103021, .int .i64 0, .string ⟨#[]⟩, .slice none 0 0]) ?_ 21 _ rfl; (with_reducible repeat (first | refine blk_drewN ?_ _ | refine blk_drew ?_ | refine blk_alloc ?_ _)); exact aX.out⟩, ⟨Z15⟩⟩
                  ·rw [if_neg jw] at H
                   exact absurd H Z73
                 ·rw [if_neg ua] at H
                  exact absurd H Z73
                ·rw [if_neg pS] at H
                 exact absurd H Z73
               ·rw [if_neg mC] at H
                exact absurd H Z73
              ·rw [if_neg jf] at H
               exact absurd H Z73
             ·rw [if_neg kv] at H
              exact absurd H Z73
            ·rw [if_neg jv] at H
             exact absurd H Z73
           ·rw [if_neg la] at H
            have ou : decide (gy < (wrap64 (bt a0 3))) = false := decide_eq_false la
            clear la
            obtain ⟨ji45, hji45⟩ : ∃ j_ : Int, (wrap64 (4 + (wrap64 (8 * (wrap64 (bt a0 3)))))) = j_ := ⟨_, rfl⟩
            replace H : (if 0 ≤ (ji45) then (if (ji45) ≤ (a0.size : Int) then ((roadbookref13_Get.f k2 (a0.extract ((ji45) : Int).toNat a0.size)).bind fun bn => (if bn.2.2 = 0 then (some (5, 0, 0, (⟨#[]⟩ : ByteArray), 0, 0, (⟨#[]⟩ : ByteArray), 0, 0, (⟨#[]⟩ : ByteArray), 0, (⟨#[]⟩ : ByteArray), 0, 0, 0, (wrap64 (Int.tdiv (wrap64 (bt a0 1)) 128)), 0, 0, 0, (⟨#[]⟩ : ByteArray), (⟨#[]⟩ : ByteArray), cW, 0, (⟨#[]⟩ : ByteArray), bn.1, 0, 0)) else (some (0, 0, 0, (⟨#[]⟩ : ByteArray), 0, 0, (⟨#[]⟩ : ByteArray), 0, 0, (⟨#[]⟩ : ByteArray), 0, (⟨#[]⟩ : ByteArray), 0, 0, 0, 0, 0, 0, 0, (⟨#[]⟩ : ByteArray), (⟨#[]⟩ : ByteArray), ([] : List (S46)), 0, (⟨#[]⟩ : ByteArray), ([] : List (S48)), wrap64 ((ji45) + bn.2.1), bn.2.2)))) else (none)) else (none)) = some (r1, r2, r3, r4, r5, r6, r7, r8, r9, r10, r11, r12, r13, r14, r15, r16, r17, r18, r19, r20, r21, r22, r23, r24, r25, r26, r27) := by first | (rw [hji45] at H; exact H) | (simp only [hji45] at H ⊢; exact H)
            (try rw [hji45] at kD)
            have hji45w : (IntKind.i64.wrap (4 + (wrap64 (8 * (wrap64 (bt a0 3)))))) = ji45 := (i64_w _).trans hji45
            by_cases kg : 0 ≤ (ji45)
            ·rw [if_pos kg] at H
             have sC := eq_true kg
             have sD : decide (0 ≤ (ji45)) = true := decide_eq_true kg
             clear kg
             by_cases oe : (ji45) ≤ (a0.size : Int)
             ·rw [if_pos oe] at H
              have sE := eq_true oe
              have sF : decide ((ji45) ≤ (a0.size : Int)) = true := decide_eq_true oe
              clear oe
              replace H := Option.bind_eq_some_iff.mp H
              obtain ⟨⟨bp, aQ, aV⟩, ue, H⟩ := H
              replace H : (if aV = 0 then (some (5, 0, 0, (⟨#[]⟩ : ByteArray), 0, 0, (⟨#[]⟩ : ByteArray), 0, 0, (⟨#[]⟩ : ByteArray), 0, (⟨#[]⟩ : ByteArray), 0, 0, 0, (wrap64 (Int.tdiv (wrap64 (bt a0 1)) 128)), 0, 0, 0, (⟨#[]⟩ : ByteArray), (⟨#[]⟩ : ByteArray), cW, 0, (⟨#[]⟩ : ByteArray), bp, 0, 0)) else (some (0, 0, 0, (⟨#[]⟩ : ByteArray), 0, 0, (⟨#[]⟩ : ByteArray), 0, 0, (⟨#[]⟩ : ByteArray), 0, (⟨#[]⟩ : ByteArray), 0, 0, 0, 0, 0, 0, 0, (⟨#[]⟩ : ByteArray), (⟨#[]⟩ : ByteArray), ([] : List (S46)), 0, (⟨#[]⟩ : ByteArray), ([] : List (S48)), wrap64 ((ji45) + aQ), aV))) = some (r1, r2, r3, r4, r5, r6, r7, r8, r9, r10, r11, r12, r13, r14, r15, r16, r17, r18, r19, r20, r21, r22, r23, r24, r25, r26, r27) := H
              have wF := Aside0.mk ue
              clear ue
              by_cases jo : aV = 0
              ·rw [if_pos jo] at H
               have lX : (aV == 0) = true := beq_iff_eq.mpr jo
               have lY : (aV != 0) = false := bne_eq_false_iff_eq.mpr jo
               clear jo
               simp only [Option.some.injEq, Prod.mk.injEq] at H
               obtain ⟨rfl, rfl, rfl, rfl, rfl, rfl, rfl, rfl, rfl, rfl, rfl, rfl, rfl, rfl, rfl, rfl, rfl, rfl, rfl, rfl, rfl, rfl, rfl, rfl, rfl, rfl, rfl⟩ := H
               go_wp2_with (first | ((with_reducible refine gate_dst (N := 46) rfl ?_); refine Pre.build_event 46 25 [(0, Go.Operand.const (Go.Value.int Go.IntKind.i64 5)), (15, Go.Operand.tmp 45)] rfl rfl rfl (roadbookref16_Get.bd46 _ _) ?_) | ((with_reducible refine Pre.gate_load 25 rfl ?_); (try (refine gate_guard Z13 ?_; dsimp only)); refine Pre.load_event rfl rfl rfl Z13 Z19 Try.underlying25 rfl Z6 ?_) | ((with_reducible refine gate_callee (f := 63) rfl ?_); refine goesL_ (some 81) rfl rfl Try.func63 Z6 rfl #[.string (a0.extract ((ji45) : Int).toNat a0.size)] rfl Z125 ?_; (with_reducible refine (roadbookref13_Get.calls k2 (a0.extract ((ji45) : Int).toNat a0.size) bp aQ aV _ wF.out).mono ?_); rintro e xe ⟨re, rfl, ho0, hb⟩; refine ⟨_, rfl, ?_⟩; have aG := Aside0.mk (Kd.R_below Z69 hb); have aH := Aside0.mk (Kd.R_lower ho0 (below_size Z15)); have aI := Aside0.mk (blk_below (g := aa) Z1 hb); have aZ := Aside0.mk (blk_below (g := aU) Z26 hb); have bH := Aside0.mk (below_step Z15 hb); replace HO_103021 := aG; have jT := aH; replace ab := aI; replace aX := aZ; replace HB := bH; clear aG aH aI aZ bH; (try clear hb); (try clear hb2); (try clear hk); (try clear hi); (try clear ho0); obtain ⟨nK, nL, eo51⟩ := Kd.R_slice jT.out; subst eo51; have hnb52 := cc.out; have hnc52 := bo.out; have tZ := cells_25 aX.out; have hcz54 := cells_25 ab.out; obtain ⟨pl, pm, eo55⟩ := Kd.R_slice HO_103021.out; subst eo55) | ((with_reducible refine Pre.gate_store 25 rfl ?_); refine Pre.store_abs (cur := #[.int .i64 0, .int .i64 0, .int .i64 0, .string ⟨#[]⟩, .int .i64 0, .int .i64 0, .string ⟨#[]⟩, .int .i64 0, .int .i64 0, .string ⟨#[]⟩, .int .i64 0, .string ⟨#[]⟩, .int .i64 0, .int .i64 0, .int .i64 0, .int .i64 0, .int .i64 0, .int .i64 0, .int .i64 0, .string ⟨#[]⟩, .string ⟨#[]⟩, .slice none 0 0, .int .i64 0, .string ⟨#[]⟩, .slice none 0 0]) (e := 25) rfl rfl rfl Z13 Z13 Z86 Z6 Z13 Z13 ?_; intro pH hbS_ sS_; have aG : Aside0 (Kd.R k46 46 pH w.heap.size (fun _ => True) (.slice pl cW.length pm) cW) := ⟨Kd.R_mono (Pre.R_sets sS_ (Kd.R_far (p := ⟨aU, 24, none⟩) (Kd.R_types (Kd.R_types HO_103021.out aX.out Z32) ab.out Z32) (fun _ hk => hk.1.2) (.slice nK bp.length nL)) (fun _ hk => hk.2)) (fun _ hk => trivial)⟩; have aH : Aside0 (Kd.R k48 48 pH w.heap.size (fun _ => True) (.slice nK bp.length nL) bp) := ⟨Kd.R_mono (Pre.R_sets sS_ (Kd.R_far (p := ⟨aU, 24, none⟩) (Kd.R_types (Kd.R_types jT.out aX.out Z32) ab.out Z32) (fun _ hk => hk.1.2) (.slice nK bp.length nL)) (fun _ hk => hk.2)) (fun _ hk => trivial)⟩; have aI : Aside0 (pH.heap[aa]? = some (.cells #[.int .i64 5, .int .i64 0, .int .i64 0, .string ⟨#[]⟩, .int .i64 0, .int .i64 0, .string ⟨#[]⟩, .int .i64 0, .int .i64 0, .string ⟨#[]⟩, .int .i64 0, .string ⟨#[]⟩, .int .i64 0, .int .i64 0, .int .i64 0, .int .i64 (wrap64 (Int.tdiv (wrap64 (bt a0 1)) 128)), .int .i64 0, .int .i64 0, .int .i64 0, .string ⟨#[]⟩, .string ⟨#[]⟩, .slice pl cW.length pm, .int .i64 0, .string ⟨#[]⟩, .slice nK bp.length nL] 25 (0, 0))) := ⟨hbS_⟩; have aZ : Aside0 (pH.heap[aU]? = some (.cells #[.int .i64 5, .int .i64 0, .int .i64 0, .string ⟨#[]⟩, .int .i64 0, .int .i64 0, .string ⟨#[]⟩, .int .i64 0, .int .i64 0, .string ⟨#[]⟩, .int .i64 0, .string ⟨#[]⟩, .int .i64 0, .int .i64 0, .int .i64 0, .int .i64 (wrap64 (Int.tdiv (wrap64 (bt a0 1)) 128)), .int .i64 0, .int .i64 0, .int .i64 0, .string ⟨#[]⟩, .string ⟨#[]⟩, .slice pl cW.length pm, .int .i64 0, .string ⟨#[]⟩, .slice nK bp.length nL] 25 (0, 0))) := ⟨sS_.blk (by (with_reducible repeat (first | refine blk_drewN ?_ _ | refine blk_drew ?_ | refine blk_alloc ?_ _)); refine blk_put (cs := #[.int .i64 5, .int .i64 0, .int .i64 0, .string ⟨#[]⟩, .int .i64 0, .int .i64 0, .string ⟨#[]⟩, .int .i64 0, .int .i64 0, .string ⟨#[]⟩, .int .i64 0, .string ⟨#[]⟩, .int .i64 0, .int .i64 0, .int .i64 0, .int .i64 (wrap64 (Int.tdiv (wrap64 (bt a0 1)) 128)), .int .i64 0, .int .i64 0, .int .i64 0, .string ⟨#[]⟩, .string ⟨#[]⟩, .slice pl cW.length pm, .int .i64 0, .string ⟨#[]⟩, .slice none 0 0]) ?_ 24 _ rfl; (with_reducible repeat (first | refine blk_drewN ?_ _ | refine blk_drew ?_ | refine blk_alloc ?_ _)); exact aX.out) cc.out⟩; have bH : Aside0 (Below w.heap.size w pH) := ⟨sS_.below Z15 bs.out⟩; clear hbS_ sS_; replace HO_103021 := aG; replace jT := aH; replace ab := aI; replace aX := aZ; replace HB := bH; clear aG aH aI aZ bH))
               refine bodyPost_ret (results_ctt rfl _ _ aa 25 #[.int .i64 5, .int .i64 0, .int .i64 0, .string ⟨#[]⟩, .int .i64 0, .int .i64 0, .string ⟨#[]⟩, .int .i64 0, .int .i64 0, .string ⟨#[]⟩, .int .i64 0, .string ⟨#[]⟩, .int .i64 0, .int .i64 0, .int .i64 0, .int .i64 (wrap64 (Int.tdiv (wrap64 (bt a0 1)) 128)), .int .i64 0, .int .i64 0, .int .i64 0, .string ⟨#[]⟩, .string ⟨#[]⟩, .slice pl cW.length pm, .int .i64 0, .string ⟨#[]⟩, .slice nK bp.length nL] (0, 0) _ rfl Z1 Try.underlying25 rfl Z6) rfl ?_
               exact ⟨_, _, Z123, Z69, by (with_reducible repeat (first | apply Kd.R_alloc | apply Kd.R_drewN | apply Kd.R_drew)); exact jT.out, Z15⟩
              ·rw [if_neg jo] at H
               have lX : (aV == 0) = false := beq_eq_false_iff_ne.mpr jo
               have lY : (aV != 0) = true := bne_iff_ne.mpr jo
               simp only [Option.some.injEq, Prod.mk.injEq] at H
               obtain ⟨rfl, rfl, rfl, rfl, rfl, rfl, rfl, rfl, rfl, rfl, rfl, rfl, rfl, rfl, rfl, rfl, rfl, rfl, rfl, rfl, rfl, rfl, rfl, rfl, rfl, rfl, rfl⟩ := H
               go_wp2_with (first | ((with_reducible refine gate_dst (N := 46) rfl ?_); refine Pre.build_event 46 25 [(0, Go.Operand.const (Go.Value.int Go.IntKind.i64 5)), (15, Go.Operand.tmp 45)] rfl rfl rfl (roadbookref16_Get.bd46 _ _) ?_) | ((with_reducible refine Pre.gate_load 25 rfl ?_); (try (refine gate_guard Z13 ?_; dsimp only)); refine Pre.load_event rfl rfl rfl Z13 Z19 Try.underlying25 rfl Z6 ?_) | ((with_reducible refine gate_callee (f := 63) rfl ?_); refine goesL_ (some 81) rfl rfl Try.func63 Z6 rfl #[.string (a0.extract ((ji45) : Int).toNat a0.size)] rfl Z125 ?_; (with_reducible refine (roadbookref13_Get.calls k2 (a0.extract ((ji45) : Int).toNat a0.size) bp aQ aV _ wF.out).mono ?_); rintro e vg ⟨re, rfl, ho0, hb⟩; refine ⟨_, rfl, ?_⟩; have aG := Aside0.mk (Kd.R_below Z69 hb); have aH := Aside0.mk (Kd.R_lower ho0 (below_size Z15)); have aI := Aside0.mk (blk_below (g := aa) Z1 hb); have aZ := Aside0.mk (blk_below (g := aU) Z26 hb); have bH := Aside0.mk (below_step Z15 hb); replace HO_103021 := aG; have jT := aH; replace ab := aI; replace aX := aZ; replace HB := bH; clear aG aH aI aZ bH; (try clear hb); (try clear hb2); (try clear hk); (try clear hi); (try clear ho0); have tM := bo.out; have tN := cc.out; have tO := cells_25 ab.out) | ((with_reducible refine Pre.gate_store 25 rfl ?_); refine Pre.store_abs (cur := #[.int .i64 0, .int .i64 0, .int .i64 0, .string ⟨#[]⟩, .int .i64 0, .int .i64 0, .string ⟨#[]⟩, .int .i64 0, .int .i64 0, .string ⟨#[]⟩, .int .i64 0, .string ⟨#[]⟩, .int .i64 0, .int .i64 0, .int .i64 0, .int .i64 0, .int .i64 0, .int .i64 0, .int .i64 0, .string ⟨#[]⟩, .string ⟨#[]⟩, .slice none 0 0, .int .i64 0, .string ⟨#[]⟩, .slice none 0 0]) (e := 25) rfl rfl rfl Z13 Z13 Z1 Z6 Z13 Z13 ?_; intro uf hbS_ sS_; have aG : Aside0 (Kd.R k46 46 uf w.heap.size (fun _ => True) u103021 cW) := ⟨Kd.R_mono (Pre.R_sets sS_ (Kd.R_types HO_103021.out ab.out Z32) (fun _ hk => hk.2)) (fun _ hk => trivial)⟩; have aH : Aside0 (Kd.R k48 48 uf w.heap.size (fun _ => True) re bp) := ⟨Kd.R_mono (Pre.R_sets sS_ (Kd.R_types jT.out ab.out Z32) (fun _ hk => hk.2)) (fun _ hk => trivial)⟩; have aI : Aside0 (uf.heap[aa]? = some (.cells #[.int .i64 0, .int .i64 0, .int .i64 0, .string ⟨#[]⟩, .int .i64 0, .int .i64 0, .string ⟨#[]⟩, .int .i64 0, .int .i64 0, .string ⟨#[]⟩, .int .i64 0, .string ⟨#[]⟩, .int .i64 0, .int .i64 0, .int .i64 0, .int .i64 0, .int .i64 0, .int .i64 0, .int .i64 0, .string ⟨#[]⟩, .string ⟨#[]⟩, .slice none 0 0, .int .i64 0, .string ⟨#[]⟩, .slice none 0 0] 25 (0, 0))) := ⟨hbS_⟩; have aZ : Aside0 (uf.heap[aU]? = some (.cells #[.int .i64 5, .int .i64 0, .int .i64 0, .string ⟨#[]⟩, .int .i64 0, .int .i64 0, .string ⟨#[]⟩, .int .i64 0, .int .i64 0, .string ⟨#[]⟩, .int .i64 0, .string ⟨#[]⟩, .int .i64 0, .int .i64 0, .int .i64 0, .int .i64 (wrap64 (Int.tdiv (wrap64 (bt a0 1)) 128)), .int .i64 0, .int .i64 0, .int .i64 0, .string ⟨#[]⟩, .string ⟨#[]⟩, u103021, .int .i64 0, .string ⟨#[]⟩, .slice none 0 0] 25 (0, 0))) := ⟨sS_.blk Z26 cc.out⟩; have bH : Aside0 (Below w.heap.size w uf) := ⟨sS_.below Z15 bs.out⟩; clear hbS_ sS_; replace HO_103021 := aG; replace jT := aH; replace ab := aI; replace aX := aZ; replace HB := bH; clear aG aH aI aZ bH))
               refine bodyPost_ret (results_ctt rfl _ _ aa 25 #[.int .i64 0, .int .i64 0, .int .i64 0, .string ⟨#[]⟩, .int .i64 0, .int .i64 0, .string ⟨#[]⟩, .int .i64 0, .int .i64 0, .string ⟨#[]⟩, .int .i64 0, .string ⟨#[]⟩, .int .i64 0, .int .i64 0, .int .i64 0, .int .i64 0, .int .i64 0, .int .i64 0, .int .i64 0, .string ⟨#[]⟩, .string ⟨#[]⟩, .slice none 0 0, .int .i64 0, .string ⟨#[]⟩, .slice none 0 0] (0, 0) _ rfl Z1 Try.underlying25 rfl Z6) rfl ?_
               exact ⟨_, _, Z123, Z12, Z27, Z15⟩
             ·rw [if_neg oe] at H
              exact absurd H Z73
            ·rw [if_neg kg] at H
             exact absurd H Z73
        ·rw [if_neg fz] at H
         exact absurd H Z73
     ·rw [if_neg ej] at H
      exact absurd H Z73

end Go.Proofs.Ytccjakjjaemmkaa.PR
