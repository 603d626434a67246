-- Written by mp.py, a program of this work (wip/tools), out of the translation; Lean checks it.
import Derived.Test.YtccjakjjaemmkaaPAPxZ
import Derived.Test.YtccjakjjaemmkaaPAPxroadbookref13
import Derived.Test.YtccjakjjaemmkaaLoad
namespace Go.Proofs.Ytccjakjjaemmkaa.PAP
open Go.RowKit Go.Proofs.YtccjakjjaemmkaaW.PrintWords Go.Proofs.YtccjakjjaemmkaaW.PrintLast Go.Proofs.YtccjakjjaemmkaaW.PrintMore
attribute [local go_sem] max2_int min2_int max_two min_two max_three min_three max_four min_four   -- for this text's walks alone
set_option linter.unusedVariables false
set_option linter.unusedSimpArgs false

/-! ### roadbookref16_Get: function 31 -/
mutual
def roadbookref16_Get.j0 : Nat → ByteArray → Bool → Option (Int × Int × Int × ByteArray × Int × Int × ByteArray × Int × Int × ByteArray × Int × ByteArray × Int × Int × Int × Int × Int × Int × Int × ByteArray × ByteArray × (List (S46)) × Int × ByteArray × (List (S48)) × Int × Int)
 | 0, _, _ => none
 | k + 1, x0, sC => if sC = true then (some (0, 0, 0, (⟨#[]⟩ : ByteArray), 0, 0, (⟨#[]⟩ : ByteArray), 0, 0, (⟨#[]⟩ : ByteArray), 0, (⟨#[]⟩ : ByteArray), 0, 0, 0, 0, 0, 0, 0, (⟨#[]⟩ : ByteArray), (⟨#[]⟩ : ByteArray), ([] : List (S46)), 0, (⟨#[]⟩ : ByteArray), ([] : List (S48)), 1, 5)) else (if 3 < (x0.size : Int) then (if (wrap64 (bt x0 3)) = 0 then (some (0, 0, 0, (⟨#[]⟩ : ByteArray), 0, 0, (⟨#[]⟩ : ByteArray), 0, 0, (⟨#[]⟩ : ByteArray), 0, (⟨#[]⟩ : ByteArray), 0, 0, 0, 0, 0, 0, 0, (⟨#[]⟩ : ByteArray), (⟨#[]⟩ : ByteArray), ([] : List (S46)), 0, (⟨#[]⟩ : ByteArray), ([] : List (S48)), 3, 8)) else (if (x0.size : Int) < (wrap64 (4 + (wrap64 (8 * (wrap64 (bt x0 3)))))) then (some (0, 0, 0, (⟨#[]⟩ : ByteArray), 0, 0, (⟨#[]⟩ : ByteArray), 0, 0, (⟨#[]⟩ : ByteArray), 0, (⟨#[]⟩ : ByteArray), 0, 0, 0, 0, 0, 0, 0, (⟨#[]⟩ : ByteArray), (⟨#[]⟩ : ByteArray), ([] : List (S46)), 0, (⟨#[]⟩ : ByteArray), ([] : List (S48)), (x0.size : Int), 2)) else (if 1 < (x0.size : Int) then (roadbookref16_Get.l0 k x0 (wrap64 (bt x0 3)) 0 5 0 0 (⟨#[]⟩ : ByteArray) 0 0 (⟨#[]⟩ : ByteArray) 0 0 (⟨#[]⟩ : ByteArray) 0 (⟨#[]⟩ : ByteArray) 0 0 0 (wrap64 (Int.tdiv (wrap64 (bt x0 1)) 128)) 0 0 0 (⟨#[]⟩ : ByteArray) (⟨#[]⟩ : ByteArray) ([] : List (S46)) 0 (⟨#[]⟩ : ByteArray)) else (none)))) else (none))
def roadbookref16_Get.l0 : Nat → ByteArray → Int → Int → Int → Int → Int → ByteArray → Int → Int → ByteArray → Int → Int → ByteArray → Int → ByteArray → Int → Int → Int → Int → Int → Int → Int → ByteArray → ByteArray → List (S46) → Int → ByteArray → Option (Int × Int × Int × ByteArray × Int × Int × ByteArray × Int × Int × ByteArray × Int × ByteArray × Int × Int × Int × Int × Int × Int × Int × ByteArray × ByteArray × (List (S46)) × Int × ByteArray × (List (S48)) × Int × Int)
 | 0, _, _, _, _, _, _, _, _, _, _, _, _, _, _, _, _, _, _, _, _, _, _, _, _, _, _, _ => none
 | k + 1, x0, x5, x7, dx, dy, dz, dA, dB, dC, dD, dE, dF, dG, dH, di, dj, dk, dl, dm, dn, dp, dq, dr, dt, cV, du, dv => if x7 < x5 then (if 0 ≤ (wrap64 (4 + (wrap64 (8 * x7)))) then (if (wrap64 (4 + (wrap64 (8 * x7)))) ≤ (wrap64 (8 + (wrap64 (8 * x7)))) then (if (wrap64 (8 + (wrap64 (8 * x7)))) ≤ (x0.size : Int) then (if 0 ≤ (wrap64 (8 + (wrap64 (8 * x7)))) then (if (wrap64 (8 + (wrap64 (8 * x7)))) ≤ (wrap64 (12 + (wrap64 (8 * x7)))) then (if (wrap64 (12 + (wrap64 (8 * x7)))) ≤ (x0.size : Int) then ((roadbookref08_Number.f k (x0.extract ((wrap64 (8 + (wrap64 (8 * x7)))) : Int).toNat ((wrap64 (12 + (wrap64 (8 * x7)))) : Int).toNat)).bind fun aX => (if cV.length < 5864062014805 then (roadbookref16_Get.l0 k x0 x5 (wrap64 (x7 + 1)) dx dy dz dA dB dC dD dE dF dG dH di dj dk dl dm dn dp dq dr dt (cV ++ [(⟨x0.extract ((wrap64 (4 + (wrap64 (8 * x7)))) : Int).toNat ((wrap64 (8 + (wrap64 (8 * x7)))) : Int).toNat, aX⟩ : S46)]) du dv) else (none))) else (none)) else (none)) else (none)) else (none)) else (none)) else (none)) else (if 0 ≤ (wrap64 (4 + (wrap64 (8 * x5)))) then (if (wrap64 (4 + (wrap64 (8 * x5)))) ≤ (x0.size : Int) then ((roadbookref13_Get.f k (x0.extract ((wrap64 (4 + (wrap64 (8 * x5)))) : Int).toNat x0.size)).bind fun bu => (if bu.2.2 = 0 then (some (dx, dy, dz, dA, dB, dC, dD, dE, dF, dG, dH, di, dj, dk, dl, dm, dn, dp, dq, dr, dt, cV, du, dv, bu.1, 0, 0)) else (some (0, 0, 0, (⟨#[]⟩ : ByteArray), 0, 0, (⟨#[]⟩ : ByteArray), 0, 0, (⟨#[]⟩ : ByteArray), 0, (⟨#[]⟩ : ByteArray), 0, 0, 0, 0, 0, 0, 0, (⟨#[]⟩ : ByteArray), (⟨#[]⟩ : ByteArray), ([] : List (S46)), 0, (⟨#[]⟩ : ByteArray), ([] : List (S48)), wrap64 ((wrap64 (4 + (wrap64 (8 * x5)))) + bu.2.1), bu.2.2)))) else (none)) else (none))
end
def roadbookref16_Get.f (k : Nat) (a0 : ByteArray) : Option (Int × Int × Int × ByteArray × Int × Int × ByteArray × Int × Int × ByteArray × Int × ByteArray × Int × Int × Int × Int × Int × Int × Int × ByteArray × ByteArray × (List (S46)) × Int × ByteArray × (List (S48)) × Int × Int) := if (a0.size : Int) < 4 then (some (0, 0, 0, (⟨#[]⟩ : ByteArray), 0, 0, (⟨#[]⟩ : ByteArray), 0, 0, (⟨#[]⟩ : ByteArray), 0, (⟨#[]⟩ : ByteArray), 0, 0, 0, 0, 0, 0, 0, (⟨#[]⟩ : ByteArray), (⟨#[]⟩ : ByteArray), ([] : List (S46)), 0, (⟨#[]⟩ : ByteArray), ([] : List (S48)), (a0.size : Int), 2)) else (if 1 < (a0.size : Int) then (if (Int.tmod (bt a0 1) 128) = 0 then (if 2 < (a0.size : Int) then (roadbookref16_Get.j0 k a0 ((bt a0 2) != 0)) else (none)) else (roadbookref16_Get.j0 k a0 true)) else (none))
theorem roadbookref16_Get.mono_l : ∀ k, (∀ y0 y1, LeO (roadbookref16_Get.j0 k y0 y1) (roadbookref16_Get.j0 (k + 1) y0 y1)) ∧ (∀ y0 y1 y2 y3 y4 y5 y6 y7 y8 y9 fG fH fI fJ fK fL fM fN fO fP fQ fR fS fT fU fV ik, LeO (roadbookref16_Get.l0 k y0 y1 y2 y3 y4 y5 y6 y7 y8 y9 fG fH fI fJ fK fL fM fN fO fP fQ fR fS fT fU fV ik) (roadbookref16_Get.l0 (k + 1) y0 y1 y2 y3 y4 y5 y6 y7 y8 y9 fG fH fI fJ fK fL fM fN fO fP fQ fR fS fT fU fV ik))
 | 0 => ⟨fun _ _ r h => by simp [roadbookref16_Get.j0] at h, fun _ _ _ _ _ _ _ _ _ _ _ _ _ _ _ _ _ _ _ _ _ _ _ _ _ _ _ r h => by simp [roadbookref16_Get.l0] at h⟩
 | k + 1 => by
  obtain ⟨ih0, ih1⟩ := roadbookref16_Get.mono_l k
  refine ⟨?_, ?_⟩
  ·intro y0 y1
   unfold roadbookref16_Get.j0
   repeat' first
   | (with_reducible exact ih0 _ _)
   | (with_reducible exact ih1 ..)
   | (with_reducible exact roadbookref08_Number.mono _ _)
   | (with_reducible exact roadbookref13_Get.mono _ _)
   | (with_reducible exact LeO.refl _)
   | (with_reducible exact LeO.none _)
   | (with_reducible refine LeO.ite ?_ ?_)
   | (with_reducible refine LeO.bind ?_ (fun _ => ?_))
   | exact ih0 _ _
   | exact ih1 ..
   | exact roadbookref08_Number.mono _ _
   | exact roadbookref13_Get.mono _ _
   | exact LeO.none _
   | refine LeO.ite ?_ ?_
   | refine LeO.bind ?_ (fun _ => ?_)
  ·intro y0 y1 y2 y3 y4 y5 y6 y7 y8 y9 fG fH fI fJ fK fL fM fN fO fP fQ fR fS fT fU fV ik
   unfold roadbookref16_Get.l0
   repeat' first
   | (with_reducible exact ih0 _ _)
   | (with_reducible exact ih1 ..)
   | (with_reducible exact roadbookref08_Number.mono _ _)
   | (with_reducible exact roadbookref13_Get.mono _ _)
   | (with_reducible exact LeO.refl _)
   | (with_reducible exact LeO.none _)
   | (with_reducible refine LeO.ite ?_ ?_)
   | (with_reducible refine LeO.bind ?_ (fun _ => ?_))
   | exact ih0 _ _
   | exact ih1 ..
   | exact roadbookref08_Number.mono _ _
   | exact roadbookref13_Get.mono _ _
   | exact LeO.none _
   | refine LeO.ite ?_ ?_
   | refine LeO.bind ?_ (fun _ => ?_)
theorem roadbookref16_Get.mono : ∀ a0 k, LeO (roadbookref16_Get.f k a0) (roadbookref16_Get.f (k + 1) a0) := by
 intro a0 k
 obtain ⟨ih0, ih1⟩ := roadbookref16_Get.mono_l k
 unfold roadbookref16_Get.f
 repeat' first
   | (with_reducible exact ih0 _ _)
   | (with_reducible exact ih1 ..)
   | (with_reducible exact roadbookref08_Number.mono _ _)
   | (with_reducible exact roadbookref13_Get.mono _ _)
   | (with_reducible exact LeO.refl _)
   | (with_reducible exact LeO.none _)
   | (with_reducible refine LeO.ite ?_ ?_)
   | (with_reducible refine LeO.bind ?_ (fun _ => ?_))
   | exact ih0 _ _
   | exact ih1 ..
   | exact roadbookref08_Number.mono _ _
   | exact roadbookref13_Get.mono _ _
   | exact LeO.none _
   | refine LeO.ite ?_ ?_
   | refine LeO.bind ?_ (fun _ => ?_)
def roadbookref16_Get.T14 : Bool × List (List Nat × List Nat) := (true, [([], []), ([0], [0]), ([], []), ([], []), ([3], [3]), ([4], [4]), ([], []), ([6], [6]), ([7], [7]), ([2, 5, 8], [2, 5, 8]), ([], []), ([], []), ([11], [11]), ([12], [12]), ([], []), ([14], [14]), ([15], [15]), ([10, 13, 16], [10, 13, 16]), ([17], [17]), ([9, 18], [9, 18]), ([19], [19]), ([1, 20, 18], [1, 20]), ([0, 1, 2, 3, 4, 5, 6, 7, 8, 9, 10, 11, 12, 13, 14, 15, 16, 17, 18, 19, 20, 21], []), ([22, 21, 21, 0, 1, 2, 3, 4, 5, 6, 7, 8, 9, 10, 11, 12, 13, 14, 15, 16, 17, 18, 19, 20, 21], [21, 22])])
def roadbookref16_Get.B14 : List Nat := [0, 1, 0, 0, 8, 24, 0, 64, 192, 508, 0, 0, 2048, 6144, 0, 16384, 49152, 130048, 261120, 524284, 1048572, 2097151, 4194303, 8388607]
theorem roadbookref16_Get.tab14 : rtab .any (opsOf Try.f31 14) = roadbookref16_Get.T14 := by kernel_rfl
theorem roadbookref16_Get.bits14 : waitsOk roadbookref16_Get.T14.2 roadbookref16_Get.B14 = true := by kernel_rfl
set_option maxRecDepth 100000 in
theorem roadbookref16_Get.bd46 (v0 : Int) (ig : Int) : Try.prog.built 25 [(0, .int .i64 v0), (15, .int .i64 ig)] = some #[.int .i64 v0, .int .i64 0, .int .i64 0, .string ⟨#[]⟩, .int .i64 0, .int .i64 0, .string ⟨#[]⟩, .int .i64 0, .int .i64 0, .string ⟨#[]⟩, .int .i64 0, .string ⟨#[]⟩, .int .i64 0, .int .i64 0, .int .i64 0, .int .i64 ig, .int .i64 0, .int .i64 0, .int .i64 0, .string ⟨#[]⟩, .string ⟨#[]⟩, .slice none 0 0, .int .i64 0, .string ⟨#[]⟩, .slice none 0 0] := by kernel_rfl
set_option maxHeartbeats 8000000 in
set_option maxRecDepth 100000 in
theorem roadbookref16_Get.calls (k : Nat) (a0 : ByteArray) (r1 : Int) (r2 : Int) (r3 : Int) (r4 : ByteArray) (r5 : Int) (r6 : Int) (r7 : ByteArray) (r8 : Int) (r9 : Int) (r10 : ByteArray) (r11 : Int) (r12 : ByteArray) (r13 : Int) (r14 : Int) (r15 : Int) (r16 : Int) (r17 : Int) (r18 : Int) (r19 : Int) (r20 : ByteArray) (r21 : ByteArray) (r22 : List (S46)) (r23 : Int) (r24 : ByteArray) (r25 : List (S48)) (r26 : Int) (r27 : Int) (w : World) (h : roadbookref16_Get.f k a0 = some (r1, r2, r3, r4, r5, r6, r7, r8, r9, r10, r11, r12, r13, r14, r15, r16, r17, r18, r19, r20, r21, r22, r23, r24, r25, r26, r27)) :
  Calls Try.prog 31 #[.string a0] w fun e w' => ∃ v21_ v24_ : Value, e = .returned (.tuple #[.agg #[.int .i64 r1, .int .i64 r2, .int .i64 r3, .string r4, .int .i64 r5, .int .i64 r6, .string r7, .int .i64 r8, .int .i64 r9, .string r10, .int .i64 r11, .string r12, .int .i64 r13, .int .i64 r14, .int .i64 r15, .int .i64 r16, .int .i64 r17, .int .i64 r18, .int .i64 r19, .string r20, .string r21, v21_, .int .i64 r23, .string r24, v24_], .int .i64 r26, .int .i64 r27]) ∧ Kd.R k46 46 w' w.heap.size (fun _ => True) v21_ r22 ∧ Kd.R k48 48 w' w.heap.size (fun _ => True) v24_ r25 ∧ Below w.heap.size w w' := by
 have fn := Try.underlying25
 have nB := Try.underlying46
 have HB := Aside0.mk (Below.refl w.heap.size w)
 have H : (if (a0.size : Int) < 4 then (some (0, 0, 0, (⟨#[]⟩ : ByteArray), 0, 0, (⟨#[]⟩ : ByteArray), 0, 0, (⟨#[]⟩ : ByteArray), 0, (⟨#[]⟩ : ByteArray), 0, 0, 0, 0, 0, 0, 0, (⟨#[]⟩ : ByteArray), (⟨#[]⟩ : ByteArray), ([] : List (S46)), 0, (⟨#[]⟩ : ByteArray), ([] : List (S48)), (a0.size : Int), 2)) else (if 1 < (a0.size : Int) then (if (Int.tmod (bt a0 1) 128) = 0 then (if 2 < (a0.size : Int) then (roadbookref16_Get.j0 k a0 ((bt a0 2) != 0)) else (none)) else (roadbookref16_Get.j0 k a0 true)) else (none))) = some (r1, r2, r3, r4, r5, r6, r7, r8, r9, r10, r11, r12, r13, r14, r15, r16, r17, r18, r19, r20, r21, r22, r23, r24, r25, r26, r27) := h
 clear h
 by_cases c2 : (a0.size : Int) < 4
 ·rw [if_pos c2] at H
  have eE : decide ((a0.size : Int) < 4) = true := decide_eq_true c2
  have fo : decide (a0.size < 4) = true := decide_eq_true Z34
  clear c2
  simp only [Option.some.injEq, Prod.mk.injEq] at H
  obtain ⟨rfl, rfl, rfl, rfl, rfl, rfl, rfl, rfl, rfl, rfl, rfl, rfl, rfl, rfl, rfl, rfl, rfl, rfl, rfl, rfl, rfl, rfl, rfl, rfl, rfl, rfl, rfl⟩ := H
  go_enter Try.func31, Try.ntmps31
  go_wp2_with (first | ((with_reducible refine gate_dst (N := 46) rfl ?_); refine Pre.build_event 46 25 [(0, Go.Operand.const (Go.Value.int Go.IntKind.i64 5)), (15, Go.Operand.tmp 45)] rfl rfl rfl (roadbookref16_Get.bd46 _ _) ?_) | ((with_reducible refine Pre.gate_load 25 rfl ?_); (try (refine gate_guard Z22 ?_; dsimp only)); refine Pre.load_event rfl rfl rfl Z22 Z15 Try.underlying25 rfl Z14 ?_) | ((with_reducible refine gate_dst (N := 2) rfl ?_); refine Sq.box 2 #[.int .i64 0, .int .i64 0, .int .i64 0, .string ⟨#[]⟩, .int .i64 0, .int .i64 0, .string ⟨#[]⟩, .int .i64 0, .int .i64 0, .string ⟨#[]⟩, .int .i64 0, .string ⟨#[]⟩, .int .i64 0, .int .i64 0, .int .i64 0, .int .i64 0, .int .i64 0, .int .i64 0, .int .i64 0, .string ⟨#[]⟩, .string ⟨#[]⟩, .slice none 0 0, .int .i64 0, .string ⟨#[]⟩, .slice none 0 0] 25 ?_; intro ab hg w3 hbox hb; have aa := Aside0.mk (hbox); have bR := Aside0.mk (Sq.ge hg Z1); have bf := Aside0.mk (Sq.ge hg Z1); replace HB := Aside0.mk (below_step Z1 hb); clear hb hbox hg; have jL := cells_25 aa.out) | ((with_reducible refine Pre.gate_store 25 rfl ?_); refine Pre.store_abs (cur := #[.int .i64 0, .int .i64 0, .int .i64 0, .string ⟨#[]⟩, .int .i64 0, .int .i64 0, .string ⟨#[]⟩, .int .i64 0, .int .i64 0, .string ⟨#[]⟩, .int .i64 0, .string ⟨#[]⟩, .int .i64 0, .int .i64 0, .int .i64 0, .int .i64 0, .int .i64 0, .int .i64 0, .int .i64 0, .string ⟨#[]⟩, .string ⟨#[]⟩, .slice none 0 0, .int .i64 0, .string ⟨#[]⟩, .slice none 0 0]) (e := 25) rfl rfl rfl Z22 Z22 Z2 Z14 Z22 Z22 ?_; intro w5 hbS_ sS_; have bl : Aside0 (w5.heap[ab]? = some (.cells #[.int .i64 0, .int .i64 0, .int .i64 0, .string ⟨#[]⟩, .int .i64 0, .int .i64 0, .string ⟨#[]⟩, .int .i64 0, .int .i64 0, .string ⟨#[]⟩, .int .i64 0, .string ⟨#[]⟩, .int .i64 0, .int .i64 0, .int .i64 0, .int .i64 0, .int .i64 0, .int .i64 0, .int .i64 0, .string ⟨#[]⟩, .string ⟨#[]⟩, .slice none 0 0, .int .i64 0, .string ⟨#[]⟩, .slice none 0 0] 25 (0, 0))) := ⟨hbS_⟩; have bm : Aside0 (Below w.heap.size w w5) := ⟨sS_.below Z0 bf.out⟩; clear hbS_ sS_; replace aa := bl; replace HB := bm; clear bl bm))
  refine bodyPost_ret (results_ctt rfl _ _ ab 25 #[.int .i64 0, .int .i64 0, .int .i64 0, .string ⟨#[]⟩, .int .i64 0, .int .i64 0, .string ⟨#[]⟩, .int .i64 0, .int .i64 0, .string ⟨#[]⟩, .int .i64 0, .string ⟨#[]⟩, .int .i64 0, .int .i64 0, .int .i64 0, .int .i64 0, .int .i64 0, .int .i64 0, .int .i64 0, .string ⟨#[]⟩, .string ⟨#[]⟩, .slice none 0 0, .int .i64 0, .string ⟨#[]⟩, .slice none 0 0] (0, 0) _ rfl Z2 Try.underlying25 rfl Z14) rfl ?_
  exact ⟨_, _, Z5, Z7, Z20, Z0⟩
 ·rw [if_neg c2] at H
  have eE : decide ((a0.size : Int) < 4) = false := decide_eq_false c2
  have fo : decide (a0.size < 4) = false := decide_eq_false Z34
  clear c2
  have pc := Aside0.mk H
  clear H
  go_enter Try.func31, Try.ntmps31
  go_upto_region 3 with (first | ((with_reducible refine gate_dst (N := 46) rfl ?_); refine Pre.build_event 46 25 [(0, Go.Operand.const (Go.Value.int Go.IntKind.i64 5)), (15, Go.Operand.tmp 45)] rfl rfl rfl (roadbookref16_Get.bd46 _ _) ?_) | ((with_reducible refine Pre.gate_load 25 rfl ?_); (try (refine gate_guard Z22 ?_; dsimp only)); refine Pre.load_event rfl rfl rfl Z22 Z15 Try.underlying25 rfl Z14 ?_) | ((with_reducible refine gate_dst (N := 2) rfl ?_); refine Sq.box 2 #[.int .i64 0, .int .i64 0, .int .i64 0, .string ⟨#[]⟩, .int .i64 0, .int .i64 0, .string ⟨#[]⟩, .int .i64 0, .int .i64 0, .string ⟨#[]⟩, .int .i64 0, .string ⟨#[]⟩, .int .i64 0, .int .i64 0, .int .i64 0, .int .i64 0, .int .i64 0, .int .i64 0, .int .i64 0, .string ⟨#[]⟩, .string ⟨#[]⟩, .slice none 0 0, .int .i64 0, .string ⟨#[]⟩, .slice none 0 0] 25 ?_; intro ab hg w7 hbox hb; have aa := Aside0.mk (hbox); have bR := Aside0.mk (Sq.ge hg Z1); have bf := Aside0.mk (Sq.ge hg Z1); replace HB := Aside0.mk (below_step Z1 hb); clear hb hbox hg))
  (try simp only [Act.put, Sq.s1, Sq.s2, Sq.s3])
  go_cut [25] (fun uo wc => ∃ (kq : Nat) (lj : Bool), uo = .bool lj ∧ Aside0 (roadbookref16_Get.j0 kq a0 lj = some (r1, r2, r3, r4, r5, r6, r7, r8, r9, r10, r11, r12, r13, r14, r15, r16, r17, r18, r19, r20, r21, r22, r23, r24, r25, r26, r27)) ∧ Aside0 (kq ≤ k) ∧ Aside0 (wc.heap[ab]? = some (.cells #[.int .i64 0, .int .i64 0, .int .i64 0, .string ⟨#[]⟩, .int .i64 0, .int .i64 0, .string ⟨#[]⟩, .int .i64 0, .int .i64 0, .string ⟨#[]⟩, .int .i64 0, .string ⟨#[]⟩, .int .i64 0, .int .i64 0, .int .i64 0, .int .i64 0, .int .i64 0, .int .i64 0, .int .i64 0, .string ⟨#[]⟩, .string ⟨#[]⟩, (.slice none 0 0), .int .i64 0, .string ⟨#[]⟩, (.slice none 0 0)] 25 (0, 0))) ∧ Aside0 (Below w.heap.size w wc))
  case first =>
   have H := pc.out
   clear pc
   by_cases c8 : 1 < (a0.size : Int)
   ·rw [if_pos c8] at H
    have gf : decide (1 < (a0.size : Int)) = true := decide_eq_true c8
    have iU : decide (1 < a0.size) = true := decide_eq_true Z34
    clear c8
    (first | rw [gf] | (simp only [i64_w, i32_w]; rw [gf]) | skip)
    by_cases en : (Int.tmod (bt a0 1) 128) = 0
    ·rw [if_pos en] at H
     have eP : ((Int.tmod (bt a0 1) 128) == 0) = true := beq_iff_eq.mpr en
     have fv : ((Int.tmod (bt a0 1) 128) != 0) = false := bne_eq_false_iff_eq.mpr en
     clear en
     by_cases dK : 2 < (a0.size : Int)
     ·rw [if_pos dK] at H
      have eB : decide (2 < (a0.size : Int)) = true := decide_eq_true dK
      have fp : decide (2 < a0.size) = true := decide_eq_true Z34
      clear dK
      have H' := Aside0.mk H
      clear H
      have p9 : 0 ≤ (1 : Int) := Z34
      have q9 : 1 < a0.size := (by have : (1 : Int) < (a0.size : Int) := of_decide_eq_true Z6; omega)
      have hx9 : ∀ h : 1 < a0.size, ((a0[1]'h).toNat : Int) = bt a0 1 := bt_at a0 1
      clear p9
      have qi9 : (1 < (a0.size : Int)) = True := eq_true (of_decide_eq_true Z6)
      replace q9 := eq_true q9
      have p12 : 0 ≤ (2 : Int) := Z34
      have q12 : 2 < a0.size := (by have : (2 : Int) < (a0.size : Int) := of_decide_eq_true Z6; omega)
      have hx12 : ∀ h : 2 < a0.size, ((a0[2]'h).toNat : Int) = bt a0 2 := bt_at a0 2
      clear p12
      have qi12 : (2 < (a0.size : Int)) = True := eq_true (of_decide_eq_true Z6)
      replace q12 := eq_true q12
      go_wp2_with (first | ((with_reducible refine gate_dst (N := 46) rfl ?_); refine Pre.build_event 46 25 [(0, Go.Operand.const (Go.Value.int Go.IntKind.i64 5)), (15, Go.Operand.tmp 45)] rfl rfl rfl (roadbookref16_Get.bd46 _ _) ?_) | ((with_reducible refine Pre.gate_load 25 rfl ?_); (try (refine gate_guard Z22 ?_; dsimp only)); refine Pre.load_event rfl rfl rfl Z22 Z15 Try.underlying25 rfl Z14 ?_))
      go_meet
      case rel => exact ⟨_, (((bt a0 2) != 0)), Z17, H', ⟨Z43⟩, ⟨Z2⟩, ⟨Z0⟩⟩
     ·rw [if_neg dK] at H
      exact absurd H Z59
    ·rw [if_neg en] at H
     have eP : ((Int.tmod (bt a0 1) 128) == 0) = false := beq_eq_false_iff_ne.mpr en
     have fv : ((Int.tmod (bt a0 1) 128) != 0) = true := bne_iff_ne.mpr en
     have H' := Aside0.mk H
     clear H
     have p9 : 0 ≤ (1 : Int) := Z34
     have q9 : 1 < a0.size := (by have : (1 : Int) < (a0.size : Int) := of_decide_eq_true Z6; omega)
     have hx9 : ∀ h : 1 < a0.size, ((a0[1]'h).toNat : Int) = bt a0 1 := bt_at a0 1
     clear p9
     have qi9 : (1 < (a0.size : Int)) = True := eq_true (of_decide_eq_true Z6)
     replace q9 := eq_true q9
     go_wp2_with (first | ((with_reducible refine gate_dst (N := 46) rfl ?_); refine Pre.build_event 46 25 [(0, Go.Operand.const (Go.Value.int Go.IntKind.i64 5)), (15, Go.Operand.tmp 45)] rfl rfl rfl (roadbookref16_Get.bd46 _ _) ?_) | ((with_reducible refine Pre.gate_load 25 rfl ?_); (try (refine gate_guard Z22 ?_; dsimp only)); refine Pre.load_event rfl rfl rfl Z22 Z15 Try.underlying25 rfl Z14 ?_))
     go_meet
     case rel => exact ⟨_, (true), Z17, H', ⟨Z43⟩, ⟨Z2⟩, ⟨Z0⟩⟩
   ·rw [if_neg c8] at H
    exact absurd H Z59
  case rest =>
   clear pc
   try clear c2
   try clear eE
   try clear fo
   try clear p2
   try clear c3
   try clear jL
   obtain ⟨kq, lj, rfl, HA, sU, aa, HB⟩ := hcut
   cases kq with
   | zero => exact absurd HA.out (by simp [roadbookref16_Get.j0])
   | succ kj5 =>
    have H := HA.out
    clear HA
    simp only [roadbookref16_Get.j0] at H
    by_cases ew : lj = true
    ·subst ew
     have H1 : (some (0, 0, 0, (⟨#[]⟩ : ByteArray), 0, 0, (⟨#[]⟩ : ByteArray), 0, 0, (⟨#[]⟩ : ByteArray), 0, (⟨#[]⟩ : ByteArray), 0, 0, 0, 0, 0, 0, 0, (⟨#[]⟩ : ByteArray), (⟨#[]⟩ : ByteArray), ([] : List (S46)), 0, (⟨#[]⟩ : ByteArray), ([] : List (S48)), 1, 5)) = some (r1, r2, r3, r4, r5, r6, r7, r8, r9, r10, r11, r12, r13, r14, r15, r16, r17, r18, r19, r20, r21, r22, r23, r24, r25, r26, r27) := by rw [if_pos rfl] at H; exact H
     clear H
     have H := H1
     clear H1
     simp only [Option.some.injEq, Prod.mk.injEq] at H
     obtain ⟨rfl, rfl, rfl, rfl, rfl, rfl, rfl, rfl, rfl, rfl, rfl, rfl, rfl, rfl, rfl, rfl, rfl, rfl, rfl, rfl, rfl, rfl, rfl, rfl, rfl, rfl, rfl⟩ := H
     have iC := cells_25 aa.out
     go_wp2_with (first | ((with_reducible refine gate_dst (N := 46) rfl ?_); refine Pre.build_event 46 25 [(0, Go.Operand.const (Go.Value.int Go.IntKind.i64 5)), (15, Go.Operand.tmp 45)] rfl rfl rfl (roadbookref16_Get.bd46 _ _) ?_) | ((with_reducible refine Pre.gate_load 25 rfl ?_); (try (refine gate_guard Z22 ?_; dsimp only)); refine Pre.load_event rfl rfl rfl Z22 Z15 Try.underlying25 rfl Z14 ?_) | ((with_reducible refine Pre.gate_store 25 rfl ?_); refine Pre.store_abs (cur := #[.int .i64 0, .int .i64 0, .int .i64 0, .string ⟨#[]⟩, .int .i64 0, .int .i64 0, .string ⟨#[]⟩, .int .i64 0, .int .i64 0, .string ⟨#[]⟩, .int .i64 0, .string ⟨#[]⟩, .int .i64 0, .int .i64 0, .int .i64 0, .int .i64 0, .int .i64 0, .int .i64 0, .int .i64 0, .string ⟨#[]⟩, .string ⟨#[]⟩, .slice none 0 0, .int .i64 0, .string ⟨#[]⟩, .slice none 0 0]) (e := 25) rfl rfl rfl Z22 Z22 Z2 Z14 Z22 Z22 ?_; intro mj hbS_ sS_; have bl : Aside0 (mj.heap[ab]? = some (.cells #[.int .i64 0, .int .i64 0, .int .i64 0, .string ⟨#[]⟩, .int .i64 0, .int .i64 0, .string ⟨#[]⟩, .int .i64 0, .int .i64 0, .string ⟨#[]⟩, .int .i64 0, .string ⟨#[]⟩, .int .i64 0, .int .i64 0, .int .i64 0, .int .i64 0, .int .i64 0, .int .i64 0, .int .i64 0, .string ⟨#[]⟩, .string ⟨#[]⟩, .slice none 0 0, .int .i64 0, .string ⟨#[]⟩, .slice none 0 0] 25 (0, 0))) := ⟨hbS_⟩; have bm : Aside0 (Below w.heap.size w mj) := ⟨sS_.below Z0 bf.out⟩; clear hbS_ sS_; replace aa := bl; replace HB := bm; clear bl bm))
     refine bodyPost_ret (results_ctt rfl _ _ ab 25 #[.int .i64 0, .int .i64 0, .int .i64 0, .string ⟨#[]⟩, .int .i64 0, .int .i64 0, .string ⟨#[]⟩, .int .i64 0, .int .i64 0, .string ⟨#[]⟩, .int .i64 0, .string ⟨#[]⟩, .int .i64 0, .int .i64 0, .int .i64 0, .int .i64 0, .int .i64 0, .int .i64 0, .int .i64 0, .string ⟨#[]⟩, .string ⟨#[]⟩, .slice none 0 0, .int .i64 0, .string ⟨#[]⟩, .slice none 0 0] (0, 0) _ rfl Z2 Try.underlying25 rfl Z14) rfl ?_
     exact ⟨_, _, Z5, Z7, Z20, Z0⟩
    ·replace ew := Bool.eq_false_iff.mpr ew
     subst ew
     have H1 : (if 3 < (a0.size : Int) then (if (wrap64 (bt a0 3)) = 0 then (some (0, 0, 0, (⟨#[]⟩ : ByteArray), 0, 0, (⟨#[]⟩ : ByteArray), 0, 0, (⟨#[]⟩ : ByteArray), 0, (⟨#[]⟩ : ByteArray), 0, 0, 0, 0, 0, 0, 0, (⟨#[]⟩ : ByteArray), (⟨#[]⟩ : ByteArray), ([] : List (S46)), 0, (⟨#[]⟩ : ByteArray), ([] : List (S48)), 3, 8)) else (if (a0.size : Int) < (wrap64 (4 + (wrap64 (8 * (wrap64 (bt a0 3)))))) then (some (0, 0, 0, (⟨#[]⟩ : ByteArray), 0, 0, (⟨#[]⟩ : ByteArray), 0, 0, (⟨#[]⟩ : ByteArray), 0, (⟨#[]⟩ : ByteArray), 0, 0, 0, 0, 0, 0, 0, (⟨#[]⟩ : ByteArray), (⟨#[]⟩ : ByteArray), ([] : List (S46)), 0, (⟨#[]⟩ : ByteArray), ([] : List (S48)), (a0.size : Int), 2)) else (if 1 < (a0.size : Int) then (roadbookref16_Get.l0 kj5 a0 (wrap64 (bt a0 3)) 0 5 0 0 (⟨#[]⟩ : ByteArray) 0 0 (⟨#[]⟩ : ByteArray) 0 0 (⟨#[]⟩ : ByteArray) 0 (⟨#[]⟩ : ByteArray) 0 0 0 (wrap64 (Int.tdiv (wrap64 (bt a0 1)) 128)) 0 0 0 (⟨#[]⟩ : ByteArray) (⟨#[]⟩ : ByteArray) ([] : List (S46)) 0 (⟨#[]⟩ : ByteArray)) else (none)))) else (none)) = some (r1, r2, r3, r4, r5, r6, r7, r8, r9, r10, r11, r12, r13, r14, r15, r16, r17, r18, r19, r20, r21, r22, r23, r24, r25, r26, r27) := by rw [if_neg (show ¬ (false = true) by decide)] at H; exact H
     clear H
     have H := H1
     clear H1
     by_cases fa : 3 < (a0.size : Int)
     ·rw [if_pos fa] at H
      have hH : decide (3 < (a0.size : Int)) = true := decide_eq_true fa
      have hI : decide (3 < a0.size) = true := decide_eq_true Z34
      clear fa
      by_cases gu : (wrap64 (bt a0 3)) = 0
      ·rw [if_pos gu] at H
       have iV : ((wrap64 (bt a0 3)) == 0) = true := beq_iff_eq.mpr gu
       have kw : ((wrap64 (bt a0 3)) != 0) = false := bne_eq_false_iff_eq.mpr gu
       clear gu
       simp only [Option.some.injEq, Prod.mk.injEq] at H
       obtain ⟨rfl, rfl, rfl, rfl, rfl, rfl, rfl, rfl, rfl, rfl, rfl, rfl, rfl, rfl, rfl, rfl, rfl, rfl, rfl, rfl, rfl, rfl, rfl, rfl, rfl, rfl, rfl⟩ := H
       have p17 : 0 ≤ (3 : Int) := Z34
       have q17 : 3 < a0.size := (by have : (3 : Int) < (a0.size : Int) := of_decide_eq_true Z6; omega)
       have hx17 : ∀ h : 3 < a0.size, ((a0[3]'h).toNat : Int) = bt a0 3 := bt_at a0 3
       clear p17
       have qi17 : (3 < (a0.size : Int)) = True := eq_true (of_decide_eq_true Z6)
       replace q17 := eq_true q17
       have jw := cells_25 aa.out
       go_wp2_with (first | ((with_reducible refine gate_dst (N := 46) rfl ?_); refine Pre.build_event 46 25 [(0, Go.Operand.const (Go.Value.int Go.IntKind.i64 5)), (15, Go.Operand.tmp 45)] rfl rfl rfl (roadbookref16_Get.bd46 _ _) ?_) | ((with_reducible refine Pre.gate_load 25 rfl ?_); (try (refine gate_guard Z22 ?_; dsimp only)); refine Pre.load_event rfl rfl rfl Z22 Z15 Try.underlying25 rfl Z14 ?_) | ((with_reducible refine Pre.gate_store 25 rfl ?_); refine Pre.store_abs (cur := #[.int .i64 0, .int .i64 0, .int .i64 0, .string ⟨#[]⟩, .int .i64 0, .int .i64 0, .string ⟨#[]⟩, .int .i64 0, .int .i64 0, .string ⟨#[]⟩, .int .i64 0, .string ⟨#[]⟩, .int .i64 0, .int .i64 0, .int .i64 0, .int .i64 0, .int .i64 0, .int .i64 0, .int .i64 0, .string ⟨#[]⟩, .string ⟨#[]⟩, .slice none 0 0, .int .i64 0, .string ⟨#[]⟩, .slice none 0 0]) (e := 25) rfl rfl rfl Z22 Z22 Z2 Z14 Z22 Z22 ?_; intro kR hbS_ sS_; have bl : Aside0 (kR.heap[ab]? = some (.cells #[.int .i64 0, .int .i64 0, .int .i64 0, .string ⟨#[]⟩, .int .i64 0, .int .i64 0, .string ⟨#[]⟩, .int .i64 0, .int .i64 0, .string ⟨#[]⟩, .int .i64 0, .string ⟨#[]⟩, .int .i64 0, .int .i64 0, .int .i64 0, .int .i64 0, .int .i64 0, .int .i64 0, .int .i64 0, .string ⟨#[]⟩, .string ⟨#[]⟩, .slice none 0 0, .int .i64 0, .string ⟨#[]⟩, .slice none 0 0] 25 (0, 0))) := ⟨hbS_⟩; have bm : Aside0 (Below w.heap.size w kR) := ⟨sS_.below Z0 bf.out⟩; clear hbS_ sS_; replace aa := bl; replace HB := bm; clear bl bm))
       refine bodyPost_ret (results_ctt rfl _ _ ab 25 #[.int .i64 0, .int .i64 0, .int .i64 0, .string ⟨#[]⟩, .int .i64 0, .int .i64 0, .string ⟨#[]⟩, .int .i64 0, .int .i64 0, .string ⟨#[]⟩, .int .i64 0, .string ⟨#[]⟩, .int .i64 0, .int .i64 0, .int .i64 0, .int .i64 0, .int .i64 0, .int .i64 0, .int .i64 0, .string ⟨#[]⟩, .string ⟨#[]⟩, .slice none 0 0, .int .i64 0, .string ⟨#[]⟩, .slice none 0 0] (0, 0) _ rfl Z2 Try.underlying25 rfl Z14) rfl ?_
       exact ⟨_, _, Z5, Z7, Z20, Z0⟩
      ·rw [if_neg gu] at H
       have iV : ((wrap64 (bt a0 3)) == 0) = false := beq_eq_false_iff_ne.mpr gu
       have kw : ((wrap64 (bt a0 3)) != 0) = true := bne_iff_ne.mpr gu
       by_cases eF : (a0.size : Int) < (wrap64 (4 + (wrap64 (8 * (wrap64 (bt a0 3))))))
       ·rw [if_pos eF] at H
        have jx : decide ((a0.size : Int) < (wrap64 (4 + (wrap64 (8 * (wrap64 (bt a0 3))))))) = true := decide_eq_true eF
        clear eF
        simp only [Option.some.injEq, Prod.mk.injEq] at H
        obtain ⟨rfl, rfl, rfl, rfl, rfl, rfl, rfl, rfl, rfl, rfl, rfl, rfl, rfl, rfl, rfl, rfl, rfl, rfl, rfl, rfl, rfl, rfl, rfl, rfl, rfl, rfl, rfl⟩ := H
        have p17 : 0 ≤ (3 : Int) := Z34
        have q17 : 3 < a0.size := (by have : (3 : Int) < (a0.size : Int) := of_decide_eq_true Z6; omega)
        have hx17 : ∀ h : 3 < a0.size, ((a0[3]'h).toNat : Int) = bt a0 3 := bt_at a0 3
        clear p17
        have qi17 : (3 < (a0.size : Int)) = True := eq_true (of_decide_eq_true Z6)
        replace q17 := eq_true q17
        have jy := cells_25 aa.out
        go_wp2_with (first | ((with_reducible refine gate_dst (N := 46) rfl ?_); refine Pre.build_event 46 25 [(0, Go.Operand.const (Go.Value.int Go.IntKind.i64 5)), (15, Go.Operand.tmp 45)] rfl rfl rfl (roadbookref16_Get.bd46 _ _) ?_) | ((with_reducible refine Pre.gate_load 25 rfl ?_); (try (refine gate_guard Z22 ?_; dsimp only)); refine Pre.load_event rfl rfl rfl Z22 Z15 Try.underlying25 rfl Z14 ?_) | ((with_reducible refine Pre.gate_store 25 rfl ?_); refine Pre.store_abs (cur := #[.int .i64 0, .int .i64 0, .int .i64 0, .string ⟨#[]⟩, .int .i64 0, .int .i64 0, .string ⟨#[]⟩, .int .i64 0, .int .i64 0, .string ⟨#[]⟩, .int .i64 0, .string ⟨#[]⟩, .int .i64 0, .int .i64 0, .int .i64 0, .int .i64 0, .int .i64 0, .int .i64 0, .int .i64 0, .string ⟨#[]⟩, .string ⟨#[]⟩, .slice none 0 0, .int .i64 0, .string ⟨#[]⟩, .slice none 0 0]) (e := 25) rfl rfl rfl Z22 Z22 Z2 Z14 Z22 Z22 ?_; intro ku hbS_ sS_; have bl : Aside0 (ku.heap[ab]? = some (.cells #[.int .i64 0, .int .i64 0, .int .i64 0, .string ⟨#[]⟩, .int .i64 0, .int .i64 0, .string ⟨#[]⟩, .int .i64 0, .int .i64 0, .string ⟨#[]⟩, .int .i64 0, .string ⟨#[]⟩, .int .i64 0, .int .i64 0, .int .i64 0, .int .i64 0, .int .i64 0, .int .i64 0, .int .i64 0, .string ⟨#[]⟩, .string ⟨#[]⟩, .slice none 0 0, .int .i64 0, .string ⟨#[]⟩, .slice none 0 0] 25 (0, 0))) := ⟨hbS_⟩; have bm : Aside0 (Below w.heap.size w ku) := ⟨sS_.below Z0 bf.out⟩; clear hbS_ sS_; replace aa := bl; replace HB := bm; clear bl bm))
        refine bodyPost_ret (results_ctt rfl _ _ ab 25 #[.int .i64 0, .int .i64 0, .int .i64 0, .string ⟨#[]⟩, .int .i64 0, .int .i64 0, .string ⟨#[]⟩, .int .i64 0, .int .i64 0, .string ⟨#[]⟩, .int .i64 0, .string ⟨#[]⟩, .int .i64 0, .int .i64 0, .int .i64 0, .int .i64 0, .int .i64 0, .int .i64 0, .int .i64 0, .string ⟨#[]⟩, .string ⟨#[]⟩, .slice none 0 0, .int .i64 0, .string ⟨#[]⟩, .slice none 0 0] (0, 0) _ rfl Z2 Try.underlying25 rfl Z14) rfl ?_
        exact ⟨_, _, Z5, Z7, Z20, Z0⟩
       ·rw [if_neg eF] at H
        have jx : decide ((a0.size : Int) < (wrap64 (4 + (wrap64 (8 * (wrap64 (bt a0 3))))))) = false := decide_eq_false eF
        clear eF
        by_cases dP : 1 < (a0.size : Int)
        ·rw [if_pos dP] at H
         have lk : decide (1 < (a0.size : Int)) = true := decide_eq_true dP
         have ll : decide (1 < a0.size) = true := decide_eq_true Z34
         clear dP
         have H' := Aside0.mk H
         clear H
         have p17 : 0 ≤ (3 : Int) := Z34
         have q17 : 3 < a0.size := (by have : (3 : Int) < (a0.size : Int) := of_decide_eq_true Z6; omega)
         have hx17 : ∀ h : 3 < a0.size, ((a0[3]'h).toNat : Int) = bt a0 3 := bt_at a0 3
         clear p17
         have qi17 : (3 < (a0.size : Int)) = True := eq_true (of_decide_eq_true Z6)
         replace q17 := eq_true q17
         have p25 : 0 ≤ (1 : Int) := Z34
         have q25 : 1 < a0.size := (by have : (1 : Int) < (a0.size : Int) := of_decide_eq_true Z6; omega)
         have hx25 : ∀ h : 1 < a0.size, ((a0[1]'h).toNat : Int) = bt a0 1 := bt_at a0 1
         clear p25
         have qi25 : (1 < (a0.size : Int)) = True := eq_true (of_decide_eq_true Z6)
         replace q25 := eq_true q25
         go_wp2_with (first | ((with_reducible refine gate_dst (N := 46) rfl ?_); refine Pre.build_event 46 25 [(0, Go.Operand.const (Go.Value.int Go.IntKind.i64 5)), (15, Go.Operand.tmp 45)] rfl rfl rfl (roadbookref16_Get.bd46 _ _) ?_) | ((with_reducible refine Pre.gate_load 25 rfl ?_); (try (refine gate_guard Z22 ?_; dsimp only)); refine Pre.load_event rfl rfl rfl Z22 Z15 Try.underlying25 rfl Z14 ?_) | ((with_reducible refine gate_dst (N := 6) rfl ?_); refine Sq.box 6 #[.int .i64 0, .int .i64 0, .int .i64 0, .string ⟨#[]⟩, .int .i64 0, .int .i64 0, .string ⟨#[]⟩, .int .i64 0, .int .i64 0, .string ⟨#[]⟩, .int .i64 0, .string ⟨#[]⟩, .int .i64 0, .int .i64 0, .int .i64 0, .int .i64 0, .int .i64 0, .int .i64 0, .int .i64 0, .string ⟨#[]⟩, .string ⟨#[]⟩, .slice none 0 0, .int .i64 0, .string ⟨#[]⟩, .slice none 0 0] 25 ?_; intro aJ hg iR hbox hb; have aN := Aside0.mk (hbox); have fw := Aside0.mk (Sq.ge hg Z0); have eC := Aside0.mk (Sq.ge hg Z0); have aW := Aside0.mk (Sq.nl hg (blk_lt (g := ab) Z2)); have bh := Aside0.mk (Sq.ng hg (blk_lt (g := ab) Z2)); replace aa := Aside0.mk (blk_below (g := ab) Z2 hb); replace HB := Aside0.mk (below_step Z0 hb); clear hb hbox hg; have hnb27 := bh.out; have hnc27 := aW.out; have kv := cells_25 aN.out) | ((with_reducible refine Pre.gate_store 25 rfl ?_); refine Pre.store_abs (cur := #[.int .i64 0, .int .i64 0, .int .i64 0, .string ⟨#[]⟩, .int .i64 0, .int .i64 0, .string ⟨#[]⟩, .int .i64 0, .int .i64 0, .string ⟨#[]⟩, .int .i64 0, .string ⟨#[]⟩, .int .i64 0, .int .i64 0, .int .i64 0, .int .i64 0, .int .i64 0, .int .i64 0, .int .i64 0, .string ⟨#[]⟩, .string ⟨#[]⟩, .slice none 0 0, .int .i64 0, .string ⟨#[]⟩, .slice none 0 0]) (e := 25) rfl rfl rfl Z22 Z22 Z19 Z14 Z22 Z22 ?_; intro oj hbS_ sS_; have bl : Aside0 (oj.heap[ab]? = some (.cells #[.int .i64 0, .int .i64 0, .int .i64 0, .string ⟨#[]⟩, .int .i64 0, .int .i64 0, .string ⟨#[]⟩, .int .i64 0, .int .i64 0, .string ⟨#[]⟩, .int .i64 0, .string ⟨#[]⟩, .int .i64 0, .int .i64 0, .int .i64 0, .int .i64 0, .int .i64 0, .int .i64 0, .int .i64 0, .string ⟨#[]⟩, .string ⟨#[]⟩, .slice none 0 0, .int .i64 0, .string ⟨#[]⟩, .slice none 0 0] 25 (0, 0))) := ⟨sS_.blk Z2 aW.out⟩; have bm : Aside0 (oj.heap[aJ]? = some (.cells #[.int .i64 5, .int .i64 0, .int .i64 0, .string ⟨#[]⟩, .int .i64 0, .int .i64 0, .string ⟨#[]⟩, .int .i64 0, .int .i64 0, .string ⟨#[]⟩, .int .i64 0, .string ⟨#[]⟩, .int .i64 0, .int .i64 0, .int .i64 0, .int .i64 (wrap64 (Int.tdiv (wrap64 (bt a0 1)) 128)), .int .i64 0, .int .i64 0, .int .i64 0, .string ⟨#[]⟩, .string ⟨#[]⟩, .slice none 0 0, .int .i64 0, .string ⟨#[]⟩, .slice none 0 0] 25 (0, 0))) := ⟨hbS_⟩; have bI : Aside0 (Below w.heap.size w oj) := ⟨sS_.below Z8 eC.out⟩; clear hbS_ sS_; replace aa := bl; replace aN := bm; replace HB := bI; clear bl bm bI))
         go_loopg [7] kj5 (fun kq v7 w' => ∃ (er : Int) (bJ : List (S46)) (u103021 : Value), v7 = .int .i64 er ∧ Aside0 (roadbookref16_Get.l0 kq a0 (wrap64 (bt a0 3)) er 5 0 0 (⟨#[]⟩ : ByteArray) 0 0 (⟨#[]⟩ : ByteArray) 0 0 (⟨#[]⟩ : ByteArray) 0 (⟨#[]⟩ : ByteArray) 0 0 0 (wrap64 (Int.tdiv (wrap64 (bt a0 1)) 128)) 0 0 0 (⟨#[]⟩ : ByteArray) (⟨#[]⟩ : ByteArray) bJ 0 (⟨#[]⟩ : ByteArray) = some (r1, r2, r3, r4, r5, r6, r7, r8, r9, r10, r11, r12, r13, r14, r15, r16, r17, r18, r19, r20, r21, r22, r23, r24, r25, r26, r27)) ∧ Aside0 (kq ≤ kj5) ∧ Aside0 (Kd.R k46 46 w' w.heap.size (fun _ => True) u103021 bJ) ∧ Aside0 (w'.heap[ab]? = some (.cells #[.int .i64 0, .int .i64 0, .int .i64 0, .string ⟨#[]⟩, .int .i64 0, .int .i64 0, .string ⟨#[]⟩, .int .i64 0, .int .i64 0, .string ⟨#[]⟩, .int .i64 0, .string ⟨#[]⟩, .int .i64 0, .int .i64 0, .int .i64 0, .int .i64 0, .int .i64 0, .int .i64 0, .int .i64 0, .string ⟨#[]⟩, .string ⟨#[]⟩, (.slice none 0 0), .int .i64 0, .string ⟨#[]⟩, (.slice none 0 0)] 25 (0, 0))) ∧ Aside0 (w'.heap[aJ]? = some (.cells #[.int .i64 5, .int .i64 0, .int .i64 0, .string ⟨#[]⟩, .int .i64 0, .int .i64 0, .string ⟨#[]⟩, .int .i64 0, .int .i64 0, .string ⟨#[]⟩, .int .i64 0, .string ⟨#[]⟩, .int .i64 0, .int .i64 0, .int .i64 0, .int .i64 (wrap64 (Int.tdiv (wrap64 (bt a0 1)) 128)), .int .i64 0, .int .i64 0, .int .i64 0, .string ⟨#[]⟩, .string ⟨#[]⟩, u103021, .int .i64 0, .string ⟨#[]⟩, (.slice none 0 0)] 25 (0, 0))) ∧ Aside0 (Below w.heap.size w w'))
         case atStart => exact ⟨(0), (([] : List (S46))), (.slice none 0 0), Z17, H', ⟨Nat.le_refl _⟩, ⟨Z7⟩, ⟨Z2⟩, ⟨Z19⟩, ⟨Z8⟩⟩
         case round =>
          clear H'
          try clear c1
          try clear p1
          try clear q1
          try clear hx1
          try clear qi1
          try clear c2
          try clear eE
          try clear fo
          try clear p2
          try clear q2
          try clear hx2
          try clear qi2
          try clear c3
          try clear p6
          try clear c8
          try clear gf
          try clear iU
          try clear p9
          try clear q9
          try clear hx9
          try clear qi9
          try clear en
          try clear eP
          try clear fv
          try clear dK
          try clear eB
          try clear fp
          try clear p12
          try clear q12
          try clear hx12
          try clear qi12
          try clear ew
          try clear fa
          try clear hH
          try clear hI
          try clear p17
          try clear q17
          try clear hx17
          try clear qi17
          try clear gu
          try clear iV
          try clear kw
          try clear eF
          try clear jx
          try clear dP
          try clear lk
          try clear ll
          try clear p25
          try clear q25
          try clear hx25
          try clear qi25
          try clear jM
          try clear iC
          try clear jw
          try clear jy
          try clear kv
          try clear jL
          try clear p12
          try clear p17
          try clear p2
          try clear p25
          try clear p9
          try clear q12
          try clear q17
          try clear q25
          try clear q9
          obtain ⟨er, bJ, u103021, rfl, HA, HK2, HO_103021, aa, aN, HB⟩ := hrel
          cases gk with
          | zero => exact absurd HA.out (by simp [roadbookref16_Get.l0])
          | succ k2 =>
           have H := HA.out
           clear HA
           simp only [roadbookref16_Get.l0] at H
           by_cases lm : er < (wrap64 (bt a0 3))
           ·rw [if_pos lm] at H
            have ml : decide (er < (wrap64 (bt a0 3))) = true := decide_eq_true lm
            clear lm
            obtain ⟨ji31, hji31⟩ : ∃ j_ : Int, (wrap64 (4 + (wrap64 (8 * er)))) = j_ := ⟨_, rfl⟩
            replace H : (if 0 ≤ (ji31) then (if (ji31) ≤ (wrap64 (8 + (wrap64 (8 * er)))) then (if (wrap64 (8 + (wrap64 (8 * er)))) ≤ (a0.size : Int) then (if 0 ≤ (wrap64 (8 + (wrap64 (8 * er)))) then (if (wrap64 (8 + (wrap64 (8 * er)))) ≤ (wrap64 (12 + (wrap64 (8 * er)))) then (if (wrap64 (12 + (wrap64 (8 * er)))) ≤ (a0.size : Int) then ((roadbookref08_Number.f k2 (a0.extract ((wrap64 (8 + (wrap64 (8 * er)))) : Int).toNat ((wrap64 (12 + (wrap64 (8 * er)))) : Int).toNat)).bind fun aX => (if bJ.length < 5864062014805 then (roadbookref16_Get.l0 k2 a0 (wrap64 (bt a0 3)) (wrap64 (er + 1)) 5 0 0 (⟨#[]⟩ : ByteArray) 0 0 (⟨#[]⟩ : ByteArray) 0 0 (⟨#[]⟩ : ByteArray) 0 (⟨#[]⟩ : ByteArray) 0 0 0 (wrap64 (Int.tdiv (wrap64 (bt a0 1)) 128)) 0 0 0 (⟨#[]⟩ : ByteArray) (⟨#[]⟩ : ByteArray) (bJ ++ [(⟨a0.extract ((ji31) : Int).toNat ((wrap64 (8 + (wrap64 (8 * er)))) : Int).toNat, aX⟩ : S46)]) 0 (⟨#[]⟩ : ByteArray)) else (none))) else (none)) else (none)) else (none)) else (none)) else (none)) else (none)) = some (r1, r2, r3, r4, r5, r6, r7, r8, r9, r10, r11, r12, r13, r14, r15, r16, r17, r18, r19, r20, r21, r22, r23, r24, r25, r26, r27) := by first | (rw [hji31] at H; exact H) | (simp only [hji31] at H ⊢; exact H)
            have hji31w : (IntKind.i64.wrap (4 + (wrap64 (8 * er)))) = ji31 := (i64_w _).trans hji31
            by_cases ih : 0 ≤ (ji31)
            ·rw [if_pos ih] at H
             have ln := eq_true ih
             have ol : decide (0 ≤ (ji31)) = true := decide_eq_true ih
             clear ih
             by_cases kS : (ji31) ≤ (wrap64 (8 + (wrap64 (8 * er))))
             ·rw [if_pos kS] at H
              have mm := eq_true kS
              have om : decide ((ji31) ≤ (wrap64 (8 + (wrap64 (8 * er))))) = true := decide_eq_true kS
              by_cases gA : (wrap64 (8 + (wrap64 (8 * er)))) ≤ (a0.size : Int)
              ·rw [if_pos gA] at H
               have iD := eq_true gA
               have kx : decide ((wrap64 (8 + (wrap64 (8 * er)))) ≤ (a0.size : Int)) = true := decide_eq_true gA
               obtain ⟨ji35, hji35⟩ : ∃ j_ : Int, (wrap64 (8 + (wrap64 (8 * er)))) = j_ := ⟨_, rfl⟩
               replace H : (if 0 ≤ (ji35) then (if (ji35) ≤ (wrap64 (12 + (wrap64 (8 * er)))) then (if (wrap64 (12 + (wrap64 (8 * er)))) ≤ (a0.size : Int) then ((roadbookref08_Number.f k2 (a0.extract ((ji35) : Int).toNat ((wrap64 (12 + (wrap64 (8 * er)))) : Int).toNat)).bind fun aX => (if bJ.length < 5864062014805 then (roadbookref16_Get.l0 k2 a0 (wrap64 (bt a0 3)) (wrap64 (er + 1)) 5 0 0 (⟨#[]⟩ : ByteArray) 0 0 (⟨#[]⟩ : ByteArray) 0 0 (⟨#[]⟩ : ByteArray) 0 (⟨#[]⟩ : ByteArray) 0 0 0 (wrap64 (Int.tdiv (wrap64 (bt a0 1)) 128)) 0 0 0 (⟨#[]⟩ : ByteArray) (⟨#[]⟩ : ByteArray) (bJ ++ [(⟨a0.extract ((ji31) : Int).toNat ((ji35) : Int).toNat, aX⟩ : S46)]) 0 (⟨#[]⟩ : ByteArray)) else (none))) else (none)) else (none)) else (none)) = some (r1, r2, r3, r4, r5, r6, r7, r8, r9, r10, r11, r12, r13, r14, r15, r16, r17, r18, r19, r20, r21, r22, r23, r24, r25, r26, r27) := by first | (rw [hji35] at H; exact H) | (simp only [hji35] at H ⊢; exact H)
               (try rw [hji35] at mm)
               (try rw [hji35] at om)
               (try rw [hji35] at kS)
               (try rw [hji35] at iD)
               (try rw [hji35] at kx)
               (try rw [hji35] at gA)
               have hji35w : (IntKind.i64.wrap (8 + (wrap64 (8 * er)))) = ji35 := (i64_w _).trans hji35
               by_cases kV : 0 ≤ (ji35)
               ·rw [if_pos kV] at H
                have c36b0 := eq_true kV
                have c36b1 : decide (0 ≤ (ji35)) = true := decide_eq_true kV
                clear kV
                by_cases nC : (ji35) ≤ (wrap64 (12 + (wrap64 (8 * er))))
                ·rw [if_pos nC] at H
                 have c37b0 := eq_true nC
                 have c37b1 : decide ((ji35) ≤ (wrap64 (12 + (wrap64 (8 * er))))) = true := decide_eq_true nC
                 by_cases sD : (wrap64 (12 + (wrap64 (8 * er)))) ≤ (a0.size : Int)
                 ·rw [if_pos sD] at H
                  have c38b0 := eq_true sD
                  have c38b1 : decide ((wrap64 (12 + (wrap64 (8 * er)))) ≤ (a0.size : Int)) = true := decide_eq_true sD
                  replace H := Option.bind_eq_some_iff.mp H
                  obtain ⟨aX, qq, H⟩ := H
                  replace H : (if bJ.length < 5864062014805 then (roadbookref16_Get.l0 k2 a0 (wrap64 (bt a0 3)) (wrap64 (er + 1)) 5 0 0 (⟨#[]⟩ : ByteArray) 0 0 (⟨#[]⟩ : ByteArray) 0 0 (⟨#[]⟩ : ByteArray) 0 (⟨#[]⟩ : ByteArray) 0 0 0 (wrap64 (Int.tdiv (wrap64 (bt a0 1)) 128)) 0 0 0 (⟨#[]⟩ : ByteArray) (⟨#[]⟩ : ByteArray) (bJ ++ [(⟨a0.extract ((ji31) : Int).toNat ((ji35) : Int).toNat, aX⟩ : S46)]) 0 (⟨#[]⟩ : ByteArray)) else (none)) = some (r1, r2, r3, r4, r5, r6, r7, r8, r9, r10, r11, r12, r13, r14, r15, r16, r17, r18, r19, r20, r21, r22, r23, r24, r25, r26, r27) := H
                  have uq := Aside0.mk qq
                  clear qq
                  by_cases nD : bJ.length < 5864062014805
                  ·rw [if_pos nD] at H
                   have LMc40 := Aside0.mk nD
                   clear nD
                   obtain ⟨nE, hy104⟩ : ∃ y_ : List (S46), y_ = (bJ ++ [(⟨a0.extract ((ji31) : Int).toNat ((ji35) : Int).toNat, aX⟩ : S46)]) := ⟨_, rfl⟩
                   replace H : (roadbookref16_Get.l0 k2 a0 (wrap64 (bt a0 3)) (wrap64 (er + 1)) 5 0 0 (⟨#[]⟩ : ByteArray) 0 0 (⟨#[]⟩ : ByteArray) 0 0 (⟨#[]⟩ : ByteArray) 0 (⟨#[]⟩ : ByteArray) 0 0 0 (wrap64 (Int.tdiv (wrap64 (bt a0 1)) 128)) 0 0 0 (⟨#[]⟩ : ByteArray) (⟨#[]⟩ : ByteArray) nE 0 (⟨#[]⟩ : ByteArray)) = some (r1, r2, r3, r4, r5, r6, r7, r8, r9, r10, r11, r12, r13, r14, r15, r16, r17, r18, r19, r20, r21, r22, r23, r24, r25, r26, r27) := by first | (rw [hy104]; with_reducible exact H) | (have H2_ := (Option.bind_some _ _).symm.trans H; rw [hy104]; with_reducible exact H2_) | (have H2_ := (Option.bind_some _ _).symm.trans H; with_reducible exact H2_) | with_reducible exact H | (rw [hy104]; exact H) | exact H
                   have Ny104 := Aside0.mk hy104
                   clear hy104
                   have H' := Aside0.mk H
                   clear H
                   try go_wp2_with (first | ((with_reducible refine gate_dst (N := 46) rfl ?_); refine Pre.build_event 46 25 [(0, Go.Operand.const (Go.Value.int Go.IntKind.i64 5)), (15, Go.Operand.tmp 45)] rfl rfl rfl (roadbookref16_Get.bd46 _ _) ?_) | ((with_reducible refine Pre.gate_load 25 rfl ?_); (try (refine gate_guard Z22 ?_; dsimp only)); refine Pre.load_event rfl rfl rfl Z22 Z15 Try.underlying25 rfl Z14 ?_))
                   have bl := Aside0.mk (Kd.R_drew HO_103021.out)
                   have bm := Aside0.mk (blk_drew aa.out)
                   have bI := Aside0.mk (blk_drew aN.out)
                   have dU := Aside0.mk (below_drew1 HB.out)
                   clear HO_103021
                   clear aa
                   clear aN
                   clear HB
                   have HO_103021 := bl
                   have aa := bm
                   have aN := bI
                   have HB := dU
                   clear bl bm bI dU
                   refine start_ (n := 24) (S := fun w' => w'.cell? ⟨aJ, 21, none⟩ = some (u103021)) (ds := [23]) (Sq.b 24 0) Z14 rfl rfl ((blk_cell aN.out 21).trans rfl) (fun hHeld => ?_); refine with_tabW roadbookref16_Get.tab14 roadbookref16_Get.bits14 (fun HT_ HW_ => ?_)
                   generalize wr.drew = ur at HO_103021 aa aN HB hHeld ⊢
                   refine Sq.pur 0 (some 52) (Sq.b 24 1) HT_.out ?_
                   refine Sq.pur 2 (some 54) (Sq.b 24 5) HT_.out ?_
                   refine Sq.pur 3 (some 55) (Sq.b 24 13) HT_.out ?_
                   refine Sq.pur 4 (some 56) (Sq.b 24 29) HT_.out ?_
                   refine Sq.pur 5 (some 57) (Sq.b 24 61) HT_.out ?_
                   refine Sq.pur 6 (some 58) (Sq.b 24 125) HT_.out ?_
                   refine Sq.pur 7 (some 59) (Sq.b 24 253) HT_.out ?_
                   refine Sq.pur 8 (some 60) (Sq.b 24 509) HT_.out ?_
                   refine Sq.pur 9 (some 61) (Sq.b 24 1021) HT_.out ?_
                   refine Sq.pur 10 (some 62) (Sq.b 24 2045) HT_.out ?_
                   refine Sq.pur 11 (some 63) (Sq.b 24 4093) HT_.out ?_
                   refine Sq.pur 12 (some 64) (Sq.b 24 8189) HT_.out ?_
                   refine Sq.pur 13 (some 65) (Sq.b 24 16381) HT_.out ?_
                   refine Sq.pur 14 (some 66) (Sq.b 24 32765) HT_.out ?_
                   refine Sq.pur 15 (some 67) (Sq.b 24 65533) HT_.out ?_
                   refine Sq.pur 16 (some 68) (Sq.b 24 131069) HT_.out ?_
                   refine Sq.pur 17 (some 69) (Sq.b 24 262141) HT_.out ?_
                   refine Sq.tak 1 (some 53) (Sq.b 24 262143) HT_.out HW_.out hHeld (v := ?_) (a' := ?_) ?_ ?_ ?_
                   rotate_left
                   ·rintro w' s0
                    first | (refine Eq.trans (Pre.load_run (ty := 25) rfl Z22 Z87 Try.underlying25 rfl Z14) ?_; with_reducible rfl) | (go_simp; with_reducible rfl)
                   rotate_left
                   ·simp only [Act.put, Sq.s1, Sq.s2, Sq.s3, i64_w, i32_w]
                    rfl
                   refine one_ (i := 18) (N := some 70) (Sq.b 24 524287) rfl rfl (one_of HT_.out Z14) Z27 (fun K hK => ?_)
                   refine goes_ Try.func64 Z14 rfl #[.string (a0.extract ((ji35) : Int).toNat ((wrap64 (12 + (wrap64 (8 * er)))) : Int).toNat)] Z22 rfl rfl (by (try simp only [List.map_toArray, List.map_cons, List.map_nil]); first | done | (simp only [hji35]; rfl) | rfl | (simp only [List.length_drop, List.length_take]; rfl)) ?_
                   with_reducible refine (roadbookref08_Number.calls k2 (a0.extract ((ji35) : Int).toNat ((wrap64 (12 + (wrap64 (8 * er)))) : Int).toNat) aX _ uq.out).mono ?_
                   rintro e w' ⟨rfl, ⟨nd, rfl⟩⟩
                   refine ⟨_, rfl, ?_⟩
                   refine hK.out _ _ ((blk_cell aN.out 21).trans rfl) (fun hHeld => ?_)
                   clear hK K
                   refine norm_ (a' := ?_) ?_ ?_
                   rotate_left
                   ·show Act.put _ (some 70) _ = _
                    simp only [Act.put, Sq.s1, Sq.s2, Sq.s3, i64_w, i32_w]
                    rfl
                   refine Sq.pur 19 (some 71) (Sq.b 24 1048575) HT_.out ?_
                   refine one_ (i := 20) (N := some 72) (Sq.b 24 2097151) rfl rfl (one_of HT_.out Z14) Z27 (fun K hK => ?_)
                   refine value_ (w1 := ?_) (v := ?_) Z22 rfl ?_ ?_
                   rotate_left 2
                   ·go_simp
                    constructor
                    ·rfl
                    ·rfl
                   refine hK.out _ _ ((blk_cell (blk_alloc aN.out _) 21).trans rfl) (fun hHeld => ?_)
                   clear hK K
                   refine norm_ (a' := ?_) ?_ ?_
                   rotate_left
                   ·show Act.put _ (some 72) _ = _
                    simp only [Act.put, Sq.s1, Sq.s2, Sq.s3, i64_w, i32_w]
                    rfl
                   refine one_ (i := 21) (N := some 73) (Sq.b 24 4194303) rfl rfl (one_of HT_.out Z14) Z27 (fun K hK => ?_)
                   refine Kd.R_append_step k46 (w0 := w) w.heap.size Z22 (.tmp 53) (.tmp 72) 22 46 (.agg #[(.string ⟨#[]⟩), (.int .i64 0)]) 24 rfl Try.underlying22 info46 rfl Z27 Z34 u103021 bJ (⟨a0.extract ((ji31) : Int).toNat ((ji35) : Int).toNat, aX⟩ : S46) [.string (a0.extract ((ji31) : Int).toNat ((ji35) : Int).toNat), .int .i64 aX] (fun _ => True) (fun _ => False) rfl rfl ?aP (fun _ hk => hk.elim) ?aF ?aO ?aB ?aS ?aL ?_
                   (case aP => exact k46_mkM _ _ _ (⟨a0.extract ((ji31) : Int).toNat ((ji35) : Int).toNat, aX⟩ : S46))
                   (case aB => exact Z8)
                   (case aF => exact (fun _ _ => trivial))
                   (case aO => exact Z45)
                   (case aS => exact (below_size Z8))
                   (case aL => have := LMc40.out; omega)
                   intro il ut ho hb hg hat
                   rw [← Ny104.out] at ho
                   have bl := Aside0.mk (blk_grown (g := ab) (o := .cells #[.int .i64 0, .int .i64 0, .int .i64 0, .string ⟨#[]⟩, .int .i64 0, .int .i64 0, .string ⟨#[]⟩, .int .i64 0, .int .i64 0, .string ⟨#[]⟩, .int .i64 0, .string ⟨#[]⟩, .int .i64 0, .int .i64 0, .int .i64 0, .int .i64 0, .int .i64 0, .int .i64 0, .int .i64 0, .string ⟨#[]⟩, .string ⟨#[]⟩, .slice none 0 0, .int .i64 0, .string ⟨#[]⟩, .slice none 0 0] 25 (0, 0)) Z2 hg (Kd.R_ne HO_103021.out aa.out Z27))
                   have bm := Aside0.mk (blk_grown (g := aJ) (o := .cells #[.int .i64 5, .int .i64 0, .int .i64 0, .string ⟨#[]⟩, .int .i64 0, .int .i64 0, .string ⟨#[]⟩, .int .i64 0, .int .i64 0, .string ⟨#[]⟩, .int .i64 0, .string ⟨#[]⟩, .int .i64 0, .int .i64 0, .int .i64 0, .int .i64 (wrap64 (Int.tdiv (wrap64 (bt a0 1)) 128)), .int .i64 0, .int .i64 0, .int .i64 0, .string ⟨#[]⟩, .string ⟨#[]⟩, u103021, .int .i64 0, .string ⟨#[]⟩, .slice none 0 0] 25 (0, 0)) Z19 hg (Kd.R_ne HO_103021.out aN.out Z27))
                   have bI := Aside0.mk (hb)
                   have dU := Aside0.mk (ho)
                   clear aa
                   clear aN
                   clear HB
                   clear HO_103021
                   have aa := bl
                   have aN := bm
                   have HB := bI
                   have bw := dU
                   clear bl bm bI dU
                   clear ho hb hg hat
                   obtain ⟨qr, qs, eo43⟩ := Kd.R_slice bw.out
                   (first | subst eo43 | (injection eo43 with f1_ f2_ f3_; have f4_ := f1_.symm; have f5_ := f3_.symm; clear f1_ f2_ f3_; subst f4_; subst f5_))
                   refine hK.out _ _ ((blk_cell aN.out 21).trans rfl) (fun hHeld => ?_)
                   clear hK K
                   refine norm_ (a' := ?_) ?_ ?_
                   rotate_left
                   ·show Act.put _ (some 73) _ = _
                    simp only [Act.put, Sq.s1, Sq.s2, Sq.s3, i64_w, i32_w]
                    rfl
                   refine Sq.pur 22 (some 74) (Sq.b 24 8388607) HT_.out ?_
                   refine last_ (i := 23) (N := none) (Sq.b 24 16777215) rfl rfl (one_of HT_.out Z14) Z27 (fun K hK => ?_)
                   have hs44 : ut.cell? ⟨aJ, 21, none⟩ = some (u103021) := (blk_cell aN.out 21).trans rfl
                   have hfs44 := blk_frozen aN.out 21
                   have hns44_0 := aW.out
                   have hms44_0 := bh.out
                   refine skip_ (w1 := ?_) Z22 rfl ?_ ?_
                   rotate_left
                   ·go_simp
                    rfl
                   refine hK.out _ _ ?_
                   clear hK K
                   refine done_ (done_of HT_.out Z14) ?_
                   try go_wp2_with (first | ((with_reducible refine gate_dst (N := 46) rfl ?_); refine Pre.build_event 46 25 [(0, Go.Operand.const (Go.Value.int Go.IntKind.i64 5)), (15, Go.Operand.tmp 45)] rfl rfl rfl (roadbookref16_Get.bd46 _ _) ?_) | ((with_reducible refine Pre.gate_load 25 rfl ?_); (try (refine gate_guard Z22 ?_; dsimp only)); refine Pre.load_event rfl rfl rfl Z22 Z15 Try.underlying25 rfl Z14 ?_))
                   go_roundg k2
                   case measure => have := sU.out; have := HK2.out; omega
                   case rel => exact ⟨(wrap64 (er + 1)), (nE), (.slice qr nE.length qs), Z17, H', ⟨by have := sU.out; have := HK2.out; omega⟩, ⟨by (with_reducible repeat (first | apply Kd.R_alloc | apply Kd.R_drewN | apply Kd.R_drew)); exact Kd.R_mono (Kd.R_far (p := ⟨aJ, 21, none⟩) (Kd.R_types bw.out aN.out Z27) (fun _ hk => hk.2) (.slice qr nE.length qs)) (fun _ hk => trivial)⟩, ⟨Z54⟩, ⟨by (with_reducible repeat (first | refine blk_drewN ?_ _ | refine blk_drew ?_ | refine blk_alloc ?_ _)); refine blk_put (cs := #[.int .i64 5, .int .i64 0, .int .i64 0, .string ⟨#[]⟩, .int .i64 0, .int .i64 0, .string ⟨#[]⟩, .int .i64 0, .int .i64 0, .string ⟨#[]⟩, .int .i64 0, .string ⟨#[]⟩, .int .i64 0, .int .i64 0, .int .i64 0, .int .i64 (wrap64 (Int.tdiv (wrap64 (bt a0 1)) 128)), .int .i64 0, .int .i64 0, .int .i64 0, .string ⟨#[]⟩, .string ⟨#[]⟩, u103021, .int .i64 0, .string ⟨#[]⟩, .slice none 0 0]) ?_ 21 _ rfl; (with_reducible repeat (first | refine blk_drewN ?_ _ | refine blk_drew ?_ | refine blk_alloc ?_ _)); exact aN.out⟩, ⟨Z8⟩⟩
                  ·rw [if_neg nD] at H
                   exact absurd H Z59
                 ·rw [if_neg sD] at H
                  exact absurd H Z59
                ·rw [if_neg nC] at H
                 exact absurd H Z59
               ·rw [if_neg kV] at H
                exact absurd H Z59
              ·rw [if_neg gA] at H
               exact absurd H Z59
             ·rw [if_neg kS] at H
              exact absurd H Z59
            ·rw [if_neg ih] at H
             exact absurd H Z59
           ·rw [if_neg lm] at H
            have ml : decide (er < (wrap64 (bt a0 3))) = false := decide_eq_false lm
            clear lm
            obtain ⟨ji45, hji45⟩ : ∃ j_ : Int, (wrap64 (4 + (wrap64 (8 * (wrap64 (bt a0 3)))))) = j_ := ⟨_, rfl⟩
            replace H : (if 0 ≤ (ji45) then (if (ji45) ≤ (a0.size : Int) then ((roadbookref13_Get.f k2 (a0.extract ((ji45) : Int).toNat a0.size)).bind fun bu => (if bu.2.2 = 0 then (some (5, 0, 0, (⟨#[]⟩ : ByteArray), 0, 0, (⟨#[]⟩ : ByteArray), 0, 0, (⟨#[]⟩ : ByteArray), 0, (⟨#[]⟩ : ByteArray), 0, 0, 0, (wrap64 (Int.tdiv (wrap64 (bt a0 1)) 128)), 0, 0, 0, (⟨#[]⟩ : ByteArray), (⟨#[]⟩ : ByteArray), bJ, 0, (⟨#[]⟩ : ByteArray), bu.1, 0, 0)) else (some (0, 0, 0, (⟨#[]⟩ : ByteArray), 0, 0, (⟨#[]⟩ : ByteArray), 0, 0, (⟨#[]⟩ : ByteArray), 0, (⟨#[]⟩ : ByteArray), 0, 0, 0, 0, 0, 0, 0, (⟨#[]⟩ : ByteArray), (⟨#[]⟩ : ByteArray), ([] : List (S46)), 0, (⟨#[]⟩ : ByteArray), ([] : List (S48)), wrap64 ((ji45) + bu.2.1), bu.2.2)))) else (none)) else (none)) = some (r1, r2, r3, r4, r5, r6, r7, r8, r9, r10, r11, r12, r13, r14, r15, r16, r17, r18, r19, r20, r21, r22, r23, r24, r25, r26, r27) := by first | (rw [hji45] at H; exact H) | (simp only [hji45] at H ⊢; exact H)
            (try rw [hji45] at jx)
            have hji45w : (IntKind.i64.wrap (4 + (wrap64 (8 * (wrap64 (bt a0 3)))))) = ji45 := (i64_w _).trans hji45
            by_cases mc : 0 ≤ (ji45)
            ·rw [if_pos mc] at H
             have qt := eq_true mc
             have qu : decide (0 ≤ (ji45)) = true := decide_eq_true mc
             clear mc
             by_cases mn : (ji45) ≤ (a0.size : Int)
             ·rw [if_pos mn] at H
              have qv := eq_true mn
              have qw : decide ((ji45) ≤ (a0.size : Int)) = true := decide_eq_true mn
              clear mn
              replace H := Option.bind_eq_some_iff.mp H
              obtain ⟨⟨bp, aQ, ba⟩, qx, H⟩ := H
              replace H : (if ba = 0 then (some (5, 0, 0, (⟨#[]⟩ : ByteArray), 0, 0, (⟨#[]⟩ : ByteArray), 0, 0, (⟨#[]⟩ : ByteArray), 0, (⟨#[]⟩ : ByteArray), 0, 0, 0, (wrap64 (Int.tdiv (wrap64 (bt a0 1)) 128)), 0, 0, 0, (⟨#[]⟩ : ByteArray), (⟨#[]⟩ : ByteArray), bJ, 0, (⟨#[]⟩ : ByteArray), bp, 0, 0)) else (some (0, 0, 0, (⟨#[]⟩ : ByteArray), 0, 0, (⟨#[]⟩ : ByteArray), 0, 0, (⟨#[]⟩ : ByteArray), 0, (⟨#[]⟩ : ByteArray), 0, 0, 0, 0, 0, 0, 0, (⟨#[]⟩ : ByteArray), (⟨#[]⟩ : ByteArray), ([] : List (S46)), 0, (⟨#[]⟩ : ByteArray), ([] : List (S48)), wrap64 ((ji45) + aQ), ba))) = some (r1, r2, r3, r4, r5, r6, r7, r8, r9, r10, r11, r12, r13, r14, r15, r16, r17, r18, r19, r20, r21, r22, r23, r24, r25, r26, r27) := H
              have tZ := Aside0.mk qx
              clear qx
              by_cases jN : ba = 0
              ·rw [if_pos jN] at H
               have oo : (ba == 0) = true := beq_iff_eq.mpr jN
               have oq : (ba != 0) = false := bne_eq_false_iff_eq.mpr jN
               clear jN
               simp only [Option.some.injEq, Prod.mk.injEq] at H
               obtain ⟨rfl, rfl, rfl, rfl, rfl, rfl, rfl, rfl, rfl, rfl, rfl, rfl, rfl, rfl, rfl, rfl, rfl, rfl, rfl, rfl, rfl, rfl, rfl, rfl, rfl, rfl, rfl⟩ := H
               go_wp2_with (first | ((with_reducible refine gate_dst (N := 46) rfl ?_); refine Pre.build_event 46 25 [(0, Go.Operand.const (Go.Value.int Go.IntKind.i64 5)), (15, Go.Operand.tmp 45)] rfl rfl rfl (roadbookref16_Get.bd46 _ _) ?_) | ((with_reducible refine Pre.gate_load 25 rfl ?_); (try (refine gate_guard Z22 ?_; dsimp only)); refine Pre.load_event rfl rfl rfl Z22 Z15 Try.underlying25 rfl Z14 ?_) | ((with_reducible refine gate_callee (f := 63) rfl ?_); refine goesL_ (some 81) rfl rfl Try.func63 Z14 rfl #[.string (a0.extract ((ji45) : Int).toNat a0.size)] rfl Z106 ?_; (with_reducible refine (roadbookref13_Get.calls k2 (a0.extract ((ji45) : Int).toNat a0.size) bp aQ ba _ tZ.out).mono ?_); rintro e w50 ⟨pd, rfl, ho0, hb⟩; refine ⟨_, rfl, ?_⟩; have hJ := Aside0.mk (Kd.R_lower ho0 (below_size Z8)); replace HO_103021 := Aside0.mk (Kd.R_below Z45 hb); replace aa := Aside0.mk (blk_below (g := ab) Z2 hb); replace aN := Aside0.mk (blk_below (g := aJ) Z19 hb); replace HB := Aside0.mk (below_step Z8 hb); clear hb ho0; obtain ⟨lN, lO, eo51⟩ := Kd.R_slice hJ.out; subst eo51; have hnb52 := bh.out; have hnc52 := aW.out; have hcz53 := cells_25 aN.out; have hcz54 := cells_25 aa.out; obtain ⟨mo, mq, eo55⟩ := Kd.R_slice HO_103021.out; subst eo55) | ((with_reducible refine Pre.gate_store 25 rfl ?_); refine Pre.store_abs (cur := #[.int .i64 0, .int .i64 0, .int .i64 0, .string ⟨#[]⟩, .int .i64 0, .int .i64 0, .string ⟨#[]⟩, .int .i64 0, .int .i64 0, .string ⟨#[]⟩, .int .i64 0, .string ⟨#[]⟩, .int .i64 0, .int .i64 0, .int .i64 0, .int .i64 0, .int .i64 0, .int .i64 0, .int .i64 0, .string ⟨#[]⟩, .string ⟨#[]⟩, .slice none 0 0, .int .i64 0, .string ⟨#[]⟩, .slice none 0 0]) (e := 25) rfl rfl rfl Z22 Z22 Z54 Z14 Z22 Z22 ?_; intro ot hbS_ sS_; have bl : Aside0 (Kd.R k46 46 ot w.heap.size (fun _ => True) (.slice mo bJ.length mq) bJ) := ⟨Kd.R_mono (Pre.R_sets sS_ (Kd.R_far (p := ⟨aJ, 24, none⟩) (Kd.R_types (Kd.R_types HO_103021.out aN.out Z27) aa.out Z27) (fun _ hk => hk.1.2) (.slice lN bp.length lO)) (fun _ hk => hk.2)) (fun _ hk => trivial)⟩; have bm : Aside0 (Kd.R k48 48 ot w.heap.size (fun _ => True) (.slice lN bp.length lO) bp) := ⟨Kd.R_mono (Pre.R_sets sS_ (Kd.R_far (p := ⟨aJ, 24, none⟩) (Kd.R_types (Kd.R_types hJ.out aN.out Z27) aa.out Z27) (fun _ hk => hk.1.2) (.slice lN bp.length lO)) (fun _ hk => hk.2)) (fun _ hk => trivial)⟩; have bI : Aside0 (ot.heap[ab]? = some (.cells #[.int .i64 5, .int .i64 0, .int .i64 0, .string ⟨#[]⟩, .int .i64 0, .int .i64 0, .string ⟨#[]⟩, .int .i64 0, .int .i64 0, .string ⟨#[]⟩, .int .i64 0, .string ⟨#[]⟩, .int .i64 0, .int .i64 0, .int .i64 0, .int .i64 (wrap64 (Int.tdiv (wrap64 (bt a0 1)) 128)), .int .i64 0, .int .i64 0, .int .i64 0, .string ⟨#[]⟩, .string ⟨#[]⟩, .slice mo bJ.length mq, .int .i64 0, .string ⟨#[]⟩, .slice lN bp.length lO] 25 (0, 0))) := ⟨hbS_⟩; have dU : Aside0 (ot.heap[aJ]? = some (.cells #[.int .i64 5, .int .i64 0, .int .i64 0, .string ⟨#[]⟩, .int .i64 0, .int .i64 0, .string ⟨#[]⟩, .int .i64 0, .int .i64 0, .string ⟨#[]⟩, .int .i64 0, .string ⟨#[]⟩, .int .i64 0, .int .i64 0, .int .i64 0, .int .i64 (wrap64 (Int.tdiv (wrap64 (bt a0 1)) 128)), .int .i64 0, .int .i64 0, .int .i64 0, .string ⟨#[]⟩, .string ⟨#[]⟩, .slice mo bJ.length mq, .int .i64 0, .string ⟨#[]⟩, .slice lN bp.length lO] 25 (0, 0))) := ⟨sS_.blk (by (with_reducible repeat (first | refine blk_drewN ?_ _ | refine blk_drew ?_ | refine blk_alloc ?_ _)); refine blk_put (cs := #[.int .i64 5, .int .i64 0, .int .i64 0, .string ⟨#[]⟩, .int .i64 0, .int .i64 0, .string ⟨#[]⟩, .int .i64 0, .int .i64 0, .string ⟨#[]⟩, .int .i64 0, .string ⟨#[]⟩, .int .i64 0, .int .i64 0, .int .i64 0, .int .i64 (wrap64 (Int.tdiv (wrap64 (bt a0 1)) 128)), .int .i64 0, .int .i64 0, .int .i64 0, .string ⟨#[]⟩, .string ⟨#[]⟩, .slice mo bJ.length mq, .int .i64 0, .string ⟨#[]⟩, .slice none 0 0]) ?_ 24 _ rfl; (with_reducible repeat (first | refine blk_drewN ?_ _ | refine blk_drew ?_ | refine blk_alloc ?_ _)); exact aN.out) bh.out⟩; have hL : Aside0 (Below w.heap.size w ot) := ⟨sS_.below Z8 bf.out⟩; clear hbS_ sS_; replace HO_103021 := bl; replace hJ := bm; replace aa := bI; replace aN := dU; replace HB := hL; clear bl bm bI dU hL))
               refine bodyPost_ret (results_ctt rfl _ _ ab 25 #[.int .i64 5, .int .i64 0, .int .i64 0, .string ⟨#[]⟩, .int .i64 0, .int .i64 0, .string ⟨#[]⟩, .int .i64 0, .int .i64 0, .string ⟨#[]⟩, .int .i64 0, .string ⟨#[]⟩, .int .i64 0, .int .i64 0, .int .i64 0, .int .i64 (wrap64 (Int.tdiv (wrap64 (bt a0 1)) 128)), .int .i64 0, .int .i64 0, .int .i64 0, .string ⟨#[]⟩, .string ⟨#[]⟩, .slice mo bJ.length mq, .int .i64 0, .string ⟨#[]⟩, .slice lN bp.length lO] (0, 0) _ rfl Z2 Try.underlying25 rfl Z14) rfl ?_
               exact ⟨_, _, Z105, Z45, by (with_reducible repeat (first | apply Kd.R_alloc | apply Kd.R_drewN | apply Kd.R_drew)); exact hJ.out, Z8⟩
              ·rw [if_neg jN] at H
               have oo : (ba == 0) = false := beq_eq_false_iff_ne.mpr jN
               have oq : (ba != 0) = true := bne_iff_ne.mpr jN
               simp only [Option.some.injEq, Prod.mk.injEq] at H
               obtain ⟨rfl, rfl, rfl, rfl, rfl, rfl, rfl, rfl, rfl, rfl, rfl, rfl, rfl, rfl, rfl, rfl, rfl, rfl, rfl, rfl, rfl, rfl, rfl, rfl, rfl, rfl, rfl⟩ := H
               go_wp2_with (first | ((with_reducible refine gate_dst (N := 46) rfl ?_); refine Pre.build_event 46 25 [(0, Go.Operand.const (Go.Value.int Go.IntKind.i64 5)), (15, Go.Operand.tmp 45)] rfl rfl rfl (roadbookref16_Get.bd46 _ _) ?_) | ((with_reducible refine Pre.gate_load 25 rfl ?_); (try (refine gate_guard Z22 ?_; dsimp only)); refine Pre.load_event rfl rfl rfl Z22 Z15 Try.underlying25 rfl Z14 ?_) | ((with_reducible refine gate_callee (f := 63) rfl ?_); refine goesL_ (some 81) rfl rfl Try.func63 Z14 rfl #[.string (a0.extract ((ji45) : Int).toNat a0.size)] rfl Z106 ?_; (with_reducible refine (roadbookref13_Get.calls k2 (a0.extract ((ji45) : Int).toNat a0.size) bp aQ ba _ tZ.out).mono ?_); rintro e sV ⟨pd, rfl, ho0, hb⟩; refine ⟨_, rfl, ?_⟩; have hJ := Aside0.mk (Kd.R_lower ho0 (below_size Z8)); replace HO_103021 := Aside0.mk (Kd.R_below Z45 hb); replace aa := Aside0.mk (blk_below (g := ab) Z2 hb); replace aN := Aside0.mk (blk_below (g := aJ) Z19 hb); replace HB := Aside0.mk (below_step Z8 hb); clear hb ho0; have qy := aW.out; have qz := bh.out; have qA := cells_25 aa.out) | ((with_reducible refine Pre.gate_store 25 rfl ?_); refine Pre.store_abs (cur := #[.int .i64 0, .int .i64 0, .int .i64 0, .string ⟨#[]⟩, .int .i64 0, .int .i64 0, .string ⟨#[]⟩, .int .i64 0, .int .i64 0, .string ⟨#[]⟩, .int .i64 0, .string ⟨#[]⟩, .int .i64 0, .int .i64 0, .int .i64 0, .int .i64 0, .int .i64 0, .int .i64 0, .int .i64 0, .string ⟨#[]⟩, .string ⟨#[]⟩, .slice none 0 0, .int .i64 0, .string ⟨#[]⟩, .slice none 0 0]) (e := 25) rfl rfl rfl Z22 Z22 Z2 Z14 Z22 Z22 ?_; intro qB hbS_ sS_; have bl : Aside0 (Kd.R k46 46 qB w.heap.size (fun _ => True) u103021 bJ) := ⟨Kd.R_mono (Pre.R_sets sS_ (Kd.R_types HO_103021.out aa.out Z27) (fun _ hk => hk.2)) (fun _ hk => trivial)⟩; have bm : Aside0 (Kd.R k48 48 qB w.heap.size (fun _ => True) pd bp) := ⟨Kd.R_mono (Pre.R_sets sS_ (Kd.R_types hJ.out aa.out Z27) (fun _ hk => hk.2)) (fun _ hk => trivial)⟩; have bI : Aside0 (qB.heap[ab]? = some (.cells #[.int .i64 0, .int .i64 0, .int .i64 0, .string ⟨#[]⟩, .int .i64 0, .int .i64 0, .string ⟨#[]⟩, .int .i64 0, .int .i64 0, .string ⟨#[]⟩, .int .i64 0, .string ⟨#[]⟩, .int .i64 0, .int .i64 0, .int .i64 0, .int .i64 0, .int .i64 0, .int .i64 0, .int .i64 0, .string ⟨#[]⟩, .string ⟨#[]⟩, .slice none 0 0, .int .i64 0, .string ⟨#[]⟩, .slice none 0 0] 25 (0, 0))) := ⟨hbS_⟩; have dU : Aside0 (qB.heap[aJ]? = some (.cells #[.int .i64 5, .int .i64 0, .int .i64 0, .string ⟨#[]⟩, .int .i64 0, .int .i64 0, .string ⟨#[]⟩, .int .i64 0, .int .i64 0, .string ⟨#[]⟩, .int .i64 0, .string ⟨#[]⟩, .int .i64 0, .int .i64 0, .int .i64 0, .int .i64 (wrap64 (Int.tdiv (wrap64 (bt a0 1)) 128)), .int .i64 0, .int .i64 0, .int .i64 0, .string ⟨#[]⟩, .string ⟨#[]⟩, u103021, .int .i64 0, .string ⟨#[]⟩, .slice none 0 0] 25 (0, 0))) := ⟨sS_.blk Z19 bh.out⟩; have hL : Aside0 (Below w.heap.size w qB) := ⟨sS_.below Z8 bf.out⟩; clear hbS_ sS_; replace HO_103021 := bl; replace hJ := bm; replace aa := bI; replace aN := dU; replace HB := hL; clear bl bm bI dU hL))
               refine bodyPost_ret (results_ctt rfl _ _ ab 25 #[.int .i64 0, .int .i64 0, .int .i64 0, .string ⟨#[]⟩, .int .i64 0, .int .i64 0, .string ⟨#[]⟩, .int .i64 0, .int .i64 0, .string ⟨#[]⟩, .int .i64 0, .string ⟨#[]⟩, .int .i64 0, .int .i64 0, .int .i64 0, .int .i64 0, .int .i64 0, .int .i64 0, .int .i64 0, .string ⟨#[]⟩, .string ⟨#[]⟩, .slice none 0 0, .int .i64 0, .string ⟨#[]⟩, .slice none 0 0] (0, 0) _ rfl Z2 Try.underlying25 rfl Z14) rfl ?_
               exact ⟨_, _, Z105, Z7, Z20, Z8⟩
             ·rw [if_neg mn] at H
              exact absurd H Z59
            ·rw [if_neg mc] at H
             exact absurd H Z59
        ·rw [if_neg dP] at H
         exact absurd H Z59
     ·rw [if_neg fa] at H
      exact absurd H Z59

end Go.Proofs.Ytccjakjjaemmkaa.PAP
