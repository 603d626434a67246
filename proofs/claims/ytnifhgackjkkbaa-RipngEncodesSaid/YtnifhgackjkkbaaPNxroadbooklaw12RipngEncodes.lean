-- Written by mp.py, a program of this work (wip/tools), out of the translation; Lean checks it.
import Derived.Test.YtnifhgackjkkbaaPNxZ
import Derived.Test.YtnifhgackjkkbaaPNxripngEncode
import Derived.Test.YtnifhgackjkkbaaPNxripngRight
import Derived.Test.YtnifhgackjkkbaaPNxroadbooklaw12awake
import Derived.Test.YtnifhgackjkkbaaPNxroadbookref07
import Derived.Test.YtnifhgackjkkbaaPNxroadbookref12Encode
import Derived.Test.YtnifhgackjkkbaaPNxroadbookref12Right
import Derived.Test.YtnifhgackjkkbaaLoad
namespace Go.Proofs.Ytnifhgackjkkbaa.PN
open Go.RowKit Go.Proofs.YtnifhgackjkkbaaW.PrintWords Go.Proofs.YtnifhgackjkkbaaW.PrintLast Go.Proofs.YtnifhgackjkkbaaW.PrintMore
attribute [local go_sem] max2_int min2_int max_two min_two max_three min_three max_four min_four   -- for this text's walks alone
set_option linter.unusedVariables false
set_option linter.unusedSimpArgs false

/-! ### roadbooklaw12_RipngEncodes: function 4 -/
def roadbooklaw12_RipngEncodes.l0 : Nat → List (S34) → Int → Option (Bool)
 | 0, _, _ => none
 | k + 1, x0, x3 => if x3 < (x0.length : Int) then (if 0 ≤ x3 then ((ripng_Right.f k ((rd_T34 x0 x3).f0) ((rd_T34 x0 x3).f1) ((rd_T34 x0 x3).f2) ((rd_T34 x0 x3).f3) ((rd_T34 x0 x3).f4) ((rd_T34 x0 x3).f5) ((rd_T34 x0 x3).f6) ((rd_T34 x0 x3).f7) ((rd_T34 x0 x3).f8) ((rd_T34 x0 x3).f9) ((rd_T34 x0 x3).f10) ((rd_T34 x0 x3).f11) ((rd_T34 x0 x3).f12) ((rd_T34 x0 x3).f13) ((rd_T34 x0 x3).f14) ((rd_T34 x0 x3).f15) ((rd_T34 x0 x3).f16) ((rd_T34 x0 x3).f17) ((rd_T34 x0 x3).f18) ((rd_T34 x0 x3).f19) ((rd_T34 x0 x3).f20) ((rd_T34 x0 x3).f21) ((rd_T34 x0 x3).f22) ((rd_T34 x0 x3).f23) ((rd_T34 x0 x3).f24)).bind fun aJ => ((roadbookref12_Right.f k ((rd_T34 x0 x3).f0) ((rd_T34 x0 x3).f1) ((rd_T34 x0 x3).f2) ((rd_T34 x0 x3).f3) ((rd_T34 x0 x3).f4) ((rd_T34 x0 x3).f5) ((rd_T34 x0 x3).f6) ((rd_T34 x0 x3).f7) ((rd_T34 x0 x3).f8) ((rd_T34 x0 x3).f9) ((rd_T34 x0 x3).f10) ((rd_T34 x0 x3).f11) ((rd_T34 x0 x3).f12) ((rd_T34 x0 x3).f13) ((rd_T34 x0 x3).f14) ((rd_T34 x0 x3).f15) ((rd_T34 x0 x3).f16) ((rd_T34 x0 x3).f17) ((rd_T34 x0 x3).f18) ((rd_T34 x0 x3).f19) ((rd_T34 x0 x3).f20) ((rd_T34 x0 x3).f21) ((rd_T34 x0 x3).f22) ((rd_T34 x0 x3).f23) ((rd_T34 x0 x3).f24)).bind fun cI => (if (aJ != cI) = true then (some false) else (roadbooklaw12_RipngEncodes.l0 k x0 (wrap64 (x3 + 1)))))) else (none)) else ((ripng_Encode.f k x0).bind fun bt107 => ((roadbookref12_Encode.f k x0).bind fun bt110 => ((roadbooklaw12_awake.f k).bind fun t113 => (if t113 = true then (if bt107.1.toList = bt110.1.toList then (if bt107.2.1 = bt110.2.1 then (some (bt107.2.2 == bt110.2.2)) else (some false)) else (some false)) else (some false)))))
def roadbooklaw12_RipngEncodes.f (k : Nat) (l0 : List (S34)) : Option (Bool) := (roadbookref07_FewAll.f k l0 40).bind fun aM => (if aM = true then (roadbooklaw12_RipngEncodes.l0 k l0 0) else ((roadbooklaw12_awake.f k).bind fun aI => (some aI)))
theorem roadbooklaw12_RipngEncodes.mono_l : ∀ k, (∀ y0 y1, LeO (roadbooklaw12_RipngEncodes.l0 k y0 y1) (roadbooklaw12_RipngEncodes.l0 (k + 1) y0 y1))
 | 0 => Sq.mz
 | k + 1 => by
  have ih0 := roadbooklaw12_RipngEncodes.mono_l k
  ·intro y0 y1
   unfold roadbooklaw12_RipngEncodes.l0
   repeat' first
   | (with_reducible exact ih0 _ _)
   | (with_reducible exact ripng_Encode.mono _ _)
   | (with_reducible exact ripng_Right.mono _ _ _ _ _ _ _ _ _ _ _ _ _ _ _ _ _ _ _ _ _ _ _ _ _ _)
   | (with_reducible exact roadbooklaw12_awake.mono _)
   | (with_reducible exact roadbookref07_FewAll.mono _ _ _)
   | (with_reducible exact roadbookref12_Encode.mono _ _)
   | (with_reducible exact roadbookref12_Right.mono _ _ _ _ _ _ _ _ _ _ _ _ _ _ _ _ _ _ _ _ _ _ _ _ _ _)
   | (with_reducible exact LeO.refl _)
   | (with_reducible exact LeO.none _)
   | (with_reducible refine LeO.ite ?_ ?_)
   | (with_reducible refine LeO.bind ?_ (fun _ => ?_))
   | exact ih0 _ _
   | exact ripng_Encode.mono _ _
   | exact ripng_Right.mono _ _ _ _ _ _ _ _ _ _ _ _ _ _ _ _ _ _ _ _ _ _ _ _ _ _
   | exact roadbooklaw12_awake.mono _
   | exact roadbookref07_FewAll.mono _ _ _
   | exact roadbookref12_Encode.mono _ _
   | exact roadbookref12_Right.mono _ _ _ _ _ _ _ _ _ _ _ _ _ _ _ _ _ _ _ _ _ _ _ _ _ _
   | exact LeO.none _
   | refine LeO.ite ?_ ?_
   | refine LeO.bind ?_ (fun _ => ?_)
theorem roadbooklaw12_RipngEncodes.mono : ∀ a0 k, LeO (roadbooklaw12_RipngEncodes.f k a0) (roadbooklaw12_RipngEncodes.f (k + 1) a0) := by
 intro a0 k
 have ih0 := roadbooklaw12_RipngEncodes.mono_l k
 unfold roadbooklaw12_RipngEncodes.f
 repeat' first
   | (with_reducible exact ih0 _ _)
   | (with_reducible exact ripng_Encode.mono _ _)
   | (with_reducible exact ripng_Right.mono _ _ _ _ _ _ _ _ _ _ _ _ _ _ _ _ _ _ _ _ _ _ _ _ _ _)
   | (with_reducible exact roadbooklaw12_awake.mono _)
   | (with_reducible exact roadbookref07_FewAll.mono _ _ _)
   | (with_reducible exact roadbookref12_Encode.mono _ _)
   | (with_reducible exact roadbookref12_Right.mono _ _ _ _ _ _ _ _ _ _ _ _ _ _ _ _ _ _ _ _ _ _ _ _ _ _)
   | (with_reducible exact LeO.refl _)
   | (with_reducible exact LeO.none _)
   | (with_reducible refine LeO.ite ?_ ?_)
   | (with_reducible refine LeO.bind ?_ (fun _ => ?_))
   | exact ih0 _ _
   | exact ripng_Encode.mono _ _
   | exact ripng_Right.mono _ _ _ _ _ _ _ _ _ _ _ _ _ _ _ _ _ _ _ _ _ _ _ _ _ _
   | exact roadbooklaw12_awake.mono _
   | exact roadbookref07_FewAll.mono _ _ _
   | exact roadbookref12_Encode.mono _ _
   | exact roadbookref12_Right.mono _ _ _ _ _ _ _ _ _ _ _ _ _ _ _ _ _ _ _ _ _ _ _ _ _ _
   | exact LeO.none _
   | refine LeO.ite ?_ ?_
   | refine LeO.bind ?_ (fun _ => ?_)
def roadbooklaw12_RipngEncodes.T6 : Bool × List (List Nat × List Nat) := (true, [([], []), ([], []), ([0, 1], [0, 1]), ([2], [2]), ([3], [3]), ([], []), ([], []), ([5, 6], [5, 6]), ([7], [7]), ([8, 4], [8]), ([4, 9], [4, 9])])
def roadbooklaw12_RipngEncodes.B6 : List Nat := [0, 0, 3, 7, 15, 0, 0, 96, 224, 511, 1023]
theorem roadbooklaw12_RipngEncodes.tab6 : rtab .any (opsOf Try.f4 6) = roadbooklaw12_RipngEncodes.T6 := by kernel_rfl
theorem roadbooklaw12_RipngEncodes.bits6 : waitsOk roadbooklaw12_RipngEncodes.T6.2 roadbooklaw12_RipngEncodes.B6 = true := by kernel_rfl

set_option maxHeartbeats 8000000 in
set_option maxRecDepth 100000 in
theorem roadbooklaw12_RipngEncodes.calls (k : Nat) (A0 : Option Addr) (c0 : Nat) (l0 : List (S34)) (r : Bool) (w : World) (fO : Kd.C k34 w A0 l0.length l0) (dY : l0.length ≤ c0) (hr_ : Aside0 (r = true)) (h : roadbooklaw12_RipngEncodes.f k l0 = some r) :
  Calls Try.prog 4 #[.slice A0 l0.length c0] w fun e w' => e = .returned (.bool r) ∧ Below w.heap.size w w' := by
 have fu := Try.underlying34
 have fR := Aside0.mk fO
 have jD := Aside0.mk dY
 clear fO dY
 have HB := Aside0.mk (Below.refl w.heap.size w)
 have H : ((roadbookref07_FewAll.f k l0 40).bind fun aM => (if aM = true then (roadbooklaw12_RipngEncodes.l0 k l0 0) else ((roadbooklaw12_awake.f k).bind fun aI => (some aI)))) = some r := h
 clear h
 replace H := Option.bind_eq_some_iff.mp H
 obtain ⟨aM, A20, H⟩ := H
 replace H : (if aM = true then (roadbooklaw12_RipngEncodes.l0 k l0 0) else ((roadbooklaw12_awake.f k).bind fun aI => (some aI))) = some r := H
 have A2 := Aside0.mk A20
 clear A20
 by_cases c3 : aM = true
 ·subst c3
  replace H := Sq.itT H
  have H' := Aside0.mk H
  clear H
  go_enter Try.func4, Try.ntmps4
  go_wp2_with (first | ((with_reducible refine Pre.gate_load 34 rfl ?_); (try (refine gate_guard Z27 ?_; dsimp only)); refine Pre.load_event_a rfl rfl rfl Z27 Pre.range25 Try.underlying34 rfl Z16 ?_) | ((with_reducible refine gate_callee (f := 11) rfl ?_); refine goesL_ (some 11) rfl rfl Try.func11 Z16 rfl #[.slice A0 l0.length c0, .int .i64 40] rfl Z4 ?_; (with_reducible refine (roadbookref07_FewAll.calls k _ _ l0 40 true _ ?side1 ?side2 A2.out).mono ?_); (case side1 => exact (by repeat (first | exact fR.out | (with_reducible refine Kd.C_alloc ?_ _) | (with_reducible refine Kd.C_drewN ?_ _) | (with_reducible refine Kd.C_drew ?_)))); (case side2 => exact jD.out); rintro e w4 ⟨rfl, hb⟩; refine ⟨_, rfl, ?_⟩; replace HB := Aside0.mk (below_step Z0 hb); clear hb))
  go_loopg [3] k (fun kq v3 w' => ∃ (ec : Int), v3 = .int .i64 ec ∧ Aside0 (roadbooklaw12_RipngEncodes.l0 kq l0 ec = some r) ∧ Aside0 (kq ≤ k) ∧ Aside0 (Below w.heap.size w w'))
  case atStart => exact ⟨(0), Z7, H', ⟨Nat.le_refl _⟩, ⟨Z0⟩⟩
  case round =>
   clear H'
   try clear c1
   try clear p2
   try clear c3
   try clear c4
   obtain ⟨ec, rfl, HA, HK1, HB⟩ := hrel
   cases gk with
   | zero => exact absurd HA.out (by simp [roadbooklaw12_RipngEncodes.l0])
   | succ k1 =>
    have H := HA.out
    clear HA
    simp only [roadbooklaw12_RipngEncodes.l0] at H
    by_cases c5 : ec < (l0.length : Int)
    ·rw [if_pos c5] at H
     have cY : decide (ec < (l0.length : Int)) = true := decide_eq_true c5
     clear c5
     by_cases c6 : 0 ≤ ec
     ·rw [if_pos c6] at H
      have fc : decide (0 ≤ ec) = true := decide_eq_true c6
      clear c6
      replace H := Option.bind_eq_some_iff.mp H
      obtain ⟨aJ, fy, H⟩ := H
      replace H : ((roadbookref12_Right.f k1 ((rd_T34 l0 ec).f0) ((rd_T34 l0 ec).f1) ((rd_T34 l0 ec).f2) ((rd_T34 l0 ec).f3) ((rd_T34 l0 ec).f4) ((rd_T34 l0 ec).f5) ((rd_T34 l0 ec).f6) ((rd_T34 l0 ec).f7) ((rd_T34 l0 ec).f8) ((rd_T34 l0 ec).f9) ((rd_T34 l0 ec).f10) ((rd_T34 l0 ec).f11) ((rd_T34 l0 ec).f12) ((rd_T34 l0 ec).f13) ((rd_T34 l0 ec).f14) ((rd_T34 l0 ec).f15) ((rd_T34 l0 ec).f16) ((rd_T34 l0 ec).f17) ((rd_T34 l0 ec).f18) ((rd_T34 l0 ec).f19) ((rd_T34 l0 ec).f20) ((rd_T34 l0 ec).f21) ((rd_T34 l0 ec).f22) ((rd_T34 l0 ec).f23) ((rd_T34 l0 ec).f24)).bind fun cI => (if (aJ != cI) = true then (some false) else (roadbooklaw12_RipngEncodes.l0 k1 l0 (wrap64 (ec + 1))))) = some r := H
      have A7 := Aside0.mk fy
      clear fy
      replace H := Option.bind_eq_some_iff.mp H
      obtain ⟨cI, jI, H⟩ := H
      replace H : (if (aJ != cI) = true then (some false) else (roadbooklaw12_RipngEncodes.l0 k1 l0 (wrap64 (ec + 1)))) = some r := H
      have A8 := Aside0.mk jI
      clear jI
      by_cases c9 : (aJ != cI) = true
      ·rw [if_pos c9] at H
       have ha : (aJ != cI) = true := c9
       (try (have c9b1 : decide (aJ = cI) = false := by simpa using c9))
       (try (have c9b2 : (aJ == cI) = false := by simpa using c9))
       (try (have c9b3 : ¬ (aJ = cI) := by simpa using c9))
       clear c9
       exact absurd (Option.some.inj H) (by rw [hr_.out]; exact Bool.false_ne_true)
      ·rw [if_neg c9] at H
       have ha : (aJ != cI) = false := by first | exact Bool.eq_false_iff.mpr c9 | simpa using c9
       (try (have c9b1 : decide (aJ = cI) = true := by simpa using c9))
       (try (have c9b2 : (aJ == cI) = true := by simpa using c9))
       clear c9
       have H' := Aside0.mk H
       clear H
       try go_wp2_with (first | ((with_reducible refine Pre.gate_load 34 rfl ?_); (try (refine gate_guard Z27 ?_; dsimp only)); refine Pre.load_event_a rfl rfl rfl Z27 Pre.range25 Try.underlying34 rfl Z16 ?_))
       have cQ := Aside0.mk (below_drew1 HB.out)
       clear HB
       have HB := cQ
       clear cQ
       have p103 : 0 ≤ (ec : Int) := of_decide_eq_true Z5
       have q103 : ec < (l0.length : Int) := of_decide_eq_true Z5
       obtain ⟨ad103, A103_21, c103_21, A103_24, c103_24, e103, hx103_0, hx103_1, hx103_2, hx103_3, hx103_4, hx103_5, hx103_6, hx103_7, hx103_8, hx103_9, hx103_10, hx103_11, hx103_12, hx103_13, hx103_14, hx103_15, hx103_16, hx103_17, hx103_18, hx103_19, hx103_20, hx103_21, hx103_22, hx103_23, hx103_24, hl103_21, hi103_21, hl103_24, hi103_24⟩ := at_T34 fR.out ec p103 q103
       have hw103_24 := hx103_24
       have hw103_23 := hx103_23
       have hw103_22 := hx103_22
       have hw103_21 := hx103_21
       have hw103_20 := hx103_20
       have hw103_19 := hx103_19
       have hw103_18 := hx103_18
       have hw103_17 := hx103_17
       have hw103_16 := hx103_16
       have hw103_15 := hx103_15
       have hw103_14 := hx103_14
       have hw103_13 := hx103_13
       have hw103_12 := hx103_12
       have hw103_11 := hx103_11
       have hw103_10 := hx103_10
       have hw103_9 := hx103_9
       have hw103_8 := hx103_8
       have hw103_7 := hx103_7
       have hw103_6 := hx103_6
       have hw103_5 := hx103_5
       have hw103_4 := hx103_4
       have hw103_3 := hx103_3
       have hw103_2 := hx103_2
       have hw103_1 := hx103_1
       have hw103_0 := hx103_0
       cases e103
       replace hx103_0 := Sq.up HB.out hx103_0
       replace hx103_1 := Sq.up HB.out hx103_1
       replace hx103_2 := Sq.up HB.out hx103_2
       replace hx103_3 := Sq.up HB.out hx103_3
       replace hx103_4 := Sq.up HB.out hx103_4
       replace hx103_5 := Sq.up HB.out hx103_5
       replace hx103_6 := Sq.up HB.out hx103_6
       replace hx103_7 := Sq.up HB.out hx103_7
       replace hx103_8 := Sq.up HB.out hx103_8
       replace hx103_9 := Sq.up HB.out hx103_9
       replace hx103_10 := Sq.up HB.out hx103_10
       replace hx103_11 := Sq.up HB.out hx103_11
       replace hx103_12 := Sq.up HB.out hx103_12
       replace hx103_13 := Sq.up HB.out hx103_13
       replace hx103_14 := Sq.up HB.out hx103_14
       replace hx103_15 := Sq.up HB.out hx103_15
       replace hx103_16 := Sq.up HB.out hx103_16
       replace hx103_17 := Sq.up HB.out hx103_17
       replace hx103_18 := Sq.up HB.out hx103_18
       replace hx103_19 := Sq.up HB.out hx103_19
       replace hx103_20 := Sq.up HB.out hx103_20
       replace hx103_21 := Sq.up HB.out hx103_21
       replace hx103_22 := Sq.up HB.out hx103_22
       replace hx103_23 := Sq.up HB.out hx103_23
       replace hx103_24 := Sq.up HB.out hx103_24
       have HR103_21 := Aside0.mk hi103_21
       have HC103_21 := Aside0.mk hl103_21
       clear hi103_21 hl103_21
       have HR103_24 := Aside0.mk hi103_24
       have HC103_24 := Aside0.mk hl103_24
       clear hi103_24 hl103_24
       replace p103 := eq_true p103
       replace q103 := eq_true q103
       have p105 : 0 ≤ (ec : Int) := of_decide_eq_true Z5
       have q105 : ec < (l0.length : Int) := of_decide_eq_true Z5
       obtain ⟨ad105, A105_21, c105_21, A105_24, c105_24, e105, hx105_0, hx105_1, hx105_2, hx105_3, hx105_4, hx105_5, hx105_6, hx105_7, hx105_8, hx105_9, hx105_10, hx105_11, hx105_12, hx105_13, hx105_14, hx105_15, hx105_16, hx105_17, hx105_18, hx105_19, hx105_20, hx105_21, hx105_22, hx105_23, hx105_24, hl105_21, hi105_21, hl105_24, hi105_24⟩ := at_T34 fR.out ec p105 q105
       have hw105_24 := hx105_24
       have hw105_23 := hx105_23
       have hw105_22 := hx105_22
       have hw105_21 := hx105_21
       have hw105_20 := hx105_20
       have hw105_19 := hx105_19
       have hw105_18 := hx105_18
       have hw105_17 := hx105_17
       have hw105_16 := hx105_16
       have hw105_15 := hx105_15
       have hw105_14 := hx105_14
       have hw105_13 := hx105_13
       have hw105_12 := hx105_12
       have hw105_11 := hx105_11
       have hw105_10 := hx105_10
       have hw105_9 := hx105_9
       have hw105_8 := hx105_8
       have hw105_7 := hx105_7
       have hw105_6 := hx105_6
       have hw105_5 := hx105_5
       have hw105_4 := hx105_4
       have hw105_3 := hx105_3
       have hw105_2 := hx105_2
       have hw105_1 := hx105_1
       have hw105_0 := hx105_0
       obtain rfl : ad103 = ad105 := (by injection e105)
       replace hx105_0 := Sq.up HB.out hx105_0
       replace hx105_1 := Sq.up HB.out hx105_1
       replace hx105_2 := Sq.up HB.out hx105_2
       replace hx105_3 := Sq.up HB.out hx105_3
       replace hx105_4 := Sq.up HB.out hx105_4
       replace hx105_5 := Sq.up HB.out hx105_5
       replace hx105_6 := Sq.up HB.out hx105_6
       replace hx105_7 := Sq.up HB.out hx105_7
       replace hx105_8 := Sq.up HB.out hx105_8
       replace hx105_9 := Sq.up HB.out hx105_9
       replace hx105_10 := Sq.up HB.out hx105_10
       replace hx105_11 := Sq.up HB.out hx105_11
       replace hx105_12 := Sq.up HB.out hx105_12
       replace hx105_13 := Sq.up HB.out hx105_13
       replace hx105_14 := Sq.up HB.out hx105_14
       replace hx105_15 := Sq.up HB.out hx105_15
       replace hx105_16 := Sq.up HB.out hx105_16
       replace hx105_17 := Sq.up HB.out hx105_17
       replace hx105_18 := Sq.up HB.out hx105_18
       replace hx105_19 := Sq.up HB.out hx105_19
       replace hx105_20 := Sq.up HB.out hx105_20
       replace hx105_21 := Sq.up HB.out hx105_21
       replace hx105_22 := Sq.up HB.out hx105_22
       replace hx105_23 := Sq.up HB.out hx105_23
       replace hx105_24 := Sq.up HB.out hx105_24
       have HR105_21 := Aside0.mk hi105_21
       have HC105_21 := Aside0.mk hl105_21
       clear hi105_21 hl105_21
       have HR105_24 := Aside0.mk hi105_24
       have HC105_24 := Aside0.mk hl105_24
       clear hi105_24 hl105_24
       replace p105 := eq_true p105
       replace q105 := eq_true q105
       have ea_ := Option.some.inj (hx103_21.symm.trans hx105_21)
       injection ea_ with ea_ en_ ec_
       subst ea_
       subst ec_
       clear en_
       have ea_ := Option.some.inj (hx103_24.symm.trans hx105_24)
       injection ea_ with ea_ en_ ec_
       subst ea_
       subst ec_
       clear en_
       refine start_ (n := 11) (S := fun w' => w'.cell? (ad103.add ((ec).toNat * 25)) = some (.int .i64 ((rd_T34 l0 ec).f0)) ∧ w'.cell? ⟨(ad103.add ((ec).toNat * 25)).block, (ad103.add ((ec).toNat * 25)).off + 1, none⟩ = some (.int .i64 ((rd_T34 l0 ec).f1)) ∧ w'.cell? ⟨(ad103.add ((ec).toNat * 25)).block, (ad103.add ((ec).toNat * 25)).off + 2, none⟩ = some (.int .i64 ((rd_T34 l0 ec).f2)) ∧ w'.cell? ⟨(ad103.add ((ec).toNat * 25)).block, (ad103.add ((ec).toNat * 25)).off + 3, none⟩ = some (.string ((rd_T34 l0 ec).f3)) ∧ w'.cell? ⟨(ad103.add ((ec).toNat * 25)).block, (ad103.add ((ec).toNat * 25)).off + 4, none⟩ = some (.int .i64 ((rd_T34 l0 ec).f4)) ∧ w'.cell? ⟨(ad103.add ((ec).toNat * 25)).block, (ad103.add ((ec).toNat * 25)).off + 5, none⟩ = some (.int .i64 ((rd_T34 l0 ec).f5)) ∧ w'.cell? ⟨(ad103.add ((ec).toNat * 25)).block, (ad103.add ((ec).toNat * 25)).off + 6, none⟩ = some (.string ((rd_T34 l0 ec).f6)) ∧ w'.cell? ⟨(ad103.add ((ec).toNat * 25)).block, (ad103.add ((ec).toNat * 25)).off + 7, none⟩ = some (.int .i64 ((rd_T34 l0 ec).f7)) ∧ w'.cell? ⟨(ad103.add ((ec).toNat * 25)).block, (ad103.add ((ec).toNat * 25)).off + 8, none⟩ = some (.int .i64 ((rd_T34 l0 ec).f8)) ∧ w'.cell? ⟨(ad103.add ((ec).toNat * 25)).block, (ad103.add ((ec).toNat * 25)).off + 9, none⟩ = some (.string ((rd_T34 l0 ec).f9)) ∧ w'.cell? ⟨(ad103.add ((ec).toNat * 25)).block, (ad103.add ((ec).toNat * 25)).off + 10, none⟩ = some (.int .i64 ((rd_T34 l0 ec).f10)) ∧ w'.cell? ⟨(ad103.add ((ec).toNat * 25)).block, (ad103.add ((ec).toNat * 25)).off + 11, none⟩ = some (.string ((rd_T34 l0 ec).f11)) ∧ w'.cell? ⟨(ad103.add ((ec).toNat * 25)).block, (ad103.add ((ec).toNat * 25)).off + 12, none⟩ = some (.int .i64 ((rd_T34 l0 ec).f12)) ∧ w'.cell? ⟨(ad103.add ((ec).toNat * 25)).block, (ad103.add ((ec).toNat * 25)).off + 13, none⟩ = some (.int .i64 ((rd_T34 l0 ec).f13)) ∧ w'.cell? ⟨(ad103.add ((ec).toNat * 25)).block, (ad103.add ((ec).toNat * 25)).off + 14, none⟩ = some (.int .i64 ((rd_T34 l0 ec).f14)) ∧ w'.cell? ⟨(ad103.add ((ec).toNat * 25)).block, (ad103.add ((ec).toNat * 25)).off + 15, none⟩ = some (.int .i64 ((rd_T34 l0 ec).f15)) ∧ w'.cell? ⟨(ad103.add ((ec).toNat * 25)).block, (ad103.add ((ec).toNat * 25)).off + 16, none⟩ = some (.int .i64 ((rd_T34 l0 ec).f16)) ∧ w'.cell? ⟨(ad103.add ((ec).toNat * 25)).block, (ad103.add ((ec).toNat * 25)).off + 17, none⟩ = some (.int .i64 ((rd_T34 l0 ec).f17)) ∧ w'.cell? ⟨(ad103.add ((ec).toNat * 25)).block, (ad103.add ((ec).toNat * 25)).off + 18, none⟩ = some (.int .i64 ((rd_T34 l0 ec).f18)) ∧ w'.cell? ⟨(ad103.add ((ec).toNat * 25)).block, (ad103.add ((ec).toNat * 25)).off + 19, none⟩ = some (.string ((rd_T34 l0 ec).f19)) ∧ w'.cell? ⟨(ad103.add ((ec).toNat * 25)).block, (ad103.add ((ec).toNat * 25)).off + 20, none⟩ = some (.string ((rd_T34 l0 ec).f20)) ∧ w'.cell? ⟨(ad103.add ((ec).toNat * 25)).block, (ad103.add ((ec).toNat * 25)).off + 21, none⟩ = some (.slice A103_21 ((rd_T34 l0 ec).f21).length c103_21) ∧ w'.cell? ⟨(ad103.add ((ec).toNat * 25)).block, (ad103.add ((ec).toNat * 25)).off + 22, none⟩ = some (.int .i64 ((rd_T34 l0 ec).f22)) ∧ w'.cell? ⟨(ad103.add ((ec).toNat * 25)).block, (ad103.add ((ec).toNat * 25)).off + 23, none⟩ = some (.string ((rd_T34 l0 ec).f23)) ∧ w'.cell? ⟨(ad103.add ((ec).toNat * 25)).block, (ad103.add ((ec).toNat * 25)).off + 24, none⟩ = some (.slice A103_24 ((rd_T34 l0 ec).f24).length c103_24) ∧ w'.cell? (ad103.add ((ec).toNat * 25)) = some (.int .i64 ((rd_T34 l0 ec).f0)) ∧ w'.cell? ⟨(ad103.add ((ec).toNat * 25)).block, (ad103.add ((ec).toNat * 25)).off + 1, none⟩ = some (.int .i64 ((rd_T34 l0 ec).f1)) ∧ w'.cell? ⟨(ad103.add ((ec).toNat * 25)).block, (ad103.add ((ec).toNat * 25)).off + 2, none⟩ = some (.int .i64 ((rd_T34 l0 ec).f2)) ∧ w'.cell? ⟨(ad103.add ((ec).toNat * 25)).block, (ad103.add ((ec).toNat * 25)).off + 3, none⟩ = some (.string ((rd_T34 l0 ec).f3)) ∧ w'.cell? ⟨(ad103.add ((ec).toNat * 25)).block, (ad103.add ((ec).toNat * 25)).off + 4, none⟩ = some (.int .i64 ((rd_T34 l0 ec).f4)) ∧ w'.cell? ⟨(ad103.add ((ec).toNat * 25)).block, (ad103.add ((ec).toNat * 25)).off + 5, none⟩ = some (.int .i64 ((rd_T34 l0 ec).f5)) ∧ w'.cell? ⟨(ad103.add ((ec).toNat * 25)).block, (ad103.add ((ec).toNat * 25)).off + 6, none⟩ = some (.string ((rd_T34 l0 ec).f6)) ∧ w'.cell? ⟨(ad103.add ((ec).toNat * 25)).block, (ad103.add ((ec).toNat * 25)).off + 7, none⟩ = some (.int .i64 ((rd_T34 l0 ec).f7)) ∧ w'.cell? ⟨(ad103.add ((ec).toNat * 25)).block, (ad103.add ((ec).toNat * 25)).off + 8, none⟩ = some (.int .i64 ((rd_T34 l0 ec).f8)) ∧ w'.cell? ⟨(ad103.add ((ec).toNat * 25)).block, (ad103.add ((ec).toNat * 25)).off + 9, none⟩ = some (.string ((rd_T34 l0 ec).f9)) ∧ w'.cell? ⟨(ad103.add ((ec).toNat * 25)).block, (ad103.add ((ec).toNat * 25)).off + 10, none⟩ = some (.int .i64 ((rd_T34 l0 ec).f10)) ∧ w'.cell? ⟨(ad103.add ((ec).toNat * 25)).block, (ad103.add ((ec).toNat * 25)).off + 11, none⟩ = some (.string ((rd_T34 l0 ec).f11)) ∧ w'.cell? ⟨(ad103.add ((ec).toNat * 25)).block, (ad103.add ((ec).toNat * 25)).off + 12, none⟩ = some (.int .i64 ((rd_T34 l0 ec).f12)) ∧ w'.cell? ⟨(ad103.add ((ec).toNat * 25)).block, (ad103.add ((ec).toNat * 25)).off + 13, none⟩ = some (.int .i64 ((rd_T34 l0 ec).f13)) ∧ w'.cell? ⟨(ad103.add ((ec).toNat * 25)).block, (ad103.add ((ec).toNat * 25)).off + 14, none⟩ = some (.int .i64 ((rd_T34 l0 ec).f14)) ∧ w'.cell? ⟨(ad103.add ((ec).toNat * 25)).block, (ad103.add ((ec).toNat * 25)).off + 15, none⟩ = some (.int .i64 ((rd_T34 l0 ec).f15)) ∧ w'.cell? ⟨(ad103.add ((ec).toNat * 25)).block, (ad103.add ((ec).toNat * 25)).off + 16, none⟩ = some (.int .i64 ((rd_T34 l0 ec).f16)) ∧ w'.cell? ⟨(ad103.add ((ec).toNat * 25)).block, (ad103.add ((ec).toNat * 25)).off + 17, none⟩ = some (.int .i64 ((rd_T34 l0 ec).f17)) ∧ w'.cell? ⟨(ad103.add ((ec).toNat * 25)).block, (ad103.add ((ec).toNat * 25)).off + 18, none⟩ = some (.int .i64 ((rd_T34 l0 ec).f18)) ∧ w'.cell? ⟨(ad103.add ((ec).toNat * 25)).block, (ad103.add ((ec).toNat * 25)).off + 19, none⟩ = some (.string ((rd_T34 l0 ec).f19)) ∧ w'.cell? ⟨(ad103.add ((ec).toNat * 25)).block, (ad103.add ((ec).toNat * 25)).off + 20, none⟩ = some (.string ((rd_T34 l0 ec).f20)) ∧ w'.cell? ⟨(ad103.add ((ec).toNat * 25)).block, (ad103.add ((ec).toNat * 25)).off + 21, none⟩ = some (.slice A103_21 ((rd_T34 l0 ec).f21).length c103_21) ∧ w'.cell? ⟨(ad103.add ((ec).toNat * 25)).block, (ad103.add ((ec).toNat * 25)).off + 22, none⟩ = some (.int .i64 ((rd_T34 l0 ec).f22)) ∧ w'.cell? ⟨(ad103.add ((ec).toNat * 25)).block, (ad103.add ((ec).toNat * 25)).off + 23, none⟩ = some (.string ((rd_T34 l0 ec).f23)) ∧ w'.cell? ⟨(ad103.add ((ec).toNat * 25)).block, (ad103.add ((ec).toNat * 25)).off + 24, none⟩ = some (.slice A103_24 ((rd_T34 l0 ec).f24).length c103_24)) (ds := []) (Sq.b 11 0) Z16 rfl rfl ⟨(Sq.up HB.out hw103_0), (Sq.up HB.out hw103_1), (Sq.up HB.out hw103_2), (Sq.up HB.out hw103_3), (Sq.up HB.out hw103_4), (Sq.up HB.out hw103_5), (Sq.up HB.out hw103_6), (Sq.up HB.out hw103_7), (Sq.up HB.out hw103_8), (Sq.up HB.out hw103_9), (Sq.up HB.out hw103_10), (Sq.up HB.out hw103_11), (Sq.up HB.out hw103_12), (Sq.up HB.out hw103_13), (Sq.up HB.out hw103_14), (Sq.up HB.out hw103_15), (Sq.up HB.out hw103_16), (Sq.up HB.out hw103_17), (Sq.up HB.out hw103_18), (Sq.up HB.out hw103_19), (Sq.up HB.out hw103_20), (Sq.up HB.out hw103_21), (Sq.up HB.out hw103_22), (Sq.up HB.out hw103_23), (Sq.up HB.out hw103_24), (Sq.up HB.out hw105_0), (Sq.up HB.out hw105_1), (Sq.up HB.out hw105_2), (Sq.up HB.out hw105_3), (Sq.up HB.out hw105_4), (Sq.up HB.out hw105_5), (Sq.up HB.out hw105_6), (Sq.up HB.out hw105_7), (Sq.up HB.out hw105_8), (Sq.up HB.out hw105_9), (Sq.up HB.out hw105_10), (Sq.up HB.out hw105_11), (Sq.up HB.out hw105_12), (Sq.up HB.out hw105_13), (Sq.up HB.out hw105_14), (Sq.up HB.out hw105_15), (Sq.up HB.out hw105_16), (Sq.up HB.out hw105_17), (Sq.up HB.out hw105_18), (Sq.up HB.out hw105_19), (Sq.up HB.out hw105_20), (Sq.up HB.out hw105_21), (Sq.up HB.out hw105_22), (Sq.up HB.out hw105_23), (Sq.up HB.out hw105_24)⟩ (fun hHeld => ?_); refine with_tabW roadbooklaw12_RipngEncodes.tab6 roadbooklaw12_RipngEncodes.bits6 (fun HT_ HW_ => ?_)
       generalize wr.drew = jH at HB HR103_21 HR103_24 HR105_21 HR105_24 hx103_0 hx103_1 hx103_10 hx103_11 hx103_12 hx103_13 hx103_14 hx103_15 hx103_16 hx103_17 hx103_18 hx103_19 hx103_2 hx103_20 hx103_21 hx103_22 hx103_23 hx103_24 hx103_3 hx103_4 hx103_5 hx103_6 hx103_7 hx103_8 hx103_9 hx105_0 hx105_1 hx105_10 hx105_11 hx105_12 hx105_13 hx105_14 hx105_15 hx105_16 hx105_17 hx105_18 hx105_19 hx105_2 hx105_20 hx105_21 hx105_22 hx105_23 hx105_24 hx105_3 hx105_4 hx105_5 hx105_6 hx105_7 hx105_8 hx105_9 hHeld ⊢
       refine Sq.pur 0 (some 20) (Sq.b 11 1) HT_.out ?_
       refine Sq.pur 1 (some 21) (Sq.b 11 3) HT_.out ?_
       refine Sq.pur 2 (some 22) (Sq.b 11 7) HT_.out ?_
       refine Sq.pur 5 (some 25) (Sq.b 11 39) HT_.out ?_
       refine Sq.pur 6 (some 26) (Sq.b 11 103) HT_.out ?_
       refine Sq.pur 7 (some 27) (Sq.b 11 231) HT_.out ?_
       refine Sq.tak 3 (some 23) (Sq.b 11 239) HT_.out HW_.out hHeld (v := ?_) (a' := ?_) ?_ ?_ ?_
       rotate_left
       ·rintro w' ⟨s0, s1, s2, s3, s4, s5, s6, s7, s8, s9, s10, s11, s12, s13, s14, s15, s16, s17, s18, s19, s20, s21, s22, s23, s24, s25, s26, s27, s28, s29, s30, s31, s32, s33, s34, s35, s36, s37, s38, s39, s40, s41, s42, s43, s44, s45, s46, s47, s48, s49⟩
        first | (refine Eq.trans (Pre.load_run (ty := 34) rfl Z27 (by with_reducible assumption) Try.underlying34 rfl Z16) ?_; with_reducible rfl) | (refine Eq.trans (Pre.load_run_a (ty := 34) rfl Z27 Pre.range25 Try.underlying34 rfl Z16) ?_; with_reducible rfl) | (go_simp; with_reducible rfl)
       rotate_left
       ·simp only [Act.put, Sq.s1, Sq.s2, Sq.s3, i64_w, i32_w]
        rfl
       refine Sq.tak 8 (some 28) (Sq.b 11 495) HT_.out HW_.out hHeld (v := ?_) (a' := ?_) ?_ ?_ ?_
       rotate_left
       ·rintro w' ⟨s0, s1, s2, s3, s4, s5, s6, s7, s8, s9, s10, s11, s12, s13, s14, s15, s16, s17, s18, s19, s20, s21, s22, s23, s24, s25, s26, s27, s28, s29, s30, s31, s32, s33, s34, s35, s36, s37, s38, s39, s40, s41, s42, s43, s44, s45, s46, s47, s48, s49⟩
        first | (refine Eq.trans (Pre.load_run (ty := 34) rfl Z27 (by with_reducible assumption) Try.underlying34 rfl Z16) ?_; with_reducible rfl) | (refine Eq.trans (Pre.load_run_a (ty := 34) rfl Z27 Pre.range25 Try.underlying34 rfl Z16) ?_; with_reducible rfl) | (go_simp; with_reducible rfl)
       rotate_left
       ·simp only [Act.put, Sq.s1, Sq.s2, Sq.s3, i64_w, i32_w]
        rfl
       refine one_ (i := 4) (N := some 24) (Sq.b 11 511) rfl rfl (one_of HT_.out Z16) Z18 (fun K hK => ?_)
       refine goes_ Try.func12 Z16 rfl #[.agg #[.int .i64 ((rd_T34 l0 ec).f0), .int .i64 ((rd_T34 l0 ec).f1), .int .i64 ((rd_T34 l0 ec).f2), .string ((rd_T34 l0 ec).f3), .int .i64 ((rd_T34 l0 ec).f4), .int .i64 ((rd_T34 l0 ec).f5), .string ((rd_T34 l0 ec).f6), .int .i64 ((rd_T34 l0 ec).f7), .int .i64 ((rd_T34 l0 ec).f8), .string ((rd_T34 l0 ec).f9), .int .i64 ((rd_T34 l0 ec).f10), .string ((rd_T34 l0 ec).f11), .int .i64 ((rd_T34 l0 ec).f12), .int .i64 ((rd_T34 l0 ec).f13), .int .i64 ((rd_T34 l0 ec).f14), .int .i64 ((rd_T34 l0 ec).f15), .int .i64 ((rd_T34 l0 ec).f16), .int .i64 ((rd_T34 l0 ec).f17), .int .i64 ((rd_T34 l0 ec).f18), .string ((rd_T34 l0 ec).f19), .string ((rd_T34 l0 ec).f20), .slice A103_21 ((rd_T34 l0 ec).f21).length c103_21, .int .i64 ((rd_T34 l0 ec).f22), .string ((rd_T34 l0 ec).f23), .slice A103_24 ((rd_T34 l0 ec).f24).length c103_24]] Z27 rfl rfl Z4 ?_
       with_reducible refine (ripng_Right.calls k1 ((rd_T34 l0 ec).f0) ((rd_T34 l0 ec).f1) ((rd_T34 l0 ec).f2) ((rd_T34 l0 ec).f3) ((rd_T34 l0 ec).f4) ((rd_T34 l0 ec).f5) ((rd_T34 l0 ec).f6) ((rd_T34 l0 ec).f7) ((rd_T34 l0 ec).f8) ((rd_T34 l0 ec).f9) ((rd_T34 l0 ec).f10) ((rd_T34 l0 ec).f11) ((rd_T34 l0 ec).f12) ((rd_T34 l0 ec).f13) ((rd_T34 l0 ec).f14) ((rd_T34 l0 ec).f15) ((rd_T34 l0 ec).f16) ((rd_T34 l0 ec).f17) ((rd_T34 l0 ec).f18) ((rd_T34 l0 ec).f19) ((rd_T34 l0 ec).f20) _ _ ((rd_T34 l0 ec).f21) ((rd_T34 l0 ec).f22) ((rd_T34 l0 ec).f23) _ _ ((rd_T34 l0 ec).f24) aJ _ ?side1 ?side2 ?side3 ?side4 A7.out).mono ?_
       (case side1 => exact (by repeat (first | exact (Kd.C_below HR103_21.out HB.out) | (with_reducible refine Kd.C_alloc ?_ _) | (with_reducible refine Kd.C_drewN ?_ _) | (with_reducible refine Kd.C_drew ?_))))
       (case side2 => exact HC103_21.out)
       (case side3 => exact (by repeat (first | exact (Kd.C_below HR103_24.out HB.out) | (with_reducible refine Kd.C_alloc ?_ _) | (with_reducible refine Kd.C_drewN ?_ _) | (with_reducible refine Kd.C_drew ?_))))
       (case side4 => exact HC103_24.out)
       rintro e w11 ⟨rfl, hb⟩
       refine ⟨_, rfl, ?_⟩
       have cQ := Aside0.mk (below_step Z0 hb)
       clear HB
       have HB := cQ
       clear cQ
       (try clear hb)
       (try clear hb2)
       (try clear hk)
       (try clear hi)
       refine hK.out _ _ ⟨(Sq.up HB.out hw103_0), (Sq.up HB.out hw103_1), (Sq.up HB.out hw103_2), (Sq.up HB.out hw103_3), (Sq.up HB.out hw103_4), (Sq.up HB.out hw103_5), (Sq.up HB.out hw103_6), (Sq.up HB.out hw103_7), (Sq.up HB.out hw103_8), (Sq.up HB.out hw103_9), (Sq.up HB.out hw103_10), (Sq.up HB.out hw103_11), (Sq.up HB.out hw103_12), (Sq.up HB.out hw103_13), (Sq.up HB.out hw103_14), (Sq.up HB.out hw103_15), (Sq.up HB.out hw103_16), (Sq.up HB.out hw103_17), (Sq.up HB.out hw103_18), (Sq.up HB.out hw103_19), (Sq.up HB.out hw103_20), (Sq.up HB.out hw103_21), (Sq.up HB.out hw103_22), (Sq.up HB.out hw103_23), (Sq.up HB.out hw103_24), (Sq.up HB.out hw105_0), (Sq.up HB.out hw105_1), (Sq.up HB.out hw105_2), (Sq.up HB.out hw105_3), (Sq.up HB.out hw105_4), (Sq.up HB.out hw105_5), (Sq.up HB.out hw105_6), (Sq.up HB.out hw105_7), (Sq.up HB.out hw105_8), (Sq.up HB.out hw105_9), (Sq.up HB.out hw105_10), (Sq.up HB.out hw105_11), (Sq.up HB.out hw105_12), (Sq.up HB.out hw105_13), (Sq.up HB.out hw105_14), (Sq.up HB.out hw105_15), (Sq.up HB.out hw105_16), (Sq.up HB.out hw105_17), (Sq.up HB.out hw105_18), (Sq.up HB.out hw105_19), (Sq.up HB.out hw105_20), (Sq.up HB.out hw105_21), (Sq.up HB.out hw105_22), (Sq.up HB.out hw105_23), (Sq.up HB.out hw105_24)⟩ (fun hHeld => ?_)
       clear hK K
       refine norm_ (a' := ?_) ?_ ?_
       rotate_left
       ·show Act.put _ (some 24) _ = _
        simp only [Act.put, Sq.s1, Sq.s2, Sq.s3, i64_w, i32_w]
        rfl
       refine one_ (i := 9) (N := some 29) (Sq.b 11 1023) rfl rfl (one_of HT_.out Z16) Z18 (fun K hK => ?_)
       refine goes_ Try.func13 Z16 rfl #[.agg #[.int .i64 ((rd_T34 l0 ec).f0), .int .i64 ((rd_T34 l0 ec).f1), .int .i64 ((rd_T34 l0 ec).f2), .string ((rd_T34 l0 ec).f3), .int .i64 ((rd_T34 l0 ec).f4), .int .i64 ((rd_T34 l0 ec).f5), .string ((rd_T34 l0 ec).f6), .int .i64 ((rd_T34 l0 ec).f7), .int .i64 ((rd_T34 l0 ec).f8), .string ((rd_T34 l0 ec).f9), .int .i64 ((rd_T34 l0 ec).f10), .string ((rd_T34 l0 ec).f11), .int .i64 ((rd_T34 l0 ec).f12), .int .i64 ((rd_T34 l0 ec).f13), .int .i64 ((rd_T34 l0 ec).f14), .int .i64 ((rd_T34 l0 ec).f15), .int .i64 ((rd_T34 l0 ec).f16), .int .i64 ((rd_T34 l0 ec).f17), .int .i64 ((rd_T34 l0 ec).f18), .string ((rd_T34 l0 ec).f19), .string ((rd_T34 l0 ec).f20), .slice A103_21 ((rd_T34 l0 ec).f21).length c103_21, .int .i64 ((rd_T34 l0 ec).f22), .string ((rd_T34 l0 ec).f23), .slice A103_24 ((rd_T34 l0 ec).f24).length c103_24]] Z27 rfl rfl Z4 ?_
       with_reducible refine (roadbookref12_Right.calls k1 ((rd_T34 l0 ec).f0) ((rd_T34 l0 ec).f1) ((rd_T34 l0 ec).f2) ((rd_T34 l0 ec).f3) ((rd_T34 l0 ec).f4) ((rd_T34 l0 ec).f5) ((rd_T34 l0 ec).f6) ((rd_T34 l0 ec).f7) ((rd_T34 l0 ec).f8) ((rd_T34 l0 ec).f9) ((rd_T34 l0 ec).f10) ((rd_T34 l0 ec).f11) ((rd_T34 l0 ec).f12) ((rd_T34 l0 ec).f13) ((rd_T34 l0 ec).f14) ((rd_T34 l0 ec).f15) ((rd_T34 l0 ec).f16) ((rd_T34 l0 ec).f17) ((rd_T34 l0 ec).f18) ((rd_T34 l0 ec).f19) ((rd_T34 l0 ec).f20) _ _ ((rd_T34 l0 ec).f21) ((rd_T34 l0 ec).f22) ((rd_T34 l0 ec).f23) _ _ ((rd_T34 l0 ec).f24) cI _ ?side1 ?side2 ?side3 ?side4 A8.out).mono ?_
       (case side1 => exact (by repeat (first | exact (Kd.C_below HR105_21.out HB.out) | (with_reducible refine Kd.C_alloc ?_ _) | (with_reducible refine Kd.C_drewN ?_ _) | (with_reducible refine Kd.C_drew ?_))))
       (case side2 => exact HC105_21.out)
       (case side3 => exact (by repeat (first | exact (Kd.C_below HR105_24.out HB.out) | (with_reducible refine Kd.C_alloc ?_ _) | (with_reducible refine Kd.C_drewN ?_ _) | (with_reducible refine Kd.C_drew ?_))))
       (case side4 => exact HC105_24.out)
       rintro e hA ⟨rfl, hb⟩
       refine ⟨_, rfl, ?_⟩
       have cQ := Aside0.mk (below_step Z0 hb)
       clear HB
       have HB := cQ
       clear cQ
       (try clear hb)
       (try clear hb2)
       (try clear hk)
       (try clear hi)
       refine hK.out _ _ ⟨(Sq.up HB.out hw103_0), (Sq.up HB.out hw103_1), (Sq.up HB.out hw103_2), (Sq.up HB.out hw103_3), (Sq.up HB.out hw103_4), (Sq.up HB.out hw103_5), (Sq.up HB.out hw103_6), (Sq.up HB.out hw103_7), (Sq.up HB.out hw103_8), (Sq.up HB.out hw103_9), (Sq.up HB.out hw103_10), (Sq.up HB.out hw103_11), (Sq.up HB.out hw103_12), (Sq.up HB.out hw103_13), (Sq.up HB.out hw103_14), (Sq.up HB.out hw103_15), (Sq.up HB.out hw103_16), (Sq.up HB.out hw103_17), (Sq.up HB.out hw103_18), (Sq.up HB.out hw103_19), (Sq.up HB.out hw103_20), (Sq.up HB.out hw103_21), (Sq.up HB.out hw103_22), (Sq.up HB.out hw103_23), (Sq.up HB.out hw103_24), (Sq.up HB.out hw105_0), (Sq.up HB.out hw105_1), (Sq.up HB.out hw105_2), (Sq.up HB.out hw105_3), (Sq.up HB.out hw105_4), (Sq.up HB.out hw105_5), (Sq.up HB.out hw105_6), (Sq.up HB.out hw105_7), (Sq.up HB.out hw105_8), (Sq.up HB.out hw105_9), (Sq.up HB.out hw105_10), (Sq.up HB.out hw105_11), (Sq.up HB.out hw105_12), (Sq.up HB.out hw105_13), (Sq.up HB.out hw105_14), (Sq.up HB.out hw105_15), (Sq.up HB.out hw105_16), (Sq.up HB.out hw105_17), (Sq.up HB.out hw105_18), (Sq.up HB.out hw105_19), (Sq.up HB.out hw105_20), (Sq.up HB.out hw105_21), (Sq.up HB.out hw105_22), (Sq.up HB.out hw105_23), (Sq.up HB.out hw105_24)⟩ (fun hHeld => ?_)
       clear hK K
       refine norm_ (a' := ?_) ?_ ?_
       rotate_left
       ·show Act.put _ (some 29) _ = _
        simp only [Act.put, Sq.s1, Sq.s2, Sq.s3, i64_w, i32_w]
        rfl
       refine Sq.pur 10 (some 30) (Sq.b 11 2047) HT_.out ?_
       refine done_ (done_of HT_.out Z16) ?_
       try go_wp2_with (first | ((with_reducible refine Pre.gate_load 34 rfl ?_); (try (refine gate_guard Z27 ?_; dsimp only)); refine Pre.load_event_a rfl rfl rfl Z27 Pre.range25 Try.underlying34 rfl Z16 ?_))
       go_roundg k1
       case measure => have := HK1.out; omega
       case rel => exact ⟨(wrap64 (ec + 1)), Z7, H', ⟨by have := HK1.out; omega⟩, ⟨Z0⟩⟩
     ·rw [if_neg c6] at H
      exact absurd H Z36
    ·rw [if_neg c5] at H
     have cY : decide (ec < (l0.length : Int)) = false := decide_eq_false c5
     clear c5
     replace H := Option.bind_eq_some_iff.mp H
     obtain ⟨⟨bJ, fh, t109⟩, ip, H⟩ := H
     replace H : ((roadbookref12_Encode.f k1 l0).bind fun bt110 => ((roadbooklaw12_awake.f k1).bind fun t113 => (if t113 = true then (if bJ.toList = bt110.1.toList then (if fh = bt110.2.1 then (some (t109 == bt110.2.2)) else (some false)) else (some false)) else (some false)))) = some r := H
     have jZ := Aside0.mk ip
     clear ip
     replace H := Option.bind_eq_some_iff.mp H
     obtain ⟨⟨dT, ef, eU⟩, A140, H⟩ := H
     replace H : ((roadbooklaw12_awake.f k1).bind fun t113 => (if t113 = true then (if bJ.toList = dT.toList then (if fh = ef then (some (t109 == eU)) else (some false)) else (some false)) else (some false))) = some r := H
     have A14 := Aside0.mk A140
     clear A140
     replace H := Option.bind_eq_some_iff.mp H
     obtain ⟨t113, hv, H⟩ := H
     replace H : (if t113 = true then (if bJ.toList = dT.toList then (if fh = ef then (some (t109 == eU)) else (some false)) else (some false)) else (some false)) = some r := H
     have iN := Aside0.mk hv
     clear hv
     by_cases dX : t113 = true
     ·subst dX
      replace H := Sq.itT H
      by_cases eE : bJ.toList = dT.toList
      ·rw [if_pos eE] at H
       have eF : (bJ.toList == dT.toList) = true := beq_iff_eq.mpr eE
       have eG : (bJ.toList != dT.toList) = false := bne_eq_false_iff_eq.mpr eE
       clear eE
       by_cases c18 : fh = ef
       ·rw [if_pos c18] at H
        have c18b0 : (fh == ef) = true := beq_iff_eq.mpr c18
        have c18b1 : (fh != ef) = false := bne_eq_false_iff_eq.mpr c18
        clear c18
        obtain rfl := Option.some.inj H
        go_wp2_with (first | ((with_reducible refine Pre.gate_load 34 rfl ?_); (try (refine gate_guard Z27 ?_; dsimp only)); refine Pre.load_event_a rfl rfl rfl Z27 Pre.range25 Try.underlying34 rfl Z16 ?_) | ((with_reducible refine gate_callee (f := 14) rfl ?_); refine goesL_ (some 33) rfl rfl Try.func14 Z16 rfl #[.slice A0 l0.length c0] rfl Z4 ?_; (with_reducible refine (ripng_Encode.calls k1 _ _ l0 bJ fh t109 _ ?side1 ?side2 jZ.out).mono ?_); (case side1 => exact (by repeat (first | exact (Kd.C_below fR.out HB.out) | (with_reducible refine Kd.C_alloc ?_ _) | (with_reducible refine Kd.C_drewN ?_ _) | (with_reducible refine Kd.C_drew ?_)))); (case side2 => exact jD.out); rintro e jy ⟨rfl, hb⟩; refine ⟨_, rfl, ?_⟩; replace HB := Aside0.mk (below_step Z0 hb); clear hb) | ((with_reducible refine gate_callee (f := 15) rfl ?_); refine goesL_ (some 39) rfl rfl Try.func15 Z16 rfl #[.slice A0 l0.length c0] rfl Z4 ?_; (with_reducible refine (roadbookref12_Encode.calls k1 _ _ l0 dT ef eU _ ?side1 ?side2 A14.out).mono ?_); (case side1 => exact (by repeat (first | exact (Kd.C_below fR.out HB.out) | (with_reducible refine Kd.C_alloc ?_ _) | (with_reducible refine Kd.C_drewN ?_ _) | (with_reducible refine Kd.C_drew ?_)))); (case side2 => exact jD.out); rintro e jN ⟨rfl, hb⟩; refine ⟨_, rfl, ?_⟩; replace HB := Aside0.mk (below_step Z0 hb); clear hb) | ((with_reducible refine gate_callee (f := 7) rfl ?_); refine goesL_ (some 43) rfl rfl Try.func7 Z16 rfl #[] rfl Z4 ?_; (with_reducible refine (roadbooklaw12_awake.calls k1  true _ (Aside0.mk (by first | rfl | exact hr_.out)) iN.out).mono ?_); rintro e hG ⟨rfl, hb⟩; refine ⟨_, rfl, ?_⟩; replace HB := Aside0.mk (below_step Z0 hb); clear hb))
        go_ret
        exact ⟨Z2, Z0⟩
       ·rw [if_neg c18] at H
        have c18b0 : (fh == ef) = false := beq_eq_false_iff_ne.mpr c18
        have c18b1 : (fh != ef) = true := bne_iff_ne.mpr c18
        exact absurd (Option.some.inj H) (by rw [hr_.out]; exact Bool.false_ne_true)
      ·rw [if_neg eE] at H
       have eF : (bJ.toList == dT.toList) = false := beq_eq_false_iff_ne.mpr eE
       have eG : (bJ.toList != dT.toList) = true := bne_iff_ne.mpr eE
       exact absurd (Option.some.inj H) (by rw [hr_.out]; exact Bool.false_ne_true)
     ·replace dX := Bool.eq_false_iff.mpr dX
      subst dX
      replace H := Sq.itF H
      exact absurd (Option.some.inj H) (by rw [hr_.out]; exact Bool.false_ne_true)
 ·replace c3 := Bool.eq_false_iff.mpr c3
  subst c3
  replace H := Sq.itF H
  replace H := Option.bind_eq_some_iff.mp H
  obtain ⟨aI, A220, H⟩ := H
  replace H : (some aI) = some r := H
  have A22 := Aside0.mk A220
  clear A220
  obtain rfl := Option.some.inj H
  go_enter Try.func4, Try.ntmps4
  go_wp2_with (first | ((with_reducible refine Pre.gate_load 34 rfl ?_); (try (refine gate_guard Z27 ?_; dsimp only)); refine Pre.load_event_a rfl rfl rfl Z27 Pre.range25 Try.underlying34 rfl Z16 ?_) | ((with_reducible refine gate_callee (f := 11) rfl ?_); refine goesL_ (some 11) rfl rfl Try.func11 Z16 rfl #[.slice A0 l0.length c0, .int .i64 40] rfl Z4 ?_; (with_reducible refine (roadbookref07_FewAll.calls k _ _ l0 40 false _ ?side1 ?side2 A2.out).mono ?_); (case side1 => exact (by repeat (first | exact fR.out | (with_reducible refine Kd.C_alloc ?_ _) | (with_reducible refine Kd.C_drewN ?_ _) | (with_reducible refine Kd.C_drew ?_)))); (case side2 => exact jD.out); rintro e w23 ⟨rfl, hb⟩; refine ⟨_, rfl, ?_⟩; replace HB := Aside0.mk (below_step Z0 hb); clear hb) | ((with_reducible refine gate_callee (f := 7) rfl ?_); refine goesL_ (some 13) rfl rfl Try.func7 Z16 rfl #[] rfl Z4 ?_; (with_reducible refine (roadbooklaw12_awake.calls k  aI _ (Aside0.mk (by first | rfl | exact hr_.out)) A22.out).mono ?_); rintro e w24 ⟨rfl, hb⟩; refine ⟨_, rfl, ?_⟩; replace HB := Aside0.mk (below_step Z0 hb); clear hb))
  go_ret
  exact ⟨Z2, Z0⟩

end Go.Proofs.Ytnifhgackjkkbaa.PN
