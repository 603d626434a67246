-- Written by mp.py, a program of this work (wip/tools), out of the translation; Lean checks it.
import Derived.Test.YtccjakjjaemmkaaPAExZ
import Derived.Test.YtccjakjjaemmkaaPAExaodv
import Derived.Test.YtccjakjjaemmkaaPAExaodvEncode
import Derived.Test.YtccjakjjaemmkaaPAExroadbooklaw17
import Derived.Test.YtccjakjjaemmkaaPAExroadbookref07
import Derived.Test.YtccjakjjaemmkaaPAExroadbookref14
import Derived.Test.YtccjakjjaemmkaaPAExroadbookref17Encode
import Derived.Test.YtccjakjjaemmkaaLoad
namespace Go.Proofs.Ytccjakjjaemmkaa.PAE
open Go.RowKit Go.Proofs.YtccjakjjaemmkaaW.PrintWords Go.Proofs.YtccjakjjaemmkaaW.PrintLast Go.Proofs.YtccjakjjaemmkaaW.PrintMore
attribute [local go_sem] max2_int min2_int max_two min_two max_three min_three max_four min_four   -- for this text's walks alone
set_option linter.unusedVariables false
set_option linter.unusedSimpArgs false

/-! ### roadbooklaw17_AodvEncodes: function 14 -/
def roadbooklaw17_AodvEncodes.l0 : Nat → List (S25) → Int → Option (Bool)
 | 0, _, _ => none
 | k + 1, x0, x3 => if x3 < (x0.length : Int) then (if 0 ≤ x3 then ((aodv_Right.f k ((rd_T25 x0 x3).f0) ((rd_T25 x0 x3).f1) ((rd_T25 x0 x3).f2) ((rd_T25 x0 x3).f3) ((rd_T25 x0 x3).f4) ((rd_T25 x0 x3).f5) ((rd_T25 x0 x3).f6) ((rd_T25 x0 x3).f7) ((rd_T25 x0 x3).f8) ((rd_T25 x0 x3).f9) ((rd_T25 x0 x3).f10) ((rd_T25 x0 x3).f11) ((rd_T25 x0 x3).f12) ((rd_T25 x0 x3).f13) ((rd_T25 x0 x3).f14) ((rd_T25 x0 x3).f15) ((rd_T25 x0 x3).f16) ((rd_T25 x0 x3).f17) ((rd_T25 x0 x3).f18) ((rd_T25 x0 x3).f19) ((rd_T25 x0 x3).f20) ((rd_T25 x0 x3).f21) ((rd_T25 x0 x3).f22) ((rd_T25 x0 x3).f23) ((rd_T25 x0 x3).f24)).bind fun bg => ((roadbookref17_Right.f k ((rd_T25 x0 x3).f0) ((rd_T25 x0 x3).f1) ((rd_T25 x0 x3).f2) ((rd_T25 x0 x3).f3) ((rd_T25 x0 x3).f4) ((rd_T25 x0 x3).f5) ((rd_T25 x0 x3).f6) ((rd_T25 x0 x3).f7) ((rd_T25 x0 x3).f8) ((rd_T25 x0 x3).f9) ((rd_T25 x0 x3).f10) ((rd_T25 x0 x3).f11) ((rd_T25 x0 x3).f12) ((rd_T25 x0 x3).f13) ((rd_T25 x0 x3).f14) ((rd_T25 x0 x3).f15) ((rd_T25 x0 x3).f16) ((rd_T25 x0 x3).f17) ((rd_T25 x0 x3).f18) ((rd_T25 x0 x3).f19) ((rd_T25 x0 x3).f20) ((rd_T25 x0 x3).f21) ((rd_T25 x0 x3).f22) ((rd_T25 x0 x3).f23) ((rd_T25 x0 x3).f24)).bind fun aW => (if (bg != aW) = true then (some false) else (roadbooklaw17_AodvEncodes.l0 k x0 (wrap64 (x3 + 1)))))) else (none)) else ((aodv_Encode.f k x0).bind fun ca => ((roadbookref17_Encode.f k x0).bind fun dF => ((roadbooklaw17_awake.f k).bind fun dg => (if dg = true then (if ca.1.toList = dF.1.toList then (if ca.2.1 = dF.2.1 then (some (ca.2.2 == dF.2.2)) else (some false)) else (some false)) else (some false)))))
def roadbooklaw17_AodvEncodes.f (k : Nat) (l0 : List (S25)) : Option (Bool) := (roadbookref07_FewAll.f k l0 5).bind fun bU => (if bU = true then (roadbooklaw17_AodvEncodes.l0 k l0 0) else ((roadbooklaw17_awake.f k).bind fun aU => (some aU)))
theorem roadbooklaw17_AodvEncodes.mono_l : ∀ k, (∀ y0 y1, LeO (roadbooklaw17_AodvEncodes.l0 k y0 y1) (roadbooklaw17_AodvEncodes.l0 (k + 1) y0 y1))
 | 0 => Sq.mz
 | k + 1 => by
  have ih0 := roadbooklaw17_AodvEncodes.mono_l k
  ·intro y0 y1
   unfold roadbooklaw17_AodvEncodes.l0
   repeat' first
   | (with_reducible exact ih0 _ _)
   | (with_reducible exact aodv_Encode.mono _ _)
   | (with_reducible exact aodv_Right.mono _ _ _ _ _ _ _ _ _ _ _ _ _ _ _ _ _ _ _ _ _ _ _ _ _ _)
   | (with_reducible exact roadbooklaw17_awake.mono _)
   | (with_reducible exact roadbookref07_FewAll.mono _ _ _)
   | (with_reducible exact roadbookref17_Encode.mono _ _)
   | (with_reducible exact roadbookref17_Right.mono _ _ _ _ _ _ _ _ _ _ _ _ _ _ _ _ _ _ _ _ _ _ _ _ _ _)
   | (with_reducible exact LeO.refl _)
   | (with_reducible exact LeO.none _)
   | (with_reducible refine LeO.ite ?_ ?_)
   | (with_reducible refine LeO.bind ?_ (fun _ => ?_))
   | exact ih0 _ _
   | exact aodv_Encode.mono _ _
   | exact aodv_Right.mono _ _ _ _ _ _ _ _ _ _ _ _ _ _ _ _ _ _ _ _ _ _ _ _ _ _
   | exact roadbooklaw17_awake.mono _
   | exact roadbookref07_FewAll.mono _ _ _
   | exact roadbookref17_Encode.mono _ _
   | exact roadbookref17_Right.mono _ _ _ _ _ _ _ _ _ _ _ _ _ _ _ _ _ _ _ _ _ _ _ _ _ _
   | exact LeO.none _
   | refine LeO.ite ?_ ?_
   | refine LeO.bind ?_ (fun _ => ?_)
theorem roadbooklaw17_AodvEncodes.mono : ∀ a0 k, LeO (roadbooklaw17_AodvEncodes.f k a0) (roadbooklaw17_AodvEncodes.f (k + 1) a0) := by
 intro a0 k
 have ih0 := roadbooklaw17_AodvEncodes.mono_l k
 unfold roadbooklaw17_AodvEncodes.f
 repeat' first
   | (with_reducible exact ih0 _ _)
   | (with_reducible exact aodv_Encode.mono _ _)
   | (with_reducible exact aodv_Right.mono _ _ _ _ _ _ _ _ _ _ _ _ _ _ _ _ _ _ _ _ _ _ _ _ _ _)
   | (with_reducible exact roadbooklaw17_awake.mono _)
   | (with_reducible exact roadbookref07_FewAll.mono _ _ _)
   | (with_reducible exact roadbookref17_Encode.mono _ _)
   | (with_reducible exact roadbookref17_Right.mono _ _ _ _ _ _ _ _ _ _ _ _ _ _ _ _ _ _ _ _ _ _ _ _ _ _)
   | (with_reducible exact LeO.refl _)
   | (with_reducible exact LeO.none _)
   | (with_reducible refine LeO.ite ?_ ?_)
   | (with_reducible refine LeO.bind ?_ (fun _ => ?_))
   | exact ih0 _ _
   | exact aodv_Encode.mono _ _
   | exact aodv_Right.mono _ _ _ _ _ _ _ _ _ _ _ _ _ _ _ _ _ _ _ _ _ _ _ _ _ _
   | exact roadbooklaw17_awake.mono _
   | exact roadbookref07_FewAll.mono _ _ _
   | exact roadbookref17_Encode.mono _ _
   | exact roadbookref17_Right.mono _ _ _ _ _ _ _ _ _ _ _ _ _ _ _ _ _ _ _ _ _ _ _ _ _ _
   | exact LeO.none _
   | refine LeO.ite ?_ ?_
   | refine LeO.bind ?_ (fun _ => ?_)
def roadbooklaw17_AodvEncodes.T6 : Bool × List (List Nat × List Nat) := (true, [([], []), ([], []), ([0, 1], [0, 1]), ([2], [2]), ([3], [3]), ([], []), ([], []), ([5, 6], [5, 6]), ([7], [7]), ([8, 4], [8]), ([4, 9], [4, 9])])
def roadbooklaw17_AodvEncodes.B6 : List Nat := [0, 0, 3, 7, 15, 0, 0, 96, 224, 511, 1023]
theorem roadbooklaw17_AodvEncodes.tab6 : rtab .any (opsOf Try.f14 6) = roadbooklaw17_AodvEncodes.T6 := by kernel_rfl
theorem roadbooklaw17_AodvEncodes.bits6 : waitsOk roadbooklaw17_AodvEncodes.T6.2 roadbooklaw17_AodvEncodes.B6 = true := by kernel_rfl

set_option maxHeartbeats 8000000 in
set_option maxRecDepth 100000 in
theorem roadbooklaw17_AodvEncodes.calls (k : Nat) (A0 : Option Addr) (c0 : Nat) (l0 : List (S25)) (r : Bool) (w : World) (ff : Kd.C k25 w A0 l0.length l0) (eH : l0.length ≤ c0) (hr_ : Aside0 (r = true)) (h : roadbooklaw17_AodvEncodes.f k l0 = some r) :
  Calls Try.prog 14 #[.slice A0 l0.length c0] w fun e w' => e = .returned (.bool r) ∧ Below w.heap.size w w' := by
 have dM := Try.underlying25
 have dS := Aside0.mk ff
 have gj := Aside0.mk eH
 clear ff eH
 have HB := Aside0.mk (Below.refl w.heap.size w)
 have H : ((roadbookref07_FewAll.f k l0 5).bind fun bU => (if bU = true then (roadbooklaw17_AodvEncodes.l0 k l0 0) else ((roadbooklaw17_awake.f k).bind fun aU => (some aU)))) = some r := h
 clear h
 replace H := Option.bind_eq_some_iff.mp H
 obtain ⟨bU, dL, H⟩ := H
 replace H : (if bU = true then (roadbooklaw17_AodvEncodes.l0 k l0 0) else ((roadbooklaw17_awake.f k).bind fun aU => (some aU))) = some r := H
 have A2 := Aside0.mk dL
 clear dL
 by_cases c3 : bU = true
 ·subst c3
  replace H := Sq.itT H
  have H' := Aside0.mk H
  clear H
  go_enter Try.func14, Try.ntmps14
  go_wp2_with (first | ((with_reducible refine Pre.gate_load 25 rfl ?_); (try (refine gate_guard Z14 ?_; dsimp only)); refine Pre.load_event_a rfl rfl rfl Z14 Pre.range25 Try.underlying25 rfl Z11 ?_) | ((with_reducible refine gate_callee (f := 44) rfl ?_); refine goesL_ (some 11) rfl rfl Try.func44 Z11 rfl #[.slice A0 l0.length c0, .int .i64 5] rfl Z4 ?_; (with_reducible refine (roadbookref07_FewAll.calls k _ _ l0 5 true _ ?side1 ?side2 A2.out).mono ?_); (case side1 => exact Z22); (case side2 => exact gj.out); rintro e w4 ⟨rfl, hb⟩; refine ⟨_, rfl, ?_⟩; replace HB := Aside0.mk (below_step Z2 hb); clear hb))
  go_loopg [3] k (fun kq v3 w' => ∃ (aM : Int), v3 = .int .i64 aM ∧ Aside0 (roadbooklaw17_AodvEncodes.l0 kq l0 aM = some r) ∧ Aside0 (kq ≤ k) ∧ Aside0 (Below w.heap.size w w'))
  case atStart => exact ⟨(0), Z10, H', ⟨Nat.le_refl _⟩, ⟨Z2⟩⟩
  case round =>
   clear H'
   try clear c1
   try clear p2
   try clear c3
   try clear c4
   obtain ⟨aM, rfl, HA, HK1, HB⟩ := hrel
   cases gk with
   | zero => exact absurd HA.out (by simp [roadbooklaw17_AodvEncodes.l0])
   | succ k1 =>
    have H := HA.out
    clear HA
    simp only [roadbooklaw17_AodvEncodes.l0] at H
    by_cases c5 : aM < (l0.length : Int)
    ·rw [if_pos c5] at H
     have dx : decide (aM < (l0.length : Int)) = true := decide_eq_true c5
     clear c5
     by_cases c6 : 0 ≤ aM
     ·rw [if_pos c6] at H
      have dW : decide (0 ≤ aM) = true := decide_eq_true c6
      clear c6
      replace H := Option.bind_eq_some_iff.mp H
      obtain ⟨bg, ie, H⟩ := H
      replace H : ((roadbookref17_Right.f k1 ((rd_T25 l0 aM).f0) ((rd_T25 l0 aM).f1) ((rd_T25 l0 aM).f2) ((rd_T25 l0 aM).f3) ((rd_T25 l0 aM).f4) ((rd_T25 l0 aM).f5) ((rd_T25 l0 aM).f6) ((rd_T25 l0 aM).f7) ((rd_T25 l0 aM).f8) ((rd_T25 l0 aM).f9) ((rd_T25 l0 aM).f10) ((rd_T25 l0 aM).f11) ((rd_T25 l0 aM).f12) ((rd_T25 l0 aM).f13) ((rd_T25 l0 aM).f14) ((rd_T25 l0 aM).f15) ((rd_T25 l0 aM).f16) ((rd_T25 l0 aM).f17) ((rd_T25 l0 aM).f18) ((rd_T25 l0 aM).f19) ((rd_T25 l0 aM).f20) ((rd_T25 l0 aM).f21) ((rd_T25 l0 aM).f22) ((rd_T25 l0 aM).f23) ((rd_T25 l0 aM).f24)).bind fun aW => (if (bg != aW) = true then (some false) else (roadbooklaw17_AodvEncodes.l0 k1 l0 (wrap64 (aM + 1))))) = some r := H
      have A7 := Aside0.mk ie
      clear ie
      replace H := Option.bind_eq_some_iff.mp H
      obtain ⟨aW, kw, H⟩ := H
      replace H : (if (bg != aW) = true then (some false) else (roadbooklaw17_AodvEncodes.l0 k1 l0 (wrap64 (aM + 1)))) = some r := H
      have A8 := Aside0.mk kw
      clear kw
      by_cases c9 : (bg != aW) = true
      ·rw [if_pos c9] at H
       have ga : (bg != aW) = true := c9
       (try (have gG : decide (bg = aW) = false := by simpa using c9))
       (try (have jz : (bg == aW) = false := by simpa using c9))
       (try (have mA : ¬ (bg = aW) := by simpa using c9))
       clear c9
       exact absurd (Option.some.inj H) Z45
      ·rw [if_neg c9] at H
       have ga : (bg != aW) = false := by first | exact Bool.eq_false_iff.mpr c9 | simpa using c9
       (try (have gG : decide (bg = aW) = true := by simpa using c9))
       (try (have jz : (bg == aW) = true := by simpa using c9))
       clear c9
       have H' := Aside0.mk H
       clear H
       try go_wp2_with (first | ((with_reducible refine Pre.gate_load 25 rfl ?_); (try (refine gate_guard Z14 ?_; dsimp only)); refine Pre.load_event_a rfl rfl rfl Z14 Pre.range25 Try.underlying25 rfl Z11 ?_))
       have bi := Aside0.mk (below_drew1 HB.out)
       clear HB
       have HB := bi
       clear bi
       have p103 : 0 ≤ (aM : Int) := of_decide_eq_true Z8
       have q103 : aM < (l0.length : Int) := of_decide_eq_true Z8
       obtain ⟨ad103, eI, eJ, eK, eL, e103, hx103_0, hx103_1, hx103_2, hx103_3, hx103_4, hx103_5, hx103_6, hx103_7, hx103_8, hx103_9, hx103_10, hx103_11, hx103_12, hx103_13, hx103_14, hx103_15, hx103_16, hx103_17, hx103_18, hx103_19, hx103_20, hx103_21, hx103_22, hx103_23, hx103_24, hl103_21, hi103_21, hl103_24, hi103_24⟩ := at_T25 dS.out aM p103 q103
       have hw103_24 := hx103_24
       have hw103_23 := hx103_23
       have hw103_22 := hx103_22
       have hw103_21 := hx103_21
       have hw103_20 := hx103_20
       have hw103_19 := hx103_19
       have hw103_18 := hx103_18
       have hw103_17 := hx103_17
       have hw103_16 := hx103_16
       have hw103_15 := hx103_15
       have hw103_14 := hx103_14
       have hw103_13 := hx103_13
       have hw103_12 := hx103_12
       have hw103_11 := hx103_11
       have hw103_10 := hx103_10
       have hw103_9 := hx103_9
       have hw103_8 := hx103_8
       have hw103_7 := hx103_7
       have hw103_6 := hx103_6
       have hw103_5 := hx103_5
       have hw103_4 := hx103_4
       have hw103_3 := hx103_3
       have hw103_2 := hx103_2
       have hw103_1 := hx103_1
       have hw103_0 := hx103_0
       cases e103
       replace hx103_0 := Sq.up HB.out hx103_0
       replace hx103_1 := Sq.up HB.out hx103_1
       replace hx103_2 := Sq.up HB.out hx103_2
       replace hx103_3 := Sq.up HB.out hx103_3
       replace hx103_4 := Sq.up HB.out hx103_4
       replace hx103_5 := Sq.up HB.out hx103_5
       replace hx103_6 := Sq.up HB.out hx103_6
       replace hx103_7 := Sq.up HB.out hx103_7
       replace hx103_8 := Sq.up HB.out hx103_8
       replace hx103_9 := Sq.up HB.out hx103_9
       replace hx103_10 := Sq.up HB.out hx103_10
       replace hx103_11 := Sq.up HB.out hx103_11
       replace hx103_12 := Sq.up HB.out hx103_12
       replace hx103_13 := Sq.up HB.out hx103_13
       replace hx103_14 := Sq.up HB.out hx103_14
       replace hx103_15 := Sq.up HB.out hx103_15
       replace hx103_16 := Sq.up HB.out hx103_16
       replace hx103_17 := Sq.up HB.out hx103_17
       replace hx103_18 := Sq.up HB.out hx103_18
       replace hx103_19 := Sq.up HB.out hx103_19
       replace hx103_20 := Sq.up HB.out hx103_20
       replace hx103_21 := Sq.up HB.out hx103_21
       replace hx103_22 := Sq.up HB.out hx103_22
       replace hx103_23 := Sq.up HB.out hx103_23
       replace hx103_24 := Sq.up HB.out hx103_24
       have fF := Aside0.mk hi103_21
       have fp := Aside0.mk hl103_21
       clear hi103_21 hl103_21
       have fG := Aside0.mk hi103_24
       have fq := Aside0.mk hl103_24
       clear hi103_24 hl103_24
       replace p103 := eq_true p103
       replace q103 := eq_true q103
       have p105 : 0 ≤ (aM : Int) := of_decide_eq_true Z8
       have q105 : aM < (l0.length : Int) := of_decide_eq_true Z8
       obtain ⟨ad105, A105_21, c105_21, A105_24, c105_24, e105, hx105_0, hx105_1, hx105_2, hx105_3, hx105_4, hx105_5, hx105_6, hx105_7, hx105_8, hx105_9, hx105_10, hx105_11, hx105_12, hx105_13, hx105_14, hx105_15, hx105_16, hx105_17, hx105_18, hx105_19, hx105_20, hx105_21, hx105_22, hx105_23, hx105_24, hl105_21, hi105_21, hl105_24, hi105_24⟩ := at_T25 dS.out aM p105 q105
       have hw105_24 := hx105_24
       have hw105_23 := hx105_23
       have hw105_22 := hx105_22
       have hw105_21 := hx105_21
       have hw105_20 := hx105_20
       have hw105_19 := hx105_19
       have hw105_18 := hx105_18
       have hw105_17 := hx105_17
       have hw105_16 := hx105_16
       have hw105_15 := hx105_15
       have hw105_14 := hx105_14
       have hw105_13 := hx105_13
       have hw105_12 := hx105_12
       have hw105_11 := hx105_11
       have hw105_10 := hx105_10
       have hw105_9 := hx105_9
       have hw105_8 := hx105_8
       have hw105_7 := hx105_7
       have hw105_6 := hx105_6
       have hw105_5 := hx105_5
       have hw105_4 := hx105_4
       have hw105_3 := hx105_3
       have hw105_2 := hx105_2
       have hw105_1 := hx105_1
       have hw105_0 := hx105_0
       obtain rfl : ad103 = ad105 := (by injection e105)
       replace hx105_0 := Sq.up HB.out hx105_0
       replace hx105_1 := Sq.up HB.out hx105_1
       replace hx105_2 := Sq.up HB.out hx105_2
       replace hx105_3 := Sq.up HB.out hx105_3
       replace hx105_4 := Sq.up HB.out hx105_4
       replace hx105_5 := Sq.up HB.out hx105_5
       replace hx105_6 := Sq.up HB.out hx105_6
       replace hx105_7 := Sq.up HB.out hx105_7
       replace hx105_8 := Sq.up HB.out hx105_8
       replace hx105_9 := Sq.up HB.out hx105_9
       replace hx105_10 := Sq.up HB.out hx105_10
       replace hx105_11 := Sq.up HB.out hx105_11
       replace hx105_12 := Sq.up HB.out hx105_12
       replace hx105_13 := Sq.up HB.out hx105_13
       replace hx105_14 := Sq.up HB.out hx105_14
       replace hx105_15 := Sq.up HB.out hx105_15
       replace hx105_16 := Sq.up HB.out hx105_16
       replace hx105_17 := Sq.up HB.out hx105_17
       replace hx105_18 := Sq.up HB.out hx105_18
       replace hx105_19 := Sq.up HB.out hx105_19
       replace hx105_20 := Sq.up HB.out hx105_20
       replace hx105_21 := Sq.up HB.out hx105_21
       replace hx105_22 := Sq.up HB.out hx105_22
       replace hx105_23 := Sq.up HB.out hx105_23
       replace hx105_24 := Sq.up HB.out hx105_24
       have hQ := Aside0.mk hi105_21
       have jA := Aside0.mk hl105_21
       clear hi105_21 hl105_21
       have hR := Aside0.mk hi105_24
       have jB := Aside0.mk hl105_24
       clear hi105_24 hl105_24
       replace p105 := eq_true p105
       replace q105 := eq_true q105
       have ea_ := Option.some.inj (hx103_21.symm.trans hx105_21)
       injection ea_ with ea_ en_ ec_
       subst ea_
       subst ec_
       clear en_
       have ea_ := Option.some.inj (hx103_24.symm.trans hx105_24)
       injection ea_ with ea_ en_ ec_
       subst ea_
       subst ec_
       clear en_
       refine start_ (n := 11) (S := fun w' => w'.cell? (ad103.add ((aM).toNat * 25)) = some (.int .i64 ((rd_T25 l0 aM).f0)) ∧ w'.cell? ⟨(ad103.add ((aM).toNat * 25)).block, (ad103.add ((aM).toNat * 25)).off + 1, none⟩ = some (.int .i64 ((rd_T25 l0 aM).f1)) ∧ w'.cell? ⟨(ad103.add ((aM).toNat * 25)).block, (ad103.add ((aM).toNat * 25)).off + 2, none⟩ = some (.int .i64 ((rd_T25 l0 aM).f2)) ∧ w'.cell? ⟨(ad103.add ((aM).toNat * 25)).block, (ad103.add ((aM).toNat * 25)).off + 3, none⟩ = some (.string ((rd_T25 l0 aM).f3)) ∧ w'.cell? ⟨(ad103.add ((aM).toNat * 25)).block, (ad103.add ((aM).toNat * 25)).off + 4, none⟩ = some (.int .i64 ((rd_T25 l0 aM).f4)) ∧ w'.cell? ⟨(ad103.add ((aM).toNat * 25)).block, (ad103.add ((aM).toNat * 25)).off + 5, none⟩ = some (.int .i64 ((rd_T25 l0 aM).f5)) ∧ w'.cell? ⟨(ad103.add ((aM).toNat * 25)).block, (ad103.add ((aM).toNat * 25)).off + 6, none⟩ = some (.string ((rd_T25 l0 aM).f6)) ∧ w'.cell? ⟨(ad103.add ((aM).toNat * 25)).block, (ad103.add ((aM).toNat * 25)).off + 7, none⟩ = some (.int .i64 ((rd_T25 l0 aM).f7)) ∧ w'.cell? ⟨(ad103.add ((aM).toNat * 25)).block, (ad103.add ((aM).toNat * 25)).off + 8, none⟩ = some (.int .i64 ((rd_T25 l0 aM).f8)) ∧ w'.cell? ⟨(ad103.add ((aM).toNat * 25)).block, (ad103.add ((aM).toNat * 25)).off + 9, none⟩ = some (.string ((rd_T25 l0 aM).f9)) ∧ w'.cell? ⟨(ad103.add ((aM).toNat * 25)).block, (ad103.add ((aM).toNat * 25)).off + 10, none⟩ = some (.int .i64 ((rd_T25 l0 aM).f10)) ∧ w'.cell? ⟨(ad103.add ((aM).toNat * 25)).block, (ad103.add ((aM).toNat * 25)).off + 11, none⟩ = some (.string ((rd_T25 l0 aM).f11)) ∧ w'.cell? ⟨(ad103.add ((aM).toNat * 25)).block, (ad103.add ((aM).toNat * 25)).off + 12, none⟩ = some (.int .i64 ((rd_T25 l0 aM).f12)) ∧ w'.cell? ⟨(ad103.add ((aM).toNat * 25)).block, (ad103.add ((aM).toNat * 25)).off + 13, none⟩ = some (.int .i64 ((rd_T25 l0 aM).f13)) ∧ w'.cell? ⟨(ad103.add ((aM).toNat * 25)).block, (ad103.add ((aM).toNat * 25)).off + 14, none⟩ = some (.int .i64 ((rd_T25 l0 aM).f14)) ∧ w'.cell? ⟨(ad103.add ((aM).toNat * 25)).block, (ad103.add ((aM).toNat * 25)).off + 15, none⟩ = some (.int .i64 ((rd_T25 l0 aM).f15)) ∧ w'.cell? ⟨(ad103.add ((aM).toNat * 25)).block, (ad103.add ((aM).toNat * 25)).off + 16, none⟩ = some (.int .i64 ((rd_T25 l0 aM).f16)) ∧ w'.cell? ⟨(ad103.add ((aM).toNat * 25)).block, (ad103.add ((aM).toNat * 25)).off + 17, none⟩ = some (.int .i64 ((rd_T25 l0 aM).f17)) ∧ w'.cell? ⟨(ad103.add ((aM).toNat * 25)).block, (ad103.add ((aM).toNat * 25)).off + 18, none⟩ = some (.int .i64 ((rd_T25 l0 aM).f18)) ∧ w'.cell? ⟨(ad103.add ((aM).toNat * 25)).block, (ad103.add ((aM).toNat * 25)).off + 19, none⟩ = some (.string ((rd_T25 l0 aM).f19)) ∧ w'.cell? ⟨(ad103.add ((aM).toNat * 25)).block, (ad103.add ((aM).toNat * 25)).off + 20, none⟩ = some (.string ((rd_T25 l0 aM).f20)) ∧ w'.cell? ⟨(ad103.add ((aM).toNat * 25)).block, (ad103.add ((aM).toNat * 25)).off + 21, none⟩ = some (.slice eI ((rd_T25 l0 aM).f21).length eJ) ∧ w'.cell? ⟨(ad103.add ((aM).toNat * 25)).block, (ad103.add ((aM).toNat * 25)).off + 22, none⟩ = some (.int .i64 ((rd_T25 l0 aM).f22)) ∧ w'.cell? ⟨(ad103.add ((aM).toNat * 25)).block, (ad103.add ((aM).toNat * 25)).off + 23, none⟩ = some (.string ((rd_T25 l0 aM).f23)) ∧ w'.cell? ⟨(ad103.add ((aM).toNat * 25)).block, (ad103.add ((aM).toNat * 25)).off + 24, none⟩ = some (.slice eK ((rd_T25 l0 aM).f24).length eL) ∧ w'.cell? (ad103.add ((aM).toNat * 25)) = some (.int .i64 ((rd_T25 l0 aM).f0)) ∧ w'.cell? ⟨(ad103.add ((aM).toNat * 25)).block, (ad103.add ((aM).toNat * 25)).off + 1, none⟩ = some (.int .i64 ((rd_T25 l0 aM).f1)) ∧ w'.cell? ⟨(ad103.add ((aM).toNat * 25)).block, (ad103.add ((aM).toNat * 25)).off + 2, none⟩ = some (.int .i64 ((rd_T25 l0 aM).f2)) ∧ w'.cell? ⟨(ad103.add ((aM).toNat * 25)).block, (ad103.add ((aM).toNat * 25)).off + 3, none⟩ = some (.string ((rd_T25 l0 aM).f3)) ∧ w'.cell? ⟨(ad103.add ((aM).toNat * 25)).block, (ad103.add ((aM).toNat * 25)).off + 4, none⟩ = some (.int .i64 ((rd_T25 l0 aM).f4)) ∧ w'.cell? ⟨(ad103.add ((aM).toNat * 25)).block, (ad103.add ((aM).toNat * 25)).off + 5, none⟩ = some (.int .i64 ((rd_T25 l0 aM).f5)) ∧ w'.cell? ⟨(ad103.add ((aM).toNat * 25)).block, (ad103.add ((aM).toNat * 25)).off + 6, none⟩ = some (.string ((rd_T25 l0 aM).f6)) ∧ w'.cell? ⟨(ad103.add ((aM).toNat * 25)).block, (ad103.add ((aM).toNat * 25)).off + 7, none⟩ = some (.int .i64 ((rd_T25 l0 aM).f7)) ∧ w'.cell? ⟨(ad103.add ((aM).toNat * 25)).block, (ad103.add ((aM).toNat * 25)).off + 8, none⟩ = some (.int .i64 ((rd_T25 l0 aM).f8)) ∧ w'.cell? ⟨(ad103.add ((aM).toNat * 25)).block, (ad103.add ((aM).toNat * 25)).off + 9, none⟩ = some (.string ((rd_T25 l0 aM).f9)) ∧ w'.cell? ⟨(ad103.add ((aM).toNat * 25)).block, (ad103.add ((aM).toNat * 25)).off + 10, none⟩ = some (.int .i64 ((rd_T25 l0 aM).f10)) ∧ w'.cell? ⟨(ad103.add ((aM).toNat * 25)).block, (ad103.add ((aM).toNat * 25)).off + 11, none⟩ = some (.string ((rd_T25 l0 aM).f11)) ∧ w'.cell? ⟨(ad103.add ((aM).toNat * 25)).block, (ad103.add ((aM).toNat * 25)).off + 12, none⟩ = some (.int .i64 ((rd_T25 l0 aM).f12)) ∧ w'.cell? ⟨(ad103.add ((aM).toNat * 25)).block, (ad103.add ((aM).toNat * 25)).off + 13, none⟩ = some (.int .i64 ((rd_T25 l0 aM).f13)) ∧ w'.cell? ⟨(ad103.add ((aM).toNat * 25)).block, (ad103.add ((aM).toNat * 25)).off + 14, none⟩ = some (.int .i64 ((rd_T25 l0 aM).f14)) ∧ w'.cell? ⟨(ad103.add ((aM).toNat * 25)).block, (ad103.add ((aM).toNat * 25)).off + 15, none⟩ = some (.int .i64 ((rd_T25 l0 aM).f15)) ∧ w'.cell? ⟨(ad103.add ((aM).toNat * 25)).block, (ad103.add ((aM).toNat * 25)).off + 16, none⟩ = some (.int .i64 ((rd_T25 l0 aM).f16)) ∧ w'.cell? ⟨(ad103.add ((aM).toNat * 25)).block, (ad103.add ((aM).toNat * 25)).off + 17, none⟩ = some (.int .i64 ((rd_T25 l0 aM).f17)) ∧ w'.cell? ⟨(ad103.add ((aM).toNat * 25)).block, (ad103.add ((aM).toNat * 25)).off + 18, none⟩ = some (.int .i64 ((rd_T25 l0 aM).f18)) ∧ w'.cell? ⟨(ad103.add ((aM).toNat * 25)).block, (ad103.add ((aM).toNat * 25)).off + 19, none⟩ = some (.string ((rd_T25 l0 aM).f19)) ∧ w'.cell? ⟨(ad103.add ((aM).toNat * 25)).block, (ad103.add ((aM).toNat * 25)).off + 20, none⟩ = some (.string ((rd_T25 l0 aM).f20)) ∧ w'.cell? ⟨(ad103.add ((aM).toNat * 25)).block, (ad103.add ((aM).toNat * 25)).off + 21, none⟩ = some (.slice eI ((rd_T25 l0 aM).f21).length eJ) ∧ w'.cell? ⟨(ad103.add ((aM).toNat * 25)).block, (ad103.add ((aM).toNat * 25)).off + 22, none⟩ = some (.int .i64 ((rd_T25 l0 aM).f22)) ∧ w'.cell? ⟨(ad103.add ((aM).toNat * 25)).block, (ad103.add ((aM).toNat * 25)).off + 23, none⟩ = some (.string ((rd_T25 l0 aM).f23)) ∧ w'.cell? ⟨(ad103.add ((aM).toNat * 25)).block, (ad103.add ((aM).toNat * 25)).off + 24, none⟩ = some (.slice eK ((rd_T25 l0 aM).f24).length eL)) (ds := []) (Sq.b 11 0) Z11 rfl rfl ⟨(Sq.up HB.out hw103_0), (Sq.up HB.out hw103_1), (Sq.up HB.out hw103_2), (Sq.up HB.out hw103_3), (Sq.up HB.out hw103_4), (Sq.up HB.out hw103_5), (Sq.up HB.out hw103_6), (Sq.up HB.out hw103_7), (Sq.up HB.out hw103_8), (Sq.up HB.out hw103_9), (Sq.up HB.out hw103_10), (Sq.up HB.out hw103_11), (Sq.up HB.out hw103_12), (Sq.up HB.out hw103_13), (Sq.up HB.out hw103_14), (Sq.up HB.out hw103_15), (Sq.up HB.out hw103_16), (Sq.up HB.out hw103_17), (Sq.up HB.out hw103_18), (Sq.up HB.out hw103_19), (Sq.up HB.out hw103_20), (Sq.up HB.out hw103_21), (Sq.up HB.out hw103_22), (Sq.up HB.out hw103_23), (Sq.up HB.out hw103_24), (Sq.up HB.out hw105_0), (Sq.up HB.out hw105_1), (Sq.up HB.out hw105_2), (Sq.up HB.out hw105_3), (Sq.up HB.out hw105_4), (Sq.up HB.out hw105_5), (Sq.up HB.out hw105_6), (Sq.up HB.out hw105_7), (Sq.up HB.out hw105_8), (Sq.up HB.out hw105_9), (Sq.up HB.out hw105_10), (Sq.up HB.out hw105_11), (Sq.up HB.out hw105_12), (Sq.up HB.out hw105_13), (Sq.up HB.out hw105_14), (Sq.up HB.out hw105_15), (Sq.up HB.out hw105_16), (Sq.up HB.out hw105_17), (Sq.up HB.out hw105_18), (Sq.up HB.out hw105_19), (Sq.up HB.out hw105_20), (Sq.up HB.out hw105_21), (Sq.up HB.out hw105_22), (Sq.up HB.out hw105_23), (Sq.up HB.out hw105_24)⟩ (fun hHeld => ?_); refine with_tabW roadbooklaw17_AodvEncodes.tab6 roadbooklaw17_AodvEncodes.bits6 (fun HT_ HW_ => ?_)
       generalize wr.drew = nF at HB fF fG hQ hR hx103_0 hx103_1 hx103_10 hx103_11 hx103_12 hx103_13 hx103_14 hx103_15 hx103_16 hx103_17 hx103_18 hx103_19 hx103_2 hx103_20 hx103_21 hx103_22 hx103_23 hx103_24 hx103_3 hx103_4 hx103_5 hx103_6 hx103_7 hx103_8 hx103_9 hx105_0 hx105_1 hx105_10 hx105_11 hx105_12 hx105_13 hx105_14 hx105_15 hx105_16 hx105_17 hx105_18 hx105_19 hx105_2 hx105_20 hx105_21 hx105_22 hx105_23 hx105_24 hx105_3 hx105_4 hx105_5 hx105_6 hx105_7 hx105_8 hx105_9 hHeld ⊢
       refine Sq.pur 0 (some 20) (Sq.b 11 1) HT_.out ?_
       refine Sq.pur 1 (some 21) (Sq.b 11 3) HT_.out ?_
       refine Sq.pur 2 (some 22) (Sq.b 11 7) HT_.out ?_
       refine Sq.pur 5 (some 25) (Sq.b 11 39) HT_.out ?_
       refine Sq.pur 6 (some 26) (Sq.b 11 103) HT_.out ?_
       refine Sq.pur 7 (some 27) (Sq.b 11 231) HT_.out ?_
       refine Sq.tak 3 (some 23) (Sq.b 11 239) HT_.out HW_.out hHeld (v := ?_) (a' := ?_) ?_ ?_ ?_
       rotate_left
       ·rintro w' ⟨s0, s1, s2, s3, s4, s5, s6, s7, s8, s9, s10, s11, s12, s13, s14, s15, s16, s17, s18, s19, s20, s21, s22, s23, s24, s25, s26, s27, s28, s29, s30, s31, s32, s33, s34, s35, s36, s37, s38, s39, s40, s41, s42, s43, s44, s45, s46, s47, s48, s49⟩
        first | (refine Eq.trans (Pre.load_run (ty := 25) rfl Z14 Z36 Try.underlying25 rfl Z11) ?_; with_reducible rfl) | (refine Eq.trans (Pre.load_run_a (ty := 25) rfl Z14 Pre.range25 Try.underlying25 rfl Z11) ?_; with_reducible rfl) | (go_simp; with_reducible rfl)
       rotate_left
       ·simp only [Act.put, Sq.s1, Sq.s2, Sq.s3, i64_w, i32_w]
        rfl
       refine Sq.tak 8 (some 28) (Sq.b 11 495) HT_.out HW_.out hHeld (v := ?_) (a' := ?_) ?_ ?_ ?_
       rotate_left
       ·rintro w' ⟨s0, s1, s2, s3, s4, s5, s6, s7, s8, s9, s10, s11, s12, s13, s14, s15, s16, s17, s18, s19, s20, s21, s22, s23, s24, s25, s26, s27, s28, s29, s30, s31, s32, s33, s34, s35, s36, s37, s38, s39, s40, s41, s42, s43, s44, s45, s46, s47, s48, s49⟩
        first | (refine Eq.trans (Pre.load_run (ty := 25) rfl Z14 Z36 Try.underlying25 rfl Z11) ?_; with_reducible rfl) | (refine Eq.trans (Pre.load_run_a (ty := 25) rfl Z14 Pre.range25 Try.underlying25 rfl Z11) ?_; with_reducible rfl) | (go_simp; with_reducible rfl)
       rotate_left
       ·simp only [Act.put, Sq.s1, Sq.s2, Sq.s3, i64_w, i32_w]
        rfl
       refine one_ (i := 4) (N := some 24) (Sq.b 11 511) rfl rfl (one_of HT_.out Z11) Z21 (fun K hK => ?_)
       refine goes_ Try.func45 Z11 rfl #[.agg #[.int .i64 ((rd_T25 l0 aM).f0), .int .i64 ((rd_T25 l0 aM).f1), .int .i64 ((rd_T25 l0 aM).f2), .string ((rd_T25 l0 aM).f3), .int .i64 ((rd_T25 l0 aM).f4), .int .i64 ((rd_T25 l0 aM).f5), .string ((rd_T25 l0 aM).f6), .int .i64 ((rd_T25 l0 aM).f7), .int .i64 ((rd_T25 l0 aM).f8), .string ((rd_T25 l0 aM).f9), .int .i64 ((rd_T25 l0 aM).f10), .string ((rd_T25 l0 aM).f11), .int .i64 ((rd_T25 l0 aM).f12), .int .i64 ((rd_T25 l0 aM).f13), .int .i64 ((rd_T25 l0 aM).f14), .int .i64 ((rd_T25 l0 aM).f15), .int .i64 ((rd_T25 l0 aM).f16), .int .i64 ((rd_T25 l0 aM).f17), .int .i64 ((rd_T25 l0 aM).f18), .string ((rd_T25 l0 aM).f19), .string ((rd_T25 l0 aM).f20), .slice eI ((rd_T25 l0 aM).f21).length eJ, .int .i64 ((rd_T25 l0 aM).f22), .string ((rd_T25 l0 aM).f23), .slice eK ((rd_T25 l0 aM).f24).length eL]] Z14 rfl rfl Z4 ?_
       with_reducible refine (aodv_Right.calls k1 ((rd_T25 l0 aM).f0) ((rd_T25 l0 aM).f1) ((rd_T25 l0 aM).f2) ((rd_T25 l0 aM).f3) ((rd_T25 l0 aM).f4) ((rd_T25 l0 aM).f5) ((rd_T25 l0 aM).f6) ((rd_T25 l0 aM).f7) ((rd_T25 l0 aM).f8) ((rd_T25 l0 aM).f9) ((rd_T25 l0 aM).f10) ((rd_T25 l0 aM).f11) ((rd_T25 l0 aM).f12) ((rd_T25 l0 aM).f13) ((rd_T25 l0 aM).f14) ((rd_T25 l0 aM).f15) ((rd_T25 l0 aM).f16) ((rd_T25 l0 aM).f17) ((rd_T25 l0 aM).f18) ((rd_T25 l0 aM).f19) ((rd_T25 l0 aM).f20) _ _ ((rd_T25 l0 aM).f21) ((rd_T25 l0 aM).f22) ((rd_T25 l0 aM).f23) _ _ ((rd_T25 l0 aM).f24) bg _ ?side1 ?side2 ?side3 ?side4 A7.out).mono ?_
       (case side1 => exact Z43)
       (case side2 => exact fp.out)
       (case side3 => exact Z42)
       (case side4 => exact fq.out)
       rintro e kt ⟨rfl, hb⟩
       refine ⟨_, rfl, ?_⟩
       have bi := Aside0.mk (below_step Z2 hb)
       clear HB
       have HB := bi
       clear bi
       (try clear hb)
       (try clear hb2)
       (try clear hk)
       (try clear hi)
       refine hK.out _ _ ⟨(Sq.up HB.out hw103_0), (Sq.up HB.out hw103_1), (Sq.up HB.out hw103_2), (Sq.up HB.out hw103_3), (Sq.up HB.out hw103_4), (Sq.up HB.out hw103_5), (Sq.up HB.out hw103_6), (Sq.up HB.out hw103_7), (Sq.up HB.out hw103_8), (Sq.up HB.out hw103_9), (Sq.up HB.out hw103_10), (Sq.up HB.out hw103_11), (Sq.up HB.out hw103_12), (Sq.up HB.out hw103_13), (Sq.up HB.out hw103_14), (Sq.up HB.out hw103_15), (Sq.up HB.out hw103_16), (Sq.up HB.out hw103_17), (Sq.up HB.out hw103_18), (Sq.up HB.out hw103_19), (Sq.up HB.out hw103_20), (Sq.up HB.out hw103_21), (Sq.up HB.out hw103_22), (Sq.up HB.out hw103_23), (Sq.up HB.out hw103_24), (Sq.up HB.out hw105_0), (Sq.up HB.out hw105_1), (Sq.up HB.out hw105_2), (Sq.up HB.out hw105_3), (Sq.up HB.out hw105_4), (Sq.up HB.out hw105_5), (Sq.up HB.out hw105_6), (Sq.up HB.out hw105_7), (Sq.up HB.out hw105_8), (Sq.up HB.out hw105_9), (Sq.up HB.out hw105_10), (Sq.up HB.out hw105_11), (Sq.up HB.out hw105_12), (Sq.up HB.out hw105_13), (Sq.up HB.out hw105_14), (Sq.up HB.out hw105_15), (Sq.up HB.out hw105_16), (Sq.up HB.out hw105_17), (Sq.up HB.out hw105_18), (Sq.up HB.out hw105_19), (Sq.up HB.out hw105_20), (Sq.up HB.out hw105_21), (Sq.up HB.out hw105_22), (Sq.up HB.out hw105_23), (Sq.up HB.out hw105_24)⟩ (fun hHeld => ?_)
       clear hK K
       refine norm_ (a' := ?_) ?_ ?_
       rotate_left
       ·show Act.put _ (some 24) _ = _
        simp only [Act.put, Sq.s1, Sq.s2, Sq.s3, i64_w, i32_w]
        rfl
       refine one_ (i := 9) (N := some 29) (Sq.b 11 1023) rfl rfl (one_of HT_.out Z11) Z21 (fun K hK => ?_)
       refine goes_ Try.func46 Z11 rfl #[.agg #[.int .i64 ((rd_T25 l0 aM).f0), .int .i64 ((rd_T25 l0 aM).f1), .int .i64 ((rd_T25 l0 aM).f2), .string ((rd_T25 l0 aM).f3), .int .i64 ((rd_T25 l0 aM).f4), .int .i64 ((rd_T25 l0 aM).f5), .string ((rd_T25 l0 aM).f6), .int .i64 ((rd_T25 l0 aM).f7), .int .i64 ((rd_T25 l0 aM).f8), .string ((rd_T25 l0 aM).f9), .int .i64 ((rd_T25 l0 aM).f10), .string ((rd_T25 l0 aM).f11), .int .i64 ((rd_T25 l0 aM).f12), .int .i64 ((rd_T25 l0 aM).f13), .int .i64 ((rd_T25 l0 aM).f14), .int .i64 ((rd_T25 l0 aM).f15), .int .i64 ((rd_T25 l0 aM).f16), .int .i64 ((rd_T25 l0 aM).f17), .int .i64 ((rd_T25 l0 aM).f18), .string ((rd_T25 l0 aM).f19), .string ((rd_T25 l0 aM).f20), .slice eI ((rd_T25 l0 aM).f21).length eJ, .int .i64 ((rd_T25 l0 aM).f22), .string ((rd_T25 l0 aM).f23), .slice eK ((rd_T25 l0 aM).f24).length eL]] Z14 rfl rfl Z4 ?_
       with_reducible refine (roadbookref17_Right.calls k1 ((rd_T25 l0 aM).f0) ((rd_T25 l0 aM).f1) ((rd_T25 l0 aM).f2) ((rd_T25 l0 aM).f3) ((rd_T25 l0 aM).f4) ((rd_T25 l0 aM).f5) ((rd_T25 l0 aM).f6) ((rd_T25 l0 aM).f7) ((rd_T25 l0 aM).f8) ((rd_T25 l0 aM).f9) ((rd_T25 l0 aM).f10) ((rd_T25 l0 aM).f11) ((rd_T25 l0 aM).f12) ((rd_T25 l0 aM).f13) ((rd_T25 l0 aM).f14) ((rd_T25 l0 aM).f15) ((rd_T25 l0 aM).f16) ((rd_T25 l0 aM).f17) ((rd_T25 l0 aM).f18) ((rd_T25 l0 aM).f19) ((rd_T25 l0 aM).f20) _ _ ((rd_T25 l0 aM).f21) ((rd_T25 l0 aM).f22) ((rd_T25 l0 aM).f23) _ _ ((rd_T25 l0 aM).f24) aW _ ?side1 ?side2 ?side3 ?side4 A8.out).mono ?_
       (case side1 => exact (by repeat (first | exact (Kd.C_below hQ.out HB.out) | (with_reducible refine Kd.C_alloc ?_ _) | (with_reducible refine Kd.C_drewN ?_ _) | (with_reducible refine Kd.C_drew ?_))))
       (case side2 => exact jA.out)
       (case side3 => exact (by repeat (first | exact (Kd.C_below hR.out HB.out) | (with_reducible refine Kd.C_alloc ?_ _) | (with_reducible refine Kd.C_drewN ?_ _) | (with_reducible refine Kd.C_drew ?_))))
       (case side4 => exact jB.out)
       rintro e ky ⟨rfl, hb⟩
       refine ⟨_, rfl, ?_⟩
       have bi := Aside0.mk (below_step Z2 hb)
       clear HB
       have HB := bi
       clear bi
       (try clear hb)
       (try clear hb2)
       (try clear hk)
       (try clear hi)
       refine hK.out _ _ ⟨(Sq.up HB.out hw103_0), (Sq.up HB.out hw103_1), (Sq.up HB.out hw103_2), (Sq.up HB.out hw103_3), (Sq.up HB.out hw103_4), (Sq.up HB.out hw103_5), (Sq.up HB.out hw103_6), (Sq.up HB.out hw103_7), (Sq.up HB.out hw103_8), (Sq.up HB.out hw103_9), (Sq.up HB.out hw103_10), (Sq.up HB.out hw103_11), (Sq.up HB.out hw103_12), (Sq.up HB.out hw103_13), (Sq.up HB.out hw103_14), (Sq.up HB.out hw103_15), (Sq.up HB.out hw103_16), (Sq.up HB.out hw103_17), (Sq.up HB.out hw103_18), (Sq.up HB.out hw103_19), (Sq.up HB.out hw103_20), (Sq.up HB.out hw103_21), (Sq.up HB.out hw103_22), (Sq.up HB.out hw103_23), (Sq.up HB.out hw103_24), (Sq.up HB.out hw105_0), (Sq.up HB.out hw105_1), (Sq.up HB.out hw105_2), (Sq.up HB.out hw105_3), (Sq.up HB.out hw105_4), (Sq.up HB.out hw105_5), (Sq.up HB.out hw105_6), (Sq.up HB.out hw105_7), (Sq.up HB.out hw105_8), (Sq.up HB.out hw105_9), (Sq.up HB.out hw105_10), (Sq.up HB.out hw105_11), (Sq.up HB.out hw105_12), (Sq.up HB.out hw105_13), (Sq.up HB.out hw105_14), (Sq.up HB.out hw105_15), (Sq.up HB.out hw105_16), (Sq.up HB.out hw105_17), (Sq.up HB.out hw105_18), (Sq.up HB.out hw105_19), (Sq.up HB.out hw105_20), (Sq.up HB.out hw105_21), (Sq.up HB.out hw105_22), (Sq.up HB.out hw105_23), (Sq.up HB.out hw105_24)⟩ (fun hHeld => ?_)
       clear hK K
       refine norm_ (a' := ?_) ?_ ?_
       rotate_left
       ·show Act.put _ (some 29) _ = _
        simp only [Act.put, Sq.s1, Sq.s2, Sq.s3, i64_w, i32_w]
        rfl
       refine Sq.pur 10 (some 30) (Sq.b 11 2047) HT_.out ?_
       refine done_ (done_of HT_.out Z11) ?_
       try go_wp2_with (first | ((with_reducible refine Pre.gate_load 25 rfl ?_); (try (refine gate_guard Z14 ?_; dsimp only)); refine Pre.load_event_a rfl rfl rfl Z14 Pre.range25 Try.underlying25 rfl Z11 ?_))
       go_roundg k1
       case measure => have := HK1.out; omega
       case rel => exact ⟨(wrap64 (aM + 1)), Z10, H', ⟨Z49⟩, ⟨Z2⟩⟩
     ·rw [if_neg c6] at H
      exact absurd H Z35
    ·rw [if_neg c5] at H
     have dx : decide (aM < (l0.length : Int)) = false := decide_eq_false c5
     clear c5
     replace H := Option.bind_eq_some_iff.mp H
     obtain ⟨⟨bX, aH, aQ⟩, hv, H⟩ := H
     replace H : ((roadbookref17_Encode.f k1 l0).bind fun dF => ((roadbooklaw17_awake.f k1).bind fun dg => (if dg = true then (if bX.toList = dF.1.toList then (if aH = dF.2.1 then (some (aQ == dF.2.2)) else (some false)) else (some false)) else (some false)))) = some r := H
     have kl := Aside0.mk hv
     clear hv
     replace H := Option.bind_eq_some_iff.mp H
     obtain ⟨⟨ba, cP, dX⟩, fO, H⟩ := H
     replace H : ((roadbooklaw17_awake.f k1).bind fun dg => (if dg = true then (if bX.toList = ba.toList then (if aH = cP then (some (aQ == dX)) else (some false)) else (some false)) else (some false))) = some r := H
     have jW := Aside0.mk fO
     clear fO
     replace H := Option.bind_eq_some_iff.mp H
     obtain ⟨dg, gp, H⟩ := H
     replace H : (if dg = true then (if bX.toList = ba.toList then (if aH = cP then (some (aQ == dX)) else (some false)) else (some false)) else (some false)) = some r := H
     have jS := Aside0.mk gp
     clear gp
     by_cases dy : dg = true
     ·subst dy
      replace H := Sq.itT H
      by_cases eM : bX.toList = ba.toList
      ·rw [if_pos eM] at H
       have fW : (bX.toList == ba.toList) = true := beq_iff_eq.mpr eM
       have jq : (bX.toList != ba.toList) = false := bne_eq_false_iff_eq.mpr eM
       clear eM
       by_cases ep : aH = cP
       ·rw [if_pos ep] at H
        have fy : (aH == cP) = true := beq_iff_eq.mpr ep
        have gL : (aH != cP) = false := bne_eq_false_iff_eq.mpr ep
        clear ep
        obtain rfl := Option.some.inj H
        go_wp2_with (first | ((with_reducible refine Pre.gate_load 25 rfl ?_); (try (refine gate_guard Z14 ?_; dsimp only)); refine Pre.load_event_a rfl rfl rfl Z14 Pre.range25 Try.underlying25 rfl Z11 ?_) | ((with_reducible refine gate_callee (f := 47) rfl ?_); refine goesL_ (some 33) rfl rfl Try.func47 Z11 rfl #[.slice A0 l0.length c0] rfl Z4 ?_; (with_reducible refine (aodv_Encode.calls k1 _ _ l0 bX aH aQ _ ?side1 ?side2 kl.out).mono ?_); (case side1 => exact Z46); (case side2 => exact gj.out); rintro e lk ⟨rfl, hb⟩; refine ⟨_, rfl, ?_⟩; replace HB := Aside0.mk (below_step Z2 hb); clear hb) | ((with_reducible refine gate_callee (f := 48) rfl ?_); refine goesL_ (some 39) rfl rfl Try.func48 Z11 rfl #[.slice A0 l0.length c0] rfl Z4 ?_; (with_reducible refine (roadbookref17_Encode.calls k1 _ _ l0 ba cP dX _ ?side1 ?side2 jW.out).mono ?_); (case side1 => exact Z46); (case side2 => exact gj.out); rintro e iM ⟨rfl, hb⟩; refine ⟨_, rfl, ?_⟩; replace HB := Aside0.mk (below_step Z2 hb); clear hb) | ((with_reducible refine gate_callee (f := 40) rfl ?_); refine goesL_ (some 43) rfl rfl Try.func40 Z11 rfl #[] rfl Z4 ?_; (with_reducible refine (roadbooklaw17_awake.calls k1  true _ (Aside0.mk (by first | rfl | exact hr_.out)) jS.out).mono ?_); rintro e kY ⟨rfl, hb⟩; refine ⟨_, rfl, ?_⟩; replace HB := Aside0.mk (below_step Z2 hb); clear hb))
        go_ret
        exact ⟨Z6, Z2⟩
       ·rw [if_neg ep] at H
        have fy : (aH == cP) = false := beq_eq_false_iff_ne.mpr ep
        have gL : (aH != cP) = true := bne_iff_ne.mpr ep
        exact absurd (Option.some.inj H) Z45
      ·rw [if_neg eM] at H
       have fW : (bX.toList == ba.toList) = false := beq_eq_false_iff_ne.mpr eM
       have jq : (bX.toList != ba.toList) = true := bne_iff_ne.mpr eM
       exact absurd (Option.some.inj H) Z45
     ·replace dy := Bool.eq_false_iff.mpr dy
      subst dy
      replace H := Sq.itF H
      exact absurd (Option.some.inj H) Z45
 ·replace c3 := Bool.eq_false_iff.mpr c3
  subst c3
  replace H := Sq.itF H
  replace H := Option.bind_eq_some_iff.mp H
  obtain ⟨aU, jj, H⟩ := H
  replace H : (some aU) = some r := H
  have ll := Aside0.mk jj
  clear jj
  obtain rfl := Option.some.inj H
  go_enter Try.func14, Try.ntmps14
  go_wp2_with (first | ((with_reducible refine Pre.gate_load 25 rfl ?_); (try (refine gate_guard Z14 ?_; dsimp only)); refine Pre.load_event_a rfl rfl rfl Z14 Pre.range25 Try.underlying25 rfl Z11 ?_) | ((with_reducible refine gate_callee (f := 44) rfl ?_); refine goesL_ (some 11) rfl rfl Try.func44 Z11 rfl #[.slice A0 l0.length c0, .int .i64 5] rfl Z4 ?_; (with_reducible refine (roadbookref07_FewAll.calls k _ _ l0 5 false _ ?side1 ?side2 A2.out).mono ?_); (case side1 => exact Z22); (case side2 => exact gj.out); rintro e gW ⟨rfl, hb⟩; refine ⟨_, rfl, ?_⟩; replace HB := Aside0.mk (below_step Z2 hb); clear hb) | ((with_reducible refine gate_callee (f := 40) rfl ?_); refine goesL_ (some 13) rfl rfl Try.func40 Z11 rfl #[] rfl Z4 ?_; (with_reducible refine (roadbooklaw17_awake.calls k  aU _ (Aside0.mk (by first | rfl | exact hr_.out)) ll.out).mono ?_); rintro e gJ ⟨rfl, hb⟩; refine ⟨_, rfl, ?_⟩; replace HB := Aside0.mk (below_step Z2 hb); clear hb))
  go_ret
  exact ⟨Z6, Z2⟩

end Go.Proofs.Ytccjakjjaemmkaa.PAE
