-- Written by mp.py, a program of this work (wip/tools), out of the translation; Lean checks it.
import Derived.Test.YtnifhgackjkkbaaPNxZ
import Derived.Test.YtnifhgackjkkbaaPNxEq
import Derived.Test.YtnifhgackjkkbaaLoad
namespace Go.Proofs.Ytnifhgackjkkbaa.PN
open Go.RowKit Go.Proofs.YtnifhgackjkkbaaW.PrintWords Go.Proofs.YtnifhgackjkkbaaW.PrintLast Go.Proofs.YtnifhgackjkkbaaW.PrintMore
attribute [local go_sem] max2_int min2_int max_two min_two max_three min_three max_four min_four   -- for this text's walks alone
set_option linter.unusedVariables false
set_option linter.unusedSimpArgs false

attribute [local go_sem high] eqA66 eqA68
/-! ### roadbookref07_dests: function 41 -/
def roadbookref07_dests.l0 : Nat → List (S66) → List (S66) → Int → Option (Bool)
 | 0, _, _, _ => none
 | k + 1, x0, x1, x5 => if x5 < (x0.length : Int) then (if 0 ≤ x5 then (if x5 < (x1.length : Int) then (if (!((((rd_T66 x0 x5).f0).toList) == (((rd_T66 x1 x5).f0).toList)) || (!(((rd_T66 x0 x5).f1) == ((rd_T66 x1 x5).f1)))) = true then (some false) else (roadbookref07_dests.l0 k x0 x1 (wrap64 (x5 + 1)))) else (none)) else (none)) else (some true)
def roadbookref07_dests.f (k : Nat) (l0 : List (S66)) (l1 : List (S66)) : Option (Bool) := if (l0.length : Int) = (l1.length : Int) then (roadbookref07_dests.l0 k l0 l1 0) else (some false)
theorem roadbookref07_dests.mono_l : ∀ k, (∀ y0 y1 y2, LeO (roadbookref07_dests.l0 k y0 y1 y2) (roadbookref07_dests.l0 (k + 1) y0 y1 y2))
 | 0 => Sq.mz
 | k + 1 => by
  have ih0 := roadbookref07_dests.mono_l k
  ·intros
   unfold roadbookref07_dests.l0
   exact Sq.mo
theorem roadbookref07_dests.mono : ∀ a0 a1 k, LeO (roadbookref07_dests.f k a0 a1) (roadbookref07_dests.f (k + 1) a0 a1) := by
 intro a0 a1 k
 have ih0 := roadbookref07_dests.mono_l k
 unfold roadbookref07_dests.f
 exact Sq.mo
set_option maxHeartbeats 8000000 in
set_option maxRecDepth 100000 in
theorem roadbookref07_dests.calls (k : Nat) (A0 : Option Addr) (c0 : Nat) (l0 : List (S66)) (A1 : Option Addr) (c1 : Nat) (l1 : List (S66)) (r : Bool) (w : World) (fO : Kd.C k66 w A0 l0.length l0) (dY : l0.length ≤ c0) (fP : Kd.C k66 w A1 l1.length l1) (fQ : l1.length ≤ c1) (h : roadbookref07_dests.f k l0 l1 = some r) :
  Calls Try.prog 41 #[.slice A0 l0.length c0, .slice A1 l1.length c1] w fun e w' => e = .returned (.bool r) ∧ Drawn0 w w' := by
 have hu66 := Try.underlying66
 have fR := Aside0.mk fO
 have jD := Aside0.mk dY
 clear fO dY
 have fS := Aside0.mk fP
 have jE := Aside0.mk fQ
 clear fP fQ
 have H : (if (l0.length : Int) = (l1.length : Int) then (roadbookref07_dests.l0 k l0 l1 0) else (some false)) = some r := h
 clear h
 by_cases c3 : (l0.length : Int) = (l1.length : Int)
 ·rw [if_pos c3] at H
  have bY : ((l0.length : Int) == (l1.length : Int)) = true := beq_iff_eq.mpr c3
  have cE : ((l0.length : Int) != (l1.length : Int)) = false := bne_eq_false_iff_eq.mpr c3
  have dU : (l0.length == l1.length) = true := by first | simpa using c3 | (simp at c3 ⊢; omega)
  clear c3
  have H' := Aside0.mk H
  clear H
  go_enter Try.func41, Try.ntmps41
  go_wp2
  repeat (go_quiet (fail); try go_wp2)
  go_loopg [5] k (fun kq v5 w' => ∃ (aa : Int), v5 = .int .i64 aa ∧ Aside0 (roadbookref07_dests.l0 kq l0 l1 aa = some r) ∧ Aside0 (kq ≤ k) ∧ Drawn0 w w')
  case atStart => exact ⟨(0), Z7, H', ⟨Nat.le_refl _⟩, Z10⟩
  case round =>
   clear H'
   try clear c1
   try clear p2
   try clear c3
   try clear bY
   try clear cE
   try clear dU
   obtain ⟨aa, rfl, HA, HK1, ⟨m1, rfl⟩⟩ := hrel
   cases gk with
   | zero => exact absurd HA.out (by simp [roadbookref07_dests.l0])
   | succ k1 =>
    have H := HA.out
    clear HA
    simp only [roadbookref07_dests.l0] at H
    by_cases c4 : aa < (l0.length : Int)
    ·rw [if_pos c4] at H
     have cG : decide (aa < (l0.length : Int)) = true := decide_eq_true c4
     clear c4
     by_cases c5 : 0 ≤ aa
     ·rw [if_pos c5] at H
      have cY : decide (0 ≤ aa) = true := decide_eq_true c5
      clear c5
      by_cases c6 : aa < (l1.length : Int)
      ·rw [if_pos c6] at H
       have fc : decide (aa < (l1.length : Int)) = true := decide_eq_true c6
       clear c6
       by_cases c7 : (!((((rd_T66 l0 aa).f0).toList) == (((rd_T66 l1 aa).f0).toList)) || (!(((rd_T66 l0 aa).f1) == ((rd_T66 l1 aa).f1)))) = true
       ·rw [if_pos c7] at H
        have dn : (!((((rd_T66 l0 aa).f0).toList) == (((rd_T66 l1 aa).f0).toList)) || (!(((rd_T66 l0 aa).f1) == ((rd_T66 l1 aa).f1)))) = true := c7
        clear c7
        obtain rfl := Option.some.inj H
        have p101 : 0 ≤ (aa : Int) := of_decide_eq_true Z5
        have q101 : aa < (l0.length : Int) := of_decide_eq_true Z5
        obtain ⟨ad101, e101, hx101_0, hx101_1⟩ := at_T66 fR.out aa p101 q101
        cases e101
        replace p101 := eq_true p101
        replace q101 := eq_true q101
        have p102 : 0 ≤ (aa : Int) := of_decide_eq_true Z5
        have q102 : aa < (l1.length : Int) := of_decide_eq_true Z5
        obtain ⟨ad102, e102, hx102_0, hx102_1⟩ := at_T66 fS.out aa p102 q102
        cases e102
        replace p102 := eq_true p102
        replace q102 := eq_true q102
        go_wp2
        repeat (go_quiet (fail); try go_wp2)
        go_ret
        exact ⟨Z7, Z10⟩
       ·rw [if_neg c7] at H
        have dn : (!((((rd_T66 l0 aa).f0).toList) == (((rd_T66 l1 aa).f0).toList)) || (!(((rd_T66 l0 aa).f1) == ((rd_T66 l1 aa).f1)))) = false := by first | exact Bool.eq_false_iff.mpr c7 | simpa using c7
        clear c7
        have H' := Aside0.mk H
        clear H
        have p101 : 0 ≤ (aa : Int) := of_decide_eq_true Z5
        have q101 : aa < (l0.length : Int) := of_decide_eq_true Z5
        obtain ⟨ad101, e101, hx101_0, hx101_1⟩ := at_T66 fR.out aa p101 q101
        cases e101
        replace p101 := eq_true p101
        replace q101 := eq_true q101
        have p102 : 0 ≤ (aa : Int) := of_decide_eq_true Z5
        have q102 : aa < (l1.length : Int) := of_decide_eq_true Z5
        obtain ⟨ad102, e102, hx102_0, hx102_1⟩ := at_T66 fS.out aa p102 q102
        cases e102
        replace p102 := eq_true p102
        replace q102 := eq_true q102
        go_wp2
        repeat (go_quiet (fail); try go_wp2)
        go_roundg k1
        case measure => have := HK1.out; omega
        case rel => exact ⟨(wrap64 (aa + 1)), Z7, H', ⟨by have := HK1.out; omega⟩, Z10⟩
      ·rw [if_neg c6] at H
       exact absurd H Z36
     ·rw [if_neg c5] at H
      exact absurd H Z36
    ·rw [if_neg c4] at H
     have cG : decide (aa < (l0.length : Int)) = false := decide_eq_false c4
     clear c4
     obtain rfl := Option.some.inj H
     go_wp2
     repeat (go_quiet (fail); try go_wp2)
     go_ret
     exact ⟨Z7, Z10⟩
 ·rw [if_neg c3] at H
  have bY : ((l0.length : Int) == (l1.length : Int)) = false := beq_eq_false_iff_ne.mpr c3
  have cE : ((l0.length : Int) != (l1.length : Int)) = true := bne_iff_ne.mpr c3
  have dU : (l0.length == l1.length) = false := by first | simpa using c3 | (simp at c3 ⊢; omega)
  obtain rfl := Option.some.inj H
  go_enter Try.func41, Try.ntmps41
  go_wp2
  repeat (go_quiet (fail); try go_wp2)
  go_ret
  exact ⟨Z7, Z10⟩

/-! ### roadbookref07_subs: function 42 -/
def roadbookref07_subs.l0 : Nat → List (S68) → List (S68) → Int → Option (Bool)
 | 0, _, _, _ => none
 | k + 1, x0, x1, x5 => if x5 < (x0.length : Int) then (if 0 ≤ x5 then (if x5 < (x1.length : Int) then (if (!(((rd_T68 x0 x5).f0) == ((rd_T68 x1 x5).f0)) || (!((((rd_T68 x0 x5).f1).toList) == (((rd_T68 x1 x5).f1).toList)))) = true then (some false) else (roadbookref07_subs.l0 k x0 x1 (wrap64 (x5 + 1)))) else (none)) else (none)) else (some true)
def roadbookref07_subs.f (k : Nat) (l0 : List (S68)) (l1 : List (S68)) : Option (Bool) := if (l0.length : Int) = (l1.length : Int) then (roadbookref07_subs.l0 k l0 l1 0) else (some false)
theorem roadbookref07_subs.mono_l : ∀ k, (∀ y0 y1 y2, LeO (roadbookref07_subs.l0 k y0 y1 y2) (roadbookref07_subs.l0 (k + 1) y0 y1 y2))
 | 0 => Sq.mz
 | k + 1 => by
  have ih0 := roadbookref07_subs.mono_l k
  ·intros
   unfold roadbookref07_subs.l0
   exact Sq.mo
theorem roadbookref07_subs.mono : ∀ a0 a1 k, LeO (roadbookref07_subs.f k a0 a1) (roadbookref07_subs.f (k + 1) a0 a1) := by
 intro a0 a1 k
 have ih0 := roadbookref07_subs.mono_l k
 unfold roadbookref07_subs.f
 exact Sq.mo
set_option maxHeartbeats 8000000 in
set_option maxRecDepth 100000 in
theorem roadbookref07_subs.calls (k : Nat) (A0 : Option Addr) (c0 : Nat) (l0 : List (S68)) (A1 : Option Addr) (c1 : Nat) (l1 : List (S68)) (r : Bool) (w : World) (fO : Kd.C k68 w A0 l0.length l0) (dY : l0.length ≤ c0) (fP : Kd.C k68 w A1 l1.length l1) (fQ : l1.length ≤ c1) (h : roadbookref07_subs.f k l0 l1 = some r) :
  Calls Try.prog 42 #[.slice A0 l0.length c0, .slice A1 l1.length c1] w fun e w' => e = .returned (.bool r) ∧ Drawn0 w w' := by
 have hu68 := Try.underlying68
 have fR := Aside0.mk fO
 have jD := Aside0.mk dY
 clear fO dY
 have fS := Aside0.mk fP
 have jE := Aside0.mk fQ
 clear fP fQ
 have H : (if (l0.length : Int) = (l1.length : Int) then (roadbookref07_subs.l0 k l0 l1 0) else (some false)) = some r := h
 clear h
 by_cases c3 : (l0.length : Int) = (l1.length : Int)
 ·rw [if_pos c3] at H
  have bY : ((l0.length : Int) == (l1.length : Int)) = true := beq_iff_eq.mpr c3
  have cE : ((l0.length : Int) != (l1.length : Int)) = false := bne_eq_false_iff_eq.mpr c3
  have dU : (l0.length == l1.length) = true := by first | simpa using c3 | (simp at c3 ⊢; omega)
  clear c3
  have H' := Aside0.mk H
  clear H
  go_enter Try.func42, Try.ntmps42
  go_wp2
  repeat (go_quiet (fail); try go_wp2)
  go_loopg [5] k (fun kq v5 w' => ∃ (aa : Int), v5 = .int .i64 aa ∧ Aside0 (roadbookref07_subs.l0 kq l0 l1 aa = some r) ∧ Aside0 (kq ≤ k) ∧ Drawn0 w w')
  case atStart => exact ⟨(0), Z7, H', ⟨Nat.le_refl _⟩, Z10⟩
  case round =>
   clear H'
   try clear c1
   try clear p2
   try clear c3
   try clear bY
   try clear cE
   try clear dU
   obtain ⟨aa, rfl, HA, HK1, ⟨m1, rfl⟩⟩ := hrel
   cases gk with
   | zero => exact absurd HA.out (by simp [roadbookref07_subs.l0])
   | succ k1 =>
    have H := HA.out
    clear HA
    simp only [roadbookref07_subs.l0] at H
    by_cases c4 : aa < (l0.length : Int)
    ·rw [if_pos c4] at H
     have cG : decide (aa < (l0.length : Int)) = true := decide_eq_true c4
     clear c4
     by_cases c5 : 0 ≤ aa
     ·rw [if_pos c5] at H
      have cY : decide (0 ≤ aa) = true := decide_eq_true c5
      clear c5
      by_cases c6 : aa < (l1.length : Int)
      ·rw [if_pos c6] at H
       have fc : decide (aa < (l1.length : Int)) = true := decide_eq_true c6
       clear c6
       by_cases c7 : (!(((rd_T68 l0 aa).f0) == ((rd_T68 l1 aa).f0)) || (!((((rd_T68 l0 aa).f1).toList) == (((rd_T68 l1 aa).f1).toList)))) = true
       ·rw [if_pos c7] at H
        have dn : (!(((rd_T68 l0 aa).f0) == ((rd_T68 l1 aa).f0)) || (!((((rd_T68 l0 aa).f1).toList) == (((rd_T68 l1 aa).f1).toList)))) = true := c7
        clear c7
        obtain rfl := Option.some.inj H
        have p101 : 0 ≤ (aa : Int) := of_decide_eq_true Z5
        have q101 : aa < (l0.length : Int) := of_decide_eq_true Z5
        obtain ⟨ad101, e101, hx101_0, hx101_1⟩ := at_T68 fR.out aa p101 q101
        cases e101
        replace p101 := eq_true p101
        replace q101 := eq_true q101
        have p102 : 0 ≤ (aa : Int) := of_decide_eq_true Z5
        have q102 : aa < (l1.length : Int) := of_decide_eq_true Z5
        obtain ⟨ad102, e102, hx102_0, hx102_1⟩ := at_T68 fS.out aa p102 q102
        cases e102
        replace p102 := eq_true p102
        replace q102 := eq_true q102
        go_wp2
        repeat (go_quiet (fail); try go_wp2)
        go_ret
        exact ⟨Z7, Z10⟩
       ·rw [if_neg c7] at H
        have dn : (!(((rd_T68 l0 aa).f0) == ((rd_T68 l1 aa).f0)) || (!((((rd_T68 l0 aa).f1).toList) == (((rd_T68 l1 aa).f1).toList)))) = false := by first | exact Bool.eq_false_iff.mpr c7 | simpa using c7
        clear c7
        have H' := Aside0.mk H
        clear H
        have p101 : 0 ≤ (aa : Int) := of_decide_eq_true Z5
        have q101 : aa < (l0.length : Int) := of_decide_eq_true Z5
        obtain ⟨ad101, e101, hx101_0, hx101_1⟩ := at_T68 fR.out aa p101 q101
        cases e101
        replace p101 := eq_true p101
        replace q101 := eq_true q101
        have p102 : 0 ≤ (aa : Int) := of_decide_eq_true Z5
        have q102 : aa < (l1.length : Int) := of_decide_eq_true Z5
        obtain ⟨ad102, e102, hx102_0, hx102_1⟩ := at_T68 fS.out aa p102 q102
        cases e102
        replace p102 := eq_true p102
        replace q102 := eq_true q102
        go_wp2
        repeat (go_quiet (fail); try go_wp2)
        go_roundg k1
        case measure => have := HK1.out; omega
        case rel => exact ⟨(wrap64 (aa + 1)), Z7, H', ⟨by have := HK1.out; omega⟩, Z10⟩
      ·rw [if_neg c6] at H
       exact absurd H Z36
     ·rw [if_neg c5] at H
      exact absurd H Z36
    ·rw [if_neg c4] at H
     have cG : decide (aa < (l0.length : Int)) = false := decide_eq_false c4
     clear c4
     obtain rfl := Option.some.inj H
     go_wp2
     repeat (go_quiet (fail); try go_wp2)
     go_ret
     exact ⟨Z7, Z10⟩
 ·rw [if_neg c3] at H
  have bY : ((l0.length : Int) == (l1.length : Int)) = false := beq_eq_false_iff_ne.mpr c3
  have cE : ((l0.length : Int) != (l1.length : Int)) = true := bne_iff_ne.mpr c3
  have dU : (l0.length == l1.length) = false := by first | simpa using c3 | (simp at c3 ⊢; omega)
  obtain rfl := Option.some.inj H
  go_enter Try.func42, Try.ntmps42
  go_wp2
  repeat (go_quiet (fail); try go_wp2)
  go_ret
  exact ⟨Z7, Z10⟩

/-! ### roadbookref07_Few: function 26 -/
mutual
def roadbookref07_Few.j0 : Nat → Bool → Int → Int → Int → ByteArray → Int → Int → ByteArray → Int → Int → ByteArray → Int → ByteArray → Int → Int → Int → Int → Int → Int → Int → ByteArray → ByteArray → List (S66) → Int → ByteArray → List (S68) → Option (Bool)
 | 0, _, _, _, _, _, _, _, _, _, _, _, _, _, _, _, _, _, _, _, _, _, _, _, _, _, _ => none
 | k + 1, x50, bN, bO, bP, bQ, bR, bS, bo, br, bT, bp, bq, bs, bu, bv, bw, bx, bA, bB, bC, bD, bE, bF, bG, bH, bI => if x50 = true then (some false) else (roadbookref07_Few.l0 k 0 bN bO bP bQ bR bS bo br bT bp bq bs bu bv bw bx bA bB bC bD bE bF bG bH bI)
def roadbookref07_Few.l0 : Nat → Int → Int → Int → Int → ByteArray → Int → Int → ByteArray → Int → Int → ByteArray → Int → ByteArray → Int → Int → Int → Int → Int → Int → Int → ByteArray → ByteArray → List (S66) → Int → ByteArray → List (S68) → Option (Bool)
 | 0, _, _, _, _, _, _, _, _, _, _, _, _, _, _, _, _, _, _, _, _, _, _, _, _, _, _ => none
 | k + 1, x3, bN, bO, bP, bQ, bR, bS, bo, br, bT, bp, bq, bs, bu, bv, bw, bx, bA, bB, bC, bD, bE, bF, bG, bH, bI => if x3 < (bF.length : Int) then (if 0 ≤ x3 then (if (((rd_T66 bF x3).f0).size : Int) > 50 then (some false) else (roadbookref07_Few.l0 k (wrap64 (x3 + 1)) bN bO bP bQ bR bS bo br bT bp bq bs bu bv bw bx bA bB bC bD bE bF bG bH bI)) else (none)) else (roadbookref07_Few.l1 k 0 bN bO bP bQ bR bS bo br bT bp bq bs bu bv bw bx bA bB bC bD bE bF bG bH bI)
def roadbookref07_Few.l1 : Nat → Int → Int → Int → Int → ByteArray → Int → Int → ByteArray → Int → Int → ByteArray → Int → ByteArray → Int → Int → Int → Int → Int → Int → Int → ByteArray → ByteArray → List (S66) → Int → ByteArray → List (S68) → Option (Bool)
 | 0, _, _, _, _, _, _, _, _, _, _, _, _, _, _, _, _, _, _, _, _, _, _, _, _, _, _ => none
 | k + 1, x4, bN, bO, bP, bQ, bR, bS, bo, br, bT, bp, bq, bs, bu, bv, bw, bx, bA, bB, bC, bD, bE, bF, bG, bH, bI => if x4 < (bI.length : Int) then (if 0 ≤ x4 then (if (((rd_T68 bI x4).f1).size : Int) > 300 then (some false) else (roadbookref07_Few.l1 k (wrap64 (x4 + 1)) bN bO bP bQ bR bS bo br bT bp bq bs bu bv bw bx bA bB bC bD bE bF bG bH bI)) else (none)) else (some true)
end
def roadbookref07_Few.f (k : Nat) (aA : Int) (aq : Int) (ar : Int) (av : ByteArray) (aw : Int) (ax : Int) (aC : ByteArray) (aD : Int) (ay : Int) (az : ByteArray) (ag : Int) (ai : ByteArray) (ao : Int) (ac : Int) (ap : Int) (an : Int) (ak : Int) (al : Int) (ae : Int) (am : ByteArray) (aj : ByteArray) (ab : List (S66)) (af : Int) (ah : ByteArray) (au : List (S68)) : Option (Bool) := if (ab.length : Int) > 300 then (roadbookref07_Few.j0 k true aA aq ar av aw ax aC aD ay az ag ai ao ac ap an ak al ae am aj ab af ah au) else (if (au.length : Int) > 60 then (roadbookref07_Few.j0 k true aA aq ar av aw ax aC aD ay az ag ai ao ac ap an ak al ae am aj ab af ah au) else (if (wrap64 ((av.size : Int) + (aC.size : Int))) > 200 then (roadbookref07_Few.j0 k true aA aq ar av aw ax aC aD ay az ag ai ao ac ap an ak al ae am aj ab af ah au) else (if (wrap64 ((az.size : Int) + (ai.size : Int))) > 200 then (roadbookref07_Few.j0 k true aA aq ar av aw ax aC aD ay az ag ai ao ac ap an ak al ae am aj ab af ah au) else (if (wrap64 ((am.size : Int) + (aj.size : Int))) > 200 then (roadbookref07_Few.j0 k true aA aq ar av aw ax aC aD ay az ag ai ao ac ap an ak al ae am aj ab af ah au) else (roadbookref07_Few.j0 k (decide ((ah.size : Int) > 300)) aA aq ar av aw ax aC aD ay az ag ai ao ac ap an ak al ae am aj ab af ah au)))))
theorem roadbookref07_Few.mono_l : ∀ k, (∀ y0 y1 y2 y3 y4 y5 y6 y7 y8 y9 el em en eo ep er es et eu ev ew ex ey ez eA eB, LeO (roadbookref07_Few.j0 k y0 y1 y2 y3 y4 y5 y6 y7 y8 y9 el em en eo ep er es et eu ev ew ex ey ez eA eB) (roadbookref07_Few.j0 (k + 1) y0 y1 y2 y3 y4 y5 y6 y7 y8 y9 el em en eo ep er es et eu ev ew ex ey ez eA eB)) ∧ (∀ y0 y1 y2 y3 y4 y5 y6 y7 y8 y9 el em en eo ep er es et eu ev ew ex ey ez eA eB, LeO (roadbookref07_Few.l0 k y0 y1 y2 y3 y4 y5 y6 y7 y8 y9 el em en eo ep er es et eu ev ew ex ey ez eA eB) (roadbookref07_Few.l0 (k + 1) y0 y1 y2 y3 y4 y5 y6 y7 y8 y9 el em en eo ep er es et eu ev ew ex ey ez eA eB)) ∧ (∀ y0 y1 y2 y3 y4 y5 y6 y7 y8 y9 el em en eo ep er es et eu ev ew ex ey ez eA eB, LeO (roadbookref07_Few.l1 k y0 y1 y2 y3 y4 y5 y6 y7 y8 y9 el em en eo ep er es et eu ev ew ex ey ez eA eB) (roadbookref07_Few.l1 (k + 1) y0 y1 y2 y3 y4 y5 y6 y7 y8 y9 el em en eo ep er es et eu ev ew ex ey ez eA eB))
 | 0 => ⟨Sq.mz, Sq.mz, Sq.mz⟩
 | k + 1 => by
  obtain ⟨ih0, ih1, ih2⟩ := roadbookref07_Few.mono_l k
  refine ⟨?_, ?_, ?_⟩
  ·intros
   unfold roadbookref07_Few.j0
   exact Sq.mo
  ·intros
   unfold roadbookref07_Few.l0
   exact Sq.mo
  ·intros
   unfold roadbookref07_Few.l1
   exact Sq.mo
theorem roadbookref07_Few.mono : ∀ a0 a1 a2 a3 a4 a5 a6 a7 a8 a9 gI gJ gK gL gM gN gO gP gQ gR gS gT gU gV gW k, LeO (roadbookref07_Few.f k a0 a1 a2 a3 a4 a5 a6 a7 a8 a9 gI gJ gK gL gM gN gO gP gQ gR gS gT gU gV gW) (roadbookref07_Few.f (k + 1) a0 a1 a2 a3 a4 a5 a6 a7 a8 a9 gI gJ gK gL gM gN gO gP gQ gR gS gT gU gV gW) := by
 intros
 rename_i k
 obtain ⟨ih0, ih1, ih2⟩ := roadbookref07_Few.mono_l k
 unfold roadbookref07_Few.f
 exact Sq.mo
set_option maxHeartbeats 8000000 in
set_option maxRecDepth 100000 in
theorem roadbookref07_Few.calls (k : Nat) (aA : Int) (aq : Int) (ar : Int) (av : ByteArray) (aw : Int) (ax : Int) (aC : ByteArray) (aD : Int) (ay : Int) (az : ByteArray) (ag : Int) (ai : ByteArray) (ao : Int) (ac : Int) (ap : Int) (an : Int) (ak : Int) (al : Int) (ae : Int) (am : ByteArray) (aj : ByteArray) (bZ : Option Addr) (ca : Nat) (ab : List (S66)) (af : Int) (ah : ByteArray) (cC : Option Addr) (cD : Nat) (au : List (S68)) (r : Bool) (w : World) (cM : Kd.C k66 w bZ ab.length ab) (cN : ab.length ≤ ca) (cO : Kd.C k68 w cC au.length au) (cP : au.length ≤ cD) (h : roadbookref07_Few.f k aA aq ar av aw ax aC aD ay az ag ai ao ac ap an ak al ae am aj ab af ah au = some r) :
  Calls Try.prog 26 #[.agg #[.int .i64 aA, .int .i64 aq, .int .i64 ar, .string av, .int .i64 aw, .int .i64 ax, .string aC, .int .i64 aD, .int .i64 ay, .string az, .int .i64 ag, .string ai, .int .i64 ao, .int .i64 ac, .int .i64 ap, .int .i64 an, .int .i64 ak, .int .i64 al, .int .i64 ae, .string am, .string aj, .slice bZ ab.length ca, .int .i64 af, .string ah, .slice cC au.length cD]] w fun e w' => e = .returned (.bool r) ∧ Below w.heap.size w w' := by
 have fu := Try.underlying34
 have dZ := Aside0.mk cM
 have cU := Aside0.mk cN
 clear cM cN
 have dI := Aside0.mk cO
 have cZ := Aside0.mk cP
 clear cO cP
 have HB := Aside0.mk (Below.refl w.heap.size w)
 have H : (if (ab.length : Int) > 300 then (roadbookref07_Few.j0 k true aA aq ar av aw ax aC aD ay az ag ai ao ac ap an ak al ae am aj ab af ah au) else (if (au.length : Int) > 60 then (roadbookref07_Few.j0 k true aA aq ar av aw ax aC aD ay az ag ai ao ac ap an ak al ae am aj ab af ah au) else (if (wrap64 ((av.size : Int) + (aC.size : Int))) > 200 then (roadbookref07_Few.j0 k true aA aq ar av aw ax aC aD ay az ag ai ao ac ap an ak al ae am aj ab af ah au) else (if (wrap64 ((az.size : Int) + (ai.size : Int))) > 200 then (roadbookref07_Few.j0 k true aA aq ar av aw ax aC aD ay az ag ai ao ac ap an ak al ae am aj ab af ah au) else (if (wrap64 ((am.size : Int) + (aj.size : Int))) > 200 then (roadbookref07_Few.j0 k true aA aq ar av aw ax aC aD ay az ag ai ao ac ap an ak al ae am aj ab af ah au) else (roadbookref07_Few.j0 k (decide ((ah.size : Int) > 300)) aA aq ar av aw ax aC aD ay az ag ai ao ac ap an ak al ae am aj ab af ah au)))))) = some r := h
 clear h
 have jv := Aside0.mk H
 clear H
 go_enter Try.func26, Try.ntmps26
 go_upto_region 1 with (first | ((with_reducible refine gate_dst (N := 1) rfl ?_); (try (refine gate_guard Z27 ?_; dsimp only)); refine Sq.box 1 #[.int .i64 aA, .int .i64 aq, .int .i64 ar, .string av, .int .i64 aw, .int .i64 ax, .string aC, .int .i64 aD, .int .i64 ay, .string az, .int .i64 ag, .string ai, .int .i64 ao, .int .i64 ac, .int .i64 ap, .int .i64 an, .int .i64 ak, .int .i64 al, .int .i64 ae, .string am, .string aj, .slice bZ ab.length ca, .int .i64 af, .string ah, .slice cC au.length cD] 34 ?_; intro aE hg w3 hbox hb; have aG := Aside0.mk (hbox); have cS := Aside0.mk (Sq.ge hg Z0); have cL := Aside0.mk (Sq.ge hg Z0); replace HB := Aside0.mk (below_step Z0 hb); clear hb hbox hg))
 (try simp only [Act.put, Sq.s1, Sq.s2, Sq.s3])
 go_cut [50] (fun v50 wc => ∃ (kq : Nat) (x50_1 : Bool), v50 = .bool x50_1 ∧ Aside0 (roadbookref07_Few.j0 kq x50_1 aA aq ar av aw ax aC aD ay az ag ai ao ac ap an ak al ae am aj ab af ah au = some r) ∧ Aside0 (kq ≤ k) ∧ Aside0 (wc.heap[aE]? = some (.cells #[.int .i64 aA, .int .i64 aq, .int .i64 ar, .string av, .int .i64 aw, .int .i64 ax, .string aC, .int .i64 aD, .int .i64 ay, .string az, .int .i64 ag, .string ai, .int .i64 ao, .int .i64 ac, .int .i64 ap, .int .i64 an, .int .i64 ak, .int .i64 al, .int .i64 ae, .string am, .string aj, (.slice bZ ab.length ca), .int .i64 af, .string ah, (.slice cC au.length cD)] 34 (0, 0))) ∧ Aside0 (Below w.heap.size w wc))
 case first =>
  have H := jv.out
  clear jv
  by_cases c4 : (ab.length : Int) > 300
  ·rw [if_pos c4] at H
   have cG : decide (300 < (ab.length : Int)) = true := decide_eq_true c4
   have dG : decide (300 < ab.length) = true := decide_eq_true Z25
   clear c4
   (first | rw [cG] | (simp only [i64_w, i32_w]; rw [cG]) | skip)
   have H' := Aside0.mk H
   clear H
   have hcz5 := cells_25 aG.out
   go_wp2
   go_meet
   case rel => exact ⟨_, (true), Z7, H', ⟨Z34⟩, ⟨Z6⟩, ⟨Z3⟩⟩
  ·rw [if_neg c4] at H
   have cG : decide (300 < (ab.length : Int)) = false := decide_eq_false c4
   have dG : decide (300 < ab.length) = false := decide_eq_false Z25
   clear c4
   (first | rw [cG] | (simp only [i64_w, i32_w]; rw [cG]) | skip)
   by_cases c6 : (au.length : Int) > 60
   ·rw [if_pos c6] at H
    have fc : decide (60 < (au.length : Int)) = true := decide_eq_true c6
    have iO : decide (60 < au.length) = true := decide_eq_true Z25
    clear c6
    have H' := Aside0.mk H
    clear H
    have hcz7 := cells_25 aG.out
    go_wp2
    go_meet
    case rel => exact ⟨_, (true), Z7, H', ⟨Z34⟩, ⟨Z6⟩, ⟨Z3⟩⟩
   ·rw [if_neg c6] at H
    have fc : decide (60 < (au.length : Int)) = false := decide_eq_false c6
    have iO : decide (60 < au.length) = false := decide_eq_false Z25
    clear c6
    by_cases c8 : (wrap64 ((av.size : Int) + (aC.size : Int))) > 200
    ·rw [if_pos c8] at H
     have dS : decide (200 < (wrap64 ((av.size : Int) + (aC.size : Int)))) = true := decide_eq_true c8
     clear c8
     have H' := Aside0.mk H
     clear H
     have jt := cells_25 aG.out
     go_wp2
     go_meet
     case rel => exact ⟨_, (true), Z7, H', ⟨Z34⟩, ⟨Z6⟩, ⟨Z3⟩⟩
    ·rw [if_neg c8] at H
     have dS : decide (200 < (wrap64 ((av.size : Int) + (aC.size : Int)))) = false := decide_eq_false c8
     clear c8
     by_cases cR : (wrap64 ((az.size : Int) + (ai.size : Int))) > 200
     ·rw [if_pos cR] at H
      have dl : decide (200 < (wrap64 ((az.size : Int) + (ai.size : Int)))) = true := decide_eq_true cR
      clear cR
      have H' := Aside0.mk H
      clear H
      have hcz11 := cells_25 aG.out
      go_wp2
      go_meet
      case rel => exact ⟨_, (true), Z7, H', ⟨Z34⟩, ⟨Z6⟩, ⟨Z3⟩⟩
     ·rw [if_neg cR] at H
      have dl : decide (200 < (wrap64 ((az.size : Int) + (ai.size : Int)))) = false := decide_eq_false cR
      clear cR
      by_cases dm : (wrap64 ((am.size : Int) + (aj.size : Int))) > 200
      ·rw [if_pos dm] at H
       have dE : decide (200 < (wrap64 ((am.size : Int) + (aj.size : Int)))) = true := decide_eq_true dm
       clear dm
       have H' := Aside0.mk H
       clear H
       have hcz13 := cells_25 aG.out
       go_wp2
       go_meet
       case rel => exact ⟨_, (true), Z7, H', ⟨Z34⟩, ⟨Z6⟩, ⟨Z3⟩⟩
      ·rw [if_neg dm] at H
       have dE : decide (200 < (wrap64 ((am.size : Int) + (aj.size : Int)))) = false := decide_eq_false dm
       clear dm
       have H' := Aside0.mk H
       clear H
       have hcz14 := cells_25 aG.out
       go_wp2
       go_meet
       case rel => exact ⟨_, (decide ((ah.size : Int) > 300)), Z7, H', ⟨Z34⟩, ⟨Z6⟩, ⟨Z3⟩⟩
 case rest =>
  clear jv
  try clear c2
  try clear p6
  obtain ⟨kq, x50_1, rfl, HA, ka, aG, HB⟩ := hcut
  cases kq with
  | zero => exact absurd HA.out (by simp [roadbookref07_Few.j0])
  | succ kj1 =>
   have H := HA.out
   clear HA
   simp only [roadbookref07_Few.j0] at H
   by_cases c15 : x50_1 = true
   ·subst c15
    replace H := Sq.itT H
    obtain rfl := Option.some.inj H
    go_wp2
    go_ret
    exact ⟨Z2, Z3⟩
   ·replace c15 := Bool.eq_false_iff.mpr c15
    subst c15
    replace H := Sq.itF H
    have H' := Aside0.mk H
    clear H
    go_wp2
    go_loopg [3] kj1 (fun kq v3 w' => ∃ (x3_2 : Int), v3 = .int .i64 x3_2 ∧ Aside0 (roadbookref07_Few.l0 kq x3_2 aA aq ar av aw ax aC aD ay az ag ai ao ac ap an ak al ae am aj ab af ah au = some r) ∧ Aside0 (kq ≤ kj1) ∧ Aside0 (w'.heap[aE]? = some (.cells #[.int .i64 aA, .int .i64 aq, .int .i64 ar, .string av, .int .i64 aw, .int .i64 ax, .string aC, .int .i64 aD, .int .i64 ay, .string az, .int .i64 ag, .string ai, .int .i64 ao, .int .i64 ac, .int .i64 ap, .int .i64 an, .int .i64 ak, .int .i64 al, .int .i64 ae, .string am, .string aj, (.slice bZ ab.length ca), .int .i64 af, .string ah, (.slice cC au.length cD)] 34 (0, 0))) ∧ Aside0 (Below w.heap.size w w'))
    case atStart => exact ⟨(0), Z7, H', ⟨Nat.le_refl _⟩, ⟨Z6⟩, ⟨Z3⟩⟩
    case round =>
     clear H'
     try clear c1
     try clear c2
     try clear p2
     try clear c4
     try clear cG
     try clear dG
     try clear c6
     try clear fc
     try clear iO
     try clear p6
     try clear c8
     try clear c15
     try clear hcz5
     try clear hcz7
     try clear p6
     obtain ⟨x3_2, rfl, HA, HK2, aG, HB⟩ := hrel
     cases gk with
     | zero => exact absurd HA.out (by simp [roadbookref07_Few.l0])
     | succ k2 =>
      have H := HA.out
      clear HA
      simp only [roadbookref07_Few.l0] at H
      by_cases dX : x3_2 < (ab.length : Int)
      ·rw [if_pos dX] at H
       have eK : decide (x3_2 < (ab.length : Int)) = true := decide_eq_true dX
       clear dX
       by_cases eE : 0 ≤ x3_2
       ·rw [if_pos eE] at H
        have eF : decide (0 ≤ x3_2) = true := decide_eq_true eE
        clear eE
        by_cases c18 : (((rd_T66 ab x3_2).f0).size : Int) > 50
        ·rw [if_pos c18] at H
         have c18b0 : decide (50 < (((rd_T66 ab x3_2).f0).size : Int)) = true := decide_eq_true c18
         have c18b1 : decide (50 < ((rd_T66 ab x3_2).f0).size) = true := decide_eq_true Z25
         clear c18
         obtain rfl := Option.some.inj H
         have hcz19 := cells_25 aG.out
         have p102 : 0 ≤ (x3_2 : Int) := of_decide_eq_true Z5
         have q102 : x3_2 < (ab.length : Int) := of_decide_eq_true Z5
         obtain ⟨ad102, e102, hx102_0, hx102_1⟩ := at_T66 dZ.out x3_2 p102 q102
         cases e102
         replace hx102_0 := Sq.up HB.out hx102_0
         replace hx102_1 := Sq.up HB.out hx102_1
         replace p102 := eq_true p102
         replace q102 := eq_true q102
         go_wp2
         go_ret
         exact ⟨Z2, Z3⟩
        ·rw [if_neg c18] at H
         have c18b0 : decide (50 < (((rd_T66 ab x3_2).f0).size : Int)) = false := decide_eq_false c18
         have c18b1 : decide (50 < ((rd_T66 ab x3_2).f0).size) = false := decide_eq_false Z25
         clear c18
         have H' := Aside0.mk H
         clear H
         have fT := cells_25 aG.out
         have p102 : 0 ≤ (x3_2 : Int) := of_decide_eq_true Z5
         have q102 : x3_2 < (ab.length : Int) := of_decide_eq_true Z5
         obtain ⟨ad102, e102, hx102_0, hx102_1⟩ := at_T66 dZ.out x3_2 p102 q102
         cases e102
         replace hx102_0 := Sq.up HB.out hx102_0
         replace hx102_1 := Sq.up HB.out hx102_1
         replace p102 := eq_true p102
         replace q102 := eq_true q102
         go_wp2
         go_roundg k2
         case measure => have := ka.out; have := HK2.out; omega
         case rel => exact ⟨(wrap64 (x3_2 + 1)), Z7, H', ⟨by have := ka.out; have := HK2.out; omega⟩, ⟨Z6⟩, ⟨Z3⟩⟩
       ·rw [if_neg eE] at H
        exact absurd H Z36
      ·rw [if_neg dX] at H
       have eK : decide (x3_2 < (ab.length : Int)) = false := decide_eq_false dX
       clear dX
       have H' := Aside0.mk H
       clear H
       have hC := cells_25 aG.out
       go_wp2
       go_loopg [4] k2 (fun kq v4 w' => ∃ (x4_3 : Int), v4 = .int .i64 x4_3 ∧ Aside0 (roadbookref07_Few.l1 kq x4_3 aA aq ar av aw ax aC aD ay az ag ai ao ac ap an ak al ae am aj ab af ah au = some r) ∧ Aside0 (kq ≤ k2) ∧ Aside0 (w'.heap[aE]? = some (.cells #[.int .i64 aA, .int .i64 aq, .int .i64 ar, .string av, .int .i64 aw, .int .i64 ax, .string aC, .int .i64 aD, .int .i64 ay, .string az, .int .i64 ag, .string ai, .int .i64 ao, .int .i64 ac, .int .i64 ap, .int .i64 an, .int .i64 ak, .int .i64 al, .int .i64 ae, .string am, .string aj, (.slice bZ ab.length ca), .int .i64 af, .string ah, (.slice cC au.length cD)] 34 (0, 0))) ∧ Aside0 (Below w.heap.size w w'))
       case atStart => exact ⟨(0), Z7, H', ⟨Nat.le_refl _⟩, ⟨Z6⟩, ⟨Z3⟩⟩
       case round =>
        clear H'
        try clear c1
        try clear c2
        try clear p2
        try clear c4
        try clear cG
        try clear dG
        try clear c6
        try clear fc
        try clear iO
        try clear p6
        try clear c8
        try clear dS
        try clear cR
        try clear dl
        try clear dm
        try clear dE
        try clear c15
        try clear dX
        try clear eK
        try clear eE
        try clear hcz11
        try clear hcz13
        try clear hcz14
        try clear hC
        try clear hcz5
        try clear hcz7
        try clear jt
        try clear p2
        try clear p6
        obtain ⟨x4_3, rfl, HA, HK3, aG, HB⟩ := hrel
        cases gk with
        | zero => exact absurd HA.out (by simp [roadbookref07_Few.l1])
        | succ k3 =>
         have H := HA.out
         clear HA
         simp only [roadbookref07_Few.l1] at H
         by_cases c22 : x4_3 < (au.length : Int)
         ·rw [if_pos c22] at H
          have c22b0 : decide (x4_3 < (au.length : Int)) = true := decide_eq_true c22
          clear c22
          by_cases eV : 0 ≤ x4_3
          ·rw [if_pos eV] at H
           have fA : decide (0 ≤ x4_3) = true := decide_eq_true eV
           clear eV
           by_cases cT : (((rd_T68 au x4_3).f1).size : Int) > 300
           ·rw [if_pos cT] at H
            have hJ : decide (300 < (((rd_T68 au x4_3).f1).size : Int)) = true := decide_eq_true cT
            have hL : decide (300 < ((rd_T68 au x4_3).f1).size) = true := decide_eq_true Z25
            clear cT
            obtain rfl := Option.some.inj H
            have hcz25 := cells_25 aG.out
            have p103 : 0 ≤ (x4_3 : Int) := of_decide_eq_true Z5
            have q103 : x4_3 < (au.length : Int) := of_decide_eq_true Z5
            obtain ⟨ad103, e103, hx103_0, hx103_1⟩ := at_T68 dI.out x4_3 p103 q103
            cases e103
            replace hx103_0 := Sq.up HB.out hx103_0
            replace hx103_1 := Sq.up HB.out hx103_1
            replace p103 := eq_true p103
            replace q103 := eq_true q103
            go_wp2
            go_ret
            exact ⟨Z2, Z3⟩
           ·rw [if_neg cT] at H
            have hJ : decide (300 < (((rd_T68 au x4_3).f1).size : Int)) = false := decide_eq_false cT
            have hL : decide (300 < ((rd_T68 au x4_3).f1).size) = false := decide_eq_false Z25
            clear cT
            have H' := Aside0.mk H
            clear H
            have iq := cells_25 aG.out
            have p103 : 0 ≤ (x4_3 : Int) := of_decide_eq_true Z5
            have q103 : x4_3 < (au.length : Int) := of_decide_eq_true Z5
            obtain ⟨ad103, e103, hx103_0, hx103_1⟩ := at_T68 dI.out x4_3 p103 q103
            cases e103
            replace hx103_0 := Sq.up HB.out hx103_0
            replace hx103_1 := Sq.up HB.out hx103_1
            replace p103 := eq_true p103
            replace q103 := eq_true q103
            go_wp2
            go_roundg k3
            case measure => have := ka.out; have := HK2.out; have := HK3.out; omega
            case rel => exact ⟨(wrap64 (x4_3 + 1)), Z7, H', ⟨by have := ka.out; have := HK2.out; have := HK3.out; omega⟩, ⟨Z6⟩, ⟨Z3⟩⟩
          ·rw [if_neg eV] at H
           exact absurd H Z36
         ·rw [if_neg c22] at H
          have c22b0 : decide (x4_3 < (au.length : Int)) = false := decide_eq_false c22
          clear c22
          obtain rfl := Option.some.inj H
          have hcz27 := cells_25 aG.out
          go_wp2
          go_ret
          exact ⟨Z2, Z3⟩

/-! ### roadbookref07_FewAll: function 11 -/
def roadbookref07_FewAll.l0 : Nat → List (S34) → Int → Option (Bool)
 | 0, _, _ => none
 | k + 1, x0, x5 => if x5 < (x0.length : Int) then (if 0 ≤ x5 then ((roadbookref07_Few.f k ((rd_T34 x0 x5).f0) ((rd_T34 x0 x5).f1) ((rd_T34 x0 x5).f2) ((rd_T34 x0 x5).f3) ((rd_T34 x0 x5).f4) ((rd_T34 x0 x5).f5) ((rd_T34 x0 x5).f6) ((rd_T34 x0 x5).f7) ((rd_T34 x0 x5).f8) ((rd_T34 x0 x5).f9) ((rd_T34 x0 x5).f10) ((rd_T34 x0 x5).f11) ((rd_T34 x0 x5).f12) ((rd_T34 x0 x5).f13) ((rd_T34 x0 x5).f14) ((rd_T34 x0 x5).f15) ((rd_T34 x0 x5).f16) ((rd_T34 x0 x5).f17) ((rd_T34 x0 x5).f18) ((rd_T34 x0 x5).f19) ((rd_T34 x0 x5).f20) ((rd_T34 x0 x5).f21) ((rd_T34 x0 x5).f22) ((rd_T34 x0 x5).f23) ((rd_T34 x0 x5).f24)).bind fun aI => (if aI = true then (roadbookref07_FewAll.l0 k x0 (wrap64 (x5 + 1))) else (some false))) else (none)) else (some true)
def roadbookref07_FewAll.f (k : Nat) (l0 : List (S34)) (a1 : Int) : Option (Bool) := if (l0.length : Int) > a1 then (some false) else (roadbookref07_FewAll.l0 k l0 0)
theorem roadbookref07_FewAll.mono_l : ∀ k, (∀ y0 y1, LeO (roadbookref07_FewAll.l0 k y0 y1) (roadbookref07_FewAll.l0 (k + 1) y0 y1))
 | 0 => Sq.mz
 | k + 1 => by
  have ih0 := roadbookref07_FewAll.mono_l k
  ·intros
   unfold roadbookref07_FewAll.l0
   have m0 := roadbookref07_Few.mono
   exact Sq.mo
theorem roadbookref07_FewAll.mono : ∀ a0 a1 k, LeO (roadbookref07_FewAll.f k a0 a1) (roadbookref07_FewAll.f (k + 1) a0 a1) := by
 intro a0 a1 k
 have ih0 := roadbookref07_FewAll.mono_l k
 unfold roadbookref07_FewAll.f
 have m0 := roadbookref07_Few.mono
 exact Sq.mo

set_option maxHeartbeats 8000000 in
set_option maxRecDepth 100000 in
theorem roadbookref07_FewAll.calls (k : Nat) (A0 : Option Addr) (c0 : Nat) (l0 : List (S34)) (a1 : Int) (r : Bool) (w : World) (fO : Kd.C k34 w A0 l0.length l0) (dY : l0.length ≤ c0) (h : roadbookref07_FewAll.f k l0 a1 = some r) :
  Calls Try.prog 11 #[.slice A0 l0.length c0, .int .i64 a1] w fun e w' => e = .returned (.bool r) ∧ Below w.heap.size w w' := by
 have fu := Try.underlying34
 have fR := Aside0.mk fO
 have jD := Aside0.mk dY
 clear fO dY
 have HB := Aside0.mk (Below.refl w.heap.size w)
 have H : (if (l0.length : Int) > a1 then (some false) else (roadbookref07_FewAll.l0 k l0 0)) = some r := h
 clear h
 by_cases c3 : (l0.length : Int) > a1
 ·rw [if_pos c3] at H
  have bY : decide (a1 < (l0.length : Int)) = true := decide_eq_true c3
  clear c3
  obtain rfl := Option.some.inj H
  go_enter Try.func11, Try.ntmps11
  go_wp2_with (first | ((with_reducible refine Pre.gate_load 34 rfl ?_); (try (refine gate_guard Z27 ?_; dsimp only)); refine Pre.load_event_a rfl rfl rfl Z27 Pre.range25 Try.underlying34 rfl Z16 ?_))
  go_ret
  exact ⟨Z2, Z0⟩
 ·rw [if_neg c3] at H
  have bY : decide (a1 < (l0.length : Int)) = false := decide_eq_false c3
  clear c3
  have H' := Aside0.mk H
  clear H
  go_enter Try.func11, Try.ntmps11
  go_wp2_with (first | ((with_reducible refine Pre.gate_load 34 rfl ?_); (try (refine gate_guard Z27 ?_; dsimp only)); refine Pre.load_event_a rfl rfl rfl Z27 Pre.range25 Try.underlying34 rfl Z16 ?_))
  go_loopg [5] k (fun kq v5 w' => ∃ (aa : Int), v5 = .int .i64 aa ∧ Aside0 (roadbookref07_FewAll.l0 kq l0 aa = some r) ∧ Aside0 (kq ≤ k) ∧ Aside0 (Below w.heap.size w w'))
  case atStart => exact ⟨(0), Z7, H', ⟨Nat.le_refl _⟩, ⟨Z0⟩⟩
  case round =>
   clear H'
   try clear c1
   try clear p2
   try clear c3
   try clear bY
   obtain ⟨aa, rfl, HA, HK1, HB⟩ := hrel
   cases gk with
   | zero => exact absurd HA.out (by simp [roadbookref07_FewAll.l0])
   | succ k1 =>
    have H := HA.out
    clear HA
    simp only [roadbookref07_FewAll.l0] at H
    by_cases c4 : aa < (l0.length : Int)
    ·rw [if_pos c4] at H
     have cG : decide (aa < (l0.length : Int)) = true := decide_eq_true c4
     clear c4
     by_cases c5 : 0 ≤ aa
     ·rw [if_pos c5] at H
      have cY : decide (0 ≤ aa) = true := decide_eq_true c5
      clear c5
      replace H := Option.bind_eq_some_iff.mp H
      obtain ⟨aI, io, H⟩ := H
      replace H : (if aI = true then (roadbookref07_FewAll.l0 k1 l0 (wrap64 (aa + 1))) else (some false)) = some r := H
      have A6 := Aside0.mk io
      clear io
      by_cases c7 : aI = true
      ·subst c7
       replace H := Sq.itT H
       have H' := Aside0.mk H
       clear H
       have p101 : 0 ≤ (aa : Int) := of_decide_eq_true Z5
       have q101 : aa < (l0.length : Int) := of_decide_eq_true Z5
       obtain ⟨ad101, dr, dt, du, dv, e101, hx101_0, hx101_1, hx101_2, hx101_3, hx101_4, hx101_5, hx101_6, hx101_7, hx101_8, hx101_9, hx101_10, hx101_11, hx101_12, hx101_13, hx101_14, hx101_15, hx101_16, hx101_17, hx101_18, hx101_19, hx101_20, hx101_21, hx101_22, hx101_23, hx101_24, hl101_21, hi101_21, hl101_24, hi101_24⟩ := at_T34 fR.out aa p101 q101
       cases e101
       replace hx101_0 := Sq.up HB.out hx101_0
       replace hx101_1 := Sq.up HB.out hx101_1
       replace hx101_2 := Sq.up HB.out hx101_2
       replace hx101_3 := Sq.up HB.out hx101_3
       replace hx101_4 := Sq.up HB.out hx101_4
       replace hx101_5 := Sq.up HB.out hx101_5
       replace hx101_6 := Sq.up HB.out hx101_6
       replace hx101_7 := Sq.up HB.out hx101_7
       replace hx101_8 := Sq.up HB.out hx101_8
       replace hx101_9 := Sq.up HB.out hx101_9
       replace hx101_10 := Sq.up HB.out hx101_10
       replace hx101_11 := Sq.up HB.out hx101_11
       replace hx101_12 := Sq.up HB.out hx101_12
       replace hx101_13 := Sq.up HB.out hx101_13
       replace hx101_14 := Sq.up HB.out hx101_14
       replace hx101_15 := Sq.up HB.out hx101_15
       replace hx101_16 := Sq.up HB.out hx101_16
       replace hx101_17 := Sq.up HB.out hx101_17
       replace hx101_18 := Sq.up HB.out hx101_18
       replace hx101_19 := Sq.up HB.out hx101_19
       replace hx101_20 := Sq.up HB.out hx101_20
       replace hx101_21 := Sq.up HB.out hx101_21
       replace hx101_22 := Sq.up HB.out hx101_22
       replace hx101_23 := Sq.up HB.out hx101_23
       replace hx101_24 := Sq.up HB.out hx101_24
       have dw := Aside0.mk hi101_21
       have dM := Aside0.mk hl101_21
       clear hi101_21 hl101_21
       have dx := Aside0.mk hi101_24
       have dN := Aside0.mk hl101_24
       clear hi101_24 hl101_24
       replace p101 := eq_true p101
       replace q101 := eq_true q101
       go_wp2_with (first | ((with_reducible refine Pre.gate_load 34 rfl ?_); (try (refine gate_guard Z27 ?_; dsimp only)); refine Pre.load_event_a rfl rfl rfl Z27 Pre.range25 Try.underlying34 rfl Z16 ?_) | ((with_reducible refine gate_callee (f := 26) rfl ?_); refine goesL_ (some 20) rfl rfl Try.func26 Z16 rfl #[.agg #[.int .i64 ((rd_T34 l0 aa).f0), .int .i64 ((rd_T34 l0 aa).f1), .int .i64 ((rd_T34 l0 aa).f2), .string ((rd_T34 l0 aa).f3), .int .i64 ((rd_T34 l0 aa).f4), .int .i64 ((rd_T34 l0 aa).f5), .string ((rd_T34 l0 aa).f6), .int .i64 ((rd_T34 l0 aa).f7), .int .i64 ((rd_T34 l0 aa).f8), .string ((rd_T34 l0 aa).f9), .int .i64 ((rd_T34 l0 aa).f10), .string ((rd_T34 l0 aa).f11), .int .i64 ((rd_T34 l0 aa).f12), .int .i64 ((rd_T34 l0 aa).f13), .int .i64 ((rd_T34 l0 aa).f14), .int .i64 ((rd_T34 l0 aa).f15), .int .i64 ((rd_T34 l0 aa).f16), .int .i64 ((rd_T34 l0 aa).f17), .int .i64 ((rd_T34 l0 aa).f18), .string ((rd_T34 l0 aa).f19), .string ((rd_T34 l0 aa).f20), .slice dr ((rd_T34 l0 aa).f21).length dt, .int .i64 ((rd_T34 l0 aa).f22), .string ((rd_T34 l0 aa).f23), .slice du ((rd_T34 l0 aa).f24).length dv]] rfl Z4 ?_; (with_reducible refine (roadbookref07_Few.calls k1 ((rd_T34 l0 aa).f0) ((rd_T34 l0 aa).f1) ((rd_T34 l0 aa).f2) ((rd_T34 l0 aa).f3) ((rd_T34 l0 aa).f4) ((rd_T34 l0 aa).f5) ((rd_T34 l0 aa).f6) ((rd_T34 l0 aa).f7) ((rd_T34 l0 aa).f8) ((rd_T34 l0 aa).f9) ((rd_T34 l0 aa).f10) ((rd_T34 l0 aa).f11) ((rd_T34 l0 aa).f12) ((rd_T34 l0 aa).f13) ((rd_T34 l0 aa).f14) ((rd_T34 l0 aa).f15) ((rd_T34 l0 aa).f16) ((rd_T34 l0 aa).f17) ((rd_T34 l0 aa).f18) ((rd_T34 l0 aa).f19) ((rd_T34 l0 aa).f20) _ _ ((rd_T34 l0 aa).f21) ((rd_T34 l0 aa).f22) ((rd_T34 l0 aa).f23) _ _ ((rd_T34 l0 aa).f24) true _ ?side1 ?side2 ?side3 ?side4 A6.out).mono ?_); (case side1 => exact Z43); (case side2 => exact dM.out); (case side3 => exact Z42); (case side4 => exact dN.out); rintro e w8 ⟨rfl, hb⟩; refine ⟨_, rfl, ?_⟩; replace HB := Aside0.mk (below_step Z0 hb); clear hb))
       go_roundg k1
       case measure => have := HK1.out; omega
       case rel => exact ⟨(wrap64 (aa + 1)), Z7, H', ⟨by have := HK1.out; omega⟩, ⟨Z0⟩⟩
      ·replace c7 := Bool.eq_false_iff.mpr c7
       subst c7
       replace H := Sq.itF H
       obtain rfl := Option.some.inj H
       have p101 : 0 ≤ (aa : Int) := of_decide_eq_true Z5
       have q101 : aa < (l0.length : Int) := of_decide_eq_true Z5
       obtain ⟨ad101, dr, dt, du, dv, e101, hx101_0, hx101_1, hx101_2, hx101_3, hx101_4, hx101_5, hx101_6, hx101_7, hx101_8, hx101_9, hx101_10, hx101_11, hx101_12, hx101_13, hx101_14, hx101_15, hx101_16, hx101_17, hx101_18, hx101_19, hx101_20, hx101_21, hx101_22, hx101_23, hx101_24, hl101_21, hi101_21, hl101_24, hi101_24⟩ := at_T34 fR.out aa p101 q101
       cases e101
       replace hx101_0 := Sq.up HB.out hx101_0
       replace hx101_1 := Sq.up HB.out hx101_1
       replace hx101_2 := Sq.up HB.out hx101_2
       replace hx101_3 := Sq.up HB.out hx101_3
       replace hx101_4 := Sq.up HB.out hx101_4
       replace hx101_5 := Sq.up HB.out hx101_5
       replace hx101_6 := Sq.up HB.out hx101_6
       replace hx101_7 := Sq.up HB.out hx101_7
       replace hx101_8 := Sq.up HB.out hx101_8
       replace hx101_9 := Sq.up HB.out hx101_9
       replace hx101_10 := Sq.up HB.out hx101_10
       replace hx101_11 := Sq.up HB.out hx101_11
       replace hx101_12 := Sq.up HB.out hx101_12
       replace hx101_13 := Sq.up HB.out hx101_13
       replace hx101_14 := Sq.up HB.out hx101_14
       replace hx101_15 := Sq.up HB.out hx101_15
       replace hx101_16 := Sq.up HB.out hx101_16
       replace hx101_17 := Sq.up HB.out hx101_17
       replace hx101_18 := Sq.up HB.out hx101_18
       replace hx101_19 := Sq.up HB.out hx101_19
       replace hx101_20 := Sq.up HB.out hx101_20
       replace hx101_21 := Sq.up HB.out hx101_21
       replace hx101_22 := Sq.up HB.out hx101_22
       replace hx101_23 := Sq.up HB.out hx101_23
       replace hx101_24 := Sq.up HB.out hx101_24
       have dw := Aside0.mk hi101_21
       have dM := Aside0.mk hl101_21
       clear hi101_21 hl101_21
       have dx := Aside0.mk hi101_24
       have dN := Aside0.mk hl101_24
       clear hi101_24 hl101_24
       replace p101 := eq_true p101
       replace q101 := eq_true q101
       go_wp2_with (first | ((with_reducible refine Pre.gate_load 34 rfl ?_); (try (refine gate_guard Z27 ?_; dsimp only)); refine Pre.load_event_a rfl rfl rfl Z27 Pre.range25 Try.underlying34 rfl Z16 ?_) | ((with_reducible refine gate_callee (f := 26) rfl ?_); refine goesL_ (some 20) rfl rfl Try.func26 Z16 rfl #[.agg #[.int .i64 ((rd_T34 l0 aa).f0), .int .i64 ((rd_T34 l0 aa).f1), .int .i64 ((rd_T34 l0 aa).f2), .string ((rd_T34 l0 aa).f3), .int .i64 ((rd_T34 l0 aa).f4), .int .i64 ((rd_T34 l0 aa).f5), .string ((rd_T34 l0 aa).f6), .int .i64 ((rd_T34 l0 aa).f7), .int .i64 ((rd_T34 l0 aa).f8), .string ((rd_T34 l0 aa).f9), .int .i64 ((rd_T34 l0 aa).f10), .string ((rd_T34 l0 aa).f11), .int .i64 ((rd_T34 l0 aa).f12), .int .i64 ((rd_T34 l0 aa).f13), .int .i64 ((rd_T34 l0 aa).f14), .int .i64 ((rd_T34 l0 aa).f15), .int .i64 ((rd_T34 l0 aa).f16), .int .i64 ((rd_T34 l0 aa).f17), .int .i64 ((rd_T34 l0 aa).f18), .string ((rd_T34 l0 aa).f19), .string ((rd_T34 l0 aa).f20), .slice dr ((rd_T34 l0 aa).f21).length dt, .int .i64 ((rd_T34 l0 aa).f22), .string ((rd_T34 l0 aa).f23), .slice du ((rd_T34 l0 aa).f24).length dv]] rfl Z4 ?_; (with_reducible refine (roadbookref07_Few.calls k1 ((rd_T34 l0 aa).f0) ((rd_T34 l0 aa).f1) ((rd_T34 l0 aa).f2) ((rd_T34 l0 aa).f3) ((rd_T34 l0 aa).f4) ((rd_T34 l0 aa).f5) ((rd_T34 l0 aa).f6) ((rd_T34 l0 aa).f7) ((rd_T34 l0 aa).f8) ((rd_T34 l0 aa).f9) ((rd_T34 l0 aa).f10) ((rd_T34 l0 aa).f11) ((rd_T34 l0 aa).f12) ((rd_T34 l0 aa).f13) ((rd_T34 l0 aa).f14) ((rd_T34 l0 aa).f15) ((rd_T34 l0 aa).f16) ((rd_T34 l0 aa).f17) ((rd_T34 l0 aa).f18) ((rd_T34 l0 aa).f19) ((rd_T34 l0 aa).f20) _ _ ((rd_T34 l0 aa).f21) ((rd_T34 l0 aa).f22) ((rd_T34 l0 aa).f23) _ _ ((rd_T34 l0 aa).f24) false _ ?side1 ?side2 ?side3 ?side4 A6.out).mono ?_); (case side1 => exact Z43); (case side2 => exact dM.out); (case side3 => exact Z42); (case side4 => exact dN.out); rintro e w9 ⟨rfl, hb⟩; refine ⟨_, rfl, ?_⟩; replace HB := Aside0.mk (below_step Z0 hb); clear hb))
       go_ret
       exact ⟨Z2, Z0⟩
     ·rw [if_neg c5] at H
      exact absurd H Z36
    ·rw [if_neg c4] at H
     have cG : decide (aa < (l0.length : Int)) = false := decide_eq_false c4
     clear c4
     obtain rfl := Option.some.inj H
     go_wp2_with (first | ((with_reducible refine Pre.gate_load 34 rfl ?_); (try (refine gate_guard Z27 ?_; dsimp only)); refine Pre.load_event_a rfl rfl rfl Z27 Pre.range25 Try.underlying34 rfl Z16 ?_))
     go_ret
     exact ⟨Z2, Z0⟩

end Go.Proofs.Ytnifhgackjkkbaa.PN
