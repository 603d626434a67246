-- Written by mp.py, a program of this work (wip/tools), out of the translation; Lean checks it.
import Derived.Test.YtccjakjjaemmkaaPAPxZ
import Derived.Test.YtccjakjjaemmkaaPAPxEq
namespace Go.Proofs.Ytccjakjjaemmkaa.PAP
open Go.RowKit Go.Proofs.YtccjakjjaemmkaaW.PrintWords Go.Proofs.YtccjakjjaemmkaaW.PrintLast Go.Proofs.YtccjakjjaemmkaaW.PrintMore
attribute [local go_sem] max2_int min2_int max_two min_two max_three min_three max_four min_four   -- for this text's walks alone
set_option linter.unusedVariables false
set_option linter.unusedSimpArgs false

attribute [local go_sem high] eqA46 eqA48
/-! ### roadbookref07_dests: function 65 -/
def roadbookref07_dests.l0 : Nat → List (S46) → List (S46) → Int → Option (Bool)
 | 0, _, _, _ => none
 | k + 1, x0, x1, x5 => if x5 < (x0.length : Int) then (if 0 ≤ x5 then (if x5 < (x1.length : Int) then (if (!((((rd_T46 x0 x5).f0).toList) == (((rd_T46 x1 x5).f0).toList)) || (!(((rd_T46 x0 x5).f1) == ((rd_T46 x1 x5).f1)))) = true then (some false) else (roadbookref07_dests.l0 k x0 x1 (wrap64 (x5 + 1)))) else (none)) else (none)) else (some true)
def roadbookref07_dests.f (k : Nat) (l0 : List (S46)) (l1 : List (S46)) : Option (Bool) := if (l0.length : Int) = (l1.length : Int) then (roadbookref07_dests.l0 k l0 l1 0) else (some false)
theorem roadbookref07_dests.mono_l : ∀ k, (∀ y0 y1 y2, LeO (roadbookref07_dests.l0 k y0 y1 y2) (roadbookref07_dests.l0 (k + 1) y0 y1 y2))
 | 0 => fun _ _ _ r h => by simp [roadbookref07_dests.l0] at h
 | k + 1 => by
  have ih0 := roadbookref07_dests.mono_l k
  ·intro y0 y1 y2
   unfold roadbookref07_dests.l0
   repeat' first
   | (with_reducible exact ih0 ..)
   | (with_reducible exact LeO.refl _)
   | (with_reducible exact LeO.none _)
   | (with_reducible refine LeO.ite ?_ ?_)
   | (with_reducible refine LeO.bind ?_ (fun _ => ?_))
   | exact ih0 ..
   | exact LeO.none _
   | refine LeO.ite ?_ ?_
   | refine LeO.bind ?_ (fun _ => ?_)
theorem roadbookref07_dests.mono : ∀ a0 a1 k, LeO (roadbookref07_dests.f k a0 a1) (roadbookref07_dests.f (k + 1) a0 a1) := by
 intro a0 a1 k
 have ih0 := roadbookref07_dests.mono_l k
 unfold roadbookref07_dests.f
 repeat' first
   | (with_reducible exact ih0 ..)
   | (with_reducible exact LeO.refl _)
   | (with_reducible exact LeO.none _)
   | (with_reducible refine LeO.ite ?_ ?_)
   | (with_reducible refine LeO.bind ?_ (fun _ => ?_))
   | exact ih0 ..
   | exact LeO.none _
   | refine LeO.ite ?_ ?_
   | refine LeO.bind ?_ (fun _ => ?_)
set_option maxHeartbeats 8000000 in
set_option maxRecDepth 100000 in
theorem roadbookref07_dests.calls (k : Nat) (A0 : Option Addr) (c0 : Nat) (l0 : List (S46)) (A1 : Option Addr) (c1 : Nat) (l1 : List (S46)) (r : Bool) (w : World) (jg : Kd.C k46 w A0 l0.length l0) (gg : l0.length ≤ c0) (oH : Kd.C k46 w A1 l1.length l1) (oI : l1.length ≤ c1) (h : roadbookref07_dests.f k l0 l1 = some r) :
  Calls Try.prog 65 #[.slice A0 l0.length c0, .slice A1 l1.length c1] w fun e w' => e = .returned (.bool r) ∧ Drawn0 w w' := by
 have nB := Try.underlying46
 have iB := Aside0.mk jg
 have mM := Aside0.mk gg
 clear jg gg
 have oJ := Aside0.mk oH
 have uf := Aside0.mk oI
 clear oH oI
 have H : (if (l0.length : Int) = (l1.length : Int) then (roadbookref07_dests.l0 k l0 l1 0) else (some false)) = some r := h
 clear h
 by_cases c3 : (l0.length : Int) = (l1.length : Int)
 ·rw [if_pos c3] at H
  have fs : ((l0.length : Int) == (l1.length : Int)) = true := beq_iff_eq.mpr c3
  have hR : ((l0.length : Int) != (l1.length : Int)) = false := bne_eq_false_iff_eq.mpr c3
  have kH : (l0.length == l1.length) = true := by first | simpa using c3 | (simp at c3 ⊢; omega)
  clear c3
  have H' := Aside0.mk H
  clear H
  go_enter Try.func65, Try.ntmps65
  go_wp2
  repeat (go_quiet (fail); try go_wp2)
  go_loopg [5] k (fun kq v5 w' => ∃ (ag : Int), v5 = .int .i64 ag ∧ Aside0 (roadbookref07_dests.l0 kq l0 l1 ag = some r) ∧ Aside0 (kq ≤ k) ∧ Drawn0 w w')
  case atStart => exact ⟨(0), Z17, H', ⟨Nat.le_refl _⟩, Z42⟩
  case round =>
   clear H'
   try clear c1
   try clear p2
   try clear c3
   try clear fs
   try clear hR
   try clear kH
   obtain ⟨ag, rfl, HA, HK1, ⟨m1, rfl⟩⟩ := hrel
   cases gk with
   | zero => exact absurd HA.out (by simp [roadbookref07_dests.l0])
   | succ k1 =>
    have H := HA.out
    clear HA
    simp only [roadbookref07_dests.l0] at H
    by_cases c4 : ag < (l0.length : Int)
    ·rw [if_pos c4] at H
     have dL : decide (ag < (l0.length : Int)) = true := decide_eq_true c4
     clear c4
     by_cases c5 : 0 ≤ ag
     ·rw [if_pos c5] at H
      have fg : decide (0 ≤ ag) = true := decide_eq_true c5
      clear c5
      by_cases c6 : ag < (l1.length : Int)
      ·rw [if_pos c6] at H
       have ga : decide (ag < (l1.length : Int)) = true := decide_eq_true c6
       clear c6
       by_cases c7 : (!((((rd_T46 l0 ag).f0).toList) == (((rd_T46 l1 ag).f0).toList)) || (!(((rd_T46 l0 ag).f1) == ((rd_T46 l1 ag).f1)))) = true
       ·rw [if_pos c7] at H
        have fz : (!((((rd_T46 l0 ag).f0).toList) == (((rd_T46 l1 ag).f0).toList)) || (!(((rd_T46 l0 ag).f1) == ((rd_T46 l1 ag).f1)))) = true := c7
        clear c7
        obtain rfl := Option.some.inj H
        have p101 : 0 ≤ (ag : Int) := of_decide_eq_true Z6
        have q101 : ag < (l0.length : Int) := of_decide_eq_true Z6
        obtain ⟨ad101, e101, hx101_0, hx101_1⟩ := at_T46 iB.out ag p101 q101
        cases e101
        replace p101 := eq_true p101
        replace q101 := eq_true q101
        have p102 : 0 ≤ (ag : Int) := of_decide_eq_true Z6
        have q102 : ag < (l1.length : Int) := of_decide_eq_true Z6
        obtain ⟨ad102, e102, hx102_0, hx102_1⟩ := at_T46 oJ.out ag p102 q102
        cases e102
        replace p102 := eq_true p102
        replace q102 := eq_true q102
        go_wp2
        repeat (go_quiet (fail); try go_wp2)
        go_ret
        exact ⟨Z17, Z42⟩
       ·rw [if_neg c7] at H
        have fz : (!((((rd_T46 l0 ag).f0).toList) == (((rd_T46 l1 ag).f0).toList)) || (!(((rd_T46 l0 ag).f1) == ((rd_T46 l1 ag).f1)))) = false := by first | exact Bool.eq_false_iff.mpr c7 | simpa using c7
        clear c7
        have H' := Aside0.mk H
        clear H
        have p101 : 0 ≤ (ag : Int) := of_decide_eq_true Z6
        have q101 : ag < (l0.length : Int) := of_decide_eq_true Z6
        obtain ⟨ad101, e101, hx101_0, hx101_1⟩ := at_T46 iB.out ag p101 q101
        cases e101
        replace p101 := eq_true p101
        replace q101 := eq_true q101
        have p102 : 0 ≤ (ag : Int) := of_decide_eq_true Z6
        have q102 : ag < (l1.length : Int) := of_decide_eq_true Z6
        obtain ⟨ad102, e102, hx102_0, hx102_1⟩ := at_T46 oJ.out ag p102 q102
        cases e102
        replace p102 := eq_true p102
        replace q102 := eq_true q102
        go_wp2
        repeat (go_quiet (fail); try go_wp2)
        go_roundg k1
        case measure => have := HK1.out; omega
        case rel => exact ⟨(wrap64 (ag + 1)), Z17, H', ⟨Z88⟩, Z42⟩
      ·rw [if_neg c6] at H
       exact absurd H Z59
     ·rw [if_neg c5] at H
      exact absurd H Z59
    ·rw [if_neg c4] at H
     have dL : decide (ag < (l0.length : Int)) = false := decide_eq_false c4
     clear c4
     obtain rfl := Option.some.inj H
     go_wp2
     repeat (go_quiet (fail); try go_wp2)
     go_ret
     exact ⟨Z17, Z42⟩
 ·rw [if_neg c3] at H
  have fs : ((l0.length : Int) == (l1.length : Int)) = false := beq_eq_false_iff_ne.mpr c3
  have hR : ((l0.length : Int) != (l1.length : Int)) = true := bne_iff_ne.mpr c3
  have kH : (l0.length == l1.length) = false := by first | simpa using c3 | (simp at c3 ⊢; omega)
  obtain rfl := Option.some.inj H
  go_enter Try.func65, Try.ntmps65
  go_wp2
  repeat (go_quiet (fail); try go_wp2)
  go_ret
  exact ⟨Z17, Z42⟩

/-! ### roadbookref07_subs: function 66 -/
def roadbookref07_subs.l0 : Nat → List (S48) → List (S48) → Int → Option (Bool)
 | 0, _, _, _ => none
 | k + 1, x0, x1, x5 => if x5 < (x0.length : Int) then (if 0 ≤ x5 then (if x5 < (x1.length : Int) then (if (!(((rd_T48 x0 x5).f0) == ((rd_T48 x1 x5).f0)) || (!((((rd_T48 x0 x5).f1).toList) == (((rd_T48 x1 x5).f1).toList)))) = true then (some false) else (roadbookref07_subs.l0 k x0 x1 (wrap64 (x5 + 1)))) else (none)) else (none)) else (some true)
def roadbookref07_subs.f (k : Nat) (l0 : List (S48)) (l1 : List (S48)) : Option (Bool) := if (l0.length : Int) = (l1.length : Int) then (roadbookref07_subs.l0 k l0 l1 0) else (some false)
theorem roadbookref07_subs.mono_l : ∀ k, (∀ y0 y1 y2, LeO (roadbookref07_subs.l0 k y0 y1 y2) (roadbookref07_subs.l0 (k + 1) y0 y1 y2))
 | 0 => fun _ _ _ r h => by simp [roadbookref07_subs.l0] at h
 | k + 1 => by
  have ih0 := roadbookref07_subs.mono_l k
  ·intro y0 y1 y2
   unfold roadbookref07_subs.l0
   repeat' first
   | (with_reducible exact ih0 ..)
   | (with_reducible exact LeO.refl _)
   | (with_reducible exact LeO.none _)
   | (with_reducible refine LeO.ite ?_ ?_)
   | (with_reducible refine LeO.bind ?_ (fun _ => ?_))
   | exact ih0 ..
   | exact LeO.none _
   | refine LeO.ite ?_ ?_
   | refine LeO.bind ?_ (fun _ => ?_)
theorem roadbookref07_subs.mono : ∀ a0 a1 k, LeO (roadbookref07_subs.f k a0 a1) (roadbookref07_subs.f (k + 1) a0 a1) := by
 intro a0 a1 k
 have ih0 := roadbookref07_subs.mono_l k
 unfold roadbookref07_subs.f
 repeat' first
   | (with_reducible exact ih0 ..)
   | (with_reducible exact LeO.refl _)
   | (with_reducible exact LeO.none _)
   | (with_reducible refine LeO.ite ?_ ?_)
   | (with_reducible refine LeO.bind ?_ (fun _ => ?_))
   | exact ih0 ..
   | exact LeO.none _
   | refine LeO.ite ?_ ?_
   | refine LeO.bind ?_ (fun _ => ?_)
set_option maxHeartbeats 8000000 in
set_option maxRecDepth 100000 in
theorem roadbookref07_subs.calls (k : Nat) (A0 : Option Addr) (c0 : Nat) (l0 : List (S48)) (A1 : Option Addr) (c1 : Nat) (l1 : List (S48)) (r : Bool) (w : World) (jg : Kd.C k48 w A0 l0.length l0) (gg : l0.length ≤ c0) (oH : Kd.C k48 w A1 l1.length l1) (oI : l1.length ≤ c1) (h : roadbookref07_subs.f k l0 l1 = some r) :
  Calls Try.prog 66 #[.slice A0 l0.length c0, .slice A1 l1.length c1] w fun e w' => e = .returned (.bool r) ∧ Drawn0 w w' := by
 have mN := Try.underlying48
 have iB := Aside0.mk jg
 have mM := Aside0.mk gg
 clear jg gg
 have oJ := Aside0.mk oH
 have uf := Aside0.mk oI
 clear oH oI
 have H : (if (l0.length : Int) = (l1.length : Int) then (roadbookref07_subs.l0 k l0 l1 0) else (some false)) = some r := h
 clear h
 by_cases c3 : (l0.length : Int) = (l1.length : Int)
 ·rw [if_pos c3] at H
  have fs : ((l0.length : Int) == (l1.length : Int)) = true := beq_iff_eq.mpr c3
  have hR : ((l0.length : Int) != (l1.length : Int)) = false := bne_eq_false_iff_eq.mpr c3
  have kH : (l0.length == l1.length) = true := by first | simpa using c3 | (simp at c3 ⊢; omega)
  clear c3
  have H' := Aside0.mk H
  clear H
  go_enter Try.func66, Try.ntmps66
  go_wp2
  repeat (go_quiet (fail); try go_wp2)
  go_loopg [5] k (fun kq v5 w' => ∃ (ag : Int), v5 = .int .i64 ag ∧ Aside0 (roadbookref07_subs.l0 kq l0 l1 ag = some r) ∧ Aside0 (kq ≤ k) ∧ Drawn0 w w')
  case atStart => exact ⟨(0), Z17, H', ⟨Nat.le_refl _⟩, Z42⟩
  case round =>
   clear H'
   try clear c1
   try clear p2
   try clear c3
   try clear fs
   try clear hR
   try clear kH
   obtain ⟨ag, rfl, HA, HK1, ⟨m1, rfl⟩⟩ := hrel
   cases gk with
   | zero => exact absurd HA.out (by simp [roadbookref07_subs.l0])
   | succ k1 =>
    have H := HA.out
    clear HA
    simp only [roadbookref07_subs.l0] at H
    by_cases c4 : ag < (l0.length : Int)
    ·rw [if_pos c4] at H
     have dL : decide (ag < (l0.length : Int)) = true := decide_eq_true c4
     clear c4
     by_cases c5 : 0 ≤ ag
     ·rw [if_pos c5] at H
      have fg : decide (0 ≤ ag) = true := decide_eq_true c5
      clear c5
      by_cases c6 : ag < (l1.length : Int)
      ·rw [if_pos c6] at H
       have ga : decide (ag < (l1.length : Int)) = true := decide_eq_true c6
       clear c6
       by_cases c7 : (!(((rd_T48 l0 ag).f0) == ((rd_T48 l1 ag).f0)) || (!((((rd_T48 l0 ag).f1).toList) == (((rd_T48 l1 ag).f1).toList)))) = true
       ·rw [if_pos c7] at H
        have fz : (!(((rd_T48 l0 ag).f0) == ((rd_T48 l1 ag).f0)) || (!((((rd_T48 l0 ag).f1).toList) == (((rd_T48 l1 ag).f1).toList)))) = true := c7
        clear c7
        obtain rfl := Option.some.inj H
        have p101 : 0 ≤ (ag : Int) := of_decide_eq_true Z6
        have q101 : ag < (l0.length : Int) := of_decide_eq_true Z6
        obtain ⟨ad101, e101, hx101_0, hx101_1⟩ := at_T48 iB.out ag p101 q101
        cases e101
        replace p101 := eq_true p101
        replace q101 := eq_true q101
        have p102 : 0 ≤ (ag : Int) := of_decide_eq_true Z6
        have q102 : ag < (l1.length : Int) := of_decide_eq_true Z6
        obtain ⟨ad102, e102, hx102_0, hx102_1⟩ := at_T48 oJ.out ag p102 q102
        cases e102
        replace p102 := eq_true p102
        replace q102 := eq_true q102
        go_wp2
        repeat (go_quiet (fail); try go_wp2)
        go_ret
        exact ⟨Z17, Z42⟩
       ·rw [if_neg c7] at H
        have fz : (!(((rd_T48 l0 ag).f0) == ((rd_T48 l1 ag).f0)) || (!((((rd_T48 l0 ag).f1).toList) == (((rd_T48 l1 ag).f1).toList)))) = false := by first | exact Bool.eq_false_iff.mpr c7 | simpa using c7
        clear c7
        have H' := Aside0.mk H
        clear H
        have p101 : 0 ≤ (ag : Int) := of_decide_eq_true Z6
        have q101 : ag < (l0.length : Int) := of_decide_eq_true Z6
        obtain ⟨ad101, e101, hx101_0, hx101_1⟩ := at_T48 iB.out ag p101 q101
        cases e101
        replace p101 := eq_true p101
        replace q101 := eq_true q101
        have p102 : 0 ≤ (ag : Int) := of_decide_eq_true Z6
        have q102 : ag < (l1.length : Int) := of_decide_eq_true Z6
        obtain ⟨ad102, e102, hx102_0, hx102_1⟩ := at_T48 oJ.out ag p102 q102
        cases e102
        replace p102 := eq_true p102
        replace q102 := eq_true q102
        go_wp2
        repeat (go_quiet (fail); try go_wp2)
        go_roundg k1
        case measure => have := HK1.out; omega
        case rel => exact ⟨(wrap64 (ag + 1)), Z17, H', ⟨Z88⟩, Z42⟩
      ·rw [if_neg c6] at H
       exact absurd H Z59
     ·rw [if_neg c5] at H
      exact absurd H Z59
    ·rw [if_neg c4] at H
     have dL : decide (ag < (l0.length : Int)) = false := decide_eq_false c4
     clear c4
     obtain rfl := Option.some.inj H
     go_wp2
     repeat (go_quiet (fail); try go_wp2)
     go_ret
     exact ⟨Z17, Z42⟩
 ·rw [if_neg c3] at H
  have fs : ((l0.length : Int) == (l1.length : Int)) = false := beq_eq_false_iff_ne.mpr c3
  have hR : ((l0.length : Int) != (l1.length : Int)) = true := bne_iff_ne.mpr c3
  have kH : (l0.length == l1.length) = false := by first | simpa using c3 | (simp at c3 ⊢; omega)
  obtain rfl := Option.some.inj H
  go_enter Try.func66, Try.ntmps66
  go_wp2
  repeat (go_quiet (fail); try go_wp2)
  go_ret
  exact ⟨Z17, Z42⟩

end Go.Proofs.Ytccjakjjaemmkaa.PAP
