-- Written by mp.py, a program of this work (wip/tools), out of the translation; Lean checks it.
import Derived.Test.YtelcciekdoccfaaPMxZ
import Derived.Test.YtelcciekdoccfaaPMxEq61
import Derived.Test.YtelcciekdoccfaaPMxEq63
import Derived.Test.YtelcciekdoccfaaLoad
namespace Go.Proofs.Ytelcciekdoccfaa.PM
open Go.RowKit Go.Proofs.YtelcciekdoccfaaW.PrintWords Go.Proofs.YtelcciekdoccfaaW.PrintLast Go.Proofs.YtelcciekdoccfaaW.PrintMore
attribute [local go_sem] max2_int min2_int max_two min_two max_three min_three max_four min_four   -- for this text's walks alone
set_option linter.unusedVariables false
set_option linter.unusedSimpArgs false

attribute [local go_sem high] eqA61 eqA63
/-! ### roadbookref07_dests: function 75 -/
def roadbookref07_dests.l0 : Nat → List (S61) → List (S61) → Int → Option (Bool)
 | 0, _, _, _ => none
 | k + 1, x0, x1, x5 => if x5 < (x0.length : Int) then (if 0 ≤ x5 then (if x5 < (x1.length : Int) then (if (!((((rd_T61 x0 x5).f0).toList) == (((rd_T61 x1 x5).f0).toList)) || (!(((rd_T61 x0 x5).f1) == ((rd_T61 x1 x5).f1)))) = true then (some false) else (roadbookref07_dests.l0 k x0 x1 (wrap64 (x5 + 1)))) else (none)) else (none)) else (some true)
def roadbookref07_dests.f (k : Nat) (l0 : List (S61)) (l1 : List (S61)) : Option (Bool) := if (l0.length : Int) = (l1.length : Int) then (roadbookref07_dests.l0 k l0 l1 0) else (some false)
theorem roadbookref07_dests.mono_l : ∀ k, (∀ y0 y1 y2, LeO (roadbookref07_dests.l0 k y0 y1 y2) (roadbookref07_dests.l0 (k + 1) y0 y1 y2))
 | 0 => fun _ _ _ r h => by simp [roadbookref07_dests.l0] at h
 | k + 1 => by
  have ih0 := roadbookref07_dests.mono_l k
  ·intro y0 y1 y2
   unfold roadbookref07_dests.l0
   repeat' first
   | (with_reducible exact ih0 ..)
   | (with_reducible exact LeO.refl _)
   | (with_reducible exact LeO.none _)
   | (with_reducible refine LeO.ite ?_ ?_)
   | (with_reducible refine LeO.bind ?_ (fun _ => ?_))
   | exact ih0 ..
   | exact LeO.none _
   | refine LeO.ite ?_ ?_
   | refine LeO.bind ?_ (fun _ => ?_)
theorem roadbookref07_dests.mono : ∀ a0 a1 k, LeO (roadbookref07_dests.f k a0 a1) (roadbookref07_dests.f (k + 1) a0 a1) := by
 intro a0 a1 k
 have ih0 := roadbookref07_dests.mono_l k
 unfold roadbookref07_dests.f
 repeat' first
   | (with_reducible exact ih0 ..)
   | (with_reducible exact LeO.refl _)
   | (with_reducible exact LeO.none _)
   | (with_reducible refine LeO.ite ?_ ?_)
   | (with_reducible refine LeO.bind ?_ (fun _ => ?_))
   | exact ih0 ..
   | exact LeO.none _
   | refine LeO.ite ?_ ?_
   | refine LeO.bind ?_ (fun _ => ?_)
set_option maxHeartbeats 8000000 in
set_option maxRecDepth 100000 in
theorem roadbookref07_dests.calls (k : Nat) (A0 : Option Addr) (c0 : Nat) (l0 : List (S61)) (A1 : Option Addr) (c1 : Nat) (l1 : List (S61)) (r : Bool) (w : World) (dm : Kd.C k61 w A0 l0.length l0) (cU : l0.length ≤ c0) (fh : Kd.C k61 w A1 l1.length l1) (fi : l1.length ≤ c1) (h : roadbookref07_dests.f k l0 l1 = some r) :
  Calls Try.prog 75 #[.slice A0 l0.length c0, .slice A1 l1.length c1] w fun e w' => e = .returned (.bool r) ∧ Drawn0 w w' := by
 have io := Try.underlying61
 have df := Aside0.mk dm
 have fP := Aside0.mk cU
 clear dm cU
 have fj := Aside0.mk fh
 have ig := Aside0.mk fi
 clear fh fi
 have H : (if (l0.length : Int) = (l1.length : Int) then (roadbookref07_dests.l0 k l0 l1 0) else (some false)) = some r := h
 clear h
 by_cases c3 : (l0.length : Int) = (l1.length : Int)
 ·rw [if_pos c3] at H
  have db : ((l0.length : Int) == (l1.length : Int)) = true := beq_iff_eq.mpr c3
  have dn : ((l0.length : Int) != (l1.length : Int)) = false := bne_eq_false_iff_eq.mpr c3
  have dp : (l0.length == l1.length) = true := by first | simpa using c3 | (simp at c3 ⊢; omega)
  clear c3
  have H' := Aside0.mk H
  clear H
  go_enter Try.func75, Try.ntmps75
  go_wp2
  repeat (go_quiet (fail); try go_wp2)
  go_loopg [5] k (fun kq v5 w' => ∃ (aa : Int), v5 = .int .i64 aa ∧ Aside0 (roadbookref07_dests.l0 kq l0 l1 aa = some r) ∧ Aside0 (kq ≤ k) ∧ Drawn0 w w')
  case atStart => exact ⟨(0), Z7, H', ⟨Nat.le_refl _⟩, Z10⟩
  case round =>
   clear H'
   try clear c1
   try clear p2
   try clear c3
   try clear db
   try clear dn
   try clear dp
   obtain ⟨aa, rfl, HA, HK1, ⟨m1, rfl⟩⟩ := hrel
   cases gk with
   | zero => exact absurd HA.out (by simp [roadbookref07_dests.l0])
   | succ k1 =>
    have H := HA.out
    clear HA
    simp only [roadbookref07_dests.l0] at H
    by_cases c4 : aa < (l0.length : Int)
    ·rw [if_pos c4] at H
     have cL : decide (aa < (l0.length : Int)) = true := decide_eq_true c4
     clear c4
     by_cases c5 : 0 ≤ aa
     ·rw [if_pos c5] at H
      have ec : decide (0 ≤ aa) = true := decide_eq_true c5
      clear c5
      by_cases c6 : aa < (l1.length : Int)
      ·rw [if_pos c6] at H
       have dC : decide (aa < (l1.length : Int)) = true := decide_eq_true c6
       clear c6
       by_cases c7 : (!((((rd_T61 l0 aa).f0).toList) == (((rd_T61 l1 aa).f0).toList)) || (!(((rd_T61 l0 aa).f1) == ((rd_T61 l1 aa).f1)))) = true
       ·rw [if_pos c7] at H
        have eT : (!((((rd_T61 l0 aa).f0).toList) == (((rd_T61 l1 aa).f0).toList)) || (!(((rd_T61 l0 aa).f1) == ((rd_T61 l1 aa).f1)))) = true := c7
        clear c7
        obtain rfl := Option.some.inj H
        have p101 : 0 ≤ (aa : Int) := of_decide_eq_true Z2
        have q101 : aa < (l0.length : Int) := of_decide_eq_true Z2
        obtain ⟨ad101, e101, hx101_0, hx101_1⟩ := at_T61 df.out aa p101 q101
        cases e101
        replace p101 := eq_true p101
        replace q101 := eq_true q101
        have p102 : 0 ≤ (aa : Int) := of_decide_eq_true Z2
        have q102 : aa < (l1.length : Int) := of_decide_eq_true Z2
        obtain ⟨ad102, e102, hx102_0, hx102_1⟩ := at_T61 fj.out aa p102 q102
        cases e102
        replace p102 := eq_true p102
        replace q102 := eq_true q102
        go_wp2
        repeat (go_quiet (fail); try go_wp2)
        go_ret
        exact ⟨Z7, Z10⟩
       ·rw [if_neg c7] at H
        have eT : (!((((rd_T61 l0 aa).f0).toList) == (((rd_T61 l1 aa).f0).toList)) || (!(((rd_T61 l0 aa).f1) == ((rd_T61 l1 aa).f1)))) = false := by first | exact Bool.eq_false_iff.mpr c7 | simpa using c7
        clear c7
        have H' := Aside0.mk H
        clear H
        have p101 : 0 ≤ (aa : Int) := of_decide_eq_true Z2
        have q101 : aa < (l0.length : Int) := of_decide_eq_true Z2
        obtain ⟨ad101, e101, hx101_0, hx101_1⟩ := at_T61 df.out aa p101 q101
        cases e101
        replace p101 := eq_true p101
        replace q101 := eq_true q101
        have p102 : 0 ≤ (aa : Int) := of_decide_eq_true Z2
        have q102 : aa < (l1.length : Int) := of_decide_eq_true Z2
        obtain ⟨ad102, e102, hx102_0, hx102_1⟩ := at_T61 fj.out aa p102 q102
        cases e102
        replace p102 := eq_true p102
        replace q102 := eq_true q102
        go_wp2
        repeat (go_quiet (fail); try go_wp2)
        go_roundg k1
        case measure => have := HK1.out; omega
        case rel => exact ⟨(wrap64 (aa + 1)), Z7, H', ⟨Z30⟩, Z10⟩
      ·rw [if_neg c6] at H
       exact absurd H (by simp)
     ·rw [if_neg c5] at H
      exact absurd H (by simp)
    ·rw [if_neg c4] at H
     have cL : decide (aa < (l0.length : Int)) = false := decide_eq_false c4
     clear c4
     obtain rfl := Option.some.inj H
     go_wp2
     repeat (go_quiet (fail); try go_wp2)
     go_ret
     exact ⟨Z7, Z10⟩
 ·rw [if_neg c3] at H
  have db : ((l0.length : Int) == (l1.length : Int)) = false := beq_eq_false_iff_ne.mpr c3
  have dn : ((l0.length : Int) != (l1.length : Int)) = true := bne_iff_ne.mpr c3
  have dp : (l0.length == l1.length) = false := by first | simpa using c3 | (simp at c3 ⊢; omega)
  obtain rfl := Option.some.inj H
  go_enter Try.func75, Try.ntmps75
  go_wp2
  repeat (go_quiet (fail); try go_wp2)
  go_ret
  exact ⟨Z7, Z10⟩

/-! ### roadbookref07_subs: function 76 -/
def roadbookref07_subs.l0 : Nat → List (S63) → List (S63) → Int → Option (Bool)
 | 0, _, _, _ => none
 | k + 1, x0, x1, x5 => if x5 < (x0.length : Int) then (if 0 ≤ x5 then (if x5 < (x1.length : Int) then (if (!(((rd_T63 x0 x5).f0) == ((rd_T63 x1 x5).f0)) || (!((((rd_T63 x0 x5).f1).toList) == (((rd_T63 x1 x5).f1).toList)))) = true then (some false) else (roadbookref07_subs.l0 k x0 x1 (wrap64 (x5 + 1)))) else (none)) else (none)) else (some true)
def roadbookref07_subs.f (k : Nat) (l0 : List (S63)) (l1 : List (S63)) : Option (Bool) := if (l0.length : Int) = (l1.length : Int) then (roadbookref07_subs.l0 k l0 l1 0) else (some false)
theorem roadbookref07_subs.mono_l : ∀ k, (∀ y0 y1 y2, LeO (roadbookref07_subs.l0 k y0 y1 y2) (roadbookref07_subs.l0 (k + 1) y0 y1 y2))
 | 0 => fun _ _ _ r h => by simp [roadbookref07_subs.l0] at h
 | k + 1 => by
  have ih0 := roadbookref07_subs.mono_l k
  ·intro y0 y1 y2
   unfold roadbookref07_subs.l0
   repeat' first
   | (with_reducible exact ih0 ..)
   | (with_reducible exact LeO.refl _)
   | (with_reducible exact LeO.none _)
   | (with_reducible refine LeO.ite ?_ ?_)
   | (with_reducible refine LeO.bind ?_ (fun _ => ?_))
   | exact ih0 ..
   | exact LeO.none _
   | refine LeO.ite ?_ ?_
   | refine LeO.bind ?_ (fun _ => ?_)
theorem roadbookref07_subs.mono : ∀ a0 a1 k, LeO (roadbookref07_subs.f k a0 a1) (roadbookref07_subs.f (k + 1) a0 a1) := by
 intro a0 a1 k
 have ih0 := roadbookref07_subs.mono_l k
 unfold roadbookref07_subs.f
 repeat' first
   | (with_reducible exact ih0 ..)
   | (with_reducible exact LeO.refl _)
   | (with_reducible exact LeO.none _)
   | (with_reducible refine LeO.ite ?_ ?_)
   | (with_reducible refine LeO.bind ?_ (fun _ => ?_))
   | exact ih0 ..
   | exact LeO.none _
   | refine LeO.ite ?_ ?_
   | refine LeO.bind ?_ (fun _ => ?_)
set_option maxHeartbeats 8000000 in
set_option maxRecDepth 100000 in
theorem roadbookref07_subs.calls (k : Nat) (A0 : Option Addr) (c0 : Nat) (l0 : List (S63)) (A1 : Option Addr) (c1 : Nat) (l1 : List (S63)) (r : Bool) (w : World) (dm : Kd.C k63 w A0 l0.length l0) (cU : l0.length ≤ c0) (fh : Kd.C k63 w A1 l1.length l1) (fi : l1.length ≤ c1) (h : roadbookref07_subs.f k l0 l1 = some r) :
  Calls Try.prog 76 #[.slice A0 l0.length c0, .slice A1 l1.length c1] w fun e w' => e = .returned (.bool r) ∧ Drawn0 w w' := by
 have fO := Try.underlying63
 have df := Aside0.mk dm
 have fP := Aside0.mk cU
 clear dm cU
 have fj := Aside0.mk fh
 have ig := Aside0.mk fi
 clear fh fi
 have H : (if (l0.length : Int) = (l1.length : Int) then (roadbookref07_subs.l0 k l0 l1 0) else (some false)) = some r := h
 clear h
 by_cases c3 : (l0.length : Int) = (l1.length : Int)
 ·rw [if_pos c3] at H
  have db : ((l0.length : Int) == (l1.length : Int)) = true := beq_iff_eq.mpr c3
  have dn : ((l0.length : Int) != (l1.length : Int)) = false := bne_eq_false_iff_eq.mpr c3
  have dp : (l0.length == l1.length) = true := by first | simpa using c3 | (simp at c3 ⊢; omega)
  clear c3
  have H' := Aside0.mk H
  clear H
  go_enter Try.func76, Try.ntmps76
  go_wp2
  repeat (go_quiet (fail); try go_wp2)
  go_loopg [5] k (fun kq v5 w' => ∃ (aa : Int), v5 = .int .i64 aa ∧ Aside0 (roadbookref07_subs.l0 kq l0 l1 aa = some r) ∧ Aside0 (kq ≤ k) ∧ Drawn0 w w')
  case atStart => exact ⟨(0), Z7, H', ⟨Nat.le_refl _⟩, Z10⟩
  case round =>
   clear H'
   try clear c1
   try clear p2
   try clear c3
   try clear db
   try clear dn
   try clear dp
   obtain ⟨aa, rfl, HA, HK1, ⟨m1, rfl⟩⟩ := hrel
   cases gk with
   | zero => exact absurd HA.out (by simp [roadbookref07_subs.l0])
   | succ k1 =>
    have H := HA.out
    clear HA
    simp only [roadbookref07_subs.l0] at H
    by_cases c4 : aa < (l0.length : Int)
    ·rw [if_pos c4] at H
     have cL : decide (aa < (l0.length : Int)) = true := decide_eq_true c4
     clear c4
     by_cases c5 : 0 ≤ aa
     ·rw [if_pos c5] at H
      have ec : decide (0 ≤ aa) = true := decide_eq_true c5
      clear c5
      by_cases c6 : aa < (l1.length : Int)
      ·rw [if_pos c6] at H
       have dC : decide (aa < (l1.length : Int)) = true := decide_eq_true c6
       clear c6
       by_cases c7 : (!(((rd_T63 l0 aa).f0) == ((rd_T63 l1 aa).f0)) || (!((((rd_T63 l0 aa).f1).toList) == (((rd_T63 l1 aa).f1).toList)))) = true
       ·rw [if_pos c7] at H
        have eT : (!(((rd_T63 l0 aa).f0) == ((rd_T63 l1 aa).f0)) || (!((((rd_T63 l0 aa).f1).toList) == (((rd_T63 l1 aa).f1).toList)))) = true := c7
        clear c7
        obtain rfl := Option.some.inj H
        have p101 : 0 ≤ (aa : Int) := of_decide_eq_true Z2
        have q101 : aa < (l0.length : Int) := of_decide_eq_true Z2
        obtain ⟨ad101, e101, hx101_0, hx101_1⟩ := at_T63 df.out aa p101 q101
        cases e101
        replace p101 := eq_true p101
        replace q101 := eq_true q101
        have p102 : 0 ≤ (aa : Int) := of_decide_eq_true Z2
        have q102 : aa < (l1.length : Int) := of_decide_eq_true Z2
        obtain ⟨ad102, e102, hx102_0, hx102_1⟩ := at_T63 fj.out aa p102 q102
        cases e102
        replace p102 := eq_true p102
        replace q102 := eq_true q102
        go_wp2
        repeat (go_quiet (fail); try go_wp2)
        go_ret
        exact ⟨Z7, Z10⟩
       ·rw [if_neg c7] at H
        have eT : (!(((rd_T63 l0 aa).f0) == ((rd_T63 l1 aa).f0)) || (!((((rd_T63 l0 aa).f1).toList) == (((rd_T63 l1 aa).f1).toList)))) = false := by first | exact Bool.eq_false_iff.mpr c7 | simpa using c7
        clear c7
        have H' := Aside0.mk H
        clear H
        have p101 : 0 ≤ (aa : Int) := of_decide_eq_true Z2
        have q101 : aa < (l0.length : Int) := of_decide_eq_true Z2
        obtain ⟨ad101, e101, hx101_0, hx101_1⟩ := at_T63 df.out aa p101 q101
        cases e101
        replace p101 := eq_true p101
        replace q101 := eq_true q101
        have p102 : 0 ≤ (aa : Int) := of_decide_eq_true Z2
        have q102 : aa < (l1.length : Int) := of_decide_eq_true Z2
        obtain ⟨ad102, e102, hx102_0, hx102_1⟩ := at_T63 fj.out aa p102 q102
        cases e102
        replace p102 := eq_true p102
        replace q102 := eq_true q102
        go_wp2
        repeat (go_quiet (fail); try go_wp2)
        go_roundg k1
        case measure => have := HK1.out; omega
        case rel => exact ⟨(wrap64 (aa + 1)), Z7, H', ⟨Z30⟩, Z10⟩
      ·rw [if_neg c6] at H
       exact absurd H (by simp)
     ·rw [if_neg c5] at H
      exact absurd H (by simp)
    ·rw [if_neg c4] at H
     have cL : decide (aa < (l0.length : Int)) = false := decide_eq_false c4
     clear c4
     obtain rfl := Option.some.inj H
     go_wp2
     repeat (go_quiet (fail); try go_wp2)
     go_ret
     exact ⟨Z7, Z10⟩
 ·rw [if_neg c3] at H
  have db : ((l0.length : Int) == (l1.length : Int)) = false := beq_eq_false_iff_ne.mpr c3
  have dn : ((l0.length : Int) != (l1.length : Int)) = true := bne_iff_ne.mpr c3
  have dp : (l0.length == l1.length) = false := by first | simpa using c3 | (simp at c3 ⊢; omega)
  obtain rfl := Option.some.inj H
  go_enter Try.func76, Try.ntmps76
  go_wp2
  repeat (go_quiet (fail); try go_wp2)
  go_ret
  exact ⟨Z7, Z10⟩

/-! ### roadbookref07_Few: function 48 -/
mutual
def roadbookref07_Few.j0 : Nat → Bool → Int → Int → Int → ByteArray → Int → Int → ByteArray → Int → Int → ByteArray → Int → ByteArray → Int → Int → Int → Int → Int → Int → Int → ByteArray → ByteArray → List (S61) → Int → ByteArray → List (S63) → Option (Bool)
 | 0, _, _, _, _, _, _, _, _, _, _, _, _, _, _, _, _, _, _, _, _, _, _, _, _, _, _ => none
 | k + 1, iS, bI, bJ, bK, bL, bM, bN, bO, bP, bQ, bR, bS, bu, bv, bw, bx, bA, bB, bC, bD, bE, bF, bs, bG, bH, bt => if iS = true then (some false) else (roadbookref07_Few.l0 k 0 bI bJ bK bL bM bN bO bP bQ bR bS bu bv bw bx bA bB bC bD bE bF bs bG bH bt)
def roadbookref07_Few.l0 : Nat → Int → Int → Int → Int → ByteArray → Int → Int → ByteArray → Int → Int → ByteArray → Int → ByteArray → Int → Int → Int → Int → Int → Int → Int → ByteArray → ByteArray → List (S61) → Int → ByteArray → List (S63) → Option (Bool)
 | 0, _, _, _, _, _, _, _, _, _, _, _, _, _, _, _, _, _, _, _, _, _, _, _, _, _, _ => none
 | k + 1, x3, bI, bJ, bK, bL, bM, bN, bO, bP, bQ, bR, bS, bu, bv, bw, bx, bA, bB, bC, bD, bE, bF, bs, bG, bH, bt => if x3 < (bs.length : Int) then (if 0 ≤ x3 then (if (((rd_T61 bs x3).f0).size : Int) > 50 then (some false) else (roadbookref07_Few.l0 k (wrap64 (x3 + 1)) bI bJ bK bL bM bN bO bP bQ bR bS bu bv bw bx bA bB bC bD bE bF bs bG bH bt)) else (none)) else (roadbookref07_Few.l1 k 0 bI bJ bK bL bM bN bO bP bQ bR bS bu bv bw bx bA bB bC bD bE bF bs bG bH bt)
def roadbookref07_Few.l1 : Nat → Int → Int → Int → Int → ByteArray → Int → Int → ByteArray → Int → Int → ByteArray → Int → ByteArray → Int → Int → Int → Int → Int → Int → Int → ByteArray → ByteArray → List (S61) → Int → ByteArray → List (S63) → Option (Bool)
 | 0, _, _, _, _, _, _, _, _, _, _, _, _, _, _, _, _, _, _, _, _, _, _, _, _, _, _ => none
 | k + 1, x4, bI, bJ, bK, bL, bM, bN, bO, bP, bQ, bR, bS, bu, bv, bw, bx, bA, bB, bC, bD, bE, bF, bs, bG, bH, bt => if x4 < (bt.length : Int) then (if 0 ≤ x4 then (if (((rd_T63 bt x4).f1).size : Int) > 300 then (some false) else (roadbookref07_Few.l1 k (wrap64 (x4 + 1)) bI bJ bK bL bM bN bO bP bQ bR bS bu bv bw bx bA bB bC bD bE bF bs bG bH bt)) else (none)) else (some true)
end
def roadbookref07_Few.f (k : Nat) (aG : Int) (aA : Int) (aB : Int) (az : ByteArray) (aC : Int) (av : Int) (ax : ByteArray) (aw : Int) (aD : Int) (ay : ByteArray) (ap : Int) (an : ByteArray) (ag : Int) (aq : Int) (ai : Int) (ah : Int) (ak : Int) (al : Int) (ao : Int) (aj : ByteArray) (am : ByteArray) (af : List (S61)) (ar : Int) (au : ByteArray) (ab : List (S63)) : Option (Bool) := if (af.length : Int) > 300 then (roadbookref07_Few.j0 k true aG aA aB az aC av ax aw aD ay ap an ag aq ai ah ak al ao aj am af ar au ab) else (if (ab.length : Int) > 60 then (roadbookref07_Few.j0 k true aG aA aB az aC av ax aw aD ay ap an ag aq ai ah ak al ao aj am af ar au ab) else (if (wrap64 ((az.size : Int) + (ax.size : Int))) > 200 then (roadbookref07_Few.j0 k true aG aA aB az aC av ax aw aD ay ap an ag aq ai ah ak al ao aj am af ar au ab) else (if (wrap64 ((ay.size : Int) + (an.size : Int))) > 200 then (roadbookref07_Few.j0 k true aG aA aB az aC av ax aw aD ay ap an ag aq ai ah ak al ao aj am af ar au ab) else (if (wrap64 ((aj.size : Int) + (am.size : Int))) > 200 then (roadbookref07_Few.j0 k true aG aA aB az aC av ax aw aD ay ap an ag aq ai ah ak al ao aj am af ar au ab) else (roadbookref07_Few.j0 k (decide ((au.size : Int) > 300)) aG aA aB az aC av ax aw aD ay ap an ag aq ai ah ak al ao aj am af ar au ab)))))
theorem roadbookref07_Few.mono_l : ∀ k, (∀ y0 y1 y2 y3 y4 y5 y6 y7 y8 y9 eg eh ei ek el em en eo ep er es et eu eW eX eY, LeO (roadbookref07_Few.j0 k y0 y1 y2 y3 y4 y5 y6 y7 y8 y9 eg eh ei ek el em en eo ep er es et eu eW eX eY) (roadbookref07_Few.j0 (k + 1) y0 y1 y2 y3 y4 y5 y6 y7 y8 y9 eg eh ei ek el em en eo ep er es et eu eW eX eY)) ∧ (∀ y0 y1 y2 y3 y4 y5 y6 y7 y8 y9 eg eh ei ek el em en eo ep er es et eu eW eX eY, LeO (roadbookref07_Few.l0 k y0 y1 y2 y3 y4 y5 y6 y7 y8 y9 eg eh ei ek el em en eo ep er es et eu eW eX eY) (roadbookref07_Few.l0 (k + 1) y0 y1 y2 y3 y4 y5 y6 y7 y8 y9 eg eh ei ek el em en eo ep er es et eu eW eX eY)) ∧ (∀ y0 y1 y2 y3 y4 y5 y6 y7 y8 y9 eg eh ei ek el em en eo ep er es et eu eW eX eY, LeO (roadbookref07_Few.l1 k y0 y1 y2 y3 y4 y5 y6 y7 y8 y9 eg eh ei ek el em en eo ep er es et eu eW eX eY) (roadbookref07_Few.l1 (k + 1) y0 y1 y2 y3 y4 y5 y6 y7 y8 y9 eg eh ei ek el em en eo ep er es et eu eW eX eY))
 | 0 => ⟨fun _ _ _ _ _ _ _ _ _ _ _ _ _ _ _ _ _ _ _ _ _ _ _ _ _ _ r h => by simp [roadbookref07_Few.j0] at h, fun _ _ _ _ _ _ _ _ _ _ _ _ _ _ _ _ _ _ _ _ _ _ _ _ _ _ r h => by simp [roadbookref07_Few.l0] at h, fun _ _ _ _ _ _ _ _ _ _ _ _ _ _ _ _ _ _ _ _ _ _ _ _ _ _ r h => by simp [roadbookref07_Few.l1] at h⟩
 | k + 1 => by
  obtain ⟨ih0, ih1, ih2⟩ := roadbookref07_Few.mono_l k
  refine ⟨?_, ?_, ?_⟩
  ·intro y0 y1 y2 y3 y4 y5 y6 y7 y8 y9 eg eh ei ek el em en eo ep er es et eu eW eX eY
   unfold roadbookref07_Few.j0
   repeat' first
   | (with_reducible exact ih0 ..)
   | (with_reducible exact ih1 ..)
   | (with_reducible exact ih2 ..)
   | (with_reducible exact LeO.refl _)
   | (with_reducible exact LeO.none _)
   | (with_reducible refine LeO.ite ?_ ?_)
   | (with_reducible refine LeO.bind ?_ (fun _ => ?_))
   | exact ih0 ..
   | exact ih1 ..
   | exact ih2 ..
   | exact LeO.none _
   | refine LeO.ite ?_ ?_
   | refine LeO.bind ?_ (fun _ => ?_)
  ·intro y0 y1 y2 y3 y4 y5 y6 y7 y8 y9 eg eh ei ek el em en eo ep er es et eu eW eX eY
   unfold roadbookref07_Few.l0
   repeat' first
   | (with_reducible exact ih0 ..)
   | (with_reducible exact ih1 ..)
   | (with_reducible exact ih2 ..)
   | (with_reducible exact LeO.refl _)
   | (with_reducible exact LeO.none _)
   | (with_reducible refine LeO.ite ?_ ?_)
   | (with_reducible refine LeO.bind ?_ (fun _ => ?_))
   | exact ih0 ..
   | exact ih1 ..
   | exact ih2 ..
   | exact LeO.none _
   | refine LeO.ite ?_ ?_
   | refine LeO.bind ?_ (fun _ => ?_)
  ·intro y0 y1 y2 y3 y4 y5 y6 y7 y8 y9 eg eh ei ek el em en eo ep er es et eu eW eX eY
   unfold roadbookref07_Few.l1
   repeat' first
   | (with_reducible exact ih0 ..)
   | (with_reducible exact ih1 ..)
   | (with_reducible exact ih2 ..)
   | (with_reducible exact LeO.refl _)
   | (with_reducible exact LeO.none _)
   | (with_reducible refine LeO.ite ?_ ?_)
   | (with_reducible refine LeO.bind ?_ (fun _ => ?_))
   | exact ih0 ..
   | exact ih1 ..
   | exact ih2 ..
   | exact LeO.none _
   | refine LeO.ite ?_ ?_
   | refine LeO.bind ?_ (fun _ => ?_)
theorem roadbookref07_Few.mono : ∀ a0 a1 a2 a3 a4 a5 a6 a7 a8 a9 fv fw fx fy fz fA fB fC fD fE fF fG fH fI fJ k, LeO (roadbookref07_Few.f k a0 a1 a2 a3 a4 a5 a6 a7 a8 a9 fv fw fx fy fz fA fB fC fD fE fF fG fH fI fJ) (roadbookref07_Few.f (k + 1) a0 a1 a2 a3 a4 a5 a6 a7 a8 a9 fv fw fx fy fz fA fB fC fD fE fF fG fH fI fJ) := by
 intro a0 a1 a2 a3 a4 a5 a6 a7 a8 a9 fv fw fx fy fz fA fB fC fD fE fF fG fH fI fJ k
 obtain ⟨ih0, ih1, ih2⟩ := roadbookref07_Few.mono_l k
 unfold roadbookref07_Few.f
 repeat' first
   | (with_reducible exact ih0 ..)
   | (with_reducible exact ih1 ..)
   | (with_reducible exact ih2 ..)
   | (with_reducible exact LeO.refl _)
   | (with_reducible exact LeO.none _)
   | (with_reducible refine LeO.ite ?_ ?_)
   | (with_reducible refine LeO.bind ?_ (fun _ => ?_))
   | exact ih0 ..
   | exact ih1 ..
   | exact ih2 ..
   | exact LeO.none _
   | refine LeO.ite ?_ ?_
   | refine LeO.bind ?_ (fun _ => ?_)
set_option maxHeartbeats 8000000 in
set_option maxRecDepth 100000 in
theorem roadbookref07_Few.calls (k : Nat) (aG : Int) (aA : Int) (aB : Int) (az : ByteArray) (aC : Int) (av : Int) (ax : ByteArray) (aw : Int) (aD : Int) (ay : ByteArray) (ap : Int) (an : ByteArray) (ag : Int) (aq : Int) (ai : Int) (ah : Int) (ak : Int) (al : Int) (ao : Int) (aj : ByteArray) (am : ByteArray) (bf : Option Addr) (bg : Nat) (af : List (S61)) (ar : Int) (au : ByteArray) (aI : Option Addr) (aJ : Nat) (ab : List (S63)) (r : Bool) (w : World) (cl : Kd.C k61 w bf af.length af) (cm : af.length ≤ bg) (cn : Kd.C k63 w aI ab.length ab) (co : ab.length ≤ aJ) (h : roadbookref07_Few.f k aG aA aB az aC av ax aw aD ay ap an ag aq ai ah ak al ao aj am af ar au ab = some r) :
  Calls Try.prog 48 #[.agg #[.int .i64 aG, .int .i64 aA, .int .i64 aB, .string az, .int .i64 aC, .int .i64 av, .string ax, .int .i64 aw, .int .i64 aD, .string ay, .int .i64 ap, .string an, .int .i64 ag, .int .i64 aq, .int .i64 ai, .int .i64 ah, .int .i64 ak, .int .i64 al, .int .i64 ao, .string aj, .string am, .slice bf af.length bg, .int .i64 ar, .string au, .slice aI ab.length aJ]] w fun e w' => e = .returned (.bool r) ∧ Below w.heap.size w w' := by
 have fp := Try.underlying58
 have da := Aside0.mk cl
 have cF := Aside0.mk cm
 clear cl cm
 have bW := Aside0.mk cn
 have bU := Aside0.mk co
 clear cn co
 have HB := Aside0.mk (Below.refl w.heap.size w)
 have H : (if (af.length : Int) > 300 then (roadbookref07_Few.j0 k true aG aA aB az aC av ax aw aD ay ap an ag aq ai ah ak al ao aj am af ar au ab) else (if (ab.length : Int) > 60 then (roadbookref07_Few.j0 k true aG aA aB az aC av ax aw aD ay ap an ag aq ai ah ak al ao aj am af ar au ab) else (if (wrap64 ((az.size : Int) + (ax.size : Int))) > 200 then (roadbookref07_Few.j0 k true aG aA aB az aC av ax aw aD ay ap an ag aq ai ah ak al ao aj am af ar au ab) else (if (wrap64 ((ay.size : Int) + (an.size : Int))) > 200 then (roadbookref07_Few.j0 k true aG aA aB az aC av ax aw aD ay ap an ag aq ai ah ak al ao aj am af ar au ab) else (if (wrap64 ((aj.size : Int) + (am.size : Int))) > 200 then (roadbookref07_Few.j0 k true aG aA aB az aC av ax aw aD ay ap an ag aq ai ah ak al ao aj am af ar au ab) else (roadbookref07_Few.j0 k (decide ((au.size : Int) > 300)) aG aA aB az aC av ax aw aD ay ap an ag aq ai ah ak al ao aj am af ar au ab)))))) = some r := h
 clear h
 have ip := Aside0.mk H
 clear H
 go_enter Try.func48, Try.ntmps48
 go_upto_region 1 with (first | ((with_reducible refine gate_dst (N := 1) rfl ?_); (try (refine gate_guard Z13 ?_; dsimp only)); refine box_event ?hg (N := 1) ?hd (cs := #[.int .i64 aG, .int .i64 aA, .int .i64 aB, .string az, .int .i64 aC, .int .i64 av, .string ax, .int .i64 aw, .int .i64 aD, .string ay, .int .i64 ap, .string an, .int .i64 ag, .int .i64 aq, .int .i64 ai, .int .i64 ah, .int .i64 ak, .int .i64 al, .int .i64 ao, .string aj, .string am, .slice bf af.length bg, .int .i64 ar, .string au, .slice aI ab.length aJ]) (t := 58) ?hr ?_; (case hd => rfl); (case hg => rfl); (case hr => first | (go_simp; done) | (go_simp; rfl)); intro aF hg w3 hbox hb; have aH := Aside0.mk (below_step Z0 hb); have aK := Aside0.mk (hbox); have aL := Aside0.mk ((by rw [hg]; exact (below_size Z0) : w.heap.size ≤ aF)); have cQ := Aside0.mk ((by rw [hg]; exact (below_size Z0) : w.heap.size ≤ aF)); replace HB := aH; have ae := aK; have fb := aL; have ed := cQ; clear aH aK aL cQ; clear hb hbox hg))
 (try simp only [Act.put, List.setIfInBounds_toArray, List.set_cons_zero, List.set_cons_succ])
 go_cut [50] (fun iT wc => ∃ (kq : Nat) (fk : Bool), iT = .bool fk ∧ Aside0 (roadbookref07_Few.j0 kq fk aG aA aB az aC av ax aw aD ay ap an ag aq ai ah ak al ao aj am af ar au ab = some r) ∧ Aside0 (kq ≤ k) ∧ Aside0 (wc.heap[aF]? = some (.cells #[.int .i64 aG, .int .i64 aA, .int .i64 aB, .string az, .int .i64 aC, .int .i64 av, .string ax, .int .i64 aw, .int .i64 aD, .string ay, .int .i64 ap, .string an, .int .i64 ag, .int .i64 aq, .int .i64 ai, .int .i64 ah, .int .i64 ak, .int .i64 al, .int .i64 ao, .string aj, .string am, (.slice bf af.length bg), .int .i64 ar, .string au, (.slice aI ab.length aJ)] 58 (0, 0))) ∧ Aside0 (Below w.heap.size w wc))
 case first =>
  have H := ip.out
  clear ip
  by_cases c4 : (af.length : Int) > 300
  ·rw [if_pos c4] at H
   have cL : decide (300 < (af.length : Int)) = true := decide_eq_true c4
   have gK : decide (300 < af.length) = true := decide_eq_true Z27
   clear c4
   (first | rw [cL] | (simp only [i64_w, i32_w]; rw [cL]) | skip)
   have H' := Aside0.mk H
   clear H
   have gL := cells_25 ae.out
   go_wp2
   go_meet
   case rel => exact ⟨_, (true), Z7, H', ⟨Z31⟩, ⟨Z3⟩, ⟨Z1⟩⟩
  ·rw [if_neg c4] at H
   have cL : decide (300 < (af.length : Int)) = false := decide_eq_false c4
   have gK : decide (300 < af.length) = false := decide_eq_false Z27
   clear c4
   (first | rw [cL] | (simp only [i64_w, i32_w]; rw [cL]) | skip)
   by_cases c6 : (ab.length : Int) > 60
   ·rw [if_pos c6] at H
    have dC : decide (60 < (ab.length : Int)) = true := decide_eq_true c6
    have fQ : decide (60 < ab.length) = true := decide_eq_true Z27
    clear c6
    have H' := Aside0.mk H
    clear H
    have hJ := cells_25 ae.out
    go_wp2
    go_meet
    case rel => exact ⟨_, (true), Z7, H', ⟨Z31⟩, ⟨Z3⟩, ⟨Z1⟩⟩
   ·rw [if_neg c6] at H
    have dC : decide (60 < (ab.length : Int)) = false := decide_eq_false c6
    have fQ : decide (60 < ab.length) = false := decide_eq_false Z27
    clear c6
    by_cases c8 : (wrap64 ((az.size : Int) + (ax.size : Int))) > 200
    ·rw [if_pos c8] at H
     have fc : decide (200 < (wrap64 ((az.size : Int) + (ax.size : Int)))) = true := decide_eq_true c8
     clear c8
     have H' := Aside0.mk H
     clear H
     have iq := cells_25 ae.out
     go_wp2
     go_meet
     case rel => exact ⟨_, (true), Z7, H', ⟨Z31⟩, ⟨Z3⟩, ⟨Z1⟩⟩
    ·rw [if_neg c8] at H
     have fc : decide (200 < (wrap64 ((az.size : Int) + (ax.size : Int)))) = false := decide_eq_false c8
     clear c8
     by_cases dx : (wrap64 ((ay.size : Int) + (an.size : Int))) > 200
     ·rw [if_pos dx] at H
      have fl : decide (200 < (wrap64 ((ay.size : Int) + (an.size : Int)))) = true := decide_eq_true dx
      clear dx
      have H' := Aside0.mk H
      clear H
      have hL := cells_25 ae.out
      go_wp2
      go_meet
      case rel => exact ⟨_, (true), Z7, H', ⟨Z31⟩, ⟨Z3⟩, ⟨Z1⟩⟩
     ·rw [if_neg dx] at H
      have fl : decide (200 < (wrap64 ((ay.size : Int) + (an.size : Int)))) = false := decide_eq_false dx
      clear dx
      by_cases eU : (wrap64 ((aj.size : Int) + (am.size : Int))) > 200
      ·rw [if_pos eU] at H
       have fT : decide (200 < (wrap64 ((aj.size : Int) + (am.size : Int)))) = true := decide_eq_true eU
       clear eU
       have H' := Aside0.mk H
       clear H
       have hM := cells_25 ae.out
       go_wp2
       go_meet
       case rel => exact ⟨_, (true), Z7, H', ⟨Z31⟩, ⟨Z3⟩, ⟨Z1⟩⟩
      ·rw [if_neg eU] at H
       have fT : decide (200 < (wrap64 ((aj.size : Int) + (am.size : Int)))) = false := decide_eq_false eU
       clear eU
       have H' := Aside0.mk H
       clear H
       have hN := cells_25 ae.out
       go_wp2
       go_meet
       case rel => exact ⟨_, (decide ((au.size : Int) > 300)), Z7, H', ⟨Z31⟩, ⟨Z3⟩, ⟨Z1⟩⟩
 case rest =>
  clear ip
  try clear c4
  try clear p6
  obtain ⟨kq, fk, rfl, HA, ih, ae, HB⟩ := hcut
  cases kq with
  | zero => exact absurd HA.out (by simp [roadbookref07_Few.j0])
  | succ kj1 =>
   have H := HA.out
   clear HA
   simp only [roadbookref07_Few.j0] at H
   by_cases hw : fk = true
   ·subst hw
    replace H := Sq.itT H
    obtain rfl := Option.some.inj H
    go_wp2
    go_ret
    exact ⟨Z8, Z1⟩
   ·replace hw := Bool.eq_false_iff.mpr hw
    subst hw
    replace H := Sq.itF H
    have H' := Aside0.mk H
    clear H
    go_wp2
    go_loopg [3] kj1 (fun kq v3 w' => ∃ (cV : Int), v3 = .int .i64 cV ∧ Aside0 (roadbookref07_Few.l0 kq cV aG aA aB az aC av ax aw aD ay ap an ag aq ai ah ak al ao aj am af ar au ab = some r) ∧ Aside0 (kq ≤ kj1) ∧ Aside0 (w'.heap[aF]? = some (.cells #[.int .i64 aG, .int .i64 aA, .int .i64 aB, .string az, .int .i64 aC, .int .i64 av, .string ax, .int .i64 aw, .int .i64 aD, .string ay, .int .i64 ap, .string an, .int .i64 ag, .int .i64 aq, .int .i64 ai, .int .i64 ah, .int .i64 ak, .int .i64 al, .int .i64 ao, .string aj, .string am, (.slice bf af.length bg), .int .i64 ar, .string au, (.slice aI ab.length aJ)] 58 (0, 0))) ∧ Aside0 (Below w.heap.size w w'))
    case atStart => exact ⟨(0), Z7, H', ⟨Nat.le_refl _⟩, ⟨Z3⟩, ⟨Z1⟩⟩
    case round =>
     clear H'
     try clear c1
     try clear p2
     try clear c4
     try clear cL
     try clear gK
     try clear c6
     try clear dC
     try clear fQ
     try clear p6
     try clear c8
     try clear hw
     try clear gL
     try clear hJ
     try clear p6
     obtain ⟨cV, rfl, HA, HK2, ae, HB⟩ := hrel
     cases gk with
     | zero => exact absurd HA.out (by simp [roadbookref07_Few.l0])
     | succ k2 =>
      have H := HA.out
      clear HA
      simp only [roadbookref07_Few.l0] at H
      by_cases gM : cV < (af.length : Int)
      ·rw [if_pos gM] at H
       have fU : decide (cV < (af.length : Int)) = true := decide_eq_true gM
       clear gM
       by_cases hO : 0 ≤ cV
       ·rw [if_pos hO] at H
        have c17b0 : decide (0 ≤ cV) = true := decide_eq_true hO
        clear hO
        by_cases hz : (((rd_T61 af cV).f0).size : Int) > 50
        ·rw [if_pos hz] at H
         have hP : decide (50 < (((rd_T61 af cV).f0).size : Int)) = true := decide_eq_true hz
         have hQ : decide (50 < ((rd_T61 af cV).f0).size) = true := decide_eq_true Z27
         clear hz
         obtain rfl := Option.some.inj H
         have hcz19 := cells_25 ae.out
         have p102 : 0 ≤ (cV : Int) := of_decide_eq_true Z2
         have q102 : cV < (af.length : Int) := of_decide_eq_true Z2
         obtain ⟨ad102, e102, hx102_0, hx102_1⟩ := at_T61 da.out cV p102 q102
         cases e102
         replace hx102_0 := (HB.out.cell (World.block_lt_of_cell? w _ hx102_0)).trans hx102_0
         replace hx102_1 := (HB.out.cell (World.block_lt_of_cell? w _ hx102_1)).trans hx102_1
         replace p102 := eq_true p102
         replace q102 := eq_true q102
         go_wp2
         go_ret
         exact ⟨Z8, Z1⟩
        ·rw [if_neg hz] at H
         have hP : decide (50 < (((rd_T61 af cV).f0).size : Int)) = false := decide_eq_false hz
         have hQ : decide (50 < ((rd_T61 af cV).f0).size) = false := decide_eq_false Z27
         clear hz
         have H' := Aside0.mk H
         clear H
         have hcz20 := cells_25 ae.out
         have p102 : 0 ≤ (cV : Int) := of_decide_eq_true Z2
         have q102 : cV < (af.length : Int) := of_decide_eq_true Z2
         obtain ⟨ad102, e102, hx102_0, hx102_1⟩ := at_T61 da.out cV p102 q102
         cases e102
         replace hx102_0 := (HB.out.cell (World.block_lt_of_cell? w _ hx102_0)).trans hx102_0
         replace hx102_1 := (HB.out.cell (World.block_lt_of_cell? w _ hx102_1)).trans hx102_1
         replace p102 := eq_true p102
         replace q102 := eq_true q102
         go_wp2
         go_roundg k2
         case measure => have := ih.out; have := HK2.out; omega
         case rel => exact ⟨(wrap64 (cV + 1)), Z7, H', ⟨by have := ih.out; have := HK2.out; omega⟩, ⟨Z3⟩, ⟨Z1⟩⟩
       ·rw [if_neg hO] at H
        exact absurd H (by simp)
      ·rw [if_neg gM] at H
       have fU : decide (cV < (af.length : Int)) = false := decide_eq_false gM
       clear gM
       have H' := Aside0.mk H
       clear H
       have hR := cells_25 ae.out
       go_wp2
       go_loopg [4] k2 (fun kq v4 w' => ∃ (cW : Int), v4 = .int .i64 cW ∧ Aside0 (roadbookref07_Few.l1 kq cW aG aA aB az aC av ax aw aD ay ap an ag aq ai ah ak al ao aj am af ar au ab = some r) ∧ Aside0 (kq ≤ k2) ∧ Aside0 (w'.heap[aF]? = some (.cells #[.int .i64 aG, .int .i64 aA, .int .i64 aB, .string az, .int .i64 aC, .int .i64 av, .string ax, .int .i64 aw, .int .i64 aD, .string ay, .int .i64 ap, .string an, .int .i64 ag, .int .i64 aq, .int .i64 ai, .int .i64 ah, .int .i64 ak, .int .i64 al, .int .i64 ao, .string aj, .string am, (.slice bf af.length bg), .int .i64 ar, .string au, (.slice aI ab.length aJ)] 58 (0, 0))) ∧ Aside0 (Below w.heap.size w w'))
       case atStart => exact ⟨(0), Z7, H', ⟨Nat.le_refl _⟩, ⟨Z3⟩, ⟨Z1⟩⟩
       case round =>
        clear H'
        try clear c1
        try clear p2
        try clear c4
        try clear cL
        try clear gK
        try clear c6
        try clear dC
        try clear fQ
        try clear p6
        try clear c8
        try clear fc
        try clear dx
        try clear fl
        try clear eU
        try clear fT
        try clear hw
        try clear gM
        try clear fU
        try clear hO
        try clear hL
        try clear hM
        try clear hN
        try clear hR
        try clear gL
        try clear hJ
        try clear iq
        try clear p2
        try clear p6
        obtain ⟨cW, rfl, HA, HK3, ae, HB⟩ := hrel
        cases gk with
        | zero => exact absurd HA.out (by simp [roadbookref07_Few.l1])
        | succ k3 =>
         have H := HA.out
         clear HA
         simp only [roadbookref07_Few.l1] at H
         by_cases hA : cW < (ab.length : Int)
         ·rw [if_pos hA] at H
          have hS : decide (cW < (ab.length : Int)) = true := decide_eq_true hA
          clear hA
          by_cases ii : 0 ≤ cW
          ·rw [if_pos ii] at H
           have c23b0 : decide (0 ≤ cW) = true := decide_eq_true ii
           clear ii
           by_cases cT : (((rd_T63 ab cW).f1).size : Int) > 300
           ·rw [if_pos cT] at H
            have hT : decide (300 < (((rd_T63 ab cW).f1).size : Int)) = true := decide_eq_true cT
            have hU : decide (300 < ((rd_T63 ab cW).f1).size) = true := decide_eq_true Z27
            clear cT
            obtain rfl := Option.some.inj H
            have hcz25 := cells_25 ae.out
            have p103 : 0 ≤ (cW : Int) := of_decide_eq_true Z2
            have q103 : cW < (ab.length : Int) := of_decide_eq_true Z2
            obtain ⟨ad103, e103, hx103_0, hx103_1⟩ := at_T63 bW.out cW p103 q103
            cases e103
            replace hx103_0 := (HB.out.cell (World.block_lt_of_cell? w _ hx103_0)).trans hx103_0
            replace hx103_1 := (HB.out.cell (World.block_lt_of_cell? w _ hx103_1)).trans hx103_1
            replace p103 := eq_true p103
            replace q103 := eq_true q103
            go_wp2
            go_ret
            exact ⟨Z8, Z1⟩
           ·rw [if_neg cT] at H
            have hT : decide (300 < (((rd_T63 ab cW).f1).size : Int)) = false := decide_eq_false cT
            have hU : decide (300 < ((rd_T63 ab cW).f1).size) = false := decide_eq_false Z27
            clear cT
            have H' := Aside0.mk H
            clear H
            have hcz26 := cells_25 ae.out
            have p103 : 0 ≤ (cW : Int) := of_decide_eq_true Z2
            have q103 : cW < (ab.length : Int) := of_decide_eq_true Z2
            obtain ⟨ad103, e103, hx103_0, hx103_1⟩ := at_T63 bW.out cW p103 q103
            cases e103
            replace hx103_0 := (HB.out.cell (World.block_lt_of_cell? w _ hx103_0)).trans hx103_0
            replace hx103_1 := (HB.out.cell (World.block_lt_of_cell? w _ hx103_1)).trans hx103_1
            replace p103 := eq_true p103
            replace q103 := eq_true q103
            go_wp2
            go_roundg k3
            case measure => have := ih.out; have := HK2.out; have := HK3.out; omega
            case rel => exact ⟨(wrap64 (cW + 1)), Z7, H', ⟨by have := ih.out; have := HK2.out; have := HK3.out; omega⟩, ⟨Z3⟩, ⟨Z1⟩⟩
          ·rw [if_neg ii] at H
           exact absurd H (by simp)
         ·rw [if_neg hA] at H
          have hS : decide (cW < (ab.length : Int)) = false := decide_eq_false hA
          clear hA
          obtain rfl := Option.some.inj H
          have hcz27 := cells_25 ae.out
          go_wp2
          go_ret
          exact ⟨Z8, Z1⟩

/-! ### roadbookref07_Bytes: function 54 -/
def roadbookref07_Bytes.l0 : Nat → List (S63) → Int → Int → Option (Int)
 | 0, _, _, _ => none
 | k + 1, x0, x3, x4 => if x4 < (x0.length : Int) then (if 0 ≤ x4 then (roadbookref07_Bytes.l0 k x0 (wrap64 ((wrap64 (x3 + 2)) + (((rd_T63 x0 x4).f1).size : Int))) (wrap64 (x4 + 1))) else (none)) else (some x3)
def roadbookref07_Bytes.f (k : Nat) (l0 : List (S63)) : Option (Int) := roadbookref07_Bytes.l0 k l0 0 0
theorem roadbookref07_Bytes.mono_l : ∀ k, (∀ y0 y1 y2, LeO (roadbookref07_Bytes.l0 k y0 y1 y2) (roadbookref07_Bytes.l0 (k + 1) y0 y1 y2))
 | 0 => fun _ _ _ r h => by simp [roadbookref07_Bytes.l0] at h
 | k + 1 => by
  have ih0 := roadbookref07_Bytes.mono_l k
  ·intro y0 y1 y2
   unfold roadbookref07_Bytes.l0
   repeat' first
   | (with_reducible exact ih0 ..)
   | (with_reducible exact LeO.refl _)
   | (with_reducible exact LeO.none _)
   | (with_reducible refine LeO.ite ?_ ?_)
   | (with_reducible refine LeO.bind ?_ (fun _ => ?_))
   | exact ih0 ..
   | exact LeO.none _
   | refine LeO.ite ?_ ?_
   | refine LeO.bind ?_ (fun _ => ?_)
theorem roadbookref07_Bytes.mono : ∀ a0 k, LeO (roadbookref07_Bytes.f k a0) (roadbookref07_Bytes.f (k + 1) a0) := by
 intro a0 k
 have ih0 := roadbookref07_Bytes.mono_l k
 unfold roadbookref07_Bytes.f
 repeat' first
   | (with_reducible exact ih0 ..)
   | (with_reducible exact LeO.refl _)
   | (with_reducible exact LeO.none _)
   | (with_reducible refine LeO.ite ?_ ?_)
   | (with_reducible refine LeO.bind ?_ (fun _ => ?_))
   | exact ih0 ..
   | exact LeO.none _
   | refine LeO.ite ?_ ?_
   | refine LeO.bind ?_ (fun _ => ?_)
set_option maxHeartbeats 8000000 in
set_option maxRecDepth 100000 in
theorem roadbookref07_Bytes.calls (k : Nat) (A0 : Option Addr) (c0 : Nat) (l0 : List (S63)) (r : Int) (w : World) (dm : Kd.C k63 w A0 l0.length l0) (cU : l0.length ≤ c0) (h : roadbookref07_Bytes.f k l0 = some r) :
  Calls Try.prog 54 #[.slice A0 l0.length c0] w fun e w' => e = .returned (.int .i64 r) ∧ Drawn0 w w' := by
 have df := Aside0.mk dm
 have fP := Aside0.mk cU
 clear dm cU
 have H : (roadbookref07_Bytes.l0 k l0 0 0) = some r := h
 clear h
 have H' := Aside0.mk H
 clear H
 go_enter Try.func54, Try.ntmps54
 go_wp2
 go_loopg [3, 4] k (fun kq v3 v4 w' => ∃ (eZ : Int) (dA : Int), v3 = .int .i64 eZ ∧ v4 = .int .i64 dA ∧ Aside0 (roadbookref07_Bytes.l0 kq l0 eZ dA = some r) ∧ Aside0 (kq ≤ k) ∧ Drawn0 w w')
 case atStart => exact ⟨(0), (0), Z7, Z7, H', ⟨Nat.le_refl _⟩, Z10⟩
 case round =>
  clear H'
  obtain ⟨eZ, dA, rfl, rfl, HA, HK1, ⟨m1, rfl⟩⟩ := hrel
  cases gk with
  | zero => exact absurd HA.out (by simp [roadbookref07_Bytes.l0])
  | succ k1 =>
   have H := HA.out
   clear HA
   simp only [roadbookref07_Bytes.l0] at H
   by_cases c2 : dA < (l0.length : Int)
   ·rw [if_pos c2] at H
    have gN : decide (dA < (l0.length : Int)) = true := decide_eq_true c2
    clear c2
    by_cases c3 : 0 ≤ dA
    ·rw [if_pos c3] at H
     have db : decide (0 ≤ dA) = true := decide_eq_true c3
     clear c3
     have H' := Aside0.mk H
     clear H
     have p101 : 0 ≤ (dA : Int) := of_decide_eq_true Z2
     have q101 : dA < (l0.length : Int) := of_decide_eq_true Z2
     obtain ⟨ad101, e101, hx101_0, hx101_1⟩ := at_T63 df.out dA p101 q101
     cases e101
     replace p101 := eq_true p101
     replace q101 := eq_true q101
     go_wp2
     go_roundg k1
     case measure => have := HK1.out; omega
     case rel => exact ⟨(wrap64 ((wrap64 (eZ + 2)) + (((rd_T63 l0 dA).f1).size : Int))), (wrap64 (dA + 1)), Z7, Z7, H', ⟨Z30⟩, Z10⟩
    ·rw [if_neg c3] at H
     exact absurd H (by simp)
   ·rw [if_neg c2] at H
    have gN : decide (dA < (l0.length : Int)) = false := decide_eq_false c2
    clear c2
    obtain rfl := Option.some.inj H
    go_wp2
    go_ret
    exact ⟨Z7, Z10⟩

/-! ### roadbookref07_Subs: function 56 -/
def roadbookref07_Subs.l0 : Nat → List (S63) → Int → Int → Int → Option (Bool)
 | 0, _, _, _, _ => none
 | k + 1, x0, x1, x2, x7 => if x7 < (x0.length : Int) then (if 0 ≤ x7 then (if ((rd_T63 x0 x7).f0) < x1 then (some false) else (if ((rd_T63 x0 x7).f0) > x2 then (some false) else (if (((rd_T63 x0 x7).f1).size : Int) > 255 then (some false) else (roadbookref07_Subs.l0 k x0 x1 x2 (wrap64 (x7 + 1)))))) else (none)) else (some true)
def roadbookref07_Subs.f (k : Nat) (l0 : List (S63)) (a1 : Int) (a2 : Int) : Option (Bool) := roadbookref07_Subs.l0 k l0 a1 a2 0
theorem roadbookref07_Subs.mono_l : ∀ k, (∀ y0 y1 y2 y3, LeO (roadbookref07_Subs.l0 k y0 y1 y2 y3) (roadbookref07_Subs.l0 (k + 1) y0 y1 y2 y3))
 | 0 => fun _ _ _ _ r h => by simp [roadbookref07_Subs.l0] at h
 | k + 1 => by
  have ih0 := roadbookref07_Subs.mono_l k
  ·intro y0 y1 y2 y3
   unfold roadbookref07_Subs.l0
   repeat' first
   | (with_reducible exact ih0 ..)
   | (with_reducible exact LeO.refl _)
   | (with_reducible exact LeO.none _)
   | (with_reducible refine LeO.ite ?_ ?_)
   | (with_reducible refine LeO.bind ?_ (fun _ => ?_))
   | exact ih0 ..
   | exact LeO.none _
   | refine LeO.ite ?_ ?_
   | refine LeO.bind ?_ (fun _ => ?_)
theorem roadbookref07_Subs.mono : ∀ a0 a1 a2 k, LeO (roadbookref07_Subs.f k a0 a1 a2) (roadbookref07_Subs.f (k + 1) a0 a1 a2) := by
 intro a0 a1 a2 k
 have ih0 := roadbookref07_Subs.mono_l k
 unfold roadbookref07_Subs.f
 repeat' first
   | (with_reducible exact ih0 ..)
   | (with_reducible exact LeO.refl _)
   | (with_reducible exact LeO.none _)
   | (with_reducible refine LeO.ite ?_ ?_)
   | (with_reducible refine LeO.bind ?_ (fun _ => ?_))
   | exact ih0 ..
   | exact LeO.none _
   | refine LeO.ite ?_ ?_
   | refine LeO.bind ?_ (fun _ => ?_)
set_option maxHeartbeats 8000000 in
set_option maxRecDepth 100000 in
theorem roadbookref07_Subs.calls (k : Nat) (A0 : Option Addr) (c0 : Nat) (l0 : List (S63)) (a1 : Int) (a2 : Int) (r : Bool) (w : World) (dm : Kd.C k63 w A0 l0.length l0) (cU : l0.length ≤ c0) (h : roadbookref07_Subs.f k l0 a1 a2 = some r) :
  Calls Try.prog 56 #[.slice A0 l0.length c0, .int .i64 a1, .int .i64 a2] w fun e w' => e = .returned (.bool r) ∧ Drawn0 w w' := by
 have df := Aside0.mk dm
 have fP := Aside0.mk cU
 clear dm cU
 have H : (roadbookref07_Subs.l0 k l0 a1 a2 0) = some r := h
 clear h
 have H' := Aside0.mk H
 clear H
 go_enter Try.func56, Try.ntmps56
 go_wp2
 go_loopg [7] k (fun kq v7 w' => ∃ (bV : Int), v7 = .int .i64 bV ∧ Aside0 (roadbookref07_Subs.l0 kq l0 a1 a2 bV = some r) ∧ Aside0 (kq ≤ k) ∧ Drawn0 w w')
 case atStart => exact ⟨(0), Z7, H', ⟨Nat.le_refl _⟩, Z10⟩
 case round =>
  clear H'
  try clear p2
  obtain ⟨bV, rfl, HA, HK1, ⟨m1, rfl⟩⟩ := hrel
  cases gk with
  | zero => exact absurd HA.out (by simp [roadbookref07_Subs.l0])
  | succ k1 =>
   have H := HA.out
   clear HA
   simp only [roadbookref07_Subs.l0] at H
   by_cases c4 : bV < (l0.length : Int)
   ·rw [if_pos c4] at H
    have cL : decide (bV < (l0.length : Int)) = true := decide_eq_true c4
    clear c4
    by_cases c5 : 0 ≤ bV
    ·rw [if_pos c5] at H
     have ec : decide (0 ≤ bV) = true := decide_eq_true c5
     clear c5
     by_cases c6 : ((rd_T63 l0 bV).f0) < a1
     ·rw [if_pos c6] at H
      have dC : decide (((rd_T63 l0 bV).f0) < a1) = true := decide_eq_true c6
      clear c6
      obtain rfl := Option.some.inj H
      have p101 : 0 ≤ (bV : Int) := of_decide_eq_true Z2
      have q101 : bV < (l0.length : Int) := of_decide_eq_true Z2
      obtain ⟨ad101, e101, hx101_0, hx101_1⟩ := at_T63 df.out bV p101 q101
      cases e101
      replace p101 := eq_true p101
      replace q101 := eq_true q101
      go_wp2
      go_ret
      exact ⟨Z7, Z10⟩
     ·rw [if_neg c6] at H
      have dC : decide (((rd_T63 l0 bV).f0) < a1) = false := decide_eq_false c6
      clear c6
      by_cases c7 : ((rd_T63 l0 bV).f0) > a2
      ·rw [if_pos c7] at H
       have eT : decide (a2 < ((rd_T63 l0 bV).f0)) = true := decide_eq_true c7
       clear c7
       obtain rfl := Option.some.inj H
       have p101 : 0 ≤ (bV : Int) := of_decide_eq_true Z2
       have q101 : bV < (l0.length : Int) := of_decide_eq_true Z2
       obtain ⟨ad101, e101, hx101_0, hx101_1⟩ := at_T63 df.out bV p101 q101
       cases e101
       replace p101 := eq_true p101
       replace q101 := eq_true q101
       have p102 : 0 ≤ (bV : Int) := of_decide_eq_true Z2
       have q102 : bV < (l0.length : Int) := of_decide_eq_true Z2
       obtain ⟨ad102, e102, hx102_0, hx102_1⟩ := at_T63 df.out bV p102 q102
       obtain rfl : ad101 = ad102 := (by injection e102)
       replace p102 := eq_true p102
       replace q102 := eq_true q102
       go_wp2
       go_ret
       exact ⟨Z7, Z10⟩
      ·rw [if_neg c7] at H
       have eT : decide (a2 < ((rd_T63 l0 bV).f0)) = false := decide_eq_false c7
       clear c7
       by_cases c8 : (((rd_T63 l0 bV).f1).size : Int) > 255
       ·rw [if_pos c8] at H
        have fc : decide (255 < (((rd_T63 l0 bV).f1).size : Int)) = true := decide_eq_true c8
        have ir : decide (255 < ((rd_T63 l0 bV).f1).size) = true := decide_eq_true Z27
        clear c8
        obtain rfl := Option.some.inj H
        have p101 : 0 ≤ (bV : Int) := of_decide_eq_true Z2
        have q101 : bV < (l0.length : Int) := of_decide_eq_true Z2
        obtain ⟨ad101, e101, hx101_0, hx101_1⟩ := at_T63 df.out bV p101 q101
        cases e101
        replace p101 := eq_true p101
        replace q101 := eq_true q101
        have p102 : 0 ≤ (bV : Int) := of_decide_eq_true Z2
        have q102 : bV < (l0.length : Int) := of_decide_eq_true Z2
        obtain ⟨ad102, e102, hx102_0, hx102_1⟩ := at_T63 df.out bV p102 q102
        obtain rfl : ad101 = ad102 := (by injection e102)
        replace p102 := eq_true p102
        replace q102 := eq_true q102
        have p103 : 0 ≤ (bV : Int) := of_decide_eq_true Z2
        have q103 : bV < (l0.length : Int) := of_decide_eq_true Z2
        obtain ⟨ad103, e103, hx103_0, hx103_1⟩ := at_T63 df.out bV p103 q103
        obtain rfl : ad101 = ad103 := (by injection e103)
        replace p103 := eq_true p103
        replace q103 := eq_true q103
        go_wp2
        go_ret
        exact ⟨Z7, Z10⟩
       ·rw [if_neg c8] at H
        have fc : decide (255 < (((rd_T63 l0 bV).f1).size : Int)) = false := decide_eq_false c8
        have ir : decide (255 < ((rd_T63 l0 bV).f1).size) = false := decide_eq_false Z27
        clear c8
        have H' := Aside0.mk H
        clear H
        have p101 : 0 ≤ (bV : Int) := of_decide_eq_true Z2
        have q101 : bV < (l0.length : Int) := of_decide_eq_true Z2
        obtain ⟨ad101, e101, hx101_0, hx101_1⟩ := at_T63 df.out bV p101 q101
        cases e101
        replace p101 := eq_true p101
        replace q101 := eq_true q101
        have p102 : 0 ≤ (bV : Int) := of_decide_eq_true Z2
        have q102 : bV < (l0.length : Int) := of_decide_eq_true Z2
        obtain ⟨ad102, e102, hx102_0, hx102_1⟩ := at_T63 df.out bV p102 q102
        obtain rfl : ad101 = ad102 := (by injection e102)
        replace p102 := eq_true p102
        replace q102 := eq_true q102
        have p103 : 0 ≤ (bV : Int) := of_decide_eq_true Z2
        have q103 : bV < (l0.length : Int) := of_decide_eq_true Z2
        obtain ⟨ad103, e103, hx103_0, hx103_1⟩ := at_T63 df.out bV p103 q103
        obtain rfl : ad101 = ad103 := (by injection e103)
        replace p103 := eq_true p103
        replace q103 := eq_true q103
        go_wp2
        go_roundg k1
        case measure => have := HK1.out; omega
        case rel => exact ⟨(wrap64 (bV + 1)), Z7, H', ⟨Z30⟩, Z10⟩
    ·rw [if_neg c5] at H
     exact absurd H (by simp)
   ·rw [if_neg c4] at H
    have cL : decide (bV < (l0.length : Int)) = false := decide_eq_false c4
    clear c4
    obtain rfl := Option.some.inj H
    go_wp2
    go_ret
    exact ⟨Z7, Z10⟩

/-! ### roadbookref07_FewAll: function 63 -/
def roadbookref07_FewAll.l0 : Nat → List (S58) → Int → Option (Bool)
 | 0, _, _ => none
 | k + 1, x0, x5 => if x5 < (x0.length : Int) then (if 0 ≤ x5 then ((roadbookref07_Few.f k ((rd_T58 x0 x5).f0) ((rd_T58 x0 x5).f1) ((rd_T58 x0 x5).f2) ((rd_T58 x0 x5).f3) ((rd_T58 x0 x5).f4) ((rd_T58 x0 x5).f5) ((rd_T58 x0 x5).f6) ((rd_T58 x0 x5).f7) ((rd_T58 x0 x5).f8) ((rd_T58 x0 x5).f9) ((rd_T58 x0 x5).f10) ((rd_T58 x0 x5).f11) ((rd_T58 x0 x5).f12) ((rd_T58 x0 x5).f13) ((rd_T58 x0 x5).f14) ((rd_T58 x0 x5).f15) ((rd_T58 x0 x5).f16) ((rd_T58 x0 x5).f17) ((rd_T58 x0 x5).f18) ((rd_T58 x0 x5).f19) ((rd_T58 x0 x5).f20) ((rd_T58 x0 x5).f21) ((rd_T58 x0 x5).f22) ((rd_T58 x0 x5).f23) ((rd_T58 x0 x5).f24)).bind fun dy => (if dy = true then (roadbookref07_FewAll.l0 k x0 (wrap64 (x5 + 1))) else (some false))) else (none)) else (some true)
def roadbookref07_FewAll.f (k : Nat) (l0 : List (S58)) (a1 : Int) : Option (Bool) := if (l0.length : Int) > a1 then (some false) else (roadbookref07_FewAll.l0 k l0 0)
theorem roadbookref07_FewAll.mono_l : ∀ k, (∀ y0 y1, LeO (roadbookref07_FewAll.l0 k y0 y1) (roadbookref07_FewAll.l0 (k + 1) y0 y1))
 | 0 => fun _ _ r h => by simp [roadbookref07_FewAll.l0] at h
 | k + 1 => by
  have ih0 := roadbookref07_FewAll.mono_l k
  ·intro y0 y1
   unfold roadbookref07_FewAll.l0
   repeat' first
   | (with_reducible exact ih0 _ _)
   | (with_reducible exact roadbookref07_Few.mono _ _ _ _ _ _ _ _ _ _ _ _ _ _ _ _ _ _ _ _ _ _ _ _ _ _)
   | (with_reducible exact LeO.refl _)
   | (with_reducible exact LeO.none _)
   | (with_reducible refine LeO.ite ?_ ?_)
   | (with_reducible refine LeO.bind ?_ (fun _ => ?_))
   | exact ih0 _ _
   | exact roadbookref07_Few.mono _ _ _ _ _ _ _ _ _ _ _ _ _ _ _ _ _ _ _ _ _ _ _ _ _ _
   | exact LeO.none _
   | refine LeO.ite ?_ ?_
   | refine LeO.bind ?_ (fun _ => ?_)
theorem roadbookref07_FewAll.mono : ∀ a0 a1 k, LeO (roadbookref07_FewAll.f k a0 a1) (roadbookref07_FewAll.f (k + 1) a0 a1) := by
 intro a0 a1 k
 have ih0 := roadbookref07_FewAll.mono_l k
 unfold roadbookref07_FewAll.f
 repeat' first
   | (with_reducible exact ih0 _ _)
   | (with_reducible exact roadbookref07_Few.mono _ _ _ _ _ _ _ _ _ _ _ _ _ _ _ _ _ _ _ _ _ _ _ _ _ _)
   | (with_reducible exact LeO.refl _)
   | (with_reducible exact LeO.none _)
   | (with_reducible refine LeO.ite ?_ ?_)
   | (with_reducible refine LeO.bind ?_ (fun _ => ?_))
   | exact ih0 _ _
   | exact roadbookref07_Few.mono _ _ _ _ _ _ _ _ _ _ _ _ _ _ _ _ _ _ _ _ _ _ _ _ _ _
   | exact LeO.none _
   | refine LeO.ite ?_ ?_
   | refine LeO.bind ?_ (fun _ => ?_)

set_option maxHeartbeats 8000000 in
set_option maxRecDepth 100000 in
theorem roadbookref07_FewAll.calls (k : Nat) (A0 : Option Addr) (c0 : Nat) (l0 : List (S58)) (a1 : Int) (r : Bool) (w : World) (dm : Kd.C k58 w A0 l0.length l0) (cU : l0.length ≤ c0) (h : roadbookref07_FewAll.f k l0 a1 = some r) :
  Calls Try.prog 63 #[.slice A0 l0.length c0, .int .i64 a1] w fun e w' => e = .returned (.bool r) ∧ Below w.heap.size w w' := by
 have fp := Try.underlying58
 have df := Aside0.mk dm
 have fP := Aside0.mk cU
 clear dm cU
 have HB := Aside0.mk (Below.refl w.heap.size w)
 have H : (if (l0.length : Int) > a1 then (some false) else (roadbookref07_FewAll.l0 k l0 0)) = some r := h
 clear h
 by_cases c3 : (l0.length : Int) > a1
 ·rw [if_pos c3] at H
  have db : decide (a1 < (l0.length : Int)) = true := decide_eq_true c3
  clear c3
  obtain rfl := Option.some.inj H
  go_enter Try.func63, Try.ntmps63
  go_wp2_with (first | ((with_reducible refine Pre.gate_load 58 rfl ?_); (try (refine gate_guard Z13 ?_; dsimp only)); refine Pre.load_event_a rfl rfl rfl Z13 Pre.range25 Try.underlying58 rfl Z5 ?_))
  go_ret
  exact ⟨Z8, Z0⟩
 ·rw [if_neg c3] at H
  have db : decide (a1 < (l0.length : Int)) = false := decide_eq_false c3
  clear c3
  have H' := Aside0.mk H
  clear H
  go_enter Try.func63, Try.ntmps63
  go_wp2_with (first | ((with_reducible refine Pre.gate_load 58 rfl ?_); (try (refine gate_guard Z13 ?_; dsimp only)); refine Pre.load_event_a rfl rfl rfl Z13 Pre.range25 Try.underlying58 rfl Z5 ?_))
  go_loopg [5] k (fun kq v5 w' => ∃ (aa : Int), v5 = .int .i64 aa ∧ Aside0 (roadbookref07_FewAll.l0 kq l0 aa = some r) ∧ Aside0 (kq ≤ k) ∧ Aside0 (Below w.heap.size w w'))
  case atStart => exact ⟨(0), Z7, H', ⟨Nat.le_refl _⟩, ⟨Z0⟩⟩
  case round =>
   clear H'
   try clear p2
   try clear c3
   try clear db
   obtain ⟨aa, rfl, HA, HK1, HB⟩ := hrel
   cases gk with
   | zero => exact absurd HA.out (by simp [roadbookref07_FewAll.l0])
   | succ k1 =>
    have H := HA.out
    clear HA
    simp only [roadbookref07_FewAll.l0] at H
    by_cases c4 : aa < (l0.length : Int)
    ·rw [if_pos c4] at H
     have cL : decide (aa < (l0.length : Int)) = true := decide_eq_true c4
     clear c4
     by_cases c5 : 0 ≤ aa
     ·rw [if_pos c5] at H
      have ec : decide (0 ≤ aa) = true := decide_eq_true c5
      clear c5
      replace H := Option.bind_eq_some_iff.mp H
      obtain ⟨dy, hI, H⟩ := H
      replace H : (if dy = true then (roadbookref07_FewAll.l0 k1 l0 (wrap64 (aa + 1))) else (some false)) = some r := H
      have A6 := Aside0.mk hI
      clear hI
      by_cases c7 : dy = true
      ·subst c7
       replace H := Sq.itT H
       have H' := Aside0.mk H
       clear H
       have p101 : 0 ≤ (aa : Int) := of_decide_eq_true Z2
       have q101 : aa < (l0.length : Int) := of_decide_eq_true Z2
       obtain ⟨ad101, cM, cN, cO, cP, e101, hx101_0, hx101_1, hx101_2, hx101_3, hx101_4, hx101_5, hx101_6, hx101_7, hx101_8, hx101_9, hx101_10, hx101_11, hx101_12, hx101_13, hx101_14, hx101_15, hx101_16, hx101_17, hx101_18, hx101_19, hx101_20, hx101_21, hx101_22, hx101_23, hx101_24, hl101_21, hi101_21, hl101_24, hi101_24⟩ := at_T58 df.out aa p101 q101
       cases e101
       replace hx101_0 := (HB.out.cell (World.block_lt_of_cell? w _ hx101_0)).trans hx101_0
       replace hx101_1 := (HB.out.cell (World.block_lt_of_cell? w _ hx101_1)).trans hx101_1
       replace hx101_2 := (HB.out.cell (World.block_lt_of_cell? w _ hx101_2)).trans hx101_2
       replace hx101_3 := (HB.out.cell (World.block_lt_of_cell? w _ hx101_3)).trans hx101_3
       replace hx101_4 := (HB.out.cell (World.block_lt_of_cell? w _ hx101_4)).trans hx101_4
       replace hx101_5 := (HB.out.cell (World.block_lt_of_cell? w _ hx101_5)).trans hx101_5
       replace hx101_6 := (HB.out.cell (World.block_lt_of_cell? w _ hx101_6)).trans hx101_6
       replace hx101_7 := (HB.out.cell (World.block_lt_of_cell? w _ hx101_7)).trans hx101_7
       replace hx101_8 := (HB.out.cell (World.block_lt_of_cell? w _ hx101_8)).trans hx101_8
       replace hx101_9 := (HB.out.cell (World.block_lt_of_cell? w _ hx101_9)).trans hx101_9
       replace hx101_10 := (HB.out.cell (World.block_lt_of_cell? w _ hx101_10)).trans hx101_10
       replace hx101_11 := (HB.out.cell (World.block_lt_of_cell? w _ hx101_11)).trans hx101_11
       replace hx101_12 := (HB.out.cell (World.block_lt_of_cell? w _ hx101_12)).trans hx101_12
       replace hx101_13 := (HB.out.cell (World.block_lt_of_cell? w _ hx101_13)).trans hx101_13
       replace hx101_14 := (HB.out.cell (World.block_lt_of_cell? w _ hx101_14)).trans hx101_14
       replace hx101_15 := (HB.out.cell (World.block_lt_of_cell? w _ hx101_15)).trans hx101_15
       replace hx101_16 := (HB.out.cell (World.block_lt_of_cell? w _ hx101_16)).trans hx101_16
       replace hx101_17 := (HB.out.cell (World.block_lt_of_cell? w _ hx101_17)).trans hx101_17
       replace hx101_18 := (HB.out.cell (World.block_lt_of_cell? w _ hx101_18)).trans hx101_18
       replace hx101_19 := (HB.out.cell (World.block_lt_of_cell? w _ hx101_19)).trans hx101_19
       replace hx101_20 := (HB.out.cell (World.block_lt_of_cell? w _ hx101_20)).trans hx101_20
       replace hx101_21 := (HB.out.cell (World.block_lt_of_cell? w _ hx101_21)).trans hx101_21
       replace hx101_22 := (HB.out.cell (World.block_lt_of_cell? w _ hx101_22)).trans hx101_22
       replace hx101_23 := (HB.out.cell (World.block_lt_of_cell? w _ hx101_23)).trans hx101_23
       replace hx101_24 := (HB.out.cell (World.block_lt_of_cell? w _ hx101_24)).trans hx101_24
       have cX := Aside0.mk hi101_21
       have cR := Aside0.mk hl101_21
       clear hi101_21 hl101_21
       have cY := Aside0.mk hi101_24
       have cS := Aside0.mk hl101_24
       clear hi101_24 hl101_24
       replace p101 := eq_true p101
       replace q101 := eq_true q101
       go_wp2_with (first | ((with_reducible refine Pre.gate_load 58 rfl ?_); (try (refine gate_guard Z13 ?_; dsimp only)); refine Pre.load_event_a rfl rfl rfl Z13 Pre.range25 Try.underlying58 rfl Z5 ?_) | ((with_reducible refine gate_callee (f := 48) rfl ?_); refine goesL_ (some 20) rfl rfl Try.func48 Z5 rfl #[.agg #[.int .i64 ((rd_T58 l0 aa).f0), .int .i64 ((rd_T58 l0 aa).f1), .int .i64 ((rd_T58 l0 aa).f2), .string ((rd_T58 l0 aa).f3), .int .i64 ((rd_T58 l0 aa).f4), .int .i64 ((rd_T58 l0 aa).f5), .string ((rd_T58 l0 aa).f6), .int .i64 ((rd_T58 l0 aa).f7), .int .i64 ((rd_T58 l0 aa).f8), .string ((rd_T58 l0 aa).f9), .int .i64 ((rd_T58 l0 aa).f10), .string ((rd_T58 l0 aa).f11), .int .i64 ((rd_T58 l0 aa).f12), .int .i64 ((rd_T58 l0 aa).f13), .int .i64 ((rd_T58 l0 aa).f14), .int .i64 ((rd_T58 l0 aa).f15), .int .i64 ((rd_T58 l0 aa).f16), .int .i64 ((rd_T58 l0 aa).f17), .int .i64 ((rd_T58 l0 aa).f18), .string ((rd_T58 l0 aa).f19), .string ((rd_T58 l0 aa).f20), .slice cM ((rd_T58 l0 aa).f21).length cN, .int .i64 ((rd_T58 l0 aa).f22), .string ((rd_T58 l0 aa).f23), .slice cO ((rd_T58 l0 aa).f24).length cP]] rfl Z9 ?_; (with_reducible refine (roadbookref07_Few.calls k1 ((rd_T58 l0 aa).f0) ((rd_T58 l0 aa).f1) ((rd_T58 l0 aa).f2) ((rd_T58 l0 aa).f3) ((rd_T58 l0 aa).f4) ((rd_T58 l0 aa).f5) ((rd_T58 l0 aa).f6) ((rd_T58 l0 aa).f7) ((rd_T58 l0 aa).f8) ((rd_T58 l0 aa).f9) ((rd_T58 l0 aa).f10) ((rd_T58 l0 aa).f11) ((rd_T58 l0 aa).f12) ((rd_T58 l0 aa).f13) ((rd_T58 l0 aa).f14) ((rd_T58 l0 aa).f15) ((rd_T58 l0 aa).f16) ((rd_T58 l0 aa).f17) ((rd_T58 l0 aa).f18) ((rd_T58 l0 aa).f19) ((rd_T58 l0 aa).f20) _ _ ((rd_T58 l0 aa).f21) ((rd_T58 l0 aa).f22) ((rd_T58 l0 aa).f23) _ _ ((rd_T58 l0 aa).f24) true _ ?side1 ?side2 ?side3 ?side4 A6.out).mono ?_); (case side1 => exact Z24); (case side2 => exact cR.out); (case side3 => exact Z23); (case side4 => exact cS.out); rintro e w8 ⟨rfl, hb⟩; refine ⟨_, rfl, ?_⟩; have aH := Aside0.mk (below_step Z0 hb); replace HB := aH; clear aH; (try clear hb); (try clear hb2); (try clear hk); (try clear hi)))
       go_roundg k1
       case measure => have := HK1.out; omega
       case rel => exact ⟨(wrap64 (aa + 1)), Z7, H', ⟨Z30⟩, ⟨Z0⟩⟩
      ·replace c7 := Bool.eq_false_iff.mpr c7
       subst c7
       replace H := Sq.itF H
       obtain rfl := Option.some.inj H
       have p101 : 0 ≤ (aa : Int) := of_decide_eq_true Z2
       have q101 : aa < (l0.length : Int) := of_decide_eq_true Z2
       obtain ⟨ad101, cM, cN, cO, cP, e101, hx101_0, hx101_1, hx101_2, hx101_3, hx101_4, hx101_5, hx101_6, hx101_7, hx101_8, hx101_9, hx101_10, hx101_11, hx101_12, hx101_13, hx101_14, hx101_15, hx101_16, hx101_17, hx101_18, hx101_19, hx101_20, hx101_21, hx101_22, hx101_23, hx101_24, hl101_21, hi101_21, hl101_24, hi101_24⟩ := at_T58 df.out aa p101 q101
       cases e101
       replace hx101_0 := (HB.out.cell (World.block_lt_of_cell? w _ hx101_0)).trans hx101_0
       replace hx101_1 := (HB.out.cell (World.block_lt_of_cell? w _ hx101_1)).trans hx101_1
       replace hx101_2 := (HB.out.cell (World.block_lt_of_cell? w _ hx101_2)).trans hx101_2
       replace hx101_3 := (HB.out.cell (World.block_lt_of_cell? w _ hx101_3)).trans hx101_3
       replace hx101_4 := (HB.out.cell (World.block_lt_of_cell? w _ hx101_4)).trans hx101_4
       replace hx101_5 := (HB.out.cell (World.block_lt_of_cell? w _ hx101_5)).trans hx101_5
       replace hx101_6 := (HB.out.cell (World.block_lt_of_cell? w _ hx101_6)).trans hx101_6
       replace hx101_7 := (HB.out.cell (World.block_lt_of_cell? w _ hx101_7)).trans hx101_7
       replace hx101_8 := (HB.out.cell (World.block_lt_of_cell? w _ hx101_8)).trans hx101_8
       replace hx101_9 := (HB.out.cell (World.block_lt_of_cell? w _ hx101_9)).trans hx101_9
       replace hx101_10 := (HB.out.cell (World.block_lt_of_cell? w _ hx101_10)).trans hx101_10
       replace hx101_11 := (HB.out.cell (World.block_lt_of_cell? w _ hx101_11)).trans hx101_11
       replace hx101_12 := (HB.out.cell (World.block_lt_of_cell? w _ hx101_12)).trans hx101_12
       replace hx101_13 := (HB.out.cell (World.block_lt_of_cell? w _ hx101_13)).trans hx101_13
       replace hx101_14 := (HB.out.cell (World.block_lt_of_cell? w _ hx101_14)).trans hx101_14
       replace hx101_15 := (HB.out.cell (World.block_lt_of_cell? w _ hx101_15)).trans hx101_15
       replace hx101_16 := (HB.out.cell (World.block_lt_of_cell? w _ hx101_16)).trans hx101_16
       replace hx101_17 := (HB.out.cell (World.block_lt_of_cell? w _ hx101_17)).trans hx101_17
       replace hx101_18 := (HB.out.cell (World.block_lt_of_cell? w _ hx101_18)).trans hx101_18
       replace hx101_19 := (HB.out.cell (World.block_lt_of_cell? w _ hx101_19)).trans hx101_19
       replace hx101_20 := (HB.out.cell (World.block_lt_of_cell? w _ hx101_20)).trans hx101_20
       replace hx101_21 := (HB.out.cell (World.block_lt_of_cell? w _ hx101_21)).trans hx101_21
       replace hx101_22 := (HB.out.cell (World.block_lt_of_cell? w _ hx101_22)).trans hx101_22
       replace hx101_23 := (HB.out.cell (World.block_lt_of_cell? w _ hx101_23)).trans hx101_23
       replace hx101_24 := (HB.out.cell (World.block_lt_of_cell? w _ hx101_24)).trans hx101_24
       have cX := Aside0.mk hi101_21
       have cR := Aside0.mk hl101_21
       clear hi101_21 hl101_21
       have cY := Aside0.mk hi101_24
       have cS := Aside0.mk hl101_24
       clear hi101_24 hl101_24
       replace p101 := eq_true p101
       replace q101 := eq_true q101
       go_wp2_with (first | ((with_reducible refine Pre.gate_load 58 rfl ?_); (try (refine gate_guard Z13 ?_; dsimp only)); refine Pre.load_event_a rfl rfl rfl Z13 Pre.range25 Try.underlying58 rfl Z5 ?_) | ((with_reducible refine gate_callee (f := 48) rfl ?_); refine goesL_ (some 20) rfl rfl Try.func48 Z5 rfl #[.agg #[.int .i64 ((rd_T58 l0 aa).f0), .int .i64 ((rd_T58 l0 aa).f1), .int .i64 ((rd_T58 l0 aa).f2), .string ((rd_T58 l0 aa).f3), .int .i64 ((rd_T58 l0 aa).f4), .int .i64 ((rd_T58 l0 aa).f5), .string ((rd_T58 l0 aa).f6), .int .i64 ((rd_T58 l0 aa).f7), .int .i64 ((rd_T58 l0 aa).f8), .string ((rd_T58 l0 aa).f9), .int .i64 ((rd_T58 l0 aa).f10), .string ((rd_T58 l0 aa).f11), .int .i64 ((rd_T58 l0 aa).f12), .int .i64 ((rd_T58 l0 aa).f13), .int .i64 ((rd_T58 l0 aa).f14), .int .i64 ((rd_T58 l0 aa).f15), .int .i64 ((rd_T58 l0 aa).f16), .int .i64 ((rd_T58 l0 aa).f17), .int .i64 ((rd_T58 l0 aa).f18), .string ((rd_T58 l0 aa).f19), .string ((rd_T58 l0 aa).f20), .slice cM ((rd_T58 l0 aa).f21).length cN, .int .i64 ((rd_T58 l0 aa).f22), .string ((rd_T58 l0 aa).f23), .slice cO ((rd_T58 l0 aa).f24).length cP]] rfl Z9 ?_; (with_reducible refine (roadbookref07_Few.calls k1 ((rd_T58 l0 aa).f0) ((rd_T58 l0 aa).f1) ((rd_T58 l0 aa).f2) ((rd_T58 l0 aa).f3) ((rd_T58 l0 aa).f4) ((rd_T58 l0 aa).f5) ((rd_T58 l0 aa).f6) ((rd_T58 l0 aa).f7) ((rd_T58 l0 aa).f8) ((rd_T58 l0 aa).f9) ((rd_T58 l0 aa).f10) ((rd_T58 l0 aa).f11) ((rd_T58 l0 aa).f12) ((rd_T58 l0 aa).f13) ((rd_T58 l0 aa).f14) ((rd_T58 l0 aa).f15) ((rd_T58 l0 aa).f16) ((rd_T58 l0 aa).f17) ((rd_T58 l0 aa).f18) ((rd_T58 l0 aa).f19) ((rd_T58 l0 aa).f20) _ _ ((rd_T58 l0 aa).f21) ((rd_T58 l0 aa).f22) ((rd_T58 l0 aa).f23) _ _ ((rd_T58 l0 aa).f24) false _ ?side1 ?side2 ?side3 ?side4 A6.out).mono ?_); (case side1 => exact Z24); (case side2 => exact cR.out); (case side3 => exact Z23); (case side4 => exact cS.out); rintro e w9 ⟨rfl, hb⟩; refine ⟨_, rfl, ?_⟩; have aH := Aside0.mk (below_step Z0 hb); replace HB := aH; clear aH; (try clear hb); (try clear hb2); (try clear hk); (try clear hi)))
       go_ret
       exact ⟨Z8, Z0⟩
     ·rw [if_neg c5] at H
      exact absurd H (by simp)
    ·rw [if_neg c4] at H
     have cL : decide (aa < (l0.length : Int)) = false := decide_eq_false c4
     clear c4
     obtain rfl := Option.some.inj H
     go_wp2_with (first | ((with_reducible refine Pre.gate_load 58 rfl ?_); (try (refine gate_guard Z13 ?_; dsimp only)); refine Pre.load_event_a rfl rfl rfl Z13 Pre.range25 Try.underlying58 rfl Z5 ?_))
     go_ret
     exact ⟨Z8, Z0⟩

end Go.Proofs.Ytelcciekdoccfaa.PM
