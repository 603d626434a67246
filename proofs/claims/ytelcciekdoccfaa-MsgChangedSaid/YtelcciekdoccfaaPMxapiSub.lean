-- Written by mp.py, a program of this work (wip/tools), out of the translation; Lean checks it.
import Derived.Test.YtelcciekdoccfaaPMxZ
import Derived.Test.YtelcciekdoccfaaPMxEq63
namespace Go.Proofs.Ytelcciekdoccfaa.PM
open Go.RowKit Go.Proofs.YtelcciekdoccfaaW.PrintWords Go.Proofs.YtelcciekdoccfaaW.PrintLast Go.Proofs.YtelcciekdoccfaaW.PrintMore
attribute [local go_sem] max2_int min2_int max_two min_two max_three min_three max_four min_four   -- for this text's walks alone
set_option linter.unusedVariables false
set_option linter.unusedSimpArgs false

attribute [local go_sem high] eqA63
/-! ### api_Sub: function 79 -/
def api_Sub.l0 : Nat → List (S63) → List (S63) → Int → Int → Option (Bool)
 | 0, _, _, _, _ => none
 | k + 1, x0, x1, fS, ej => if ej < fS then (if 0 ≤ ej then (if ej < (x0.length : Int) then (if ej < (x1.length : Int) then (if (!(((rd_T63 x0 ej).f0) == ((rd_T63 x1 ej).f0)) || (!((((rd_T63 x0 ej).f1).toList) == (((rd_T63 x1 ej).f1).toList)))) = true then (some false) else (api_Sub.l0 k x0 x1 fS (wrap64 (ej + 1)))) else (none)) else (none)) else (none)) else (some true)
def api_Sub.f (k : Nat) (l0 : List (S63)) (l1 : List (S63)) : Option (Bool) := if (l0.length : Int) = (l1.length : Int) then (api_Sub.l0 k l0 l1 (l0.length : Int) 0) else (some false)
theorem api_Sub.mono_l : ∀ k, (∀ y0 y1 y2 y3, LeO (api_Sub.l0 k y0 y1 y2 y3) (api_Sub.l0 (k + 1) y0 y1 y2 y3))
 | 0 => fun _ _ _ _ r h => by simp [api_Sub.l0] at h
 | k + 1 => by
  have ih0 := api_Sub.mono_l k
  ·intro y0 y1 y2 y3
   unfold api_Sub.l0
   repeat' first
   | (with_reducible exact ih0 ..)
   | (with_reducible exact LeO.refl _)
   | (with_reducible exact LeO.none _)
   | (with_reducible refine LeO.ite ?_ ?_)
   | (with_reducible refine LeO.bind ?_ (fun _ => ?_))
   | exact ih0 ..
   | exact LeO.none _
   | refine LeO.ite ?_ ?_
   | refine LeO.bind ?_ (fun _ => ?_)
theorem api_Sub.mono : ∀ a0 a1 k, LeO (api_Sub.f k a0 a1) (api_Sub.f (k + 1) a0 a1) := by
 intro a0 a1 k
 have ih0 := api_Sub.mono_l k
 unfold api_Sub.f
 repeat' first
   | (with_reducible exact ih0 ..)
   | (with_reducible exact LeO.refl _)
   | (with_reducible exact LeO.none _)
   | (with_reducible refine LeO.ite ?_ ?_)
   | (with_reducible refine LeO.bind ?_ (fun _ => ?_))
   | exact ih0 ..
   | exact LeO.none _
   | refine LeO.ite ?_ ?_
   | refine LeO.bind ?_ (fun _ => ?_)
set_option maxHeartbeats 8000000 in
set_option maxRecDepth 100000 in
theorem api_Sub.calls (k : Nat) (A0 : Option Addr) (c0 : Nat) (l0 : List (S63)) (A1 : Option Addr) (c1 : Nat) (l1 : List (S63)) (r : Bool) (w : World) (dm : Kd.C k63 w A0 l0.length l0) (cU : l0.length ≤ c0) (fh : Kd.C k63 w A1 l1.length l1) (fi : l1.length ≤ c1) (h : api_Sub.f k l0 l1 = some r) :
  Calls Try.prog 79 #[.slice A0 l0.length c0, .slice A1 l1.length c1] w fun e w' => e = .returned (.bool r) ∧ Drawn0 w w' := by
 have fO := Try.underlying63
 have df := Aside0.mk dm
 have fP := Aside0.mk cU
 clear dm cU
 have fj := Aside0.mk fh
 have ig := Aside0.mk fi
 clear fh fi
 have H : (if (l0.length : Int) = (l1.length : Int) then (api_Sub.l0 k l0 l1 (l0.length : Int) 0) else (some false)) = some r := h
 clear h
 by_cases c3 : (l0.length : Int) = (l1.length : Int)
 ·rw [if_pos c3] at H
  have db : ((l0.length : Int) == (l1.length : Int)) = true := beq_iff_eq.mpr c3
  have dn : ((l0.length : Int) != (l1.length : Int)) = false := bne_eq_false_iff_eq.mpr c3
  have dp : (l0.length == l1.length) = true := by first | simpa using c3 | (simp at c3 ⊢; omega)
  clear c3
  have H' := Aside0.mk H
  clear H
  go_enter Try.func79, Try.ntmps79
  go_wp2
  repeat (go_quiet (fail); try go_wp2)
  go_loopg [13] k (fun kq fs w' => ∃ (aM : Int), fs = .int .i64 aM ∧ Aside0 (api_Sub.l0 kq l0 l1 (l0.length : Int) aM = some r) ∧ Aside0 (kq ≤ k) ∧ Drawn0 w w')
  case atStart => exact ⟨(0), Z7, H', ⟨Nat.le_refl _⟩, Z10⟩
  case round =>
   clear H'
   try clear c1
   try clear p2
   try clear c3
   try clear db
   try clear dn
   try clear dp
   obtain ⟨aM, rfl, HA, HK1, ⟨m1, rfl⟩⟩ := hrel
   cases gk with
   | zero => exact absurd HA.out (by simp [api_Sub.l0])
   | succ k1 =>
    have H := HA.out
    clear HA
    simp only [api_Sub.l0] at H
    by_cases c4 : aM < (l0.length : Int)
    ·rw [if_pos c4] at H
     have cL : decide (aM < (l0.length : Int)) = true := decide_eq_true c4
     clear c4
     by_cases c5 : 0 ≤ aM
     ·rw [if_pos c5] at H
      have ec : decide (0 ≤ aM) = true := decide_eq_true c5
      clear c5
      by_cases c6 : aM < (l0.length : Int)
      ·rw [if_pos c6] at H
       have dC : decide (aM < (l0.length : Int)) = true := decide_eq_true c6
       clear c6
       by_cases c7 : aM < (l1.length : Int)
       ·rw [if_pos c7] at H
        have eT : decide (aM < (l1.length : Int)) = true := decide_eq_true c7
        clear c7
        by_cases c8 : (!(((rd_T63 l0 aM).f0) == ((rd_T63 l1 aM).f0)) || (!((((rd_T63 l0 aM).f1).toList) == (((rd_T63 l1 aM).f1).toList)))) = true
        ·rw [if_pos c8] at H
         have fc : (!(((rd_T63 l0 aM).f0) == ((rd_T63 l1 aM).f0)) || (!((((rd_T63 l0 aM).f1).toList) == (((rd_T63 l1 aM).f1).toList)))) = true := c8
         clear c8
         obtain rfl := Option.some.inj H
         have p101 : 0 ≤ (aM : Int) := of_decide_eq_true Z2
         have q101 : aM < (l0.length : Int) := of_decide_eq_true Z2
         obtain ⟨ad101, e101, hx101_0, hx101_1⟩ := at_T63 df.out aM p101 q101
         cases e101
         replace p101 := eq_true p101
         replace q101 := eq_true q101
         have p102 : 0 ≤ (aM : Int) := of_decide_eq_true Z2
         have q102 : aM < (l1.length : Int) := of_decide_eq_true Z2
         obtain ⟨ad102, e102, hx102_0, hx102_1⟩ := at_T63 fj.out aM p102 q102
         cases e102
         replace p102 := eq_true p102
         replace q102 := eq_true q102
         go_wp2
         repeat (go_quiet (fail); try go_wp2)
         go_ret
         exact ⟨Z7, Z10⟩
        ·rw [if_neg c8] at H
         have fc : (!(((rd_T63 l0 aM).f0) == ((rd_T63 l1 aM).f0)) || (!((((rd_T63 l0 aM).f1).toList) == (((rd_T63 l1 aM).f1).toList)))) = false := by first | exact Bool.eq_false_iff.mpr c8 | simpa using c8
         clear c8
         have H' := Aside0.mk H
         clear H
         have p101 : 0 ≤ (aM : Int) := of_decide_eq_true Z2
         have q101 : aM < (l0.length : Int) := of_decide_eq_true Z2
         obtain ⟨ad101, e101, hx101_0, hx101_1⟩ := at_T63 df.out aM p101 q101
         cases e101
         replace p101 := eq_true p101
         replace q101 := eq_true q101
         have p102 : 0 ≤ (aM : Int) := of_decide_eq_true Z2
         have q102 : aM < (l1.length : Int) := of_decide_eq_true Z2
         obtain ⟨ad102, e102, hx102_0, hx102_1⟩ := at_T63 fj.out aM p102 q102
         cases e102
         replace p102 := eq_true p102
         replace q102 := eq_true q102
         go_wp2
         repeat (go_quiet (fail); try go_wp2)
         go_roundg k1
         case measure => have := HK1.out; omega
         case rel => exact ⟨(wrap64 (aM + 1)), Z7, H', ⟨Z30⟩, Z10⟩
       ·rw [if_neg c7] at H
        exact absurd H (by simp)
      ·rw [if_neg c6] at H
       exact absurd H (by simp)
     ·rw [if_neg c5] at H
      exact absurd H (by simp)
    ·rw [if_neg c4] at H
     have cL : decide (aM < (l0.length : Int)) = false := decide_eq_false c4
     clear c4
     obtain rfl := Option.some.inj H
     go_wp2
     repeat (go_quiet (fail); try go_wp2)
     go_ret
     exact ⟨Z7, Z10⟩
 ·rw [if_neg c3] at H
  have db : ((l0.length : Int) == (l1.length : Int)) = false := beq_eq_false_iff_ne.mpr c3
  have dn : ((l0.length : Int) != (l1.length : Int)) = true := bne_iff_ne.mpr c3
  have dp : (l0.length == l1.length) = false := by first | simpa using c3 | (simp at c3 ⊢; omega)
  obtain rfl := Option.some.inj H
  go_enter Try.func79, Try.ntmps79
  go_wp2
  repeat (go_quiet (fail); try go_wp2)
  go_ret
  exact ⟨Z7, Z10⟩

end Go.Proofs.Ytelcciekdoccfaa.PM
