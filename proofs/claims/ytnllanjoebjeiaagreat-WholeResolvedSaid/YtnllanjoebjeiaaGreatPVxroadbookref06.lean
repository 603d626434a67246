-- Written by mp.py, a program of this work (wip/tools), out of the translation; Lean checks it.
import Derived.Test.YtnllanjoebjeiaaGreatPVxZ
namespace Go.Proofs.YtnllanjoebjeiaaGreat.PV
open Go.RowKit Go.Proofs.YtnllanjoebjeiaaGreatW.PrintWords Go.Proofs.YtnllanjoebjeiaaGreatW.PrintLast Go.Proofs.YtnllanjoebjeiaaGreatW.PrintMore
attribute [local go_sem] max2_int min2_int max_two min_two max_three min_three max_four min_four   -- for this text's walks alone
set_option linter.unusedVariables false
set_option linter.unusedSimpArgs false

/-! ### roadbookref06_link: function 114 -/
def roadbookref06_link.f  : Option (ByteArray) := some (⟨#[254, 128, 0, 0, 0, 0, 0, 0]⟩ : ByteArray)
set_option maxHeartbeats 8000000 in
set_option maxRecDepth 100000 in
theorem roadbookref06_link.calls  (r : ByteArray) (w : World) (h : roadbookref06_link.f  = some r) :
  Calls Tryz.prog 114 #[] w fun e w' => e = .returned (.string r) ∧ Drawn0 w w' := by
 have H : (some (⟨#[254, 128, 0, 0, 0, 0, 0, 0]⟩ : ByteArray)) = some r := h
 clear h
 obtain rfl := Option.some.inj H
 go_enter Tryz.func114, Tryz.ntmps114
 go_wp2
 go_ret
 exact ⟨Z8, Z11⟩

/-! ### roadbookref06_Long: function 76 -/
def roadbookref06_Long.f (a0 : ByteArray) : Option (ByteArray × Bool) := if (a0.size : Int) = 8 then ((roadbookref06_link.f).bind fun aM => (if aM.size + a0.size ≤ 9223372036854775807 then (some (aM ++ a0, true)) else (none))) else (some ((⟨#[]⟩ : ByteArray), false))
set_option maxHeartbeats 8000000 in
set_option maxRecDepth 100000 in
theorem roadbookref06_Long.calls (a0 : ByteArray) (r1 : ByteArray) (r2 : Bool) (w : World) (h : roadbookref06_Long.f a0 = some (r1, r2)) :
  Calls Tryz.prog 76 #[.string a0] w fun e w' => e = .returned (.tuple #[.string r1, .bool r2]) ∧ Drawn0 w w' := by
 have H : (if (a0.size : Int) = 8 then ((roadbookref06_link.f).bind fun aM => (if aM.size + a0.size ≤ 9223372036854775807 then (some (aM ++ a0, true)) else (none))) else (some ((⟨#[]⟩ : ByteArray), false))) = some (r1, r2) := h
 clear h
 by_cases c2 : (a0.size : Int) = 8
 ·rw [if_pos c2] at H
  have cK : ((a0.size : Int) == 8) = true := beq_iff_eq.mpr c2
  have cR : ((a0.size : Int) != 8) = false := bne_eq_false_iff_eq.mpr c2
  clear c2
  replace H := Option.bind_eq_some_iff.mp H
  obtain ⟨aM, cU, H⟩ := H
  replace H : (if aM.size + a0.size ≤ 9223372036854775807 then (some (aM ++ a0, true)) else (none)) = some (r1, r2) := H
  have A3 := Aside0.mk cU
  clear cU
  by_cases c4 : aM.size + a0.size ≤ 9223372036854775807
  ·rw [if_pos c4] at H
   have bP := eq_true c4
   have cl : decide (aM.size + a0.size ≤ 9223372036854775807) = true := decide_eq_true c4
   try have c4b2 : (9223372036854775807 < aM.size + a0.size) = False := eq_false (Nat.not_lt.2 c4)
   try (have c4b3 := c4b2; simp only [ByteArray.size_append] at c4b3)
   simp only [Option.some.injEq, Prod.mk.injEq] at H
   obtain ⟨rfl, rfl⟩ := H
   go_enter Tryz.func76, Tryz.ntmps76
   go_wp2_with (first | ((with_reducible refine gate_callee (f := 114) rfl ?_); refine goesL_ (some 7) rfl rfl Tryz.func114 Z12 rfl #[] rfl Z3 ?_; (with_reducible refine (roadbookref06_link.calls  aM _ A3.out).mono ?_); rintro e w' ⟨rfl, ⟨nd, rfl⟩⟩; refine ⟨_, rfl, ?_⟩))
   go_ret2
   exact ⟨Z8, Z11⟩
  ·rw [if_neg c4] at H
   exact absurd H Z27
 ·rw [if_neg c2] at H
  have cK : ((a0.size : Int) == 8) = false := beq_eq_false_iff_ne.mpr c2
  have cR : ((a0.size : Int) != 8) = true := bne_iff_ne.mpr c2
  simp only [Option.some.injEq, Prod.mk.injEq] at H
  obtain ⟨rfl, rfl⟩ := H
  go_enter Tryz.func76, Tryz.ntmps76
  go_wp2
  go_ret2
  exact ⟨Z8, Z11⟩

end Go.Proofs.YtnllanjoebjeiaaGreat.PV
