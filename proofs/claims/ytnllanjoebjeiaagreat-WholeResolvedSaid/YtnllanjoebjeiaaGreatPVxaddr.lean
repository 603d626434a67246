-- Written by mp.py, a program of this work (wip/tools), out of the translation; Lean checks it.
import Derived.Test.YtnllanjoebjeiaaGreatPVxZ
import Derived.Test.YtnllanjoebjeiaaGreatPVxstrings
namespace Go.Proofs.YtnllanjoebjeiaaGreat.PV
open Go.RowKit Go.Proofs.YtnllanjoebjeiaaGreatW.PrintWords Go.Proofs.YtnllanjoebjeiaaGreatW.PrintLast Go.Proofs.YtnllanjoebjeiaaGreatW.PrintMore
attribute [local go_sem] max2_int min2_int max_two min_two max_three min_three max_four min_four   -- for this text's walks alone
set_option linter.unusedVariables false
set_option linter.unusedSimpArgs false

/-! ### addr_Link: function 100 -/
def addr_Link.f (a0 : ByteArray) : Option (Bool) := if (a0.size : Int) = 16 then ((strings_HasPrefix.f a0 (⟨#[254, 128, 0, 0, 0, 0, 0, 0]⟩ : ByteArray)).bind fun aM => (some aM)) else (some false)
set_option maxHeartbeats 8000000 in
set_option maxRecDepth 100000 in
theorem addr_Link.calls (a0 : ByteArray) (r : Bool) (w : World) (h : addr_Link.f a0 = some r) :
  Calls Tryz.prog 100 #[.string a0] w fun e w' => e = .returned (.bool r) ∧ Drawn0 w w' := by
 have H : (if (a0.size : Int) = 16 then ((strings_HasPrefix.f a0 (⟨#[254, 128, 0, 0, 0, 0, 0, 0]⟩ : ByteArray)).bind fun aM => (some aM)) else (some false)) = some r := h
 clear h
 by_cases c2 : (a0.size : Int) = 16
 ·rw [if_pos c2] at H
  have cK : ((a0.size : Int) == 16) = true := beq_iff_eq.mpr c2
  have cR : ((a0.size : Int) != 16) = false := bne_eq_false_iff_eq.mpr c2
  clear c2
  replace H := Option.bind_eq_some_iff.mp H
  obtain ⟨aM, cU, H⟩ := H
  replace H : (some aM) = some r := H
  have A3 := Aside0.mk cU
  clear cU
  obtain rfl := Option.some.inj H
  go_enter Tryz.func100, Tryz.ntmps100
  go_wp2_with (first | (go_at_call 156; (with_reducible refine (strings_HasPrefix.calls a0 (⟨#[254, 128, 0, 0, 0, 0, 0, 0]⟩ : ByteArray) aM _ A3.out).mono ?_); rintro e w' ⟨rfl, ⟨nd, rfl⟩⟩))
  go_ret
  exact ⟨Z8, Z11⟩
 ·rw [if_neg c2] at H
  have cK : ((a0.size : Int) == 16) = false := beq_eq_false_iff_ne.mpr c2
  have cR : ((a0.size : Int) != 16) = true := bne_iff_ne.mpr c2
  obtain rfl := Option.some.inj H
  go_enter Tryz.func100, Tryz.ntmps100
  go_wp2
  go_ret
  exact ⟨Z8, Z11⟩

/-! ### addr_Family: function 126 -/
def addr_Family.f (a0 : ByteArray) : Option (Int) := if (a0.size : Int) = 4 then (some 0) else (if (a0.size : Int) = 16 then (some 1) else (some (-1)))
set_option maxHeartbeats 8000000 in
set_option maxRecDepth 100000 in
theorem addr_Family.calls (a0 : ByteArray) (r : Int) (w : World) (h : addr_Family.f a0 = some r) :
  Calls Tryz.prog 126 #[.string a0] w fun e w' => e = .returned (.int .i64 r) ∧ Drawn0 w w' := by
 have H : (if (a0.size : Int) = 4 then (some 0) else (if (a0.size : Int) = 16 then (some 1) else (some (-1)))) = some r := h
 clear h
 by_cases c2 : (a0.size : Int) = 4
 ·rw [if_pos c2] at H
  have cK : ((a0.size : Int) == 4) = true := beq_iff_eq.mpr c2
  have cR : ((a0.size : Int) != 4) = false := bne_eq_false_iff_eq.mpr c2
  clear c2
  obtain rfl := Option.some.inj H
  go_enter Tryz.func126, Tryz.ntmps126
  go_wp2
  go_ret
  exact ⟨Z8, Z11⟩
 ·rw [if_neg c2] at H
  have cK : ((a0.size : Int) == 4) = false := beq_eq_false_iff_ne.mpr c2
  have cR : ((a0.size : Int) != 4) = true := bne_iff_ne.mpr c2
  by_cases c3 : (a0.size : Int) = 16
  ·rw [if_pos c3] at H
   have bU : ((a0.size : Int) == 16) = true := beq_iff_eq.mpr c3
   have ck : ((a0.size : Int) != 16) = false := bne_eq_false_iff_eq.mpr c3
   clear c3
   obtain rfl := Option.some.inj H
   go_enter Tryz.func126, Tryz.ntmps126
   go_wp2
   go_ret
   exact ⟨Z8, Z11⟩
  ·rw [if_neg c3] at H
   have bU : ((a0.size : Int) == 16) = false := beq_eq_false_iff_ne.mpr c3
   have ck : ((a0.size : Int) != 16) = true := bne_iff_ne.mpr c3
   obtain rfl := Option.some.inj H
   go_enter Tryz.func126, Tryz.ntmps126
   go_wp2
   go_ret
   exact ⟨Z8, Z11⟩

/-! ### addr_Short: function 133 -/
def addr_Short.f (a0 : ByteArray) : Option (ByteArray × Bool) := (addr_Link.f a0).bind fun aM => (if aM = true then (if 8 ≤ (a0.size : Int) then (some (a0.extract 8 a0.size, true)) else (none)) else (some ((⟨#[]⟩ : ByteArray), false)))
set_option maxHeartbeats 8000000 in
set_option maxRecDepth 100000 in
theorem addr_Short.calls (a0 : ByteArray) (r1 : ByteArray) (r2 : Bool) (w : World) (h : addr_Short.f a0 = some (r1, r2)) :
  Calls Tryz.prog 133 #[.string a0] w fun e w' => e = .returned (.tuple #[.string r1, .bool r2]) ∧ Drawn0 w w' := by
 have H : ((addr_Link.f a0).bind fun aM => (if aM = true then (if 8 ≤ (a0.size : Int) then (some (a0.extract 8 a0.size, true)) else (none)) else (some ((⟨#[]⟩ : ByteArray), false)))) = some (r1, r2) := h
 clear h
 replace H := Option.bind_eq_some_iff.mp H
 obtain ⟨aM, dQ, H⟩ := H
 replace H : (if aM = true then (if 8 ≤ (a0.size : Int) then (some (a0.extract 8 a0.size, true)) else (none)) else (some ((⟨#[]⟩ : ByteArray), false))) = some (r1, r2) := H
 have A2 := Aside0.mk dQ
 clear dQ
 by_cases c3 : aM = true
 ·subst c3
  have H1 : (if 8 ≤ (a0.size : Int) then (some (a0.extract 8 a0.size, true)) else (none)) = some (r1, r2) := by rw [if_pos rfl] at H; exact H
  clear H
  have H := H1
  clear H1
  by_cases c4 : 8 ≤ (a0.size : Int)
  ·rw [if_pos c4] at H
   have bP := eq_true c4
   have cl : decide (8 ≤ (a0.size : Int)) = true := decide_eq_true c4
   clear c4
   simp only [Option.some.injEq, Prod.mk.injEq] at H
   obtain ⟨rfl, rfl⟩ := H
   go_enter Tryz.func133, Tryz.ntmps133
   go_wp2_with (first | ((with_reducible refine gate_callee (f := 100) rfl ?_); refine goesL_ (some 5) rfl rfl Tryz.func100 Z12 rfl #[.string a0] rfl Z3 ?_; (with_reducible refine (addr_Link.calls a0 true _ A2.out).mono ?_); rintro e w' ⟨rfl, ⟨nd, rfl⟩⟩; refine ⟨_, rfl, ?_⟩))
   go_ret2
   exact ⟨Z8, Z11⟩
  ·rw [if_neg c4] at H
   exact absurd H Z27
 ·replace c3 := Bool.eq_false_iff.mpr c3
  subst c3
  have H1 : (some ((⟨#[]⟩ : ByteArray), false)) = some (r1, r2) := by rw [if_neg (show ¬ (false = true) by decide)] at H; exact H
  clear H
  have H := H1
  clear H1
  simp only [Option.some.injEq, Prod.mk.injEq] at H
  obtain ⟨rfl, rfl⟩ := H
  go_enter Tryz.func133, Tryz.ntmps133
  go_wp2_with (first | ((with_reducible refine gate_callee (f := 100) rfl ?_); refine goesL_ (some 5) rfl rfl Tryz.func100 Z12 rfl #[.string a0] rfl Z3 ?_; (with_reducible refine (addr_Link.calls a0 false _ A2.out).mono ?_); rintro e w' ⟨rfl, ⟨nd, rfl⟩⟩; refine ⟨_, rfl, ?_⟩))
  go_ret2
  exact ⟨Z8, Z11⟩

end Go.Proofs.YtnllanjoebjeiaaGreat.PV
