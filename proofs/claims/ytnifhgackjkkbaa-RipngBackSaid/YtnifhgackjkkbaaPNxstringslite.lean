-- Written by mp.py, a program of this work (wip/tools), out of the translation; Lean checks it.
import Derived.Test.YtnifhgackjkkbaaPNxZ
namespace Go.Proofs.Ytnifhgackjkkbaa.PN
open Go.RowKit Go.Proofs.YtnifhgackjkkbaaW.PrintWords Go.Proofs.YtnifhgackjkkbaaW.PrintLast Go.Proofs.YtnifhgackjkkbaaW.PrintMore
attribute [local go_sem] max2_int min2_int max_two min_two max_three min_three max_four min_four   -- for this text's walks alone
set_option linter.unusedVariables false
set_option linter.unusedSimpArgs false

/-! ### stringslite_HasPrefix: function 50 -/
def stringslite_HasPrefix.f (a0 : ByteArray) (a1 : ByteArray) : Option (Bool) := if (a0.size : Int) ≥ (a1.size : Int) then (if 0 ≤ (a1.size : Int) then (if (a1.size : Int) ≤ (a0.size : Int) then (some ((a0.extract 0 ((a1.size : Int) : Int).toNat).toList == a1.toList)) else (none)) else (none)) else (some false)
set_option maxHeartbeats 8000000 in
set_option maxRecDepth 100000 in
theorem stringslite_HasPrefix.calls (a0 : ByteArray) (a1 : ByteArray) (r : Bool) (w : World) (h : stringslite_HasPrefix.f a0 a1 = some r) :
  Calls Try.prog 50 #[.string a0, .string a1] w fun e w' => e = .returned (.bool r) ∧ Drawn0 w w' := by
 have H : (if (a0.size : Int) ≥ (a1.size : Int) then (if 0 ≤ (a1.size : Int) then (if (a1.size : Int) ≤ (a0.size : Int) then (some ((a0.extract 0 ((a1.size : Int) : Int).toNat).toList == a1.toList)) else (none)) else (none)) else (some false)) = some r := h
 clear h
 by_cases c3 : (a0.size : Int) ≥ (a1.size : Int)
 ·rw [if_pos c3] at H
  have bY : decide ((a1.size : Int) ≤ (a0.size : Int)) = true := decide_eq_true c3
  have cE : decide (a1.size ≤ a0.size) = true := decide_eq_true (Int.ofNat_le.mp c3)
  clear c3
  by_cases c4 : 0 ≤ (a1.size : Int)
  ·rw [if_pos c4] at H
   have cG := eq_true c4
   have dG : decide (0 ≤ (a1.size : Int)) = true := decide_eq_true c4
   clear c4
   by_cases c5 : (a1.size : Int) ≤ (a0.size : Int)
   ·rw [if_pos c5] at H
    have cY := eq_true c5
    have eR : decide ((a1.size : Int) ≤ (a0.size : Int)) = true := decide_eq_true c5
    clear c5
    obtain rfl := Option.some.inj H
    go_enter Try.func50, Try.ntmps50
    go_wp2
    go_ret
    exact ⟨Z7, Z10⟩
   ·rw [if_neg c5] at H
    exact absurd H Z36
  ·rw [if_neg c4] at H
   exact absurd H Z36
 ·rw [if_neg c3] at H
  have bY : decide ((a1.size : Int) ≤ (a0.size : Int)) = false := decide_eq_false c3
  have cE : decide (a1.size ≤ a0.size) = false := decide_eq_false (fun h => c3 (Int.ofNat_le.mpr h))
  clear c3
  obtain rfl := Option.some.inj H
  go_enter Try.func50, Try.ntmps50
  go_wp2
  go_ret
  exact ⟨Z7, Z10⟩

/-! ### strings_HasPrefix: function 45 -/
def strings_HasPrefix.f (a0 : ByteArray) (a1 : ByteArray) : Option (Bool) := (stringslite_HasPrefix.f a0 a1).bind fun aM => (some aM)
set_option maxHeartbeats 8000000 in
set_option maxRecDepth 100000 in
theorem strings_HasPrefix.calls (a0 : ByteArray) (a1 : ByteArray) (r : Bool) (w : World) (h : strings_HasPrefix.f a0 a1 = some r) :
  Calls Try.prog 45 #[.string a0, .string a1] w fun e w' => e = .returned (.bool r) ∧ Drawn0 w w' := by
 have H : ((stringslite_HasPrefix.f a0 a1).bind fun aM => (some aM)) = some r := h
 clear h
 replace H := Option.bind_eq_some_iff.mp H
 obtain ⟨aM, eT, H⟩ := H
 replace H : (some aM) = some r := H
 have A3 := Aside0.mk eT
 clear eT
 obtain rfl := Option.some.inj H
 go_enter Try.func45, Try.ntmps45
 go_wp2_with (first | ((with_reducible refine gate_callee (f := 50) rfl ?_); refine goesL_ (some 7) rfl rfl Try.func50 Z16 rfl #[.string a0, .string a1] rfl Z4 ?_; (with_reducible refine (stringslite_HasPrefix.calls a0 a1 aM _ A3.out).mono ?_); rintro e w' ⟨rfl, ⟨nd, rfl⟩⟩; refine ⟨_, rfl, ?_⟩))
 go_ret
 exact ⟨Z7, Z10⟩

/-! ### addr_Link: function 30 -/
def addr_Link.f (a0 : ByteArray) : Option (Bool) := if (a0.size : Int) = 16 then ((strings_HasPrefix.f a0 (⟨#[254, 128, 0, 0, 0, 0, 0, 0]⟩ : ByteArray)).bind fun aM => (some aM)) else (some false)
set_option maxHeartbeats 8000000 in
set_option maxRecDepth 100000 in
theorem addr_Link.calls (a0 : ByteArray) (r : Bool) (w : World) (h : addr_Link.f a0 = some r) :
  Calls Try.prog 30 #[.string a0] w fun e w' => e = .returned (.bool r) ∧ Drawn0 w w' := by
 have H : (if (a0.size : Int) = 16 then ((strings_HasPrefix.f a0 (⟨#[254, 128, 0, 0, 0, 0, 0, 0]⟩ : ByteArray)).bind fun aM => (some aM)) else (some false)) = some r := h
 clear h
 by_cases c2 : (a0.size : Int) = 16
 ·rw [if_pos c2] at H
  have cV : ((a0.size : Int) == 16) = true := beq_iff_eq.mpr c2
  have dj : ((a0.size : Int) != 16) = false := bne_eq_false_iff_eq.mpr c2
  clear c2
  replace H := Option.bind_eq_some_iff.mp H
  obtain ⟨aM, eT, H⟩ := H
  replace H : (some aM) = some r := H
  have A3 := Aside0.mk eT
  clear eT
  obtain rfl := Option.some.inj H
  go_enter Try.func30, Try.ntmps30
  go_wp2_with (first | (go_at_call 45; (with_reducible refine (strings_HasPrefix.calls a0 (⟨#[254, 128, 0, 0, 0, 0, 0, 0]⟩ : ByteArray) aM _ A3.out).mono ?_); rintro e w' ⟨rfl, ⟨nd, rfl⟩⟩))
  go_ret
  exact ⟨Z7, Z10⟩
 ·rw [if_neg c2] at H
  have cV : ((a0.size : Int) == 16) = false := beq_eq_false_iff_ne.mpr c2
  have dj : ((a0.size : Int) != 16) = true := bne_iff_ne.mpr c2
  obtain rfl := Option.some.inj H
  go_enter Try.func30, Try.ntmps30
  go_wp2
  go_ret
  exact ⟨Z7, Z10⟩

end Go.Proofs.Ytnifhgackjkkbaa.PN
