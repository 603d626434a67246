-- Written by mp.py, a program of this work (wip/tools), out of the translation; Lean checks it.
import Derived.Test.YtnllanjoebjeiaaGreatPVxZ
import Derived.Test.YtnllanjoebjeiaaGreatPVxaddr
namespace Go.Proofs.YtnllanjoebjeiaaGreat.PV
open Go.RowKit Go.Proofs.YtnllanjoebjeiaaGreatW.PrintWords Go.Proofs.YtnllanjoebjeiaaGreatW.PrintLast Go.Proofs.YtnllanjoebjeiaaGreatW.PrintMore
attribute [local go_sem] max2_int min2_int max_two min_two max_three min_three max_four min_four   -- for this text's walks alone
set_option linter.unusedVariables false
set_option linter.unusedSimpArgs false

/-! ### field_address: function 128 -/
def field_address.f (a0 : Int) (a1 : ByteArray) : Option (Bool) := if a0 = 0 then (some (a1.toList == ([] : List UInt8))) else (if a0 = 1 then ((addr_Family.f a1).bind fun aM => (some (aM == 0))) else (if a0 = 2 then ((addr_Family.f a1).bind fun bl => (some (bl == 1))) else (if a0 = 3 then ((addr_Link.f a1).bind fun bK => (some bK)) else (some false))))
set_option maxHeartbeats 8000000 in
set_option maxRecDepth 100000 in
theorem field_address.calls (a0 : Int) (a1 : ByteArray) (r : Bool) (w : World) (h : field_address.f a0 a1 = some r) :
  Calls Tryz.prog 128 #[.int .i64 a0, .string a1] w fun e w' => e = .returned (.bool r) ∧ Drawn0 w w' := by
 have H : (if a0 = 0 then (some (a1.toList == ([] : List UInt8))) else (if a0 = 1 then ((addr_Family.f a1).bind fun aM => (some (aM == 0))) else (if a0 = 2 then ((addr_Family.f a1).bind fun bl => (some (bl == 1))) else (if a0 = 3 then ((addr_Link.f a1).bind fun bK => (some bK)) else (some false))))) = some r := h
 clear h
 by_cases c3 : a0 = 0
 ·rw [if_pos c3] at H
  have bU : (a0 == 0) = true := beq_iff_eq.mpr c3
  have ck : (a0 != 0) = false := bne_eq_false_iff_eq.mpr c3
  clear c3
  obtain rfl := Option.some.inj H
  go_enter Tryz.func128, Tryz.ntmps128
  go_wp2
  go_ret
  exact ⟨Z8, Z11⟩
 ·rw [if_neg c3] at H
  have bU : (a0 == 0) = false := beq_eq_false_iff_ne.mpr c3
  have ck : (a0 != 0) = true := bne_iff_ne.mpr c3
  by_cases c4 : a0 = 1
  ·rw [if_pos c4] at H
   have bP : (a0 == 1) = true := beq_iff_eq.mpr c4
   have cl : (a0 != 1) = false := bne_eq_false_iff_eq.mpr c4
   clear c4
   replace H := Option.bind_eq_some_iff.mp H
   obtain ⟨aM, gs, H⟩ := H
   replace H : (some (aM == 0)) = some r := H
   have A5 := Aside0.mk gs
   clear gs
   obtain rfl := Option.some.inj H
   go_enter Tryz.func128, Tryz.ntmps128
   go_wp2_with (first | ((with_reducible refine gate_callee (f := 126) rfl ?_); refine goesL_ (some 13) rfl rfl Tryz.func126 Z12 rfl #[.string a1] rfl Z3 ?_; (with_reducible refine (addr_Family.calls a1 aM _ A5.out).mono ?_); rintro e w' ⟨rfl, ⟨nd, rfl⟩⟩; refine ⟨_, rfl, ?_⟩))
   go_ret
   exact ⟨Z8, Z11⟩
  ·rw [if_neg c4] at H
   have bP : (a0 == 1) = false := beq_eq_false_iff_ne.mpr c4
   have cl : (a0 != 1) = true := bne_iff_ne.mpr c4
   by_cases c6 : a0 = 2
   ·rw [if_pos c6] at H
    have ce : (a0 == 2) = true := beq_iff_eq.mpr c6
    have cJ : (a0 != 2) = false := bne_eq_false_iff_eq.mpr c6
    clear c6
    replace H := Option.bind_eq_some_iff.mp H
    obtain ⟨bl, eJ, H⟩ := H
    replace H : (some (bl == 1)) = some r := H
    have A7 := Aside0.mk eJ
    clear eJ
    obtain rfl := Option.some.inj H
    go_enter Tryz.func128, Tryz.ntmps128
    go_wp2_with (first | ((with_reducible refine gate_callee (f := 126) rfl ?_); refine goesL_ (some 18) rfl rfl Tryz.func126 Z12 rfl #[.string a1] rfl Z3 ?_; (with_reducible refine (addr_Family.calls a1 bl _ A7.out).mono ?_); rintro e w' ⟨rfl, ⟨nd, rfl⟩⟩; refine ⟨_, rfl, ?_⟩))
    go_ret
    exact ⟨Z8, Z11⟩
   ·rw [if_neg c6] at H
    have ce : (a0 == 2) = false := beq_eq_false_iff_ne.mpr c6
    have cJ : (a0 != 2) = true := bne_iff_ne.mpr c6
    by_cases c8 : a0 = 3
    ·rw [if_pos c8] at H
     have ec : (a0 == 3) = true := beq_iff_eq.mpr c8
     have hZ : (a0 != 3) = false := bne_eq_false_iff_eq.mpr c8
     clear c8
     replace H := Option.bind_eq_some_iff.mp H
     obtain ⟨bK, gu, H⟩ := H
     replace H : (some bK) = some r := H
     have A9 := Aside0.mk gu
     clear gu
     obtain rfl := Option.some.inj H
     go_enter Tryz.func128, Tryz.ntmps128
     go_wp2_with (first | (go_at_call 100; (with_reducible refine (addr_Link.calls a1 bK _ A9.out).mono ?_); rintro e w' ⟨rfl, ⟨nd, rfl⟩⟩))
     go_ret
     exact ⟨Z8, Z11⟩
    ·rw [if_neg c8] at H
     have ec : (a0 == 3) = false := beq_eq_false_iff_ne.mpr c8
     have hZ : (a0 != 3) = true := bne_iff_ne.mpr c8
     obtain rfl := Option.some.inj H
     go_enter Tryz.func128, Tryz.ntmps128
     go_wp2
     go_ret
     exact ⟨Z8, Z11⟩

end Go.Proofs.YtnllanjoebjeiaaGreat.PV
