-- Written by mp.py, a program of this work (wip/tools), out of the translation; Lean checks it.
import Derived.Test.YtnifhgackjkkbaaPNxZ
import Derived.Test.YtnifhgackjkkbaaPNxripng
import Derived.Test.YtnifhgackjkkbaaPNxroadbooklaw12awake
import Derived.Test.YtnifhgackjkkbaaPNxroadbookref07SameAll
import Derived.Test.YtnifhgackjkkbaaPNxroadbookref12Parse
namespace Go.Proofs.Ytnifhgackjkkbaa.PN
open Go.RowKit Go.Proofs.YtnifhgackjkkbaaW.PrintWords Go.Proofs.YtnifhgackjkkbaaW.PrintLast Go.Proofs.YtnifhgackjkkbaaW.PrintMore
attribute [local go_sem] max2_int min2_int max_two min_two max_three min_three max_four min_four   -- for this text's walks alone
set_option linter.unusedVariables false
set_option linter.unusedSimpArgs false

/-! ### roadbooklaw12_RipngParses: function 3 -/
def roadbooklaw12_RipngParses.f (k : Nat) (a0 : ByteArray) : Option (Bool) := if (a0.size : Int) > 2000 then ((roadbooklaw12_awake.f k).bind fun aM => (some aM)) else ((ripng_Parse.f k a0).bind fun cp => ((roadbookref12_Parse.f k a0).bind fun bt107 => ((roadbooklaw12_awake.f k).bind fun eU => (if eU = true then ((roadbookref07_SameAll.f k cp.1 bt107.1).bind fun t113 => (if t113 = true then (if cp.2.1 = bt107.2.1 then (some (cp.2.2 == bt107.2.2)) else (some false)) else (some false))) else (some false)))))
theorem roadbooklaw12_RipngParses.mono : ∀ a0 k, LeO (roadbooklaw12_RipngParses.f k a0) (roadbooklaw12_RipngParses.f (k + 1) a0) := by
 intro a0 k
 unfold roadbooklaw12_RipngParses.f
 have m0 := ripng_Parse.mono
 have m1 := roadbooklaw12_awake.mono
 have m2 := roadbookref07_SameAll.mono
 have m3 := roadbookref12_Parse.mono
 exact Sq.mo
set_option maxHeartbeats 8000000 in
set_option maxRecDepth 100000 in
theorem roadbooklaw12_RipngParses.calls (k : Nat) (a0 : ByteArray) (r : Bool) (w : World) (hr_ : Aside0 (r = true)) (h : roadbooklaw12_RipngParses.f k a0 = some r) :
  Calls Try.prog 3 #[.string a0] w fun e w' => e = .returned (.bool r) ∧ Below w.heap.size w w' := by
 have HB := Aside0.mk (Below.refl w.heap.size w)
 have H : (if (a0.size : Int) > 2000 then ((roadbooklaw12_awake.f k).bind fun aM => (some aM)) else ((ripng_Parse.f k a0).bind fun cp => ((roadbookref12_Parse.f k a0).bind fun bt107 => ((roadbooklaw12_awake.f k).bind fun eU => (if eU = true then ((roadbookref07_SameAll.f k cp.1 bt107.1).bind fun t113 => (if t113 = true then (if cp.2.1 = bt107.2.1 then (some (cp.2.2 == bt107.2.2)) else (some false)) else (some false))) else (some false)))))) = some r := h
 clear h
 by_cases c2 : (a0.size : Int) > 2000
 ·rw [if_pos c2] at H
  have cV : decide (2000 < (a0.size : Int)) = true := decide_eq_true c2
  have dj : decide (2000 < a0.size) = true := decide_eq_true Z25
  clear c2
  replace H := Option.bind_eq_some_iff.mp H
  obtain ⟨aM, eT, H⟩ := H
  replace H : (some aM) = some r := H
  have A3 := Aside0.mk eT
  clear eT
  obtain rfl := Option.some.inj H
  go_enter Try.func3, Try.ntmps3
  go_wp2_with (first | ((with_reducible refine gate_callee (f := 7) rfl ?_); refine goesL_ (some 12) rfl rfl Try.func7 Z16 rfl #[] rfl Z4 ?_; (with_reducible refine (roadbooklaw12_awake.calls k  aM _ (Aside0.mk (by first | rfl | exact hr_.out)) A3.out).mono ?_); rintro e w4 ⟨rfl, hb⟩; refine ⟨_, rfl, ?_⟩; replace HB := Aside0.mk (below_step Z0 hb); clear hb))
  go_ret
  exact ⟨Z2, Z0⟩
 ·rw [if_neg c2] at H
  have cV : decide (2000 < (a0.size : Int)) = false := decide_eq_false c2
  have dj : decide (2000 < a0.size) = false := decide_eq_false Z25
  clear c2
  replace H := Option.bind_eq_some_iff.mp H
  obtain ⟨⟨aI, aN, aJ⟩, fb, H⟩ := H
  replace H : ((roadbookref12_Parse.f k a0).bind fun bt107 => ((roadbooklaw12_awake.f k).bind fun eU => (if eU = true then ((roadbookref07_SameAll.f k aI bt107.1).bind fun t113 => (if t113 = true then (if aN = bt107.2.1 then (some (aJ == bt107.2.2)) else (some false)) else (some false))) else (some false)))) = some r := H
  have A5 := Aside0.mk fb
  clear fb
  replace H := Option.bind_eq_some_iff.mp H
  obtain ⟨⟨bJ, fh, t109⟩, io, H⟩ := H
  replace H : ((roadbooklaw12_awake.f k).bind fun eU => (if eU = true then ((roadbookref07_SameAll.f k aI bJ).bind fun t113 => (if t113 = true then (if aN = fh then (some (aJ == t109)) else (some false)) else (some false))) else (some false))) = some r := H
  have A6 := Aside0.mk io
  clear io
  replace H := Option.bind_eq_some_iff.mp H
  obtain ⟨eU, fy, H⟩ := H
  replace H : (if eU = true then ((roadbookref07_SameAll.f k aI bJ).bind fun t113 => (if t113 = true then (if aN = fh then (some (aJ == t109)) else (some false)) else (some false))) else (some false)) = some r := H
  have A7 := Aside0.mk fy
  clear fy
  by_cases c8 : eU = true
  ·subst c8
   replace H := Sq.itT H
   replace H := Option.bind_eq_some_iff.mp H
   obtain ⟨t113, jK, H⟩ := H
   replace H : (if t113 = true then (if aN = fh then (some (aJ == t109)) else (some false)) else (some false)) = some r := H
   have A9 := Aside0.mk jK
   clear jK
   by_cases cR : t113 = true
   ·subst cR
    replace H := Sq.itT H
    by_cases eI : aN = fh
    ·rw [if_pos eI] at H
     have c11b0 : (aN == fh) = true := beq_iff_eq.mpr eI
     have c11b1 : (aN != fh) = false := bne_eq_false_iff_eq.mpr eI
     clear eI
     obtain rfl := Option.some.inj H
     go_enter Try.func3, Try.ntmps3
     go_wp2_with (first | ((with_reducible refine gate_callee (f := 8) rfl ?_); refine goesL_ (some 15) rfl rfl Try.func8 Z16 rfl #[.string a0] rfl Z4 ?_; (with_reducible refine (ripng_Parse.calls k a0 aI aN aJ _ A5.out).mono ?_); rintro e hA ⟨v105, rfl, ho0, hb⟩; refine ⟨_, rfl, ?_⟩; have HO106 := Aside0.mk (Kd.S_lower ho0 (below_size Z0)); replace HB := Aside0.mk (below_step Z0 hb); clear hb ho0) | ((with_reducible refine gate_callee (f := 9) rfl ?_); refine goesL_ (some 21) rfl rfl Try.func9 Z16 rfl #[.string a0] rfl Z4 ?_; (with_reducible refine (roadbookref12_Parse.calls k a0 bJ fh t109 _ A6.out).mono ?_); rintro e fX ⟨v110, rfl, ho0, hb⟩; refine ⟨_, rfl, ?_⟩; have HO111 := Aside0.mk (Kd.S_lower (Kd.S_new' ho0 (Kd.S_lt (by (with_reducible repeat (first | apply Kd.S_alloc | apply Kd.S_drewN | apply Kd.S_drew)); exact HO106.out))) (below_size Z0)); replace HO106 := Aside0.mk (Kd.S_elder' (by (with_reducible repeat (first | apply Kd.S_alloc | apply Kd.S_drewN | apply Kd.S_drew)); exact HO106.out) (Kd.S_base ho0) hb); replace HB := Aside0.mk (below_step Z0 hb); clear hb ho0) | ((with_reducible refine gate_callee (f := 7) rfl ?_); refine goesL_ (some 25) rfl rfl Try.func7 Z16 rfl #[] rfl Z4 ?_; (with_reducible refine (roadbooklaw12_awake.calls k  true _ (Aside0.mk (by first | rfl | exact hr_.out)) A7.out).mono ?_); rintro e w14 ⟨rfl, hb⟩; refine ⟨_, rfl, ?_⟩; replace HO106 := Aside0.mk (Kd.S_below (by (with_reducible repeat (first | apply Kd.S_alloc | apply Kd.S_drewN | apply Kd.S_drew)); exact HO106.out) hb); replace HO111 := Aside0.mk (Kd.S_below (by (with_reducible repeat (first | apply Kd.S_alloc | apply Kd.S_drewN | apply Kd.S_drew)); exact HO111.out) hb); replace HB := Aside0.mk (below_step Z0 hb); clear hb; obtain ⟨Ao15, co15, eo15⟩ := Kd.S_slice HO106.out; subst eo15; obtain ⟨Ao16, co16, eo16⟩ := Kd.S_slice HO111.out; subst eo16) | (go_at_call 10; (with_reducible refine (roadbookref07_SameAll.calls k _ _ aI _ _ bJ true _ ?side1 ?side2 ?side3 ?side4 A9.out).mono ?_); (case side1 => exact (by repeat (first | exact (Kd.S_reads' HO106.out).2.2 | (with_reducible refine Kd.C_alloc ?_ _) | (with_reducible refine Kd.C_drewN ?_ _) | (with_reducible refine Kd.C_drew ?_)))); (case side2 => exact (Kd.S_reads' HO106.out).2.1); (case side3 => exact (by repeat (first | exact (Kd.S_reads' HO111.out).2.2 | (with_reducible refine Kd.C_alloc ?_ _) | (with_reducible refine Kd.C_drewN ?_ _) | (with_reducible refine Kd.C_drew ?_)))); (case side4 => exact (Kd.S_reads' HO111.out).2.1); rintro e w17 ⟨rfl, hb⟩; replace HO106 := Aside0.mk (Kd.S_below (by (with_reducible repeat (first | apply Kd.S_alloc | apply Kd.S_drewN | apply Kd.S_drew)); exact HO106.out) hb); replace HO111 := Aside0.mk (Kd.S_below (by (with_reducible repeat (first | apply Kd.S_alloc | apply Kd.S_drewN | apply Kd.S_drew)); exact HO111.out) hb); replace HB := Aside0.mk (below_step Z0 hb); clear hb))
     go_ret
     exact ⟨Z2, Z0⟩
    ·rw [if_neg eI] at H
     have c11b0 : (aN == fh) = false := beq_eq_false_iff_ne.mpr eI
     have c11b1 : (aN != fh) = true := bne_iff_ne.mpr eI
     exact absurd (Option.some.inj H) (by rw [hr_.out]; exact Bool.false_ne_true)
   ·replace cR := Bool.eq_false_iff.mpr cR
    subst cR
    replace H := Sq.itF H
    exact absurd (Option.some.inj H) (by rw [hr_.out]; exact Bool.false_ne_true)
  ·replace c8 := Bool.eq_false_iff.mpr c8
   subst c8
   replace H := Sq.itF H
   exact absurd (Option.some.inj H) (by rw [hr_.out]; exact Bool.false_ne_true)

/-- THE ONE PURE STATEMENT of roadbooklaw12_RipngParses: yours. -/
def roadbooklaw12_RipngParses.Pure : Prop := ∀ (a0 : ByteArray), a0.size ≤ 140737488351232 → ∃ k, roadbooklaw12_RipngParses.f k a0 = some true
theorem roadbooklaw12_RipngParses.walk (P : roadbooklaw12_RipngParses.Pure) (a0 : ByteArray) (w : World) (w0 : a0.size ≤ 140737488351232) :
  Calls Try.prog 3 #[.string a0] w fun e w' => e = .returned (.bool true) ∧ Below w.heap.size w w' := by
 obtain ⟨k, h⟩ := P a0 w0
 refine (roadbooklaw12_RipngParses.calls k a0 true w (Aside0.mk rfl) h).mono ?_
 rintro e w' ⟨rfl, hd⟩
 exact ⟨rfl, hd⟩

end Go.Proofs.Ytnifhgackjkkbaa.PN
