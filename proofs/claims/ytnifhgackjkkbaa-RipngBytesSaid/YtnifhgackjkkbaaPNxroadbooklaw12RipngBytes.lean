-- Written by mp.py, a program of this work (wip/tools), out of the translation; Lean checks it.
import Derived.Test.YtnifhgackjkkbaaPNxZ
import Derived.Test.YtnifhgackjkkbaaPNxripng
import Derived.Test.YtnifhgackjkkbaaPNxripngEncode
import Derived.Test.YtnifhgackjkkbaaPNxroadbooklaw12awake
import Derived.Test.YtnifhgackjkkbaaPNxroadbookref07SameAll
namespace Go.Proofs.Ytnifhgackjkkbaa.PN
open Go.RowKit Go.Proofs.YtnifhgackjkkbaaW.PrintWords Go.Proofs.YtnifhgackjkkbaaW.PrintLast Go.Proofs.YtnifhgackjkkbaaW.PrintMore
attribute [local go_sem] max2_int min2_int max_two min_two max_three min_three max_four min_four   -- for this text's walks alone
set_option linter.unusedVariables false
set_option linter.unusedSimpArgs false

/-! ### roadbooklaw12_RipngBytes: function 5 -/
def roadbooklaw12_RipngBytes.f (k : Nat) (a0 : ByteArray) : Option (Bool) := if (a0.size : Int) > 2000 then ((roadbooklaw12_awake.f k).bind fun aM => (some aM)) else ((ripng_Parse.f k a0).bind fun cp => (if cp.2.2 = 0 then ((ripng_Encode.f k cp.1).bind fun bt108 => ((ripng_Parse.f k bt108.1).bind fun bt111 => ((ripng_Encode.f k bt111.1).bind fun bt116 => ((roadbooklaw12_awake.f k).bind fun t119 => (if t119 = true then (if bt108.2.2 = 0 then (if bt111.2.2 = 0 then (if bt116.2.2 = 0 then (if (bt108.1.size : Int) ≤ (a0.size : Int) then ((roadbookref07_SameAll.f k cp.1 bt111.1).bind fun t120 => (if t120 = true then (some (bt108.1.toList == bt116.1.toList)) else (some false))) else (some false)) else (some false)) else (some false)) else (some false)) else (some false)))))) else ((roadbooklaw12_awake.f k).bind fun bJ => (if bJ = true then (if (cp.1.length : Int) = 0 then (if cp.2.1 ≥ 0 then (some (decide (cp.2.1 ≤ (a0.size : Int)))) else (some false)) else (some false)) else (some false)))))
theorem roadbooklaw12_RipngBytes.mono : ∀ a0 k, LeO (roadbooklaw12_RipngBytes.f k a0) (roadbooklaw12_RipngBytes.f (k + 1) a0) := by
 intro a0 k
 unfold roadbooklaw12_RipngBytes.f
 have m0 := ripng_Encode.mono
 have m1 := ripng_Parse.mono
 have m2 := roadbooklaw12_awake.mono
 have m3 := roadbookref07_SameAll.mono
 exact Sq.mo
set_option maxHeartbeats 8000000 in
set_option maxRecDepth 100000 in
theorem roadbooklaw12_RipngBytes.calls (k : Nat) (a0 : ByteArray) (r : Bool) (w : World) (hr_ : Aside0 (r = true)) (h : roadbooklaw12_RipngBytes.f k a0 = some r) :
  Calls Try.prog 5 #[.string a0] w fun e w' => e = .returned (.bool r) ∧ Below w.heap.size w w' := by
 have HB := Aside0.mk (Below.refl w.heap.size w)
 have H : (if (a0.size : Int) > 2000 then ((roadbooklaw12_awake.f k).bind fun aM => (some aM)) else ((ripng_Parse.f k a0).bind fun cp => (if cp.2.2 = 0 then ((ripng_Encode.f k cp.1).bind fun bt108 => ((ripng_Parse.f k bt108.1).bind fun bt111 => ((ripng_Encode.f k bt111.1).bind fun bt116 => ((roadbooklaw12_awake.f k).bind fun t119 => (if t119 = true then (if bt108.2.2 = 0 then (if bt111.2.2 = 0 then (if bt116.2.2 = 0 then (if (bt108.1.size : Int) ≤ (a0.size : Int) then ((roadbookref07_SameAll.f k cp.1 bt111.1).bind fun t120 => (if t120 = true then (some (bt108.1.toList == bt116.1.toList)) else (some false))) else (some false)) else (some false)) else (some false)) else (some false)) else (some false)))))) else ((roadbooklaw12_awake.f k).bind fun bJ => (if bJ = true then (if (cp.1.length : Int) = 0 then (if cp.2.1 ≥ 0 then (some (decide (cp.2.1 ≤ (a0.size : Int)))) else (some false)) else (some false)) else (some false)))))) = some r := h
 clear h
 by_cases c2 : (a0.size : Int) > 2000
 ·rw [if_pos c2] at H
  have cV : decide (2000 < (a0.size : Int)) = true := decide_eq_true c2
  have dj : decide (2000 < a0.size) = true := decide_eq_true Z25
  clear c2
  replace H := Option.bind_eq_some_iff.mp H
  obtain ⟨aM, eT, H⟩ := H
  replace H : (some aM) = some r := H
  have A3 := Aside0.mk eT
  clear eT
  obtain rfl := Option.some.inj H
  go_enter Try.func5, Try.ntmps5
  go_wp2_with (first | ((with_reducible refine gate_callee (f := 7) rfl ?_); refine goesL_ (some 18) rfl rfl Try.func7 Z16 rfl #[] rfl Z4 ?_; (with_reducible refine (roadbooklaw12_awake.calls k  aM _ (Aside0.mk (by first | rfl | exact hr_.out)) A3.out).mono ?_); rintro e w4 ⟨rfl, hb⟩; refine ⟨_, rfl, ?_⟩; replace HB := Aside0.mk (below_step Z0 hb); clear hb))
  go_ret
  exact ⟨Z2, Z0⟩
 ·rw [if_neg c2] at H
  have cV : decide (2000 < (a0.size : Int)) = false := decide_eq_false c2
  have dj : decide (2000 < a0.size) = false := decide_eq_false Z25
  clear c2
  replace H := Option.bind_eq_some_iff.mp H
  obtain ⟨⟨aI, aN, aJ⟩, fb, H⟩ := H
  replace H : (if aJ = 0 then ((ripng_Encode.f k aI).bind fun bt108 => ((ripng_Parse.f k bt108.1).bind fun bt111 => ((ripng_Encode.f k bt111.1).bind fun bt116 => ((roadbooklaw12_awake.f k).bind fun t119 => (if t119 = true then (if bt108.2.2 = 0 then (if bt111.2.2 = 0 then (if bt116.2.2 = 0 then (if (bt108.1.size : Int) ≤ (a0.size : Int) then ((roadbookref07_SameAll.f k aI bt111.1).bind fun t120 => (if t120 = true then (some (bt108.1.toList == bt116.1.toList)) else (some false))) else (some false)) else (some false)) else (some false)) else (some false)) else (some false)))))) else ((roadbooklaw12_awake.f k).bind fun bJ => (if bJ = true then (if (aI.length : Int) = 0 then (if aN ≥ 0 then (some (decide (aN ≤ (a0.size : Int)))) else (some false)) else (some false)) else (some false)))) = some r := H
  have A5 := Aside0.mk fb
  clear fb
  by_cases c6 : aJ = 0
  ·rw [if_pos c6] at H
   have fc : (aJ == 0) = true := beq_iff_eq.mpr c6
   have iO : (aJ != 0) = false := bne_eq_false_iff_eq.mpr c6
   clear c6
   replace H := Option.bind_eq_some_iff.mp H
   obtain ⟨⟨fh, t109, dT⟩, fy, H⟩ := H
   replace H : ((ripng_Parse.f k fh).bind fun bt111 => ((ripng_Encode.f k bt111.1).bind fun bt116 => ((roadbooklaw12_awake.f k).bind fun t119 => (if t119 = true then (if dT = 0 then (if bt111.2.2 = 0 then (if bt116.2.2 = 0 then (if (fh.size : Int) ≤ (a0.size : Int) then ((roadbookref07_SameAll.f k aI bt111.1).bind fun t120 => (if t120 = true then (some (fh.toList == bt116.1.toList)) else (some false))) else (some false)) else (some false)) else (some false)) else (some false)) else (some false))))) = some r := H
   have A7 := Aside0.mk fy
   clear fy
   replace H := Option.bind_eq_some_iff.mp H
   obtain ⟨⟨ef, eU, t113⟩, jI, H⟩ := H
   replace H : ((ripng_Encode.f k ef).bind fun bt116 => ((roadbooklaw12_awake.f k).bind fun t119 => (if t119 = true then (if dT = 0 then (if t113 = 0 then (if bt116.2.2 = 0 then (if (fh.size : Int) ≤ (a0.size : Int) then ((roadbookref07_SameAll.f k aI ef).bind fun t120 => (if t120 = true then (some (fh.toList == bt116.1.toList)) else (some false))) else (some false)) else (some false)) else (some false)) else (some false)) else (some false)))) = some r := H
   have A8 := Aside0.mk jI
   clear jI
   replace H := Option.bind_eq_some_iff.mp H
   obtain ⟨⟨t116, t117, t118⟩, jK, H⟩ := H
   replace H : ((roadbooklaw12_awake.f k).bind fun t119 => (if t119 = true then (if dT = 0 then (if t113 = 0 then (if t118 = 0 then (if (fh.size : Int) ≤ (a0.size : Int) then ((roadbookref07_SameAll.f k aI ef).bind fun t120 => (if t120 = true then (some (fh.toList == t116.toList)) else (some false))) else (some false)) else (some false)) else (some false)) else (some false)) else (some false))) = some r := H
   have A9 := Aside0.mk jK
   clear jK
   replace H := Option.bind_eq_some_iff.mp H
   obtain ⟨t119, hD, H⟩ := H
   replace H : (if t119 = true then (if dT = 0 then (if t113 = 0 then (if t118 = 0 then (if (fh.size : Int) ≤ (a0.size : Int) then ((roadbookref07_SameAll.f k aI ef).bind fun t120 => (if t120 = true then (some (fh.toList == t116.toList)) else (some false))) else (some false)) else (some false)) else (some false)) else (some false)) else (some false)) = some r := H
   have fz := Aside0.mk hD
   clear hD
   by_cases eI : t119 = true
   ·subst eI
    replace H := Sq.itT H
    by_cases dm : dT = 0
    ·rw [if_pos dm] at H
     have dE : (dT == 0) = true := beq_iff_eq.mpr dm
     have dF : (dT != 0) = false := bne_eq_false_iff_eq.mpr dm
     clear dm
     by_cases eD : t113 = 0
     ·rw [if_pos eD] at H
      have hu : (t113 == 0) = true := beq_iff_eq.mpr eD
      have c13b1 : (t113 != 0) = false := bne_eq_false_iff_eq.mpr eD
      clear eD
      by_cases dR : t118 = 0
      ·rw [if_pos dR] at H
       have dW : (t118 == 0) = true := beq_iff_eq.mpr dR
       have fa : (t118 != 0) = false := bne_eq_false_iff_eq.mpr dR
       clear dR
       by_cases c15 : (fh.size : Int) ≤ (a0.size : Int)
       ·rw [if_pos c15] at H
        have c15b0 : decide ((fh.size : Int) ≤ (a0.size : Int)) = true := decide_eq_true c15
        have c15b1 : decide (fh.size ≤ a0.size) = true := decide_eq_true (Int.ofNat_le.mp c15)
        clear c15
        replace H := Option.bind_eq_some_iff.mp H
        obtain ⟨t120, A160, H⟩ := H
        replace H : (if t120 = true then (some (fh.toList == t116.toList)) else (some false)) = some r := H
        have A16 := Aside0.mk A160
        clear A160
        by_cases eE : t120 = true
        ·subst eE
         replace H := Sq.itT H
         obtain rfl := Option.some.inj H
         go_enter Try.func5, Try.ntmps5
         go_wp2_with (first | ((with_reducible refine gate_callee (f := 8) rfl ?_); refine goesL_ (some 21) rfl rfl Try.func8 Z16 rfl #[.string a0] rfl Z4 ?_; (with_reducible refine (ripng_Parse.calls k a0 aI aN aJ _ A5.out).mono ?_); rintro e jM ⟨v105, rfl, ho0, hb⟩; refine ⟨_, rfl, ?_⟩; have HO106 := Aside0.mk (Kd.S_lower ho0 (below_size Z0)); replace HB := Aside0.mk (below_step Z0 hb); clear hb ho0; obtain ⟨Ao19, iQ, eo19⟩ := Kd.S_slice HO106.out; subst eo19) | ((with_reducible refine gate_callee (f := 14) rfl ?_); refine goesL_ (some 45) rfl rfl Try.func14 Z16 rfl #[.slice Ao19 aI.length iQ] rfl Z4 ?_; (with_reducible refine (ripng_Encode.calls k _ _ aI fh t109 dT _ ?side1 ?side2 A7.out).mono ?_); (case side1 => exact (by repeat (first | exact (Kd.S_reads' HO106.out).2.2 | (with_reducible refine Kd.C_alloc ?_ _) | (with_reducible refine Kd.C_drewN ?_ _) | (with_reducible refine Kd.C_drew ?_)))); (case side2 => exact (Kd.S_reads' HO106.out).2.1); rintro e jN ⟨rfl, hb⟩; refine ⟨_, rfl, ?_⟩; replace HO106 := Aside0.mk (Kd.S_below (by (with_reducible repeat (first | apply Kd.S_alloc | apply Kd.S_drewN | apply Kd.S_drew)); exact HO106.out) hb); replace HB := Aside0.mk (below_step Z0 hb); clear hb) | ((with_reducible refine gate_callee (f := 8) rfl ?_); refine goesL_ (some 51) rfl rfl Try.func8 Z16 rfl #[.string fh] rfl Z4 ?_; (with_reducible refine (ripng_Parse.calls k fh ef eU t113 _ A8.out).mono ?_); rintro e hG ⟨v114, rfl, ho0, hb⟩; refine ⟨_, rfl, ?_⟩; have ib := Aside0.mk (Kd.S_lower (Kd.S_new' ho0 (Kd.S_lt (by (with_reducible repeat (first | apply Kd.S_alloc | apply Kd.S_drewN | apply Kd.S_drew)); exact HO106.out))) (below_size Z0)); replace HO106 := Aside0.mk (Kd.S_elder' (by (with_reducible repeat (first | apply Kd.S_alloc | apply Kd.S_drewN | apply Kd.S_drew)); exact HO106.out) (Kd.S_base ho0) hb); replace HB := Aside0.mk (below_step Z0 hb); clear hb ho0; obtain ⟨Ao22, co22, eo22⟩ := Kd.S_slice ib.out; subst eo22) | ((with_reducible refine gate_callee (f := 14) rfl ?_); refine goesL_ (some 57) rfl rfl Try.func14 Z16 rfl #[.slice Ao22 ef.length co22] rfl Z4 ?_; (with_reducible refine (ripng_Encode.calls k _ _ ef t116 t117 t118 _ ?side1 ?side2 A9.out).mono ?_); (case side1 => exact (by repeat (first | exact (Kd.S_reads' ib.out).2.2 | (with_reducible refine Kd.C_alloc ?_ _) | (with_reducible refine Kd.C_drewN ?_ _) | (with_reducible refine Kd.C_drew ?_)))); (case side2 => exact (Kd.S_reads' ib.out).2.1); rintro e w23 ⟨rfl, hb⟩; refine ⟨_, rfl, ?_⟩; replace HO106 := Aside0.mk (Kd.S_below (by (with_reducible repeat (first | apply Kd.S_alloc | apply Kd.S_drewN | apply Kd.S_drew)); exact HO106.out) hb); replace ib := Aside0.mk (Kd.S_below (by (with_reducible repeat (first | apply Kd.S_alloc | apply Kd.S_drewN | apply Kd.S_drew)); exact ib.out) hb); replace HB := Aside0.mk (below_step Z0 hb); clear hb) | ((with_reducible refine gate_callee (f := 7) rfl ?_); refine goesL_ (some 61) rfl rfl Try.func7 Z16 rfl #[] rfl Z4 ?_; (with_reducible refine (roadbooklaw12_awake.calls k  true _ (Aside0.mk (by first | rfl | exact hr_.out)) fz.out).mono ?_); rintro e w24 ⟨rfl, hb⟩; refine ⟨_, rfl, ?_⟩; replace HO106 := Aside0.mk (Kd.S_below (by (with_reducible repeat (first | apply Kd.S_alloc | apply Kd.S_drewN | apply Kd.S_drew)); exact HO106.out) hb); replace ib := Aside0.mk (Kd.S_below (by (with_reducible repeat (first | apply Kd.S_alloc | apply Kd.S_drewN | apply Kd.S_drew)); exact ib.out) hb); replace HB := Aside0.mk (below_step Z0 hb); clear hb) | (go_at_call 10; (with_reducible refine (roadbookref07_SameAll.calls k _ _ aI _ _ ef true _ ?side1 ?side2 ?side3 ?side4 A16.out).mono ?_); (case side1 => exact (by repeat (first | exact (Kd.S_reads' HO106.out).2.2 | (with_reducible refine Kd.C_alloc ?_ _) | (with_reducible refine Kd.C_drewN ?_ _) | (with_reducible refine Kd.C_drew ?_)))); (case side2 => exact (Kd.S_reads' HO106.out).2.1); (case side3 => exact (by repeat (first | exact (Kd.S_reads' ib.out).2.2 | (with_reducible refine Kd.C_alloc ?_ _) | (with_reducible refine Kd.C_drewN ?_ _) | (with_reducible refine Kd.C_drew ?_)))); (case side4 => exact (Kd.S_reads' ib.out).2.1); rintro e w25 ⟨rfl, hb⟩; replace HO106 := Aside0.mk (Kd.S_below (by (with_reducible repeat (first | apply Kd.S_alloc | apply Kd.S_drewN | apply Kd.S_drew)); exact HO106.out) hb); replace ib := Aside0.mk (Kd.S_below (by (with_reducible repeat (first | apply Kd.S_alloc | apply Kd.S_drewN | apply Kd.S_drew)); exact ib.out) hb); replace HB := Aside0.mk (below_step Z0 hb); clear hb))
         go_ret
         exact ⟨Z2, Z0⟩
        ·replace eE := Bool.eq_false_iff.mpr eE
         subst eE
         replace H := Sq.itF H
         exact absurd (Option.some.inj H) (by rw [hr_.out]; exact Bool.false_ne_true)
       ·rw [if_neg c15] at H
        have c15b0 : decide ((fh.size : Int) ≤ (a0.size : Int)) = false := decide_eq_false c15
        have c15b1 : decide (fh.size ≤ a0.size) = false := decide_eq_false (fun h => c15 (Int.ofNat_le.mpr h))
        clear c15
        exact absurd (Option.some.inj H) (by rw [hr_.out]; exact Bool.false_ne_true)
      ·rw [if_neg dR] at H
       have dW : (t118 == 0) = false := beq_eq_false_iff_ne.mpr dR
       have fa : (t118 != 0) = true := bne_iff_ne.mpr dR
       exact absurd (Option.some.inj H) (by rw [hr_.out]; exact Bool.false_ne_true)
     ·rw [if_neg eD] at H
      have hu : (t113 == 0) = false := beq_eq_false_iff_ne.mpr eD
      have c13b1 : (t113 != 0) = true := bne_iff_ne.mpr eD
      exact absurd (Option.some.inj H) (by rw [hr_.out]; exact Bool.false_ne_true)
    ·rw [if_neg dm] at H
     have dE : (dT == 0) = false := beq_eq_false_iff_ne.mpr dm
     have dF : (dT != 0) = true := bne_iff_ne.mpr dm
     exact absurd (Option.some.inj H) (by rw [hr_.out]; exact Bool.false_ne_true)
   ·replace eI := Bool.eq_false_iff.mpr eI
    subst eI
    replace H := Sq.itF H
    exact absurd (Option.some.inj H) (by rw [hr_.out]; exact Bool.false_ne_true)
  ·rw [if_neg c6] at H
   have fc : (aJ == 0) = false := beq_eq_false_iff_ne.mpr c6
   have iO : (aJ != 0) = true := bne_iff_ne.mpr c6
   replace H := Option.bind_eq_some_iff.mp H
   obtain ⟨bJ, A260, H⟩ := H
   replace H : (if bJ = true then (if (aI.length : Int) = 0 then (if aN ≥ 0 then (some (decide (aN ≤ (a0.size : Int)))) else (some false)) else (some false)) else (some false)) = some r := H
   have A26 := Aside0.mk A260
   clear A260
   by_cases hm : bJ = true
   ·subst hm
    replace H := Sq.itT H
    by_cases fB : (aI.length : Int) = 0
    ·rw [if_pos fB] at H
     have fC : ((aI.length : Int) == 0) = true := beq_iff_eq.mpr fB
     have fD : ((aI.length : Int) != 0) = false := bne_eq_false_iff_eq.mpr fB
     clear fB
     by_cases hh : aN ≥ 0
     ·rw [if_pos hh] at H
      have iu : decide (0 ≤ aN) = true := decide_eq_true hh
      clear hh
      obtain rfl := Option.some.inj H
      go_enter Try.func5, Try.ntmps5
      go_wp2_with (first | ((with_reducible refine gate_callee (f := 8) rfl ?_); refine goesL_ (some 21) rfl rfl Try.func8 Z16 rfl #[.string a0] rfl Z4 ?_; (with_reducible refine (ripng_Parse.calls k a0 aI aN aJ _ A5.out).mono ?_); rintro e w30 ⟨v105, rfl, ho0, hb⟩; refine ⟨_, rfl, ?_⟩; have HO106 := Aside0.mk (Kd.S_lower ho0 (below_size Z0)); replace HB := Aside0.mk (below_step Z0 hb); clear hb ho0) | ((with_reducible refine gate_callee (f := 7) rfl ?_); refine goesL_ (some 27) rfl rfl Try.func7 Z16 rfl #[] rfl Z4 ?_; (with_reducible refine (roadbooklaw12_awake.calls k  true _ (Aside0.mk (by first | rfl | exact hr_.out)) A26.out).mono ?_); rintro e eW ⟨rfl, hb⟩; refine ⟨_, rfl, ?_⟩; replace HO106 := Aside0.mk (Kd.S_below (by (with_reducible repeat (first | apply Kd.S_alloc | apply Kd.S_drewN | apply Kd.S_drew)); exact HO106.out) hb); replace HB := Aside0.mk (below_step Z0 hb); clear hb; obtain ⟨Ao32, co32, eo32⟩ := Kd.S_slice HO106.out; subst eo32))
      go_ret
      exact ⟨Z2, Z0⟩
     ·rw [if_neg hh] at H
      have iu : decide (0 ≤ aN) = false := decide_eq_false hh
      clear hh
      exact absurd (Option.some.inj H) (by rw [hr_.out]; exact Bool.false_ne_true)
    ·rw [if_neg fB] at H
     have fC : ((aI.length : Int) == 0) = false := beq_eq_false_iff_ne.mpr fB
     have fD : ((aI.length : Int) != 0) = true := bne_iff_ne.mpr fB
     have c28b2 : ¬ (aI = []) := fun h_ => fB (by rw [h_]; rfl)
     exact absurd (Option.some.inj H) (by rw [hr_.out]; exact Bool.false_ne_true)
   ·replace hm := Bool.eq_false_iff.mpr hm
    subst hm
    replace H := Sq.itF H
    exact absurd (Option.some.inj H) (by rw [hr_.out]; exact Bool.false_ne_true)

/-- THE ONE PURE STATEMENT of roadbooklaw12_RipngBytes: yours. -/
def roadbooklaw12_RipngBytes.Pure : Prop := ∀ (a0 : ByteArray), a0.size ≤ 140737488351232 → ∃ k, roadbooklaw12_RipngBytes.f k a0 = some true
theorem roadbooklaw12_RipngBytes.walk (P : roadbooklaw12_RipngBytes.Pure) (a0 : ByteArray) (w : World) (w0 : a0.size ≤ 140737488351232) :
  Calls Try.prog 5 #[.string a0] w fun e w' => e = .returned (.bool true) ∧ Below w.heap.size w w' := by
 obtain ⟨k, h⟩ := P a0 w0
 refine (roadbooklaw12_RipngBytes.calls k a0 true w (Aside0.mk rfl) h).mono ?_
 rintro e w' ⟨rfl, hd⟩
 exact ⟨rfl, hd⟩

end Go.Proofs.Ytnifhgackjkkbaa.PN
