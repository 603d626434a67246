-- Written by mp.py, a program of this work (wip/tools), out of the translation; Lean checks it.
import Derived.Test.YtccjakjjaemmkaaPAExZ
import Derived.Test.YtccjakjjaemmkaaPAExoctet
import Derived.Test.YtccjakjjaemmkaaPAExroadbookref07Bare
import Derived.Test.YtccjakjjaemmkaaPAExroadbookref13
import Derived.Test.YtccjakjjaemmkaaLoad
namespace Go.Proofs.Ytccjakjjaemmkaa.PAE
open Go.RowKit Go.Proofs.YtccjakjjaemmkaaW.PrintWords Go.Proofs.YtccjakjjaemmkaaW.PrintLast Go.Proofs.YtccjakjjaemmkaaW.PrintMore
attribute [local go_sem] max2_int min2_int max_two min_two max_three min_three max_four min_four   -- for this text's walks alone
set_option linter.unusedVariables false
set_option linter.unusedSimpArgs false

/-! ### roadbookref14_Right: function 21 -/
def roadbookref14_Right.f (k : Nat) (aD : Int) (aw : Int) (ax : Int) (au : ByteArray) (aA : Int) (ay : Int) (av : ByteArray) (ar : Int) (aC : Int) (az : ByteArray) (ao : Int) (am : ByteArray) (ah : Int) (aj : Int) (ak : Int) (ae : Int) (ag : Int) (ai : Int) (an : Int) (aa : ByteArray) (ab : ByteArray) (ac : List (S46)) (ap : Int) (aq : ByteArray) (af : List (S48)) : Option (Bool) := if aD = 3 then ((roadbookref07_Bare.f k aD aw ax au aA ay av ar aC az ao am ah aj ak ae ag ai an aa ab ac ap aq af).bind fun aU => (if aU = true then (if ae ≥ 0 then (if ae ≤ 31 then ((roadbookref02_Fits.f k ag 1).bind fun aY => (if aY = true then ((roadbookref02_Fits.f k ai 4).bind fun bg => (if bg = true then ((roadbookref02_Fits.f k ah 4).bind fun bH => (if bH = true then ((roadbookref02_Fits.f k aj 4).bind fun aW => (if aW = true then (if (aa.size : Int) = 4 then (if (ab.size : Int) = 4 then ((roadbookref13_Right.f k af).bind fun bX => (some bX)) else (some false)) else (some false)) else (some false))) else (some false))) else (some false))) else (some false))) else (some false)) else (some false)) else (some false))) else (some false)
theorem roadbookref14_Right.mono : ∀ a0 a1 a2 a3 a4 a5 a6 a7 a8 a9 dY dZ ea eb ec ed ee ef eg eh ei ej ek el em k, LeO (roadbookref14_Right.f k a0 a1 a2 a3 a4 a5 a6 a7 a8 a9 dY dZ ea eb ec ed ee ef eg eh ei ej ek el em) (roadbookref14_Right.f (k + 1) a0 a1 a2 a3 a4 a5 a6 a7 a8 a9 dY dZ ea eb ec ed ee ef eg eh ei ej ek el em) := by
 intros
 rename_i k
 unfold roadbookref14_Right.f
 have m0 := roadbookref02_Fits.mono
 have m1 := roadbookref07_Bare.mono
 have m2 := roadbookref13_Right.mono
 exact Sq.mo

set_option maxHeartbeats 8000000 in
set_option maxRecDepth 100000 in
theorem roadbookref14_Right.calls (k : Nat) (aD : Int) (aw : Int) (ax : Int) (au : ByteArray) (aA : Int) (ay : Int) (av : ByteArray) (ar : Int) (aC : Int) (az : ByteArray) (ao : Int) (am : ByteArray) (ah : Int) (aj : Int) (ak : Int) (ae : Int) (ag : Int) (ai : Int) (an : Int) (aa : ByteArray) (ab : ByteArray) (aP : Option Addr) (aN : Nat) (ac : List (S46)) (ap : Int) (aq : ByteArray) (aJ : Option Addr) (aK : Nat) (af : List (S48)) (r : Bool) (w : World) (bk : Kd.C k46 w aP ac.length ac) (bl : ac.length ≤ aN) (bm : Kd.C k48 w aJ af.length af) (bn : af.length ≤ aK) (h : roadbookref14_Right.f k aD aw ax au aA ay av ar aC az ao am ah aj ak ae ag ai an aa ab ac ap aq af = some r) :
  Calls Try.prog 21 #[.agg #[.int .i64 aD, .int .i64 aw, .int .i64 ax, .string au, .int .i64 aA, .int .i64 ay, .string av, .int .i64 ar, .int .i64 aC, .string az, .int .i64 ao, .string am, .int .i64 ah, .int .i64 aj, .int .i64 ak, .int .i64 ae, .int .i64 ag, .int .i64 ai, .int .i64 an, .string aa, .string ab, .slice aP ac.length aN, .int .i64 ap, .string aq, .slice aJ af.length aK]] w fun e w' => e = .returned (.bool r) ∧ Below w.heap.size w w' := by
 have dM := Try.underlying25
 have cc := Aside0.mk bk
 have aZ := Aside0.mk bl
 clear bk bl
 have bZ := Aside0.mk bm
 have aT := Aside0.mk bn
 clear bm bn
 have HB := Aside0.mk (Below.refl w.heap.size w)
 have H : (if aD = 3 then ((roadbookref07_Bare.f k aD aw ax au aA ay av ar aC az ao am ah aj ak ae ag ai an aa ab ac ap aq af).bind fun aU => (if aU = true then (if ae ≥ 0 then (if ae ≤ 31 then ((roadbookref02_Fits.f k ag 1).bind fun aY => (if aY = true then ((roadbookref02_Fits.f k ai 4).bind fun bg => (if bg = true then ((roadbookref02_Fits.f k ah 4).bind fun bH => (if bH = true then ((roadbookref02_Fits.f k aj 4).bind fun aW => (if aW = true then (if (aa.size : Int) = 4 then (if (ab.size : Int) = 4 then ((roadbookref13_Right.f k af).bind fun bX => (some bX)) else (some false)) else (some false)) else (some false))) else (some false))) else (some false))) else (some false))) else (some false)) else (some false)) else (some false))) else (some false)) = some r := h
 clear h
 by_cases c2 : aD = 3
 ·rw [if_pos c2] at H
  have fR : (aD == 3) = true := beq_iff_eq.mpr c2
  have iX : (aD != 3) = false := bne_eq_false_iff_eq.mpr c2
  clear c2
  replace H := Option.bind_eq_some_iff.mp H
  obtain ⟨aU, ic, H⟩ := H
  replace H : (if aU = true then (if ae ≥ 0 then (if ae ≤ 31 then ((roadbookref02_Fits.f k ag 1).bind fun aY => (if aY = true then ((roadbookref02_Fits.f k ai 4).bind fun bg => (if bg = true then ((roadbookref02_Fits.f k ah 4).bind fun bH => (if bH = true then ((roadbookref02_Fits.f k aj 4).bind fun aW => (if aW = true then (if (aa.size : Int) = 4 then (if (ab.size : Int) = 4 then ((roadbookref13_Right.f k af).bind fun bX => (some bX)) else (some false)) else (some false)) else (some false))) else (some false))) else (some false))) else (some false))) else (some false)) else (some false)) else (some false)) = some r := H
  have A3 := Aside0.mk ic
  clear ic
  by_cases c4 : aU = true
  ·subst c4
   replace H := Sq.itT H
   by_cases c5 : ae ≥ 0
   ·rw [if_pos c5] at H
    have dx : decide (0 ≤ ae) = true := decide_eq_true c5
    clear c5
    by_cases c6 : ae ≤ 31
    ·rw [if_pos c6] at H
     have dW : decide (ae ≤ 31) = true := decide_eq_true c6
     clear c6
     replace H := Option.bind_eq_some_iff.mp H
     obtain ⟨aY, ie, H⟩ := H
     replace H : (if aY = true then ((roadbookref02_Fits.f k ai 4).bind fun bg => (if bg = true then ((roadbookref02_Fits.f k ah 4).bind fun bH => (if bH = true then ((roadbookref02_Fits.f k aj 4).bind fun aW => (if aW = true then (if (aa.size : Int) = 4 then (if (ab.size : Int) = 4 then ((roadbookref13_Right.f k af).bind fun bX => (some bX)) else (some false)) else (some false)) else (some false))) else (some false))) else (some false))) else (some false)) = some r := H
     have A7 := Aside0.mk ie
     clear ie
     by_cases c8 : aY = true
     ·subst c8
      replace H := Sq.itT H
      replace H := Option.bind_eq_some_iff.mp H
      obtain ⟨bg, lQ, H⟩ := H
      replace H : (if bg = true then ((roadbookref02_Fits.f k ah 4).bind fun bH => (if bH = true then ((roadbookref02_Fits.f k aj 4).bind fun aW => (if aW = true then (if (aa.size : Int) = 4 then (if (ab.size : Int) = 4 then ((roadbookref13_Right.f k af).bind fun bX => (some bX)) else (some false)) else (some false)) else (some false))) else (some false))) else (some false)) = some r := H
      have A9 := Aside0.mk lQ
      clear lQ
      by_cases dv : bg = true
      ·subst dv
       replace H := Sq.itT H
       replace H := Option.bind_eq_some_iff.mp H
       obtain ⟨bH, gh, H⟩ := H
       replace H : (if bH = true then ((roadbookref02_Fits.f k aj 4).bind fun aW => (if aW = true then (if (aa.size : Int) = 4 then (if (ab.size : Int) = 4 then ((roadbookref13_Right.f k af).bind fun bX => (some bX)) else (some false)) else (some false)) else (some false))) else (some false)) = some r := H
       have iY := Aside0.mk gh
       clear gh
       by_cases dP : bH = true
       ·subst dP
        replace H := Sq.itT H
        replace H := Option.bind_eq_some_iff.mp H
        obtain ⟨aW, hv, H⟩ := H
        replace H : (if aW = true then (if (aa.size : Int) = 4 then (if (ab.size : Int) = 4 then ((roadbookref13_Right.f k af).bind fun bX => (some bX)) else (some false)) else (some false)) else (some false)) = some r := H
        have kl := Aside0.mk hv
        clear hv
        by_cases dQ : aW = true
        ·subst dQ
         replace H := Sq.itT H
         by_cases dA : (aa.size : Int) = 4
         ·rw [if_pos dA] at H
          have fv : ((aa.size : Int) == 4) = true := beq_iff_eq.mpr dA
          have fw : ((aa.size : Int) != 4) = false := bne_eq_false_iff_eq.mpr dA
          clear dA
          by_cases dy : (ab.size : Int) = 4
          ·rw [if_pos dy] at H
           have eP : ((ab.size : Int) == 4) = true := beq_iff_eq.mpr dy
           have fV : ((ab.size : Int) != 4) = false := bne_eq_false_iff_eq.mpr dy
           clear dy
           replace H := Option.bind_eq_some_iff.mp H
           obtain ⟨bX, lR, H⟩ := H
           replace H : (some bX) = some r := H
           have oV := Aside0.mk lR
           clear lR
           obtain rfl := Option.some.inj H
           go_enter Try.func21, Try.ntmps21
           go_wp2_with (first | ((with_reducible refine Pre.gate_load 25 rfl ?_); (try (refine gate_guard Z14 ?_; dsimp only)); refine Pre.load_event rfl rfl rfl Z14 Z1 Try.underlying25 rfl Z11 ?_) | ((with_reducible refine gate_dst (N := 1) rfl ?_); (try (refine gate_guard Z14 ?_; dsimp only)); refine Sq.box 1 #[.int .i64 aD, .int .i64 aw, .int .i64 ax, .string au, .int .i64 aA, .int .i64 ay, .string av, .int .i64 ar, .int .i64 aC, .string az, .int .i64 ao, .string am, .int .i64 ah, .int .i64 aj, .int .i64 ak, .int .i64 ae, .int .i64 ag, .int .i64 ai, .int .i64 an, .string aa, .string ab, .slice aP ac.length aN, .int .i64 ap, .string aq, .slice aJ af.length aK] 25 ?_; intro aE hg np hbox hb; have al := Aside0.mk (hbox); have cd := Aside0.mk (Sq.ge hg Z2); have bV := Aside0.mk (Sq.ge hg Z2); replace HB := Aside0.mk (below_step Z2 hb); clear hb hbox hg; have ig := cells_25 al.out) | (go_at_call 56; (with_reducible refine (roadbookref07_Bare.calls k aD aw ax au aA ay av ar aC az ao am ah aj ak ae ag ai an aa ab _ _ ac ap aq _ _ af true _ ?side1 ?side2 ?side3 ?side4 A3.out).mono ?_); (case side1 => exact Z7); (case side2 => exact aZ.out); (case side3 => exact Z5); (case side4 => exact aT.out); rintro e iM ⟨rfl, hb⟩; replace al := Aside0.mk (blk_below (g := aE) Z3 hb); replace HB := Aside0.mk (below_step Z0 hb); clear hb; have ih := cells_25 al.out) | (go_at_call 57; (with_reducible refine (roadbookref02_Fits.calls k ag 1 true _ A7.out).mono ?_); rintro e w' ⟨rfl, ⟨nd, rfl⟩⟩) | (go_at_call 57; (with_reducible refine (roadbookref02_Fits.calls k ai 4 true _ A9.out).mono ?_); rintro e w' ⟨rfl, ⟨nd, rfl⟩⟩) | (go_at_call 57; (with_reducible refine (roadbookref02_Fits.calls k ah 4 true _ iY.out).mono ?_); rintro e w' ⟨rfl, ⟨nd, rfl⟩⟩) | (go_at_call 57; (with_reducible refine (roadbookref02_Fits.calls k aj 4 true _ kl.out).mono ?_); rintro e w' ⟨rfl, ⟨nd, rfl⟩⟩) | (go_at_call 58; (with_reducible refine (roadbookref13_Right.calls k _ _ af bX _ ?side1 ?side2 oV.out).mono ?_); (case side1 => exact Z60); (case side2 => exact aT.out); rintro e w' ⟨rfl, ⟨nd, rfl⟩⟩))
           go_ret
           exact ⟨Z6, Z0⟩
          ·rw [if_neg dy] at H
           have eP : ((ab.size : Int) == 4) = false := beq_eq_false_iff_ne.mpr dy
           have fV : ((ab.size : Int) != 4) = true := bne_iff_ne.mpr dy
           obtain rfl := Option.some.inj H
           go_enter Try.func21, Try.ntmps21
           go_wp2_with (first | ((with_reducible refine Pre.gate_load 25 rfl ?_); (try (refine gate_guard Z14 ?_; dsimp only)); refine Pre.load_event rfl rfl rfl Z14 Z1 Try.underlying25 rfl Z11 ?_) | ((with_reducible refine gate_dst (N := 1) rfl ?_); (try (refine gate_guard Z14 ?_; dsimp only)); refine Sq.box 1 #[.int .i64 aD, .int .i64 aw, .int .i64 ax, .string au, .int .i64 aA, .int .i64 ay, .string av, .int .i64 ar, .int .i64 aC, .string az, .int .i64 ao, .string am, .int .i64 ah, .int .i64 aj, .int .i64 ak, .int .i64 ae, .int .i64 ag, .int .i64 ai, .int .i64 an, .string aa, .string ab, .slice aP ac.length aN, .int .i64 ap, .string aq, .slice aJ af.length aK] 25 ?_; intro aE hg kV hbox hb; have al := Aside0.mk (hbox); have cd := Aside0.mk (Sq.ge hg Z2); have bV := Aside0.mk (Sq.ge hg Z2); replace HB := Aside0.mk (below_step Z2 hb); clear hb hbox hg; have km := cells_25 al.out) | (go_at_call 56; (with_reducible refine (roadbookref07_Bare.calls k aD aw ax au aA ay av ar aC az ao am ah aj ak ae ag ai an aa ab _ _ ac ap aq _ _ af true _ ?side1 ?side2 ?side3 ?side4 A3.out).mono ?_); (case side1 => exact Z7); (case side2 => exact aZ.out); (case side3 => exact Z5); (case side4 => exact aT.out); rintro e gJ ⟨rfl, hb⟩; replace al := Aside0.mk (blk_below (g := aE) Z3 hb); replace HB := Aside0.mk (below_step Z0 hb); clear hb; have ii := cells_25 al.out) | (go_at_call 57; (with_reducible refine (roadbookref02_Fits.calls k ag 1 true _ A7.out).mono ?_); rintro e w' ⟨rfl, ⟨nd, rfl⟩⟩) | (go_at_call 57; (with_reducible refine (roadbookref02_Fits.calls k ai 4 true _ A9.out).mono ?_); rintro e w' ⟨rfl, ⟨nd, rfl⟩⟩) | (go_at_call 57; (with_reducible refine (roadbookref02_Fits.calls k ah 4 true _ iY.out).mono ?_); rintro e w' ⟨rfl, ⟨nd, rfl⟩⟩) | (go_at_call 57; (with_reducible refine (roadbookref02_Fits.calls k aj 4 true _ kl.out).mono ?_); rintro e w' ⟨rfl, ⟨nd, rfl⟩⟩))
           go_ret
           exact ⟨Z6, Z0⟩
         ·rw [if_neg dA] at H
          have fv : ((aa.size : Int) == 4) = false := beq_eq_false_iff_ne.mpr dA
          have fw : ((aa.size : Int) != 4) = true := bne_iff_ne.mpr dA
          obtain rfl := Option.some.inj H
          go_enter Try.func21, Try.ntmps21
          go_wp2_with (first | ((with_reducible refine Pre.gate_load 25 rfl ?_); (try (refine gate_guard Z14 ?_; dsimp only)); refine Pre.load_event rfl rfl rfl Z14 Z1 Try.underlying25 rfl Z11 ?_) | ((with_reducible refine gate_dst (N := 1) rfl ?_); (try (refine gate_guard Z14 ?_; dsimp only)); refine Sq.box 1 #[.int .i64 aD, .int .i64 aw, .int .i64 ax, .string au, .int .i64 aA, .int .i64 ay, .string av, .int .i64 ar, .int .i64 aC, .string az, .int .i64 ao, .string am, .int .i64 ah, .int .i64 aj, .int .i64 ak, .int .i64 ae, .int .i64 ag, .int .i64 ai, .int .i64 an, .string aa, .string ab, .slice aP ac.length aN, .int .i64 ap, .string aq, .slice aJ af.length aK] 25 ?_; intro aE hg iH hbox hb; have al := Aside0.mk (hbox); have cd := Aside0.mk (Sq.ge hg Z2); have bV := Aside0.mk (Sq.ge hg Z2); replace HB := Aside0.mk (below_step Z2 hb); clear hb hbox hg; have hz := cells_25 al.out) | (go_at_call 56; (with_reducible refine (roadbookref07_Bare.calls k aD aw ax au aA ay av ar aC az ao am ah aj ak ae ag ai an aa ab _ _ ac ap aq _ _ af true _ ?side1 ?side2 ?side3 ?side4 A3.out).mono ?_); (case side1 => exact Z7); (case side2 => exact aZ.out); (case side3 => exact Z5); (case side4 => exact aT.out); rintro e lS ⟨rfl, hb⟩; replace al := Aside0.mk (blk_below (g := aE) Z3 hb); replace HB := Aside0.mk (below_step Z0 hb); clear hb; have gK := cells_25 al.out) | (go_at_call 57; (with_reducible refine (roadbookref02_Fits.calls k ag 1 true _ A7.out).mono ?_); rintro e w' ⟨rfl, ⟨nd, rfl⟩⟩) | (go_at_call 57; (with_reducible refine (roadbookref02_Fits.calls k ai 4 true _ A9.out).mono ?_); rintro e w' ⟨rfl, ⟨nd, rfl⟩⟩) | (go_at_call 57; (with_reducible refine (roadbookref02_Fits.calls k ah 4 true _ iY.out).mono ?_); rintro e w' ⟨rfl, ⟨nd, rfl⟩⟩) | (go_at_call 57; (with_reducible refine (roadbookref02_Fits.calls k aj 4 true _ kl.out).mono ?_); rintro e w' ⟨rfl, ⟨nd, rfl⟩⟩))
          go_ret
          exact ⟨Z6, Z0⟩
        ·replace dQ := Bool.eq_false_iff.mpr dQ
         subst dQ
         replace H := Sq.itF H
         obtain rfl := Option.some.inj H
         go_enter Try.func21, Try.ntmps21
         go_wp2_with (first | ((with_reducible refine Pre.gate_load 25 rfl ?_); (try (refine gate_guard Z14 ?_; dsimp only)); refine Pre.load_event rfl rfl rfl Z14 Z1 Try.underlying25 rfl Z11 ?_) | ((with_reducible refine gate_dst (N := 1) rfl ?_); (try (refine gate_guard Z14 ?_; dsimp only)); refine Sq.box 1 #[.int .i64 aD, .int .i64 aw, .int .i64 ax, .string au, .int .i64 aA, .int .i64 ay, .string av, .int .i64 ar, .int .i64 aC, .string az, .int .i64 ao, .string am, .int .i64 ah, .int .i64 aj, .int .i64 ak, .int .i64 ae, .int .i64 ag, .int .i64 ai, .int .i64 an, .string aa, .string ab, .slice aP ac.length aN, .int .i64 ap, .string aq, .slice aJ af.length aK] 25 ?_; intro aE hg iZ hbox hb; have al := Aside0.mk (hbox); have cd := Aside0.mk (Sq.ge hg Z2); have bV := Aside0.mk (Sq.ge hg Z2); replace HB := Aside0.mk (below_step Z2 hb); clear hb hbox hg; have kn := cells_25 al.out) | (go_at_call 56; (with_reducible refine (roadbookref07_Bare.calls k aD aw ax au aA ay av ar aC az ao am ah aj ak ae ag ai an aa ab _ _ ac ap aq _ _ af true _ ?side1 ?side2 ?side3 ?side4 A3.out).mono ?_); (case side1 => exact Z7); (case side2 => exact aZ.out); (case side3 => exact Z5); (case side4 => exact aT.out); rintro e jN ⟨rfl, hb⟩; replace al := Aside0.mk (blk_below (g := aE) Z3 hb); replace HB := Aside0.mk (below_step Z0 hb); clear hb; have ja := cells_25 al.out) | (go_at_call 57; (with_reducible refine (roadbookref02_Fits.calls k ag 1 true _ A7.out).mono ?_); rintro e w' ⟨rfl, ⟨nd, rfl⟩⟩) | (go_at_call 57; (with_reducible refine (roadbookref02_Fits.calls k ai 4 true _ A9.out).mono ?_); rintro e w' ⟨rfl, ⟨nd, rfl⟩⟩) | (go_at_call 57; (with_reducible refine (roadbookref02_Fits.calls k ah 4 true _ iY.out).mono ?_); rintro e w' ⟨rfl, ⟨nd, rfl⟩⟩) | (go_at_call 57; (with_reducible refine (roadbookref02_Fits.calls k aj 4 false _ kl.out).mono ?_); rintro e w' ⟨rfl, ⟨nd, rfl⟩⟩))
         go_ret
         exact ⟨Z6, Z0⟩
       ·replace dP := Bool.eq_false_iff.mpr dP
        subst dP
        replace H := Sq.itF H
        obtain rfl := Option.some.inj H
        go_enter Try.func21, Try.ntmps21
        go_wp2_with (first | ((with_reducible refine Pre.gate_load 25 rfl ?_); (try (refine gate_guard Z14 ?_; dsimp only)); refine Pre.load_event rfl rfl rfl Z14 Z1 Try.underlying25 rfl Z11 ?_) | ((with_reducible refine gate_dst (N := 1) rfl ?_); (try (refine gate_guard Z14 ?_; dsimp only)); refine Sq.box 1 #[.int .i64 aD, .int .i64 aw, .int .i64 ax, .string au, .int .i64 aA, .int .i64 ay, .string av, .int .i64 ar, .int .i64 aC, .string az, .int .i64 ao, .string am, .int .i64 ah, .int .i64 aj, .int .i64 ak, .int .i64 ae, .int .i64 ag, .int .i64 ai, .int .i64 an, .string aa, .string ab, .slice aP ac.length aN, .int .i64 ap, .string aq, .slice aJ af.length aK] 25 ?_; intro aE hg oK hbox hb; have al := Aside0.mk (hbox); have cd := Aside0.mk (Sq.ge hg Z2); have bV := Aside0.mk (Sq.ge hg Z2); replace HB := Aside0.mk (below_step Z2 hb); clear hb hbox hg; have ij := cells_25 al.out) | (go_at_call 56; (with_reducible refine (roadbookref07_Bare.calls k aD aw ax au aA ay av ar aC az ao am ah aj ak ae ag ai an aa ab _ _ ac ap aq _ _ af true _ ?side1 ?side2 ?side3 ?side4 A3.out).mono ?_); (case side1 => exact Z7); (case side2 => exact aZ.out); (case side3 => exact Z5); (case side4 => exact aT.out); rintro e oL ⟨rfl, hb⟩; replace al := Aside0.mk (blk_below (g := aE) Z3 hb); replace HB := Aside0.mk (below_step Z0 hb); clear hb; have ko := cells_25 al.out) | (go_at_call 57; (with_reducible refine (roadbookref02_Fits.calls k ag 1 true _ A7.out).mono ?_); rintro e w' ⟨rfl, ⟨nd, rfl⟩⟩) | (go_at_call 57; (with_reducible refine (roadbookref02_Fits.calls k ai 4 true _ A9.out).mono ?_); rintro e w' ⟨rfl, ⟨nd, rfl⟩⟩) | (go_at_call 57; (with_reducible refine (roadbookref02_Fits.calls k ah 4 false _ iY.out).mono ?_); rintro e w' ⟨rfl, ⟨nd, rfl⟩⟩))
        go_ret
        exact ⟨Z6, Z0⟩
      ·replace dv := Bool.eq_false_iff.mpr dv
       subst dv
       replace H := Sq.itF H
       obtain rfl := Option.some.inj H
       go_enter Try.func21, Try.ntmps21
       go_wp2_with (first | ((with_reducible refine Pre.gate_load 25 rfl ?_); (try (refine gate_guard Z14 ?_; dsimp only)); refine Pre.load_event rfl rfl rfl Z14 Z1 Try.underlying25 rfl Z11 ?_) | ((with_reducible refine gate_dst (N := 1) rfl ?_); (try (refine gate_guard Z14 ?_; dsimp only)); refine Sq.box 1 #[.int .i64 aD, .int .i64 aw, .int .i64 ax, .string au, .int .i64 aA, .int .i64 ay, .string av, .int .i64 ar, .int .i64 aC, .string az, .int .i64 ao, .string am, .int .i64 ah, .int .i64 aj, .int .i64 ak, .int .i64 ae, .int .i64 ag, .int .i64 ai, .int .i64 an, .string aa, .string ab, .slice aP ac.length aN, .int .i64 ap, .string aq, .slice aJ af.length aK] 25 ?_; intro aE hg w38 hbox hb; have al := Aside0.mk (hbox); have cd := Aside0.mk (Sq.ge hg Z2); have bV := Aside0.mk (Sq.ge hg Z2); replace HB := Aside0.mk (below_step Z2 hb); clear hb hbox hg; have lT := cells_25 al.out) | (go_at_call 56; (with_reducible refine (roadbookref07_Bare.calls k aD aw ax au aA ay av ar aC az ao am ah aj ak ae ag ai an aa ab _ _ ac ap aq _ _ af true _ ?side1 ?side2 ?side3 ?side4 A3.out).mono ?_); (case side1 => exact Z7); (case side2 => exact aZ.out); (case side3 => exact Z5); (case side4 => exact aT.out); rintro e iN ⟨rfl, hb⟩; replace al := Aside0.mk (blk_below (g := aE) Z3 hb); replace HB := Aside0.mk (below_step Z0 hb); clear hb; have hcz41 := cells_25 al.out) | (go_at_call 57; (with_reducible refine (roadbookref02_Fits.calls k ag 1 true _ A7.out).mono ?_); rintro e w' ⟨rfl, ⟨nd, rfl⟩⟩) | (go_at_call 57; (with_reducible refine (roadbookref02_Fits.calls k ai 4 false _ A9.out).mono ?_); rintro e w' ⟨rfl, ⟨nd, rfl⟩⟩))
       go_ret
       exact ⟨Z6, Z0⟩
     ·replace c8 := Bool.eq_false_iff.mpr c8
      subst c8
      replace H := Sq.itF H
      obtain rfl := Option.some.inj H
      go_enter Try.func21, Try.ntmps21
      go_wp2_with (first | ((with_reducible refine Pre.gate_load 25 rfl ?_); (try (refine gate_guard Z14 ?_; dsimp only)); refine Pre.load_event rfl rfl rfl Z14 Z1 Try.underlying25 rfl Z11 ?_) | ((with_reducible refine gate_dst (N := 1) rfl ?_); (try (refine gate_guard Z14 ?_; dsimp only)); refine Sq.box 1 #[.int .i64 aD, .int .i64 aw, .int .i64 ax, .string au, .int .i64 aA, .int .i64 ay, .string av, .int .i64 ar, .int .i64 aC, .string az, .int .i64 ao, .string am, .int .i64 ah, .int .i64 aj, .int .i64 ak, .int .i64 ae, .int .i64 ag, .int .i64 ai, .int .i64 an, .string aa, .string ab, .slice aP ac.length aN, .int .i64 ap, .string aq, .slice aJ af.length aK] 25 ?_; intro aE hg kW hbox hb; have al := Aside0.mk (hbox); have cd := Aside0.mk (Sq.ge hg Z2); have bV := Aside0.mk (Sq.ge hg Z2); replace HB := Aside0.mk (below_step Z2 hb); clear hb hbox hg; have hcz43 := cells_25 al.out) | (go_at_call 56; (with_reducible refine (roadbookref07_Bare.calls k aD aw ax au aA ay av ar aC az ao am ah aj ak ae ag ai an aa ab _ _ ac ap aq _ _ af true _ ?side1 ?side2 ?side3 ?side4 A3.out).mono ?_); (case side1 => exact Z7); (case side2 => exact aZ.out); (case side3 => exact Z5); (case side4 => exact aT.out); rintro e nq ⟨rfl, hb⟩; replace al := Aside0.mk (blk_below (g := aE) Z3 hb); replace HB := Aside0.mk (below_step Z0 hb); clear hb; have hcz45 := cells_25 al.out) | (go_at_call 57; (with_reducible refine (roadbookref02_Fits.calls k ag 1 false _ A7.out).mono ?_); rintro e w' ⟨rfl, ⟨nd, rfl⟩⟩))
      go_ret
      exact ⟨Z6, Z0⟩
    ·rw [if_neg c6] at H
     have dW : decide (ae ≤ 31) = false := decide_eq_false c6
     clear c6
     obtain rfl := Option.some.inj H
     go_enter Try.func21, Try.ntmps21
     go_wp2_with (first | ((with_reducible refine Pre.gate_load 25 rfl ?_); (try (refine gate_guard Z14 ?_; dsimp only)); refine Pre.load_event rfl rfl rfl Z14 Z1 Try.underlying25 rfl Z11 ?_) | ((with_reducible refine gate_dst (N := 1) rfl ?_); (try (refine gate_guard Z14 ?_; dsimp only)); refine Sq.box 1 #[.int .i64 aD, .int .i64 aw, .int .i64 ax, .string au, .int .i64 aA, .int .i64 ay, .string av, .int .i64 ar, .int .i64 aC, .string az, .int .i64 ao, .string am, .int .i64 ah, .int .i64 aj, .int .i64 ak, .int .i64 ae, .int .i64 ag, .int .i64 ai, .int .i64 an, .string aa, .string ab, .slice aP ac.length aN, .int .i64 ap, .string aq, .slice aJ af.length aK] 25 ?_; intro aE hg nA hbox hb; have al := Aside0.mk (hbox); have cd := Aside0.mk (Sq.ge hg Z2); have bV := Aside0.mk (Sq.ge hg Z2); replace HB := Aside0.mk (below_step Z2 hb); clear hb hbox hg; have lU := cells_25 al.out) | (go_at_call 56; (with_reducible refine (roadbookref07_Bare.calls k aD aw ax au aA ay av ar aC az ao am ah aj ak ae ag ai an aa ab _ _ ac ap aq _ _ af true _ ?side1 ?side2 ?side3 ?side4 A3.out).mono ?_); (case side1 => exact Z7); (case side2 => exact aZ.out); (case side3 => exact Z5); (case side4 => exact aT.out); rintro e oW ⟨rfl, hb⟩; replace al := Aside0.mk (blk_below (g := aE) Z3 hb); replace HB := Aside0.mk (below_step Z0 hb); clear hb; have hcz49 := cells_25 al.out))
     go_ret
     exact ⟨Z6, Z0⟩
   ·rw [if_neg c5] at H
    have dx : decide (0 ≤ ae) = false := decide_eq_false c5
    clear c5
    obtain rfl := Option.some.inj H
    go_enter Try.func21, Try.ntmps21
    go_wp2_with (first | ((with_reducible refine Pre.gate_load 25 rfl ?_); (try (refine gate_guard Z14 ?_; dsimp only)); refine Pre.load_event rfl rfl rfl Z14 Z1 Try.underlying25 rfl Z11 ?_) | ((with_reducible refine gate_dst (N := 1) rfl ?_); (try (refine gate_guard Z14 ?_; dsimp only)); refine Sq.box 1 #[.int .i64 aD, .int .i64 aw, .int .i64 ax, .string au, .int .i64 aA, .int .i64 ay, .string av, .int .i64 ar, .int .i64 aC, .string az, .int .i64 ao, .string am, .int .i64 ah, .int .i64 aj, .int .i64 ak, .int .i64 ae, .int .i64 ag, .int .i64 ai, .int .i64 an, .string aa, .string ab, .slice aP ac.length aN, .int .i64 ap, .string aq, .slice aJ af.length aK] 25 ?_; intro aE hg w50 hbox hb; have al := Aside0.mk (hbox); have cd := Aside0.mk (Sq.ge hg Z2); have bV := Aside0.mk (Sq.ge hg Z2); replace HB := Aside0.mk (below_step Z2 hb); clear hb hbox hg; have hcz51 := cells_25 al.out) | (go_at_call 56; (with_reducible refine (roadbookref07_Bare.calls k aD aw ax au aA ay av ar aC az ao am ah aj ak ae ag ai an aa ab _ _ ac ap aq _ _ af true _ ?side1 ?side2 ?side3 ?side4 A3.out).mono ?_); (case side1 => exact Z7); (case side2 => exact aZ.out); (case side3 => exact Z5); (case side4 => exact aT.out); rintro e w52 ⟨rfl, hb⟩; replace al := Aside0.mk (blk_below (g := aE) Z3 hb); replace HB := Aside0.mk (below_step Z0 hb); clear hb; have hcz53 := cells_25 al.out))
    go_ret
    exact ⟨Z6, Z0⟩
  ·replace c4 := Bool.eq_false_iff.mpr c4
   subst c4
   replace H := Sq.itF H
   obtain rfl := Option.some.inj H
   go_enter Try.func21, Try.ntmps21
   go_wp2_with (first | ((with_reducible refine Pre.gate_load 25 rfl ?_); (try (refine gate_guard Z14 ?_; dsimp only)); refine Pre.load_event rfl rfl rfl Z14 Z1 Try.underlying25 rfl Z11 ?_) | ((with_reducible refine gate_dst (N := 1) rfl ?_); (try (refine gate_guard Z14 ?_; dsimp only)); refine Sq.box 1 #[.int .i64 aD, .int .i64 aw, .int .i64 ax, .string au, .int .i64 aA, .int .i64 ay, .string av, .int .i64 ar, .int .i64 aC, .string az, .int .i64 ao, .string am, .int .i64 ah, .int .i64 aj, .int .i64 ak, .int .i64 ae, .int .i64 ag, .int .i64 ai, .int .i64 an, .string aa, .string ab, .slice aP ac.length aN, .int .i64 ap, .string aq, .slice aJ af.length aK] 25 ?_; intro aE hg w54 hbox hb; have al := Aside0.mk (hbox); have cd := Aside0.mk (Sq.ge hg Z2); have bV := Aside0.mk (Sq.ge hg Z2); replace HB := Aside0.mk (below_step Z2 hb); clear hb hbox hg; have hcz55 := cells_25 al.out) | (go_at_call 56; (with_reducible refine (roadbookref07_Bare.calls k aD aw ax au aA ay av ar aC az ao am ah aj ak ae ag ai an aa ab _ _ ac ap aq _ _ af false _ ?side1 ?side2 ?side3 ?side4 A3.out).mono ?_); (case side1 => exact Z7); (case side2 => exact aZ.out); (case side3 => exact Z5); (case side4 => exact aT.out); rintro e w56 ⟨rfl, hb⟩; replace al := Aside0.mk (blk_below (g := aE) Z3 hb); replace HB := Aside0.mk (below_step Z0 hb); clear hb))
   go_ret
   exact ⟨Z6, Z0⟩
 ·rw [if_neg c2] at H
  have fR : (aD == 3) = false := beq_eq_false_iff_ne.mpr c2
  have iX : (aD != 3) = true := bne_iff_ne.mpr c2
  obtain rfl := Option.some.inj H
  go_enter Try.func21, Try.ntmps21
  go_wp2_with (first | ((with_reducible refine Pre.gate_load 25 rfl ?_); (try (refine gate_guard Z14 ?_; dsimp only)); refine Pre.load_event rfl rfl rfl Z14 Z1 Try.underlying25 rfl Z11 ?_) | ((with_reducible refine gate_dst (N := 1) rfl ?_); (try (refine gate_guard Z14 ?_; dsimp only)); refine Sq.box 1 #[.int .i64 aD, .int .i64 aw, .int .i64 ax, .string au, .int .i64 aA, .int .i64 ay, .string av, .int .i64 ar, .int .i64 aC, .string az, .int .i64 ao, .string am, .int .i64 ah, .int .i64 aj, .int .i64 ak, .int .i64 ae, .int .i64 ag, .int .i64 ai, .int .i64 an, .string aa, .string ab, .slice aP ac.length aN, .int .i64 ap, .string aq, .slice aJ af.length aK] 25 ?_; intro aE hg w57 hbox hb; have al := Aside0.mk (hbox); have cd := Aside0.mk (Sq.ge hg Z2); have bV := Aside0.mk (Sq.ge hg Z2); replace HB := Aside0.mk (below_step Z2 hb); clear hb hbox hg; have hcz58 := cells_25 al.out))
  go_ret
  exact ⟨Z6, Z0⟩

/-! ### roadbookref16_Right: function 29 -/
mutual
def roadbookref16_Right.j0 : Nat → Bool → Int → Int → Int → ByteArray → Int → Int → ByteArray → Int → Int → ByteArray → Int → ByteArray → Int → Int → Int → Int → Int → Int → Int → ByteArray → ByteArray → List (S46) → Int → ByteArray → List (S48) → Option (Bool)
 | 0, _, _, _, _, _, _, _, _, _, _, _, _, _, _, _, _, _, _, _, _, _, _, _, _, _, _ => none
 | k + 1, oY, bq, bI, bJ, bK, bL, bM, bN, br, bO, bP, bQ, bD, bs, bA, bv, bo, bu, bB, bE, bw, bx, bf, bF, bG, bj => if oY = true then (some false) else (roadbookref16_Right.l0 k 0 bq bI bJ bK bL bM bN br bO bP bQ bD bs bA bv bo bu bB bE bw bx bf bF bG bj)
def roadbookref16_Right.l0 : Nat → Int → Int → Int → Int → ByteArray → Int → Int → ByteArray → Int → Int → ByteArray → Int → ByteArray → Int → Int → Int → Int → Int → Int → Int → ByteArray → ByteArray → List (S46) → Int → ByteArray → List (S48) → Option (Bool)
 | 0, _, _, _, _, _, _, _, _, _, _, _, _, _, _, _, _, _, _, _, _, _, _, _, _, _, _ => none
 | k + 1, x3, bq, bI, bJ, bK, bL, bM, bN, br, bO, bP, bQ, bD, bs, bA, bv, bo, bu, bB, bE, bw, bx, bf, bF, bG, bj => if x3 < (bf.length : Int) then (if 0 ≤ x3 then (if (((rd_T46 bf x3).f0).size : Int) = 4 then ((roadbookref02_Fits.f k ((rd_T46 bf x3).f1) 4).bind fun aW => (if aW = true then (roadbookref16_Right.l0 k (wrap64 (x3 + 1)) bq bI bJ bK bL bM bN br bO bP bQ bD bs bA bv bo bu bB bE bw bx bf bF bG bj) else (some false))) else (some false)) else (none)) else (some true)
end
def roadbookref16_Right.f (k : Nat) (aD : Int) (aw : Int) (ax : Int) (au : ByteArray) (aA : Int) (ay : Int) (av : ByteArray) (ar : Int) (aC : Int) (az : ByteArray) (ao : Int) (am : ByteArray) (ah : Int) (aj : Int) (ak : Int) (ae : Int) (ag : Int) (ai : Int) (an : Int) (aa : ByteArray) (ab : ByteArray) (ac : List (S46)) (ap : Int) (aq : ByteArray) (af : List (S48)) : Option (Bool) := if aD = 5 then ((roadbookref07_Bare.f k aD aw ax au aA ay av ar aC az ao am ah aj ak ae ag ai an aa ab ac ap aq af).bind fun aU => (if aU = true then (if ae < 0 then (roadbookref16_Right.j0 k true aD aw ax au aA ay av ar aC az ao am ah aj ak ae ag ai an aa ab ac ap aq af) else (if ae > 1 then (roadbookref16_Right.j0 k true aD aw ax au aA ay av ar aC az ao am ah aj ak ae ag ai an aa ab ac ap aq af) else (if (ac.length : Int) < 1 then (roadbookref16_Right.j0 k true aD aw ax au aA ay av ar aC az ao am ah aj ak ae ag ai an aa ab ac ap aq af) else (if (ac.length : Int) > 255 then (roadbookref16_Right.j0 k true aD aw ax au aA ay av ar aC az ao am ah aj ak ae ag ai an aa ab ac ap aq af) else ((roadbookref13_Right.f k af).bind fun aY => (roadbookref16_Right.j0 k (!aY) aD aw ax au aA ay av ar aC az ao am ah aj ak ae ag ai an aa ab ac ap aq af)))))) else (roadbookref16_Right.j0 k true aD aw ax au aA ay av ar aC az ao am ah aj ak ae ag ai an aa ab ac ap aq af))) else (roadbookref16_Right.j0 k true aD aw ax au aA ay av ar aC az ao am ah aj ak ae ag ai an aa ab ac ap aq af)
theorem roadbookref16_Right.mono_l : ∀ k, (∀ y0 y1 y2 y3 y4 y5 y6 y7 y8 y9 er es et eu ev ew ex ey ez eA eB eC eD eE eF eG, LeO (roadbookref16_Right.j0 k y0 y1 y2 y3 y4 y5 y6 y7 y8 y9 er es et eu ev ew ex ey ez eA eB eC eD eE eF eG) (roadbookref16_Right.j0 (k + 1) y0 y1 y2 y3 y4 y5 y6 y7 y8 y9 er es et eu ev ew ex ey ez eA eB eC eD eE eF eG)) ∧ (∀ y0 y1 y2 y3 y4 y5 y6 y7 y8 y9 er es et eu ev ew ex ey ez eA eB eC eD eE eF eG, LeO (roadbookref16_Right.l0 k y0 y1 y2 y3 y4 y5 y6 y7 y8 y9 er es et eu ev ew ex ey ez eA eB eC eD eE eF eG) (roadbookref16_Right.l0 (k + 1) y0 y1 y2 y3 y4 y5 y6 y7 y8 y9 er es et eu ev ew ex ey ez eA eB eC eD eE eF eG))
 | 0 => ⟨Sq.mz, Sq.mz⟩
 | k + 1 => by
  obtain ⟨ih0, ih1⟩ := roadbookref16_Right.mono_l k
  refine ⟨?_, ?_⟩
  ·intros
   unfold roadbookref16_Right.j0
   have m0 := roadbookref02_Fits.mono
   have m1 := roadbookref07_Bare.mono
   have m2 := roadbookref13_Right.mono
   exact Sq.mo
  ·intros
   unfold roadbookref16_Right.l0
   have m0 := roadbookref02_Fits.mono
   have m1 := roadbookref07_Bare.mono
   have m2 := roadbookref13_Right.mono
   exact Sq.mo
theorem roadbookref16_Right.mono : ∀ a0 a1 a2 a3 a4 a5 a6 a7 a8 a9 dY dZ ea eb ec ed ee ef eg eh ei ej ek el em k, LeO (roadbookref16_Right.f k a0 a1 a2 a3 a4 a5 a6 a7 a8 a9 dY dZ ea eb ec ed ee ef eg eh ei ej ek el em) (roadbookref16_Right.f (k + 1) a0 a1 a2 a3 a4 a5 a6 a7 a8 a9 dY dZ ea eb ec ed ee ef eg eh ei ej ek el em) := by
 intros
 rename_i k
 obtain ⟨ih0, ih1⟩ := roadbookref16_Right.mono_l k
 unfold roadbookref16_Right.f
 have m0 := roadbookref02_Fits.mono
 have m1 := roadbookref07_Bare.mono
 have m2 := roadbookref13_Right.mono
 exact Sq.mo

set_option maxHeartbeats 8000000 in
set_option maxRecDepth 100000 in
theorem roadbookref16_Right.calls (k : Nat) (aD : Int) (aw : Int) (ax : Int) (au : ByteArray) (aA : Int) (ay : Int) (av : ByteArray) (ar : Int) (aC : Int) (az : ByteArray) (ao : Int) (am : ByteArray) (ah : Int) (aj : Int) (ak : Int) (ae : Int) (ag : Int) (ai : Int) (an : Int) (aa : ByteArray) (ab : ByteArray) (aP : Option Addr) (aN : Nat) (ac : List (S46)) (ap : Int) (aq : ByteArray) (aJ : Option Addr) (aK : Nat) (af : List (S48)) (r : Bool) (w : World) (bk : Kd.C k46 w aP ac.length ac) (bl : ac.length ≤ aN) (bm : Kd.C k48 w aJ af.length af) (bn : af.length ≤ aK) (h : roadbookref16_Right.f k aD aw ax au aA ay av ar aC az ao am ah aj ak ae ag ai an aa ab ac ap aq af = some r) :
  Calls Try.prog 29 #[.agg #[.int .i64 aD, .int .i64 aw, .int .i64 ax, .string au, .int .i64 aA, .int .i64 ay, .string av, .int .i64 ar, .int .i64 aC, .string az, .int .i64 ao, .string am, .int .i64 ah, .int .i64 aj, .int .i64 ak, .int .i64 ae, .int .i64 ag, .int .i64 ai, .int .i64 an, .string aa, .string ab, .slice aP ac.length aN, .int .i64 ap, .string aq, .slice aJ af.length aK]] w fun e w' => e = .returned (.bool r) ∧ Below w.heap.size w w' := by
 have dM := Try.underlying25
 have cc := Aside0.mk bk
 have aZ := Aside0.mk bl
 clear bk bl
 have bZ := Aside0.mk bm
 have aT := Aside0.mk bn
 clear bm bn
 have HB := Aside0.mk (Below.refl w.heap.size w)
 have H : (if aD = 5 then ((roadbookref07_Bare.f k aD aw ax au aA ay av ar aC az ao am ah aj ak ae ag ai an aa ab ac ap aq af).bind fun aU => (if aU = true then (if ae < 0 then (roadbookref16_Right.j0 k true aD aw ax au aA ay av ar aC az ao am ah aj ak ae ag ai an aa ab ac ap aq af) else (if ae > 1 then (roadbookref16_Right.j0 k true aD aw ax au aA ay av ar aC az ao am ah aj ak ae ag ai an aa ab ac ap aq af) else (if (ac.length : Int) < 1 then (roadbookref16_Right.j0 k true aD aw ax au aA ay av ar aC az ao am ah aj ak ae ag ai an aa ab ac ap aq af) else (if (ac.length : Int) > 255 then (roadbookref16_Right.j0 k true aD aw ax au aA ay av ar aC az ao am ah aj ak ae ag ai an aa ab ac ap aq af) else ((roadbookref13_Right.f k af).bind fun aY => (roadbookref16_Right.j0 k (!aY) aD aw ax au aA ay av ar aC az ao am ah aj ak ae ag ai an aa ab ac ap aq af)))))) else (roadbookref16_Right.j0 k true aD aw ax au aA ay av ar aC az ao am ah aj ak ae ag ai an aa ab ac ap aq af))) else (roadbookref16_Right.j0 k true aD aw ax au aA ay av ar aC az ao am ah aj ak ae ag ai an aa ab ac ap aq af)) = some r := h
 clear h
 have fT := Aside0.mk H
 clear H
 go_enter Try.func29, Try.ntmps29
 go_upto_region 1 with (first | ((with_reducible refine Pre.gate_load 25 rfl ?_); (try (refine gate_guard Z14 ?_; dsimp only)); refine Pre.load_event rfl rfl rfl Z14 Z1 Try.underlying25 rfl Z11 ?_) | ((with_reducible refine Pre.gate_load 25 rfl ?_); (try (refine gate_guard Z14 ?_; dsimp only)); refine Pre.load_event_a rfl rfl rfl Z14 Pre.range25 Try.underlying25 rfl Z11 ?_) | ((with_reducible refine gate_dst (N := 1) rfl ?_); (try (refine gate_guard Z14 ?_; dsimp only)); refine Sq.box 1 #[.int .i64 aD, .int .i64 aw, .int .i64 ax, .string au, .int .i64 aA, .int .i64 ay, .string av, .int .i64 ar, .int .i64 aC, .string az, .int .i64 ao, .string am, .int .i64 ah, .int .i64 aj, .int .i64 ak, .int .i64 ae, .int .i64 ag, .int .i64 ai, .int .i64 an, .string aa, .string ab, .slice aP ac.length aN, .int .i64 ap, .string aq, .slice aJ af.length aK] 25 ?_; intro aE hg w3 hbox hb; have al := Aside0.mk (hbox); have cd := Aside0.mk (Sq.ge hg Z2); have bV := Aside0.mk (Sq.ge hg Z2); replace HB := Aside0.mk (below_step Z2 hb); clear hb hbox hg))
 (try simp only [Act.put, Sq.s1, Sq.s2, Sq.s3])
 go_cut [39] (fun oZ wc => ∃ (kq : Nat) (ix : Bool), oZ = .bool ix ∧ Aside0 (roadbookref16_Right.j0 kq ix aD aw ax au aA ay av ar aC az ao am ah aj ak ae ag ai an aa ab ac ap aq af = some r) ∧ Aside0 (kq ≤ k) ∧ Aside0 (wc.heap[aE]? = some (.cells #[.int .i64 aD, .int .i64 aw, .int .i64 ax, .string au, .int .i64 aA, .int .i64 ay, .string av, .int .i64 ar, .int .i64 aC, .string az, .int .i64 ao, .string am, .int .i64 ah, .int .i64 aj, .int .i64 ak, .int .i64 ae, .int .i64 ag, .int .i64 ai, .int .i64 an, .string aa, .string ab, (.slice aP ac.length aN), .int .i64 ap, .string aq, (.slice aJ af.length aK)] 25 (0, 0))) ∧ Aside0 (Below w.heap.size w wc))
 case first =>
  have H := fT.out
  clear fT
  by_cases c4 : aD = 5
  ·rw [if_pos c4] at H
   have cf : (aD == 5) = true := beq_iff_eq.mpr c4
   have fd : (aD != 5) = false := bne_eq_false_iff_eq.mpr c4
   clear c4
   (first | rw [cf] | (simp only [i64_w, i32_w]; rw [cf]) | skip)
   replace H := Option.bind_eq_some_iff.mp H
   obtain ⟨aU, iy, H⟩ := H
   replace H : (if aU = true then (if ae < 0 then (roadbookref16_Right.j0 k true aD aw ax au aA ay av ar aC az ao am ah aj ak ae ag ai an aa ab ac ap aq af) else (if ae > 1 then (roadbookref16_Right.j0 k true aD aw ax au aA ay av ar aC az ao am ah aj ak ae ag ai an aa ab ac ap aq af) else (if (ac.length : Int) < 1 then (roadbookref16_Right.j0 k true aD aw ax au aA ay av ar aC az ao am ah aj ak ae ag ai an aa ab ac ap aq af) else (if (ac.length : Int) > 255 then (roadbookref16_Right.j0 k true aD aw ax au aA ay av ar aC az ao am ah aj ak ae ag ai an aa ab ac ap aq af) else ((roadbookref13_Right.f k af).bind fun aY => (roadbookref16_Right.j0 k (!aY) aD aw ax au aA ay av ar aC az ao am ah aj ak ae ag ai an aa ab ac ap aq af)))))) else (roadbookref16_Right.j0 k true aD aw ax au aA ay av ar aC az ao am ah aj ak ae ag ai an aa ab ac ap aq af)) = some r := H
   have A5 := Aside0.mk iy
   clear iy
   by_cases c6 : aU = true
   ·subst c6
    replace H := Sq.itT H
    by_cases c7 : ae < 0
    ·rw [if_pos c7] at H
     have dT : decide (ae < 0) = true := decide_eq_true c7
     clear c7
     have H' := Aside0.mk H
     clear H
     have iK := cells_25 al.out
     go_wp2_with (first | ((with_reducible refine Pre.gate_load 25 rfl ?_); (try (refine gate_guard Z14 ?_; dsimp only)); refine Pre.load_event rfl rfl rfl Z14 Z1 Try.underlying25 rfl Z11 ?_) | ((with_reducible refine Pre.gate_load 25 rfl ?_); (try (refine gate_guard Z14 ?_; dsimp only)); refine Pre.load_event_a rfl rfl rfl Z14 Pre.range25 Try.underlying25 rfl Z11 ?_) | (go_at_call 56; (with_reducible refine (roadbookref07_Bare.calls k aD aw ax au aA ay av ar aC az ao am ah aj ak ae ag ai an aa ab _ _ ac ap aq _ _ af true _ ?side1 ?side2 ?side3 ?side4 A5.out).mono ?_); (case side1 => exact Z7); (case side2 => exact aZ.out); (case side3 => exact Z5); (case side4 => exact aT.out); rintro e w9 ⟨rfl, hb⟩; replace al := Aside0.mk (blk_below (g := aE) Z3 hb); replace HB := Aside0.mk (below_step Z0 hb); clear hb; have fL := cells_25 al.out))
     go_meet
     case rel => exact ⟨_, (true), Z10, H', ⟨Z20⟩, ⟨Z3⟩, ⟨Z0⟩⟩
    ·rw [if_neg c7] at H
     have dT : decide (ae < 0) = false := decide_eq_false c7
     clear c7
     by_cases dC : ae > 1
     ·rw [if_pos dC] at H
      have fg : decide (1 < ae) = true := decide_eq_true dC
      clear dC
      have H' := Aside0.mk H
      clear H
      have gs := cells_25 al.out
      go_wp2_with (first | ((with_reducible refine Pre.gate_load 25 rfl ?_); (try (refine gate_guard Z14 ?_; dsimp only)); refine Pre.load_event rfl rfl rfl Z14 Z1 Try.underlying25 rfl Z11 ?_) | ((with_reducible refine Pre.gate_load 25 rfl ?_); (try (refine gate_guard Z14 ?_; dsimp only)); refine Pre.load_event_a rfl rfl rfl Z14 Pre.range25 Try.underlying25 rfl Z11 ?_) | (go_at_call 56; (with_reducible refine (roadbookref07_Bare.calls k aD aw ax au aA ay av ar aC az ao am ah aj ak ae ag ai an aa ab _ _ ac ap aq _ _ af true _ ?side1 ?side2 ?side3 ?side4 A5.out).mono ?_); (case side1 => exact Z7); (case side2 => exact aZ.out); (case side3 => exact Z5); (case side4 => exact aT.out); rintro e hS ⟨rfl, hb⟩; replace al := Aside0.mk (blk_below (g := aE) Z3 hb); replace HB := Aside0.mk (below_step Z0 hb); clear hb; have gO := cells_25 al.out))
      go_meet
      case rel => exact ⟨_, (true), Z10, H', ⟨Z20⟩, ⟨Z3⟩, ⟨Z0⟩⟩
     ·rw [if_neg dC] at H
      have fg : decide (1 < ae) = false := decide_eq_false dC
      clear dC
      by_cases dA : (ac.length : Int) < 1
      ·rw [if_pos dA] at H
       have fv : decide ((ac.length : Int) < 1) = true := decide_eq_true dA
       have fw : decide (ac.length < 1) = true := decide_eq_true Z29
       clear dA
       have H' := Aside0.mk H
       clear H
       have io := cells_25 al.out
       go_wp2_with (first | ((with_reducible refine Pre.gate_load 25 rfl ?_); (try (refine gate_guard Z14 ?_; dsimp only)); refine Pre.load_event rfl rfl rfl Z14 Z1 Try.underlying25 rfl Z11 ?_) | ((with_reducible refine Pre.gate_load 25 rfl ?_); (try (refine gate_guard Z14 ?_; dsimp only)); refine Pre.load_event_a rfl rfl rfl Z14 Pre.range25 Try.underlying25 rfl Z11 ?_) | (go_at_call 56; (with_reducible refine (roadbookref07_Bare.calls k aD aw ax au aA ay av ar aC az ao am ah aj ak ae ag ai an aa ab _ _ ac ap aq _ _ af true _ ?side1 ?side2 ?side3 ?side4 A5.out).mono ?_); (case side1 => exact Z7); (case side2 => exact aZ.out); (case side3 => exact Z5); (case side4 => exact aT.out); rintro e ip ⟨rfl, hb⟩; replace al := Aside0.mk (blk_below (g := aE) Z3 hb); replace HB := Aside0.mk (below_step Z0 hb); clear hb; have hJ := cells_25 al.out))
       go_meet
       case rel => exact ⟨_, (true), Z10, H', ⟨Z20⟩, ⟨Z3⟩, ⟨Z0⟩⟩
      ·rw [if_neg dA] at H
       have fv : decide ((ac.length : Int) < 1) = false := decide_eq_false dA
       have fw : decide (ac.length < 1) = false := decide_eq_false Z29
       clear dA
       by_cases eN : (ac.length : Int) > 255
       ·rw [if_pos eN] at H
        have fz : decide (255 < (ac.length : Int)) = true := decide_eq_true eN
        have gM : decide (255 < ac.length) = true := decide_eq_true Z29
        clear eN
        have H' := Aside0.mk H
        clear H
        have iw := cells_25 al.out
        go_wp2_with (first | ((with_reducible refine Pre.gate_load 25 rfl ?_); (try (refine gate_guard Z14 ?_; dsimp only)); refine Pre.load_event rfl rfl rfl Z14 Z1 Try.underlying25 rfl Z11 ?_) | ((with_reducible refine Pre.gate_load 25 rfl ?_); (try (refine gate_guard Z14 ?_; dsimp only)); refine Pre.load_event_a rfl rfl rfl Z14 Pre.range25 Try.underlying25 rfl Z11 ?_) | (go_at_call 56; (with_reducible refine (roadbookref07_Bare.calls k aD aw ax au aA ay av ar aC az ao am ah aj ak ae ag ai an aa ab _ _ ac ap aq _ _ af true _ ?side1 ?side2 ?side3 ?side4 A5.out).mono ?_); (case side1 => exact Z7); (case side2 => exact aZ.out); (case side3 => exact Z5); (case side4 => exact aT.out); rintro e kY ⟨rfl, hb⟩; replace al := Aside0.mk (blk_below (g := aE) Z3 hb); replace HB := Aside0.mk (below_step Z0 hb); clear hb; have hP := cells_25 al.out))
        go_meet
        case rel => exact ⟨_, (true), Z10, H', ⟨Z20⟩, ⟨Z3⟩, ⟨Z0⟩⟩
       ·rw [if_neg eN] at H
        have fz : decide (255 < (ac.length : Int)) = false := decide_eq_false eN
        have gM : decide (255 < ac.length) = false := decide_eq_false Z29
        clear eN
        replace H := Option.bind_eq_some_iff.mp H
        obtain ⟨aY, jp, H⟩ := H
        replace H : (roadbookref16_Right.j0 k (!aY) aD aw ax au aA ay av ar aC az ao am ah aj ak ae ag ai an aa ab ac ap aq af) = some r := H
        have lm := Aside0.mk jp
        clear jp
        have H' := Aside0.mk H
        clear H
        have jy := cells_25 al.out
        go_wp2_with (first | ((with_reducible refine Pre.gate_load 25 rfl ?_); (try (refine gate_guard Z14 ?_; dsimp only)); refine Pre.load_event rfl rfl rfl Z14 Z1 Try.underlying25 rfl Z11 ?_) | ((with_reducible refine Pre.gate_load 25 rfl ?_); (try (refine gate_guard Z14 ?_; dsimp only)); refine Pre.load_event_a rfl rfl rfl Z14 Pre.range25 Try.underlying25 rfl Z11 ?_) | (go_at_call 56; (with_reducible refine (roadbookref07_Bare.calls k aD aw ax au aA ay av ar aC az ao am ah aj ak ae ag ai an aa ab _ _ ac ap aq _ _ af true _ ?side1 ?side2 ?side3 ?side4 A5.out).mono ?_); (case side1 => exact Z7); (case side2 => exact aZ.out); (case side3 => exact Z5); (case side4 => exact aT.out); rintro e hX ⟨rfl, hb⟩; replace al := Aside0.mk (blk_below (g := aE) Z3 hb); replace HB := Aside0.mk (below_step Z0 hb); clear hb; have gC := cells_25 al.out) | (go_at_call 58; (with_reducible refine (roadbookref13_Right.calls k _ _ af aY _ ?side1 ?side2 lm.out).mono ?_); (case side1 => exact Z5); (case side2 => exact aT.out); rintro e w' ⟨rfl, ⟨nd, rfl⟩⟩))
        go_meet
        case rel => exact ⟨_, (!aY), Z10, H', ⟨Z20⟩, ⟨Z3⟩, ⟨Z0⟩⟩
   ·replace c6 := Bool.eq_false_iff.mpr c6
    subst c6
    replace H := Sq.itF H
    have H' := Aside0.mk H
    clear H
    have hz := cells_25 al.out
    go_wp2_with (first | ((with_reducible refine Pre.gate_load 25 rfl ?_); (try (refine gate_guard Z14 ?_; dsimp only)); refine Pre.load_event rfl rfl rfl Z14 Z1 Try.underlying25 rfl Z11 ?_) | ((with_reducible refine Pre.gate_load 25 rfl ?_); (try (refine gate_guard Z14 ?_; dsimp only)); refine Pre.load_event_a rfl rfl rfl Z14 Pre.range25 Try.underlying25 rfl Z11 ?_) | (go_at_call 56; (with_reducible refine (roadbookref07_Bare.calls k aD aw ax au aA ay av ar aC az ao am ah aj ak ae ag ai an aa ab _ _ ac ap aq _ _ af false _ ?side1 ?side2 ?side3 ?side4 A5.out).mono ?_); (case side1 => exact Z7); (case side2 => exact aZ.out); (case side3 => exact Z5); (case side4 => exact aT.out); rintro e lS ⟨rfl, hb⟩; replace al := Aside0.mk (blk_below (g := aE) Z3 hb); replace HB := Aside0.mk (below_step Z0 hb); clear hb))
    go_meet
    case rel => exact ⟨_, (true), Z10, H', ⟨Z20⟩, ⟨Z3⟩, ⟨Z0⟩⟩
  ·rw [if_neg c4] at H
   have cf : (aD == 5) = false := beq_eq_false_iff_ne.mpr c4
   have fd : (aD != 5) = true := bne_iff_ne.mpr c4
   (first | rw [cf] | (simp only [i64_w, i32_w]; rw [cf]) | skip)
   have H' := Aside0.mk H
   clear H
   have gK := cells_25 al.out
   go_wp2_with (first | ((with_reducible refine Pre.gate_load 25 rfl ?_); (try (refine gate_guard Z14 ?_; dsimp only)); refine Pre.load_event rfl rfl rfl Z14 Z1 Try.underlying25 rfl Z11 ?_) | ((with_reducible refine Pre.gate_load 25 rfl ?_); (try (refine gate_guard Z14 ?_; dsimp only)); refine Pre.load_event_a rfl rfl rfl Z14 Pre.range25 Try.underlying25 rfl Z11 ?_))
   go_meet
   case rel => exact ⟨_, (true), Z10, H', ⟨Z20⟩, ⟨Z3⟩, ⟨Z0⟩⟩
 case rest =>
  clear fT
  try clear c2
  try clear lf
  obtain ⟨kq, ix, rfl, HA, hT, al, HB⟩ := hcut
  cases kq with
  | zero => exact absurd HA.out (by simp [roadbookref16_Right.j0])
  | succ kj1 =>
   have H := HA.out
   clear HA
   simp only [roadbookref16_Right.j0] at H
   by_cases iP : ix = true
   ·subst iP
    replace H := Sq.itT H
    obtain rfl := Option.some.inj H
    go_wp2_with (first | ((with_reducible refine Pre.gate_load 25 rfl ?_); (try (refine gate_guard Z14 ?_; dsimp only)); refine Pre.load_event rfl rfl rfl Z14 Z1 Try.underlying25 rfl Z11 ?_) | ((with_reducible refine Pre.gate_load 25 rfl ?_); (try (refine gate_guard Z14 ?_; dsimp only)); refine Pre.load_event_a rfl rfl rfl Z14 Pre.range25 Try.underlying25 rfl Z11 ?_))
    go_ret
    exact ⟨Z6, Z0⟩
   ·replace iP := Bool.eq_false_iff.mpr iP
    subst iP
    replace H := Sq.itF H
    have H' := Aside0.mk H
    clear H
    go_wp2_with (first | ((with_reducible refine Pre.gate_load 25 rfl ?_); (try (refine gate_guard Z14 ?_; dsimp only)); refine Pre.load_event rfl rfl rfl Z14 Z1 Try.underlying25 rfl Z11 ?_) | ((with_reducible refine Pre.gate_load 25 rfl ?_); (try (refine gate_guard Z14 ?_; dsimp only)); refine Pre.load_event_a rfl rfl rfl Z14 Pre.range25 Try.underlying25 rfl Z11 ?_))
    go_loopg [3] kj1 (fun kq v3 w' => ∃ (cz : Int), v3 = .int .i64 cz ∧ Aside0 (roadbookref16_Right.l0 kq cz aD aw ax au aA ay av ar aC az ao am ah aj ak ae ag ai an aa ab ac ap aq af = some r) ∧ Aside0 (kq ≤ kj1) ∧ Aside0 (w'.heap[aE]? = some (.cells #[.int .i64 aD, .int .i64 aw, .int .i64 ax, .string au, .int .i64 aA, .int .i64 ay, .string av, .int .i64 ar, .int .i64 aC, .string az, .int .i64 ao, .string am, .int .i64 ah, .int .i64 aj, .int .i64 ak, .int .i64 ae, .int .i64 ag, .int .i64 ai, .int .i64 an, .string aa, .string ab, (.slice aP ac.length aN), .int .i64 ap, .string aq, (.slice aJ af.length aK)] 25 (0, 0))) ∧ Aside0 (Below w.heap.size w w'))
    case atStart => exact ⟨(0), Z10, H', ⟨Nat.le_refl _⟩, ⟨Z3⟩, ⟨Z0⟩⟩
    case round =>
     clear H'
     try clear c2
     try clear p2
     try clear c3
     try clear c4
     try clear cf
     try clear fd
     try clear c6
     try clear c7
     try clear lf
     try clear iP
     try clear hz
     try clear gK
     obtain ⟨cz, rfl, HA, HK2, al, HB⟩ := hrel
     cases gk with
     | zero => exact absurd HA.out (by simp [roadbookref16_Right.l0])
     | succ k2 =>
      have H := HA.out
      clear HA
      simp only [roadbookref16_Right.l0] at H
      by_cases hm : cz < (ac.length : Int)
      ·rw [if_pos hm] at H
       have iz : decide (cz < (ac.length : Int)) = true := decide_eq_true hm
       clear hm
       by_cases iA : 0 ≤ cz
       ·rw [if_pos iA] at H
        have kC : decide (0 ≤ cz) = true := decide_eq_true iA
        clear iA
        by_cases iQ : (((rd_T46 ac cz).f0).size : Int) = 4
        ·rw [if_pos iQ] at H
         have kD : ((((rd_T46 ac cz).f0).size : Int) == 4) = true := beq_iff_eq.mpr iQ
         have ms : ((((rd_T46 ac cz).f0).size : Int) != 4) = false := bne_eq_false_iff_eq.mpr iQ
         clear iQ
         replace H := Option.bind_eq_some_iff.mp H
         obtain ⟨aW, mt, H⟩ := H
         replace H : (if aW = true then (roadbookref16_Right.l0 k2 (wrap64 (cz + 1)) aD aw ax au aA ay av ar aC az ao am ah aj ak ae ag ai an aa ab ac ap aq af) else (some false)) = some r := H
         have oN := Aside0.mk mt
         clear mt
         by_cases nr : aW = true
         ·subst nr
          replace H := Sq.itT H
          have H' := Aside0.mk H
          clear H
          have ku := cells_25 al.out
          have p104 : 0 ≤ (cz : Int) := of_decide_eq_true Z8
          have q104 : cz < (ac.length : Int) := of_decide_eq_true Z8
          obtain ⟨ad104, e104, hx104_0, hx104_1⟩ := at_T46 cc.out cz p104 q104
          cases e104
          replace hx104_0 := Sq.up HB.out hx104_0
          replace hx104_1 := Sq.up HB.out hx104_1
          replace p104 := eq_true p104
          replace q104 := eq_true q104
          have p105 : 0 ≤ (cz : Int) := of_decide_eq_true Z8
          have q105 : cz < (ac.length : Int) := of_decide_eq_true Z8
          obtain ⟨ad105, e105, hx105_0, hx105_1⟩ := at_T46 cc.out cz p105 q105
          obtain rfl : ad104 = ad105 := (by injection e105)
          replace hx105_0 := Sq.up HB.out hx105_0
          replace hx105_1 := Sq.up HB.out hx105_1
          replace p105 := eq_true p105
          replace q105 := eq_true q105
          go_wp2_with (first | ((with_reducible refine Pre.gate_load 25 rfl ?_); (try (refine gate_guard Z14 ?_; dsimp only)); refine Pre.load_event rfl rfl rfl Z14 Z1 Try.underlying25 rfl Z11 ?_) | ((with_reducible refine Pre.gate_load 25 rfl ?_); (try (refine gate_guard Z14 ?_; dsimp only)); refine Pre.load_event_a rfl rfl rfl Z14 Pre.range25 Try.underlying25 rfl Z11 ?_) | (go_at_call 57; (with_reducible refine (roadbookref02_Fits.calls k2 ((rd_T46 ac cz).f1) 4 true _ oN.out).mono ?_); rintro e w' ⟨rfl, ⟨nd, rfl⟩⟩))
          go_roundg k2
          case measure => have := hT.out; have := HK2.out; omega
          case rel => exact ⟨(wrap64 (cz + 1)), Z10, H', ⟨by have := hT.out; have := HK2.out; omega⟩, ⟨Z3⟩, ⟨Z0⟩⟩
         ·replace nr := Bool.eq_false_iff.mpr nr
          subst nr
          replace H := Sq.itF H
          obtain rfl := Option.some.inj H
          have ko := cells_25 al.out
          have p104 : 0 ≤ (cz : Int) := of_decide_eq_true Z8
          have q104 : cz < (ac.length : Int) := of_decide_eq_true Z8
          obtain ⟨ad104, e104, hx104_0, hx104_1⟩ := at_T46 cc.out cz p104 q104
          cases e104
          replace hx104_0 := Sq.up HB.out hx104_0
          replace hx104_1 := Sq.up HB.out hx104_1
          replace p104 := eq_true p104
          replace q104 := eq_true q104
          have p105 : 0 ≤ (cz : Int) := of_decide_eq_true Z8
          have q105 : cz < (ac.length : Int) := of_decide_eq_true Z8
          obtain ⟨ad105, e105, hx105_0, hx105_1⟩ := at_T46 cc.out cz p105 q105
          obtain rfl : ad104 = ad105 := (by injection e105)
          replace hx105_0 := Sq.up HB.out hx105_0
          replace hx105_1 := Sq.up HB.out hx105_1
          replace p105 := eq_true p105
          replace q105 := eq_true q105
          go_wp2_with (first | ((with_reducible refine Pre.gate_load 25 rfl ?_); (try (refine gate_guard Z14 ?_; dsimp only)); refine Pre.load_event rfl rfl rfl Z14 Z1 Try.underlying25 rfl Z11 ?_) | ((with_reducible refine Pre.gate_load 25 rfl ?_); (try (refine gate_guard Z14 ?_; dsimp only)); refine Pre.load_event_a rfl rfl rfl Z14 Pre.range25 Try.underlying25 rfl Z11 ?_) | (go_at_call 57; (with_reducible refine (roadbookref02_Fits.calls k2 ((rd_T46 ac cz).f1) 4 false _ oN.out).mono ?_); rintro e w' ⟨rfl, ⟨nd, rfl⟩⟩))
          go_ret
          exact ⟨Z6, Z0⟩
        ·rw [if_neg iQ] at H
         have kD : ((((rd_T46 ac cz).f0).size : Int) == 4) = false := beq_eq_false_iff_ne.mpr iQ
         have ms : ((((rd_T46 ac cz).f0).size : Int) != 4) = true := bne_iff_ne.mpr iQ
         obtain rfl := Option.some.inj H
         have mu := cells_25 al.out
         have p104 : 0 ≤ (cz : Int) := of_decide_eq_true Z8
         have q104 : cz < (ac.length : Int) := of_decide_eq_true Z8
         obtain ⟨ad104, e104, hx104_0, hx104_1⟩ := at_T46 cc.out cz p104 q104
         cases e104
         replace hx104_0 := Sq.up HB.out hx104_0
         replace hx104_1 := Sq.up HB.out hx104_1
         replace p104 := eq_true p104
         replace q104 := eq_true q104
         go_wp2_with (first | ((with_reducible refine Pre.gate_load 25 rfl ?_); (try (refine gate_guard Z14 ?_; dsimp only)); refine Pre.load_event rfl rfl rfl Z14 Z1 Try.underlying25 rfl Z11 ?_) | ((with_reducible refine Pre.gate_load 25 rfl ?_); (try (refine gate_guard Z14 ?_; dsimp only)); refine Pre.load_event_a rfl rfl rfl Z14 Pre.range25 Try.underlying25 rfl Z11 ?_))
         go_ret
         exact ⟨Z6, Z0⟩
       ·rw [if_neg iA] at H
        exact absurd H Z35
      ·rw [if_neg hm] at H
       have iz : decide (cz < (ac.length : Int)) = false := decide_eq_false hm
       clear hm
       obtain rfl := Option.some.inj H
       have lT := cells_25 al.out
       go_wp2_with (first | ((with_reducible refine Pre.gate_load 25 rfl ?_); (try (refine gate_guard Z14 ?_; dsimp only)); refine Pre.load_event rfl rfl rfl Z14 Z1 Try.underlying25 rfl Z11 ?_) | ((with_reducible refine Pre.gate_load 25 rfl ?_); (try (refine gate_guard Z14 ?_; dsimp only)); refine Pre.load_event_a rfl rfl rfl Z14 Pre.range25 Try.underlying25 rfl Z11 ?_))
       go_ret
       exact ⟨Z6, Z0⟩

/-! ### roadbookref15_Right: function 37 -/
def roadbookref15_Right.j0 : Nat → Bool → Int → Int → Int → ByteArray → Int → Int → ByteArray → Int → Int → ByteArray → Int → ByteArray → Int → Int → Int → Int → Int → Int → Int → ByteArray → ByteArray → List (S46) → Int → ByteArray → List (S48) → Option (Bool)
 | 0, _, _, _, _, _, _, _, _, _, _, _, _, _, _, _, _, _, _, _, _, _, _, _, _, _, _ => none
 | k + 1, jh, bq, bI, bJ, bK, bL, bM, bN, br, bO, bP, bQ, bD, bs, bA, bv, bo, bu, bB, bE, bw, bx, bf, bF, bG, bj => if jh = true then (some false) else (if bq = 6 then (some true) else (if bq = 4 then (if bo ≥ 0 then (if bo ≤ 3 then (if br ≥ 0 then (if br ≤ 31 then ((roadbookref02_Fits.f k bu 1).bind fun bg => (if bg = true then ((roadbookref02_Fits.f k bs 4).bind fun bH => (if bH = true then ((roadbookref02_Fits.f k bv 4).bind fun aW => (if aW = true then (if (bw.size : Int) = 4 then (some ((bx.size : Int) == 4)) else (some false)) else (some false))) else (some false))) else (some false))) else (some false)) else (some false)) else (some false)) else (some false)) else (some false)))
def roadbookref15_Right.f (k : Nat) (aD : Int) (aw : Int) (ax : Int) (au : ByteArray) (aA : Int) (ay : Int) (av : ByteArray) (ar : Int) (aC : Int) (az : ByteArray) (ao : Int) (am : ByteArray) (ah : Int) (aj : Int) (ak : Int) (ae : Int) (ag : Int) (ai : Int) (an : Int) (aa : ByteArray) (ab : ByteArray) (ac : List (S46)) (ap : Int) (aq : ByteArray) (af : List (S48)) : Option (Bool) := (roadbookref07_Bare.f k aD aw ax au aA ay av ar aC az ao am ah aj ak ae ag ai an aa ab ac ap aq af).bind fun aU => (if aU = true then ((roadbookref13_Right.f k af).bind fun aY => (roadbookref15_Right.j0 k (!aY) aD aw ax au aA ay av ar aC az ao am ah aj ak ae ag ai an aa ab ac ap aq af)) else (roadbookref15_Right.j0 k true aD aw ax au aA ay av ar aC az ao am ah aj ak ae ag ai an aa ab ac ap aq af))
theorem roadbookref15_Right.mono_l : ∀ k, (∀ y0 y1 y2 y3 y4 y5 y6 y7 y8 y9 er es et eu ev ew ex ey ez eA eB eC eD eE eF eG, LeO (roadbookref15_Right.j0 k y0 y1 y2 y3 y4 y5 y6 y7 y8 y9 er es et eu ev ew ex ey ez eA eB eC eD eE eF eG) (roadbookref15_Right.j0 (k + 1) y0 y1 y2 y3 y4 y5 y6 y7 y8 y9 er es et eu ev ew ex ey ez eA eB eC eD eE eF eG))
 | 0 => Sq.mz
 | k + 1 => by
  have ih0 := roadbookref15_Right.mono_l k
  ·intros
   unfold roadbookref15_Right.j0
   have m0 := roadbookref02_Fits.mono
   have m1 := roadbookref07_Bare.mono
   have m2 := roadbookref13_Right.mono
   exact Sq.mo
theorem roadbookref15_Right.mono : ∀ a0 a1 a2 a3 a4 a5 a6 a7 a8 a9 dY dZ ea eb ec ed ee ef eg eh ei ej ek el em k, LeO (roadbookref15_Right.f k a0 a1 a2 a3 a4 a5 a6 a7 a8 a9 dY dZ ea eb ec ed ee ef eg eh ei ej ek el em) (roadbookref15_Right.f (k + 1) a0 a1 a2 a3 a4 a5 a6 a7 a8 a9 dY dZ ea eb ec ed ee ef eg eh ei ej ek el em) := by
 intro a0 a1 a2 a3 a4 a5 a6 a7 a8 a9 dY dZ ea eb ec ed ee ef eg eh ei ej ek el em k
 have ih0 := roadbookref15_Right.mono_l k
 unfold roadbookref15_Right.f
 have m0 := roadbookref02_Fits.mono
 have m1 := roadbookref07_Bare.mono
 have m2 := roadbookref13_Right.mono
 exact Sq.mo

set_option maxHeartbeats 8000000 in
set_option maxRecDepth 100000 in
theorem roadbookref15_Right.calls (k : Nat) (aD : Int) (aw : Int) (ax : Int) (au : ByteArray) (aA : Int) (ay : Int) (av : ByteArray) (ar : Int) (aC : Int) (az : ByteArray) (ao : Int) (am : ByteArray) (ah : Int) (aj : Int) (ak : Int) (ae : Int) (ag : Int) (ai : Int) (an : Int) (aa : ByteArray) (ab : ByteArray) (aP : Option Addr) (aN : Nat) (ac : List (S46)) (ap : Int) (aq : ByteArray) (aJ : Option Addr) (aK : Nat) (af : List (S48)) (r : Bool) (w : World) (bk : Kd.C k46 w aP ac.length ac) (bl : ac.length ≤ aN) (bm : Kd.C k48 w aJ af.length af) (bn : af.length ≤ aK) (h : roadbookref15_Right.f k aD aw ax au aA ay av ar aC az ao am ah aj ak ae ag ai an aa ab ac ap aq af = some r) :
  Calls Try.prog 37 #[.agg #[.int .i64 aD, .int .i64 aw, .int .i64 ax, .string au, .int .i64 aA, .int .i64 ay, .string av, .int .i64 ar, .int .i64 aC, .string az, .int .i64 ao, .string am, .int .i64 ah, .int .i64 aj, .int .i64 ak, .int .i64 ae, .int .i64 ag, .int .i64 ai, .int .i64 an, .string aa, .string ab, .slice aP ac.length aN, .int .i64 ap, .string aq, .slice aJ af.length aK]] w fun e w' => e = .returned (.bool r) ∧ Below w.heap.size w w' := by
 have dM := Try.underlying25
 have cc := Aside0.mk bk
 have aZ := Aside0.mk bl
 clear bk bl
 have bZ := Aside0.mk bm
 have aT := Aside0.mk bn
 clear bm bn
 have HB := Aside0.mk (Below.refl w.heap.size w)
 have H : ((roadbookref07_Bare.f k aD aw ax au aA ay av ar aC az ao am ah aj ak ae ag ai an aa ab ac ap aq af).bind fun aU => (if aU = true then ((roadbookref13_Right.f k af).bind fun aY => (roadbookref15_Right.j0 k (!aY) aD aw ax au aA ay av ar aC az ao am ah aj ak ae ag ai an aa ab ac ap aq af)) else (roadbookref15_Right.j0 k true aD aw ax au aA ay av ar aC az ao am ah aj ak ae ag ai an aa ab ac ap aq af))) = some r := h
 clear h
 have fT := Aside0.mk H
 clear H
 go_enter Try.func37, Try.ntmps37
 go_upto_region 1 with (first | ((with_reducible refine Pre.gate_load 25 rfl ?_); (try (refine gate_guard Z14 ?_; dsimp only)); refine Pre.load_event rfl rfl rfl Z14 Z1 Try.underlying25 rfl Z11 ?_) | ((with_reducible refine gate_dst (N := 1) rfl ?_); (try (refine gate_guard Z14 ?_; dsimp only)); refine Sq.box 1 #[.int .i64 aD, .int .i64 aw, .int .i64 ax, .string au, .int .i64 aA, .int .i64 ay, .string av, .int .i64 ar, .int .i64 aC, .string az, .int .i64 ao, .string am, .int .i64 ah, .int .i64 aj, .int .i64 ak, .int .i64 ae, .int .i64 ag, .int .i64 ai, .int .i64 an, .string aa, .string ab, .slice aP ac.length aN, .int .i64 ap, .string aq, .slice aJ af.length aK] 25 ?_; intro aE hg w3 hbox hb; have al := Aside0.mk (hbox); have cd := Aside0.mk (Sq.ge hg Z2); have bV := Aside0.mk (Sq.ge hg Z2); replace HB := Aside0.mk (below_step Z2 hb); clear hb hbox hg))
 (try simp only [Act.put, Sq.s1, Sq.s2, Sq.s3])
 go_cut [11] (fun iq wc => ∃ (kq : Nat) (ce : Bool), iq = .bool ce ∧ Aside0 (roadbookref15_Right.j0 kq ce aD aw ax au aA ay av ar aC az ao am ah aj ak ae ag ai an aa ab ac ap aq af = some r) ∧ Aside0 (kq ≤ k) ∧ Aside0 (wc.heap[aE]? = some (.cells #[.int .i64 aD, .int .i64 aw, .int .i64 ax, .string au, .int .i64 aA, .int .i64 ay, .string av, .int .i64 ar, .int .i64 aC, .string az, .int .i64 ao, .string am, .int .i64 ah, .int .i64 aj, .int .i64 ak, .int .i64 ae, .int .i64 ag, .int .i64 ai, .int .i64 an, .string aa, .string ab, (.slice aP ac.length aN), .int .i64 ap, .string aq, (.slice aJ af.length aK)] 25 (0, 0))) ∧ Aside0 (Below w.heap.size w wc))
 case first =>
  have H := fT.out
  clear fT
  replace H := Option.bind_eq_some_iff.mp H
  obtain ⟨aU, gl, H⟩ := H
  replace H : (if aU = true then ((roadbookref13_Right.f k af).bind fun aY => (roadbookref15_Right.j0 k (!aY) aD aw ax au aA ay av ar aC az ao am ah aj ak ae ag ai an aa ab ac ap aq af)) else (roadbookref15_Right.j0 k true aD aw ax au aA ay av ar aC az ao am ah aj ak ae ag ai an aa ab ac ap aq af)) = some r := H
  have A4 := Aside0.mk gl
  clear gl
  by_cases c5 : aU = true
  ·subst c5
   replace H := Sq.itT H
   replace H := Option.bind_eq_some_iff.mp H
   obtain ⟨aY, hD, H⟩ := H
   replace H : (roadbookref15_Right.j0 k (!aY) aD aw ax au aA ay av ar aC az ao am ah aj ak ae ag ai an aa ab ac ap aq af) = some r := H
   have A6 := Aside0.mk hD
   clear hD
   have H' := Aside0.mk H
   clear H
   have iI := cells_25 al.out
   go_wp2_with (first | ((with_reducible refine Pre.gate_load 25 rfl ?_); (try (refine gate_guard Z14 ?_; dsimp only)); refine Pre.load_event rfl rfl rfl Z14 Z1 Try.underlying25 rfl Z11 ?_) | ((with_reducible refine gate_callee (f := 56) rfl ?_); refine goesL_ (some 4) rfl rfl Try.func56 Z11 rfl #[.agg #[.int .i64 aD, .int .i64 aw, .int .i64 ax, .string au, .int .i64 aA, .int .i64 ay, .string av, .int .i64 ar, .int .i64 aC, .string az, .int .i64 ao, .string am, .int .i64 ah, .int .i64 aj, .int .i64 ak, .int .i64 ae, .int .i64 ag, .int .i64 ai, .int .i64 an, .string aa, .string ab, .slice aP ac.length aN, .int .i64 ap, .string aq, .slice aJ af.length aK]] rfl Z4 ?_; (with_reducible refine (roadbookref07_Bare.calls k aD aw ax au aA ay av ar aC az ao am ah aj ak ae ag ai an aa ab _ _ ac ap aq _ _ af true _ ?side1 ?side2 ?side3 ?side4 A4.out).mono ?_); (case side1 => exact Z7); (case side2 => exact aZ.out); (case side3 => exact Z5); (case side4 => exact aT.out); rintro e w8 ⟨rfl, hb⟩; refine ⟨_, rfl, ?_⟩; replace al := Aside0.mk (blk_below (g := aE) Z3 hb); replace HB := Aside0.mk (below_step Z0 hb); clear hb; have ji := cells_25 al.out) | (go_at_call 58; (with_reducible refine (roadbookref13_Right.calls k _ _ af aY _ ?side1 ?side2 A6.out).mono ?_); (case side1 => exact Z5); (case side2 => exact aT.out); rintro e w' ⟨rfl, ⟨nd, rfl⟩⟩))
   go_meet
   case rel => exact ⟨_, (!aY), Z10, H', ⟨Z20⟩, ⟨Z3⟩, ⟨Z0⟩⟩
  ·replace c5 := Bool.eq_false_iff.mpr c5
   subst c5
   replace H := Sq.itF H
   have H' := Aside0.mk H
   clear H
   have fL := cells_25 al.out
   go_wp2_with (first | ((with_reducible refine Pre.gate_load 25 rfl ?_); (try (refine gate_guard Z14 ?_; dsimp only)); refine Pre.load_event rfl rfl rfl Z14 Z1 Try.underlying25 rfl Z11 ?_) | ((with_reducible refine gate_callee (f := 56) rfl ?_); refine goesL_ (some 4) rfl rfl Try.func56 Z11 rfl #[.agg #[.int .i64 aD, .int .i64 aw, .int .i64 ax, .string au, .int .i64 aA, .int .i64 ay, .string av, .int .i64 ar, .int .i64 aC, .string az, .int .i64 ao, .string am, .int .i64 ah, .int .i64 aj, .int .i64 ak, .int .i64 ae, .int .i64 ag, .int .i64 ai, .int .i64 an, .string aa, .string ab, .slice aP ac.length aN, .int .i64 ap, .string aq, .slice aJ af.length aK]] rfl Z4 ?_; (with_reducible refine (roadbookref07_Bare.calls k aD aw ax au aA ay av ar aC az ao am ah aj ak ae ag ai an aa ab _ _ ac ap aq _ _ af false _ ?side1 ?side2 ?side3 ?side4 A4.out).mono ?_); (case side1 => exact Z7); (case side2 => exact aZ.out); (case side3 => exact Z5); (case side4 => exact aT.out); rintro e kt ⟨rfl, hb⟩; refine ⟨_, rfl, ?_⟩; replace al := Aside0.mk (blk_below (g := aE) Z3 hb); replace HB := Aside0.mk (below_step Z0 hb); clear hb))
   go_meet
   case rel => exact ⟨_, (true), Z10, H', ⟨Z20⟩, ⟨Z3⟩, ⟨Z0⟩⟩
 case rest =>
  clear fT
  try clear c3
  obtain ⟨kq, ce, rfl, HA, hT, al, HB⟩ := hcut
  cases kq with
  | zero => exact absurd HA.out (by simp [roadbookref15_Right.j0])
  | succ kj1 =>
   have H := HA.out
   clear HA
   simp only [roadbookref15_Right.j0] at H
   by_cases dP : ce = true
   ·subst dP
    replace H := Sq.itT H
    obtain rfl := Option.some.inj H
    go_wp2_with (first | ((with_reducible refine Pre.gate_load 25 rfl ?_); (try (refine gate_guard Z14 ?_; dsimp only)); refine Pre.load_event rfl rfl rfl Z14 Z1 Try.underlying25 rfl Z11 ?_))
    go_ret
    exact ⟨Z6, Z0⟩
   ·replace dP := Bool.eq_false_iff.mpr dP
    subst dP
    replace H := Sq.itF H
    by_cases dB : aD = 6
    ·rw [if_pos dB] at H
     have fK : (aD == 6) = true := beq_iff_eq.mpr dB
     have gN : (aD != 6) = false := bne_eq_false_iff_eq.mpr dB
     clear dB
     obtain rfl := Option.some.inj H
     have gO := cells_25 al.out
     go_wp2_with (first | ((with_reducible refine Pre.gate_load 25 rfl ?_); (try (refine gate_guard Z14 ?_; dsimp only)); refine Pre.load_event rfl rfl rfl Z14 Z1 Try.underlying25 rfl Z11 ?_))
     go_ret
     exact ⟨Z6, Z0⟩
    ·rw [if_neg dB] at H
     have fK : (aD == 6) = false := beq_eq_false_iff_ne.mpr dB
     have gN : (aD != 6) = true := bne_iff_ne.mpr dB
     by_cases dA : aD = 4
     ·rw [if_pos dA] at H
      have fv : (aD == 4) = true := beq_iff_eq.mpr dA
      have fw : (aD != 4) = false := bne_eq_false_iff_eq.mpr dA
      clear dA
      by_cases dy : ae ≥ 0
      ·rw [if_pos dy] at H
       have eP : decide (0 ≤ ae) = true := decide_eq_true dy
       clear dy
       by_cases eM : ae ≤ 3
       ·rw [if_pos eM] at H
        have fW : decide (ae ≤ 3) = true := decide_eq_true eM
        clear eM
        by_cases ep : ar ≥ 0
        ·rw [if_pos ep] at H
         have fy : decide (0 ≤ ar) = true := decide_eq_true ep
         clear ep
         by_cases eN : ar ≤ 31
         ·rw [if_pos eN] at H
          have fz : decide (ar ≤ 31) = true := decide_eq_true eN
          clear eN
          replace H := Option.bind_eq_some_iff.mp H
          obtain ⟨bg, hC, H⟩ := H
          replace H : (if bg = true then ((roadbookref02_Fits.f kj1 ah 4).bind fun bH => (if bH = true then ((roadbookref02_Fits.f kj1 ak 4).bind fun aW => (if aW = true then (if (aa.size : Int) = 4 then (some ((ab.size : Int) == 4)) else (some false)) else (some false))) else (some false))) else (some false)) = some r := H
          have dL := Aside0.mk hC
          clear hC
          by_cases dE : bg = true
          ·subst dE
           replace H := Sq.itT H
           replace H := Option.bind_eq_some_iff.mp H
           obtain ⟨bH, jj, H⟩ := H
           replace H : (if bH = true then ((roadbookref02_Fits.f kj1 ak 4).bind fun aW => (if aW = true then (if (aa.size : Int) = 4 then (some ((ab.size : Int) == 4)) else (some false)) else (some false))) else (some false)) = some r := H
           have ll := Aside0.mk jj
           clear jj
           by_cases jU : bH = true
           ·subst jU
            replace H := Sq.itT H
            replace H := Option.bind_eq_some_iff.mp H
            obtain ⟨aW, jk, H⟩ := H
            replace H : (if aW = true then (if (aa.size : Int) = 4 then (some ((ab.size : Int) == 4)) else (some false)) else (some false)) = some r := H
            have dN := Aside0.mk jk
            clear jk
            by_cases hU : aW = true
            ·subst hU
             replace H := Sq.itT H
             by_cases iO : (aa.size : Int) = 4
             ·rw [if_pos iO] at H
              have lY : ((aa.size : Int) == 4) = true := beq_iff_eq.mpr iO
              have lZ : ((aa.size : Int) != 4) = false := bne_eq_false_iff_eq.mpr iO
              clear iO
              obtain rfl := Option.some.inj H
              have hz := cells_25 al.out
              go_wp2_with (first | ((with_reducible refine Pre.gate_load 25 rfl ?_); (try (refine gate_guard Z14 ?_; dsimp only)); refine Pre.load_event rfl rfl rfl Z14 Z1 Try.underlying25 rfl Z11 ?_) | (go_at_call 57; (with_reducible refine (roadbookref02_Fits.calls kj1 ag 1 true _ dL.out).mono ?_); rintro e w' ⟨rfl, ⟨nd, rfl⟩⟩) | (go_at_call 57; (with_reducible refine (roadbookref02_Fits.calls kj1 ah 4 true _ ll.out).mono ?_); rintro e w' ⟨rfl, ⟨nd, rfl⟩⟩) | (go_at_call 57; (with_reducible refine (roadbookref02_Fits.calls kj1 ak 4 true _ dN.out).mono ?_); rintro e w' ⟨rfl, ⟨nd, rfl⟩⟩))
              go_ret
              exact ⟨Z6, Z0⟩
             ·rw [if_neg iO] at H
              have lY : ((aa.size : Int) == 4) = false := beq_eq_false_iff_ne.mpr iO
              have lZ : ((aa.size : Int) != 4) = true := bne_iff_ne.mpr iO
              obtain rfl := Option.some.inj H
              have ir := cells_25 al.out
              go_wp2_with (first | ((with_reducible refine Pre.gate_load 25 rfl ?_); (try (refine gate_guard Z14 ?_; dsimp only)); refine Pre.load_event rfl rfl rfl Z14 Z1 Try.underlying25 rfl Z11 ?_) | (go_at_call 57; (with_reducible refine (roadbookref02_Fits.calls kj1 ag 1 true _ dL.out).mono ?_); rintro e w' ⟨rfl, ⟨nd, rfl⟩⟩) | (go_at_call 57; (with_reducible refine (roadbookref02_Fits.calls kj1 ah 4 true _ ll.out).mono ?_); rintro e w' ⟨rfl, ⟨nd, rfl⟩⟩) | (go_at_call 57; (with_reducible refine (roadbookref02_Fits.calls kj1 ak 4 true _ dN.out).mono ?_); rintro e w' ⟨rfl, ⟨nd, rfl⟩⟩))
              go_ret
              exact ⟨Z6, Z0⟩
            ·replace hU := Bool.eq_false_iff.mpr hU
             subst hU
             replace H := Sq.itF H
             obtain rfl := Option.some.inj H
             have gK := cells_25 al.out
             go_wp2_with (first | ((with_reducible refine Pre.gate_load 25 rfl ?_); (try (refine gate_guard Z14 ?_; dsimp only)); refine Pre.load_event rfl rfl rfl Z14 Z1 Try.underlying25 rfl Z11 ?_) | (go_at_call 57; (with_reducible refine (roadbookref02_Fits.calls kj1 ag 1 true _ dL.out).mono ?_); rintro e w' ⟨rfl, ⟨nd, rfl⟩⟩) | (go_at_call 57; (with_reducible refine (roadbookref02_Fits.calls kj1 ah 4 true _ ll.out).mono ?_); rintro e w' ⟨rfl, ⟨nd, rfl⟩⟩) | (go_at_call 57; (with_reducible refine (roadbookref02_Fits.calls kj1 ak 4 false _ dN.out).mono ?_); rintro e w' ⟨rfl, ⟨nd, rfl⟩⟩))
             go_ret
             exact ⟨Z6, Z0⟩
           ·replace jU := Bool.eq_false_iff.mpr jU
            subst jU
            replace H := Sq.itF H
            obtain rfl := Option.some.inj H
            have iu := cells_25 al.out
            go_wp2_with (first | ((with_reducible refine Pre.gate_load 25 rfl ?_); (try (refine gate_guard Z14 ?_; dsimp only)); refine Pre.load_event rfl rfl rfl Z14 Z1 Try.underlying25 rfl Z11 ?_) | (go_at_call 57; (with_reducible refine (roadbookref02_Fits.calls kj1 ag 1 true _ dL.out).mono ?_); rintro e w' ⟨rfl, ⟨nd, rfl⟩⟩) | (go_at_call 57; (with_reducible refine (roadbookref02_Fits.calls kj1 ah 4 false _ ll.out).mono ?_); rintro e w' ⟨rfl, ⟨nd, rfl⟩⟩))
            go_ret
            exact ⟨Z6, Z0⟩
          ·replace dE := Bool.eq_false_iff.mpr dE
           subst dE
           replace H := Sq.itF H
           obtain rfl := Option.some.inj H
           have kn := cells_25 al.out
           go_wp2_with (first | ((with_reducible refine Pre.gate_load 25 rfl ?_); (try (refine gate_guard Z14 ?_; dsimp only)); refine Pre.load_event rfl rfl rfl Z14 Z1 Try.underlying25 rfl Z11 ?_) | (go_at_call 57; (with_reducible refine (roadbookref02_Fits.calls kj1 ag 1 false _ dL.out).mono ?_); rintro e w' ⟨rfl, ⟨nd, rfl⟩⟩))
           go_ret
           exact ⟨Z6, Z0⟩
         ·rw [if_neg eN] at H
          have fz : decide (ar ≤ 31) = false := decide_eq_false eN
          clear eN
          obtain rfl := Option.some.inj H
          have ma := cells_25 al.out
          go_wp2_with (first | ((with_reducible refine Pre.gate_load 25 rfl ?_); (try (refine gate_guard Z14 ?_; dsimp only)); refine Pre.load_event rfl rfl rfl Z14 Z1 Try.underlying25 rfl Z11 ?_))
          go_ret
          exact ⟨Z6, Z0⟩
        ·rw [if_neg ep] at H
         have fy : decide (0 ≤ ar) = false := decide_eq_false ep
         clear ep
         obtain rfl := Option.some.inj H
         have ja := cells_25 al.out
         go_wp2_with (first | ((with_reducible refine Pre.gate_load 25 rfl ?_); (try (refine gate_guard Z14 ?_; dsimp only)); refine Pre.load_event rfl rfl rfl Z14 Z1 Try.underlying25 rfl Z11 ?_))
         go_ret
         exact ⟨Z6, Z0⟩
       ·rw [if_neg eM] at H
        have fW : decide (ae ≤ 3) = false := decide_eq_false eM
        clear eM
        obtain rfl := Option.some.inj H
        have mb := cells_25 al.out
        go_wp2_with (first | ((with_reducible refine Pre.gate_load 25 rfl ?_); (try (refine gate_guard Z14 ?_; dsimp only)); refine Pre.load_event rfl rfl rfl Z14 Z1 Try.underlying25 rfl Z11 ?_))
        go_ret
        exact ⟨Z6, Z0⟩
      ·rw [if_neg dy] at H
       have eP : decide (0 ≤ ae) = false := decide_eq_false dy
       clear dy
       obtain rfl := Option.some.inj H
       have ij := cells_25 al.out
       go_wp2_with (first | ((with_reducible refine Pre.gate_load 25 rfl ?_); (try (refine gate_guard Z14 ?_; dsimp only)); refine Pre.load_event rfl rfl rfl Z14 Z1 Try.underlying25 rfl Z11 ?_))
       go_ret
       exact ⟨Z6, Z0⟩
     ·rw [if_neg dA] at H
      have fv : (aD == 4) = false := beq_eq_false_iff_ne.mpr dA
      have fw : (aD != 4) = true := bne_iff_ne.mpr dA
      obtain rfl := Option.some.inj H
      have ku := cells_25 al.out
      go_wp2_with (first | ((with_reducible refine Pre.gate_load 25 rfl ?_); (try (refine gate_guard Z14 ?_; dsimp only)); refine Pre.load_event rfl rfl rfl Z14 Z1 Try.underlying25 rfl Z11 ?_))
      go_ret
      exact ⟨Z6, Z0⟩

/-! ### roadbookref17_Right: function 46 -/
def roadbookref17_Right.f (k : Nat) (aD : Int) (aw : Int) (ax : Int) (au : ByteArray) (aA : Int) (ay : Int) (av : ByteArray) (ar : Int) (aC : Int) (az : ByteArray) (ao : Int) (am : ByteArray) (ah : Int) (aj : Int) (ak : Int) (ae : Int) (ag : Int) (ai : Int) (an : Int) (aa : ByteArray) (ab : ByteArray) (ac : List (S46)) (ap : Int) (aq : ByteArray) (af : List (S48)) : Option (Bool) := (roadbookref14_Right.f k aD aw ax au aA ay av ar aC az ao am ah aj ak ae ag ai an aa ab ac ap aq af).bind fun aU => (if aU = true then (some true) else ((roadbookref15_Right.f k aD aw ax au aA ay av ar aC az ao am ah aj ak ae ag ai an aa ab ac ap aq af).bind fun aY => (if aY = true then (some true) else ((roadbookref16_Right.f k aD aw ax au aA ay av ar aC az ao am ah aj ak ae ag ai an aa ab ac ap aq af).bind fun bg => (some bg)))))
theorem roadbookref17_Right.mono : ∀ a0 a1 a2 a3 a4 a5 a6 a7 a8 a9 dY dZ ea eb ec ed ee ef eg eh ei ej ek el em k, LeO (roadbookref17_Right.f k a0 a1 a2 a3 a4 a5 a6 a7 a8 a9 dY dZ ea eb ec ed ee ef eg eh ei ej ek el em) (roadbookref17_Right.f (k + 1) a0 a1 a2 a3 a4 a5 a6 a7 a8 a9 dY dZ ea eb ec ed ee ef eg eh ei ej ek el em) := by
 intros
 rename_i k
 unfold roadbookref17_Right.f
 have m0 := roadbookref14_Right.mono
 have m1 := roadbookref15_Right.mono
 have m2 := roadbookref16_Right.mono
 exact Sq.mo

set_option maxHeartbeats 8000000 in
set_option maxRecDepth 100000 in
theorem roadbookref17_Right.calls (k : Nat) (aD : Int) (aw : Int) (ax : Int) (au : ByteArray) (aA : Int) (ay : Int) (av : ByteArray) (ar : Int) (aC : Int) (az : ByteArray) (ao : Int) (am : ByteArray) (ah : Int) (aj : Int) (ak : Int) (ae : Int) (ag : Int) (ai : Int) (an : Int) (aa : ByteArray) (ab : ByteArray) (aP : Option Addr) (aN : Nat) (ac : List (S46)) (ap : Int) (aq : ByteArray) (aJ : Option Addr) (aK : Nat) (af : List (S48)) (r : Bool) (w : World) (bk : Kd.C k46 w aP ac.length ac) (bl : ac.length ≤ aN) (bm : Kd.C k48 w aJ af.length af) (bn : af.length ≤ aK) (h : roadbookref17_Right.f k aD aw ax au aA ay av ar aC az ao am ah aj ak ae ag ai an aa ab ac ap aq af = some r) :
  Calls Try.prog 46 #[.agg #[.int .i64 aD, .int .i64 aw, .int .i64 ax, .string au, .int .i64 aA, .int .i64 ay, .string av, .int .i64 ar, .int .i64 aC, .string az, .int .i64 ao, .string am, .int .i64 ah, .int .i64 aj, .int .i64 ak, .int .i64 ae, .int .i64 ag, .int .i64 ai, .int .i64 an, .string aa, .string ab, .slice aP ac.length aN, .int .i64 ap, .string aq, .slice aJ af.length aK]] w fun e w' => e = .returned (.bool r) ∧ Below w.heap.size w w' := by
 have dM := Try.underlying25
 have cc := Aside0.mk bk
 have aZ := Aside0.mk bl
 clear bk bl
 have bZ := Aside0.mk bm
 have aT := Aside0.mk bn
 clear bm bn
 have HB := Aside0.mk (Below.refl w.heap.size w)
 have H : ((roadbookref14_Right.f k aD aw ax au aA ay av ar aC az ao am ah aj ak ae ag ai an aa ab ac ap aq af).bind fun aU => (if aU = true then (some true) else ((roadbookref15_Right.f k aD aw ax au aA ay av ar aC az ao am ah aj ak ae ag ai an aa ab ac ap aq af).bind fun aY => (if aY = true then (some true) else ((roadbookref16_Right.f k aD aw ax au aA ay av ar aC az ao am ah aj ak ae ag ai an aa ab ac ap aq af).bind fun bg => (some bg)))))) = some r := h
 clear h
 replace H := Option.bind_eq_some_iff.mp H
 obtain ⟨aU, dL, H⟩ := H
 replace H : (if aU = true then (some true) else ((roadbookref15_Right.f k aD aw ax au aA ay av ar aC az ao am ah aj ak ae ag ai an aa ab ac ap aq af).bind fun aY => (if aY = true then (some true) else ((roadbookref16_Right.f k aD aw ax au aA ay av ar aC az ao am ah aj ak ae ag ai an aa ab ac ap aq af).bind fun bg => (some bg))))) = some r := H
 have A2 := Aside0.mk dL
 clear dL
 by_cases c3 : aU = true
 ·subst c3
  replace H := Sq.itT H
  obtain rfl := Option.some.inj H
  go_enter Try.func46, Try.ntmps46
  go_wp2_with (first | ((with_reducible refine Pre.gate_load 25 rfl ?_); (try (refine gate_guard Z14 ?_; dsimp only)); refine Pre.load_event rfl rfl rfl Z14 Z1 Try.underlying25 rfl Z11 ?_) | ((with_reducible refine gate_dst (N := 1) rfl ?_); refine Sq.box 1 #[.int .i64 aD, .int .i64 aw, .int .i64 ax, .string au, .int .i64 aA, .int .i64 ay, .string av, .int .i64 ar, .int .i64 aC, .string az, .int .i64 ao, .string am, .int .i64 ah, .int .i64 aj, .int .i64 ak, .int .i64 ae, .int .i64 ag, .int .i64 ai, .int .i64 an, .string aa, .string ab, .slice aP ac.length aN, .int .i64 ap, .string aq, .slice aJ af.length aK] 25 ?_; intro aE hg w4 hbox hb; have al := Aside0.mk (hbox); have cd := Aside0.mk (Sq.ge hg Z2); have bV := Aside0.mk (Sq.ge hg Z2); replace HB := Aside0.mk (below_step Z2 hb); clear hb hbox hg; have hh := cells_25 al.out) | ((with_reducible refine gate_callee (f := 21) rfl ?_); refine goesL_ (some 4) rfl rfl Try.func21 Z11 rfl #[.agg #[.int .i64 aD, .int .i64 aw, .int .i64 ax, .string au, .int .i64 aA, .int .i64 ay, .string av, .int .i64 ar, .int .i64 aC, .string az, .int .i64 ao, .string am, .int .i64 ah, .int .i64 aj, .int .i64 ak, .int .i64 ae, .int .i64 ag, .int .i64 ai, .int .i64 an, .string aa, .string ab, .slice aP ac.length aN, .int .i64 ap, .string aq, .slice aJ af.length aK]] rfl Z4 ?_; (with_reducible refine (roadbookref14_Right.calls k aD aw ax au aA ay av ar aC az ao am ah aj ak ae ag ai an aa ab _ _ ac ap aq _ _ af true _ ?side1 ?side2 ?side3 ?side4 A2.out).mono ?_); (case side1 => exact Z7); (case side2 => exact aZ.out); (case side3 => exact Z5); (case side4 => exact aT.out); rintro e w6 ⟨rfl, hb⟩; refine ⟨_, rfl, ?_⟩; replace al := Aside0.mk (blk_below (g := aE) Z3 hb); replace HB := Aside0.mk (below_step Z0 hb); clear hb))
  go_ret
  exact ⟨Z6, Z0⟩
 ·replace c3 := Bool.eq_false_iff.mpr c3
  subst c3
  replace H := Sq.itF H
  replace H := Option.bind_eq_some_iff.mp H
  obtain ⟨aY, ie, H⟩ := H
  replace H : (if aY = true then (some true) else ((roadbookref16_Right.f k aD aw ax au aA ay av ar aC az ao am ah aj ak ae ag ai an aa ab ac ap aq af).bind fun bg => (some bg))) = some r := H
  have A7 := Aside0.mk ie
  clear ie
  by_cases c8 : aY = true
  ·subst c8
   replace H := Sq.itT H
   obtain rfl := Option.some.inj H
   go_enter Try.func46, Try.ntmps46
   go_wp2_with (first | ((with_reducible refine Pre.gate_load 25 rfl ?_); (try (refine gate_guard Z14 ?_; dsimp only)); refine Pre.load_event rfl rfl rfl Z14 Z1 Try.underlying25 rfl Z11 ?_) | ((with_reducible refine gate_dst (N := 1) rfl ?_); refine Sq.box 1 #[.int .i64 aD, .int .i64 aw, .int .i64 ax, .string au, .int .i64 aA, .int .i64 ay, .string av, .int .i64 ar, .int .i64 aC, .string az, .int .i64 ao, .string am, .int .i64 ah, .int .i64 aj, .int .i64 ak, .int .i64 ae, .int .i64 ag, .int .i64 ai, .int .i64 an, .string aa, .string ab, .slice aP ac.length aN, .int .i64 ap, .string aq, .slice aJ af.length aK] 25 ?_; intro aE hg w9 hbox hb; have al := Aside0.mk (hbox); have cd := Aside0.mk (Sq.ge hg Z2); have bV := Aside0.mk (Sq.ge hg Z2); replace HB := Aside0.mk (below_step Z2 hb); clear hb hbox hg; have fL := cells_25 al.out) | ((with_reducible refine gate_callee (f := 21) rfl ?_); refine goesL_ (some 4) rfl rfl Try.func21 Z11 rfl #[.agg #[.int .i64 aD, .int .i64 aw, .int .i64 ax, .string au, .int .i64 aA, .int .i64 ay, .string av, .int .i64 ar, .int .i64 aC, .string az, .int .i64 ao, .string am, .int .i64 ah, .int .i64 aj, .int .i64 ak, .int .i64 ae, .int .i64 ag, .int .i64 ai, .int .i64 an, .string aa, .string ab, .slice aP ac.length aN, .int .i64 ap, .string aq, .slice aJ af.length aK]] rfl Z4 ?_; (with_reducible refine (roadbookref14_Right.calls k aD aw ax au aA ay av ar aC az ao am ah aj ak ae ag ai an aa ab _ _ ac ap aq _ _ af false _ ?side1 ?side2 ?side3 ?side4 A2.out).mono ?_); (case side1 => exact Z7); (case side2 => exact aZ.out); (case side3 => exact Z5); (case side4 => exact aT.out); rintro e kt ⟨rfl, hb⟩; refine ⟨_, rfl, ?_⟩; replace al := Aside0.mk (blk_below (g := aE) Z3 hb); replace HB := Aside0.mk (below_step Z0 hb); clear hb; have gs := cells_25 al.out) | (go_at_call 37; (with_reducible refine (roadbookref15_Right.calls k aD aw ax au aA ay av ar aC az ao am ah aj ak ae ag ai an aa ab _ _ ac ap aq _ _ af true _ ?side1 ?side2 ?side3 ?side4 A7.out).mono ?_); (case side1 => exact Z7); (case side2 => exact aZ.out); (case side3 => exact Z5); (case side4 => exact aT.out); rintro e hS ⟨rfl, hb⟩; replace al := Aside0.mk (blk_below (g := aE) Z3 hb); replace HB := Aside0.mk (below_step Z0 hb); clear hb))
   go_ret
   exact ⟨Z6, Z0⟩
  ·replace c8 := Bool.eq_false_iff.mpr c8
   subst c8
   replace H := Sq.itF H
   replace H := Option.bind_eq_some_iff.mp H
   obtain ⟨bg, fO, H⟩ := H
   replace H : (some bg) = some r := H
   have jW := Aside0.mk fO
   clear fO
   obtain rfl := Option.some.inj H
   go_enter Try.func46, Try.ntmps46
   go_wp2_with (first | ((with_reducible refine Pre.gate_load 25 rfl ?_); (try (refine gate_guard Z14 ?_; dsimp only)); refine Pre.load_event rfl rfl rfl Z14 Z1 Try.underlying25 rfl Z11 ?_) | ((with_reducible refine gate_dst (N := 1) rfl ?_); refine Sq.box 1 #[.int .i64 aD, .int .i64 aw, .int .i64 ax, .string au, .int .i64 aA, .int .i64 ay, .string av, .int .i64 ar, .int .i64 aC, .string az, .int .i64 ao, .string am, .int .i64 ah, .int .i64 aj, .int .i64 ak, .int .i64 ae, .int .i64 ag, .int .i64 ai, .int .i64 an, .string aa, .string ab, .slice aP ac.length aN, .int .i64 ap, .string aq, .slice aJ af.length aK] 25 ?_; intro aE hg nE hbox hb; have al := Aside0.mk (hbox); have cd := Aside0.mk (Sq.ge hg Z2); have bV := Aside0.mk (Sq.ge hg Z2); replace HB := Aside0.mk (below_step Z2 hb); clear hb hbox hg; have io := cells_25 al.out) | ((with_reducible refine gate_callee (f := 21) rfl ?_); refine goesL_ (some 4) rfl rfl Try.func21 Z11 rfl #[.agg #[.int .i64 aD, .int .i64 aw, .int .i64 ax, .string au, .int .i64 aA, .int .i64 ay, .string av, .int .i64 ar, .int .i64 aC, .string az, .int .i64 ao, .string am, .int .i64 ah, .int .i64 aj, .int .i64 ak, .int .i64 ae, .int .i64 ag, .int .i64 ai, .int .i64 an, .string aa, .string ab, .slice aP ac.length aN, .int .i64 ap, .string aq, .slice aJ af.length aK]] rfl Z4 ?_; (with_reducible refine (roadbookref14_Right.calls k aD aw ax au aA ay av ar aC az ao am ah aj ak ae ag ai an aa ab _ _ ac ap aq _ _ af false _ ?side1 ?side2 ?side3 ?side4 A2.out).mono ?_); (case side1 => exact Z7); (case side2 => exact aZ.out); (case side3 => exact Z5); (case side4 => exact aT.out); rintro e ip ⟨rfl, hb⟩; refine ⟨_, rfl, ?_⟩; replace al := Aside0.mk (blk_below (g := aE) Z3 hb); replace HB := Aside0.mk (below_step Z0 hb); clear hb; have hJ := cells_25 al.out) | (go_at_call 37; (with_reducible refine (roadbookref15_Right.calls k aD aw ax au aA ay av ar aC az ao am ah aj ak ae ag ai an aa ab _ _ ac ap aq _ _ af false _ ?side1 ?side2 ?side3 ?side4 A7.out).mono ?_); (case side1 => exact Z7); (case side2 => exact aZ.out); (case side3 => exact Z5); (case side4 => exact aT.out); rintro e lk ⟨rfl, hb⟩; replace al := Aside0.mk (blk_below (g := aE) Z3 hb); replace HB := Aside0.mk (below_step Z0 hb); clear hb; have iw := cells_25 al.out) | (go_at_call 29; (with_reducible refine (roadbookref16_Right.calls k aD aw ax au aA ay av ar aC az ao am ah aj ak ae ag ai an aa ab _ _ ac ap aq _ _ af bg _ ?side1 ?side2 ?side3 ?side4 jW.out).mono ?_); (case side1 => exact Z7); (case side2 => exact aZ.out); (case side3 => exact Z5); (case side4 => exact aT.out); rintro e kY ⟨rfl, hb⟩; replace al := Aside0.mk (blk_below (g := aE) Z3 hb); replace HB := Aside0.mk (below_step Z0 hb); clear hb))
   go_ret
   exact ⟨Z6, Z0⟩

/-! ### roadbookref16_Put: function 27 -/
def roadbookref16_Put.l0 : Nat → ByteArray → Int → Int → Int → Int → ByteArray → Int → Int → ByteArray → Int → Int → ByteArray → Int → ByteArray → Int → Int → Int → Int → Int → Int → Int → ByteArray → ByteArray → List (S46) → Int → ByteArray → List (S48) → Option (ByteArray × Bool)
 | 0, _, _, _, _, _, _, _, _, _, _, _, _, _, _, _, _, _, _, _, _, _, _, _, _, _, _, _ => none
 | k + 1, x4, x5, bq, bI, bJ, bK, bL, bM, bN, br, bO, bP, bQ, bD, bs, bA, bv, bo, bu, bB, bE, bw, bx, bf, bF, bG, bj => if x5 < (bf.length : Int) then (if 0 ≤ x5 then (if x4.size + ((rd_T46 bf x5).f0).size ≤ 9223372036854775807 then ((roadbookref02_Of.f k ((rd_T46 bf x5).f1) 4).bind fun aH => (if (x4 ++ ((rd_T46 bf x5).f0)).size + aH.size ≤ 9223372036854775807 then (roadbookref16_Put.l0 k ((x4 ++ ((rd_T46 bf x5).f0)) ++ aH) (wrap64 (x5 + 1)) bq bI bJ bK bL bM bN br bO bP bQ bD bs bA bv bo bu bB bE bw bx bf bF bG bj) else (none))) else (none)) else (none)) else ((roadbookref13_Put.f k bj).bind fun kE => (if x4.size + kE.1.size ≤ 9223372036854775807 then (some (x4 ++ kE.1, true)) else (none)))
def roadbookref16_Put.f (k : Nat) (aD : Int) (aw : Int) (ax : Int) (au : ByteArray) (aA : Int) (ay : Int) (av : ByteArray) (ar : Int) (aC : Int) (az : ByteArray) (ao : Int) (am : ByteArray) (ah : Int) (aj : Int) (ak : Int) (ae : Int) (ag : Int) (ai : Int) (an : Int) (aa : ByteArray) (ab : ByteArray) (ac : List (S46)) (ap : Int) (aq : ByteArray) (af : List (S48)) : Option (ByteArray × Bool) := (roadbookref16_Right.f k aD aw ax au aA ay av ar aC az ao am ah aj ak ae ag ai an aa ab ac ap aq af).bind fun aU => (if aU = true then ((some (([(wrap64 (128 * ae)) % 256, 0, ((ac.length : Int)) % 256] : List Int) : List Int)).bind fun cC => (if 1 + (strOfNums cC).size ≤ 9223372036854775807 then (roadbookref16_Put.l0 k ((⟨#[3]⟩ : ByteArray) ++ (strOfNums cC)) 0 aD aw ax au aA ay av ar aC az ao am ah aj ak ae ag ai an aa ab ac ap aq af) else (none))) else (some ((⟨#[]⟩ : ByteArray), false)))
theorem roadbookref16_Put.mono_l : ∀ k, (∀ y0 y1 y2 y3 y4 y5 y6 y7 y8 y9 er es et eu ev ew ex ey ez eA eB eC eD eE eF eG hq, LeO (roadbookref16_Put.l0 k y0 y1 y2 y3 y4 y5 y6 y7 y8 y9 er es et eu ev ew ex ey ez eA eB eC eD eE eF eG hq) (roadbookref16_Put.l0 (k + 1) y0 y1 y2 y3 y4 y5 y6 y7 y8 y9 er es et eu ev ew ex ey ez eA eB eC eD eE eF eG hq))
 | 0 => Sq.mz
 | k + 1 => by
  have ih0 := roadbookref16_Put.mono_l k
  ·intros
   unfold roadbookref16_Put.l0
   have m0 := roadbookref02_Of.mono
   have m1 := roadbookref13_Put.mono
   have m2 := roadbookref16_Right.mono
   exact Sq.mo
theorem roadbookref16_Put.mono : ∀ a0 a1 a2 a3 a4 a5 a6 a7 a8 a9 dY dZ ea eb ec ed ee ef eg eh ei ej ek el em k, LeO (roadbookref16_Put.f k a0 a1 a2 a3 a4 a5 a6 a7 a8 a9 dY dZ ea eb ec ed ee ef eg eh ei ej ek el em) (roadbookref16_Put.f (k + 1) a0 a1 a2 a3 a4 a5 a6 a7 a8 a9 dY dZ ea eb ec ed ee ef eg eh ei ej ek el em) := by
 intro a0 a1 a2 a3 a4 a5 a6 a7 a8 a9 dY dZ ea eb ec ed ee ef eg eh ei ej ek el em k
 have ih0 := roadbookref16_Put.mono_l k
 unfold roadbookref16_Put.f
 have m0 := roadbookref02_Of.mono
 have m1 := roadbookref13_Put.mono
 have m2 := roadbookref16_Right.mono
 exact Sq.mo
def roadbookref16_Put.T7 : Bool × List (List Nat × List Nat) := (true, [([], []), ([], []), ([1], [1]), ([], []), ([2, 3], [2, 3]), ([4], [4]), ([5], [5]), ([0, 6], [0, 6]), ([], []), ([8], [8]), ([], []), ([9, 10], [9, 10]), ([11], [11]), ([12], [12]), ([13], [13]), ([7, 14], [7, 14]), ([15, 14, 0, 1, 2, 3, 4, 5, 6, 7, 8, 9, 10, 11, 12, 13, 14, 15], [0, 15])])
def roadbookref16_Put.B7 : List Nat := [0, 0, 2, 0, 14, 30, 62, 127, 0, 256, 0, 1792, 3840, 7936, 16128, 32767, 65535]
theorem roadbookref16_Put.tab7 : rtab .any (opsOf Try.f27 7) = roadbookref16_Put.T7 := by kernel_rfl
theorem roadbookref16_Put.bits7 : waitsOk roadbookref16_Put.T7.2 roadbookref16_Put.B7 = true := by kernel_rfl

set_option maxHeartbeats 8000000 in
set_option maxRecDepth 100000 in
theorem roadbookref16_Put.calls (k : Nat) (aD : Int) (aw : Int) (ax : Int) (au : ByteArray) (aA : Int) (ay : Int) (av : ByteArray) (ar : Int) (aC : Int) (az : ByteArray) (ao : Int) (am : ByteArray) (ah : Int) (aj : Int) (ak : Int) (ae : Int) (ag : Int) (ai : Int) (an : Int) (aa : ByteArray) (ab : ByteArray) (aP : Option Addr) (aN : Nat) (ac : List (S46)) (ap : Int) (aq : ByteArray) (aJ : Option Addr) (aK : Nat) (af : List (S48)) (r1 : ByteArray) (r2 : Bool) (w : World) (bk : Kd.C k46 w aP ac.length ac) (bl : ac.length ≤ aN) (bm : Kd.C k48 w aJ af.length af) (bn : af.length ≤ aK) (h : roadbookref16_Put.f k aD aw ax au aA ay av ar aC az ao am ah aj ak ae ag ai an aa ab ac ap aq af = some (r1, r2)) :
  Calls Try.prog 27 #[.agg #[.int .i64 aD, .int .i64 aw, .int .i64 ax, .string au, .int .i64 aA, .int .i64 ay, .string av, .int .i64 ar, .int .i64 aC, .string az, .int .i64 ao, .string am, .int .i64 ah, .int .i64 aj, .int .i64 ak, .int .i64 ae, .int .i64 ag, .int .i64 ai, .int .i64 an, .string aa, .string ab, .slice aP ac.length aN, .int .i64 ap, .string aq, .slice aJ af.length aK]] w fun e w' => e = .returned (.tuple #[.string r1, .bool r2]) ∧ Below w.heap.size w w' := by
 have dM := Try.underlying25
 have cc := Aside0.mk bk
 have aZ := Aside0.mk bl
 clear bk bl
 have bZ := Aside0.mk bm
 have aT := Aside0.mk bn
 clear bm bn
 have HB := Aside0.mk (Below.refl w.heap.size w)
 have H : ((roadbookref16_Right.f k aD aw ax au aA ay av ar aC az ao am ah aj ak ae ag ai an aa ab ac ap aq af).bind fun aU => (if aU = true then ((some (([(wrap64 (128 * ae)) % 256, 0, ((ac.length : Int)) % 256] : List Int) : List Int)).bind fun cC => (if 1 + (strOfNums cC).size ≤ 9223372036854775807 then (roadbookref16_Put.l0 k ((⟨#[3]⟩ : ByteArray) ++ (strOfNums cC)) 0 aD aw ax au aA ay av ar aC az ao am ah aj ak ae ag ai an aa ab ac ap aq af) else (none))) else (some ((⟨#[]⟩ : ByteArray), false)))) = some (r1, r2) := h
 clear h
 replace H := Option.bind_eq_some_iff.mp H
 obtain ⟨aU, dL, H⟩ := H
 replace H : (if aU = true then ((some (([(wrap64 (128 * ae)) % 256, 0, ((ac.length : Int)) % 256] : List Int) : List Int)).bind fun cC => (if 1 + (strOfNums cC).size ≤ 9223372036854775807 then (roadbookref16_Put.l0 k ((⟨#[3]⟩ : ByteArray) ++ (strOfNums cC)) 0 aD aw ax au aA ay av ar aC az ao am ah aj ak ae ag ai an aa ab ac ap aq af) else (none))) else (some ((⟨#[]⟩ : ByteArray), false))) = some (r1, r2) := H
 have A2 := Aside0.mk dL
 clear dL
 by_cases c3 : aU = true
 ·subst c3
  have H1 : ((some (([(wrap64 (128 * ae)) % 256, 0, ((ac.length : Int)) % 256] : List Int) : List Int)).bind fun cC => (if 1 + (strOfNums cC).size ≤ 9223372036854775807 then (roadbookref16_Put.l0 k ((⟨#[3]⟩ : ByteArray) ++ (strOfNums cC)) 0 aD aw ax au aA ay av ar aC az ao am ah aj ak ae ag ai an aa ab ac ap aq af) else (none))) = some (r1, r2) := by rw [if_pos rfl] at H; exact H
  clear H
  have H := H1
  clear H1
  obtain ⟨cC, hy103⟩ : ∃ y_ : List Int, y_ = (([(wrap64 (128 * ae)) % 256, 0, ((ac.length : Int)) % 256] : List Int)) := ⟨_, rfl⟩
  replace H : (if 1 + (strOfNums cC).size ≤ 9223372036854775807 then (roadbookref16_Put.l0 k ((⟨#[3]⟩ : ByteArray) ++ (strOfNums cC)) 0 aD aw ax au aA ay av ar aC az ao am ah aj ak ae ag ai an aa ab ac ap aq af) else (none)) = some (r1, r2) := by first | (rw [hy103]; with_reducible exact H) | (have H2_ := (Option.bind_some _ _).symm.trans H; rw [hy103]; with_reducible exact H2_) | (have H2_ := (Option.bind_some _ _).symm.trans H; with_reducible exact H2_) | with_reducible exact H | (rw [hy103]; exact H) | exact H
  have Ny103 := Aside0.mk hy103
  clear hy103
  by_cases c4 : 1 + (strOfNums cC).size ≤ 9223372036854775807
  ·rw [if_pos c4] at H
   have cf := eq_true c4
   have fd : decide (1 + (strOfNums cC).size ≤ 9223372036854775807) = true := decide_eq_true c4
   try have mv : (9223372036854775807 < 1 + (strOfNums cC).size) = False := eq_false (Nat.not_lt.2 c4)
   try (have nP := mv; simp only [ByteArray.size_append] at nP)
   have H' := Aside0.mk H
   clear H
   go_enter Try.func27, Try.ntmps27
   go_wp2_with (first | ((with_reducible refine Pre.gate_load 25 rfl ?_); (try (refine gate_guard Z14 ?_; dsimp only)); refine Pre.load_event rfl rfl rfl Z14 Z1 Try.underlying25 rfl Z11 ?_) | ((with_reducible refine Pre.gate_load 25 rfl ?_); (try (refine gate_guard Z14 ?_; dsimp only)); refine Pre.load_event_a rfl rfl rfl Z14 Pre.range25 Try.underlying25 rfl Z11 ?_) | ((with_reducible refine gate_dst (N := 1) rfl ?_); refine Sq.box 1 #[.int .i64 aD, .int .i64 aw, .int .i64 ax, .string au, .int .i64 aA, .int .i64 ay, .string av, .int .i64 ar, .int .i64 aC, .string az, .int .i64 ao, .string am, .int .i64 ah, .int .i64 aj, .int .i64 ak, .int .i64 ae, .int .i64 ag, .int .i64 ai, .int .i64 an, .string aa, .string ab, .slice aP ac.length aN, .int .i64 ap, .string aq, .slice aJ af.length aK] 25 ?_; intro aE hg w5 hbox hb; have al := Aside0.mk (hbox); have cd := Aside0.mk (Sq.ge hg Z2); have bV := Aside0.mk (Sq.ge hg Z2); replace HB := Aside0.mk (below_step Z2 hb); clear hb hbox hg; have lg := cells_25 al.out) | ((with_reducible refine gate_callee (f := 29) rfl ?_); refine goesL_ (some 9) rfl rfl Try.func29 Z11 rfl #[.agg #[.int .i64 aD, .int .i64 aw, .int .i64 ax, .string au, .int .i64 aA, .int .i64 ay, .string av, .int .i64 ar, .int .i64 aC, .string az, .int .i64 ao, .string am, .int .i64 ah, .int .i64 aj, .int .i64 ak, .int .i64 ae, .int .i64 ag, .int .i64 ai, .int .i64 an, .string aa, .string ab, .slice aP ac.length aN, .int .i64 ap, .string aq, .slice aJ af.length aK]] rfl Z4 ?_; (with_reducible refine (roadbookref16_Right.calls k aD aw ax au aA ay av ar aC az ao am ah aj ak ae ag ai an aa ab _ _ ac ap aq _ _ af true _ ?side1 ?side2 ?side3 ?side4 A2.out).mono ?_); (case side1 => exact Z7); (case side2 => exact aZ.out); (case side3 => exact Z5); (case side4 => exact aT.out); rintro e w7 ⟨rfl, hb⟩; refine ⟨_, rfl, ?_⟩; replace al := Aside0.mk (blk_below (g := aE) Z3 hb); replace HB := Aside0.mk (below_step Z0 hb); clear hb; have iK := cells_25 al.out) | ((with_reducible refine gate_dst (N := 19) rfl ?_); refine Kd.R_lit (Kd.int .u8) _ 5 ?hg (N := 19) ?hd (xs := ([(wrap64 (128 * ae)) % 256, 0, ((ac.length : Int)) % 256] : List Int)) (inner := [.int .u8 ((wrap64 (128 * ae)) % 256), .int .u8 0, .int .u8 (((ac.length : Int)) % 256)]) (ok := fun _ => True) (okp := fun _ => True) ?hr ?hp (fun _ hk => hk) trivial (Below.refl _ _) (Nat.le_refl _) Z35 ?_; (case hd => rfl); (case hg => rfl); (case hr => first | (go_simp; done) | (go_simp; rfl)); (case hp => exact (Reps.one (show Kd.M (Kd.int .u8) _ _ _ ((wrap64 (128 * ae)) % 256) [.int .u8 ((wrap64 (128 * ae)) % 256)] from rfl) (Reps.one (show Kd.M (Kd.int .u8) _ _ _ 0 [.int .u8 0] from rfl) (Reps.one (show Kd.M (Kd.int .u8) _ _ _ (((ac.length : Int)) % 256) [.int .u8 (((ac.length : Int)) % 256)] from rfl) (Reps.none _ _))))); intro lb w9 ho10 hb hg_ hnew_; clear hg_ hnew_; (first | rw [← Ny103.out] at ho10 | (simp only [Int.reduceToNat] at ho10; rw [← Ny103.out] at ho10)); have gR := Aside0.mk (Kd.R_lower ho10 (below_size Z0)); replace al := Aside0.mk (blk_below (g := aE) Z3 hb); replace HB := Aside0.mk (below_step Z0 hb); clear hb ho10; have hcv11 := own_string (P := Try.prog) Try.underlying51 Try.underlying5 Try.underlying9 (Kd.own_of_R gR.out)))
   go_loopg [4, 5] k (fun kq v4 v5 w' => ∃ (cy : ByteArray) (aG : Int), v4 = .string cy ∧ v5 = .int .i64 aG ∧ Aside0 (roadbookref16_Put.l0 kq cy aG aD aw ax au aA ay av ar aC az ao am ah aj ak ae ag ai an aa ab ac ap aq af = some (r1, r2)) ∧ Aside0 (kq ≤ k) ∧ Aside0 (w'.heap[aE]? = some (.cells #[.int .i64 aD, .int .i64 aw, .int .i64 ax, .string au, .int .i64 aA, .int .i64 ay, .string av, .int .i64 ar, .int .i64 aC, .string az, .int .i64 ao, .string am, .int .i64 ah, .int .i64 aj, .int .i64 ak, .int .i64 ae, .int .i64 ag, .int .i64 ai, .int .i64 an, .string aa, .string ab, (.slice aP ac.length aN), .int .i64 ap, .string aq, (.slice aJ af.length aK)] 25 (0, 0))) ∧ Aside0 (Below w.heap.size w w'))
   case atStart => exact ⟨((⟨#[3]⟩ : ByteArray) ++ (strOfNums cC)), (0), Z10, Z10, H', ⟨Nat.le_refl _⟩, ⟨Z3⟩, ⟨Z0⟩⟩
   case round =>
    clear H'
    try clear hcv1
    try clear c2
    try clear p2
    try clear c3
    try clear c4
    try clear cf
    try clear fd
    try clear mv
    try clear p6
    try clear hcv11
    try clear lg
    try clear iK
    obtain ⟨cy, aG, rfl, rfl, HA, HK1, al, HB⟩ := hrel
    cases gk with
    | zero => exact absurd HA.out (by simp [roadbookref16_Put.l0])
    | succ k1 =>
     have H := HA.out
     clear HA
     simp only [roadbookref16_Put.l0] at H
     by_cases dP : aG < (ac.length : Int)
     ·rw [if_pos dP] at H
      have gB : decide (aG < (ac.length : Int)) = true := decide_eq_true dP
      clear dP
      by_cases dB : 0 ≤ aG
      ·rw [if_pos dB] at H
       have fK : decide (0 ≤ aG) = true := decide_eq_true dB
       clear dB
       by_cases dQ : cy.size + ((rd_T46 ac aG).f0).size ≤ 9223372036854775807
       ·rw [if_pos dQ] at H
        have il := eq_true dQ
        have im : decide (cy.size + ((rd_T46 ac aG).f0).size ≤ 9223372036854775807) = true := decide_eq_true dQ
        try have hH : (9223372036854775807 < cy.size + ((rd_T46 ac aG).f0).size) = False := eq_false (Nat.not_lt.2 dQ)
        try (have hI := hH; simp only [ByteArray.size_append] at hI)
        replace H := Option.bind_eq_some_iff.mp H
        obtain ⟨aH, gp, H⟩ := H
        replace H : (if (cy ++ ((rd_T46 ac aG).f0)).size + aH.size ≤ 9223372036854775807 then (roadbookref16_Put.l0 k1 ((cy ++ ((rd_T46 ac aG).f0)) ++ aH) (wrap64 (aG + 1)) aD aw ax au aA ay av ar aC az ao am ah aj ak ae ag ai an aa ab ac ap aq af) else (none)) = some (r1, r2) := H
        have jS := Aside0.mk gp
        clear gp
        by_cases dy : (cy ++ ((rd_T46 ac aG).f0)).size + aH.size ≤ 9223372036854775807
        ·rw [if_pos dy] at H
         have eP := eq_true dy
         have fV : decide ((cy ++ ((rd_T46 ac aG).f0)).size + aH.size ≤ 9223372036854775807) = true := decide_eq_true dy
         try have gQ : (9223372036854775807 < (cy ++ ((rd_T46 ac aG).f0)).size + aH.size) = False := eq_false (Nat.not_lt.2 dy)
         try (have hM := gQ; simp only [ByteArray.size_append] at hM)
         have H' := Aside0.mk H
         clear H
         have kF := cells_25 al.out
         try go_wp2_with (first | ((with_reducible refine Pre.gate_load 25 rfl ?_); (try (refine gate_guard Z14 ?_; dsimp only)); refine Pre.load_event rfl rfl rfl Z14 Z1 Try.underlying25 rfl Z11 ?_) | ((with_reducible refine Pre.gate_load 25 rfl ?_); (try (refine gate_guard Z14 ?_; dsimp only)); refine Pre.load_event_a rfl rfl rfl Z14 Pre.range25 Try.underlying25 rfl Z11 ?_))
         have bi := Aside0.mk (blk_drew al.out)
         have bp := Aside0.mk (below_drew1 HB.out)
         clear al
         clear HB
         have al := bi
         have HB := bp
         clear bi bp
         have p106 : 0 ≤ (aG : Int) := of_decide_eq_true Z8
         have q106 : aG < (ac.length : Int) := of_decide_eq_true Z8
         obtain ⟨ad106, e106, hx106_0, hx106_1⟩ := at_T46 cc.out aG p106 q106
         have hw106_1 := hx106_1
         have hw106_0 := hx106_0
         cases e106
         replace hx106_0 := Sq.up HB.out hx106_0
         replace hx106_1 := Sq.up HB.out hx106_1
         replace p106 := eq_true p106
         replace q106 := eq_true q106
         have p107 : 0 ≤ (aG : Int) := of_decide_eq_true Z8
         have q107 : aG < (ac.length : Int) := of_decide_eq_true Z8
         obtain ⟨ad107, e107, hx107_0, hx107_1⟩ := at_T46 cc.out aG p107 q107
         have hw107_1 := hx107_1
         have hw107_0 := hx107_0
         obtain rfl : ad106 = ad107 := (by injection e107)
         replace hx107_0 := Sq.up HB.out hx107_0
         replace hx107_1 := Sq.up HB.out hx107_1
         replace p107 := eq_true p107
         replace q107 := eq_true q107
         refine start_ (n := 17) (S := fun w' => w'.cell? ⟨aE, 21, none⟩ = some (.slice (some ad106) ac.length aN) ∧ w'.cell? (ad106.add ((aG).toNat * 2)) = some (.string ((rd_T46 ac aG).f0)) ∧ w'.cell? ⟨(ad106.add ((aG).toNat * 2)).block, (ad106.add ((aG).toNat * 2)).off + 1, none⟩ = some (.int .i64 ((rd_T46 ac aG).f1)) ∧ w'.cell? (ad106.add ((aG).toNat * 2)) = some (.string ((rd_T46 ac aG).f0)) ∧ w'.cell? ⟨(ad106.add ((aG).toNat * 2)).block, (ad106.add ((aG).toNat * 2)).off + 1, none⟩ = some (.int .i64 ((rd_T46 ac aG).f1))) (ds := []) (Sq.b 17 0) Z11 rfl rfl ⟨Sq.bc al 21, (Sq.up HB.out hw106_0), (Sq.up HB.out hw106_1), (Sq.up HB.out hw107_0), (Sq.up HB.out hw107_1)⟩ (fun hHeld => ?_); refine with_tabW roadbookref16_Put.tab7 roadbookref16_Put.bits7 (fun HT_ HW_ => ?_)
         generalize wr.drew = np at al HB hx106_0 hx106_1 hx107_0 hx107_1 hHeld ⊢
         refine Sq.pur 0 (some 29) (Sq.b 17 1) HT_.out ?_
         refine Sq.pur 1 (some 30) (Sq.b 17 3) HT_.out ?_
         refine Sq.pur 3 (some 32) (Sq.b 17 11) HT_.out ?_
         refine Sq.pur 8 (some 37) (Sq.b 17 267) HT_.out ?_
         refine Sq.pur 10 (some 39) (Sq.b 17 1291) HT_.out ?_
         refine Sq.tak 2 (some 31) (Sq.b 17 1295) HT_.out HW_.out hHeld (v := ?_) (a' := ?_) ?_ ?_ ?_
         rotate_left
         ·rintro w' ⟨s0, s1, s2, s3, s4⟩
          first | (refine Eq.trans (Pre.load_run (ty := 25) rfl Z14 Z36 Try.underlying25 rfl Z11) ?_; with_reducible rfl) | (refine Eq.trans (Pre.load_run_a (ty := 25) rfl Z14 Pre.range25 Try.underlying25 rfl Z11) ?_; with_reducible rfl) | (go_simp; with_reducible rfl)
         rotate_left
         ·simp only [Act.put, Sq.s1, Sq.s2, Sq.s3, i64_w, i32_w]
          rfl
         refine Sq.pur 4 (some 33) (Sq.b 17 1311) HT_.out ?_
         refine Sq.pur 5 (some 34) (Sq.b 17 1343) HT_.out ?_
         refine Sq.tak 6 (some 35) (Sq.b 17 1407) HT_.out HW_.out hHeld (v := ?_) (a' := ?_) ?_ ?_ ?_
         rotate_left
         ·rintro w' ⟨s0, s1, s2, s3, s4⟩
          first | (refine Eq.trans (Pre.load_run (ty := 25) rfl Z14 Z36 Try.underlying25 rfl Z11) ?_; with_reducible rfl) | (refine Eq.trans (Pre.load_run_a (ty := 25) rfl Z14 Pre.range25 Try.underlying25 rfl Z11) ?_; with_reducible rfl) | (go_simp; with_reducible rfl)
         rotate_left
         ·simp only [Act.put, Sq.s1, Sq.s2, Sq.s3, i64_w, i32_w]
          rfl
         refine Sq.pur 7 (some 36) (Sq.b 17 1535) HT_.out ?_
         refine Sq.tak 9 (some 38) (Sq.b 17 2047) HT_.out HW_.out hHeld (v := ?_) (a' := ?_) ?_ ?_ ?_
         rotate_left
         ·rintro w' ⟨s0, s1, s2, s3, s4⟩
          first | (refine Eq.trans (Pre.load_run (ty := 25) rfl Z14 Z36 Try.underlying25 rfl Z11) ?_; with_reducible rfl) | (refine Eq.trans (Pre.load_run_a (ty := 25) rfl Z14 Pre.range25 Try.underlying25 rfl Z11) ?_; with_reducible rfl) | (go_simp; with_reducible rfl)
         rotate_left
         ·simp only [Act.put, Sq.s1, Sq.s2, Sq.s3, i64_w, i32_w]
          rfl
         refine Sq.pur 11 (some 40) (Sq.b 17 4095) HT_.out ?_
         refine Sq.pur 12 (some 41) (Sq.b 17 8191) HT_.out ?_
         refine Sq.tak 13 (some 42) (Sq.b 17 16383) HT_.out HW_.out hHeld (v := ?_) (a' := ?_) ?_ ?_ ?_
         rotate_left
         ·rintro w' ⟨s0, s1, s2, s3, s4⟩
          first | (refine Eq.trans (Pre.load_run (ty := 25) rfl Z14 Z36 Try.underlying25 rfl Z11) ?_; with_reducible rfl) | (refine Eq.trans (Pre.load_run_a (ty := 25) rfl Z14 Pre.range25 Try.underlying25 rfl Z11) ?_; with_reducible rfl) | (go_simp; with_reducible rfl)
         rotate_left
         ·simp only [Act.put, Sq.s1, Sq.s2, Sq.s3, i64_w, i32_w]
          rfl
         refine one_ (i := 14) (N := some 43) (Sq.b 17 32767) rfl rfl (one_of HT_.out Z11) Z21 (fun K hK => ?_)
         refine goes_ Try.func52 Z11 rfl #[.int .i64 ((rd_T46 ac aG).f1), .int .i64 4] Z14 rfl rfl Z4 ?_
         with_reducible refine (roadbookref02_Of.calls k1 ((rd_T46 ac aG).f1) 4 aH _ jS.out).mono ?_
         rintro e lk ⟨rfl, hb⟩
         refine ⟨_, rfl, ?_⟩
         have bi := Aside0.mk (blk_below (g := aE) Z3 hb)
         have bp := Aside0.mk (below_step Z0 hb)
         clear al
         clear HB
         have al := bi
         have HB := bp
         clear bi bp
         (try clear hb)
         (try clear hb2)
         (try clear hk)
         (try clear hi)
         refine hK.out _ _ ⟨Sq.bc al 21, (Sq.up HB.out hw106_0), (Sq.up HB.out hw106_1), (Sq.up HB.out hw107_0), (Sq.up HB.out hw107_1)⟩ (fun hHeld => ?_)
         clear hK K
         refine norm_ (a' := ?_) ?_ ?_
         rotate_left
         ·show Act.put _ (some 43) _ = _
          simp only [Act.put, Sq.s1, Sq.s2, Sq.s3, i64_w, i32_w]
          rfl
         refine Sq.pur 15 (some 44) (Sq.b 17 65535) HT_.out ?_
         refine Sq.pur 16 (some 4) (Sq.b 17 131071) HT_.out ?_
         refine done_ (done_of HT_.out Z11) ?_
         try go_wp2_with (first | ((with_reducible refine Pre.gate_load 25 rfl ?_); (try (refine gate_guard Z14 ?_; dsimp only)); refine Pre.load_event rfl rfl rfl Z14 Z1 Try.underlying25 rfl Z11 ?_) | ((with_reducible refine Pre.gate_load 25 rfl ?_); (try (refine gate_guard Z14 ?_; dsimp only)); refine Pre.load_event_a rfl rfl rfl Z14 Pre.range25 Try.underlying25 rfl Z11 ?_))
         go_roundg k1
         case measure => have := HK1.out; omega
         case rel => exact ⟨((cy ++ ((rd_T46 ac aG).f0)) ++ aH), (wrap64 (aG + 1)), Z10, Z10, H', ⟨Z49⟩, ⟨Z3⟩, ⟨Z0⟩⟩
        ·rw [if_neg dy] at H
         exact absurd H Z35
       ·rw [if_neg dQ] at H
        exact absurd H Z35
      ·rw [if_neg dB] at H
       exact absurd H Z35
     ·rw [if_neg dP] at H
      have gB : decide (aG < (ac.length : Int)) = false := decide_eq_false dP
      clear dP
      replace H := Option.bind_eq_some_iff.mp H
      obtain ⟨⟨aQ, ba⟩, hC, H⟩ := H
      replace H : (if cy.size + aQ.size ≤ 9223372036854775807 then (some (cy ++ aQ, true)) else (none)) = some (r1, r2) := H
      have dL := Aside0.mk hC
      clear hC
      by_cases dE : cy.size + aQ.size ≤ 9223372036854775807
      ·rw [if_pos dE] at H
       have kr := eq_true dE
       have ks : decide (cy.size + aQ.size ≤ 9223372036854775807) = true := decide_eq_true dE
       try have mw : (9223372036854775807 < cy.size + aQ.size) = False := eq_false (Nat.not_lt.2 dE)
       try (have mx := mw; simp only [ByteArray.size_append] at mx)
       simp only [Option.some.injEq, Prod.mk.injEq] at H
       obtain ⟨rfl, rfl⟩ := H
       have hP := cells_25 al.out
       go_wp2_with (first | ((with_reducible refine Pre.gate_load 25 rfl ?_); (try (refine gate_guard Z14 ?_; dsimp only)); refine Pre.load_event rfl rfl rfl Z14 Z1 Try.underlying25 rfl Z11 ?_) | ((with_reducible refine Pre.gate_load 25 rfl ?_); (try (refine gate_guard Z14 ?_; dsimp only)); refine Pre.load_event_a rfl rfl rfl Z14 Pre.range25 Try.underlying25 rfl Z11 ?_) | ((with_reducible refine gate_callee (f := 51) rfl ?_); refine goesL_ (some 48) rfl rfl Try.func51 Z11 rfl #[.slice aJ af.length aK] rfl Z4 ?_; (with_reducible refine (roadbookref13_Put.calls k1 _ _ af aQ ba _ ?side1 ?side2 dL.out).mono ?_); (case side1 => exact Z5); (case side2 => exact aT.out); rintro e gW ⟨rfl, hb⟩; refine ⟨_, rfl, ?_⟩; replace al := Aside0.mk (blk_below (g := aE) Z3 hb); replace HB := Aside0.mk (below_step Z0 hb); clear hb))
       go_ret2
       exact ⟨Z6, Z0⟩
      ·rw [if_neg dE] at H
       exact absurd H Z35
  ·rw [if_neg c4] at H
   exact absurd H Z35
 ·replace c3 := Bool.eq_false_iff.mpr c3
  subst c3
  have H1 : (some ((⟨#[]⟩ : ByteArray), false)) = some (r1, r2) := by rw [if_neg (show ¬ (false = true) by decide)] at H; exact H
  clear H
  have H := H1
  clear H1
  simp only [Option.some.injEq, Prod.mk.injEq] at H
  obtain ⟨rfl, rfl⟩ := H
  go_enter Try.func27, Try.ntmps27
  go_wp2_with (first | ((with_reducible refine Pre.gate_load 25 rfl ?_); (try (refine gate_guard Z14 ?_; dsimp only)); refine Pre.load_event rfl rfl rfl Z14 Z1 Try.underlying25 rfl Z11 ?_) | ((with_reducible refine Pre.gate_load 25 rfl ?_); (try (refine gate_guard Z14 ?_; dsimp only)); refine Pre.load_event_a rfl rfl rfl Z14 Pre.range25 Try.underlying25 rfl Z11 ?_) | ((with_reducible refine gate_dst (N := 1) rfl ?_); refine Sq.box 1 #[.int .i64 aD, .int .i64 aw, .int .i64 ax, .string au, .int .i64 aA, .int .i64 ay, .string av, .int .i64 ar, .int .i64 aC, .string az, .int .i64 ao, .string am, .int .i64 ah, .int .i64 aj, .int .i64 ak, .int .i64 ae, .int .i64 ag, .int .i64 ai, .int .i64 an, .string aa, .string ab, .slice aP ac.length aN, .int .i64 ap, .string aq, .slice aJ af.length aK] 25 ?_; intro aE hg gJ hbox hb; have al := Aside0.mk (hbox); have cd := Aside0.mk (Sq.ge hg Z2); have bV := Aside0.mk (Sq.ge hg Z2); replace HB := Aside0.mk (below_step Z2 hb); clear hb hbox hg; have ii := cells_25 al.out) | ((with_reducible refine gate_callee (f := 29) rfl ?_); refine goesL_ (some 9) rfl rfl Try.func29 Z11 rfl #[.agg #[.int .i64 aD, .int .i64 aw, .int .i64 ax, .string au, .int .i64 aA, .int .i64 ay, .string av, .int .i64 ar, .int .i64 aC, .string az, .int .i64 ao, .string am, .int .i64 ah, .int .i64 aj, .int .i64 ak, .int .i64 ae, .int .i64 ag, .int .i64 ai, .int .i64 an, .string aa, .string ab, .slice aP ac.length aN, .int .i64 ap, .string aq, .slice aJ af.length aK]] rfl Z4 ?_; (with_reducible refine (roadbookref16_Right.calls k aD aw ax au aA ay av ar aC az ao am ah aj ak ae ag ai an aa ab _ _ ac ap aq _ _ af false _ ?side1 ?side2 ?side3 ?side4 A2.out).mono ?_); (case side1 => exact Z7); (case side2 => exact aZ.out); (case side3 => exact Z5); (case side4 => exact aT.out); rintro e iH ⟨rfl, hb⟩; refine ⟨_, rfl, ?_⟩; replace al := Aside0.mk (blk_below (g := aE) Z3 hb); replace HB := Aside0.mk (below_step Z0 hb); clear hb))
  go_ret2
  exact ⟨Z6, Z0⟩

end Go.Proofs.Ytccjakjjaemmkaa.PAE
