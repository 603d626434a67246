-- Written by mp.py, a program of this work (wip/tools), out of the translation; Lean checks it.
import Derived.Test.YtccjakjjaemmkaaPRxZ
import Derived.Test.YtccjakjjaemmkaaPRxext
import Derived.Test.YtccjakjjaemmkaaPRxmsgBare
import Derived.Test.YtccjakjjaemmkaaPRxoctet
namespace Go.Proofs.Ytccjakjjaemmkaa.PR
open Go.RowKit Go.Proofs.YtccjakjjaemmkaaW.PrintWords Go.Proofs.YtccjakjjaemmkaaW.PrintLast Go.Proofs.YtccjakjjaemmkaaW.PrintMore
attribute [local go_sem] max2_int min2_int max_two min_two max_three min_three max_four min_four   -- for this text's walks alone
set_option linter.unusedVariables false
set_option linter.unusedSimpArgs false

/-! ### rrep_Right: function 36 -/
def rrep_Right.j0 : Nat → Bool → Int → Int → Int → ByteArray → Int → Int → ByteArray → Int → Int → ByteArray → Int → ByteArray → Int → Int → Int → Int → Int → Int → Int → ByteArray → ByteArray → List (S46) → Int → ByteArray → List (S48) → Option (Bool)
 | 0, _, _, _, _, _, _, _, _, _, _, _, _, _, _, _, _, _, _, _, _, _, _, _, _, _, _ => none
 | k + 1, oo, bw, bM, bN, bO, bP, bQ, bR, bx, bS, bT, bU, bI, bA, bF, bC, bv, bB, bG, bJ, bD, bE, bq, bK, bL, bu => if oo = true then (some false) else (if bw = 6 then (some true) else (if bw = 4 then (if bv ≥ 0 then (if bv < 4 then (if bx ≥ 0 then (if bx < 32 then ((octet_Fits.f bB 1).bind fun bc => (if bc = true then ((octet_Fits.f bA 4).bind fun bk => (if bk = true then ((octet_Fits.f bC 4).bind fun bm => (if bm = true then (if (bD.size : Int) = 4 then (some ((bE.size : Int) == 4)) else (some false)) else (some false))) else (some false))) else (some false))) else (some false)) else (some false)) else (some false)) else (some false)) else (some false)))
def rrep_Right.f (k : Nat) (av : Int) (au : Int) (aw : Int) (ay : ByteArray) (aD : Int) (az : Int) (aA : ByteArray) (ax : Int) (aE : Int) (aC : ByteArray) (ap : Int) (an : ByteArray) (aj : Int) (am : Int) (ak : Int) (ah : Int) (ai : Int) (al : Int) (ao : Int) (ac : ByteArray) (af : ByteArray) (ae : List (S46)) (aq : Int) (ar : ByteArray) (ag : List (S48)) : Option (Bool) := (msg_Bare.f av au aw ay aD az aA ax aE aC ap an aj am ak ah ai al ao ac af ae aq ar ag).bind fun ba => (if ba = true then ((ext_Right.f k ag).bind fun bf => (rrep_Right.j0 k (!bf) av au aw ay aD az aA ax aE aC ap an aj am ak ah ai al ao ac af ae aq ar ag)) else (rrep_Right.j0 k true av au aw ay aD az aA ax aE aC ap an aj am ak ah ai al ao ac af ae aq ar ag))
theorem rrep_Right.mono_l : ∀ k, (∀ y0 y1 y2 y3 y4 y5 y6 y7 y8 y9 fi fj fk fl fm fn fo fp fq fr fs ft fu fv fw fx, LeO (rrep_Right.j0 k y0 y1 y2 y3 y4 y5 y6 y7 y8 y9 fi fj fk fl fm fn fo fp fq fr fs ft fu fv fw fx) (rrep_Right.j0 (k + 1) y0 y1 y2 y3 y4 y5 y6 y7 y8 y9 fi fj fk fl fm fn fo fp fq fr fs ft fu fv fw fx))
 | 0 => fun _ _ _ _ _ _ _ _ _ _ _ _ _ _ _ _ _ _ _ _ _ _ _ _ _ _ r h => by simp [rrep_Right.j0] at h
 | k + 1 => by
  have ih0 := rrep_Right.mono_l k
  ·intro y0 y1 y2 y3 y4 y5 y6 y7 y8 y9 fi fj fk fl fm fn fo fp fq fr fs ft fu fv fw fx
   unfold rrep_Right.j0
   repeat' first
   | (with_reducible exact ih0 ..)
   | (with_reducible exact ext_Right.mono _ _)
   | (with_reducible exact LeO.refl _)
   | (with_reducible exact LeO.none _)
   | (with_reducible refine LeO.ite ?_ ?_)
   | (with_reducible refine LeO.bind ?_ (fun _ => ?_))
   | exact ih0 ..
   | exact ext_Right.mono _ _
   | exact LeO.none _
   | refine LeO.ite ?_ ?_
   | refine LeO.bind ?_ (fun _ => ?_)
theorem rrep_Right.mono : ∀ a0 a1 a2 a3 a4 a5 a6 a7 a8 a9 fJ fK fL fM fN fO fP fQ fR fS fT fU fV fW fX k, LeO (rrep_Right.f k a0 a1 a2 a3 a4 a5 a6 a7 a8 a9 fJ fK fL fM fN fO fP fQ fR fS fT fU fV fW fX) (rrep_Right.f (k + 1) a0 a1 a2 a3 a4 a5 a6 a7 a8 a9 fJ fK fL fM fN fO fP fQ fR fS fT fU fV fW fX) := by
 intro a0 a1 a2 a3 a4 a5 a6 a7 a8 a9 fJ fK fL fM fN fO fP fQ fR fS fT fU fV fW fX k
 have ih0 := rrep_Right.mono_l k
 unfold rrep_Right.f
 repeat' first
   | (with_reducible exact ih0 ..)
   | (with_reducible exact ext_Right.mono _ _)
   | (with_reducible exact LeO.refl _)
   | (with_reducible exact LeO.none _)
   | (with_reducible refine LeO.ite ?_ ?_)
   | (with_reducible refine LeO.bind ?_ (fun _ => ?_))
   | exact ih0 ..
   | exact ext_Right.mono _ _
   | exact LeO.none _
   | refine LeO.ite ?_ ?_
   | refine LeO.bind ?_ (fun _ => ?_)

set_option maxHeartbeats 8000000 in
set_option maxRecDepth 100000 in
theorem rrep_Right.calls (k : Nat) (av : Int) (au : Int) (aw : Int) (ay : ByteArray) (aD : Int) (az : Int) (aA : ByteArray) (ax : Int) (aE : Int) (aC : ByteArray) (ap : Int) (an : ByteArray) (aj : Int) (am : Int) (ak : Int) (ah : Int) (ai : Int) (al : Int) (ao : Int) (ac : ByteArray) (af : ByteArray) (aT : Option Addr) (aN : Nat) (ae : List (S46)) (aq : Int) (ar : ByteArray) (aJ : Option Addr) (aK : Nat) (ag : List (S48)) (r : Bool) (w : World) (bY : Kd.C k46 w aT ae.length ae) (bZ : ae.length ≤ aN) (ca : Kd.C k48 w aJ ag.length ag) (cb : ag.length ≤ aK) (h : rrep_Right.f k av au aw ay aD az aA ax aE aC ap an aj am ak ah ai al ao ac af ae aq ar ag = some r) :
  Calls Try.prog 36 #[.agg #[.int .i64 av, .int .i64 au, .int .i64 aw, .string ay, .int .i64 aD, .int .i64 az, .string aA, .int .i64 ax, .int .i64 aE, .string aC, .int .i64 ap, .string an, .int .i64 aj, .int .i64 am, .int .i64 ak, .int .i64 ah, .int .i64 ai, .int .i64 al, .int .i64 ao, .string ac, .string af, .slice aT ae.length aN, .int .i64 aq, .string ar, .slice aJ ag.length aK]] w fun e w' => e = .returned (.bool r) ∧ Below w.heap.size w w' := by
 have gB := Try.underlying25
 have cT := Aside0.mk bY
 have bl := Aside0.mk bZ
 clear bY bZ
 have cP := Aside0.mk ca
 have bg := Aside0.mk cb
 clear ca cb
 have HB := Aside0.mk (Below.refl w.heap.size w)
 have H : ((msg_Bare.f av au aw ay aD az aA ax aE aC ap an aj am ak ah ai al ao ac af ae aq ar ag).bind fun ba => (if ba = true then ((ext_Right.f k ag).bind fun bf => (rrep_Right.j0 k (!bf) av au aw ay aD az aA ax aE aC ap an aj am ak ah ai al ao ac af ae aq ar ag)) else (rrep_Right.j0 k true av au aw ay aD az aA ax aE aC ap an aj am ak ah ai al ao ac af ae aq ar ag))) = some r := h
 clear h
 have iB := Aside0.mk H
 clear H
 go_enter Try.func36, Try.ntmps36
 go_upto_region 1 with (first | ((with_reducible refine Pre.gate_load 25 rfl ?_); (try (refine gate_guard Z13 ?_; dsimp only)); refine Pre.load_event rfl rfl rfl Z13 Z2 Try.underlying25 rfl Z6 ?_) | ((with_reducible refine gate_dst (N := 1) rfl ?_); (try (refine gate_guard Z13 ?_; dsimp only)); refine box_event ?hg (N := 1) ?hd (cs := #[.int .i64 av, .int .i64 au, .int .i64 aw, .string ay, .int .i64 aD, .int .i64 az, .string aA, .int .i64 ax, .int .i64 aE, .string aC, .int .i64 ap, .string an, .int .i64 aj, .int .i64 am, .int .i64 ak, .int .i64 ah, .int .i64 ai, .int .i64 al, .int .i64 ao, .string ac, .string af, .slice aT ae.length aN, .int .i64 aq, .string ar, .slice aJ ag.length aK]) (t := 25) ?hr ?_; (case hd => rfl); (case hg => rfl); (case hr => first | (go_simp; done) | (go_simp; rfl)); intro aa hg w3 hbox hb; have aG := Aside0.mk (below_step Z3 hb); have aH := Aside0.mk (hbox); have aI := Aside0.mk ((by rw [hg]; exact (below_size Z3) : w.heap.size ≤ aa)); have aZ := Aside0.mk ((by rw [hg]; exact (below_size Z3) : w.heap.size ≤ aa)); replace HB := aG; have ab := aH; have cl := aI; have bs := aZ; clear aG aH aI aZ; clear hb hbox hg))
 (try simp only [Act.put, List.setIfInBounds_toArray, List.set_cons_zero, List.set_cons_succ])
 go_cut [11] (fun nf wc => ∃ (kq : Nat) (dy : Bool), nf = .bool dy ∧ Aside0 (rrep_Right.j0 kq dy av au aw ay aD az aA ax aE aC ap an aj am ak ah ai al ao ac af ae aq ar ag = some r) ∧ Aside0 (kq ≤ k) ∧ Aside0 (wc.heap[aa]? = some (.cells #[.int .i64 av, .int .i64 au, .int .i64 aw, .string ay, .int .i64 aD, .int .i64 az, .string aA, .int .i64 ax, .int .i64 aE, .string aC, .int .i64 ap, .string an, .int .i64 aj, .int .i64 am, .int .i64 ak, .int .i64 ah, .int .i64 ai, .int .i64 al, .int .i64 ao, .string ac, .string af, (.slice aT ae.length aN), .int .i64 aq, .string ar, (.slice aJ ag.length aK)] 25 (0, 0))) ∧ Aside0 (Below w.heap.size w wc))
 case first =>
  have H := iB.out
  clear iB
  replace H := Option.bind_eq_some_iff.mp H
  obtain ⟨ba, jA, H⟩ := H
  replace H : (if ba = true then ((ext_Right.f k ag).bind fun bf => (rrep_Right.j0 k (!bf) av au aw ay aD az aA ax aE aC ap an aj am ak ah ai al ao ac af ae aq ar ag)) else (rrep_Right.j0 k true av au aw ay aD az aA ax aE aC ap an aj am ak ah ai al ao ac af ae aq ar ag)) = some r := H
  have A4 := Aside0.mk jA
  clear jA
  by_cases c5 : ba = true
  ·subst c5
   replace H := Sq.itT H
   replace H := Option.bind_eq_some_iff.mp H
   obtain ⟨bf, ls, H⟩ := H
   replace H : (rrep_Right.j0 k (!bf) av au aw ay aD az aA ax aE aC ap an aj am ak ah ai al ao ac af ae aq ar ag) = some r := H
   have A6 := Aside0.mk ls
   clear ls
   have H' := Aside0.mk H
   clear H
   have jy := cells_25 ab.out
   go_wp2_with (first | ((with_reducible refine Pre.gate_load 25 rfl ?_); (try (refine gate_guard Z13 ?_; dsimp only)); refine Pre.load_event rfl rfl rfl Z13 Z2 Try.underlying25 rfl Z6 ?_) | ((with_reducible refine gate_callee (f := 53) rfl ?_); refine goesL_ (some 4) rfl rfl Try.func53 Z6 rfl #[.agg #[.int .i64 av, .int .i64 au, .int .i64 aw, .string ay, .int .i64 aD, .int .i64 az, .string aA, .int .i64 ax, .int .i64 aE, .string aC, .int .i64 ap, .string an, .int .i64 aj, .int .i64 am, .int .i64 ak, .int .i64 ah, .int .i64 ai, .int .i64 al, .int .i64 ao, .string ac, .string af, .slice aT ae.length aN, .int .i64 aq, .string ar, .slice aJ ag.length aK]] rfl Z5 ?_; (with_reducible refine (msg_Bare.calls av au aw ay aD az aA ax aE aC ap an aj am ak ah ai al ao ac af _ _ ae aq ar _ _ ag true _ ?side1 ?side2 ?side3 ?side4 A4.out).mono ?_); (case side1 => exact Z8); (case side2 => exact bl.out); (case side3 => exact Z7); (case side4 => exact bg.out); rintro e w8 ⟨rfl, hb⟩; refine ⟨_, rfl, ?_⟩; have aG := Aside0.mk (blk_below (g := aa) Z1 hb); have aH := Aside0.mk (below_step Z0 hb); replace ab := aG; replace HB := aH; clear aG aH; (try clear hb); (try clear hb2); (try clear hk); (try clear hi); have iV := cells_25 ab.out) | (go_at_call 55; (with_reducible refine (ext_Right.calls k _ _ ag bf _ ?side1 ?side2 A6.out).mono ?_); (case side1 => exact Z7); (case side2 => exact bg.out); rintro e sg ⟨rfl, hb⟩; have aG := Aside0.mk (blk_below (g := aa) Z1 hb); have aH := Aside0.mk (below_step Z0 hb); replace ab := aG; replace HB := aH; clear aG aH; (try clear hb); (try clear hb2); (try clear hk); (try clear hi)))
   go_meet
   case rel => exact ⟨_, (!bf), Z14, H', ⟨Z41⟩, ⟨Z1⟩, ⟨Z0⟩⟩
  ·replace c5 := Bool.eq_false_iff.mpr c5
   subst c5
   replace H := Sq.itF H
   have H' := Aside0.mk H
   clear H
   have mg := cells_25 ab.out
   go_wp2_with (first | ((with_reducible refine Pre.gate_load 25 rfl ?_); (try (refine gate_guard Z13 ?_; dsimp only)); refine Pre.load_event rfl rfl rfl Z13 Z2 Try.underlying25 rfl Z6 ?_) | ((with_reducible refine gate_callee (f := 53) rfl ?_); refine goesL_ (some 4) rfl rfl Try.func53 Z6 rfl #[.agg #[.int .i64 av, .int .i64 au, .int .i64 aw, .string ay, .int .i64 aD, .int .i64 az, .string aA, .int .i64 ax, .int .i64 aE, .string aC, .int .i64 ap, .string an, .int .i64 aj, .int .i64 am, .int .i64 ak, .int .i64 ah, .int .i64 ai, .int .i64 al, .int .i64 ao, .string ac, .string af, .slice aT ae.length aN, .int .i64 aq, .string ar, .slice aJ ag.length aK]] rfl Z5 ?_; (with_reducible refine (msg_Bare.calls av au aw ay aD az aA ax aE aC ap an aj am ak ah ai al ao ac af _ _ ae aq ar _ _ ag false _ ?side1 ?side2 ?side3 ?side4 A4.out).mono ?_); (case side1 => exact Z8); (case side2 => exact bl.out); (case side3 => exact Z7); (case side4 => exact bg.out); rintro e rc ⟨rfl, hb⟩; refine ⟨_, rfl, ?_⟩; have aG := Aside0.mk (blk_below (g := aa) Z1 hb); have aH := Aside0.mk (below_step Z0 hb); replace ab := aG; replace HB := aH; clear aG aH; (try clear hb); (try clear hb2); (try clear hk); (try clear hi)))
   go_meet
   case rel => exact ⟨_, (true), Z14, H', ⟨Z41⟩, ⟨Z1⟩, ⟨Z0⟩⟩
 case rest =>
  clear iB
  try clear c3
  obtain ⟨kq, dy, rfl, HA, kB, ab, HB⟩ := hcut
  cases kq with
  | zero => exact absurd HA.out (by simp [rrep_Right.j0])
  | succ kj1 =>
   have H := HA.out
   clear HA
   simp only [rrep_Right.j0] at H
   by_cases dB : dy = true
   ·subst dB
    replace H := Sq.itT H
    obtain rfl := Option.some.inj H
    go_wp2_with (first | ((with_reducible refine Pre.gate_load 25 rfl ?_); (try (refine gate_guard Z13 ?_; dsimp only)); refine Pre.load_event rfl rfl rfl Z13 Z2 Try.underlying25 rfl Z6 ?_))
    go_ret
    exact ⟨Z9, Z0⟩
   ·replace dB := Bool.eq_false_iff.mpr dB
    subst dB
    replace H := Sq.itF H
    by_cases gW : av = 6
    ·rw [if_pos gW] at H
     have ko : (av == 6) = true := beq_iff_eq.mpr gW
     have kp : (av != 6) = false := bne_eq_false_iff_eq.mpr gW
     clear gW
     obtain rfl := Option.some.inj H
     have kC := cells_25 ab.out
     go_wp2_with (first | ((with_reducible refine Pre.gate_load 25 rfl ?_); (try (refine gate_guard Z13 ?_; dsimp only)); refine Pre.load_event rfl rfl rfl Z13 Z2 Try.underlying25 rfl Z6 ?_))
     go_ret
     exact ⟨Z9, Z0⟩
    ·rw [if_neg gW] at H
     have ko : (av == 6) = false := beq_eq_false_iff_ne.mpr gW
     have kp : (av != 6) = true := bne_iff_ne.mpr gW
     by_cases ej : av = 4
     ·rw [if_pos ej] at H
      have gL : (av == 4) = true := beq_iff_eq.mpr ej
      have hM : (av != 4) = false := bne_eq_false_iff_eq.mpr ej
      clear ej
      by_cases hY : ah ≥ 0
      ·rw [if_pos hY] at H
       have jI : decide (0 ≤ ah) = true := decide_eq_true hY
       clear hY
       by_cases hP : ah < 4
       ·rw [if_pos hP] at H
        have iN : decide (ah < 4) = true := decide_eq_true hP
        clear hP
        by_cases fe : ax ≥ 0
        ·rw [if_pos fe] at H
         have eV : decide (0 ≤ ax) = true := decide_eq_true fe
         clear fe
         by_cases lg : ax < 32
         ·rw [if_pos lg] at H
          have ob : decide (ax < 32) = true := decide_eq_true lg
          clear lg
          replace H := Option.bind_eq_some_iff.mp H
          obtain ⟨bc, oj, H⟩ := H
          replace H : (if bc = true then ((octet_Fits.f aj 4).bind fun bk => (if bk = true then ((octet_Fits.f ak 4).bind fun bm => (if bm = true then (if (ac.size : Int) = 4 then (some ((af.size : Int) == 4)) else (some false)) else (some false))) else (some false))) else (some false)) = some r := H
          have iF := Aside0.mk oj
          clear oj
          by_cases iC : bc = true
          ·subst iC
           replace H := Sq.itT H
           replace H := Option.bind_eq_some_iff.mp H
           obtain ⟨bk, iI, H⟩ := H
           replace H : (if bk = true then ((octet_Fits.f ak 4).bind fun bm => (if bm = true then (if (ac.size : Int) = 4 then (some ((af.size : Int) == 4)) else (some false)) else (some false))) else (some false)) = some r := H
           have lT := Aside0.mk iI
           clear iI
           by_cases fz : bk = true
           ·subst fz
            replace H := Sq.itT H
            replace H := Option.bind_eq_some_iff.mp H
            obtain ⟨bm, oA, H⟩ := H
            replace H : (if bm = true then (if (ac.size : Int) = 4 then (some ((af.size : Int) == 4)) else (some false)) else (some false)) = some r := H
            have te := Aside0.mk oA
            clear oA
            by_cases jG : bm = true
            ·subst jG
             replace H := Sq.itT H
             by_cases iD : (ac.size : Int) = 4
             ·rw [if_pos iD] at H
              have nW : ((ac.size : Int) == 4) = true := beq_iff_eq.mpr iD
              have nX : ((ac.size : Int) != 4) = false := bne_eq_false_iff_eq.mpr iD
              clear iD
              obtain rfl := Option.some.inj H
              have kI := cells_25 ab.out
              go_wp2_with (first | ((with_reducible refine Pre.gate_load 25 rfl ?_); (try (refine gate_guard Z13 ?_; dsimp only)); refine Pre.load_event rfl rfl rfl Z13 Z2 Try.underlying25 rfl Z6 ?_) | (go_at_call 54; (with_reducible refine (octet_Fits.calls ai 1 true _ iF.out).mono ?_); rintro e w' ⟨rfl, ⟨nd, rfl⟩⟩) | (go_at_call 54; (with_reducible refine (octet_Fits.calls aj 4 true _ lT.out).mono ?_); rintro e w' ⟨rfl, ⟨nd, rfl⟩⟩) | (go_at_call 54; (with_reducible refine (octet_Fits.calls ak 4 true _ te.out).mono ?_); rintro e w' ⟨rfl, ⟨nd, rfl⟩⟩))
              go_ret
              exact ⟨Z9, Z0⟩
             ·rw [if_neg iD] at H
              have nW : ((ac.size : Int) == 4) = false := beq_eq_false_iff_ne.mpr iD
              have nX : ((ac.size : Int) != 4) = true := bne_iff_ne.mpr iD
              obtain rfl := Option.some.inj H
              have kr := cells_25 ab.out
              go_wp2_with (first | ((with_reducible refine Pre.gate_load 25 rfl ?_); (try (refine gate_guard Z13 ?_; dsimp only)); refine Pre.load_event rfl rfl rfl Z13 Z2 Try.underlying25 rfl Z6 ?_) | (go_at_call 54; (with_reducible refine (octet_Fits.calls ai 1 true _ iF.out).mono ?_); rintro e w' ⟨rfl, ⟨nd, rfl⟩⟩) | (go_at_call 54; (with_reducible refine (octet_Fits.calls aj 4 true _ lT.out).mono ?_); rintro e w' ⟨rfl, ⟨nd, rfl⟩⟩) | (go_at_call 54; (with_reducible refine (octet_Fits.calls ak 4 true _ te.out).mono ?_); rintro e w' ⟨rfl, ⟨nd, rfl⟩⟩))
              go_ret
              exact ⟨Z9, Z0⟩
            ·replace jG := Bool.eq_false_iff.mpr jG
             subst jG
             replace H := Sq.itF H
             obtain rfl := Option.some.inj H
             have nh := cells_25 ab.out
             go_wp2_with (first | ((with_reducible refine Pre.gate_load 25 rfl ?_); (try (refine gate_guard Z13 ?_; dsimp only)); refine Pre.load_event rfl rfl rfl Z13 Z2 Try.underlying25 rfl Z6 ?_) | (go_at_call 54; (with_reducible refine (octet_Fits.calls ai 1 true _ iF.out).mono ?_); rintro e w' ⟨rfl, ⟨nd, rfl⟩⟩) | (go_at_call 54; (with_reducible refine (octet_Fits.calls aj 4 true _ lT.out).mono ?_); rintro e w' ⟨rfl, ⟨nd, rfl⟩⟩) | (go_at_call 54; (with_reducible refine (octet_Fits.calls ak 4 false _ te.out).mono ?_); rintro e w' ⟨rfl, ⟨nd, rfl⟩⟩))
             go_ret
             exact ⟨Z9, Z0⟩
           ·replace fz := Bool.eq_false_iff.mpr fz
            subst fz
            replace H := Sq.itF H
            obtain rfl := Option.some.inj H
            have mc := cells_25 ab.out
            go_wp2_with (first | ((with_reducible refine Pre.gate_load 25 rfl ?_); (try (refine gate_guard Z13 ?_; dsimp only)); refine Pre.load_event rfl rfl rfl Z13 Z2 Try.underlying25 rfl Z6 ?_) | (go_at_call 54; (with_reducible refine (octet_Fits.calls ai 1 true _ iF.out).mono ?_); rintro e w' ⟨rfl, ⟨nd, rfl⟩⟩) | (go_at_call 54; (with_reducible refine (octet_Fits.calls aj 4 false _ lT.out).mono ?_); rintro e w' ⟨rfl, ⟨nd, rfl⟩⟩))
            go_ret
            exact ⟨Z9, Z0⟩
          ·replace iC := Bool.eq_false_iff.mpr iC
           subst iC
           replace H := Sq.itF H
           obtain rfl := Option.some.inj H
           have ni := cells_25 ab.out
           go_wp2_with (first | ((with_reducible refine Pre.gate_load 25 rfl ?_); (try (refine gate_guard Z13 ?_; dsimp only)); refine Pre.load_event rfl rfl rfl Z13 Z2 Try.underlying25 rfl Z6 ?_) | (go_at_call 54; (with_reducible refine (octet_Fits.calls ai 1 false _ iF.out).mono ?_); rintro e w' ⟨rfl, ⟨nd, rfl⟩⟩))
           go_ret
           exact ⟨Z9, Z0⟩
         ·rw [if_neg lg] at H
          have ob : decide (ax < 32) = false := decide_eq_false lg
          clear lg
          obtain rfl := Option.some.inj H
          have lv := cells_25 ab.out
          go_wp2_with (first | ((with_reducible refine Pre.gate_load 25 rfl ?_); (try (refine gate_guard Z13 ?_; dsimp only)); refine Pre.load_event rfl rfl rfl Z13 Z2 Try.underlying25 rfl Z6 ?_))
          go_ret
          exact ⟨Z9, Z0⟩
        ·rw [if_neg fe] at H
         have eV : decide (0 ≤ ax) = false := decide_eq_false fe
         clear fe
         obtain rfl := Option.some.inj H
         have qt := cells_25 ab.out
         go_wp2_with (first | ((with_reducible refine Pre.gate_load 25 rfl ?_); (try (refine gate_guard Z13 ?_; dsimp only)); refine Pre.load_event rfl rfl rfl Z13 Z2 Try.underlying25 rfl Z6 ?_))
         go_ret
         exact ⟨Z9, Z0⟩
       ·rw [if_neg hP] at H
        have iN : decide (ah < 4) = false := decide_eq_false hP
        clear hP
        obtain rfl := Option.some.inj H
        have jj := cells_25 ab.out
        go_wp2_with (first | ((with_reducible refine Pre.gate_load 25 rfl ?_); (try (refine gate_guard Z13 ?_; dsimp only)); refine Pre.load_event rfl rfl rfl Z13 Z2 Try.underlying25 rfl Z6 ?_))
        go_ret
        exact ⟨Z9, Z0⟩
      ·rw [if_neg hY] at H
       have jI : decide (0 ≤ ah) = false := decide_eq_false hY
       clear hY
       obtain rfl := Option.some.inj H
       have qu := cells_25 ab.out
       go_wp2_with (first | ((with_reducible refine Pre.gate_load 25 rfl ?_); (try (refine gate_guard Z13 ?_; dsimp only)); refine Pre.load_event rfl rfl rfl Z13 Z2 Try.underlying25 rfl Z6 ?_))
       go_ret
       exact ⟨Z9, Z0⟩
     ·rw [if_neg ej] at H
      have gL : (av == 4) = false := beq_eq_false_iff_ne.mpr ej
      have hM : (av != 4) = true := bne_iff_ne.mpr ej
      obtain rfl := Option.some.inj H
      have oB := cells_25 ab.out
      go_wp2_with (first | ((with_reducible refine Pre.gate_load 25 rfl ?_); (try (refine gate_guard Z13 ?_; dsimp only)); refine Pre.load_event rfl rfl rfl Z13 Z2 Try.underlying25 rfl Z6 ?_))
      go_ret
      exact ⟨Z9, Z0⟩

/-! ### rrep_Put: function 34 -/
def rrep_Put.f (k : Nat) (av : Int) (au : Int) (aw : Int) (ay : ByteArray) (aD : Int) (az : Int) (aA : ByteArray) (ax : Int) (aE : Int) (aC : ByteArray) (ap : Int) (an : ByteArray) (aj : Int) (am : Int) (ak : Int) (ah : Int) (ai : Int) (al : Int) (ao : Int) (ac : ByteArray) (af : ByteArray) (ae : List (S46)) (aq : Int) (ar : ByteArray) (ag : List (S48)) : Option (ByteArray × Bool) := (rrep_Right.f k av au aw ay aD az aA ax aE aC ap an aj am ak ah ai al ao ac af ae aq ar ag).bind fun ba => (if ba = true then ((ext_Put.f k ag).bind fun bW => (if av = 6 then (if 2 + bW.1.size ≤ 9223372036854775807 then (some ((⟨#[4, 0]⟩ : ByteArray) ++ bW.1, true)) else (none)) else ((octet_Put.f k aj 4).bind fun fD => ((octet_Put.f k ak 4).bind fun bn => ((some (([2, (wrap64 (ah * 64)) % 256, (ax) % 256, (ai) % 256] : List Int) : List Int)).bind fun df => (if (strOfNums df).size + ac.size ≤ 9223372036854775807 then (if ((strOfNums df) ++ ac).size + fD.1.size ≤ 9223372036854775807 then (if (((strOfNums df) ++ ac) ++ fD.1).size + af.size ≤ 9223372036854775807 then (if ((((strOfNums df) ++ ac) ++ fD.1) ++ af).size + bn.1.size ≤ 9223372036854775807 then (if (((((strOfNums df) ++ ac) ++ fD.1) ++ af) ++ bn.1).size + bW.1.size ≤ 9223372036854775807 then (some ((((((strOfNums df) ++ ac) ++ fD.1) ++ af) ++ bn.1) ++ bW.1, true)) else (none)) else (none)) else (none)) else (none)) else (none))))))) else (some ((⟨#[]⟩ : ByteArray), false)))
theorem rrep_Put.mono : ∀ a0 a1 a2 a3 a4 a5 a6 a7 a8 a9 fJ fK fL fM fN fO fP fQ fR fS fT fU fV fW fX k, LeO (rrep_Put.f k a0 a1 a2 a3 a4 a5 a6 a7 a8 a9 fJ fK fL fM fN fO fP fQ fR fS fT fU fV fW fX) (rrep_Put.f (k + 1) a0 a1 a2 a3 a4 a5 a6 a7 a8 a9 fJ fK fL fM fN fO fP fQ fR fS fT fU fV fW fX) := by
 intro a0 a1 a2 a3 a4 a5 a6 a7 a8 a9 fJ fK fL fM fN fO fP fQ fR fS fT fU fV fW fX k
 unfold rrep_Put.f
 repeat' first
   | (with_reducible exact ext_Put.mono _ _)
   | (with_reducible exact octet_Put.mono _ _ _)
   | (with_reducible exact rrep_Right.mono _ _ _ _ _ _ _ _ _ _ _ _ _ _ _ _ _ _ _ _ _ _ _ _ _ _)
   | (with_reducible exact LeO.refl _)
   | (with_reducible exact LeO.none _)
   | (with_reducible refine LeO.ite ?_ ?_)
   | (with_reducible refine LeO.bind ?_ (fun _ => ?_))
   | exact ext_Put.mono _ _
   | exact octet_Put.mono _ _ _
   | exact rrep_Right.mono _ _ _ _ _ _ _ _ _ _ _ _ _ _ _ _ _ _ _ _ _ _ _ _ _ _
   | exact LeO.none _
   | refine LeO.ite ?_ ?_
   | refine LeO.bind ?_ (fun _ => ?_)

set_option maxHeartbeats 8000000 in
set_option maxRecDepth 100000 in
theorem rrep_Put.calls (k : Nat) (av : Int) (au : Int) (aw : Int) (ay : ByteArray) (aD : Int) (az : Int) (aA : ByteArray) (ax : Int) (aE : Int) (aC : ByteArray) (ap : Int) (an : ByteArray) (aj : Int) (am : Int) (ak : Int) (ah : Int) (ai : Int) (al : Int) (ao : Int) (ac : ByteArray) (af : ByteArray) (aT : Option Addr) (aN : Nat) (ae : List (S46)) (aq : Int) (ar : ByteArray) (aJ : Option Addr) (aK : Nat) (ag : List (S48)) (r1 : ByteArray) (r2 : Bool) (w : World) (bY : Kd.C k46 w aT ae.length ae) (bZ : ae.length ≤ aN) (ca : Kd.C k48 w aJ ag.length ag) (cb : ag.length ≤ aK) (h : rrep_Put.f k av au aw ay aD az aA ax aE aC ap an aj am ak ah ai al ao ac af ae aq ar ag = some (r1, r2)) :
  Calls Try.prog 34 #[.agg #[.int .i64 av, .int .i64 au, .int .i64 aw, .string ay, .int .i64 aD, .int .i64 az, .string aA, .int .i64 ax, .int .i64 aE, .string aC, .int .i64 ap, .string an, .int .i64 aj, .int .i64 am, .int .i64 ak, .int .i64 ah, .int .i64 ai, .int .i64 al, .int .i64 ao, .string ac, .string af, .slice aT ae.length aN, .int .i64 aq, .string ar, .slice aJ ag.length aK]] w fun e w' => e = .returned (.tuple #[.string r1, .bool r2]) ∧ Below w.heap.size w w' := by
 have gB := Try.underlying25
 have cT := Aside0.mk bY
 have bl := Aside0.mk bZ
 clear bY bZ
 have cP := Aside0.mk ca
 have bg := Aside0.mk cb
 clear ca cb
 have HB := Aside0.mk (Below.refl w.heap.size w)
 have H : ((rrep_Right.f k av au aw ay aD az aA ax aE aC ap an aj am ak ah ai al ao ac af ae aq ar ag).bind fun ba => (if ba = true then ((ext_Put.f k ag).bind fun bW => (if av = 6 then (if 2 + bW.1.size ≤ 9223372036854775807 then (some ((⟨#[4, 0]⟩ : ByteArray) ++ bW.1, true)) else (none)) else ((octet_Put.f k aj 4).bind fun fD => ((octet_Put.f k ak 4).bind fun bn => ((some (([2, (wrap64 (ah * 64)) % 256, (ax) % 256, (ai) % 256] : List Int) : List Int)).bind fun df => (if (strOfNums df).size + ac.size ≤ 9223372036854775807 then (if ((strOfNums df) ++ ac).size + fD.1.size ≤ 9223372036854775807 then (if (((strOfNums df) ++ ac) ++ fD.1).size + af.size ≤ 9223372036854775807 then (if ((((strOfNums df) ++ ac) ++ fD.1) ++ af).size + bn.1.size ≤ 9223372036854775807 then (if (((((strOfNums df) ++ ac) ++ fD.1) ++ af) ++ bn.1).size + bW.1.size ≤ 9223372036854775807 then (some ((((((strOfNums df) ++ ac) ++ fD.1) ++ af) ++ bn.1) ++ bW.1, true)) else (none)) else (none)) else (none)) else (none)) else (none))))))) else (some ((⟨#[]⟩ : ByteArray), false)))) = some (r1, r2) := h
 clear h
 replace H := Option.bind_eq_some_iff.mp H
 obtain ⟨ba, gN, H⟩ := H
 replace H : (if ba = true then ((ext_Put.f k ag).bind fun bW => (if av = 6 then (if 2 + bW.1.size ≤ 9223372036854775807 then (some ((⟨#[4, 0]⟩ : ByteArray) ++ bW.1, true)) else (none)) else ((octet_Put.f k aj 4).bind fun fD => ((octet_Put.f k ak 4).bind fun bn => ((some (([2, (wrap64 (ah * 64)) % 256, (ax) % 256, (ai) % 256] : List Int) : List Int)).bind fun df => (if (strOfNums df).size + ac.size ≤ 9223372036854775807 then (if ((strOfNums df) ++ ac).size + fD.1.size ≤ 9223372036854775807 then (if (((strOfNums df) ++ ac) ++ fD.1).size + af.size ≤ 9223372036854775807 then (if ((((strOfNums df) ++ ac) ++ fD.1) ++ af).size + bn.1.size ≤ 9223372036854775807 then (if (((((strOfNums df) ++ ac) ++ fD.1) ++ af) ++ bn.1).size + bW.1.size ≤ 9223372036854775807 then (some ((((((strOfNums df) ++ ac) ++ fD.1) ++ af) ++ bn.1) ++ bW.1, true)) else (none)) else (none)) else (none)) else (none)) else (none))))))) else (some ((⟨#[]⟩ : ByteArray), false))) = some (r1, r2) := H
 have A2 := Aside0.mk gN
 clear gN
 by_cases c3 : ba = true
 ·subst c3
  have H1 : ((ext_Put.f k ag).bind fun bW => (if av = 6 then (if 2 + bW.1.size ≤ 9223372036854775807 then (some ((⟨#[4, 0]⟩ : ByteArray) ++ bW.1, true)) else (none)) else ((octet_Put.f k aj 4).bind fun fD => ((octet_Put.f k ak 4).bind fun bn => ((some (([2, (wrap64 (ah * 64)) % 256, (ax) % 256, (ai) % 256] : List Int) : List Int)).bind fun df => (if (strOfNums df).size + ac.size ≤ 9223372036854775807 then (if ((strOfNums df) ++ ac).size + fD.1.size ≤ 9223372036854775807 then (if (((strOfNums df) ++ ac) ++ fD.1).size + af.size ≤ 9223372036854775807 then (if ((((strOfNums df) ++ ac) ++ fD.1) ++ af).size + bn.1.size ≤ 9223372036854775807 then (if (((((strOfNums df) ++ ac) ++ fD.1) ++ af) ++ bn.1).size + bW.1.size ≤ 9223372036854775807 then (some ((((((strOfNums df) ++ ac) ++ fD.1) ++ af) ++ bn.1) ++ bW.1, true)) else (none)) else (none)) else (none)) else (none)) else (none))))))) = some (r1, r2) := by rw [if_pos rfl] at H; exact H
  clear H
  have H := H1
  clear H1
  replace H := Option.bind_eq_some_iff.mp H
  obtain ⟨⟨bf, bc⟩, jA, H⟩ := H
  replace H : (if av = 6 then (if 2 + bf.size ≤ 9223372036854775807 then (some ((⟨#[4, 0]⟩ : ByteArray) ++ bf, true)) else (none)) else ((octet_Put.f k aj 4).bind fun fD => ((octet_Put.f k ak 4).bind fun bn => ((some (([2, (wrap64 (ah * 64)) % 256, (ax) % 256, (ai) % 256] : List Int) : List Int)).bind fun df => (if (strOfNums df).size + ac.size ≤ 9223372036854775807 then (if ((strOfNums df) ++ ac).size + fD.1.size ≤ 9223372036854775807 then (if (((strOfNums df) ++ ac) ++ fD.1).size + af.size ≤ 9223372036854775807 then (if ((((strOfNums df) ++ ac) ++ fD.1) ++ af).size + bn.1.size ≤ 9223372036854775807 then (if (((((strOfNums df) ++ ac) ++ fD.1) ++ af) ++ bn.1).size + bf.size ≤ 9223372036854775807 then (some ((((((strOfNums df) ++ ac) ++ fD.1) ++ af) ++ bn.1) ++ bf, true)) else (none)) else (none)) else (none)) else (none)) else (none)))))) = some (r1, r2) := H
  have A4 := Aside0.mk jA
  clear jA
  by_cases c5 : av = 6
  ·rw [if_pos c5] at H
   have hm : (av == 6) = true := beq_iff_eq.mpr c5
   have jC : (av != 6) = false := bne_eq_false_iff_eq.mpr c5
   clear c5
   by_cases c6 : 2 + bf.size ≤ 9223372036854775807
   ·rw [if_pos c6] at H
    have gZ := eq_true c6
    have ii : decide (2 + bf.size ≤ 9223372036854775807) = true := decide_eq_true c6
    try have lM : (9223372036854775807 < 2 + bf.size) = False := eq_false (Nat.not_lt.2 c6)
    try (have lN := lM; simp only [ByteArray.size_append] at lN)
    simp only [Option.some.injEq, Prod.mk.injEq] at H
    obtain ⟨rfl, rfl⟩ := H
    go_enter Try.func34, Try.ntmps34
    go_wp2_with (first | ((with_reducible refine Pre.gate_load 25 rfl ?_); (try (refine gate_guard Z13 ?_; dsimp only)); refine Pre.load_event rfl rfl rfl Z13 Z2 Try.underlying25 rfl Z6 ?_) | ((with_reducible refine gate_dst (N := 1) rfl ?_); refine box_event ?hg (N := 1) ?hd (cs := #[.int .i64 av, .int .i64 au, .int .i64 aw, .string ay, .int .i64 aD, .int .i64 az, .string aA, .int .i64 ax, .int .i64 aE, .string aC, .int .i64 ap, .string an, .int .i64 aj, .int .i64 am, .int .i64 ak, .int .i64 ah, .int .i64 ai, .int .i64 al, .int .i64 ao, .string ac, .string af, .slice aT ae.length aN, .int .i64 aq, .string ar, .slice aJ ag.length aK]) (t := 25) ?hr ?_; (case hd => rfl); (case hg => rfl); (case hr => first | (go_simp; done) | (go_simp; rfl)); intro aa hg w7 hbox hb; have aG := Aside0.mk (below_step Z3 hb); have aH := Aside0.mk (hbox); have aI := Aside0.mk ((by rw [hg]; exact (below_size Z3) : w.heap.size ≤ aa)); have aZ := Aside0.mk ((by rw [hg]; exact (below_size Z3) : w.heap.size ≤ aa)); replace HB := aG; have ab := aH; have cl := aI; have bs := aZ; clear aG aH aI aZ; clear hb hbox hg; have nC := cells_25 ab.out) | ((with_reducible refine gate_callee (f := 36) rfl ?_); refine goesL_ (some 11) rfl rfl Try.func36 Z6 rfl #[.agg #[.int .i64 av, .int .i64 au, .int .i64 aw, .string ay, .int .i64 aD, .int .i64 az, .string aA, .int .i64 ax, .int .i64 aE, .string aC, .int .i64 ap, .string an, .int .i64 aj, .int .i64 am, .int .i64 ak, .int .i64 ah, .int .i64 ai, .int .i64 al, .int .i64 ao, .string ac, .string af, .slice aT ae.length aN, .int .i64 aq, .string ar, .slice aJ ag.length aK]] rfl Z5 ?_; (with_reducible refine (rrep_Right.calls k av au aw ay aD az aA ax aE aC ap an aj am ak ah ai al ao ac af _ _ ae aq ar _ _ ag true _ ?side1 ?side2 ?side3 ?side4 A2.out).mono ?_); (case side1 => exact Z8); (case side2 => exact bl.out); (case side3 => exact Z7); (case side4 => exact bg.out); rintro e w9 ⟨rfl, hb⟩; refine ⟨_, rfl, ?_⟩; have aG := Aside0.mk (blk_below (g := aa) Z1 hb); have aH := Aside0.mk (below_step Z0 hb); replace ab := aG; replace HB := aH; clear aG aH; (try clear hb); (try clear hb2); (try clear hk); (try clear hi); have jH := cells_25 ab.out) | ((with_reducible refine gate_callee (f := 49) rfl ?_); refine goesL_ (some 16) rfl rfl Try.func49 Z6 rfl #[.slice aJ ag.length aK] rfl Z5 ?_; (with_reducible refine (ext_Put.calls k _ _ ag bf bc _ ?side1 ?side2 A4.out).mono ?_); (case side1 => exact Z7); (case side2 => exact bg.out); rintro e pA ⟨rfl, hb⟩; refine ⟨_, rfl, ?_⟩; have aG := Aside0.mk (blk_below (g := aa) Z1 hb); have aH := Aside0.mk (below_step Z0 hb); replace ab := aG; replace HB := aH; clear aG aH; (try clear hb); (try clear hb2); (try clear hk); (try clear hi); have md := cells_25 ab.out))
    go_ret2
    exact ⟨Z9, Z0⟩
   ·rw [if_neg c6] at H
    exact absurd H Z73
  ·rw [if_neg c5] at H
   have hm : (av == 6) = false := beq_eq_false_iff_ne.mpr c5
   have jC : (av != 6) = true := bne_iff_ne.mpr c5
   replace H := Option.bind_eq_some_iff.mp H
   obtain ⟨⟨bk, bm⟩, mf, H⟩ := H
   replace H : ((octet_Put.f k ak 4).bind fun bn => ((some (([2, (wrap64 (ah * 64)) % 256, (ax) % 256, (ai) % 256] : List Int) : List Int)).bind fun df => (if (strOfNums df).size + ac.size ≤ 9223372036854775807 then (if ((strOfNums df) ++ ac).size + bk.size ≤ 9223372036854775807 then (if (((strOfNums df) ++ ac) ++ bk).size + af.size ≤ 9223372036854775807 then (if ((((strOfNums df) ++ ac) ++ bk) ++ af).size + bn.1.size ≤ 9223372036854775807 then (if (((((strOfNums df) ++ ac) ++ bk) ++ af) ++ bn.1).size + bf.size ≤ 9223372036854775807 then (some ((((((strOfNums df) ++ ac) ++ bk) ++ af) ++ bn.1) ++ bf, true)) else (none)) else (none)) else (none)) else (none)) else (none)))) = some (r1, r2) := H
   have qv := Aside0.mk mf
   clear mf
   replace H := Option.bind_eq_some_iff.mp H
   obtain ⟨⟨bp, aQ⟩, iu, H⟩ := H
   replace H : ((some (([2, (wrap64 (ah * 64)) % 256, (ax) % 256, (ai) % 256] : List Int) : List Int)).bind fun df => (if (strOfNums df).size + ac.size ≤ 9223372036854775807 then (if ((strOfNums df) ++ ac).size + bk.size ≤ 9223372036854775807 then (if (((strOfNums df) ++ ac) ++ bk).size + af.size ≤ 9223372036854775807 then (if ((((strOfNums df) ++ ac) ++ bk) ++ af).size + bp.size ≤ 9223372036854775807 then (if (((((strOfNums df) ++ ac) ++ bk) ++ af) ++ bp).size + bf.size ≤ 9223372036854775807 then (some ((((((strOfNums df) ++ ac) ++ bk) ++ af) ++ bp) ++ bf, true)) else (none)) else (none)) else (none)) else (none)) else (none))) = some (r1, r2) := H
   have mJ := Aside0.mk iu
   clear iu
   obtain ⟨df, hy109⟩ : ∃ y_ : List Int, y_ = (([2, (wrap64 (ah * 64)) % 256, (ax) % 256, (ai) % 256] : List Int)) := ⟨_, rfl⟩
   replace H : (if (strOfNums df).size + ac.size ≤ 9223372036854775807 then (if ((strOfNums df) ++ ac).size + bk.size ≤ 9223372036854775807 then (if (((strOfNums df) ++ ac) ++ bk).size + af.size ≤ 9223372036854775807 then (if ((((strOfNums df) ++ ac) ++ bk) ++ af).size + bp.size ≤ 9223372036854775807 then (if (((((strOfNums df) ++ ac) ++ bk) ++ af) ++ bp).size + bf.size ≤ 9223372036854775807 then (some ((((((strOfNums df) ++ ac) ++ bk) ++ af) ++ bp) ++ bf, true)) else (none)) else (none)) else (none)) else (none)) else (none)) = some (r1, r2) := by first | (rw [hy109]; with_reducible exact H) | (have H2_ := (Option.bind_some _ _).symm.trans H; rw [hy109]; with_reducible exact H2_) | (have H2_ := (Option.bind_some _ _).symm.trans H; with_reducible exact H2_) | with_reducible exact H | (rw [hy109]; exact H) | exact H
   have Ny109 := Aside0.mk hy109
   clear hy109
   by_cases fd : (strOfNums df).size + ac.size ≤ 9223372036854775807
   ·rw [if_pos fd] at H
    have ix := eq_true fd
    have iZ : decide ((strOfNums df).size + ac.size ≤ 9223372036854775807) = true := decide_eq_true fd
    try have tf : (9223372036854775807 < (strOfNums df).size + ac.size) = False := eq_false (Nat.not_lt.2 fd)
    try (have tg := tf; simp only [ByteArray.size_append] at tg)
    by_cases ej : ((strOfNums df) ++ ac).size + bk.size ≤ 9223372036854775807
    ·rw [if_pos ej] at H
     have gL := eq_true ej
     have hM : decide (((strOfNums df) ++ ac).size + bk.size ≤ 9223372036854775807) = true := decide_eq_true ej
     try have ly : (9223372036854775807 < ((strOfNums df) ++ ac).size + bk.size) = False := eq_false (Nat.not_lt.2 ej)
     try (have mh := ly; simp only [ByteArray.size_append] at mh)
     by_cases hY : (((strOfNums df) ++ ac) ++ bk).size + af.size ≤ 9223372036854775807
     ·rw [if_pos hY] at H
      have jI := eq_true hY
      have mW : decide ((((strOfNums df) ++ ac) ++ bk).size + af.size ≤ 9223372036854775807) = true := decide_eq_true hY
      try have oC : (9223372036854775807 < (((strOfNums df) ++ ac) ++ bk).size + af.size) = False := eq_false (Nat.not_lt.2 hY)
      try (have oD := oC; simp only [ByteArray.size_append] at oD)
      by_cases hP : ((((strOfNums df) ++ ac) ++ bk) ++ af).size + bp.size ≤ 9223372036854775807
      ·rw [if_pos hP] at H
       have iN := eq_true hP
       have jS : decide (((((strOfNums df) ++ ac) ++ bk) ++ af).size + bp.size ≤ 9223372036854775807) = true := decide_eq_true hP
       try have th : (9223372036854775807 < ((((strOfNums df) ++ ac) ++ bk) ++ af).size + bp.size) = False := eq_false (Nat.not_lt.2 hP)
       try (have ti := th; simp only [ByteArray.size_append] at ti)
       by_cases fe : (((((strOfNums df) ++ ac) ++ bk) ++ af) ++ bp).size + bf.size ≤ 9223372036854775807
       ·rw [if_pos fe] at H
        have eV := eq_true fe
        have ic : decide ((((((strOfNums df) ++ ac) ++ bk) ++ af) ++ bp).size + bf.size ≤ 9223372036854775807) = true := decide_eq_true fe
        try have ja : (9223372036854775807 < (((((strOfNums df) ++ ac) ++ bk) ++ af) ++ bp).size + bf.size) = False := eq_false (Nat.not_lt.2 fe)
        try (have lz := ja; simp only [ByteArray.size_append] at lz)
        simp only [Option.some.injEq, Prod.mk.injEq] at H
        obtain ⟨rfl, rfl⟩ := H
        go_enter Try.func34, Try.ntmps34
        go_wp2_with (first | ((with_reducible refine Pre.gate_load 25 rfl ?_); (try (refine gate_guard Z13 ?_; dsimp only)); refine Pre.load_event rfl rfl rfl Z13 Z2 Try.underlying25 rfl Z6 ?_) | ((with_reducible refine gate_dst (N := 1) rfl ?_); refine box_event ?hg (N := 1) ?hd (cs := #[.int .i64 av, .int .i64 au, .int .i64 aw, .string ay, .int .i64 aD, .int .i64 az, .string aA, .int .i64 ax, .int .i64 aE, .string aC, .int .i64 ap, .string an, .int .i64 aj, .int .i64 am, .int .i64 ak, .int .i64 ah, .int .i64 ai, .int .i64 al, .int .i64 ao, .string ac, .string af, .slice aT ae.length aN, .int .i64 aq, .string ar, .slice aJ ag.length aK]) (t := 25) ?hr ?_; (case hd => rfl); (case hg => rfl); (case hr => first | (go_simp; done) | (go_simp; rfl)); intro aa hg kG hbox hb; have aG := Aside0.mk (below_step Z3 hb); have aH := Aside0.mk (hbox); have aI := Aside0.mk ((by rw [hg]; exact (below_size Z3) : w.heap.size ≤ aa)); have aZ := Aside0.mk ((by rw [hg]; exact (below_size Z3) : w.heap.size ≤ aa)); replace HB := aG; have ab := aH; have cl := aI; have bs := aZ; clear aG aH aI aZ; clear hb hbox hg; have lq := cells_25 ab.out) | ((with_reducible refine gate_callee (f := 36) rfl ?_); refine goesL_ (some 11) rfl rfl Try.func36 Z6 rfl #[.agg #[.int .i64 av, .int .i64 au, .int .i64 aw, .string ay, .int .i64 aD, .int .i64 az, .string aA, .int .i64 ax, .int .i64 aE, .string aC, .int .i64 ap, .string an, .int .i64 aj, .int .i64 am, .int .i64 ak, .int .i64 ah, .int .i64 ai, .int .i64 al, .int .i64 ao, .string ac, .string af, .slice aT ae.length aN, .int .i64 aq, .string ar, .slice aJ ag.length aK]] rfl Z5 ?_; (with_reducible refine (rrep_Right.calls k av au aw ay aD az aA ax aE aC ap an aj am ak ah ai al ao ac af _ _ ae aq ar _ _ ag true _ ?side1 ?side2 ?side3 ?side4 A2.out).mono ?_); (case side1 => exact Z8); (case side2 => exact bl.out); (case side3 => exact Z7); (case side4 => exact bg.out); rintro e ij ⟨rfl, hb⟩; refine ⟨_, rfl, ?_⟩; have aG := Aside0.mk (blk_below (g := aa) Z1 hb); have aH := Aside0.mk (below_step Z0 hb); replace ab := aG; replace HB := aH; clear aG aH; (try clear hb); (try clear hb2); (try clear hk); (try clear hi); have jO := cells_25 ab.out) | ((with_reducible refine gate_callee (f := 49) rfl ?_); refine goesL_ (some 16) rfl rfl Try.func49 Z6 rfl #[.slice aJ ag.length aK] rfl Z5 ?_; (with_reducible refine (ext_Put.calls k _ _ ag bf bc _ ?side1 ?side2 A4.out).mono ?_); (case side1 => exact Z7); (case side2 => exact bg.out); rintro e ed ⟨rfl, hb⟩; refine ⟨_, rfl, ?_⟩; have aG := Aside0.mk (blk_below (g := aa) Z1 hb); have aH := Aside0.mk (below_step Z0 hb); replace ab := aG; replace HB := aH; clear aG aH; (try clear hb); (try clear hb2); (try clear hk); (try clear hi); have iv := cells_25 ab.out) | ((with_reducible refine gate_callee (f := 67) rfl ?_); refine goesL_ (some 27) rfl rfl Try.func67 Z6 rfl #[.int .i64 aj, .int .i64 4] rfl Z5 ?_; (with_reducible refine (octet_Put.calls k aj 4 bk bm _ qv.out).mono ?_); rintro e gD ⟨rfl, hb⟩; refine ⟨_, rfl, ?_⟩; have aG := Aside0.mk (blk_below (g := aa) Z1 hb); have aH := Aside0.mk (below_step Z0 hb); replace ab := aG; replace HB := aH; clear aG aH; (try clear hb); (try clear hb2); (try clear hk); (try clear hi); have lu := cells_25 ab.out) | ((with_reducible refine gate_callee (f := 67) rfl ?_); refine goesL_ (some 33) rfl rfl Try.func67 Z6 rfl #[.int .i64 ak, .int .i64 4] rfl Z5 ?_; (with_reducible refine (octet_Put.calls k ak 4 bp aQ _ mJ.out).mono ?_); rintro e nl ⟨rfl, hb⟩; refine ⟨_, rfl, ?_⟩; have aG := Aside0.mk (blk_below (g := aa) Z1 hb); have aH := Aside0.mk (below_step Z0 hb); replace ab := aG; replace HB := aH; clear aG aH; (try clear hb); (try clear hb2); (try clear hk); (try clear hi); have kr := cells_25 ab.out) | ((with_reducible refine gate_dst (N := 46) rfl ?_); refine Kd.R_lit (Kd.int .u8) _ 5 ?hg (N := 46) ?hd (xs := ([2, (wrap64 (ah * 64)) % 256, (ax) % 256, (ai) % 256] : List Int)) (inner := [.int .u8 2, .int .u8 ((wrap64 (ah * 64)) % 256), .int .u8 ((ax) % 256), .int .u8 ((ai) % 256)]) (ok := fun _ => True) (okp := fun _ => True) ?hr ?hp (fun _ hk => hk) trivial (Below.refl _ _) (Nat.le_refl _) Z73 ?_; (case hd => rfl); (case hg => rfl); (case hr => first | (go_simp; done) | (go_simp; rfl)); (case hp => exact (Reps.one (show Kd.M (Kd.int .u8) _ _ _ 2 [.int .u8 2] from rfl) (Reps.one (show Kd.M (Kd.int .u8) _ _ _ ((wrap64 (ah * 64)) % 256) [.int .u8 ((wrap64 (ah * 64)) % 256)] from rfl) (Reps.one (show Kd.M (Kd.int .u8) _ _ _ ((ax) % 256) [.int .u8 ((ax) % 256)] from rfl) (Reps.one (show Kd.M (Kd.int .u8) _ _ _ ((ai) % 256) [.int .u8 ((ai) % 256)] from rfl) (Reps.none _ _)))))); intro re gM ho31 hb hg_ hnew_; clear hg_ hnew_; (first | rw [← Ny109.out] at ho31 | (simp only [Int.reduceToNat] at ho31; rw [← Ny109.out] at ho31)); have aG := Aside0.mk (Kd.R_lower ho31 (below_size Z0)); have aH := Aside0.mk (blk_below (g := aa) Z1 hb); have aI := Aside0.mk (below_step Z0 hb); have jT := aG; replace ab := aH; replace HB := aI; clear aG aH aI; clear hb ho31; have hcv32 := own_string (P := Try.prog) Try.underlying51 Try.underlying5 Try.underlying9 (Kd.own_of_R jT.out); have lv := cells_25 ab.out))
        go_ret2
        exact ⟨Z9, Z0⟩
       ·rw [if_neg fe] at H
        exact absurd H Z73
      ·rw [if_neg hP] at H
       exact absurd H Z73
     ·rw [if_neg hY] at H
      exact absurd H Z73
    ·rw [if_neg ej] at H
     exact absurd H Z73
   ·rw [if_neg fd] at H
    exact absurd H Z73
 ·replace c3 := Bool.eq_false_iff.mpr c3
  subst c3
  have H1 : (some ((⟨#[]⟩ : ByteArray), false)) = some (r1, r2) := by rw [if_neg (show ¬ (false = true) by decide)] at H; exact H
  clear H
  have H := H1
  clear H1
  simp only [Option.some.injEq, Prod.mk.injEq] at H
  obtain ⟨rfl, rfl⟩ := H
  go_enter Try.func34, Try.ntmps34
  go_wp2_with (first | ((with_reducible refine Pre.gate_load 25 rfl ?_); (try (refine gate_guard Z13 ?_; dsimp only)); refine Pre.load_event rfl rfl rfl Z13 Z2 Try.underlying25 rfl Z6 ?_) | ((with_reducible refine gate_dst (N := 1) rfl ?_); refine box_event ?hg (N := 1) ?hd (cs := #[.int .i64 av, .int .i64 au, .int .i64 aw, .string ay, .int .i64 aD, .int .i64 az, .string aA, .int .i64 ax, .int .i64 aE, .string aC, .int .i64 ap, .string an, .int .i64 aj, .int .i64 am, .int .i64 ak, .int .i64 ah, .int .i64 ai, .int .i64 al, .int .i64 ao, .string ac, .string af, .slice aT ae.length aN, .int .i64 aq, .string ar, .slice aJ ag.length aK]) (t := 25) ?hr ?_; (case hd => rfl); (case hg => rfl); (case hr => first | (go_simp; done) | (go_simp; rfl)); intro aa hg wy hbox hb; have aG := Aside0.mk (below_step Z3 hb); have aH := Aside0.mk (hbox); have aI := Aside0.mk ((by rw [hg]; exact (below_size Z3) : w.heap.size ≤ aa)); have aZ := Aside0.mk ((by rw [hg]; exact (below_size Z3) : w.heap.size ≤ aa)); replace HB := aG; have ab := aH; have cl := aI; have bs := aZ; clear aG aH aI aZ; clear hb hbox hg; have jj := cells_25 ab.out) | ((with_reducible refine gate_callee (f := 36) rfl ?_); refine goesL_ (some 11) rfl rfl Try.func36 Z6 rfl #[.agg #[.int .i64 av, .int .i64 au, .int .i64 aw, .string ay, .int .i64 aD, .int .i64 az, .string aA, .int .i64 ax, .int .i64 aE, .string aC, .int .i64 ap, .string an, .int .i64 aj, .int .i64 am, .int .i64 ak, .int .i64 ah, .int .i64 ai, .int .i64 al, .int .i64 ao, .string ac, .string af, .slice aT ae.length aN, .int .i64 aq, .string ar, .slice aJ ag.length aK]] rfl Z5 ?_; (with_reducible refine (rrep_Right.calls k av au aw ay aD az aA ax aE aC ap an aj am ak ah ai al ao ac af _ _ ae aq ar _ _ ag false _ ?side1 ?side2 ?side3 ?side4 A2.out).mono ?_); (case side1 => exact Z8); (case side2 => exact bl.out); (case side3 => exact Z7); (case side4 => exact bg.out); rintro e qe ⟨rfl, hb⟩; refine ⟨_, rfl, ?_⟩; have aG := Aside0.mk (blk_below (g := aa) Z1 hb); have aH := Aside0.mk (below_step Z0 hb); replace ab := aG; replace HB := aH; clear aG aH; (try clear hb); (try clear hb2); (try clear hk); (try clear hi)))
  go_ret2
  exact ⟨Z9, Z0⟩

/-! ### rrep_ack: function 68 -/
def rrep_ack.f (k : Nat) (a0 : ByteArray) : Option (Int × Int × Int × ByteArray × Int × Int × ByteArray × Int × Int × ByteArray × Int × ByteArray × Int × Int × Int × Int × Int × Int × Int × ByteArray × ByteArray × (List (S46)) × Int × ByteArray × (List (S48)) × Int × Int) := if (a0.size : Int) < 2 then (some (0, 0, 0, (⟨#[]⟩ : ByteArray), 0, 0, (⟨#[]⟩ : ByteArray), 0, 0, (⟨#[]⟩ : ByteArray), 0, (⟨#[]⟩ : ByteArray), 0, 0, 0, 0, 0, 0, 0, (⟨#[]⟩ : ByteArray), (⟨#[]⟩ : ByteArray), ([] : List (S46)), 0, (⟨#[]⟩ : ByteArray), ([] : List (S48)), (a0.size : Int), 2)) else (if 1 < (a0.size : Int) then (if (bt a0 1) = 0 then (if 2 ≤ (a0.size : Int) then ((ext_Get.f k (a0.extract 2 a0.size)).bind fun bh => (if bh.2.2 = 0 then (some (6, 0, 0, (⟨#[]⟩ : ByteArray), 0, 0, (⟨#[]⟩ : ByteArray), 0, 0, (⟨#[]⟩ : ByteArray), 0, (⟨#[]⟩ : ByteArray), 0, 0, 0, 0, 0, 0, 0, (⟨#[]⟩ : ByteArray), (⟨#[]⟩ : ByteArray), ([] : List (S46)), 0, (⟨#[]⟩ : ByteArray), bh.1, 0, 0)) else (some (0, 0, 0, (⟨#[]⟩ : ByteArray), 0, 0, (⟨#[]⟩ : ByteArray), 0, 0, (⟨#[]⟩ : ByteArray), 0, (⟨#[]⟩ : ByteArray), 0, 0, 0, 0, 0, 0, 0, (⟨#[]⟩ : ByteArray), (⟨#[]⟩ : ByteArray), ([] : List (S46)), 0, (⟨#[]⟩ : ByteArray), ([] : List (S48)), wrap64 (bh.2.1 + 2), bh.2.2)))) else (none)) else (some (0, 0, 0, (⟨#[]⟩ : ByteArray), 0, 0, (⟨#[]⟩ : ByteArray), 0, 0, (⟨#[]⟩ : ByteArray), 0, (⟨#[]⟩ : ByteArray), 0, 0, 0, 0, 0, 0, 0, (⟨#[]⟩ : ByteArray), (⟨#[]⟩ : ByteArray), ([] : List (S46)), 0, (⟨#[]⟩ : ByteArray), ([] : List (S48)), 1, 5))) else (none))
theorem rrep_ack.mono : ∀ a0 k, LeO (rrep_ack.f k a0) (rrep_ack.f (k + 1) a0) := by
 intro a0 k
 unfold rrep_ack.f
 repeat' first
   | (with_reducible exact ext_Get.mono _ _)
   | (with_reducible exact LeO.refl _)
   | (with_reducible exact LeO.none _)
   | (with_reducible refine LeO.ite ?_ ?_)
   | (with_reducible refine LeO.bind ?_ (fun _ => ?_))
   | exact ext_Get.mono _ _
   | exact LeO.none _
   | refine LeO.ite ?_ ?_
   | refine LeO.bind ?_ (fun _ => ?_)
set_option maxRecDepth 100000 in
theorem rrep_ack.bd32 (v0 : Int) (hL : Option Addr) (n24 fz : Nat) : Try.prog.built 25 [(0, .int .i64 v0), (24, .slice hL n24 fz)] = some #[.int .i64 v0, .int .i64 0, .int .i64 0, .string ⟨#[]⟩, .int .i64 0, .int .i64 0, .string ⟨#[]⟩, .int .i64 0, .int .i64 0, .string ⟨#[]⟩, .int .i64 0, .string ⟨#[]⟩, .int .i64 0, .int .i64 0, .int .i64 0, .int .i64 0, .int .i64 0, .int .i64 0, .int .i64 0, .string ⟨#[]⟩, .string ⟨#[]⟩, .slice none 0 0, .int .i64 0, .string ⟨#[]⟩, .slice hL n24 fz] := by kernel_rfl
set_option maxHeartbeats 8000000 in
set_option maxRecDepth 100000 in
theorem rrep_ack.calls (k : Nat) (a0 : ByteArray) (r1 : Int) (r2 : Int) (r3 : Int) (r4 : ByteArray) (r5 : Int) (r6 : Int) (r7 : ByteArray) (r8 : Int) (r9 : Int) (r10 : ByteArray) (r11 : Int) (r12 : ByteArray) (r13 : Int) (r14 : Int) (r15 : Int) (r16 : Int) (r17 : Int) (r18 : Int) (r19 : Int) (r20 : ByteArray) (r21 : ByteArray) (r22 : List (S46)) (r23 : Int) (r24 : ByteArray) (r25 : List (S48)) (r26 : Int) (r27 : Int) (w : World) (h : rrep_ack.f k a0 = some (r1, r2, r3, r4, r5, r6, r7, r8, r9, r10, r11, r12, r13, r14, r15, r16, r17, r18, r19, r20, r21, r22, r23, r24, r25, r26, r27)) :
  Calls Try.prog 68 #[.string a0] w fun e w' => ∃ v21_ v24_ : Value, e = .returned (.tuple #[.agg #[.int .i64 r1, .int .i64 r2, .int .i64 r3, .string r4, .int .i64 r5, .int .i64 r6, .string r7, .int .i64 r8, .int .i64 r9, .string r10, .int .i64 r11, .string r12, .int .i64 r13, .int .i64 r14, .int .i64 r15, .int .i64 r16, .int .i64 r17, .int .i64 r18, .int .i64 r19, .string r20, .string r21, v21_, .int .i64 r23, .string r24, v24_], .int .i64 r26, .int .i64 r27]) ∧ Kd.R k46 46 w' w.heap.size (fun _ => True) v21_ r22 ∧ Kd.R k48 48 w' w.heap.size (fun _ => True) v24_ r25 ∧ Below w.heap.size w w' := by
 have gB := Try.underlying25
 have HB := Aside0.mk (Below.refl w.heap.size w)
 have H : (if (a0.size : Int) < 2 then (some (0, 0, 0, (⟨#[]⟩ : ByteArray), 0, 0, (⟨#[]⟩ : ByteArray), 0, 0, (⟨#[]⟩ : ByteArray), 0, (⟨#[]⟩ : ByteArray), 0, 0, 0, 0, 0, 0, 0, (⟨#[]⟩ : ByteArray), (⟨#[]⟩ : ByteArray), ([] : List (S46)), 0, (⟨#[]⟩ : ByteArray), ([] : List (S48)), (a0.size : Int), 2)) else (if 1 < (a0.size : Int) then (if (bt a0 1) = 0 then (if 2 ≤ (a0.size : Int) then ((ext_Get.f k (a0.extract 2 a0.size)).bind fun bh => (if bh.2.2 = 0 then (some (6, 0, 0, (⟨#[]⟩ : ByteArray), 0, 0, (⟨#[]⟩ : ByteArray), 0, 0, (⟨#[]⟩ : ByteArray), 0, (⟨#[]⟩ : ByteArray), 0, 0, 0, 0, 0, 0, 0, (⟨#[]⟩ : ByteArray), (⟨#[]⟩ : ByteArray), ([] : List (S46)), 0, (⟨#[]⟩ : ByteArray), bh.1, 0, 0)) else (some (0, 0, 0, (⟨#[]⟩ : ByteArray), 0, 0, (⟨#[]⟩ : ByteArray), 0, 0, (⟨#[]⟩ : ByteArray), 0, (⟨#[]⟩ : ByteArray), 0, 0, 0, 0, 0, 0, 0, (⟨#[]⟩ : ByteArray), (⟨#[]⟩ : ByteArray), ([] : List (S46)), 0, (⟨#[]⟩ : ByteArray), ([] : List (S48)), wrap64 (bh.2.1 + 2), bh.2.2)))) else (none)) else (some (0, 0, 0, (⟨#[]⟩ : ByteArray), 0, 0, (⟨#[]⟩ : ByteArray), 0, 0, (⟨#[]⟩ : ByteArray), 0, (⟨#[]⟩ : ByteArray), 0, 0, 0, 0, 0, 0, 0, (⟨#[]⟩ : ByteArray), (⟨#[]⟩ : ByteArray), ([] : List (S46)), 0, (⟨#[]⟩ : ByteArray), ([] : List (S48)), 1, 5))) else (none))) = some (r1, r2, r3, r4, r5, r6, r7, r8, r9, r10, r11, r12, r13, r14, r15, r16, r17, r18, r19, r20, r21, r22, r23, r24, r25, r26, r27) := h
 clear h
 by_cases c2 : (a0.size : Int) < 2
 ·rw [if_pos c2] at H
  have iq : decide ((a0.size : Int) < 2) = true := decide_eq_true c2
  have jE : decide (a0.size < 2) = true := decide_eq_true Z55
  clear c2
  simp only [Option.some.injEq, Prod.mk.injEq] at H
  obtain ⟨rfl, rfl, rfl, rfl, rfl, rfl, rfl, rfl, rfl, rfl, rfl, rfl, rfl, rfl, rfl, rfl, rfl, rfl, rfl, rfl, rfl, rfl, rfl, rfl, rfl, rfl, rfl⟩ := H
  go_enter Try.func68, Try.ntmps68
  go_wp2_with (first | ((with_reducible refine gate_dst (N := 32) rfl ?_); refine Pre.build_event 32 25 [(0, Go.Operand.const (Go.Value.int Go.IntKind.i64 6)), (24, Go.Operand.tmp 31)] rfl rfl rfl (rrep_ack.bd32 _ _ _ _) ?_) | ((with_reducible refine gate_dst (N := 2) rfl ?_); refine box_event ?hg (N := 2) ?hd (cs := #[.int .i64 0, .int .i64 0, .int .i64 0, .string ⟨#[]⟩, .int .i64 0, .int .i64 0, .string ⟨#[]⟩, .int .i64 0, .int .i64 0, .string ⟨#[]⟩, .int .i64 0, .string ⟨#[]⟩, .int .i64 0, .int .i64 0, .int .i64 0, .int .i64 0, .int .i64 0, .int .i64 0, .int .i64 0, .string ⟨#[]⟩, .string ⟨#[]⟩, .slice none 0 0, .int .i64 0, .string ⟨#[]⟩, .slice none 0 0]) (t := 25) ?hr ?_; (case hd => rfl); (case hg => rfl); (case hr => first | (go_simp; done) | (go_simp; rfl)); intro aa hg w3 hbox hb; have aG := Aside0.mk (below_step Z3 hb); have aH := Aside0.mk (hbox); have aI := Aside0.mk ((by rw [hg]; exact (below_size Z3) : w.heap.size ≤ aa)); have aZ := Aside0.mk ((by rw [hg]; exact (below_size Z3) : w.heap.size ≤ aa)); replace HB := aG; have ab := aH; have cl := aI; have bs := aZ; clear aG aH aI aZ; clear hb hbox hg; have lK := cells_25 ab.out) | ((with_reducible refine Pre.gate_store 25 rfl ?_); refine Pre.store_abs (cur := #[.int .i64 0, .int .i64 0, .int .i64 0, .string ⟨#[]⟩, .int .i64 0, .int .i64 0, .string ⟨#[]⟩, .int .i64 0, .int .i64 0, .string ⟨#[]⟩, .int .i64 0, .string ⟨#[]⟩, .int .i64 0, .int .i64 0, .int .i64 0, .int .i64 0, .int .i64 0, .int .i64 0, .int .i64 0, .string ⟨#[]⟩, .string ⟨#[]⟩, .slice none 0 0, .int .i64 0, .string ⟨#[]⟩, .slice none 0 0]) (e := 25) rfl rfl rfl Z13 Z13 Z1 Z6 Z13 Z13 ?_; intro w5 hbS_ sS_; have aG : Aside0 (w5.heap[aa]? = some (.cells #[.int .i64 0, .int .i64 0, .int .i64 0, .string ⟨#[]⟩, .int .i64 0, .int .i64 0, .string ⟨#[]⟩, .int .i64 0, .int .i64 0, .string ⟨#[]⟩, .int .i64 0, .string ⟨#[]⟩, .int .i64 0, .int .i64 0, .int .i64 0, .int .i64 0, .int .i64 0, .int .i64 0, .int .i64 0, .string ⟨#[]⟩, .string ⟨#[]⟩, .slice none 0 0, .int .i64 0, .string ⟨#[]⟩, .slice none 0 0] 25 (0, 0))) := ⟨hbS_⟩; have aH : Aside0 (Below w.heap.size w w5) := ⟨sS_.below Z0 bs.out⟩; clear hbS_ sS_; replace ab := aG; replace HB := aH; clear aG aH))
  refine bodyPost_ret (results_ctt rfl _ _ aa 25 #[.int .i64 0, .int .i64 0, .int .i64 0, .string ⟨#[]⟩, .int .i64 0, .int .i64 0, .string ⟨#[]⟩, .int .i64 0, .int .i64 0, .string ⟨#[]⟩, .int .i64 0, .string ⟨#[]⟩, .int .i64 0, .int .i64 0, .int .i64 0, .int .i64 0, .int .i64 0, .int .i64 0, .int .i64 0, .string ⟨#[]⟩, .string ⟨#[]⟩, .slice none 0 0, .int .i64 0, .string ⟨#[]⟩, .slice none 0 0] (0, 0) _ rfl Z1 Try.underlying25 rfl Z6) rfl ?_
  exact ⟨_, _, Z9, Z12, Z27, Z0⟩
 ·rw [if_neg c2] at H
  have iq : decide ((a0.size : Int) < 2) = false := decide_eq_false c2
  have jE : decide (a0.size < 2) = false := decide_eq_false Z55
  clear c2
  by_cases c6 : 1 < (a0.size : Int)
  ·rw [if_pos c6] at H
   have gZ : decide (1 < (a0.size : Int)) = true := decide_eq_true c6
   have ii : decide (1 < a0.size) = true := decide_eq_true Z55
   clear c6
   by_cases c8 : (bt a0 1) = 0
   ·rw [if_pos c8] at H
    have iG : ((bt a0 1) == 0) = true := beq_iff_eq.mpr c8
    have kt : ((bt a0 1) != 0) = false := bne_eq_false_iff_eq.mpr c8
    clear c8
    by_cases c9 : 2 ≤ (a0.size : Int)
    ·rw [if_pos c9] at H
     have ju := eq_true c9
     have lJ : decide (2 ≤ (a0.size : Int)) = true := decide_eq_true c9
     clear c9
     replace H := Option.bind_eq_some_iff.mp H
     obtain ⟨⟨ba, bf, bc⟩, jR, H⟩ := H
     replace H : (if bc = 0 then (some (6, 0, 0, (⟨#[]⟩ : ByteArray), 0, 0, (⟨#[]⟩ : ByteArray), 0, 0, (⟨#[]⟩ : ByteArray), 0, (⟨#[]⟩ : ByteArray), 0, 0, 0, 0, 0, 0, 0, (⟨#[]⟩ : ByteArray), (⟨#[]⟩ : ByteArray), ([] : List (S46)), 0, (⟨#[]⟩ : ByteArray), ba, 0, 0)) else (some (0, 0, 0, (⟨#[]⟩ : ByteArray), 0, 0, (⟨#[]⟩ : ByteArray), 0, 0, (⟨#[]⟩ : ByteArray), 0, (⟨#[]⟩ : ByteArray), 0, 0, 0, 0, 0, 0, 0, (⟨#[]⟩ : ByteArray), (⟨#[]⟩ : ByteArray), ([] : List (S46)), 0, (⟨#[]⟩ : ByteArray), ([] : List (S48)), wrap64 (bf + 2), bc))) = some (r1, r2, r3, r4, r5, r6, r7, r8, r9, r10, r11, r12, r13, r14, r15, r16, r17, r18, r19, r20, r21, r22, r23, r24, r25, r26, r27) := H
     have lm := Aside0.mk jR
     clear jR
     by_cases cU : bc = 0
     ·rw [if_pos cU] at H
      have fE : (bc == 0) = true := beq_iff_eq.mpr cU
      have hu : (bc != 0) = false := bne_eq_false_iff_eq.mpr cU
      clear cU
      simp only [Option.some.injEq, Prod.mk.injEq] at H
      obtain ⟨rfl, rfl, rfl, rfl, rfl, rfl, rfl, rfl, rfl, rfl, rfl, rfl, rfl, rfl, rfl, rfl, rfl, rfl, rfl, rfl, rfl, rfl, rfl, rfl, rfl, rfl, rfl⟩ := H
      go_enter Try.func68, Try.ntmps68
      go_wp2_with (first | ((with_reducible refine gate_dst (N := 32) rfl ?_); refine Pre.build_event 32 25 [(0, Go.Operand.const (Go.Value.int Go.IntKind.i64 6)), (24, Go.Operand.tmp 31)] rfl rfl rfl (rrep_ack.bd32 _ _ _ _) ?_) | ((with_reducible refine gate_dst (N := 2) rfl ?_); refine box_event ?hg (N := 2) ?hd (cs := #[.int .i64 0, .int .i64 0, .int .i64 0, .string ⟨#[]⟩, .int .i64 0, .int .i64 0, .string ⟨#[]⟩, .int .i64 0, .int .i64 0, .string ⟨#[]⟩, .int .i64 0, .string ⟨#[]⟩, .int .i64 0, .int .i64 0, .int .i64 0, .int .i64 0, .int .i64 0, .int .i64 0, .int .i64 0, .string ⟨#[]⟩, .string ⟨#[]⟩, .slice none 0 0, .int .i64 0, .string ⟨#[]⟩, .slice none 0 0]) (t := 25) ?hr ?_; (case hd => rfl); (case hg => rfl); (case hr => first | (go_simp; done) | (go_simp; rfl)); intro aa hg rc hbox hb; have aG := Aside0.mk (below_step Z3 hb); have aH := Aside0.mk (hbox); have aI := Aside0.mk ((by rw [hg]; exact (below_size Z3) : w.heap.size ≤ aa)); have aZ := Aside0.mk ((by rw [hg]; exact (below_size Z3) : w.heap.size ≤ aa)); replace HB := aG; have ab := aH; have cl := aI; have bs := aZ; clear aG aH aI aZ; clear hb hbox hg; have p7 : 0 ≤ (1 : Int) := Z55; have q7 : 1 < a0.size := (by have : (1 : Int) < (a0.size : Int) := of_decide_eq_true Z10; omega); have hx7 : ∀ h : 1 < a0.size, ((a0[1]'h).toNat : Int) = bt a0 1 := bt_at a0 1; clear p7; have qi7 : (1 < (a0.size : Int)) = True := eq_true (of_decide_eq_true Z10); replace q7 := eq_true q7) | ((with_reducible refine gate_callee (f := 59) rfl ?_); refine goesL_ (some 21) rfl rfl Try.func59 Z6 rfl #[.string (a0.extract 2 a0.size)] rfl Z5 ?_; (with_reducible refine (ext_Get.calls k (a0.extract 2 a0.size) ba bf bc _ lm.out).mono ?_); rintro e lb ⟨jM, rfl, ho0, hb⟩; refine ⟨_, rfl, ?_⟩; have aG := Aside0.mk (Kd.R_lower ho0 (below_size Z0)); have aH := Aside0.mk (blk_below (g := aa) Z1 hb); have aI := Aside0.mk (below_step Z0 hb); have cn := aG; replace ab := aH; replace HB := aI; clear aG aH aI; (try clear hb); (try clear hb2); (try clear hk); (try clear hi); (try clear ho0); obtain ⟨rf, rg, eo14⟩ := Kd.R_slice cn.out; subst eo14; have kC := cells_25 ab.out) | ((with_reducible refine Pre.gate_store 25 rfl ?_); refine Pre.store_abs (cur := #[.int .i64 0, .int .i64 0, .int .i64 0, .string ⟨#[]⟩, .int .i64 0, .int .i64 0, .string ⟨#[]⟩, .int .i64 0, .int .i64 0, .string ⟨#[]⟩, .int .i64 0, .string ⟨#[]⟩, .int .i64 0, .int .i64 0, .int .i64 0, .int .i64 0, .int .i64 0, .int .i64 0, .int .i64 0, .string ⟨#[]⟩, .string ⟨#[]⟩, .slice none 0 0, .int .i64 0, .string ⟨#[]⟩, .slice none 0 0]) (e := 25) rfl rfl rfl Z13 Z13 Z1 Z6 Z13 Z13 ?_; intro lR hbS_ sS_; have aG : Aside0 (Kd.R k48 48 lR w.heap.size (fun _ => True) (.slice rf ba.length rg) ba) := ⟨Kd.R_mono (Pre.R_sets sS_ (Kd.R_types cn.out ab.out Z32) (fun _ hk => hk.2)) (fun _ hk => trivial)⟩; have aH : Aside0 (lR.heap[aa]? = some (.cells #[.int .i64 6, .int .i64 0, .int .i64 0, .string ⟨#[]⟩, .int .i64 0, .int .i64 0, .string ⟨#[]⟩, .int .i64 0, .int .i64 0, .string ⟨#[]⟩, .int .i64 0, .string ⟨#[]⟩, .int .i64 0, .int .i64 0, .int .i64 0, .int .i64 0, .int .i64 0, .int .i64 0, .int .i64 0, .string ⟨#[]⟩, .string ⟨#[]⟩, .slice none 0 0, .int .i64 0, .string ⟨#[]⟩, .slice rf ba.length rg] 25 (0, 0))) := ⟨hbS_⟩; have aI : Aside0 (Below w.heap.size w lR) := ⟨sS_.below Z0 bs.out⟩; clear hbS_ sS_; replace cn := aG; replace ab := aH; replace HB := aI; clear aG aH aI))
      refine bodyPost_ret (results_ctt rfl _ _ aa 25 #[.int .i64 6, .int .i64 0, .int .i64 0, .string ⟨#[]⟩, .int .i64 0, .int .i64 0, .string ⟨#[]⟩, .int .i64 0, .int .i64 0, .string ⟨#[]⟩, .int .i64 0, .string ⟨#[]⟩, .int .i64 0, .int .i64 0, .int .i64 0, .int .i64 0, .int .i64 0, .int .i64 0, .int .i64 0, .string ⟨#[]⟩, .string ⟨#[]⟩, .slice none 0 0, .int .i64 0, .string ⟨#[]⟩, .slice rf ba.length rg] (0, 0) _ rfl Z1 Try.underlying25 rfl Z6) rfl ?_
      exact ⟨_, _, Z9, Z12, Z77, Z0⟩
     ·rw [if_neg cU] at H
      have fE : (bc == 0) = false := beq_eq_false_iff_ne.mpr cU
      have hu : (bc != 0) = true := bne_iff_ne.mpr cU
      simp only [Option.some.injEq, Prod.mk.injEq] at H
      obtain ⟨rfl, rfl, rfl, rfl, rfl, rfl, rfl, rfl, rfl, rfl, rfl, rfl, rfl, rfl, rfl, rfl, rfl, rfl, rfl, rfl, rfl, rfl, rfl, rfl, rfl, rfl, rfl⟩ := H
      go_enter Try.func68, Try.ntmps68
      go_wp2_with (first | ((with_reducible refine gate_dst (N := 32) rfl ?_); refine Pre.build_event 32 25 [(0, Go.Operand.const (Go.Value.int Go.IntKind.i64 6)), (24, Go.Operand.tmp 31)] rfl rfl rfl (rrep_ack.bd32 _ _ _ _) ?_) | ((with_reducible refine gate_dst (N := 2) rfl ?_); refine box_event ?hg (N := 2) ?hd (cs := #[.int .i64 0, .int .i64 0, .int .i64 0, .string ⟨#[]⟩, .int .i64 0, .int .i64 0, .string ⟨#[]⟩, .int .i64 0, .int .i64 0, .string ⟨#[]⟩, .int .i64 0, .string ⟨#[]⟩, .int .i64 0, .int .i64 0, .int .i64 0, .int .i64 0, .int .i64 0, .int .i64 0, .int .i64 0, .string ⟨#[]⟩, .string ⟨#[]⟩, .slice none 0 0, .int .i64 0, .string ⟨#[]⟩, .slice none 0 0]) (t := 25) ?hr ?_; (case hd => rfl); (case hg => rfl); (case hr => first | (go_simp; done) | (go_simp; rfl)); intro aa hg kz hbox hb; have aG := Aside0.mk (below_step Z3 hb); have aH := Aside0.mk (hbox); have aI := Aside0.mk ((by rw [hg]; exact (below_size Z3) : w.heap.size ≤ aa)); have aZ := Aside0.mk ((by rw [hg]; exact (below_size Z3) : w.heap.size ≤ aa)); replace HB := aG; have ab := aH; have cl := aI; have bs := aZ; clear aG aH aI aZ; clear hb hbox hg; have p7 : 0 ≤ (1 : Int) := Z55; have q7 : 1 < a0.size := (by have : (1 : Int) < (a0.size : Int) := of_decide_eq_true Z10; omega); have hx7 : ∀ h : 1 < a0.size, ((a0[1]'h).toNat : Int) = bt a0 1 := bt_at a0 1; clear p7; have qi7 : (1 < (a0.size : Int)) = True := eq_true (of_decide_eq_true Z10); replace q7 := eq_true q7) | ((with_reducible refine gate_callee (f := 59) rfl ?_); refine goesL_ (some 21) rfl rfl Try.func59 Z6 rfl #[.string (a0.extract 2 a0.size)] rfl Z5 ?_; (with_reducible refine (ext_Get.calls k (a0.extract 2 a0.size) ba bf bc _ lm.out).mono ?_); rintro e kh ⟨jM, rfl, ho0, hb⟩; refine ⟨_, rfl, ?_⟩; have aG := Aside0.mk (Kd.R_lower ho0 (below_size Z0)); have aH := Aside0.mk (blk_below (g := aa) Z1 hb); have aI := Aside0.mk (below_step Z0 hb); have cn := aG; replace ab := aH; replace HB := aI; clear aG aH aI; (try clear hb); (try clear hb2); (try clear hk); (try clear hi); (try clear ho0); have jh := cells_25 ab.out) | ((with_reducible refine Pre.gate_store 25 rfl ?_); refine Pre.store_abs (cur := #[.int .i64 0, .int .i64 0, .int .i64 0, .string ⟨#[]⟩, .int .i64 0, .int .i64 0, .string ⟨#[]⟩, .int .i64 0, .int .i64 0, .string ⟨#[]⟩, .int .i64 0, .string ⟨#[]⟩, .int .i64 0, .int .i64 0, .int .i64 0, .int .i64 0, .int .i64 0, .int .i64 0, .int .i64 0, .string ⟨#[]⟩, .string ⟨#[]⟩, .slice none 0 0, .int .i64 0, .string ⟨#[]⟩, .slice none 0 0]) (e := 25) rfl rfl rfl Z13 Z13 Z1 Z6 Z13 Z13 ?_; intro kG hbS_ sS_; have aG : Aside0 (Kd.R k48 48 kG w.heap.size (fun _ => True) jM ba) := ⟨Kd.R_mono (Pre.R_sets sS_ (Kd.R_types cn.out ab.out Z32) (fun _ hk => hk.2)) (fun _ hk => trivial)⟩; have aH : Aside0 (kG.heap[aa]? = some (.cells #[.int .i64 0, .int .i64 0, .int .i64 0, .string ⟨#[]⟩, .int .i64 0, .int .i64 0, .string ⟨#[]⟩, .int .i64 0, .int .i64 0, .string ⟨#[]⟩, .int .i64 0, .string ⟨#[]⟩, .int .i64 0, .int .i64 0, .int .i64 0, .int .i64 0, .int .i64 0, .int .i64 0, .int .i64 0, .string ⟨#[]⟩, .string ⟨#[]⟩, .slice none 0 0, .int .i64 0, .string ⟨#[]⟩, .slice none 0 0] 25 (0, 0))) := ⟨hbS_⟩; have aI : Aside0 (Below w.heap.size w kG) := ⟨sS_.below Z0 bs.out⟩; clear hbS_ sS_; replace cn := aG; replace ab := aH; replace HB := aI; clear aG aH aI))
      refine bodyPost_ret (results_ctt rfl _ _ aa 25 #[.int .i64 0, .int .i64 0, .int .i64 0, .string ⟨#[]⟩, .int .i64 0, .int .i64 0, .string ⟨#[]⟩, .int .i64 0, .int .i64 0, .string ⟨#[]⟩, .int .i64 0, .string ⟨#[]⟩, .int .i64 0, .int .i64 0, .int .i64 0, .int .i64 0, .int .i64 0, .int .i64 0, .int .i64 0, .string ⟨#[]⟩, .string ⟨#[]⟩, .slice none 0 0, .int .i64 0, .string ⟨#[]⟩, .slice none 0 0] (0, 0) _ rfl Z1 Try.underlying25 rfl Z6) rfl ?_
      exact ⟨_, _, Z9, Z12, Z27, Z0⟩
    ·rw [if_neg c9] at H
     exact absurd H Z73
   ·rw [if_neg c8] at H
    have iG : ((bt a0 1) == 0) = false := beq_eq_false_iff_ne.mpr c8
    have kt : ((bt a0 1) != 0) = true := bne_iff_ne.mpr c8
    simp only [Option.some.injEq, Prod.mk.injEq] at H
    obtain ⟨rfl, rfl, rfl, rfl, rfl, rfl, rfl, rfl, rfl, rfl, rfl, rfl, rfl, rfl, rfl, rfl, rfl, rfl, rfl, rfl, rfl, rfl, rfl, rfl, rfl, rfl, rfl⟩ := H
    go_enter Try.func68, Try.ntmps68
    go_wp2_with (first | ((with_reducible refine gate_dst (N := 32) rfl ?_); refine Pre.build_event 32 25 [(0, Go.Operand.const (Go.Value.int Go.IntKind.i64 6)), (24, Go.Operand.tmp 31)] rfl rfl rfl (rrep_ack.bd32 _ _ _ _) ?_) | ((with_reducible refine gate_dst (N := 2) rfl ?_); refine box_event ?hg (N := 2) ?hd (cs := #[.int .i64 0, .int .i64 0, .int .i64 0, .string ⟨#[]⟩, .int .i64 0, .int .i64 0, .string ⟨#[]⟩, .int .i64 0, .int .i64 0, .string ⟨#[]⟩, .int .i64 0, .string ⟨#[]⟩, .int .i64 0, .int .i64 0, .int .i64 0, .int .i64 0, .int .i64 0, .int .i64 0, .int .i64 0, .string ⟨#[]⟩, .string ⟨#[]⟩, .slice none 0 0, .int .i64 0, .string ⟨#[]⟩, .slice none 0 0]) (t := 25) ?hr ?_; (case hd => rfl); (case hg => rfl); (case hr => first | (go_simp; done) | (go_simp; rfl)); intro aa hg mi hbox hb; have aG := Aside0.mk (below_step Z3 hb); have aH := Aside0.mk (hbox); have aI := Aside0.mk ((by rw [hg]; exact (below_size Z3) : w.heap.size ≤ aa)); have aZ := Aside0.mk ((by rw [hg]; exact (below_size Z3) : w.heap.size ≤ aa)); replace HB := aG; have ab := aH; have cl := aI; have bs := aZ; clear aG aH aI aZ; clear hb hbox hg; have p7 : 0 ≤ (1 : Int) := Z55; have q7 : 1 < a0.size := (by have : (1 : Int) < (a0.size : Int) := of_decide_eq_true Z10; omega); have hx7 : ∀ h : 1 < a0.size, ((a0[1]'h).toNat : Int) = bt a0 1 := bt_at a0 1; clear p7; have qi7 : (1 < (a0.size : Int)) = True := eq_true (of_decide_eq_true Z10); replace q7 := eq_true q7; have jl := cells_25 ab.out) | ((with_reducible refine Pre.gate_store 25 rfl ?_); refine Pre.store_abs (cur := #[.int .i64 0, .int .i64 0, .int .i64 0, .string ⟨#[]⟩, .int .i64 0, .int .i64 0, .string ⟨#[]⟩, .int .i64 0, .int .i64 0, .string ⟨#[]⟩, .int .i64 0, .string ⟨#[]⟩, .int .i64 0, .int .i64 0, .int .i64 0, .int .i64 0, .int .i64 0, .int .i64 0, .int .i64 0, .string ⟨#[]⟩, .string ⟨#[]⟩, .slice none 0 0, .int .i64 0, .string ⟨#[]⟩, .slice none 0 0]) (e := 25) rfl rfl rfl Z13 Z13 Z1 Z6 Z13 Z13 ?_; intro gn hbS_ sS_; have aG : Aside0 (gn.heap[aa]? = some (.cells #[.int .i64 0, .int .i64 0, .int .i64 0, .string ⟨#[]⟩, .int .i64 0, .int .i64 0, .string ⟨#[]⟩, .int .i64 0, .int .i64 0, .string ⟨#[]⟩, .int .i64 0, .string ⟨#[]⟩, .int .i64 0, .int .i64 0, .int .i64 0, .int .i64 0, .int .i64 0, .int .i64 0, .int .i64 0, .string ⟨#[]⟩, .string ⟨#[]⟩, .slice none 0 0, .int .i64 0, .string ⟨#[]⟩, .slice none 0 0] 25 (0, 0))) := ⟨hbS_⟩; have aH : Aside0 (Below w.heap.size w gn) := ⟨sS_.below Z0 bs.out⟩; clear hbS_ sS_; replace ab := aG; replace HB := aH; clear aG aH))
    refine bodyPost_ret (results_ctt rfl _ _ aa 25 #[.int .i64 0, .int .i64 0, .int .i64 0, .string ⟨#[]⟩, .int .i64 0, .int .i64 0, .string ⟨#[]⟩, .int .i64 0, .int .i64 0, .string ⟨#[]⟩, .int .i64 0, .string ⟨#[]⟩, .int .i64 0, .int .i64 0, .int .i64 0, .int .i64 0, .int .i64 0, .int .i64 0, .int .i64 0, .string ⟨#[]⟩, .string ⟨#[]⟩, .slice none 0 0, .int .i64 0, .string ⟨#[]⟩, .slice none 0 0] (0, 0) _ rfl Z1 Try.underlying25 rfl Z6) rfl ?_
    exact ⟨_, _, Z9, Z12, Z27, Z0⟩
  ·rw [if_neg c6] at H
   exact absurd H Z73

end Go.Proofs.Ytccjakjjaemmkaa.PR
