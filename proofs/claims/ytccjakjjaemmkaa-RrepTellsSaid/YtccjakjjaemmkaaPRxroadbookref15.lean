-- Written by mp.py, a program of this work (wip/tools), out of the translation; Lean checks it.
import Derived.Test.YtccjakjjaemmkaaPRxZ
import Derived.Test.YtccjakjjaemmkaaPRxroadbookref02
import Derived.Test.YtccjakjjaemmkaaPRxroadbookref07Bare
import Derived.Test.YtccjakjjaemmkaaPRxroadbookref13
namespace Go.Proofs.Ytccjakjjaemmkaa.PR
open Go.RowKit Go.Proofs.YtccjakjjaemmkaaW.PrintWords Go.Proofs.YtccjakjjaemmkaaW.PrintLast Go.Proofs.YtccjakjjaemmkaaW.PrintMore
attribute [local go_sem] max2_int min2_int max_two min_two max_three min_three max_four min_four   -- for this text's walks alone
set_option linter.unusedVariables false
set_option linter.unusedSimpArgs false

/-! ### roadbookref15_Right: function 37 -/
def roadbookref15_Right.j0 : Nat → Bool → Int → Int → Int → ByteArray → Int → Int → ByteArray → Int → Int → ByteArray → Int → ByteArray → Int → Int → Int → Int → Int → Int → Int → ByteArray → ByteArray → List (S46) → Int → ByteArray → List (S48) → Option (Bool)
 | 0, _, _, _, _, _, _, _, _, _, _, _, _, _, _, _, _, _, _, _, _, _, _, _, _, _, _ => none
 | k + 1, oo, bw, bM, bN, bO, bP, bQ, bR, bx, bS, bT, bU, bI, bA, bF, bC, bv, bB, bG, bJ, bD, bE, bq, bK, bL, bu => if oo = true then (some false) else (if bw = 6 then (some true) else (if bw = 4 then (if bv ≥ 0 then (if bv ≤ 3 then (if bx ≥ 0 then (if bx ≤ 31 then ((roadbookref02_Fits.f k bB 1).bind fun bc => (if bc = true then ((roadbookref02_Fits.f k bA 4).bind fun bk => (if bk = true then ((roadbookref02_Fits.f k bC 4).bind fun bm => (if bm = true then (if (bD.size : Int) = 4 then (some ((bE.size : Int) == 4)) else (some false)) else (some false))) else (some false))) else (some false))) else (some false)) else (some false)) else (some false)) else (some false)) else (some false)))
def roadbookref15_Right.f (k : Nat) (av : Int) (au : Int) (aw : Int) (ay : ByteArray) (aD : Int) (az : Int) (aA : ByteArray) (ax : Int) (aE : Int) (aC : ByteArray) (ap : Int) (an : ByteArray) (aj : Int) (am : Int) (ak : Int) (ah : Int) (ai : Int) (al : Int) (ao : Int) (ac : ByteArray) (af : ByteArray) (ae : List (S46)) (aq : Int) (ar : ByteArray) (ag : List (S48)) : Option (Bool) := (roadbookref07_Bare.f k av au aw ay aD az aA ax aE aC ap an aj am ak ah ai al ao ac af ae aq ar ag).bind fun ba => (if ba = true then ((roadbookref13_Right.f k ag).bind fun bf => (roadbookref15_Right.j0 k (!bf) av au aw ay aD az aA ax aE aC ap an aj am ak ah ai al ao ac af ae aq ar ag)) else (roadbookref15_Right.j0 k true av au aw ay aD az aA ax aE aC ap an aj am ak ah ai al ao ac af ae aq ar ag))
theorem roadbookref15_Right.mono_l : ∀ k, (∀ y0 y1 y2 y3 y4 y5 y6 y7 y8 y9 fi fj fk fl fm fn fo fp fq fr fs ft fu fv fw fx, LeO (roadbookref15_Right.j0 k y0 y1 y2 y3 y4 y5 y6 y7 y8 y9 fi fj fk fl fm fn fo fp fq fr fs ft fu fv fw fx) (roadbookref15_Right.j0 (k + 1) y0 y1 y2 y3 y4 y5 y6 y7 y8 y9 fi fj fk fl fm fn fo fp fq fr fs ft fu fv fw fx))
 | 0 => fun _ _ _ _ _ _ _ _ _ _ _ _ _ _ _ _ _ _ _ _ _ _ _ _ _ _ r h => by simp [roadbookref15_Right.j0] at h
 | k + 1 => by
  have ih0 := roadbookref15_Right.mono_l k
  ·intro y0 y1 y2 y3 y4 y5 y6 y7 y8 y9 fi fj fk fl fm fn fo fp fq fr fs ft fu fv fw fx
   unfold roadbookref15_Right.j0
   repeat' first
   | (with_reducible exact ih0 ..)
   | (with_reducible exact roadbookref02_Fits.mono _ _ _)
   | (with_reducible exact roadbookref07_Bare.mono _ _ _ _ _ _ _ _ _ _ _ _ _ _ _ _ _ _ _ _ _ _ _ _ _ _)
   | (with_reducible exact roadbookref13_Right.mono _ _)
   | (with_reducible exact LeO.refl _)
   | (with_reducible exact LeO.none _)
   | (with_reducible refine LeO.ite ?_ ?_)
   | (with_reducible refine LeO.bind ?_ (fun _ => ?_))
   | exact ih0 ..
   | exact roadbookref02_Fits.mono _ _ _
   | exact roadbookref07_Bare.mono _ _ _ _ _ _ _ _ _ _ _ _ _ _ _ _ _ _ _ _ _ _ _ _ _ _
   | exact roadbookref13_Right.mono _ _
   | exact LeO.none _
   | refine LeO.ite ?_ ?_
   | refine LeO.bind ?_ (fun _ => ?_)
theorem roadbookref15_Right.mono : ∀ a0 a1 a2 a3 a4 a5 a6 a7 a8 a9 fJ fK fL fM fN fO fP fQ fR fS fT fU fV fW fX k, LeO (roadbookref15_Right.f k a0 a1 a2 a3 a4 a5 a6 a7 a8 a9 fJ fK fL fM fN fO fP fQ fR fS fT fU fV fW fX) (roadbookref15_Right.f (k + 1) a0 a1 a2 a3 a4 a5 a6 a7 a8 a9 fJ fK fL fM fN fO fP fQ fR fS fT fU fV fW fX) := by
 intro a0 a1 a2 a3 a4 a5 a6 a7 a8 a9 fJ fK fL fM fN fO fP fQ fR fS fT fU fV fW fX k
 have ih0 := roadbookref15_Right.mono_l k
 unfold roadbookref15_Right.f
 repeat' first
   | (with_reducible exact ih0 ..)
   | (with_reducible exact roadbookref02_Fits.mono _ _ _)
   | (with_reducible exact roadbookref07_Bare.mono _ _ _ _ _ _ _ _ _ _ _ _ _ _ _ _ _ _ _ _ _ _ _ _ _ _)
   | (with_reducible exact roadbookref13_Right.mono _ _)
   | (with_reducible exact LeO.refl _)
   | (with_reducible exact LeO.none _)
   | (with_reducible refine LeO.ite ?_ ?_)
   | (with_reducible refine LeO.bind ?_ (fun _ => ?_))
   | exact ih0 ..
   | exact roadbookref02_Fits.mono _ _ _
   | exact roadbookref07_Bare.mono _ _ _ _ _ _ _ _ _ _ _ _ _ _ _ _ _ _ _ _ _ _ _ _ _ _
   | exact roadbookref13_Right.mono _ _
   | exact LeO.none _
   | refine LeO.ite ?_ ?_
   | refine LeO.bind ?_ (fun _ => ?_)

set_option maxHeartbeats 8000000 in
set_option maxRecDepth 100000 in
theorem roadbookref15_Right.calls (k : Nat) (av : Int) (au : Int) (aw : Int) (ay : ByteArray) (aD : Int) (az : Int) (aA : ByteArray) (ax : Int) (aE : Int) (aC : ByteArray) (ap : Int) (an : ByteArray) (aj : Int) (am : Int) (ak : Int) (ah : Int) (ai : Int) (al : Int) (ao : Int) (ac : ByteArray) (af : ByteArray) (aT : Option Addr) (aN : Nat) (ae : List (S46)) (aq : Int) (ar : ByteArray) (aJ : Option Addr) (aK : Nat) (ag : List (S48)) (r : Bool) (w : World) (bY : Kd.C k46 w aT ae.length ae) (bZ : ae.length ≤ aN) (ca : Kd.C k48 w aJ ag.length ag) (cb : ag.length ≤ aK) (h : roadbookref15_Right.f k av au aw ay aD az aA ax aE aC ap an aj am ak ah ai al ao ac af ae aq ar ag = some r) :
  Calls Try.prog 37 #[.agg #[.int .i64 av, .int .i64 au, .int .i64 aw, .string ay, .int .i64 aD, .int .i64 az, .string aA, .int .i64 ax, .int .i64 aE, .string aC, .int .i64 ap, .string an, .int .i64 aj, .int .i64 am, .int .i64 ak, .int .i64 ah, .int .i64 ai, .int .i64 al, .int .i64 ao, .string ac, .string af, .slice aT ae.length aN, .int .i64 aq, .string ar, .slice aJ ag.length aK]] w fun e w' => e = .returned (.bool r) ∧ Below w.heap.size w w' := by
 have gB := Try.underlying25
 have cT := Aside0.mk bY
 have bl := Aside0.mk bZ
 clear bY bZ
 have cP := Aside0.mk ca
 have bg := Aside0.mk cb
 clear ca cb
 have HB := Aside0.mk (Below.refl w.heap.size w)
 have H : ((roadbookref07_Bare.f k av au aw ay aD az aA ax aE aC ap an aj am ak ah ai al ao ac af ae aq ar ag).bind fun ba => (if ba = true then ((roadbookref13_Right.f k ag).bind fun bf => (roadbookref15_Right.j0 k (!bf) av au aw ay aD az aA ax aE aC ap an aj am ak ah ai al ao ac af ae aq ar ag)) else (roadbookref15_Right.j0 k true av au aw ay aD az aA ax aE aC ap an aj am ak ah ai al ao ac af ae aq ar ag))) = some r := h
 clear h
 have iB := Aside0.mk H
 clear H
 go_enter Try.func37, Try.ntmps37
 go_upto_region 1 with (first | ((with_reducible refine Pre.gate_load 25 rfl ?_); (try (refine gate_guard Z13 ?_; dsimp only)); refine Pre.load_event rfl rfl rfl Z13 Z2 Try.underlying25 rfl Z6 ?_) | ((with_reducible refine gate_dst (N := 1) rfl ?_); (try (refine gate_guard Z13 ?_; dsimp only)); refine box_event ?hg (N := 1) ?hd (cs := #[.int .i64 av, .int .i64 au, .int .i64 aw, .string ay, .int .i64 aD, .int .i64 az, .string aA, .int .i64 ax, .int .i64 aE, .string aC, .int .i64 ap, .string an, .int .i64 aj, .int .i64 am, .int .i64 ak, .int .i64 ah, .int .i64 ai, .int .i64 al, .int .i64 ao, .string ac, .string af, .slice aT ae.length aN, .int .i64 aq, .string ar, .slice aJ ag.length aK]) (t := 25) ?hr ?_; (case hd => rfl); (case hg => rfl); (case hr => first | (go_simp; done) | (go_simp; rfl)); intro aa hg w3 hbox hb; have aG := Aside0.mk (below_step Z3 hb); have aH := Aside0.mk (hbox); have aI := Aside0.mk ((by rw [hg]; exact (below_size Z3) : w.heap.size ≤ aa)); have aZ := Aside0.mk ((by rw [hg]; exact (below_size Z3) : w.heap.size ≤ aa)); replace HB := aG; have ab := aH; have cl := aI; have bs := aZ; clear aG aH aI aZ; clear hb hbox hg))
 (try simp only [Act.put, List.setIfInBounds_toArray, List.set_cons_zero, List.set_cons_succ])
 go_cut [11] (fun nf wc => ∃ (kq : Nat) (dy : Bool), nf = .bool dy ∧ Aside0 (roadbookref15_Right.j0 kq dy av au aw ay aD az aA ax aE aC ap an aj am ak ah ai al ao ac af ae aq ar ag = some r) ∧ Aside0 (kq ≤ k) ∧ Aside0 (wc.heap[aa]? = some (.cells #[.int .i64 av, .int .i64 au, .int .i64 aw, .string ay, .int .i64 aD, .int .i64 az, .string aA, .int .i64 ax, .int .i64 aE, .string aC, .int .i64 ap, .string an, .int .i64 aj, .int .i64 am, .int .i64 ak, .int .i64 ah, .int .i64 ai, .int .i64 al, .int .i64 ao, .string ac, .string af, (.slice aT ae.length aN), .int .i64 aq, .string ar, (.slice aJ ag.length aK)] 25 (0, 0))) ∧ Aside0 (Below w.heap.size w wc))
 case first =>
  have H := iB.out
  clear iB
  replace H := Option.bind_eq_some_iff.mp H
  obtain ⟨ba, jA, H⟩ := H
  replace H : (if ba = true then ((roadbookref13_Right.f k ag).bind fun bf => (roadbookref15_Right.j0 k (!bf) av au aw ay aD az aA ax aE aC ap an aj am ak ah ai al ao ac af ae aq ar ag)) else (roadbookref15_Right.j0 k true av au aw ay aD az aA ax aE aC ap an aj am ak ah ai al ao ac af ae aq ar ag)) = some r := H
  have A4 := Aside0.mk jA
  clear jA
  by_cases c5 : ba = true
  ·subst c5
   replace H := Sq.itT H
   replace H := Option.bind_eq_some_iff.mp H
   obtain ⟨bf, ls, H⟩ := H
   replace H : (roadbookref15_Right.j0 k (!bf) av au aw ay aD az aA ax aE aC ap an aj am ak ah ai al ao ac af ae aq ar ag) = some r := H
   have A6 := Aside0.mk ls
   clear ls
   have H' := Aside0.mk H
   clear H
   have jy := cells_25 ab.out
   go_wp2_with (first | ((with_reducible refine Pre.gate_load 25 rfl ?_); (try (refine gate_guard Z13 ?_; dsimp only)); refine Pre.load_event rfl rfl rfl Z13 Z2 Try.underlying25 rfl Z6 ?_) | ((with_reducible refine gate_callee (f := 56) rfl ?_); refine goesL_ (some 4) rfl rfl Try.func56 Z6 rfl #[.agg #[.int .i64 av, .int .i64 au, .int .i64 aw, .string ay, .int .i64 aD, .int .i64 az, .string aA, .int .i64 ax, .int .i64 aE, .string aC, .int .i64 ap, .string an, .int .i64 aj, .int .i64 am, .int .i64 ak, .int .i64 ah, .int .i64 ai, .int .i64 al, .int .i64 ao, .string ac, .string af, .slice aT ae.length aN, .int .i64 aq, .string ar, .slice aJ ag.length aK]] rfl Z5 ?_; (with_reducible refine (roadbookref07_Bare.calls k av au aw ay aD az aA ax aE aC ap an aj am ak ah ai al ao ac af _ _ ae aq ar _ _ ag true _ ?side1 ?side2 ?side3 ?side4 A4.out).mono ?_); (case side1 => exact Z8); (case side2 => exact bl.out); (case side3 => exact Z7); (case side4 => exact bg.out); rintro e w8 ⟨rfl, hb⟩; refine ⟨_, rfl, ?_⟩; have aG := Aside0.mk (blk_below (g := aa) Z1 hb); have aH := Aside0.mk (below_step Z0 hb); replace ab := aG; replace HB := aH; clear aG aH; (try clear hb); (try clear hb2); (try clear hk); (try clear hi); have iV := cells_25 ab.out) | (go_at_call 58; (with_reducible refine (roadbookref13_Right.calls k _ _ ag bf _ ?side1 ?side2 A6.out).mono ?_); (case side1 => exact Z7); (case side2 => exact bg.out); rintro e w' ⟨rfl, ⟨nd, rfl⟩⟩))
   go_meet
   case rel => exact ⟨_, (!bf), Z14, H', ⟨Z41⟩, ⟨Z1⟩, ⟨Z0⟩⟩
  ·replace c5 := Bool.eq_false_iff.mpr c5
   subst c5
   replace H := Sq.itF H
   have H' := Aside0.mk H
   clear H
   have jH := cells_25 ab.out
   go_wp2_with (first | ((with_reducible refine Pre.gate_load 25 rfl ?_); (try (refine gate_guard Z13 ?_; dsimp only)); refine Pre.load_event rfl rfl rfl Z13 Z2 Try.underlying25 rfl Z6 ?_) | ((with_reducible refine gate_callee (f := 56) rfl ?_); refine goesL_ (some 4) rfl rfl Try.func56 Z6 rfl #[.agg #[.int .i64 av, .int .i64 au, .int .i64 aw, .string ay, .int .i64 aD, .int .i64 az, .string aA, .int .i64 ax, .int .i64 aE, .string aC, .int .i64 ap, .string an, .int .i64 aj, .int .i64 am, .int .i64 ak, .int .i64 ah, .int .i64 ai, .int .i64 al, .int .i64 ao, .string ac, .string af, .slice aT ae.length aN, .int .i64 aq, .string ar, .slice aJ ag.length aK]] rfl Z5 ?_; (with_reducible refine (roadbookref07_Bare.calls k av au aw ay aD az aA ax aE aC ap an aj am ak ah ai al ao ac af _ _ ae aq ar _ _ ag false _ ?side1 ?side2 ?side3 ?side4 A4.out).mono ?_); (case side1 => exact Z8); (case side2 => exact bl.out); (case side3 => exact Z7); (case side4 => exact bg.out); rintro e pA ⟨rfl, hb⟩; refine ⟨_, rfl, ?_⟩; have aG := Aside0.mk (blk_below (g := aa) Z1 hb); have aH := Aside0.mk (below_step Z0 hb); replace ab := aG; replace HB := aH; clear aG aH; (try clear hb); (try clear hb2); (try clear hk); (try clear hi)))
   go_meet
   case rel => exact ⟨_, (true), Z14, H', ⟨Z41⟩, ⟨Z1⟩, ⟨Z0⟩⟩
 case rest =>
  clear iB
  try clear c3
  obtain ⟨kq, dy, rfl, HA, kB, ab, HB⟩ := hcut
  cases kq with
  | zero => exact absurd HA.out (by simp [roadbookref15_Right.j0])
  | succ kj1 =>
   have H := HA.out
   clear HA
   simp only [roadbookref15_Right.j0] at H
   by_cases hf : dy = true
   ·subst hf
    replace H := Sq.itT H
    obtain rfl := Option.some.inj H
    go_wp2_with (first | ((with_reducible refine Pre.gate_load 25 rfl ?_); (try (refine gate_guard Z13 ?_; dsimp only)); refine Pre.load_event rfl rfl rfl Z13 Z2 Try.underlying25 rfl Z6 ?_))
    go_ret
    exact ⟨Z9, Z0⟩
   ·replace hf := Bool.eq_false_iff.mpr hf
    subst hf
    replace H := Sq.itF H
    by_cases dB : av = 6
    ·rw [if_pos dB] at H
     have gF : (av == 6) = true := beq_iff_eq.mpr dB
     have ie : (av != 6) = false := bne_eq_false_iff_eq.mpr dB
     clear dB
     obtain rfl := Option.some.inj H
     have ji := cells_25 ab.out
     go_wp2_with (first | ((with_reducible refine Pre.gate_load 25 rfl ?_); (try (refine gate_guard Z13 ?_; dsimp only)); refine Pre.load_event rfl rfl rfl Z13 Z2 Try.underlying25 rfl Z6 ?_))
     go_ret
     exact ⟨Z9, Z0⟩
    ·rw [if_neg dB] at H
     have gF : (av == 6) = false := beq_eq_false_iff_ne.mpr dB
     have ie : (av != 6) = true := bne_iff_ne.mpr dB
     by_cases fd : av = 4
     ·rw [if_pos fd] at H
      have ix : (av == 4) = true := beq_iff_eq.mpr fd
      have iZ : (av != 4) = false := bne_eq_false_iff_eq.mpr fd
      clear fd
      by_cases ej : ah ≥ 0
      ·rw [if_pos ej] at H
       have gL : decide (0 ≤ ah) = true := decide_eq_true ej
       clear ej
       by_cases hY : ah ≤ 3
       ·rw [if_pos hY] at H
        have jI : decide (ah ≤ 3) = true := decide_eq_true hY
        clear hY
        by_cases hP : ax ≥ 0
        ·rw [if_pos hP] at H
         have iN : decide (0 ≤ ax) = true := decide_eq_true hP
         clear hP
         by_cases fe : ax ≤ 31
         ·rw [if_pos fe] at H
          have eV : decide (ax ≤ 31) = true := decide_eq_true fe
          clear fe
          replace H := Option.bind_eq_some_iff.mp H
          obtain ⟨bc, kH, H⟩ := H
          replace H : (if bc = true then ((roadbookref02_Fits.f kj1 aj 4).bind fun bk => (if bk = true then ((roadbookref02_Fits.f kj1 ak 4).bind fun bm => (if bm = true then (if (ac.size : Int) = 4 then (some ((af.size : Int) == 4)) else (some false)) else (some false))) else (some false))) else (some false)) = some r := H
          have gN := Aside0.mk kH
          clear kH
          by_cases gU : bc = true
          ·subst gU
           replace H := Sq.itT H
           replace H := Option.bind_eq_some_iff.mp H
           obtain ⟨bk, ol, H⟩ := H
           replace H : (if bk = true then ((roadbookref02_Fits.f kj1 ak 4).bind fun bm => (if bm = true then (if (ac.size : Int) = 4 then (some ((af.size : Int) == 4)) else (some false)) else (some false))) else (some false)) = some r := H
           have sc := Aside0.mk ol
           clear ol
           by_cases lh : bk = true
           ·subst lh
            replace H := Sq.itT H
            replace H := Option.bind_eq_some_iff.mp H
            obtain ⟨bm, mb, H⟩ := H
            replace H : (if bm = true then (if (ac.size : Int) = 4 then (some ((af.size : Int) == 4)) else (some false)) else (some false)) = some r := H
            have im := Aside0.mk mb
            clear mb
            by_cases kf : bm = true
            ·subst kf
             replace H := Sq.itT H
             by_cases jG : (ac.size : Int) = 4
             ·rw [if_pos jG] at H
              have oc : ((ac.size : Int) == 4) = true := beq_iff_eq.mpr jG
              have od : ((ac.size : Int) != 4) = false := bne_eq_false_iff_eq.mpr jG
              clear jG
              obtain rfl := Option.some.inj H
              have lu := cells_25 ab.out
              go_wp2_with (first | ((with_reducible refine Pre.gate_load 25 rfl ?_); (try (refine gate_guard Z13 ?_; dsimp only)); refine Pre.load_event rfl rfl rfl Z13 Z2 Try.underlying25 rfl Z6 ?_) | (go_at_call 57; (with_reducible refine (roadbookref02_Fits.calls kj1 ai 1 true _ gN.out).mono ?_); rintro e w' ⟨rfl, ⟨nd, rfl⟩⟩) | (go_at_call 57; (with_reducible refine (roadbookref02_Fits.calls kj1 aj 4 true _ sc.out).mono ?_); rintro e w' ⟨rfl, ⟨nd, rfl⟩⟩) | (go_at_call 57; (with_reducible refine (roadbookref02_Fits.calls kj1 ak 4 true _ im.out).mono ?_); rintro e w' ⟨rfl, ⟨nd, rfl⟩⟩))
              go_ret
              exact ⟨Z9, Z0⟩
             ·rw [if_neg jG] at H
              have oc : ((ac.size : Int) == 4) = false := beq_eq_false_iff_ne.mpr jG
              have od : ((ac.size : Int) != 4) = true := bne_iff_ne.mpr jG
              obtain rfl := Option.some.inj H
              have kI := cells_25 ab.out
              go_wp2_with (first | ((with_reducible refine Pre.gate_load 25 rfl ?_); (try (refine gate_guard Z13 ?_; dsimp only)); refine Pre.load_event rfl rfl rfl Z13 Z2 Try.underlying25 rfl Z6 ?_) | (go_at_call 57; (with_reducible refine (roadbookref02_Fits.calls kj1 ai 1 true _ gN.out).mono ?_); rintro e w' ⟨rfl, ⟨nd, rfl⟩⟩) | (go_at_call 57; (with_reducible refine (roadbookref02_Fits.calls kj1 aj 4 true _ sc.out).mono ?_); rintro e w' ⟨rfl, ⟨nd, rfl⟩⟩) | (go_at_call 57; (with_reducible refine (roadbookref02_Fits.calls kj1 ak 4 true _ im.out).mono ?_); rintro e w' ⟨rfl, ⟨nd, rfl⟩⟩))
              go_ret
              exact ⟨Z9, Z0⟩
            ·replace kf := Bool.eq_false_iff.mpr kf
             subst kf
             replace H := Sq.itF H
             obtain rfl := Option.some.inj H
             have kr := cells_25 ab.out
             go_wp2_with (first | ((with_reducible refine Pre.gate_load 25 rfl ?_); (try (refine gate_guard Z13 ?_; dsimp only)); refine Pre.load_event rfl rfl rfl Z13 Z2 Try.underlying25 rfl Z6 ?_) | (go_at_call 57; (with_reducible refine (roadbookref02_Fits.calls kj1 ai 1 true _ gN.out).mono ?_); rintro e w' ⟨rfl, ⟨nd, rfl⟩⟩) | (go_at_call 57; (with_reducible refine (roadbookref02_Fits.calls kj1 aj 4 true _ sc.out).mono ?_); rintro e w' ⟨rfl, ⟨nd, rfl⟩⟩) | (go_at_call 57; (with_reducible refine (roadbookref02_Fits.calls kj1 ak 4 false _ im.out).mono ?_); rintro e w' ⟨rfl, ⟨nd, rfl⟩⟩))
             go_ret
             exact ⟨Z9, Z0⟩
           ·replace lh := Bool.eq_false_iff.mpr lh
            subst lh
            replace H := Sq.itF H
            obtain rfl := Option.some.inj H
            have nh := cells_25 ab.out
            go_wp2_with (first | ((with_reducible refine Pre.gate_load 25 rfl ?_); (try (refine gate_guard Z13 ?_; dsimp only)); refine Pre.load_event rfl rfl rfl Z13 Z2 Try.underlying25 rfl Z6 ?_) | (go_at_call 57; (with_reducible refine (roadbookref02_Fits.calls kj1 ai 1 true _ gN.out).mono ?_); rintro e w' ⟨rfl, ⟨nd, rfl⟩⟩) | (go_at_call 57; (with_reducible refine (roadbookref02_Fits.calls kj1 aj 4 false _ sc.out).mono ?_); rintro e w' ⟨rfl, ⟨nd, rfl⟩⟩))
            go_ret
            exact ⟨Z9, Z0⟩
          ·replace gU := Bool.eq_false_iff.mpr gU
           subst gU
           replace H := Sq.itF H
           obtain rfl := Option.some.inj H
           have mc := cells_25 ab.out
           go_wp2_with (first | ((with_reducible refine Pre.gate_load 25 rfl ?_); (try (refine gate_guard Z13 ?_; dsimp only)); refine Pre.load_event rfl rfl rfl Z13 Z2 Try.underlying25 rfl Z6 ?_) | (go_at_call 57; (with_reducible refine (roadbookref02_Fits.calls kj1 ai 1 false _ gN.out).mono ?_); rintro e w' ⟨rfl, ⟨nd, rfl⟩⟩))
           go_ret
           exact ⟨Z9, Z0⟩
         ·rw [if_neg fe] at H
          have eV : decide (ax ≤ 31) = false := decide_eq_false fe
          clear fe
          obtain rfl := Option.some.inj H
          have ni := cells_25 ab.out
          go_wp2_with (first | ((with_reducible refine Pre.gate_load 25 rfl ?_); (try (refine gate_guard Z13 ?_; dsimp only)); refine Pre.load_event rfl rfl rfl Z13 Z2 Try.underlying25 rfl Z6 ?_))
          go_ret
          exact ⟨Z9, Z0⟩
        ·rw [if_neg hP] at H
         have iN : decide (0 ≤ ax) = false := decide_eq_false hP
         clear hP
         obtain rfl := Option.some.inj H
         have lv := cells_25 ab.out
         go_wp2_with (first | ((with_reducible refine Pre.gate_load 25 rfl ?_); (try (refine gate_guard Z13 ?_; dsimp only)); refine Pre.load_event rfl rfl rfl Z13 Z2 Try.underlying25 rfl Z6 ?_))
         go_ret
         exact ⟨Z9, Z0⟩
       ·rw [if_neg hY] at H
        have jI : decide (ah ≤ 3) = false := decide_eq_false hY
        clear hY
        obtain rfl := Option.some.inj H
        have qt := cells_25 ab.out
        go_wp2_with (first | ((with_reducible refine Pre.gate_load 25 rfl ?_); (try (refine gate_guard Z13 ?_; dsimp only)); refine Pre.load_event rfl rfl rfl Z13 Z2 Try.underlying25 rfl Z6 ?_))
        go_ret
        exact ⟨Z9, Z0⟩
      ·rw [if_neg ej] at H
       have gL : decide (0 ≤ ah) = false := decide_eq_false ej
       clear ej
       obtain rfl := Option.some.inj H
       have jj := cells_25 ab.out
       go_wp2_with (first | ((with_reducible refine Pre.gate_load 25 rfl ?_); (try (refine gate_guard Z13 ?_; dsimp only)); refine Pre.load_event rfl rfl rfl Z13 Z2 Try.underlying25 rfl Z6 ?_))
       go_ret
       exact ⟨Z9, Z0⟩
     ·rw [if_neg fd] at H
      have ix : (av == 4) = false := beq_eq_false_iff_ne.mpr fd
      have iZ : (av != 4) = true := bne_iff_ne.mpr fd
      obtain rfl := Option.some.inj H
      have qu := cells_25 ab.out
      go_wp2_with (first | ((with_reducible refine Pre.gate_load 25 rfl ?_); (try (refine gate_guard Z13 ?_; dsimp only)); refine Pre.load_event rfl rfl rfl Z13 Z2 Try.underlying25 rfl Z6 ?_))
      go_ret
      exact ⟨Z9, Z0⟩

end Go.Proofs.Ytccjakjjaemmkaa.PR
