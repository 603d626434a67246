-- Written by mp.py, a program of this work (wip/tools), out of the translation; Lean checks it.
import Derived.Test.YtccjakjjaemmkaaPRxZ
import Derived.Test.YtccjakjjaemmkaaPRxext
import Derived.Test.YtccjakjjaemmkaaPRxmsgBare
import Derived.Test.YtccjakjjaemmkaaPRxoctet
namespace Go.Proofs.Ytccjakjjaemmkaa.PR
open Go.RowKit Go.Proofs.YtccjakjjaemmkaaW.PrintWords Go.Proofs.YtccjakjjaemmkaaW.PrintLast Go.Proofs.YtccjakjjaemmkaaW.PrintMore
attribute [local go_sem] max2_int min2_int max_two min_two max_three min_three max_four min_four   -- for this text's walks alone
set_option linter.unusedVariables false
set_option linter.unusedSimpArgs false

/-! ### rreq_Right: function 20 -/
mutual
def rreq_Right.j0 : Nat → Bool → Int → Int → Int → ByteArray → Int → Int → ByteArray → Int → Int → ByteArray → Int → ByteArray → Int → Int → Int → Int → Int → Int → Int → ByteArray → ByteArray → List (S46) → Int → ByteArray → List (S48) → Option (Bool)
 | 0, _, _, _, _, _, _, _, _, _, _, _, _, _, _, _, _, _, _, _, _, _, _, _, _, _, _ => none
 | k + 1, vv, bw, bM, bN, bO, bP, bQ, bR, bx, bS, bT, bU, bI, bA, bF, bC, bv, bB, bG, bJ, bD, bE, bq, bK, bL, bu => if vv = true then (some false) else ((some (([bG, bA, bF] : List Int) : List Int)).bind fun fb => (rreq_Right.l0 k fb (fb.length : Int) 0 bw bM bN bO bP bQ bR bx bS bT bU bI bA bF bC bv bB bG bJ bD bE bq bK bL bu))
def rreq_Right.l0 : Nat → List Int → Int → Int → Int → Int → Int → ByteArray → Int → Int → ByteArray → Int → Int → ByteArray → Int → ByteArray → Int → Int → Int → Int → Int → Int → Int → ByteArray → ByteArray → List (S46) → Int → ByteArray → List (S48) → Option (Bool)
 | 0, _, _, _, _, _, _, _, _, _, _, _, _, _, _, _, _, _, _, _, _, _, _, _, _, _, _, _, _ => none
 | k + 1, vw, wx, sX, bw, bM, bN, bO, bP, bQ, bR, bx, bS, bT, bU, bI, bA, bF, bC, bv, bB, bG, bJ, bD, bE, bq, bK, bL, bu => if sX < wx then (if 0 ≤ sX then (if sX < (vw.length : Int) then ((octet_Fits.f (rd vw sX) 4).bind fun bp => (if bp = true then (rreq_Right.l0 k vw wx (wrap64 (sX + 1)) bw bM bN bO bP bQ bR bx bS bT bU bI bA bF bC bv bB bG bJ bD bE bq bK bL bu) else (some false))) else (none)) else (none)) else ((octet_Fits.f bB 1).bind fun aQ => (if aQ = true then ((ext_Right.f k bu).bind fun aV => (some aV)) else (some false)))
end
def rreq_Right.f (k : Nat) (av : Int) (au : Int) (aw : Int) (ay : ByteArray) (aD : Int) (az : Int) (aA : ByteArray) (ax : Int) (aE : Int) (aC : ByteArray) (ap : Int) (an : ByteArray) (aj : Int) (am : Int) (ak : Int) (ah : Int) (ai : Int) (al : Int) (ao : Int) (ac : ByteArray) (af : ByteArray) (ae : List (S46)) (aq : Int) (ar : ByteArray) (ag : List (S48)) : Option (Bool) := if av = 3 then ((msg_Bare.f av au aw ay aD az aA ax aE aC ap an aj am ak ah ai al ao ac af ae aq ar ag).bind fun ba => (if ba = true then (if ah < 0 then (rreq_Right.j0 k true av au aw ay aD az aA ax aE aC ap an aj am ak ah ai al ao ac af ae aq ar ag) else (if ah > 31 then (rreq_Right.j0 k true av au aw ay aD az aA ax aE aC ap an aj am ak ah ai al ao ac af ae aq ar ag) else (if (ac.size : Int) = 4 then (rreq_Right.j0 k ((af.size : Int) != 4) av au aw ay aD az aA ax aE aC ap an aj am ak ah ai al ao ac af ae aq ar ag) else (rreq_Right.j0 k true av au aw ay aD az aA ax aE aC ap an aj am ak ah ai al ao ac af ae aq ar ag)))) else (rreq_Right.j0 k true av au aw ay aD az aA ax aE aC ap an aj am ak ah ai al ao ac af ae aq ar ag))) else (rreq_Right.j0 k true av au aw ay aD az aA ax aE aC ap an aj am ak ah ai al ao ac af ae aq ar ag)
theorem rreq_Right.mono_l : ∀ k, (∀ y0 y1 y2 y3 y4 y5 y6 y7 y8 y9 fi fj fk fl fm fn fo fp fq fr fs ft fu fv fw fx, LeO (rreq_Right.j0 k y0 y1 y2 y3 y4 y5 y6 y7 y8 y9 fi fj fk fl fm fn fo fp fq fr fs ft fu fv fw fx) (rreq_Right.j0 (k + 1) y0 y1 y2 y3 y4 y5 y6 y7 y8 y9 fi fj fk fl fm fn fo fp fq fr fs ft fu fv fw fx)) ∧ (∀ y0 y1 y2 y3 y4 y5 y6 y7 y8 y9 fi fj fk fl fm fn fo fp fq fr fs ft fu fv fw fx hH jk, LeO (rreq_Right.l0 k y0 y1 y2 y3 y4 y5 y6 y7 y8 y9 fi fj fk fl fm fn fo fp fq fr fs ft fu fv fw fx hH jk) (rreq_Right.l0 (k + 1) y0 y1 y2 y3 y4 y5 y6 y7 y8 y9 fi fj fk fl fm fn fo fp fq fr fs ft fu fv fw fx hH jk))
 | 0 => ⟨fun _ _ _ _ _ _ _ _ _ _ _ _ _ _ _ _ _ _ _ _ _ _ _ _ _ _ r h => by simp [rreq_Right.j0] at h, fun _ _ _ _ _ _ _ _ _ _ _ _ _ _ _ _ _ _ _ _ _ _ _ _ _ _ _ _ r h => by simp [rreq_Right.l0] at h⟩
 | k + 1 => by
  obtain ⟨ih0, ih1⟩ := rreq_Right.mono_l k
  refine ⟨?_, ?_⟩
  ·intro y0 y1 y2 y3 y4 y5 y6 y7 y8 y9 fi fj fk fl fm fn fo fp fq fr fs ft fu fv fw fx
   unfold rreq_Right.j0
   repeat' first
   | (with_reducible exact ih0 ..)
   | (with_reducible exact ih1 ..)
   | (with_reducible exact ext_Right.mono _ _)
   | (with_reducible exact LeO.refl _)
   | (with_reducible exact LeO.none _)
   | (with_reducible refine LeO.ite ?_ ?_)
   | (with_reducible refine LeO.bind ?_ (fun _ => ?_))
   | exact ih0 ..
   | exact ih1 ..
   | exact ext_Right.mono _ _
   | exact LeO.none _
   | refine LeO.ite ?_ ?_
   | refine LeO.bind ?_ (fun _ => ?_)
  ·intro y0 y1 y2 y3 y4 y5 y6 y7 y8 y9 fi fj fk fl fm fn fo fp fq fr fs ft fu fv fw fx hH jk
   unfold rreq_Right.l0
   repeat' first
   | (with_reducible exact ih0 ..)
   | (with_reducible exact ih1 ..)
   | (with_reducible exact ext_Right.mono _ _)
   | (with_reducible exact LeO.refl _)
   | (with_reducible exact LeO.none _)
   | (with_reducible refine LeO.ite ?_ ?_)
   | (with_reducible refine LeO.bind ?_ (fun _ => ?_))
   | exact ih0 ..
   | exact ih1 ..
   | exact ext_Right.mono _ _
   | exact LeO.none _
   | refine LeO.ite ?_ ?_
   | refine LeO.bind ?_ (fun _ => ?_)
theorem rreq_Right.mono : ∀ a0 a1 a2 a3 a4 a5 a6 a7 a8 a9 fJ fK fL fM fN fO fP fQ fR fS fT fU fV fW fX k, LeO (rreq_Right.f k a0 a1 a2 a3 a4 a5 a6 a7 a8 a9 fJ fK fL fM fN fO fP fQ fR fS fT fU fV fW fX) (rreq_Right.f (k + 1) a0 a1 a2 a3 a4 a5 a6 a7 a8 a9 fJ fK fL fM fN fO fP fQ fR fS fT fU fV fW fX) := by
 intro a0 a1 a2 a3 a4 a5 a6 a7 a8 a9 fJ fK fL fM fN fO fP fQ fR fS fT fU fV fW fX k
 obtain ⟨ih0, ih1⟩ := rreq_Right.mono_l k
 unfold rreq_Right.f
 repeat' first
   | (with_reducible exact ih0 ..)
   | (with_reducible exact ih1 ..)
   | (with_reducible exact ext_Right.mono _ _)
   | (with_reducible exact LeO.refl _)
   | (with_reducible exact LeO.none _)
   | (with_reducible refine LeO.ite ?_ ?_)
   | (with_reducible refine LeO.bind ?_ (fun _ => ?_))
   | exact ih0 ..
   | exact ih1 ..
   | exact ext_Right.mono _ _
   | exact LeO.none _
   | refine LeO.ite ?_ ?_
   | refine LeO.bind ?_ (fun _ => ?_)

set_option maxHeartbeats 8000000 in
set_option maxRecDepth 100000 in
theorem rreq_Right.calls (k : Nat) (av : Int) (au : Int) (aw : Int) (ay : ByteArray) (aD : Int) (az : Int) (aA : ByteArray) (ax : Int) (aE : Int) (aC : ByteArray) (ap : Int) (an : ByteArray) (aj : Int) (am : Int) (ak : Int) (ah : Int) (ai : Int) (al : Int) (ao : Int) (ac : ByteArray) (af : ByteArray) (aT : Option Addr) (aN : Nat) (ae : List (S46)) (aq : Int) (ar : ByteArray) (aJ : Option Addr) (aK : Nat) (ag : List (S48)) (r : Bool) (w : World) (bY : Kd.C k46 w aT ae.length ae) (bZ : ae.length ≤ aN) (ca : Kd.C k48 w aJ ag.length ag) (cb : ag.length ≤ aK) (h : rreq_Right.f k av au aw ay aD az aA ax aE aC ap an aj am ak ah ai al ao ac af ae aq ar ag = some r) :
  Calls Try.prog 20 #[.agg #[.int .i64 av, .int .i64 au, .int .i64 aw, .string ay, .int .i64 aD, .int .i64 az, .string aA, .int .i64 ax, .int .i64 aE, .string aC, .int .i64 ap, .string an, .int .i64 aj, .int .i64 am, .int .i64 ak, .int .i64 ah, .int .i64 ai, .int .i64 al, .int .i64 ao, .string ac, .string af, .slice aT ae.length aN, .int .i64 aq, .string ar, .slice aJ ag.length aK]] w fun e w' => e = .returned (.bool r) ∧ Below w.heap.size w w' := by
 have gB := Try.underlying25
 have cT := Aside0.mk bY
 have bl := Aside0.mk bZ
 clear bY bZ
 have cP := Aside0.mk ca
 have bg := Aside0.mk cb
 clear ca cb
 have HB := Aside0.mk (Below.refl w.heap.size w)
 have H : (if av = 3 then ((msg_Bare.f av au aw ay aD az aA ax aE aC ap an aj am ak ah ai al ao ac af ae aq ar ag).bind fun ba => (if ba = true then (if ah < 0 then (rreq_Right.j0 k true av au aw ay aD az aA ax aE aC ap an aj am ak ah ai al ao ac af ae aq ar ag) else (if ah > 31 then (rreq_Right.j0 k true av au aw ay aD az aA ax aE aC ap an aj am ak ah ai al ao ac af ae aq ar ag) else (if (ac.size : Int) = 4 then (rreq_Right.j0 k ((af.size : Int) != 4) av au aw ay aD az aA ax aE aC ap an aj am ak ah ai al ao ac af ae aq ar ag) else (rreq_Right.j0 k true av au aw ay aD az aA ax aE aC ap an aj am ak ah ai al ao ac af ae aq ar ag)))) else (rreq_Right.j0 k true av au aw ay aD az aA ax aE aC ap an aj am ak ah ai al ao ac af ae aq ar ag))) else (rreq_Right.j0 k true av au aw ay aD az aA ax aE aC ap an aj am ak ah ai al ao ac af ae aq ar ag)) = some r := h
 clear h
 have iB := Aside0.mk H
 clear H
 go_enter Try.func20, Try.ntmps20
 go_upto_region 1 with (first | ((with_reducible refine Pre.gate_load 25 rfl ?_); (try (refine gate_guard Z13 ?_; dsimp only)); refine Pre.load_event rfl rfl rfl Z13 Z2 Try.underlying25 rfl Z6 ?_) | ((with_reducible refine gate_dst (N := 1) rfl ?_); (try (refine gate_guard Z13 ?_; dsimp only)); refine box_event ?hg (N := 1) ?hd (cs := #[.int .i64 av, .int .i64 au, .int .i64 aw, .string ay, .int .i64 aD, .int .i64 az, .string aA, .int .i64 ax, .int .i64 aE, .string aC, .int .i64 ap, .string an, .int .i64 aj, .int .i64 am, .int .i64 ak, .int .i64 ah, .int .i64 ai, .int .i64 al, .int .i64 ao, .string ac, .string af, .slice aT ae.length aN, .int .i64 aq, .string ar, .slice aJ ag.length aK]) (t := 25) ?hr ?_; (case hd => rfl); (case hg => rfl); (case hr => first | (go_simp; done) | (go_simp; rfl)); intro aa hg w3 hbox hb; have aG := Aside0.mk (below_step Z3 hb); have aH := Aside0.mk (hbox); have aI := Aside0.mk ((by rw [hg]; exact (below_size Z3) : w.heap.size ≤ aa)); have aZ := Aside0.mk ((by rw [hg]; exact (below_size Z3) : w.heap.size ≤ aa)); replace HB := aG; have ab := aH; have cl := aI; have bs := aZ; clear aG aH aI aZ; clear hb hbox hg))
 (try simp only [Act.put, List.setIfInBounds_toArray, List.set_cons_zero, List.set_cons_succ])
 go_cut [34] (fun vx wc => ∃ (kq : Nat) (jQ : Bool), vx = .bool jQ ∧ Aside0 (rreq_Right.j0 kq jQ av au aw ay aD az aA ax aE aC ap an aj am ak ah ai al ao ac af ae aq ar ag = some r) ∧ Aside0 (kq ≤ k) ∧ Aside0 (wc.heap[aa]? = some (.cells #[.int .i64 av, .int .i64 au, .int .i64 aw, .string ay, .int .i64 aD, .int .i64 az, .string aA, .int .i64 ax, .int .i64 aE, .string aC, .int .i64 ap, .string an, .int .i64 aj, .int .i64 am, .int .i64 ak, .int .i64 ah, .int .i64 ai, .int .i64 al, .int .i64 ao, .string ac, .string af, (.slice aT ae.length aN), .int .i64 aq, .string ar, (.slice aJ ag.length aK)] 25 (0, 0))) ∧ Aside0 (Below w.heap.size w wc))
 case first =>
  have H := iB.out
  clear iB
  by_cases c4 : av = 3
  ·rw [if_pos c4] at H
   have cS : (av == 3) = true := beq_iff_eq.mpr c4
   have gY : (av != 3) = false := bne_eq_false_iff_eq.mpr c4
   clear c4
   (first | rw [cS] | (simp only [i64_w, i32_w]; rw [cS]) | skip)
   replace H := Option.bind_eq_some_iff.mp H
   obtain ⟨ba, jp, H⟩ := H
   replace H : (if ba = true then (if ah < 0 then (rreq_Right.j0 k true av au aw ay aD az aA ax aE aC ap an aj am ak ah ai al ao ac af ae aq ar ag) else (if ah > 31 then (rreq_Right.j0 k true av au aw ay aD az aA ax aE aC ap an aj am ak ah ai al ao ac af ae aq ar ag) else (if (ac.size : Int) = 4 then (rreq_Right.j0 k ((af.size : Int) != 4) av au aw ay aD az aA ax aE aC ap an aj am ak ah ai al ao ac af ae aq ar ag) else (rreq_Right.j0 k true av au aw ay aD az aA ax aE aC ap an aj am ak ah ai al ao ac af ae aq ar ag)))) else (rreq_Right.j0 k true av au aw ay aD az aA ax aE aC ap an aj am ak ah ai al ao ac af ae aq ar ag)) = some r := H
   have A5 := Aside0.mk jp
   clear jp
   by_cases c6 : ba = true
   ·subst c6
    replace H := Sq.itT H
    by_cases c7 : ah < 0
    ·rw [if_pos c7] at H
     have ib : decide (ah < 0) = true := decide_eq_true c7
     clear c7
     have H' := Aside0.mk H
     clear H
     have nC := cells_25 ab.out
     go_wp2_with (first | ((with_reducible refine Pre.gate_load 25 rfl ?_); (try (refine gate_guard Z13 ?_; dsimp only)); refine Pre.load_event rfl rfl rfl Z13 Z2 Try.underlying25 rfl Z6 ?_) | (go_at_call 53; (with_reducible refine (msg_Bare.calls av au aw ay aD az aA ax aE aC ap an aj am ak ah ai al ao ac af _ _ ae aq ar _ _ ag true _ ?side1 ?side2 ?side3 ?side4 A5.out).mono ?_); (case side1 => exact Z8); (case side2 => exact bl.out); (case side3 => exact Z7); (case side4 => exact bg.out); rintro e w9 ⟨rfl, hb⟩; have aG := Aside0.mk (blk_below (g := aa) Z1 hb); have aH := Aside0.mk (below_step Z0 hb); replace ab := aG; replace HB := aH; clear aG aH; (try clear hb); (try clear hb2); (try clear hk); (try clear hi); have jH := cells_25 ab.out))
     go_meet
     case rel => exact ⟨_, (true), Z14, H', ⟨Z41⟩, ⟨Z1⟩, ⟨Z0⟩⟩
    ·rw [if_neg c7] at H
     have ib : decide (ah < 0) = false := decide_eq_false c7
     clear c7
     by_cases cU : ah > 31
     ·rw [if_pos cU] at H
      have fE : decide (31 < ah) = true := decide_eq_true cU
      clear cU
      have H' := Aside0.mk H
      clear H
      have md := cells_25 ab.out
      go_wp2_with (first | ((with_reducible refine Pre.gate_load 25 rfl ?_); (try (refine gate_guard Z13 ?_; dsimp only)); refine Pre.load_event rfl rfl rfl Z13 Z2 Try.underlying25 rfl Z6 ?_) | (go_at_call 53; (with_reducible refine (msg_Bare.calls av au aw ay aD az aA ax aE aC ap an aj am ak ah ai al ao ac af _ _ ae aq ar _ _ ag true _ ?side1 ?side2 ?side3 ?side4 A5.out).mono ?_); (case side1 => exact Z8); (case side2 => exact bl.out); (case side3 => exact Z7); (case side4 => exact bg.out); rintro e lb ⟨rfl, hb⟩; have aG := Aside0.mk (blk_below (g := aa) Z1 hb); have aH := Aside0.mk (below_step Z0 hb); replace ab := aG; replace HB := aH; clear aG aH; (try clear hb); (try clear hb2); (try clear hk); (try clear hi); have ji := cells_25 ab.out))
      go_meet
      case rel => exact ⟨_, (true), Z14, H', ⟨Z41⟩, ⟨Z1⟩, ⟨Z0⟩⟩
     ·rw [if_neg cU] at H
      have fE : decide (31 < ah) = false := decide_eq_false cU
      clear cU
      by_cases fd : (ac.size : Int) = 4
      ·rw [if_pos fd] at H
       have ix : ((ac.size : Int) == 4) = true := beq_iff_eq.mpr fd
       have iZ : ((ac.size : Int) != 4) = false := bne_eq_false_iff_eq.mpr fd
       clear fd
       have H' := Aside0.mk H
       clear H
       have ir := cells_25 ab.out
       go_wp2_with (first | ((with_reducible refine Pre.gate_load 25 rfl ?_); (try (refine gate_guard Z13 ?_; dsimp only)); refine Pre.load_event rfl rfl rfl Z13 Z2 Try.underlying25 rfl Z6 ?_) | (go_at_call 53; (with_reducible refine (msg_Bare.calls av au aw ay aD az aA ax aE aC ap an aj am ak ah ai al ao ac af _ _ ae aq ar _ _ ag true _ ?side1 ?side2 ?side3 ?side4 A5.out).mono ?_); (case side1 => exact Z8); (case side2 => exact bl.out); (case side3 => exact Z7); (case side4 => exact bg.out); rintro e kz ⟨rfl, hb⟩; have aG := Aside0.mk (blk_below (g := aa) Z1 hb); have aH := Aside0.mk (below_step Z0 hb); replace ab := aG; replace HB := aH; clear aG aH; (try clear hb); (try clear hb2); (try clear hk); (try clear hi); have nj := cells_25 ab.out))
       go_meet
       case rel => exact ⟨_, (((af.size : Int) != 4)), Z14, H', ⟨Z41⟩, ⟨Z1⟩, ⟨Z0⟩⟩
      ·rw [if_neg fd] at H
       have ix : ((ac.size : Int) == 4) = false := beq_eq_false_iff_ne.mpr fd
       have iZ : ((ac.size : Int) != 4) = true := bne_iff_ne.mpr fd
       have H' := Aside0.mk H
       clear H
       have jh := cells_25 ab.out
       go_wp2_with (first | ((with_reducible refine Pre.gate_load 25 rfl ?_); (try (refine gate_guard Z13 ?_; dsimp only)); refine Pre.load_event rfl rfl rfl Z13 Z2 Try.underlying25 rfl Z6 ?_) | (go_at_call 53; (with_reducible refine (msg_Bare.calls av au aw ay aD az aA ax aE aC ap an aj am ak ah ai al ao ac af _ _ ae aq ar _ _ ag true _ ?side1 ?side2 ?side3 ?side4 A5.out).mono ?_); (case side1 => exact Z8); (case side2 => exact bl.out); (case side3 => exact Z7); (case side4 => exact bg.out); rintro e kG ⟨rfl, hb⟩; have aG := Aside0.mk (blk_below (g := aa) Z1 hb); have aH := Aside0.mk (below_step Z0 hb); replace ab := aG; replace HB := aH; clear aG aH; (try clear hb); (try clear hb2); (try clear hk); (try clear hi); have lq := cells_25 ab.out))
       go_meet
       case rel => exact ⟨_, (true), Z14, H', ⟨Z41⟩, ⟨Z1⟩, ⟨Z0⟩⟩
   ·replace c6 := Bool.eq_false_iff.mpr c6
    subst c6
    replace H := Sq.itF H
    have H' := Aside0.mk H
    clear H
    have jl := cells_25 ab.out
    go_wp2_with (first | ((with_reducible refine Pre.gate_load 25 rfl ?_); (try (refine gate_guard Z13 ?_; dsimp only)); refine Pre.load_event rfl rfl rfl Z13 Z2 Try.underlying25 rfl Z6 ?_) | (go_at_call 53; (with_reducible refine (msg_Bare.calls av au aw ay aD az aA ax aE aC ap an aj am ak ah ai al ao ac af _ _ ae aq ar _ _ ag false _ ?side1 ?side2 ?side3 ?side4 A5.out).mono ?_); (case side1 => exact Z8); (case side2 => exact bl.out); (case side3 => exact Z7); (case side4 => exact bg.out); rintro e gn ⟨rfl, hb⟩; have aG := Aside0.mk (blk_below (g := aa) Z1 hb); have aH := Aside0.mk (below_step Z0 hb); replace ab := aG; replace HB := aH; clear aG aH; (try clear hb); (try clear hb2); (try clear hk); (try clear hi)))
    go_meet
    case rel => exact ⟨_, (true), Z14, H', ⟨Z41⟩, ⟨Z1⟩, ⟨Z0⟩⟩
  ·rw [if_neg c4] at H
   have cS : (av == 3) = false := beq_eq_false_iff_ne.mpr c4
   have gY : (av != 3) = true := bne_iff_ne.mpr c4
   (first | rw [cS] | (simp only [i64_w, i32_w]; rw [cS]) | skip)
   have H' := Aside0.mk H
   clear H
   have me := cells_25 ab.out
   go_wp2_with (first | ((with_reducible refine Pre.gate_load 25 rfl ?_); (try (refine gate_guard Z13 ?_; dsimp only)); refine Pre.load_event rfl rfl rfl Z13 Z2 Try.underlying25 rfl Z6 ?_))
   go_meet
   case rel => exact ⟨_, (true), Z14, H', ⟨Z41⟩, ⟨Z1⟩, ⟨Z0⟩⟩
 case rest =>
  clear iB
  try clear c2
  try clear lg
  obtain ⟨kq, jQ, rfl, HA, kB, ab, HB⟩ := hcut
  cases kq with
  | zero => exact absurd HA.out (by simp [rreq_Right.j0])
  | succ kj1 =>
   have H := HA.out
   clear HA
   simp only [rreq_Right.j0] at H
   by_cases kf : jQ = true
   ·subst kf
    replace H := Sq.itT H
    obtain rfl := Option.some.inj H
    go_wp2_with (first | ((with_reducible refine Pre.gate_load 25 rfl ?_); (try (refine gate_guard Z13 ?_; dsimp only)); refine Pre.load_event rfl rfl rfl Z13 Z2 Try.underlying25 rfl Z6 ?_))
    go_ret
    exact ⟨Z9, Z0⟩
   ·replace kf := Bool.eq_false_iff.mpr kf
    subst kf
    replace H := Sq.itF H
    obtain ⟨fb, hy103⟩ : ∃ y_ : List Int, y_ = (([al, aj, am] : List Int)) := ⟨_, rfl⟩
    replace H : (rreq_Right.l0 kj1 fb (fb.length : Int) 0 av au aw ay aD az aA ax aE aC ap an aj am ak ah ai al ao ac af ae aq ar ag) = some r := by first | (rw [hy103]; with_reducible exact H) | (have H2_ := (Option.bind_some _ _).symm.trans H; rw [hy103]; with_reducible exact H2_) | (have H2_ := (Option.bind_some _ _).symm.trans H; with_reducible exact H2_) | with_reducible exact H | (rw [hy103]; exact H) | exact H
    have Ny103 := Aside0.mk hy103
    clear hy103
    have H' := Aside0.mk H
    clear H
    have iO := cells_25 ab.out
    go_wp2_with (first | ((with_reducible refine Pre.gate_load 25 rfl ?_); (try (refine gate_guard Z13 ?_; dsimp only)); refine Pre.load_event rfl rfl rfl Z13 Z2 Try.underlying25 rfl Z6 ?_) | ((with_reducible refine gate_dst (N := 41) rfl ?_); (try (refine gate_guard Z13 ?_; dsimp only)); refine Kd.R_lit (Kd.int .i64) _ 3 ?hg (N := 41) ?hd (xs := ([al, aj, am] : List Int)) (inner := [.int .i64 al, .int .i64 aj, .int .i64 am]) (ok := fun _ => True) (okp := fun _ => True) ?hr ?hp (fun _ hk => hk) trivial (Below.refl _ _) (Nat.le_refl _) Z73 ?_; (case hd => rfl); (case hg => rfl); (case hr => first | (go_simp; done) | (go_simp; rfl)); (case hp => exact (Reps.one (show Kd.M (Kd.int .i64) _ _ _ al [.int .i64 al] from rfl) (Reps.one (show Kd.M (Kd.int .i64) _ _ _ aj [.int .i64 aj] from rfl) (Reps.one (show Kd.M (Kd.int .i64) _ _ _ am [.int .i64 am] from rfl) (Reps.none _ _))))); intro qZ iy ho28 hb hg_ hnew_; clear hg_ hnew_; (first | rw [← Ny103.out] at ho28 | (simp only [Int.reduceToNat] at ho28; rw [← Ny103.out] at ho28)); have aG := Aside0.mk (Kd.R_lower ho28 (below_size Z0)); have aH := Aside0.mk (blk_below (g := aa) Z1 hb); have aI := Aside0.mk (below_step Z0 hb); have lw := aG; replace ab := aH; replace HB := aI; clear aG aH aI; clear hb ho28; obtain ⟨oq, ot, eo29⟩ := Kd.R_slice lw.out; subst eo29))
    go_loopg [43] kj1 (fun kq wU w' => ∃ (gP : Int), wU = .int .i64 gP ∧ Aside0 (rreq_Right.l0 kq fb (fb.length : Int) gP av au aw ay aD az aA ax aE aC ap an aj am ak ah ai al ao ac af ae aq ar ag = some r) ∧ Aside0 (kq ≤ kj1) ∧ Aside0 (Kd.R (Kd.int .i64) 3 w' w.heap.size (fun _ => True) (.slice oq fb.length ot) fb) ∧ Aside0 (w'.heap[aa]? = some (.cells #[.int .i64 av, .int .i64 au, .int .i64 aw, .string ay, .int .i64 aD, .int .i64 az, .string aA, .int .i64 ax, .int .i64 aE, .string aC, .int .i64 ap, .string an, .int .i64 aj, .int .i64 am, .int .i64 ak, .int .i64 ah, .int .i64 ai, .int .i64 al, .int .i64 ao, .string ac, .string af, (.slice aT ae.length aN), .int .i64 aq, .string ar, (.slice aJ ag.length aK)] 25 (0, 0))) ∧ Aside0 (Below w.heap.size w w'))
    case atStart => exact ⟨(0), Z14, H', ⟨Nat.le_refl _⟩, ⟨Z117⟩, ⟨Z1⟩, ⟨Z0⟩⟩
    case round =>
     clear H'
     try clear c2
     try clear p2
     try clear c4
     try clear cS
     try clear gY
     try clear c6
     try clear c7
     try clear lg
     try clear kf
     try clear jl
     try clear me
     try clear iO
     obtain ⟨gP, rfl, HA, HK2, HO_41, ab, HB⟩ := hrel
     cases gk with
     | zero => exact absurd HA.out (by simp [rreq_Right.l0])
     | succ k2 =>
      have H := HA.out
      clear HA
      simp only [rreq_Right.l0] at H
      by_cases la : gP < (fb.length : Int)
      ·rw [if_pos la] at H
       have ou : decide (gP < (fb.length : Int)) = true := decide_eq_true la
       clear la
       by_cases jD : 0 ≤ gP
       ·rw [if_pos jD] at H
        have li : decide (0 ≤ gP) = true := decide_eq_true jD
        clear jD
        by_cases jv : gP < (fb.length : Int)
        ·rw [if_pos jv] at H
         have lV : decide (gP < (fb.length : Int)) = true := decide_eq_true jv
         clear jv
         replace H := Option.bind_eq_some_iff.mp H
         obtain ⟨bp, lU, H⟩ := H
         replace H : (if bp = true then (rreq_Right.l0 k2 fb (fb.length : Int) (wrap64 (gP + 1)) av au aw ay aD az aA ax aE aC ap an aj am ak ah ai al ao ac af ae aq ar ag) else (some false)) = some r := H
         have qd := Aside0.mk lU
         clear lU
         by_cases jf : bp = true
         ·subst jf
          replace H := Sq.itT H
          have H' := Aside0.mk H
          clear H
          have p106 : 0 ≤ (gP : Int) := of_decide_eq_true Z10
          have q106 : gP < (fb.length : Int) := of_decide_eq_true Z10
          obtain ⟨ad106, e106, hx106_0⟩ := Kd.at_int (Kd.R_reads' HO_41.out).2.2 gP p106 q106
          cases e106
          replace p106 := eq_true p106
          replace q106 := eq_true q106
          go_wp2_with (first | ((with_reducible refine Pre.gate_load 25 rfl ?_); (try (refine gate_guard Z13 ?_; dsimp only)); refine Pre.load_event rfl rfl rfl Z13 Z2 Try.underlying25 rfl Z6 ?_) | ((with_reducible refine gate_callee (f := 54) rfl ?_); refine goesL_ (some 48) rfl rfl Try.func54 Z6 rfl #[.int .i64 (rd fb gP), .int .i64 4] rfl Z5 ?_; (with_reducible refine (octet_Fits.calls (rd fb gP) 4 true _ qd.out).mono ?_); rintro e w' ⟨rfl, ⟨nd, rfl⟩⟩; refine ⟨_, rfl, ?_⟩))
          go_roundg k2
          case measure => have := kB.out; have := HK2.out; omega
          case rel => exact ⟨(wrap64 (gP + 1)), Z14, H', ⟨by have := kB.out; have := HK2.out; omega⟩, ⟨by (with_reducible repeat (first | apply Kd.R_alloc | apply Kd.R_drewN | apply Kd.R_drew)); exact HO_41.out⟩, ⟨Z1⟩, ⟨Z0⟩⟩
         ·replace jf := Bool.eq_false_iff.mpr jf
          subst jf
          replace H := Sq.itF H
          obtain rfl := Option.some.inj H
          have p106 : 0 ≤ (gP : Int) := of_decide_eq_true Z10
          have q106 : gP < (fb.length : Int) := of_decide_eq_true Z10
          obtain ⟨ad106, e106, hx106_0⟩ := Kd.at_int (Kd.R_reads' HO_41.out).2.2 gP p106 q106
          cases e106
          replace p106 := eq_true p106
          replace q106 := eq_true q106
          go_wp2_with (first | ((with_reducible refine Pre.gate_load 25 rfl ?_); (try (refine gate_guard Z13 ?_; dsimp only)); refine Pre.load_event rfl rfl rfl Z13 Z2 Try.underlying25 rfl Z6 ?_) | ((with_reducible refine gate_callee (f := 54) rfl ?_); refine goesL_ (some 48) rfl rfl Try.func54 Z6 rfl #[.int .i64 (rd fb gP), .int .i64 4] rfl Z5 ?_; (with_reducible refine (octet_Fits.calls (rd fb gP) 4 false _ qd.out).mono ?_); rintro e w' ⟨rfl, ⟨nd, rfl⟩⟩; refine ⟨_, rfl, ?_⟩))
          go_ret
          exact ⟨Z9, Z0⟩
        ·rw [if_neg jv] at H
         exact absurd H Z73
       ·rw [if_neg jD] at H
        exact absurd H Z73
      ·rw [if_neg la] at H
       have ou : decide (gP < (fb.length : Int)) = false := decide_eq_false la
       clear la
       replace H := Option.bind_eq_some_iff.mp H
       obtain ⟨aQ, kJ, H⟩ := H
       replace H : (if aQ = true then ((ext_Right.f k2 ag).bind fun aV => (some aV)) else (some false)) = some r := H
       have pK := Aside0.mk kJ
       clear kJ
       by_cases mC : aQ = true
       ·subst mC
        replace H := Sq.itT H
        replace H := Option.bind_eq_some_iff.mp H
        obtain ⟨aV, sY, H⟩ := H
        replace H : (some aV) = some r := H
        have wV := Aside0.mk sY
        clear sY
        obtain rfl := Option.some.inj H
        have qn := cells_25 ab.out
        go_wp2_with (first | ((with_reducible refine Pre.gate_load 25 rfl ?_); (try (refine gate_guard Z13 ?_; dsimp only)); refine Pre.load_event rfl rfl rfl Z13 Z2 Try.underlying25 rfl Z6 ?_) | ((with_reducible refine gate_callee (f := 54) rfl ?_); refine goesL_ (some 53) rfl rfl Try.func54 Z6 rfl #[.int .i64 ai, .int .i64 1] rfl Z5 ?_; (with_reducible refine (octet_Fits.calls ai 1 true _ pK.out).mono ?_); rintro e w' ⟨rfl, ⟨nd, rfl⟩⟩; refine ⟨_, rfl, ?_⟩) | (go_at_call 55; (with_reducible refine (ext_Right.calls k2 _ _ ag aV _ ?side1 ?side2 wV.out).mono ?_); (case side1 => exact Z124); (case side2 => exact bg.out); rintro e mE ⟨rfl, hb⟩; have aG := Aside0.mk (Kd.R_below (by (with_reducible repeat (first | apply Kd.R_alloc | apply Kd.R_drewN | apply Kd.R_drew)); exact HO_41.out) hb); have aH := Aside0.mk (blk_below (g := aa) Z1 hb); have aI := Aside0.mk (below_step Z0 hb); replace HO_41 := aG; replace ab := aH; replace HB := aI; clear aG aH aI; (try clear hb); (try clear hb2); (try clear hk); (try clear hi)))
        go_ret
        exact ⟨Z9, Z0⟩
       ·replace mC := Bool.eq_false_iff.mpr mC
        subst mC
        replace H := Sq.itF H
        obtain rfl := Option.some.inj H
        have sZ := cells_25 ab.out
        go_wp2_with (first | ((with_reducible refine Pre.gate_load 25 rfl ?_); (try (refine gate_guard Z13 ?_; dsimp only)); refine Pre.load_event rfl rfl rfl Z13 Z2 Try.underlying25 rfl Z6 ?_) | ((with_reducible refine gate_callee (f := 54) rfl ?_); refine goesL_ (some 53) rfl rfl Try.func54 Z6 rfl #[.int .i64 ai, .int .i64 1] rfl Z5 ?_; (with_reducible refine (octet_Fits.calls ai 1 false _ pK.out).mono ?_); rintro e w' ⟨rfl, ⟨nd, rfl⟩⟩; refine ⟨_, rfl, ?_⟩))
        go_ret
        exact ⟨Z9, Z0⟩

end Go.Proofs.Ytccjakjjaemmkaa.PR
