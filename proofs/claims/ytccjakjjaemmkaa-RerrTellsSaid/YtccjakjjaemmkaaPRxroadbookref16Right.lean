-- Written by mp.py, a program of this work (wip/tools), out of the translation; Lean checks it.
import Derived.Test.YtccjakjjaemmkaaPRxZ
import Derived.Test.YtccjakjjaemmkaaPRxroadbookref02
import Derived.Test.YtccjakjjaemmkaaPRxroadbookref07Bare
import Derived.Test.YtccjakjjaemmkaaPRxroadbookref13
namespace Go.Proofs.Ytccjakjjaemmkaa.PR
open Go.RowKit Go.Proofs.YtccjakjjaemmkaaW.PrintWords Go.Proofs.YtccjakjjaemmkaaW.PrintLast Go.Proofs.YtccjakjjaemmkaaW.PrintMore
attribute [local go_sem] max2_int min2_int max_two min_two max_three min_three max_four min_four   -- for this text's walks alone
set_option linter.unusedVariables false
set_option linter.unusedSimpArgs false

/-! ### roadbookref16_Right: function 29 -/
mutual
def roadbookref16_Right.j0 : Nat → Bool → Int → Int → Int → ByteArray → Int → Int → ByteArray → Int → Int → ByteArray → Int → ByteArray → Int → Int → Int → Int → Int → Int → Int → ByteArray → ByteArray → List (S46) → Int → ByteArray → List (S48) → Option (Bool)
 | 0, _, _, _, _, _, _, _, _, _, _, _, _, _, _, _, _, _, _, _, _, _, _, _, _, _, _ => none
 | k + 1, xc, bw, bM, bN, bO, bP, bQ, bR, bx, bS, bT, bU, bI, bA, bF, bC, bv, bB, bG, bJ, bD, bE, bq, bK, bL, bu => if xc = true then (some false) else (roadbookref16_Right.l0 k 0 bw bM bN bO bP bQ bR bx bS bT bU bI bA bF bC bv bB bG bJ bD bE bq bK bL bu)
def roadbookref16_Right.l0 : Nat → Int → Int → Int → Int → ByteArray → Int → Int → ByteArray → Int → Int → ByteArray → Int → ByteArray → Int → Int → Int → Int → Int → Int → Int → ByteArray → ByteArray → List (S46) → Int → ByteArray → List (S48) → Option (Bool)
 | 0, _, _, _, _, _, _, _, _, _, _, _, _, _, _, _, _, _, _, _, _, _, _, _, _, _, _ => none
 | k + 1, x3, bw, bM, bN, bO, bP, bQ, bR, bx, bS, bT, bU, bI, bA, bF, bC, bv, bB, bG, bJ, bD, bE, bq, bK, bL, bu => if x3 < (bq.length : Int) then (if 0 ≤ x3 then (if (((rd_T46 bq x3).f0).size : Int) = 4 then ((roadbookref02_Fits.f k ((rd_T46 bq x3).f1) 4).bind fun bm => (if bm = true then (roadbookref16_Right.l0 k (wrap64 (x3 + 1)) bw bM bN bO bP bQ bR bx bS bT bU bI bA bF bC bv bB bG bJ bD bE bq bK bL bu) else (some false))) else (some false)) else (none)) else (some true)
end
def roadbookref16_Right.f (k : Nat) (av : Int) (au : Int) (aw : Int) (ay : ByteArray) (aD : Int) (az : Int) (aA : ByteArray) (ax : Int) (aE : Int) (aC : ByteArray) (ap : Int) (an : ByteArray) (aj : Int) (am : Int) (ak : Int) (ah : Int) (ai : Int) (al : Int) (ao : Int) (ac : ByteArray) (af : ByteArray) (ae : List (S46)) (aq : Int) (ar : ByteArray) (ag : List (S48)) : Option (Bool) := if av = 5 then ((roadbookref07_Bare.f k av au aw ay aD az aA ax aE aC ap an aj am ak ah ai al ao ac af ae aq ar ag).bind fun ba => (if ba = true then (if ah < 0 then (roadbookref16_Right.j0 k true av au aw ay aD az aA ax aE aC ap an aj am ak ah ai al ao ac af ae aq ar ag) else (if ah > 1 then (roadbookref16_Right.j0 k true av au aw ay aD az aA ax aE aC ap an aj am ak ah ai al ao ac af ae aq ar ag) else (if (ae.length : Int) < 1 then (roadbookref16_Right.j0 k true av au aw ay aD az aA ax aE aC ap an aj am ak ah ai al ao ac af ae aq ar ag) else (if (ae.length : Int) > 255 then (roadbookref16_Right.j0 k true av au aw ay aD az aA ax aE aC ap an aj am ak ah ai al ao ac af ae aq ar ag) else ((roadbookref13_Right.f k ag).bind fun bf => (roadbookref16_Right.j0 k (!bf) av au aw ay aD az aA ax aE aC ap an aj am ak ah ai al ao ac af ae aq ar ag)))))) else (roadbookref16_Right.j0 k true av au aw ay aD az aA ax aE aC ap an aj am ak ah ai al ao ac af ae aq ar ag))) else (roadbookref16_Right.j0 k true av au aw ay aD az aA ax aE aC ap an aj am ak ah ai al ao ac af ae aq ar ag)
theorem roadbookref16_Right.mono_l : ∀ k, (∀ y0 y1 y2 y3 y4 y5 y6 y7 y8 y9 fi fj fk fl fm fn fo fp fq fr fs ft fu fv fw fx, LeO (roadbookref16_Right.j0 k y0 y1 y2 y3 y4 y5 y6 y7 y8 y9 fi fj fk fl fm fn fo fp fq fr fs ft fu fv fw fx) (roadbookref16_Right.j0 (k + 1) y0 y1 y2 y3 y4 y5 y6 y7 y8 y9 fi fj fk fl fm fn fo fp fq fr fs ft fu fv fw fx)) ∧ (∀ y0 y1 y2 y3 y4 y5 y6 y7 y8 y9 fi fj fk fl fm fn fo fp fq fr fs ft fu fv fw fx, LeO (roadbookref16_Right.l0 k y0 y1 y2 y3 y4 y5 y6 y7 y8 y9 fi fj fk fl fm fn fo fp fq fr fs ft fu fv fw fx) (roadbookref16_Right.l0 (k + 1) y0 y1 y2 y3 y4 y5 y6 y7 y8 y9 fi fj fk fl fm fn fo fp fq fr fs ft fu fv fw fx))
 | 0 => ⟨fun _ _ _ _ _ _ _ _ _ _ _ _ _ _ _ _ _ _ _ _ _ _ _ _ _ _ r h => by simp [roadbookref16_Right.j0] at h, fun _ _ _ _ _ _ _ _ _ _ _ _ _ _ _ _ _ _ _ _ _ _ _ _ _ _ r h => by simp [roadbookref16_Right.l0] at h⟩
 | k + 1 => by
  obtain ⟨ih0, ih1⟩ := roadbookref16_Right.mono_l k
  refine ⟨?_, ?_⟩
  ·intro y0 y1 y2 y3 y4 y5 y6 y7 y8 y9 fi fj fk fl fm fn fo fp fq fr fs ft fu fv fw fx
   unfold roadbookref16_Right.j0
   repeat' first
   | (with_reducible exact ih0 ..)
   | (with_reducible exact ih1 ..)
   | (with_reducible exact roadbookref02_Fits.mono _ _ _)
   | (with_reducible exact roadbookref07_Bare.mono _ _ _ _ _ _ _ _ _ _ _ _ _ _ _ _ _ _ _ _ _ _ _ _ _ _)
   | (with_reducible exact roadbookref13_Right.mono _ _)
   | (with_reducible exact LeO.refl _)
   | (with_reducible exact LeO.none _)
   | (with_reducible refine LeO.ite ?_ ?_)
   | (with_reducible refine LeO.bind ?_ (fun _ => ?_))
   | exact ih0 ..
   | exact ih1 ..
   | exact roadbookref02_Fits.mono _ _ _
   | exact roadbookref07_Bare.mono _ _ _ _ _ _ _ _ _ _ _ _ _ _ _ _ _ _ _ _ _ _ _ _ _ _
   | exact roadbookref13_Right.mono _ _
   | exact LeO.none _
   | refine LeO.ite ?_ ?_
   | refine LeO.bind ?_ (fun _ => ?_)
  ·intro y0 y1 y2 y3 y4 y5 y6 y7 y8 y9 fi fj fk fl fm fn fo fp fq fr fs ft fu fv fw fx
   unfold roadbookref16_Right.l0
   repeat' first
   | (with_reducible exact ih0 ..)
   | (with_reducible exact ih1 ..)
   | (with_reducible exact roadbookref02_Fits.mono _ _ _)
   | (with_reducible exact roadbookref07_Bare.mono _ _ _ _ _ _ _ _ _ _ _ _ _ _ _ _ _ _ _ _ _ _ _ _ _ _)
   | (with_reducible exact roadbookref13_Right.mono _ _)
   | (with_reducible exact LeO.refl _)
   | (with_reducible exact LeO.none _)
   | (with_reducible refine LeO.ite ?_ ?_)
   | (with_reducible refine LeO.bind ?_ (fun _ => ?_))
   | exact ih0 ..
   | exact ih1 ..
   | exact roadbookref02_Fits.mono _ _ _
   | exact roadbookref07_Bare.mono _ _ _ _ _ _ _ _ _ _ _ _ _ _ _ _ _ _ _ _ _ _ _ _ _ _
   | exact roadbookref13_Right.mono _ _
   | exact LeO.none _
   | refine LeO.ite ?_ ?_
   | refine LeO.bind ?_ (fun _ => ?_)
theorem roadbookref16_Right.mono : ∀ a0 a1 a2 a3 a4 a5 a6 a7 a8 a9 fJ fK fL fM fN fO fP fQ fR fS fT fU fV fW fX k, LeO (roadbookref16_Right.f k a0 a1 a2 a3 a4 a5 a6 a7 a8 a9 fJ fK fL fM fN fO fP fQ fR fS fT fU fV fW fX) (roadbookref16_Right.f (k + 1) a0 a1 a2 a3 a4 a5 a6 a7 a8 a9 fJ fK fL fM fN fO fP fQ fR fS fT fU fV fW fX) := by
 intro a0 a1 a2 a3 a4 a5 a6 a7 a8 a9 fJ fK fL fM fN fO fP fQ fR fS fT fU fV fW fX k
 obtain ⟨ih0, ih1⟩ := roadbookref16_Right.mono_l k
 unfold roadbookref16_Right.f
 repeat' first
   | (with_reducible exact ih0 ..)
   | (with_reducible exact ih1 ..)
   | (with_reducible exact roadbookref02_Fits.mono _ _ _)
   | (with_reducible exact roadbookref07_Bare.mono _ _ _ _ _ _ _ _ _ _ _ _ _ _ _ _ _ _ _ _ _ _ _ _ _ _)
   | (with_reducible exact roadbookref13_Right.mono _ _)
   | (with_reducible exact LeO.refl _)
   | (with_reducible exact LeO.none _)
   | (with_reducible refine LeO.ite ?_ ?_)
   | (with_reducible refine LeO.bind ?_ (fun _ => ?_))
   | exact ih0 ..
   | exact ih1 ..
   | exact roadbookref02_Fits.mono _ _ _
   | exact roadbookref07_Bare.mono _ _ _ _ _ _ _ _ _ _ _ _ _ _ _ _ _ _ _ _ _ _ _ _ _ _
   | exact roadbookref13_Right.mono _ _
   | exact LeO.none _
   | refine LeO.ite ?_ ?_
   | refine LeO.bind ?_ (fun _ => ?_)

set_option maxHeartbeats 8000000 in
set_option maxRecDepth 100000 in
theorem roadbookref16_Right.calls (k : Nat) (av : Int) (au : Int) (aw : Int) (ay : ByteArray) (aD : Int) (az : Int) (aA : ByteArray) (ax : Int) (aE : Int) (aC : ByteArray) (ap : Int) (an : ByteArray) (aj : Int) (am : Int) (ak : Int) (ah : Int) (ai : Int) (al : Int) (ao : Int) (ac : ByteArray) (af : ByteArray) (aT : Option Addr) (aN : Nat) (ae : List (S46)) (aq : Int) (ar : ByteArray) (aJ : Option Addr) (aK : Nat) (ag : List (S48)) (r : Bool) (w : World) (bY : Kd.C k46 w aT ae.length ae) (bZ : ae.length ≤ aN) (ca : Kd.C k48 w aJ ag.length ag) (cb : ag.length ≤ aK) (h : roadbookref16_Right.f k av au aw ay aD az aA ax aE aC ap an aj am ak ah ai al ao ac af ae aq ar ag = some r) :
  Calls Try.prog 29 #[.agg #[.int .i64 av, .int .i64 au, .int .i64 aw, .string ay, .int .i64 aD, .int .i64 az, .string aA, .int .i64 ax, .int .i64 aE, .string aC, .int .i64 ap, .string an, .int .i64 aj, .int .i64 am, .int .i64 ak, .int .i64 ah, .int .i64 ai, .int .i64 al, .int .i64 ao, .string ac, .string af, .slice aT ae.length aN, .int .i64 aq, .string ar, .slice aJ ag.length aK]] w fun e w' => e = .returned (.bool r) ∧ Below w.heap.size w w' := by
 have gB := Try.underlying25
 have cT := Aside0.mk bY
 have bl := Aside0.mk bZ
 clear bY bZ
 have cP := Aside0.mk ca
 have bg := Aside0.mk cb
 clear ca cb
 have HB := Aside0.mk (Below.refl w.heap.size w)
 have H : (if av = 5 then ((roadbookref07_Bare.f k av au aw ay aD az aA ax aE aC ap an aj am ak ah ai al ao ac af ae aq ar ag).bind fun ba => (if ba = true then (if ah < 0 then (roadbookref16_Right.j0 k true av au aw ay aD az aA ax aE aC ap an aj am ak ah ai al ao ac af ae aq ar ag) else (if ah > 1 then (roadbookref16_Right.j0 k true av au aw ay aD az aA ax aE aC ap an aj am ak ah ai al ao ac af ae aq ar ag) else (if (ae.length : Int) < 1 then (roadbookref16_Right.j0 k true av au aw ay aD az aA ax aE aC ap an aj am ak ah ai al ao ac af ae aq ar ag) else (if (ae.length : Int) > 255 then (roadbookref16_Right.j0 k true av au aw ay aD az aA ax aE aC ap an aj am ak ah ai al ao ac af ae aq ar ag) else ((roadbookref13_Right.f k ag).bind fun bf => (roadbookref16_Right.j0 k (!bf) av au aw ay aD az aA ax aE aC ap an aj am ak ah ai al ao ac af ae aq ar ag)))))) else (roadbookref16_Right.j0 k true av au aw ay aD az aA ax aE aC ap an aj am ak ah ai al ao ac af ae aq ar ag))) else (roadbookref16_Right.j0 k true av au aw ay aD az aA ax aE aC ap an aj am ak ah ai al ao ac af ae aq ar ag)) = some r := h
 clear h
 have iB := Aside0.mk H
 clear H
 go_enter Try.func29, Try.ntmps29
 go_upto_region 1 with (first | ((with_reducible refine Pre.gate_load 25 rfl ?_); (try (refine gate_guard Z13 ?_; dsimp only)); refine Pre.load_event rfl rfl rfl Z13 Z2 Try.underlying25 rfl Z6 ?_) | ((with_reducible refine gate_dst (N := 1) rfl ?_); (try (refine gate_guard Z13 ?_; dsimp only)); refine box_event ?hg (N := 1) ?hd (cs := #[.int .i64 av, .int .i64 au, .int .i64 aw, .string ay, .int .i64 aD, .int .i64 az, .string aA, .int .i64 ax, .int .i64 aE, .string aC, .int .i64 ap, .string an, .int .i64 aj, .int .i64 am, .int .i64 ak, .int .i64 ah, .int .i64 ai, .int .i64 al, .int .i64 ao, .string ac, .string af, .slice aT ae.length aN, .int .i64 aq, .string ar, .slice aJ ag.length aK]) (t := 25) ?hr ?_; (case hd => rfl); (case hg => rfl); (case hr => first | (go_simp; done) | (go_simp; rfl)); intro aa hg w3 hbox hb; have aG := Aside0.mk (below_step Z3 hb); have aH := Aside0.mk (hbox); have aI := Aside0.mk ((by rw [hg]; exact (below_size Z3) : w.heap.size ≤ aa)); have aZ := Aside0.mk ((by rw [hg]; exact (below_size Z3) : w.heap.size ≤ aa)); replace HB := aG; have ab := aH; have cl := aI; have bs := aZ; clear aG aH aI aZ; clear hb hbox hg))
 (try simp only [Act.put, List.setIfInBounds_toArray, List.set_cons_zero, List.set_cons_succ])
 go_cut [39] (fun xd wc => ∃ (kq : Nat) (np : Bool), xd = .bool np ∧ Aside0 (roadbookref16_Right.j0 kq np av au aw ay aD az aA ax aE aC ap an aj am ak ah ai al ao ac af ae aq ar ag = some r) ∧ Aside0 (kq ≤ k) ∧ Aside0 (wc.heap[aa]? = some (.cells #[.int .i64 av, .int .i64 au, .int .i64 aw, .string ay, .int .i64 aD, .int .i64 az, .string aA, .int .i64 ax, .int .i64 aE, .string aC, .int .i64 ap, .string an, .int .i64 aj, .int .i64 am, .int .i64 ak, .int .i64 ah, .int .i64 ai, .int .i64 al, .int .i64 ao, .string ac, .string af, (.slice aT ae.length aN), .int .i64 aq, .string ar, (.slice aJ ag.length aK)] 25 (0, 0))) ∧ Aside0 (Below w.heap.size w wc))
 case first =>
  have H := iB.out
  clear iB
  by_cases c4 : av = 5
  ·rw [if_pos c4] at H
   have cS : (av == 5) = true := beq_iff_eq.mpr c4
   have gY : (av != 5) = false := bne_eq_false_iff_eq.mpr c4
   clear c4
   (first | rw [cS] | (simp only [i64_w, i32_w]; rw [cS]) | skip)
   replace H := Option.bind_eq_some_iff.mp H
   obtain ⟨ba, jp, H⟩ := H
   replace H : (if ba = true then (if ah < 0 then (roadbookref16_Right.j0 k true av au aw ay aD az aA ax aE aC ap an aj am ak ah ai al ao ac af ae aq ar ag) else (if ah > 1 then (roadbookref16_Right.j0 k true av au aw ay aD az aA ax aE aC ap an aj am ak ah ai al ao ac af ae aq ar ag) else (if (ae.length : Int) < 1 then (roadbookref16_Right.j0 k true av au aw ay aD az aA ax aE aC ap an aj am ak ah ai al ao ac af ae aq ar ag) else (if (ae.length : Int) > 255 then (roadbookref16_Right.j0 k true av au aw ay aD az aA ax aE aC ap an aj am ak ah ai al ao ac af ae aq ar ag) else ((roadbookref13_Right.f k ag).bind fun bf => (roadbookref16_Right.j0 k (!bf) av au aw ay aD az aA ax aE aC ap an aj am ak ah ai al ao ac af ae aq ar ag)))))) else (roadbookref16_Right.j0 k true av au aw ay aD az aA ax aE aC ap an aj am ak ah ai al ao ac af ae aq ar ag)) = some r := H
   have A5 := Aside0.mk jp
   clear jp
   by_cases c6 : ba = true
   ·subst c6
    replace H := Sq.itT H
    by_cases c7 : ah < 0
    ·rw [if_pos c7] at H
     have ib : decide (ah < 0) = true := decide_eq_true c7
     clear c7
     have H' := Aside0.mk H
     clear H
     have nC := cells_25 ab.out
     go_wp2_with (first | ((with_reducible refine Pre.gate_load 25 rfl ?_); (try (refine gate_guard Z13 ?_; dsimp only)); refine Pre.load_event rfl rfl rfl Z13 Z2 Try.underlying25 rfl Z6 ?_) | (go_at_call 56; (with_reducible refine (roadbookref07_Bare.calls k av au aw ay aD az aA ax aE aC ap an aj am ak ah ai al ao ac af _ _ ae aq ar _ _ ag true _ ?side1 ?side2 ?side3 ?side4 A5.out).mono ?_); (case side1 => exact Z8); (case side2 => exact bl.out); (case side3 => exact Z7); (case side4 => exact bg.out); rintro e w9 ⟨rfl, hb⟩; have aG := Aside0.mk (blk_below (g := aa) Z1 hb); have aH := Aside0.mk (below_step Z0 hb); replace ab := aG; replace HB := aH; clear aG aH; (try clear hb); (try clear hb2); (try clear hk); (try clear hi); have jH := cells_25 ab.out))
     go_meet
     case rel => exact ⟨_, (true), Z14, H', ⟨Z41⟩, ⟨Z1⟩, ⟨Z0⟩⟩
    ·rw [if_neg c7] at H
     have ib : decide (ah < 0) = false := decide_eq_false c7
     clear c7
     by_cases cU : ah > 1
     ·rw [if_pos cU] at H
      have fE : decide (1 < ah) = true := decide_eq_true cU
      clear cU
      have H' := Aside0.mk H
      clear H
      have md := cells_25 ab.out
      go_wp2_with (first | ((with_reducible refine Pre.gate_load 25 rfl ?_); (try (refine gate_guard Z13 ?_; dsimp only)); refine Pre.load_event rfl rfl rfl Z13 Z2 Try.underlying25 rfl Z6 ?_) | (go_at_call 56; (with_reducible refine (roadbookref07_Bare.calls k av au aw ay aD az aA ax aE aC ap an aj am ak ah ai al ao ac af _ _ ae aq ar _ _ ag true _ ?side1 ?side2 ?side3 ?side4 A5.out).mono ?_); (case side1 => exact Z8); (case side2 => exact bl.out); (case side3 => exact Z7); (case side4 => exact bg.out); rintro e lb ⟨rfl, hb⟩; have aG := Aside0.mk (blk_below (g := aa) Z1 hb); have aH := Aside0.mk (below_step Z0 hb); replace ab := aG; replace HB := aH; clear aG aH; (try clear hb); (try clear hb2); (try clear hk); (try clear hi); have ji := cells_25 ab.out))
      go_meet
      case rel => exact ⟨_, (true), Z14, H', ⟨Z41⟩, ⟨Z1⟩, ⟨Z0⟩⟩
     ·rw [if_neg cU] at H
      have fE : decide (1 < ah) = false := decide_eq_false cU
      clear cU
      by_cases fd : (ae.length : Int) < 1
      ·rw [if_pos fd] at H
       have ix : decide ((ae.length : Int) < 1) = true := decide_eq_true fd
       have iZ : decide (ae.length < 1) = true := decide_eq_true Z55
       clear fd
       have H' := Aside0.mk H
       clear H
       have ir := cells_25 ab.out
       go_wp2_with (first | ((with_reducible refine Pre.gate_load 25 rfl ?_); (try (refine gate_guard Z13 ?_; dsimp only)); refine Pre.load_event rfl rfl rfl Z13 Z2 Try.underlying25 rfl Z6 ?_) | (go_at_call 56; (with_reducible refine (roadbookref07_Bare.calls k av au aw ay aD az aA ax aE aC ap an aj am ak ah ai al ao ac af _ _ ae aq ar _ _ ag true _ ?side1 ?side2 ?side3 ?side4 A5.out).mono ?_); (case side1 => exact Z8); (case side2 => exact bl.out); (case side3 => exact Z7); (case side4 => exact bg.out); rintro e kz ⟨rfl, hb⟩; have aG := Aside0.mk (blk_below (g := aa) Z1 hb); have aH := Aside0.mk (below_step Z0 hb); replace ab := aG; replace HB := aH; clear aG aH; (try clear hb); (try clear hb2); (try clear hk); (try clear hi); have nj := cells_25 ab.out))
       go_meet
       case rel => exact ⟨_, (true), Z14, H', ⟨Z41⟩, ⟨Z1⟩, ⟨Z0⟩⟩
      ·rw [if_neg fd] at H
       have ix : decide ((ae.length : Int) < 1) = false := decide_eq_false fd
       have iZ : decide (ae.length < 1) = false := decide_eq_false Z55
       clear fd
       by_cases fe : (ae.length : Int) > 255
       ·rw [if_pos fe] at H
        have eV : decide (255 < (ae.length : Int)) = true := decide_eq_true fe
        have ic : decide (255 < ae.length) = true := decide_eq_true Z55
        clear fe
        have H' := Aside0.mk H
        clear H
        have iR := cells_25 ab.out
        go_wp2_with (first | ((with_reducible refine Pre.gate_load 25 rfl ?_); (try (refine gate_guard Z13 ?_; dsimp only)); refine Pre.load_event rfl rfl rfl Z13 Z2 Try.underlying25 rfl Z6 ?_) | (go_at_call 56; (with_reducible refine (roadbookref07_Bare.calls k av au aw ay aD az aA ax aE aC ap an aj am ak ah ai al ao ac af _ _ ae aq ar _ _ ag true _ ?side1 ?side2 ?side3 ?side4 A5.out).mono ?_); (case side1 => exact Z8); (case side2 => exact bl.out); (case side3 => exact Z7); (case side4 => exact bg.out); rintro e mi ⟨rfl, hb⟩; have aG := Aside0.mk (blk_below (g := aa) Z1 hb); have aH := Aside0.mk (below_step Z0 hb); replace ab := aG; replace HB := aH; clear aG aH; (try clear hb); (try clear hb2); (try clear hk); (try clear hi); have jl := cells_25 ab.out))
        go_meet
        case rel => exact ⟨_, (true), Z14, H', ⟨Z41⟩, ⟨Z1⟩, ⟨Z0⟩⟩
       ·rw [if_neg fe] at H
        have eV : decide (255 < (ae.length : Int)) = false := decide_eq_false fe
        have ic : decide (255 < ae.length) = false := decide_eq_false Z55
        clear fe
        replace H := Option.bind_eq_some_iff.mp H
        obtain ⟨bf, iI, H⟩ := H
        replace H : (roadbookref16_Right.j0 k (!bf) av au aw ay aD az aA ax aE aC ap an aj am ak ah ai al ao ac af ae aq ar ag) = some r := H
        have lT := Aside0.mk iI
        clear iI
        have H' := Aside0.mk H
        clear H
        have me := cells_25 ab.out
        go_wp2_with (first | ((with_reducible refine Pre.gate_load 25 rfl ?_); (try (refine gate_guard Z13 ?_; dsimp only)); refine Pre.load_event rfl rfl rfl Z13 Z2 Try.underlying25 rfl Z6 ?_) | (go_at_call 56; (with_reducible refine (roadbookref07_Bare.calls k av au aw ay aD az aA ax aE aC ap an aj am ak ah ai al ao ac af _ _ ae aq ar _ _ ag true _ ?side1 ?side2 ?side3 ?side4 A5.out).mono ?_); (case side1 => exact Z8); (case side2 => exact bl.out); (case side3 => exact Z7); (case side4 => exact bg.out); rintro e gO ⟨rfl, hb⟩; have aG := Aside0.mk (blk_below (g := aa) Z1 hb); have aH := Aside0.mk (below_step Z0 hb); replace ab := aG; replace HB := aH; clear aG aH; (try clear hb); (try clear hb2); (try clear hk); (try clear hi); have iO := cells_25 ab.out) | (go_at_call 58; (with_reducible refine (roadbookref13_Right.calls k _ _ ag bf _ ?side1 ?side2 lT.out).mono ?_); (case side1 => exact Z7); (case side2 => exact bg.out); rintro e w' ⟨rfl, ⟨nd, rfl⟩⟩))
        go_meet
        case rel => exact ⟨_, (!bf), Z14, H', ⟨Z41⟩, ⟨Z1⟩, ⟨Z0⟩⟩
   ·replace c6 := Bool.eq_false_iff.mpr c6
    subst c6
    replace H := Sq.itF H
    have H' := Aside0.mk H
    clear H
    have lu := cells_25 ab.out
    go_wp2_with (first | ((with_reducible refine Pre.gate_load 25 rfl ?_); (try (refine gate_guard Z13 ?_; dsimp only)); refine Pre.load_event rfl rfl rfl Z13 Z2 Try.underlying25 rfl Z6 ?_) | (go_at_call 56; (with_reducible refine (roadbookref07_Bare.calls k av au aw ay aD az aA ax aE aC ap an aj am ak ah ai al ao ac af _ _ ae aq ar _ _ ag false _ ?side1 ?side2 ?side3 ?side4 A5.out).mono ?_); (case side1 => exact Z8); (case side2 => exact bl.out); (case side3 => exact Z7); (case side4 => exact bg.out); rintro e nl ⟨rfl, hb⟩; have aG := Aside0.mk (blk_below (g := aa) Z1 hb); have aH := Aside0.mk (below_step Z0 hb); replace ab := aG; replace HB := aH; clear aG aH; (try clear hb); (try clear hb2); (try clear hk); (try clear hi)))
    go_meet
    case rel => exact ⟨_, (true), Z14, H', ⟨Z41⟩, ⟨Z1⟩, ⟨Z0⟩⟩
  ·rw [if_neg c4] at H
   have cS : (av == 5) = false := beq_eq_false_iff_ne.mpr c4
   have gY : (av != 5) = true := bne_iff_ne.mpr c4
   (first | rw [cS] | (simp only [i64_w, i32_w]; rw [cS]) | skip)
   have H' := Aside0.mk H
   clear H
   have kr := cells_25 ab.out
   go_wp2_with (first | ((with_reducible refine Pre.gate_load 25 rfl ?_); (try (refine gate_guard Z13 ?_; dsimp only)); refine Pre.load_event rfl rfl rfl Z13 Z2 Try.underlying25 rfl Z6 ?_))
   go_meet
   case rel => exact ⟨_, (true), Z14, H', ⟨Z41⟩, ⟨Z1⟩, ⟨Z0⟩⟩
 case rest =>
  clear iB
  try clear c2
  try clear jr
  obtain ⟨kq, np, rfl, HA, kB, ab, HB⟩ := hcut
  cases kq with
  | zero => exact absurd HA.out (by simp [roadbookref16_Right.j0])
  | succ kj1 =>
   have H := HA.out
   clear HA
   simp only [roadbookref16_Right.j0] at H
   by_cases la : np = true
   ·subst la
    replace H := Sq.itT H
    obtain rfl := Option.some.inj H
    go_wp2_with (first | ((with_reducible refine Pre.gate_load 25 rfl ?_); (try (refine gate_guard Z13 ?_; dsimp only)); refine Pre.load_event rfl rfl rfl Z13 Z2 Try.underlying25 rfl Z6 ?_))
    go_ret
    exact ⟨Z9, Z0⟩
   ·replace la := Bool.eq_false_iff.mpr la
    subst la
    replace H := Sq.itF H
    have H' := Aside0.mk H
    clear H
    go_wp2_with (first | ((with_reducible refine Pre.gate_load 25 rfl ?_); (try (refine gate_guard Z13 ?_; dsimp only)); refine Pre.load_event rfl rfl rfl Z13 Z2 Try.underlying25 rfl Z6 ?_))
    go_loopg [3] kj1 (fun kq v3 w' => ∃ (ep : Int), v3 = .int .i64 ep ∧ Aside0 (roadbookref16_Right.l0 kq ep av au aw ay aD az aA ax aE aC ap an aj am ak ah ai al ao ac af ae aq ar ag = some r) ∧ Aside0 (kq ≤ kj1) ∧ Aside0 (w'.heap[aa]? = some (.cells #[.int .i64 av, .int .i64 au, .int .i64 aw, .string ay, .int .i64 aD, .int .i64 az, .string aA, .int .i64 ax, .int .i64 aE, .string aC, .int .i64 ap, .string an, .int .i64 aj, .int .i64 am, .int .i64 ak, .int .i64 ah, .int .i64 ai, .int .i64 al, .int .i64 ao, .string ac, .string af, (.slice aT ae.length aN), .int .i64 aq, .string ar, (.slice aJ ag.length aK)] 25 (0, 0))) ∧ Aside0 (Below w.heap.size w w'))
    case atStart => exact ⟨(0), Z14, H', ⟨Nat.le_refl _⟩, ⟨Z1⟩, ⟨Z0⟩⟩
    case round =>
     clear H'
     try clear c2
     try clear p2
     try clear c3
     try clear c4
     try clear cS
     try clear gY
     try clear c6
     try clear c7
     try clear jr
     try clear la
     try clear lu
     try clear kr
     obtain ⟨ep, rfl, HA, HK2, ab, HB⟩ := hrel
     cases gk with
     | zero => exact absurd HA.out (by simp [roadbookref16_Right.l0])
     | succ k2 =>
      have H := HA.out
      clear HA
      simp only [roadbookref16_Right.l0] at H
      by_cases jD : ep < (ae.length : Int)
      ·rw [if_pos jD] at H
       have li : decide (ep < (ae.length : Int)) = true := decide_eq_true jD
       clear jD
       by_cases jv : 0 ≤ ep
       ·rw [if_pos jv] at H
        have lV : decide (0 ≤ ep) = true := decide_eq_true jv
        clear jv
        by_cases kv : (((rd_T46 ae ep).f0).size : Int) = 4
        ·rw [if_pos kv] at H
         have ms : ((((rd_T46 ae ep).f0).size : Int) == 4) = true := beq_iff_eq.mpr kv
         have nq : ((((rd_T46 ae ep).f0).size : Int) != 4) = false := bne_eq_false_iff_eq.mpr kv
         clear kv
         replace H := Option.bind_eq_some_iff.mp H
         obtain ⟨bm, nY, H⟩ := H
         replace H : (if bm = true then (roadbookref16_Right.l0 k2 (wrap64 (ep + 1)) av au aw ay aD az aA ax aE aC ap an aj am ak ah ai al ao ac af ae aq ar ag) else (some false)) = some r := H
         have vc := Aside0.mk nY
         clear nY
         by_cases nR : bm = true
         ·subst nR
          replace H := Sq.itT H
          have H' := Aside0.mk H
          clear H
          have qu := cells_25 ab.out
          have p104 : 0 ≤ (ep : Int) := of_decide_eq_true Z10
          have q104 : ep < (ae.length : Int) := of_decide_eq_true Z10
          obtain ⟨ad104, e104, hx104_0, hx104_1⟩ := at_T46 cT.out ep p104 q104
          cases e104
          replace hx104_0 := (HB.out.cell (World.block_lt_of_cell? w _ hx104_0)).trans hx104_0
          replace hx104_1 := (HB.out.cell (World.block_lt_of_cell? w _ hx104_1)).trans hx104_1
          replace p104 := eq_true p104
          replace q104 := eq_true q104
          have p105 : 0 ≤ (ep : Int) := of_decide_eq_true Z10
          have q105 : ep < (ae.length : Int) := of_decide_eq_true Z10
          obtain ⟨ad105, e105, hx105_0, hx105_1⟩ := at_T46 cT.out ep p105 q105
          obtain rfl : ad104 = ad105 := (by injection e105)
          replace hx105_0 := (HB.out.cell (World.block_lt_of_cell? w _ hx105_0)).trans hx105_0
          replace hx105_1 := (HB.out.cell (World.block_lt_of_cell? w _ hx105_1)).trans hx105_1
          replace p105 := eq_true p105
          replace q105 := eq_true q105
          go_wp2_with (first | ((with_reducible refine Pre.gate_load 25 rfl ?_); (try (refine gate_guard Z13 ?_; dsimp only)); refine Pre.load_event rfl rfl rfl Z13 Z2 Try.underlying25 rfl Z6 ?_) | (go_at_call 57; (with_reducible refine (roadbookref02_Fits.calls k2 ((rd_T46 ae ep).f1) 4 true _ vc.out).mono ?_); rintro e w' ⟨rfl, ⟨nd, rfl⟩⟩))
          go_roundg k2
          case measure => have := kB.out; have := HK2.out; omega
          case rel => exact ⟨(wrap64 (ep + 1)), Z14, H', ⟨by have := kB.out; have := HK2.out; omega⟩, ⟨Z1⟩, ⟨Z0⟩⟩
         ·replace nR := Bool.eq_false_iff.mpr nR
          subst nR
          replace H := Sq.itF H
          obtain rfl := Option.some.inj H
          have oB := cells_25 ab.out
          have p104 : 0 ≤ (ep : Int) := of_decide_eq_true Z10
          have q104 : ep < (ae.length : Int) := of_decide_eq_true Z10
          obtain ⟨ad104, e104, hx104_0, hx104_1⟩ := at_T46 cT.out ep p104 q104
          cases e104
          replace hx104_0 := (HB.out.cell (World.block_lt_of_cell? w _ hx104_0)).trans hx104_0
          replace hx104_1 := (HB.out.cell (World.block_lt_of_cell? w _ hx104_1)).trans hx104_1
          replace p104 := eq_true p104
          replace q104 := eq_true q104
          have p105 : 0 ≤ (ep : Int) := of_decide_eq_true Z10
          have q105 : ep < (ae.length : Int) := of_decide_eq_true Z10
          obtain ⟨ad105, e105, hx105_0, hx105_1⟩ := at_T46 cT.out ep p105 q105
          obtain rfl : ad104 = ad105 := (by injection e105)
          replace hx105_0 := (HB.out.cell (World.block_lt_of_cell? w _ hx105_0)).trans hx105_0
          replace hx105_1 := (HB.out.cell (World.block_lt_of_cell? w _ hx105_1)).trans hx105_1
          replace p105 := eq_true p105
          replace q105 := eq_true q105
          go_wp2_with (first | ((with_reducible refine Pre.gate_load 25 rfl ?_); (try (refine gate_guard Z13 ?_; dsimp only)); refine Pre.load_event rfl rfl rfl Z13 Z2 Try.underlying25 rfl Z6 ?_) | (go_at_call 57; (with_reducible refine (roadbookref02_Fits.calls k2 ((rd_T46 ae ep).f1) 4 false _ vc.out).mono ?_); rintro e w' ⟨rfl, ⟨nd, rfl⟩⟩))
          go_ret
          exact ⟨Z9, Z0⟩
        ·rw [if_neg kv] at H
         have ms : ((((rd_T46 ae ep).f0).size : Int) == 4) = false := beq_eq_false_iff_ne.mpr kv
         have nq : ((((rd_T46 ae ep).f0).size : Int) != 4) = true := bne_iff_ne.mpr kv
         obtain rfl := Option.some.inj H
         have qn := cells_25 ab.out
         have p104 : 0 ≤ (ep : Int) := of_decide_eq_true Z10
         have q104 : ep < (ae.length : Int) := of_decide_eq_true Z10
         obtain ⟨ad104, e104, hx104_0, hx104_1⟩ := at_T46 cT.out ep p104 q104
         cases e104
         replace hx104_0 := (HB.out.cell (World.block_lt_of_cell? w _ hx104_0)).trans hx104_0
         replace hx104_1 := (HB.out.cell (World.block_lt_of_cell? w _ hx104_1)).trans hx104_1
         replace p104 := eq_true p104
         replace q104 := eq_true q104
         go_wp2_with (first | ((with_reducible refine Pre.gate_load 25 rfl ?_); (try (refine gate_guard Z13 ?_; dsimp only)); refine Pre.load_event rfl rfl rfl Z13 Z2 Try.underlying25 rfl Z6 ?_))
         go_ret
         exact ⟨Z9, Z0⟩
       ·rw [if_neg jv] at H
        exact absurd H Z73
      ·rw [if_neg jD] at H
       have li : decide (ep < (ae.length : Int)) = false := decide_eq_false jD
       clear jD
       obtain rfl := Option.some.inj H
       have tY := cells_25 ab.out
       go_wp2_with (first | ((with_reducible refine Pre.gate_load 25 rfl ?_); (try (refine gate_guard Z13 ?_; dsimp only)); refine Pre.load_event rfl rfl rfl Z13 Z2 Try.underlying25 rfl Z6 ?_))
       go_ret
       exact ⟨Z9, Z0⟩

end Go.Proofs.Ytccjakjjaemmkaa.PR
