-- Written by mp.py, a program of this work (wip/tools), out of the translation; Lean checks it.
import Derived.Test.YtccjakjjaemmkaaPRxZ
import Derived.Test.YtccjakjjaemmkaaPRxext
import Derived.Test.YtccjakjjaemmkaaPRxmsgBare
import Derived.Test.YtccjakjjaemmkaaPRxoctet
namespace Go.Proofs.Ytccjakjjaemmkaa.PR
open Go.RowKit Go.Proofs.YtccjakjjaemmkaaW.PrintWords Go.Proofs.YtccjakjjaemmkaaW.PrintLast Go.Proofs.YtccjakjjaemmkaaW.PrintMore
attribute [local go_sem] max2_int min2_int max_two min_two max_three min_three max_four min_four   -- for this text's walks alone
set_option linter.unusedVariables false
set_option linter.unusedSimpArgs false

/-! ### rerr_Right: function 28 -/
mutual
def rerr_Right.j0 : Nat → Bool → Int → Int → Int → ByteArray → Int → Int → ByteArray → Int → Int → ByteArray → Int → ByteArray → Int → Int → Int → Int → Int → Int → Int → ByteArray → ByteArray → List (S46) → Int → ByteArray → List (S48) → Option (Bool)
 | 0, _, _, _, _, _, _, _, _, _, _, _, _, _, _, _, _, _, _, _, _, _, _, _, _, _, _ => none
 | k + 1, vv, bw, bM, bN, bO, bP, bQ, bR, bx, bS, bT, bU, bI, bA, bF, bC, bv, bB, bG, bJ, bD, bE, bq, bK, bL, bu => if vv = true then (some false) else (rerr_Right.l0 k bq (bq.length : Int) 0 bw bM bN bO bP bQ bR bx bS bT bU bI bA bF bC bv bB bG bJ bD bE bq bK bL bu)
def rerr_Right.l0 : Nat → List (S46) → Int → Int → Int → Int → Int → ByteArray → Int → Int → ByteArray → Int → Int → ByteArray → Int → ByteArray → Int → Int → Int → Int → Int → Int → Int → ByteArray → ByteArray → List (S46) → Int → ByteArray → List (S48) → Option (Bool)
 | 0, _, _, _, _, _, _, _, _, _, _, _, _, _, _, _, _, _, _, _, _, _, _, _, _, _, _, _, _ => none
 | k + 1, vn, wG, sj, bw, bM, bN, bO, bP, bQ, bR, bx, bS, bT, bU, bI, bA, bF, bC, bv, bB, bG, bJ, bD, bE, bq, bK, bL, bu => if sj < wG then (if 0 ≤ sj then (if sj < (vn.length : Int) then (if (((rd_T46 vn sj).f0).size : Int) = 4 then ((octet_Fits.f ((rd_T46 vn sj).f1) 4).bind fun bk => (if bk = true then (rerr_Right.l0 k vn wG (wrap64 (sj + 1)) bw bM bN bO bP bQ bR bx bS bT bU bI bA bF bC bv bB bG bJ bD bE bq bK bL bu) else (some false))) else (some false)) else (none)) else (none)) else ((ext_Right.f k bu).bind fun bm => (some bm))
end
def rerr_Right.f (k : Nat) (av : Int) (au : Int) (aw : Int) (ay : ByteArray) (aD : Int) (az : Int) (aA : ByteArray) (ax : Int) (aE : Int) (aC : ByteArray) (ap : Int) (an : ByteArray) (aj : Int) (am : Int) (ak : Int) (ah : Int) (ai : Int) (al : Int) (ao : Int) (ac : ByteArray) (af : ByteArray) (ae : List (S46)) (aq : Int) (ar : ByteArray) (ag : List (S48)) : Option (Bool) := if av = 5 then ((msg_Bare.f av au aw ay aD az aA ax aE aC ap an aj am ak ah ai al ao ac af ae aq ar ag).bind fun ba => (if ba = true then (if ah = 0 then (if (ae.length : Int) = 0 then (rerr_Right.j0 k true av au aw ay aD az aA ax aE aC ap an aj am ak ah ai al ao ac af ae aq ar ag) else (rerr_Right.j0 k (decide ((ae.length : Int) > 255)) av au aw ay aD az aA ax aE aC ap an aj am ak ah ai al ao ac af ae aq ar ag)) else (if ah = 1 then (if (ae.length : Int) = 0 then (rerr_Right.j0 k true av au aw ay aD az aA ax aE aC ap an aj am ak ah ai al ao ac af ae aq ar ag) else (rerr_Right.j0 k (decide ((ae.length : Int) > 255)) av au aw ay aD az aA ax aE aC ap an aj am ak ah ai al ao ac af ae aq ar ag)) else (rerr_Right.j0 k true av au aw ay aD az aA ax aE aC ap an aj am ak ah ai al ao ac af ae aq ar ag))) else (rerr_Right.j0 k true av au aw ay aD az aA ax aE aC ap an aj am ak ah ai al ao ac af ae aq ar ag))) else (rerr_Right.j0 k true av au aw ay aD az aA ax aE aC ap an aj am ak ah ai al ao ac af ae aq ar ag)
theorem rerr_Right.mono_l : ∀ k, (∀ y0 y1 y2 y3 y4 y5 y6 y7 y8 y9 fi fj fk fl fm fn fo fp fq fr fs ft fu fv fw fx, LeO (rerr_Right.j0 k y0 y1 y2 y3 y4 y5 y6 y7 y8 y9 fi fj fk fl fm fn fo fp fq fr fs ft fu fv fw fx) (rerr_Right.j0 (k + 1) y0 y1 y2 y3 y4 y5 y6 y7 y8 y9 fi fj fk fl fm fn fo fp fq fr fs ft fu fv fw fx)) ∧ (∀ y0 y1 y2 y3 y4 y5 y6 y7 y8 y9 fi fj fk fl fm fn fo fp fq fr fs ft fu fv fw fx hH jk, LeO (rerr_Right.l0 k y0 y1 y2 y3 y4 y5 y6 y7 y8 y9 fi fj fk fl fm fn fo fp fq fr fs ft fu fv fw fx hH jk) (rerr_Right.l0 (k + 1) y0 y1 y2 y3 y4 y5 y6 y7 y8 y9 fi fj fk fl fm fn fo fp fq fr fs ft fu fv fw fx hH jk))
 | 0 => ⟨fun _ _ _ _ _ _ _ _ _ _ _ _ _ _ _ _ _ _ _ _ _ _ _ _ _ _ r h => by simp [rerr_Right.j0] at h, fun _ _ _ _ _ _ _ _ _ _ _ _ _ _ _ _ _ _ _ _ _ _ _ _ _ _ _ _ r h => by simp [rerr_Right.l0] at h⟩
 | k + 1 => by
  obtain ⟨ih0, ih1⟩ := rerr_Right.mono_l k
  refine ⟨?_, ?_⟩
  ·intro y0 y1 y2 y3 y4 y5 y6 y7 y8 y9 fi fj fk fl fm fn fo fp fq fr fs ft fu fv fw fx
   unfold rerr_Right.j0
   repeat' first
   | (with_reducible exact ih0 ..)
   | (with_reducible exact ih1 ..)
   | (with_reducible exact ext_Right.mono _ _)
   | (with_reducible exact LeO.refl _)
   | (with_reducible exact LeO.none _)
   | (with_reducible refine LeO.ite ?_ ?_)
   | (with_reducible refine LeO.bind ?_ (fun _ => ?_))
   | exact ih0 ..
   | exact ih1 ..
   | exact ext_Right.mono _ _
   | exact LeO.none _
   | refine LeO.ite ?_ ?_
   | refine LeO.bind ?_ (fun _ => ?_)
  ·intro y0 y1 y2 y3 y4 y5 y6 y7 y8 y9 fi fj fk fl fm fn fo fp fq fr fs ft fu fv fw fx hH jk
   unfold rerr_Right.l0
   repeat' first
   | (with_reducible exact ih0 ..)
   | (with_reducible exact ih1 ..)
   | (with_reducible exact ext_Right.mono _ _)
   | (with_reducible exact LeO.refl _)
   | (with_reducible exact LeO.none _)
   | (with_reducible refine LeO.ite ?_ ?_)
   | (with_reducible refine LeO.bind ?_ (fun _ => ?_))
   | exact ih0 ..
   | exact ih1 ..
   | exact ext_Right.mono _ _
   | exact LeO.none _
   | refine LeO.ite ?_ ?_
   | refine LeO.bind ?_ (fun _ => ?_)
theorem rerr_Right.mono : ∀ a0 a1 a2 a3 a4 a5 a6 a7 a8 a9 fJ fK fL fM fN fO fP fQ fR fS fT fU fV fW fX k, LeO (rerr_Right.f k a0 a1 a2 a3 a4 a5 a6 a7 a8 a9 fJ fK fL fM fN fO fP fQ fR fS fT fU fV fW fX) (rerr_Right.f (k + 1) a0 a1 a2 a3 a4 a5 a6 a7 a8 a9 fJ fK fL fM fN fO fP fQ fR fS fT fU fV fW fX) := by
 intro a0 a1 a2 a3 a4 a5 a6 a7 a8 a9 fJ fK fL fM fN fO fP fQ fR fS fT fU fV fW fX k
 obtain ⟨ih0, ih1⟩ := rerr_Right.mono_l k
 unfold rerr_Right.f
 repeat' first
   | (with_reducible exact ih0 ..)
   | (with_reducible exact ih1 ..)
   | (with_reducible exact ext_Right.mono _ _)
   | (with_reducible exact LeO.refl _)
   | (with_reducible exact LeO.none _)
   | (with_reducible refine LeO.ite ?_ ?_)
   | (with_reducible refine LeO.bind ?_ (fun _ => ?_))
   | exact ih0 ..
   | exact ih1 ..
   | exact ext_Right.mono _ _
   | exact LeO.none _
   | refine LeO.ite ?_ ?_
   | refine LeO.bind ?_ (fun _ => ?_)

set_option maxHeartbeats 8000000 in
set_option maxRecDepth 100000 in
theorem rerr_Right.calls (k : Nat) (av : Int) (au : Int) (aw : Int) (ay : ByteArray) (aD : Int) (az : Int) (aA : ByteArray) (ax : Int) (aE : Int) (aC : ByteArray) (ap : Int) (an : ByteArray) (aj : Int) (am : Int) (ak : Int) (ah : Int) (ai : Int) (al : Int) (ao : Int) (ac : ByteArray) (af : ByteArray) (aT : Option Addr) (aN : Nat) (ae : List (S46)) (aq : Int) (ar : ByteArray) (aJ : Option Addr) (aK : Nat) (ag : List (S48)) (r : Bool) (w : World) (bY : Kd.C k46 w aT ae.length ae) (bZ : ae.length ≤ aN) (ca : Kd.C k48 w aJ ag.length ag) (cb : ag.length ≤ aK) (h : rerr_Right.f k av au aw ay aD az aA ax aE aC ap an aj am ak ah ai al ao ac af ae aq ar ag = some r) :
  Calls Try.prog 28 #[.agg #[.int .i64 av, .int .i64 au, .int .i64 aw, .string ay, .int .i64 aD, .int .i64 az, .string aA, .int .i64 ax, .int .i64 aE, .string aC, .int .i64 ap, .string an, .int .i64 aj, .int .i64 am, .int .i64 ak, .int .i64 ah, .int .i64 ai, .int .i64 al, .int .i64 ao, .string ac, .string af, .slice aT ae.length aN, .int .i64 aq, .string ar, .slice aJ ag.length aK]] w fun e w' => e = .returned (.bool r) ∧ Below w.heap.size w w' := by
 have gB := Try.underlying25
 have pa := Try.underlying46
 have cT := Aside0.mk bY
 have bl := Aside0.mk bZ
 clear bY bZ
 have cP := Aside0.mk ca
 have bg := Aside0.mk cb
 clear ca cb
 have HB := Aside0.mk (Below.refl w.heap.size w)
 have H : (if av = 5 then ((msg_Bare.f av au aw ay aD az aA ax aE aC ap an aj am ak ah ai al ao ac af ae aq ar ag).bind fun ba => (if ba = true then (if ah = 0 then (if (ae.length : Int) = 0 then (rerr_Right.j0 k true av au aw ay aD az aA ax aE aC ap an aj am ak ah ai al ao ac af ae aq ar ag) else (rerr_Right.j0 k (decide ((ae.length : Int) > 255)) av au aw ay aD az aA ax aE aC ap an aj am ak ah ai al ao ac af ae aq ar ag)) else (if ah = 1 then (if (ae.length : Int) = 0 then (rerr_Right.j0 k true av au aw ay aD az aA ax aE aC ap an aj am ak ah ai al ao ac af ae aq ar ag) else (rerr_Right.j0 k (decide ((ae.length : Int) > 255)) av au aw ay aD az aA ax aE aC ap an aj am ak ah ai al ao ac af ae aq ar ag)) else (rerr_Right.j0 k true av au aw ay aD az aA ax aE aC ap an aj am ak ah ai al ao ac af ae aq ar ag))) else (rerr_Right.j0 k true av au aw ay aD az aA ax aE aC ap an aj am ak ah ai al ao ac af ae aq ar ag))) else (rerr_Right.j0 k true av au aw ay aD az aA ax aE aC ap an aj am ak ah ai al ao ac af ae aq ar ag)) = some r := h
 clear h
 have iB := Aside0.mk H
 clear H
 go_enter Try.func28, Try.ntmps28
 go_upto_region 1 with (first | ((with_reducible refine Pre.gate_load 25 rfl ?_); (try (refine gate_guard Z13 ?_; dsimp only)); refine Pre.load_event rfl rfl rfl Z13 Z16 Try.underlying25 rfl Z6 ?_) | ((with_reducible refine gate_dst (N := 1) rfl ?_); (try (refine gate_guard Z13 ?_; dsimp only)); refine box_event ?hg (N := 1) ?hd (cs := #[.int .i64 av, .int .i64 au, .int .i64 aw, .string ay, .int .i64 aD, .int .i64 az, .string aA, .int .i64 ax, .int .i64 aE, .string aC, .int .i64 ap, .string an, .int .i64 aj, .int .i64 am, .int .i64 ak, .int .i64 ah, .int .i64 ai, .int .i64 al, .int .i64 ao, .string ac, .string af, .slice aT ae.length aN, .int .i64 aq, .string ar, .slice aJ ag.length aK]) (t := 25) ?hr ?_; (case hd => rfl); (case hg => rfl); (case hr => first | (go_simp; done) | (go_simp; rfl)); intro aa hg w3 hbox hb; have aG := Aside0.mk (below_step Z3 hb); have aH := Aside0.mk (hbox); have aI := Aside0.mk ((by rw [hg]; exact (below_size Z3) : w.heap.size ≤ aa)); have aZ := Aside0.mk ((by rw [hg]; exact (below_size Z3) : w.heap.size ≤ aa)); replace HB := aG; have ab := aH; have cl := aI; have bs := aZ; clear aG aH aI aZ; clear hb hbox hg))
 (try simp only [Act.put, List.setIfInBounds_toArray, List.set_cons_zero, List.set_cons_succ])
 go_cut [34] (fun vx wc => ∃ (kq : Nat) (jQ : Bool), vx = .bool jQ ∧ Aside0 (rerr_Right.j0 kq jQ av au aw ay aD az aA ax aE aC ap an aj am ak ah ai al ao ac af ae aq ar ag = some r) ∧ Aside0 (kq ≤ k) ∧ Aside0 (wc.heap[aa]? = some (.cells #[.int .i64 av, .int .i64 au, .int .i64 aw, .string ay, .int .i64 aD, .int .i64 az, .string aA, .int .i64 ax, .int .i64 aE, .string aC, .int .i64 ap, .string an, .int .i64 aj, .int .i64 am, .int .i64 ak, .int .i64 ah, .int .i64 ai, .int .i64 al, .int .i64 ao, .string ac, .string af, (.slice aT ae.length aN), .int .i64 aq, .string ar, (.slice aJ ag.length aK)] 25 (0, 0))) ∧ Aside0 (Below w.heap.size w wc))
 case first =>
  have H := iB.out
  clear iB
  by_cases c4 : av = 5
  ·rw [if_pos c4] at H
   have cS : (av == 5) = true := beq_iff_eq.mpr c4
   have gY : (av != 5) = false := bne_eq_false_iff_eq.mpr c4
   clear c4
   (first | rw [cS] | (simp only [i64_w, i32_w]; rw [cS]) | skip)
   replace H := Option.bind_eq_some_iff.mp H
   obtain ⟨ba, jp, H⟩ := H
   replace H : (if ba = true then (if ah = 0 then (if (ae.length : Int) = 0 then (rerr_Right.j0 k true av au aw ay aD az aA ax aE aC ap an aj am ak ah ai al ao ac af ae aq ar ag) else (rerr_Right.j0 k (decide ((ae.length : Int) > 255)) av au aw ay aD az aA ax aE aC ap an aj am ak ah ai al ao ac af ae aq ar ag)) else (if ah = 1 then (if (ae.length : Int) = 0 then (rerr_Right.j0 k true av au aw ay aD az aA ax aE aC ap an aj am ak ah ai al ao ac af ae aq ar ag) else (rerr_Right.j0 k (decide ((ae.length : Int) > 255)) av au aw ay aD az aA ax aE aC ap an aj am ak ah ai al ao ac af ae aq ar ag)) else (rerr_Right.j0 k true av au aw ay aD az aA ax aE aC ap an aj am ak ah ai al ao ac af ae aq ar ag))) else (rerr_Right.j0 k true av au aw ay aD az aA ax aE aC ap an aj am ak ah ai al ao ac af ae aq ar ag)) = some r := H
   have A5 := Aside0.mk jp
   clear jp
   by_cases c6 : ba = true
   ·subst c6
    replace H := Sq.itT H
    by_cases c7 : ah = 0
    ·rw [if_pos c7] at H
     have ib : (ah == 0) = true := beq_iff_eq.mpr c7
     have lL : (ah != 0) = false := bne_eq_false_iff_eq.mpr c7
     clear c7
     by_cases c8 : (ae.length : Int) = 0
     ·rw [if_pos c8] at H
      have iG : ((ae.length : Int) == 0) = true := beq_iff_eq.mpr c8
      have kt : ((ae.length : Int) != 0) = false := bne_eq_false_iff_eq.mpr c8
      clear c8
      have H' := Aside0.mk H
      clear H
      have iV := cells_25 ab.out
      go_wp2_with (first | ((with_reducible refine Pre.gate_load 25 rfl ?_); (try (refine gate_guard Z13 ?_; dsimp only)); refine Pre.load_event rfl rfl rfl Z13 Z16 Try.underlying25 rfl Z6 ?_) | (go_at_call 53; (with_reducible refine (msg_Bare.calls av au aw ay aD az aA ax aE aC ap an aj am ak ah ai al ao ac af _ _ ae aq ar _ _ ag true _ ?side1 ?side2 ?side3 ?side4 A5.out).mono ?_); (case side1 => exact Z8); (case side2 => exact bl.out); (case side3 => exact Z7); (case side4 => exact bg.out); rintro e sg ⟨rfl, hb⟩; have aG := Aside0.mk (blk_below (g := aa) Z1 hb); have aH := Aside0.mk (below_step Z0 hb); replace ab := aG; replace HB := aH; clear aG aH; (try clear hb); (try clear hb2); (try clear hk); (try clear hi); have mg := cells_25 ab.out))
      go_meet
      case rel => exact ⟨_, (true), Z14, H', ⟨Z41⟩, ⟨Z1⟩, ⟨Z0⟩⟩
     ·rw [if_neg c8] at H
      have iG : ((ae.length : Int) == 0) = false := beq_eq_false_iff_ne.mpr c8
      have kt : ((ae.length : Int) != 0) = true := bne_iff_ne.mpr c8
      have uq : ¬ (ae = []) := fun h_ => c8 (by rw [h_]; rfl)
      have H' := Aside0.mk H
      clear H
      have md := cells_25 ab.out
      go_wp2_with (first | ((with_reducible refine Pre.gate_load 25 rfl ?_); (try (refine gate_guard Z13 ?_; dsimp only)); refine Pre.load_event rfl rfl rfl Z13 Z16 Try.underlying25 rfl Z6 ?_) | (go_at_call 53; (with_reducible refine (msg_Bare.calls av au aw ay aD az aA ax aE aC ap an aj am ak ah ai al ao ac af _ _ ae aq ar _ _ ag true _ ?side1 ?side2 ?side3 ?side4 A5.out).mono ?_); (case side1 => exact Z8); (case side2 => exact bl.out); (case side3 => exact Z7); (case side4 => exact bg.out); rintro e lb ⟨rfl, hb⟩; have aG := Aside0.mk (blk_below (g := aa) Z1 hb); have aH := Aside0.mk (below_step Z0 hb); replace ab := aG; replace HB := aH; clear aG aH; (try clear hb); (try clear hb2); (try clear hk); (try clear hi); have ji := cells_25 ab.out))
      go_meet
      case rel => exact ⟨_, (decide ((ae.length : Int) > 255)), Z14, H', ⟨Z41⟩, ⟨Z1⟩, ⟨Z0⟩⟩
    ·rw [if_neg c7] at H
     have ib : (ah == 0) = false := beq_eq_false_iff_ne.mpr c7
     have lL : (ah != 0) = true := bne_iff_ne.mpr c7
     by_cases fd : ah = 1
     ·rw [if_pos fd] at H
      have ix : (ah == 1) = true := beq_iff_eq.mpr fd
      have iZ : (ah != 1) = false := bne_eq_false_iff_eq.mpr fd
      clear fd
      by_cases ej : (ae.length : Int) = 0
      ·rw [if_pos ej] at H
       have gL : ((ae.length : Int) == 0) = true := beq_iff_eq.mpr ej
       have hM : ((ae.length : Int) != 0) = false := bne_eq_false_iff_eq.mpr ej
       clear ej
       have H' := Aside0.mk H
       clear H
       have lG := cells_25 ab.out
       go_wp2_with (first | ((with_reducible refine Pre.gate_load 25 rfl ?_); (try (refine gate_guard Z13 ?_; dsimp only)); refine Pre.load_event rfl rfl rfl Z13 Z16 Try.underlying25 rfl Z6 ?_) | (go_at_call 53; (with_reducible refine (msg_Bare.calls av au aw ay aD az aA ax aE aC ap an aj am ak ah ai al ao ac af _ _ ae aq ar _ _ ag true _ ?side1 ?side2 ?side3 ?side4 A5.out).mono ?_); (case side1 => exact Z8); (case side2 => exact bl.out); (case side3 => exact Z7); (case side4 => exact bg.out); rintro e kh ⟨rfl, hb⟩; have aG := Aside0.mk (blk_below (g := aa) Z1 hb); have aH := Aside0.mk (below_step Z0 hb); replace ab := aG; replace HB := aH; clear aG aH; (try clear hb); (try clear hb2); (try clear hk); (try clear hi); have jh := cells_25 ab.out))
       go_meet
       case rel => exact ⟨_, (true), Z14, H', ⟨Z41⟩, ⟨Z1⟩, ⟨Z0⟩⟩
      ·rw [if_neg ej] at H
       have gL : ((ae.length : Int) == 0) = false := beq_eq_false_iff_ne.mpr ej
       have hM : ((ae.length : Int) != 0) = true := bne_iff_ne.mpr ej
       have ly : ¬ (ae = []) := fun h_ => ej (by rw [h_]; rfl)
       have H' := Aside0.mk H
       clear H
       have iR := cells_25 ab.out
       go_wp2_with (first | ((with_reducible refine Pre.gate_load 25 rfl ?_); (try (refine gate_guard Z13 ?_; dsimp only)); refine Pre.load_event rfl rfl rfl Z13 Z16 Try.underlying25 rfl Z6 ?_) | (go_at_call 53; (with_reducible refine (msg_Bare.calls av au aw ay aD az aA ax aE aC ap an aj am ak ah ai al ao ac af _ _ ae aq ar _ _ ag true _ ?side1 ?side2 ?side3 ?side4 A5.out).mono ?_); (case side1 => exact Z8); (case side2 => exact bl.out); (case side3 => exact Z7); (case side4 => exact bg.out); rintro e mi ⟨rfl, hb⟩; have aG := Aside0.mk (blk_below (g := aa) Z1 hb); have aH := Aside0.mk (below_step Z0 hb); replace ab := aG; replace HB := aH; clear aG aH; (try clear hb); (try clear hb2); (try clear hk); (try clear hi); have jl := cells_25 ab.out))
       go_meet
       case rel => exact ⟨_, (decide ((ae.length : Int) > 255)), Z14, H', ⟨Z41⟩, ⟨Z1⟩, ⟨Z0⟩⟩
     ·rw [if_neg fd] at H
      have ix : (ah == 1) = false := beq_eq_false_iff_ne.mpr fd
      have iZ : (ah != 1) = true := bne_iff_ne.mpr fd
      have H' := Aside0.mk H
      clear H
      have jO := cells_25 ab.out
      go_wp2_with (first | ((with_reducible refine Pre.gate_load 25 rfl ?_); (try (refine gate_guard Z13 ?_; dsimp only)); refine Pre.load_event rfl rfl rfl Z13 Z16 Try.underlying25 rfl Z6 ?_) | (go_at_call 53; (with_reducible refine (msg_Bare.calls av au aw ay aD az aA ax aE aC ap an aj am ak ah ai al ao ac af _ _ ae aq ar _ _ ag true _ ?side1 ?side2 ?side3 ?side4 A5.out).mono ?_); (case side1 => exact Z8); (case side2 => exact bl.out); (case side3 => exact Z7); (case side4 => exact bg.out); rintro e ed ⟨rfl, hb⟩; have aG := Aside0.mk (blk_below (g := aa) Z1 hb); have aH := Aside0.mk (below_step Z0 hb); replace ab := aG; replace HB := aH; clear aG aH; (try clear hb); (try clear hb2); (try clear hk); (try clear hi); have iv := cells_25 ab.out))
      go_meet
      case rel => exact ⟨_, (true), Z14, H', ⟨Z41⟩, ⟨Z1⟩, ⟨Z0⟩⟩
   ·replace c6 := Bool.eq_false_iff.mpr c6
    subst c6
    replace H := Sq.itF H
    have H' := Aside0.mk H
    clear H
    have iO := cells_25 ab.out
    go_wp2_with (first | ((with_reducible refine Pre.gate_load 25 rfl ?_); (try (refine gate_guard Z13 ?_; dsimp only)); refine Pre.load_event rfl rfl rfl Z13 Z16 Try.underlying25 rfl Z6 ?_) | (go_at_call 53; (with_reducible refine (msg_Bare.calls av au aw ay aD az aA ax aE aC ap an aj am ak ah ai al ao ac af _ _ ae aq ar _ _ ag false _ ?side1 ?side2 ?side3 ?side4 A5.out).mono ?_); (case side1 => exact Z8); (case side2 => exact bl.out); (case side3 => exact Z7); (case side4 => exact bg.out); rintro e iy ⟨rfl, hb⟩; have aG := Aside0.mk (blk_below (g := aa) Z1 hb); have aH := Aside0.mk (below_step Z0 hb); replace ab := aG; replace HB := aH; clear aG aH; (try clear hb); (try clear hb2); (try clear hk); (try clear hi)))
    go_meet
    case rel => exact ⟨_, (true), Z14, H', ⟨Z41⟩, ⟨Z1⟩, ⟨Z0⟩⟩
  ·rw [if_neg c4] at H
   have cS : (av == 5) = false := beq_eq_false_iff_ne.mpr c4
   have gY : (av != 5) = true := bne_iff_ne.mpr c4
   (first | rw [cS] | (simp only [i64_w, i32_w]; rw [cS]) | skip)
   have H' := Aside0.mk H
   clear H
   have kI := cells_25 ab.out
   go_wp2_with (first | ((with_reducible refine Pre.gate_load 25 rfl ?_); (try (refine gate_guard Z13 ?_; dsimp only)); refine Pre.load_event rfl rfl rfl Z13 Z16 Try.underlying25 rfl Z6 ?_))
   go_meet
   case rel => exact ⟨_, (true), Z14, H', ⟨Z41⟩, ⟨Z1⟩, ⟨Z0⟩⟩
 case rest =>
  clear iB
  try clear c2
  try clear nB
  obtain ⟨kq, jQ, rfl, HA, kB, ab, HB⟩ := hcut
  cases kq with
  | zero => exact absurd HA.out (by simp [rerr_Right.j0])
  | succ kj1 =>
   have H := HA.out
   clear HA
   simp only [rerr_Right.j0] at H
   by_cases jr : jQ = true
   ·subst jr
    replace H := Sq.itT H
    obtain rfl := Option.some.inj H
    go_wp2_with (first | ((with_reducible refine Pre.gate_load 25 rfl ?_); (try (refine gate_guard Z13 ?_; dsimp only)); refine Pre.load_event rfl rfl rfl Z13 Z16 Try.underlying25 rfl Z6 ?_))
    go_ret
    exact ⟨Z9, Z0⟩
   ·replace jr := Bool.eq_false_iff.mpr jr
    subst jr
    replace H := Sq.itF H
    have H' := Aside0.mk H
    clear H
    have nh := cells_25 ab.out
    go_wp2_with (first | ((with_reducible refine Pre.gate_load 25 rfl ?_); (try (refine gate_guard Z13 ?_; dsimp only)); refine Pre.load_event rfl rfl rfl Z13 Z16 Try.underlying25 rfl Z6 ?_))
    go_loopg [38] kj1 (fun kq xi w' => ∃ (fF : Int), xi = .int .i64 fF ∧ Aside0 (rerr_Right.l0 kq ae (ae.length : Int) fF av au aw ay aD az aA ax aE aC ap an aj am ak ah ai al ao ac af ae aq ar ag = some r) ∧ Aside0 (kq ≤ kj1) ∧ Aside0 (w'.heap[aa]? = some (.cells #[.int .i64 av, .int .i64 au, .int .i64 aw, .string ay, .int .i64 aD, .int .i64 az, .string aA, .int .i64 ax, .int .i64 aE, .string aC, .int .i64 ap, .string an, .int .i64 aj, .int .i64 am, .int .i64 ak, .int .i64 ah, .int .i64 ai, .int .i64 al, .int .i64 ao, .string ac, .string af, (.slice aT ae.length aN), .int .i64 aq, .string ar, (.slice aJ ag.length aK)] 25 (0, 0))) ∧ Aside0 (Below w.heap.size w w'))
    case atStart => exact ⟨(0), Z14, H', ⟨Nat.le_refl _⟩, ⟨Z1⟩, ⟨Z0⟩⟩
    case round =>
     clear H'
     try clear c2
     try clear p2
     try clear c4
     try clear cS
     try clear gY
     try clear c6
     try clear c7
     try clear nB
     try clear jr
     try clear iO
     try clear kI
     try clear nh
     obtain ⟨fF, rfl, HA, HK2, ab, HB⟩ := hrel
     cases gk with
     | zero => exact absurd HA.out (by simp [rerr_Right.l0])
     | succ k2 =>
      have H := HA.out
      clear HA
      simp only [rerr_Right.l0] at H
      by_cases jD : fF < (ae.length : Int)
      ·rw [if_pos jD] at H
       have li : decide (fF < (ae.length : Int)) = true := decide_eq_true jD
       clear jD
       by_cases jv : 0 ≤ fF
       ·rw [if_pos jv] at H
        have lV : decide (0 ≤ fF) = true := decide_eq_true jv
        clear jv
        by_cases kv : fF < (ae.length : Int)
        ·rw [if_pos kv] at H
         have ms : decide (fF < (ae.length : Int)) = true := decide_eq_true kv
         clear kv
         by_cases jf : (((rd_T46 ae fF).f0).size : Int) = 4
         ·rw [if_pos jf] at H
          have ks : ((((rd_T46 ae fF).f0).size : Int) == 4) = true := beq_iff_eq.mpr jf
          have lW : ((((rd_T46 ae fF).f0).size : Int) != 4) = false := bne_eq_false_iff_eq.mpr jf
          clear jf
          replace H := Option.bind_eq_some_iff.mp H
          obtain ⟨bk, kJ, H⟩ := H
          replace H : (if bk = true then (rerr_Right.l0 k2 ae (ae.length : Int) (wrap64 (fF + 1)) av au aw ay aD az aA ax aE aC ap an aj am ak ah ai al ao ac af ae aq ar ag) else (some false)) = some r := H
          have pK := Aside0.mk kJ
          clear kJ
          by_cases mC : bk = true
          ·subst mC
           replace H := Sq.itT H
           have H' := Aside0.mk H
           clear H
           have p103 : 0 ≤ (fF : Int) := of_decide_eq_true Z10
           have q103 : fF < (ae.length : Int) := of_decide_eq_true Z10
           obtain ⟨ad103, e103, hx103_0, hx103_1⟩ := at_T46 cT.out fF p103 q103
           cases e103
           replace hx103_0 := (HB.out.cell (World.block_lt_of_cell? w _ hx103_0)).trans hx103_0
           replace hx103_1 := (HB.out.cell (World.block_lt_of_cell? w _ hx103_1)).trans hx103_1
           replace p103 := eq_true p103
           replace q103 := eq_true q103
           go_wp2_with (first | ((with_reducible refine Pre.gate_load 25 rfl ?_); (try (refine gate_guard Z13 ?_; dsimp only)); refine Pre.load_event rfl rfl rfl Z13 Z16 Try.underlying25 rfl Z6 ?_) | ((with_reducible refine gate_dst (N := 4) rfl ?_); (try (refine gate_guard Z13 ?_; dsimp only)); refine box_event ?hg (N := 4) ?hd (cs := #[.string ⟨#[]⟩, .int .i64 0]) (t := 46) ?hr ?_; (case hd => rfl); (case hg => rfl); (case hr => first | (go_simp; done) | (go_simp; rfl)); intro hl hg ss hbox hb; have aG := Aside0.mk (blk_below (g := aa) Z1 hb); have aH := Aside0.mk (below_step Z0 hb); have aI := Aside0.mk (hbox); have aZ := Aside0.mk ((by rw [hg]; exact (below_size Z0) : w.heap.size ≤ hl)); have bH := Aside0.mk ((by rw [hg]; exact (below_size Z0) : w.heap.size ≤ hl)); have cx := Aside0.mk ((by rw [hg]; exact Nat.ne_of_lt (blk_lt (g := aa) Z1) : aa ≠ hl)); have du := Aside0.mk ((by rw [hg]; exact Nat.ne_of_gt (blk_lt (g := aa) Z1) : hl ≠ aa)); replace ab := aG; replace HB := aH; have ih := aI; have qM := aZ; have pp := bH; have hI := cx; have iS := du; clear aG aH aI aZ bH cx du; clear hb hbox hg; have hnb38 := iS.out; have hnc38 := hI.out; have pZ : ss.cell? ⟨hl, 0, none⟩ = some (.string ⟨#[]⟩) := (blk_cell ih.out 0).trans rfl; have qa : ss.cell? ⟨hl, 1, none⟩ = some (.int .i64 0) := (blk_cell ih.out 1).trans rfl; have hfz39_0 := blk_frozen ih.out 0; have hfz39_1 := blk_frozen ih.out 1) | (go_at_call 54; (with_reducible refine (octet_Fits.calls ((rd_T46 ae fF).f1) 4 true _ pK.out).mono ?_); rintro e w' ⟨rfl, ⟨nd, rfl⟩⟩))
           go_roundg k2
           case measure => have := kB.out; have := HK2.out; omega
           case rel => exact ⟨(wrap64 (fF + 1)), Z14, H', ⟨by have := kB.out; have := HK2.out; omega⟩, ⟨by (with_reducible repeat (first | refine blk_drewN ?_ _ | refine blk_drew ?_ | refine blk_alloc ?_ _)); refine blk_far ?_ hI.out _; (with_reducible repeat (first | refine blk_drewN ?_ _ | refine blk_drew ?_ | refine blk_alloc ?_ _)); refine blk_far ?_ hI.out _; (with_reducible repeat (first | refine blk_drewN ?_ _ | refine blk_drew ?_ | refine blk_alloc ?_ _)); exact ab.out⟩, ⟨Z105⟩⟩
          ·replace mC := Bool.eq_false_iff.mpr mC
           subst mC
           replace H := Sq.itF H
           obtain rfl := Option.some.inj H
           have p103 : 0 ≤ (fF : Int) := of_decide_eq_true Z10
           have q103 : fF < (ae.length : Int) := of_decide_eq_true Z10
           obtain ⟨ad103, e103, hx103_0, hx103_1⟩ := at_T46 cT.out fF p103 q103
           cases e103
           replace hx103_0 := (HB.out.cell (World.block_lt_of_cell? w _ hx103_0)).trans hx103_0
           replace hx103_1 := (HB.out.cell (World.block_lt_of_cell? w _ hx103_1)).trans hx103_1
           replace p103 := eq_true p103
           replace q103 := eq_true q103
           go_wp2_with (first | ((with_reducible refine Pre.gate_load 25 rfl ?_); (try (refine gate_guard Z13 ?_; dsimp only)); refine Pre.load_event rfl rfl rfl Z13 Z16 Try.underlying25 rfl Z6 ?_) | ((with_reducible refine gate_dst (N := 4) rfl ?_); (try (refine gate_guard Z13 ?_; dsimp only)); refine box_event ?hg (N := 4) ?hd (cs := #[.string ⟨#[]⟩, .int .i64 0]) (t := 46) ?hr ?_; (case hd => rfl); (case hg => rfl); (case hr => first | (go_simp; done) | (go_simp; rfl)); intro hl hg nT hbox hb; have aG := Aside0.mk (blk_below (g := aa) Z1 hb); have aH := Aside0.mk (below_step Z0 hb); have aI := Aside0.mk (hbox); have aZ := Aside0.mk ((by rw [hg]; exact (below_size Z0) : w.heap.size ≤ hl)); have bH := Aside0.mk ((by rw [hg]; exact (below_size Z0) : w.heap.size ≤ hl)); have cx := Aside0.mk ((by rw [hg]; exact Nat.ne_of_lt (blk_lt (g := aa) Z1) : aa ≠ hl)); have du := Aside0.mk ((by rw [hg]; exact Nat.ne_of_gt (blk_lt (g := aa) Z1) : hl ≠ aa)); replace ab := aG; replace HB := aH; have ih := aI; have qM := aZ; have pp := bH; have hI := cx; have iS := du; clear aG aH aI aZ bH cx du; clear hb hbox hg; have tD := iS.out; have tE := hI.out; have hcz42_0 : nT.cell? ⟨hl, 0, none⟩ = some (.string ⟨#[]⟩) := (blk_cell ih.out 0).trans rfl; have hcz42_1 : nT.cell? ⟨hl, 1, none⟩ = some (.int .i64 0) := (blk_cell ih.out 1).trans rfl; have hfz42_0 := blk_frozen ih.out 0; have hfz42_1 := blk_frozen ih.out 1) | (go_at_call 54; (with_reducible refine (octet_Fits.calls ((rd_T46 ae fF).f1) 4 false _ pK.out).mono ?_); rintro e w' ⟨rfl, ⟨nd, rfl⟩⟩))
           go_ret
           exact ⟨Z9, Z105⟩
         ·rw [if_neg jf] at H
          have ks : ((((rd_T46 ae fF).f0).size : Int) == 4) = false := beq_eq_false_iff_ne.mpr jf
          have lW : ((((rd_T46 ae fF).f0).size : Int) != 4) = true := bne_iff_ne.mpr jf
          obtain rfl := Option.some.inj H
          have p103 : 0 ≤ (fF : Int) := of_decide_eq_true Z10
          have q103 : fF < (ae.length : Int) := of_decide_eq_true Z10
          obtain ⟨ad103, e103, hx103_0, hx103_1⟩ := at_T46 cT.out fF p103 q103
          cases e103
          replace hx103_0 := (HB.out.cell (World.block_lt_of_cell? w _ hx103_0)).trans hx103_0
          replace hx103_1 := (HB.out.cell (World.block_lt_of_cell? w _ hx103_1)).trans hx103_1
          replace p103 := eq_true p103
          replace q103 := eq_true q103
          go_wp2_with (first | ((with_reducible refine Pre.gate_load 25 rfl ?_); (try (refine gate_guard Z13 ?_; dsimp only)); refine Pre.load_event rfl rfl rfl Z13 Z16 Try.underlying25 rfl Z6 ?_) | ((with_reducible refine gate_dst (N := 4) rfl ?_); (try (refine gate_guard Z13 ?_; dsimp only)); refine box_event ?hg (N := 4) ?hd (cs := #[.string ⟨#[]⟩, .int .i64 0]) (t := 46) ?hr ?_; (case hd => rfl); (case hg => rfl); (case hr => first | (go_simp; done) | (go_simp; rfl)); intro hl hg ov hbox hb; have aG := Aside0.mk (blk_below (g := aa) Z1 hb); have aH := Aside0.mk (below_step Z0 hb); have aI := Aside0.mk (hbox); have aZ := Aside0.mk ((by rw [hg]; exact (below_size Z0) : w.heap.size ≤ hl)); have bH := Aside0.mk ((by rw [hg]; exact (below_size Z0) : w.heap.size ≤ hl)); have cx := Aside0.mk ((by rw [hg]; exact Nat.ne_of_lt (blk_lt (g := aa) Z1) : aa ≠ hl)); have du := Aside0.mk ((by rw [hg]; exact Nat.ne_of_gt (blk_lt (g := aa) Z1) : hl ≠ aa)); replace ab := aG; replace HB := aH; have ih := aI; have qM := aZ; have pp := bH; have hI := cx; have iS := du; clear aG aH aI aZ bH cx du; clear hb hbox hg; have qF := iS.out; have qG := hI.out; have hcz45_0 : ov.cell? ⟨hl, 0, none⟩ = some (.string ⟨#[]⟩) := (blk_cell ih.out 0).trans rfl; have hcz45_1 : ov.cell? ⟨hl, 1, none⟩ = some (.int .i64 0) := (blk_cell ih.out 1).trans rfl; have hfz45_0 := blk_frozen ih.out 0; have hfz45_1 := blk_frozen ih.out 1))
          go_ret
          exact ⟨Z9, Z105⟩
        ·rw [if_neg kv] at H
         exact absurd H Z73
       ·rw [if_neg jv] at H
        exact absurd H Z73
      ·rw [if_neg jD] at H
       have li : decide (fF < (ae.length : Int)) = false := decide_eq_false jD
       clear jD
       replace H := Option.bind_eq_some_iff.mp H
       obtain ⟨bm, ur, H⟩ := H
       replace H : (some bm) = some r := H
       have xj := Aside0.mk ur
       clear ur
       obtain rfl := Option.some.inj H
       have pf := cells_25 ab.out
       go_wp2_with (first | ((with_reducible refine Pre.gate_load 25 rfl ?_); (try (refine gate_guard Z13 ?_; dsimp only)); refine Pre.load_event rfl rfl rfl Z13 Z16 Try.underlying25 rfl Z6 ?_) | ((with_reducible refine gate_callee (f := 55) rfl ?_); refine goesL_ (some 55) rfl rfl Try.func55 Z6 rfl #[.slice aJ ag.length aK] rfl Z5 ?_; (with_reducible refine (ext_Right.calls k2 _ _ ag bm _ ?side1 ?side2 xj.out).mono ?_); (case side1 => exact Z7); (case side2 => exact bg.out); rintro e tI ⟨rfl, hb⟩; refine ⟨_, rfl, ?_⟩; have aG := Aside0.mk (blk_below (g := aa) Z1 hb); have aH := Aside0.mk (below_step Z0 hb); replace ab := aG; replace HB := aH; clear aG aH; (try clear hb); (try clear hb2); (try clear hk); (try clear hi)))
       go_ret
       exact ⟨Z9, Z0⟩

end Go.Proofs.Ytccjakjjaemmkaa.PR
