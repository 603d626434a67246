-- Written by mp.py, a program of this work (wip/tools), out of the translation; Lean checks it.
import Derived.Test.YtelcciekdoccfaaPMxZ
import Derived.Test.YtelcciekdoccfaaPMxroadbookref07
import Derived.Test.YtelcciekdoccfaaOr
namespace Go.Proofs.Ytelcciekdoccfaa.PM
open Go.RowKit Go.Proofs.YtelcciekdoccfaaW.PrintWords Go.Proofs.YtelcciekdoccfaaW.PrintLast Go.Proofs.YtelcciekdoccfaaW.PrintMore
attribute [local go_sem] max2_int min2_int max_two min_two max_three min_three max_four min_four   -- for this text's walks alone
set_option linter.unusedVariables false
set_option linter.unusedSimpArgs false

/-! ### roadbookref07_Same: function 47 -/
mutual
def roadbookref07_Same.j0 : Nat → Bool → Int → Int → Int → ByteArray → Int → Int → ByteArray → Int → Int → ByteArray → Int → ByteArray → Int → Int → Int → Int → Int → Int → Int → ByteArray → ByteArray → List (S61) → Int → ByteArray → List (S63) → Int → Int → Int → ByteArray → Int → Int → ByteArray → Int → Int → ByteArray → Int → ByteArray → Int → Int → Int → Int → Int → Int → Int → ByteArray → ByteArray → List (S61) → Int → ByteArray → List (S63) → Option (Bool)
 | 0, _, _, _, _, _, _, _, _, _, _, _, _, _, _, _, _, _, _, _, _, _, _, _, _, _, _, _, _, _, _, _, _, _, _, _, _, _, _, _, _, _, _, _, _, _, _, _, _, _, _, _ => none
 | k + 1, iU, bI, bJ, bK, bL, bM, bN, bO, bP, bQ, bR, bS, bu, bv, bw, bx, bA, bB, bC, bD, bE, bF, bs, bG, bH, bt, cp, cq, cr, ct, cu, cv, cw, cx, cy, cz, cA, bX, bY, bZ, ca, cb, cc, cd, ce, cf, cg, ch, ci, cj, ck => if iU = true then (some false) else (if bu.toList = bX.toList then (if bv = bY then (if bw = bZ then (if bx = ca then (if bA = cb then (if bB = cc then (if bC = cd then (if bD = ce then (if bE.toList = cf.toList then (if bF.toList = cg.toList then (if bG = ci then (roadbookref07_Same.j1 k (bH.toList != cj.toList) bI bJ bK bL bM bN bO bP bQ bR bS bu bv bw bx bA bB bC bD bE bF bs bG bH bt cp cq cr ct cu cv cw cx cy cz cA bX bY bZ ca cb cc cd ce cf cg ch ci cj ck) else (roadbookref07_Same.j1 k true bI bJ bK bL bM bN bO bP bQ bR bS bu bv bw bx bA bB bC bD bE bF bs bG bH bt cp cq cr ct cu cv cw cx cy cz cA bX bY bZ ca cb cc cd ce cf cg ch ci cj ck)) else (roadbookref07_Same.j1 k true bI bJ bK bL bM bN bO bP bQ bR bS bu bv bw bx bA bB bC bD bE bF bs bG bH bt cp cq cr ct cu cv cw cx cy cz cA bX bY bZ ca cb cc cd ce cf cg ch ci cj ck)) else (roadbookref07_Same.j1 k true bI bJ bK bL bM bN bO bP bQ bR bS bu bv bw bx bA bB bC bD bE bF bs bG bH bt cp cq cr ct cu cv cw cx cy cz cA bX bY bZ ca cb cc cd ce cf cg ch ci cj ck)) else (roadbookref07_Same.j1 k true bI bJ bK bL bM bN bO bP bQ bR bS bu bv bw bx bA bB bC bD bE bF bs bG bH bt cp cq cr ct cu cv cw cx cy cz cA bX bY bZ ca cb cc cd ce cf cg ch ci cj ck)) else (roadbookref07_Same.j1 k true bI bJ bK bL bM bN bO bP bQ bR bS bu bv bw bx bA bB bC bD bE bF bs bG bH bt cp cq cr ct cu cv cw cx cy cz cA bX bY bZ ca cb cc cd ce cf cg ch ci cj ck)) else (roadbookref07_Same.j1 k true bI bJ bK bL bM bN bO bP bQ bR bS bu bv bw bx bA bB bC bD bE bF bs bG bH bt cp cq cr ct cu cv cw cx cy cz cA bX bY bZ ca cb cc cd ce cf cg ch ci cj ck)) else (roadbookref07_Same.j1 k true bI bJ bK bL bM bN bO bP bQ bR bS bu bv bw bx bA bB bC bD bE bF bs bG bH bt cp cq cr ct cu cv cw cx cy cz cA bX bY bZ ca cb cc cd ce cf cg ch ci cj ck)) else (roadbookref07_Same.j1 k true bI bJ bK bL bM bN bO bP bQ bR bS bu bv bw bx bA bB bC bD bE bF bs bG bH bt cp cq cr ct cu cv cw cx cy cz cA bX bY bZ ca cb cc cd ce cf cg ch ci cj ck)) else (roadbookref07_Same.j1 k true bI bJ bK bL bM bN bO bP bQ bR bS bu bv bw bx bA bB bC bD bE bF bs bG bH bt cp cq cr ct cu cv cw cx cy cz cA bX bY bZ ca cb cc cd ce cf cg ch ci cj ck)) else (roadbookref07_Same.j1 k true bI bJ bK bL bM bN bO bP bQ bR bS bu bv bw bx bA bB bC bD bE bF bs bG bH bt cp cq cr ct cu cv cw cx cy cz cA bX bY bZ ca cb cc cd ce cf cg ch ci cj ck)) else (roadbookref07_Same.j1 k true bI bJ bK bL bM bN bO bP bQ bR bS bu bv bw bx bA bB bC bD bE bF bs bG bH bt cp cq cr ct cu cv cw cx cy cz cA bX bY bZ ca cb cc cd ce cf cg ch ci cj ck))
def roadbookref07_Same.j1 : Nat → Bool → Int → Int → Int → ByteArray → Int → Int → ByteArray → Int → Int → ByteArray → Int → ByteArray → Int → Int → Int → Int → Int → Int → Int → ByteArray → ByteArray → List (S61) → Int → ByteArray → List (S63) → Int → Int → Int → ByteArray → Int → Int → ByteArray → Int → Int → ByteArray → Int → ByteArray → Int → Int → Int → Int → Int → Int → Int → ByteArray → ByteArray → List (S61) → Int → ByteArray → List (S63) → Option (Bool)
 | 0, _, _, _, _, _, _, _, _, _, _, _, _, _, _, _, _, _, _, _, _, _, _, _, _, _, _, _, _, _, _, _, _, _, _, _, _, _, _, _, _, _, _, _, _, _, _, _, _, _, _, _ => none
 | k + 1, ix, bI, bJ, bK, bL, bM, bN, bO, bP, bQ, bR, bS, bu, bv, bw, bx, bA, bB, bC, bD, bE, bF, bs, bG, bH, bt, cp, cq, cr, ct, cu, cv, cw, cx, cy, cz, cA, bX, bY, bZ, ca, cb, cc, cd, ce, cf, cg, ch, ci, cj, ck => if ix = true then (some false) else ((roadbookref07_dests.f k bs ch).bind fun cC => (if cC = true then ((roadbookref07_subs.f k bt ck).bind fun de => (some de)) else (some false)))
end
def roadbookref07_Same.f (k : Nat) (aG : Int) (aA : Int) (aB : Int) (az : ByteArray) (aC : Int) (av : Int) (ax : ByteArray) (aw : Int) (aD : Int) (ay : ByteArray) (ap : Int) (an : ByteArray) (ag : Int) (aq : Int) (ai : Int) (ah : Int) (ak : Int) (al : Int) (ao : Int) (aj : ByteArray) (am : ByteArray) (af : List (S61)) (ar : Int) (au : ByteArray) (ab : List (S63)) (bi : Int) (bj : Int) (bk : Int) (bl : ByteArray) (bm : Int) (bn : Int) (bo : ByteArray) (bp : Int) (bq : Int) (br : ByteArray) (bb : Int) (aQ : ByteArray) (aR : Int) (aS : Int) (aT : Int) (aU : Int) (aV : Int) (aW : Int) (aX : Int) (aY : ByteArray) (aZ : ByteArray) (aO : List (S61)) (ba : Int) (bc : ByteArray) (aP : List (S63)) : Option (Bool) := if aG = bi then (if aA = bj then (if aB = bk then (if az.toList = bl.toList then (if aC = bm then (if av = bn then (if ax.toList = bo.toList then (if aw = bp then (if aD = bq then (if ay.toList = br.toList then (roadbookref07_Same.j0 k (ap != bb) aG aA aB az aC av ax aw aD ay ap an ag aq ai ah ak al ao aj am af ar au ab bi bj bk bl bm bn bo bp bq br bb aQ aR aS aT aU aV aW aX aY aZ aO ba bc aP) else (roadbookref07_Same.j0 k true aG aA aB az aC av ax aw aD ay ap an ag aq ai ah ak al ao aj am af ar au ab bi bj bk bl bm bn bo bp bq br bb aQ aR aS aT aU aV aW aX aY aZ aO ba bc aP)) else (roadbookref07_Same.j0 k true aG aA aB az aC av ax aw aD ay ap an ag aq ai ah ak al ao aj am af ar au ab bi bj bk bl bm bn bo bp bq br bb aQ aR aS aT aU aV aW aX aY aZ aO ba bc aP)) else (roadbookref07_Same.j0 k true aG aA aB az aC av ax aw aD ay ap an ag aq ai ah ak al ao aj am af ar au ab bi bj bk bl bm bn bo bp bq br bb aQ aR aS aT aU aV aW aX aY aZ aO ba bc aP)) else (roadbookref07_Same.j0 k true aG aA aB az aC av ax aw aD ay ap an ag aq ai ah ak al ao aj am af ar au ab bi bj bk bl bm bn bo bp bq br bb aQ aR aS aT aU aV aW aX aY aZ aO ba bc aP)) else (roadbookref07_Same.j0 k true aG aA aB az aC av ax aw aD ay ap an ag aq ai ah ak al ao aj am af ar au ab bi bj bk bl bm bn bo bp bq br bb aQ aR aS aT aU aV aW aX aY aZ aO ba bc aP)) else (roadbookref07_Same.j0 k true aG aA aB az aC av ax aw aD ay ap an ag aq ai ah ak al ao aj am af ar au ab bi bj bk bl bm bn bo bp bq br bb aQ aR aS aT aU aV aW aX aY aZ aO ba bc aP)) else (roadbookref07_Same.j0 k true aG aA aB az aC av ax aw aD ay ap an ag aq ai ah ak al ao aj am af ar au ab bi bj bk bl bm bn bo bp bq br bb aQ aR aS aT aU aV aW aX aY aZ aO ba bc aP)) else (roadbookref07_Same.j0 k true aG aA aB az aC av ax aw aD ay ap an ag aq ai ah ak al ao aj am af ar au ab bi bj bk bl bm bn bo bp bq br bb aQ aR aS aT aU aV aW aX aY aZ aO ba bc aP)) else (roadbookref07_Same.j0 k true aG aA aB az aC av ax aw aD ay ap an ag aq ai ah ak al ao aj am af ar au ab bi bj bk bl bm bn bo bp bq br bb aQ aR aS aT aU aV aW aX aY aZ aO ba bc aP)) else (roadbookref07_Same.j0 k true aG aA aB az aC av ax aw aD ay ap an ag aq ai ah ak al ao aj am af ar au ab bi bj bk bl bm bn bo bp bq br bb aQ aR aS aT aU aV aW aX aY aZ aO ba bc aP)
theorem roadbookref07_Same.mono_l : ∀ k, (∀ y0 y1 y2 y3 y4 y5 y6 y7 y8 y9 eg eh ei ek el em en eo ep er es et eu eW eX eY gO gP gQ gR gS gT gU gV gW gX gY gZ ha he hf hh hj hl hm hn ho hs ht hu hv, LeO (roadbookref07_Same.j0 k y0 y1 y2 y3 y4 y5 y6 y7 y8 y9 eg eh ei ek el em en eo ep er es et eu eW eX eY gO gP gQ gR gS gT gU gV gW gX gY gZ ha he hf hh hj hl hm hn ho hs ht hu hv) (roadbookref07_Same.j0 (k + 1) y0 y1 y2 y3 y4 y5 y6 y7 y8 y9 eg eh ei ek el em en eo ep er es et eu eW eX eY gO gP gQ gR gS gT gU gV gW gX gY gZ ha he hf hh hj hl hm hn ho hs ht hu hv)) ∧ (∀ y0 y1 y2 y3 y4 y5 y6 y7 y8 y9 eg eh ei ek el em en eo ep er es et eu eW eX eY gO gP gQ gR gS gT gU gV gW gX gY gZ ha he hf hh hj hl hm hn ho hs ht hu hv, LeO (roadbookref07_Same.j1 k y0 y1 y2 y3 y4 y5 y6 y7 y8 y9 eg eh ei ek el em en eo ep er es et eu eW eX eY gO gP gQ gR gS gT gU gV gW gX gY gZ ha he hf hh hj hl hm hn ho hs ht hu hv) (roadbookref07_Same.j1 (k + 1) y0 y1 y2 y3 y4 y5 y6 y7 y8 y9 eg eh ei ek el em en eo ep er es et eu eW eX eY gO gP gQ gR gS gT gU gV gW gX gY gZ ha he hf hh hj hl hm hn ho hs ht hu hv))
 | 0 => ⟨fun _ _ _ _ _ _ _ _ _ _ _ _ _ _ _ _ _ _ _ _ _ _ _ _ _ _ _ _ _ _ _ _ _ _ _ _ _ _ _ _ _ _ _ _ _ _ _ _ _ _ _ r h => by simp [roadbookref07_Same.j0] at h, fun _ _ _ _ _ _ _ _ _ _ _ _ _ _ _ _ _ _ _ _ _ _ _ _ _ _ _ _ _ _ _ _ _ _ _ _ _ _ _ _ _ _ _ _ _ _ _ _ _ _ _ r h => by simp [roadbookref07_Same.j1] at h⟩
 | k + 1 => by
  obtain ⟨ih0, ih1⟩ := roadbookref07_Same.mono_l k
  refine ⟨?_, ?_⟩
  ·intro y0 y1 y2 y3 y4 y5 y6 y7 y8 y9 eg eh ei ek el em en eo ep er es et eu eW eX eY gO gP gQ gR gS gT gU gV gW gX gY gZ ha he hf hh hj hl hm hn ho hs ht hu hv
   unfold roadbookref07_Same.j0
   repeat' first
   | (with_reducible exact ih0 ..)
   | (with_reducible exact ih1 ..)
   | (with_reducible exact roadbookref07_dests.mono _ _ _)
   | (with_reducible exact roadbookref07_subs.mono _ _ _)
   | (with_reducible exact LeO.refl _)
   | (with_reducible exact LeO.none _)
   | (with_reducible refine LeO.ite ?_ ?_)
   | (with_reducible refine LeO.bind ?_ (fun _ => ?_))
   | exact ih0 ..
   | exact ih1 ..
   | exact roadbookref07_dests.mono _ _ _
   | exact roadbookref07_subs.mono _ _ _
   | exact LeO.none _
   | refine LeO.ite ?_ ?_
   | refine LeO.bind ?_ (fun _ => ?_)
  ·intro y0 y1 y2 y3 y4 y5 y6 y7 y8 y9 eg eh ei ek el em en eo ep er es et eu eW eX eY gO gP gQ gR gS gT gU gV gW gX gY gZ ha he hf hh hj hl hm hn ho hs ht hu hv
   unfold roadbookref07_Same.j1
   repeat' first
   | (with_reducible exact ih0 ..)
   | (with_reducible exact ih1 ..)
   | (with_reducible exact roadbookref07_dests.mono _ _ _)
   | (with_reducible exact roadbookref07_subs.mono _ _ _)
   | (with_reducible exact LeO.refl _)
   | (with_reducible exact LeO.none _)
   | (with_reducible refine LeO.ite ?_ ?_)
   | (with_reducible refine LeO.bind ?_ (fun _ => ?_))
   | exact ih0 ..
   | exact ih1 ..
   | exact roadbookref07_dests.mono _ _ _
   | exact roadbookref07_subs.mono _ _ _
   | exact LeO.none _
   | refine LeO.ite ?_ ?_
   | refine LeO.bind ?_ (fun _ => ?_)
theorem roadbookref07_Same.mono : ∀ a0 a1 a2 a3 a4 a5 a6 a7 a8 a9 fv fw fx fy fz fA fB fC fD fE fF fG fH fI fJ gg gh gi gj gl gn gp gq gr gs gu gv gw gy gz gA gB gC gD gE gF gG gH gI gJ k, LeO (roadbookref07_Same.f k a0 a1 a2 a3 a4 a5 a6 a7 a8 a9 fv fw fx fy fz fA fB fC fD fE fF fG fH fI fJ gg gh gi gj gl gn gp gq gr gs gu gv gw gy gz gA gB gC gD gE gF gG gH gI gJ) (roadbookref07_Same.f (k + 1) a0 a1 a2 a3 a4 a5 a6 a7 a8 a9 fv fw fx fy fz fA fB fC fD fE fF fG fH fI fJ gg gh gi gj gl gn gp gq gr gs gu gv gw gy gz gA gB gC gD gE gF gG gH gI gJ) := by
 intro a0 a1 a2 a3 a4 a5 a6 a7 a8 a9 fv fw fx fy fz fA fB fC fD fE fF fG fH fI fJ gg gh gi gj gl gn gp gq gr gs gu gv gw gy gz gA gB gC gD gE gF gG gH gI gJ k
 obtain ⟨ih0, ih1⟩ := roadbookref07_Same.mono_l k
 unfold roadbookref07_Same.f
 repeat' first
   | (with_reducible exact ih0 ..)
   | (with_reducible exact ih1 ..)
   | (with_reducible exact roadbookref07_dests.mono _ _ _)
   | (with_reducible exact roadbookref07_subs.mono _ _ _)
   | (with_reducible exact LeO.refl _)
   | (with_reducible exact LeO.none _)
   | (with_reducible refine LeO.ite ?_ ?_)
   | (with_reducible refine LeO.bind ?_ (fun _ => ?_))
   | exact ih0 ..
   | exact ih1 ..
   | exact roadbookref07_dests.mono _ _ _
   | exact roadbookref07_subs.mono _ _ _
   | exact LeO.none _
   | refine LeO.ite ?_ ?_
   | refine LeO.bind ?_ (fun _ => ?_)
section
variable {ρ_ : Operand → Value} {x_ y_ : Operand} {w_ : World} {d_ : Option Tmp} {t_ t2_ : TypeId} {p_ : String} {g_ : Option (Nat × Bool)} {af_ : Array Edge} {gb_ f_ : Nat}
theorem roadbookref07_Same.fa0 (h : ρ_ x_ = .pointer (some ⟨gb_, 0, none⟩)) : (execOp ρ_ { dst := d_, op := .fieldAddr 58 x_ 0, type := t_, pos := p_, after := af_, guard := g_ }).run Try.prog w_ = .ok (.value (.pointer (some ⟨gb_, 0, none⟩))) w_ := by
 have hu_ := Try.underlying58
 simp only [execOp, h]
 go_simp
theorem roadbookref07_Same.fa1 (h : ρ_ x_ = .pointer (some ⟨gb_, 0, none⟩)) : (execOp ρ_ { dst := d_, op := .fieldAddr 58 x_ 1, type := t_, pos := p_, after := af_, guard := g_ }).run Try.prog w_ = .ok (.value (.pointer (some ⟨gb_, 1, none⟩))) w_ := by
 have hu_ := Try.underlying58
 simp only [execOp, h]
 go_simp
theorem roadbookref07_Same.fa2 (h : ρ_ x_ = .pointer (some ⟨gb_, 0, none⟩)) : (execOp ρ_ { dst := d_, op := .fieldAddr 58 x_ 2, type := t_, pos := p_, after := af_, guard := g_ }).run Try.prog w_ = .ok (.value (.pointer (some ⟨gb_, 2, none⟩))) w_ := by
 have hu_ := Try.underlying58
 simp only [execOp, h]
 go_simp
theorem roadbookref07_Same.fa3 (h : ρ_ x_ = .pointer (some ⟨gb_, 0, none⟩)) : (execOp ρ_ { dst := d_, op := .fieldAddr 58 x_ 3, type := t_, pos := p_, after := af_, guard := g_ }).run Try.prog w_ = .ok (.value (.pointer (some ⟨gb_, 3, none⟩))) w_ := by
 have hu_ := Try.underlying58
 simp only [execOp, h]
 go_simp
theorem roadbookref07_Same.fa4 (h : ρ_ x_ = .pointer (some ⟨gb_, 0, none⟩)) : (execOp ρ_ { dst := d_, op := .fieldAddr 58 x_ 4, type := t_, pos := p_, after := af_, guard := g_ }).run Try.prog w_ = .ok (.value (.pointer (some ⟨gb_, 4, none⟩))) w_ := by
 have hu_ := Try.underlying58
 simp only [execOp, h]
 go_simp
theorem roadbookref07_Same.fa5 (h : ρ_ x_ = .pointer (some ⟨gb_, 0, none⟩)) : (execOp ρ_ { dst := d_, op := .fieldAddr 58 x_ 5, type := t_, pos := p_, after := af_, guard := g_ }).run Try.prog w_ = .ok (.value (.pointer (some ⟨gb_, 5, none⟩))) w_ := by
 have hu_ := Try.underlying58
 simp only [execOp, h]
 go_simp
theorem roadbookref07_Same.fa6 (h : ρ_ x_ = .pointer (some ⟨gb_, 0, none⟩)) : (execOp ρ_ { dst := d_, op := .fieldAddr 58 x_ 6, type := t_, pos := p_, after := af_, guard := g_ }).run Try.prog w_ = .ok (.value (.pointer (some ⟨gb_, 6, none⟩))) w_ := by
 have hu_ := Try.underlying58
 simp only [execOp, h]
 go_simp
theorem roadbookref07_Same.fa7 (h : ρ_ x_ = .pointer (some ⟨gb_, 0, none⟩)) : (execOp ρ_ { dst := d_, op := .fieldAddr 58 x_ 7, type := t_, pos := p_, after := af_, guard := g_ }).run Try.prog w_ = .ok (.value (.pointer (some ⟨gb_, 7, none⟩))) w_ := by
 have hu_ := Try.underlying58
 simp only [execOp, h]
 go_simp
theorem roadbookref07_Same.fa8 (h : ρ_ x_ = .pointer (some ⟨gb_, 0, none⟩)) : (execOp ρ_ { dst := d_, op := .fieldAddr 58 x_ 8, type := t_, pos := p_, after := af_, guard := g_ }).run Try.prog w_ = .ok (.value (.pointer (some ⟨gb_, 8, none⟩))) w_ := by
 have hu_ := Try.underlying58
 simp only [execOp, h]
 go_simp
theorem roadbookref07_Same.fa9 (h : ρ_ x_ = .pointer (some ⟨gb_, 0, none⟩)) : (execOp ρ_ { dst := d_, op := .fieldAddr 58 x_ 9, type := t_, pos := p_, after := af_, guard := g_ }).run Try.prog w_ = .ok (.value (.pointer (some ⟨gb_, 9, none⟩))) w_ := by
 have hu_ := Try.underlying58
 simp only [execOp, h]
 go_simp
theorem roadbookref07_Same.fa10 (h : ρ_ x_ = .pointer (some ⟨gb_, 0, none⟩)) : (execOp ρ_ { dst := d_, op := .fieldAddr 58 x_ 10, type := t_, pos := p_, after := af_, guard := g_ }).run Try.prog w_ = .ok (.value (.pointer (some ⟨gb_, 10, none⟩))) w_ := by
 have hu_ := Try.underlying58
 simp only [execOp, h]
 go_simp
theorem roadbookref07_Same.fa11 (h : ρ_ x_ = .pointer (some ⟨gb_, 0, none⟩)) : (execOp ρ_ { dst := d_, op := .fieldAddr 58 x_ 11, type := t_, pos := p_, after := af_, guard := g_ }).run Try.prog w_ = .ok (.value (.pointer (some ⟨gb_, 11, none⟩))) w_ := by
 have hu_ := Try.underlying58
 simp only [execOp, h]
 go_simp
theorem roadbookref07_Same.fa12 (h : ρ_ x_ = .pointer (some ⟨gb_, 0, none⟩)) : (execOp ρ_ { dst := d_, op := .fieldAddr 58 x_ 12, type := t_, pos := p_, after := af_, guard := g_ }).run Try.prog w_ = .ok (.value (.pointer (some ⟨gb_, 12, none⟩))) w_ := by
 have hu_ := Try.underlying58
 simp only [execOp, h]
 go_simp
theorem roadbookref07_Same.fa13 (h : ρ_ x_ = .pointer (some ⟨gb_, 0, none⟩)) : (execOp ρ_ { dst := d_, op := .fieldAddr 58 x_ 13, type := t_, pos := p_, after := af_, guard := g_ }).run Try.prog w_ = .ok (.value (.pointer (some ⟨gb_, 13, none⟩))) w_ := by
 have hu_ := Try.underlying58
 simp only [execOp, h]
 go_simp
theorem roadbookref07_Same.fa14 (h : ρ_ x_ = .pointer (some ⟨gb_, 0, none⟩)) : (execOp ρ_ { dst := d_, op := .fieldAddr 58 x_ 14, type := t_, pos := p_, after := af_, guard := g_ }).run Try.prog w_ = .ok (.value (.pointer (some ⟨gb_, 14, none⟩))) w_ := by
 have hu_ := Try.underlying58
 simp only [execOp, h]
 go_simp
theorem roadbookref07_Same.fa15 (h : ρ_ x_ = .pointer (some ⟨gb_, 0, none⟩)) : (execOp ρ_ { dst := d_, op := .fieldAddr 58 x_ 15, type := t_, pos := p_, after := af_, guard := g_ }).run Try.prog w_ = .ok (.value (.pointer (some ⟨gb_, 15, none⟩))) w_ := by
 have hu_ := Try.underlying58
 simp only [execOp, h]
 go_simp
theorem roadbookref07_Same.fa16 (h : ρ_ x_ = .pointer (some ⟨gb_, 0, none⟩)) : (execOp ρ_ { dst := d_, op := .fieldAddr 58 x_ 16, type := t_, pos := p_, after := af_, guard := g_ }).run Try.prog w_ = .ok (.value (.pointer (some ⟨gb_, 16, none⟩))) w_ := by
 have hu_ := Try.underlying58
 simp only [execOp, h]
 go_simp
theorem roadbookref07_Same.fa17 (h : ρ_ x_ = .pointer (some ⟨gb_, 0, none⟩)) : (execOp ρ_ { dst := d_, op := .fieldAddr 58 x_ 17, type := t_, pos := p_, after := af_, guard := g_ }).run Try.prog w_ = .ok (.value (.pointer (some ⟨gb_, 17, none⟩))) w_ := by
 have hu_ := Try.underlying58
 simp only [execOp, h]
 go_simp
theorem roadbookref07_Same.fa18 (h : ρ_ x_ = .pointer (some ⟨gb_, 0, none⟩)) : (execOp ρ_ { dst := d_, op := .fieldAddr 58 x_ 18, type := t_, pos := p_, after := af_, guard := g_ }).run Try.prog w_ = .ok (.value (.pointer (some ⟨gb_, 18, none⟩))) w_ := by
 have hu_ := Try.underlying58
 simp only [execOp, h]
 go_simp
theorem roadbookref07_Same.fa19 (h : ρ_ x_ = .pointer (some ⟨gb_, 0, none⟩)) : (execOp ρ_ { dst := d_, op := .fieldAddr 58 x_ 19, type := t_, pos := p_, after := af_, guard := g_ }).run Try.prog w_ = .ok (.value (.pointer (some ⟨gb_, 19, none⟩))) w_ := by
 have hu_ := Try.underlying58
 simp only [execOp, h]
 go_simp
theorem roadbookref07_Same.fa20 (h : ρ_ x_ = .pointer (some ⟨gb_, 0, none⟩)) : (execOp ρ_ { dst := d_, op := .fieldAddr 58 x_ 20, type := t_, pos := p_, after := af_, guard := g_ }).run Try.prog w_ = .ok (.value (.pointer (some ⟨gb_, 20, none⟩))) w_ := by
 have hu_ := Try.underlying58
 simp only [execOp, h]
 go_simp
theorem roadbookref07_Same.fa22 (h : ρ_ x_ = .pointer (some ⟨gb_, 0, none⟩)) : (execOp ρ_ { dst := d_, op := .fieldAddr 58 x_ 22, type := t_, pos := p_, after := af_, guard := g_ }).run Try.prog w_ = .ok (.value (.pointer (some ⟨gb_, 22, none⟩))) w_ := by
 have hu_ := Try.underlying58
 simp only [execOp, h]
 go_simp
theorem roadbookref07_Same.fa23 (h : ρ_ x_ = .pointer (some ⟨gb_, 0, none⟩)) : (execOp ρ_ { dst := d_, op := .fieldAddr 58 x_ 23, type := t_, pos := p_, after := af_, guard := g_ }).run Try.prog w_ = .ok (.value (.pointer (some ⟨gb_, 23, none⟩))) w_ := by
 have hu_ := Try.underlying58
 simp only [execOp, h]
 go_simp
theorem roadbookref07_Same.ldi {v_ : Value} (h : ρ_ x_ = .pointer (some ⟨gb_, f_, none⟩)) (hc : w_.cell? ⟨gb_, f_, none⟩ = some v_) : (execOp ρ_ { dst := d_, op := .load 3 x_, type := t_, pos := p_, after := af_, guard := g_ }).run Try.prog w_ = .ok (.value v_) w_ := by
 simp only [execOp, h]
 go_simp
theorem roadbookref07_Same.lds {v_ : Value} (h : ρ_ x_ = .pointer (some ⟨gb_, f_, none⟩)) (hc : w_.cell? ⟨gb_, f_, none⟩ = some v_) : (execOp ρ_ { dst := d_, op := .load 9 x_, type := t_, pos := p_, after := af_, guard := g_ }).run Try.prog w_ = .ok (.value v_) w_ := by
 simp only [execOp, h]
 go_simp
theorem roadbookref07_Same.nei {m_ n_ : Int} (hx : ρ_ x_ = .int .i64 m_) (hy : ρ_ y_ = .int .i64 n_) : (execOp ρ_ { dst := d_, op := .binOp .neq 3 x_ y_ t2_, type := t_, pos := p_, after := af_, guard := g_ }).run Try.prog w_ = .ok (.value (.bool (m_ != n_))) w_ := by
 simp only [execOp, hx, hy]
 go_simp
theorem roadbookref07_Same.nes {m_ n_ : ByteArray} (hx : ρ_ x_ = .string m_) (hy : ρ_ y_ = .string n_) : (execOp ρ_ { dst := d_, op := .binOp .neq 9 x_ y_ t2_, type := t_, pos := p_, after := af_, guard := g_ }).run Try.prog w_ = .ok (.value (.bool (m_.toList != n_.toList))) w_ := by
 simp only [execOp, hx, hy]
 go_simp
 simp only [bne, Bool.not_not]
end
set_option maxHeartbeats 8000000 in
set_option maxRecDepth 100000 in
theorem roadbookref07_Same.calls (k : Nat) (aG : Int) (aA : Int) (aB : Int) (az : ByteArray) (aC : Int) (av : Int) (ax : ByteArray) (aw : Int) (aD : Int) (ay : ByteArray) (ap : Int) (an : ByteArray) (ag : Int) (aq : Int) (ai : Int) (ah : Int) (ak : Int) (al : Int) (ao : Int) (aj : ByteArray) (am : ByteArray) (bf : Option Addr) (bg : Nat) (af : List (S61)) (ar : Int) (au : ByteArray) (aI : Option Addr) (aJ : Nat) (ab : List (S63)) (bi : Int) (bj : Int) (bk : Int) (bl : ByteArray) (bm : Int) (bn : Int) (bo : ByteArray) (bp : Int) (bq : Int) (br : ByteArray) (bb : Int) (aQ : ByteArray) (aR : Int) (aS : Int) (aT : Int) (aU : Int) (aV : Int) (aW : Int) (aX : Int) (aY : ByteArray) (aZ : ByteArray) (cD : Option Addr) (cE : Nat) (aO : List (S61)) (ba : Int) (bc : ByteArray) (cH : Option Addr) (cI : Nat) (aP : List (S63)) (r : Bool) (w : World) (cl : Kd.C k61 w bf af.length af) (cm : af.length ≤ bg) (cn : Kd.C k63 w aI ab.length ab) (co : ab.length ≤ aJ) (dE : Kd.C k61 w cD aO.length aO) (dF : aO.length ≤ cE) (dG : Kd.C k63 w cH aP.length aP) (dH : aP.length ≤ cI) (h : roadbookref07_Same.f k aG aA aB az aC av ax aw aD ay ap an ag aq ai ah ak al ao aj am af ar au ab bi bj bk bl bm bn bo bp bq br bb aQ aR aS aT aU aV aW aX aY aZ aO ba bc aP = some r) :
  Calls Try.prog 47 #[.agg #[.int .i64 aG, .int .i64 aA, .int .i64 aB, .string az, .int .i64 aC, .int .i64 av, .string ax, .int .i64 aw, .int .i64 aD, .string ay, .int .i64 ap, .string an, .int .i64 ag, .int .i64 aq, .int .i64 ai, .int .i64 ah, .int .i64 ak, .int .i64 al, .int .i64 ao, .string aj, .string am, .slice bf af.length bg, .int .i64 ar, .string au, .slice aI ab.length aJ], .agg #[.int .i64 bi, .int .i64 bj, .int .i64 bk, .string bl, .int .i64 bm, .int .i64 bn, .string bo, .int .i64 bp, .int .i64 bq, .string br, .int .i64 bb, .string aQ, .int .i64 aR, .int .i64 aS, .int .i64 aT, .int .i64 aU, .int .i64 aV, .int .i64 aW, .int .i64 aX, .string aY, .string aZ, .slice cD aO.length cE, .int .i64 ba, .string bc, .slice cH aP.length cI]] w fun e w' => e = .returned (.bool r) ∧ Below w.heap.size w w' := by
 have fp := Try.underlying58
 have da := Aside0.mk cl
 have cF := Aside0.mk cm
 clear cl cm
 have bW := Aside0.mk cn
 have bU := Aside0.mk co
 clear cn co
 have fK := Aside0.mk dE
 have dg := Aside0.mk dF
 clear dE dF
 have fd := Aside0.mk dG
 have dz := Aside0.mk dH
 clear dG dH
 have HB := Aside0.mk (Below.refl w.heap.size w)
 have H : (if aG = bi then (if aA = bj then (if aB = bk then (if az.toList = bl.toList then (if aC = bm then (if av = bn then (if ax.toList = bo.toList then (if aw = bp then (if aD = bq then (if ay.toList = br.toList then (roadbookref07_Same.j0 k (ap != bb) aG aA aB az aC av ax aw aD ay ap an ag aq ai ah ak al ao aj am af ar au ab bi bj bk bl bm bn bo bp bq br bb aQ aR aS aT aU aV aW aX aY aZ aO ba bc aP) else (roadbookref07_Same.j0 k true aG aA aB az aC av ax aw aD ay ap an ag aq ai ah ak al ao aj am af ar au ab bi bj bk bl bm bn bo bp bq br bb aQ aR aS aT aU aV aW aX aY aZ aO ba bc aP)) else (roadbookref07_Same.j0 k true aG aA aB az aC av ax aw aD ay ap an ag aq ai ah ak al ao aj am af ar au ab bi bj bk bl bm bn bo bp bq br bb aQ aR aS aT aU aV aW aX aY aZ aO ba bc aP)) else (roadbookref07_Same.j0 k true aG aA aB az aC av ax aw aD ay ap an ag aq ai ah ak al ao aj am af ar au ab bi bj bk bl bm bn bo bp bq br bb aQ aR aS aT aU aV aW aX aY aZ aO ba bc aP)) else (roadbookref07_Same.j0 k true aG aA aB az aC av ax aw aD ay ap an ag aq ai ah ak al ao aj am af ar au ab bi bj bk bl bm bn bo bp bq br bb aQ aR aS aT aU aV aW aX aY aZ aO ba bc aP)) else (roadbookref07_Same.j0 k true aG aA aB az aC av ax aw aD ay ap an ag aq ai ah ak al ao aj am af ar au ab bi bj bk bl bm bn bo bp bq br bb aQ aR aS aT aU aV aW aX aY aZ aO ba bc aP)) else (roadbookref07_Same.j0 k true aG aA aB az aC av ax aw aD ay ap an ag aq ai ah ak al ao aj am af ar au ab bi bj bk bl bm bn bo bp bq br bb aQ aR aS aT aU aV aW aX aY aZ aO ba bc aP)) else (roadbookref07_Same.j0 k true aG aA aB az aC av ax aw aD ay ap an ag aq ai ah ak al ao aj am af ar au ab bi bj bk bl bm bn bo bp bq br bb aQ aR aS aT aU aV aW aX aY aZ aO ba bc aP)) else (roadbookref07_Same.j0 k true aG aA aB az aC av ax aw aD ay ap an ag aq ai ah ak al ao aj am af ar au ab bi bj bk bl bm bn bo bp bq br bb aQ aR aS aT aU aV aW aX aY aZ aO ba bc aP)) else (roadbookref07_Same.j0 k true aG aA aB az aC av ax aw aD ay ap an ag aq ai ah ak al ao aj am af ar au ab bi bj bk bl bm bn bo bp bq br bb aQ aR aS aT aU aV aW aX aY aZ aO ba bc aP)) else (roadbookref07_Same.j0 k true aG aA aB az aC av ax aw aD ay ap an ag aq ai ah ak al ao aj am af ar au ab bi bj bk bl bm bn bo bp bq br bb aQ aR aS aT aU aV aW aX aY aZ aO ba bc aP)) = some r := h
 clear h
 have cB := Aside0.mk H
 clear H
 go_enter Try.func47, Try.ntmps47
 go_upto_region 1 with (first | ((with_reducible refine gate_dst (N := 2) rfl ?_); refine box_event ?hg (N := 2) ?hd (cs := #[.int .i64 aG, .int .i64 aA, .int .i64 aB, .string az, .int .i64 aC, .int .i64 av, .string ax, .int .i64 aw, .int .i64 aD, .string ay, .int .i64 ap, .string an, .int .i64 ag, .int .i64 aq, .int .i64 ai, .int .i64 ah, .int .i64 ak, .int .i64 al, .int .i64 ao, .string aj, .string am, .slice bf af.length bg, .int .i64 ar, .string au, .slice aI ab.length aJ]) (t := 58) ?hr ?_; (case hd => rfl); (case hg => rfl); (case hr => first | (go_simp; done) | (go_simp; rfl)); intro aF hg w4 hbox hb; have aH := Aside0.mk (below_step Z0 hb); have aK := Aside0.mk (hbox); have aL := Aside0.mk ((by rw [hg]; exact (below_size Z0) : w.heap.size ≤ aF)); have cQ := Aside0.mk ((by rw [hg]; exact (below_size Z0) : w.heap.size ≤ aF)); replace HB := aH; have ae := aK; have fb := aL; have ed := cQ; clear aH aK aL cQ; clear hb hbox hg) | ((with_reducible refine gate_dst (N := 3) rfl ?_); refine box_event ?hg (N := 3) ?hd (cs := #[.int .i64 bi, .int .i64 bj, .int .i64 bk, .string bl, .int .i64 bm, .int .i64 bn, .string bo, .int .i64 bp, .int .i64 bq, .string br, .int .i64 bb, .string aQ, .int .i64 aR, .int .i64 aS, .int .i64 aT, .int .i64 aU, .int .i64 aV, .int .i64 aW, .int .i64 aX, .string aY, .string aZ, .slice cD aO.length cE, .int .i64 ba, .string bc, .slice cH aP.length cI]) (t := 58) ?hr ?_; (case hd => rfl); (case hg => rfl); (case hr => first | (go_simp; done) | (go_simp; rfl)); intro aE hg w5 hbox hb; have aH := Aside0.mk (blk_below (g := aF) Z3 hb); have aK := Aside0.mk (below_step Z1 hb); have aL := Aside0.mk (hbox); have cQ := Aside0.mk ((by rw [hg]; exact (below_size Z1) : w.heap.size ≤ aE)); have fe := Aside0.mk ((by rw [hg]; exact (below_size Z1) : w.heap.size ≤ aE)); have ff := Aside0.mk ((by rw [hg]; exact Nat.ne_of_lt (blk_lt (g := aF) Z3) : aF ≠ aE)); have fg := Aside0.mk ((by rw [hg]; exact Nat.ne_of_gt (blk_lt (g := aF) Z3) : aE ≠ aF)); replace ae := aH; replace HB := aK; have ac := aL; have dl := cQ; have dd := fe; have cG := ff; have cJ := fg; clear aH aK aL cQ fe ff fg; clear hb hbox hg))
 (try simp only [Act.put, List.setIfInBounds_toArray, List.set_cons_zero, List.set_cons_succ])
 go_cut [79] (fun iV wc => ∃ (kq : Nat) (fn : Bool), iV = .bool fn ∧ Aside0 (roadbookref07_Same.j0 kq fn aG aA aB az aC av ax aw aD ay ap an ag aq ai ah ak al ao aj am af ar au ab bi bj bk bl bm bn bo bp bq br bb aQ aR aS aT aU aV aW aX aY aZ aO ba bc aP = some r) ∧ Aside0 (kq ≤ k) ∧ Aside0 (wc.heap[aF]? = some (.cells #[.int .i64 aG, .int .i64 aA, .int .i64 aB, .string az, .int .i64 aC, .int .i64 av, .string ax, .int .i64 aw, .int .i64 aD, .string ay, .int .i64 ap, .string an, .int .i64 ag, .int .i64 aq, .int .i64 ai, .int .i64 ah, .int .i64 ak, .int .i64 al, .int .i64 ao, .string aj, .string am, (.slice bf af.length bg), .int .i64 ar, .string au, (.slice aI ab.length aJ)] 58 (0, 0))) ∧ Aside0 (wc.heap[aE]? = some (.cells #[.int .i64 bi, .int .i64 bj, .int .i64 bk, .string bl, .int .i64 bm, .int .i64 bn, .string bo, .int .i64 bp, .int .i64 bq, .string br, .int .i64 bb, .string aQ, .int .i64 aR, .int .i64 aS, .int .i64 aT, .int .i64 aU, .int .i64 aV, .int .i64 aW, .int .i64 aX, .string aY, .string aZ, (.slice cD aO.length cE), .int .i64 ba, .string bc, (.slice cH aP.length cI)] 58 (0, 0))) ∧ Aside0 (Below w.heap.size w wc))
 case first =>
  rename_i J_ K_ hJ_ hK_
  have HJ_ : roadbookref07_Same.j0 k (((((((((((aG != bi) || (aA != bj)) || (aB != bk)) || (az.toList != bl.toList)) || (aC != bm)) || (av != bn)) || (ax.toList != bo.toList)) || (aw != bp)) || (aD != bq)) || (ay.toList != br.toList)) || (ap != bb)) aG aA aB az aC av ax aw aD ay ap an ag aq ai ah ak al ao aj am af ar au ab bi bj bk bl bm bn bo bp bq br bb aQ aR aS aT aU aV aW aX aY aZ aO ba bc aP = some r := by
   have H := cB.out
   by_cases q0 : aG = bi
   ·rw [if_pos q0] at H
    have d0 : (aG != bi) = false := bne_eq_false_iff_eq.mpr q0
    by_cases q1 : aA = bj
    ·rw [if_pos q1] at H
     have d1 : (aA != bj) = false := bne_eq_false_iff_eq.mpr q1
     by_cases q2 : aB = bk
     ·rw [if_pos q2] at H
      have d2 : (aB != bk) = false := bne_eq_false_iff_eq.mpr q2
      by_cases q3 : az.toList = bl.toList
      ·rw [if_pos q3] at H
       have d3 : (az.toList != bl.toList) = false := bne_eq_false_iff_eq.mpr q3
       by_cases q4 : aC = bm
       ·rw [if_pos q4] at H
        have d4 : (aC != bm) = false := bne_eq_false_iff_eq.mpr q4
        by_cases q5 : av = bn
        ·rw [if_pos q5] at H
         have d5 : (av != bn) = false := bne_eq_false_iff_eq.mpr q5
         by_cases q6 : ax.toList = bo.toList
         ·rw [if_pos q6] at H
          have d6 : (ax.toList != bo.toList) = false := bne_eq_false_iff_eq.mpr q6
          by_cases q7 : aw = bp
          ·rw [if_pos q7] at H
           have d7 : (aw != bp) = false := bne_eq_false_iff_eq.mpr q7
           by_cases q8 : aD = bq
           ·rw [if_pos q8] at H
            have d8 : (aD != bq) = false := bne_eq_false_iff_eq.mpr q8
            by_cases q9 : ay.toList = br.toList
            ·rw [if_pos q9] at H
             have d9 : (ay.toList != br.toList) = false := bne_eq_false_iff_eq.mpr q9
             rw [d0, d1, d2, d3, d4, d5, d6, d7, d8, d9]; simp only [Bool.false_or]; exact H
            ·rw [if_neg q9] at H
             have d9 : (ay.toList != br.toList) = true := bne_iff_ne.mpr q9
             rw [d0, d1, d2, d3, d4, d5, d6, d7, d8, d9]; simp only [Bool.false_or, Bool.true_or, Bool.or_true]; exact H
           ·rw [if_neg q8] at H
            have d8 : (aD != bq) = true := bne_iff_ne.mpr q8
            rw [d0, d1, d2, d3, d4, d5, d6, d7, d8]; simp only [Bool.false_or, Bool.true_or, Bool.or_true]; exact H
          ·rw [if_neg q7] at H
           have d7 : (aw != bp) = true := bne_iff_ne.mpr q7
           rw [d0, d1, d2, d3, d4, d5, d6, d7]; simp only [Bool.false_or, Bool.true_or, Bool.or_true]; exact H
         ·rw [if_neg q6] at H
          have d6 : (ax.toList != bo.toList) = true := bne_iff_ne.mpr q6
          rw [d0, d1, d2, d3, d4, d5, d6]; simp only [Bool.false_or, Bool.true_or, Bool.or_true]; exact H
        ·rw [if_neg q5] at H
         have d5 : (av != bn) = true := bne_iff_ne.mpr q5
         rw [d0, d1, d2, d3, d4, d5]; simp only [Bool.false_or, Bool.true_or, Bool.or_true]; exact H
       ·rw [if_neg q4] at H
        have d4 : (aC != bm) = true := bne_iff_ne.mpr q4
        rw [d0, d1, d2, d3, d4]; simp only [Bool.false_or, Bool.true_or, Bool.or_true]; exact H
      ·rw [if_neg q3] at H
       have d3 : (az.toList != bl.toList) = true := bne_iff_ne.mpr q3
       rw [d0, d1, d2, d3]; simp only [Bool.false_or, Bool.true_or, Bool.or_true]; exact H
     ·rw [if_neg q2] at H
      have d2 : (aB != bk) = true := bne_iff_ne.mpr q2
      rw [d0, d1, d2]; simp only [Bool.false_or, Bool.true_or, Bool.or_true]; exact H
    ·rw [if_neg q1] at H
     have d1 : (aA != bj) = true := bne_iff_ne.mpr q1
     rw [d0, d1]; simp only [Bool.false_or, Bool.true_or, Bool.or_true]; exact H
   ·rw [if_neg q0] at H
    have d0 : (aG != bi) = true := bne_iff_ne.mpr q0
    rw [d0]; simp only [Bool.false_or, Bool.true_or, Bool.or_true]; exact H
  obtain ⟨hp0, hp1, hp2, hp3, hp4, hp5, hp6, hp7, hp8, hp9, hp10, -, -, -, -, -, -, -, -, -, -, -, -, -, -, -, -, -, -, -, -, -, -, -, -, -, -, -, -, -, -, -, -, -, -, -, -, -, -, -⟩ := cells_25 ae.out
  obtain ⟨hq0, hq1, hq2, hq3, hq4, hq5, hq6, hq7, hq8, hq9, hq10, -, -, -, -, -, -, -, -, -, -, -, -, -, -, -, -, -, -, -, -, -, -, -, -, -, -, -, -, -, -, -, -, -, -, -, -, -, -, -⟩ := cells_25 ac.out
  refine wp_region_lit ?_
  refine Pre.row_first (p := 2) (q := 3) (n := 5) (N := 174) (lo := 5) (A1 := .pointer (some ⟨aF, 0, none⟩)) (A2 := .pointer (some ⟨aE, 0, none⟩)) (B1 := .pointer (some ⟨aF, 0, none⟩)) (B2 := .pointer (some ⟨aE, 0, none⟩)) (X1 := .int .i64 aG) (X2 := .int .i64 bi) (e := aG != bi) rfl rfl Z15 rfl rfl Z15 Z15 Z15 (fun _ _ _ _ _ _ h_ => roadbookref07_Same.fa0 h_) (fun _ _ _ _ _ _ h_ => roadbookref07_Same.fa0 h_) (fun _ _ _ _ _ _ h_ => roadbookref07_Same.ldi h_ hp0) (fun _ _ _ _ _ _ h_ => roadbookref07_Same.ldi h_ hq0) (fun _ _ _ _ _ _ _ _ h_ h2_ => roadbookref07_Same.nei h_ h2_) ?_
  intro a0_ hst_
  refine Pre.row_next (n := 11) (A1 := .pointer (some ⟨aF, 0, none⟩)) (A2 := .pointer (some ⟨aE, 0, none⟩)) (B1 := .pointer (some ⟨aF, 1, none⟩)) (B2 := .pointer (some ⟨aE, 1, none⟩)) (X1 := .int .i64 aA) (X2 := .int .i64 bj) (e := aA != bj) rfl hst_ Z15 Z15 Z15 Z15 Z15 (fun _ _ _ _ _ _ h_ => roadbookref07_Same.fa1 h_) (fun _ _ _ _ _ _ h_ => roadbookref07_Same.fa1 h_) (fun _ _ _ _ _ _ h_ => roadbookref07_Same.ldi h_ hp1) (fun _ _ _ _ _ _ h_ => roadbookref07_Same.ldi h_ hq1) (fun _ _ _ _ _ _ _ _ h_ h2_ => roadbookref07_Same.nei h_ h2_) ?_
  intro a1_ hst_
  refine Pre.row_next (n := 18) (A1 := .pointer (some ⟨aF, 0, none⟩)) (A2 := .pointer (some ⟨aE, 0, none⟩)) (B1 := .pointer (some ⟨aF, 2, none⟩)) (B2 := .pointer (some ⟨aE, 2, none⟩)) (X1 := .int .i64 aB) (X2 := .int .i64 bk) (e := aB != bk) rfl hst_ Z15 Z15 Z15 Z15 Z15 (fun _ _ _ _ _ _ h_ => roadbookref07_Same.fa2 h_) (fun _ _ _ _ _ _ h_ => roadbookref07_Same.fa2 h_) (fun _ _ _ _ _ _ h_ => roadbookref07_Same.ldi h_ hp2) (fun _ _ _ _ _ _ h_ => roadbookref07_Same.ldi h_ hq2) (fun _ _ _ _ _ _ _ _ h_ h2_ => roadbookref07_Same.nei h_ h2_) ?_
  intro a2_ hst_
  refine Pre.row_next (n := 25) (A1 := .pointer (some ⟨aF, 0, none⟩)) (A2 := .pointer (some ⟨aE, 0, none⟩)) (B1 := .pointer (some ⟨aF, 3, none⟩)) (B2 := .pointer (some ⟨aE, 3, none⟩)) (X1 := .string az) (X2 := .string bl) (e := az.toList != bl.toList) rfl hst_ Z15 Z15 Z15 Z15 Z15 (fun _ _ _ _ _ _ h_ => roadbookref07_Same.fa3 h_) (fun _ _ _ _ _ _ h_ => roadbookref07_Same.fa3 h_) (fun _ _ _ _ _ _ h_ => roadbookref07_Same.lds h_ hp3) (fun _ _ _ _ _ _ h_ => roadbookref07_Same.lds h_ hq3) (fun _ _ _ _ _ _ _ _ h_ h2_ => roadbookref07_Same.nes h_ h2_) ?_
  intro a3_ hst_
  refine Pre.row_next (n := 32) (A1 := .pointer (some ⟨aF, 0, none⟩)) (A2 := .pointer (some ⟨aE, 0, none⟩)) (B1 := .pointer (some ⟨aF, 4, none⟩)) (B2 := .pointer (some ⟨aE, 4, none⟩)) (X1 := .int .i64 aC) (X2 := .int .i64 bm) (e := aC != bm) rfl hst_ Z15 Z15 Z15 Z15 Z15 (fun _ _ _ _ _ _ h_ => roadbookref07_Same.fa4 h_) (fun _ _ _ _ _ _ h_ => roadbookref07_Same.fa4 h_) (fun _ _ _ _ _ _ h_ => roadbookref07_Same.ldi h_ hp4) (fun _ _ _ _ _ _ h_ => roadbookref07_Same.ldi h_ hq4) (fun _ _ _ _ _ _ _ _ h_ h2_ => roadbookref07_Same.nei h_ h2_) ?_
  intro a4_ hst_
  refine Pre.row_next (n := 39) (A1 := .pointer (some ⟨aF, 0, none⟩)) (A2 := .pointer (some ⟨aE, 0, none⟩)) (B1 := .pointer (some ⟨aF, 5, none⟩)) (B2 := .pointer (some ⟨aE, 5, none⟩)) (X1 := .int .i64 av) (X2 := .int .i64 bn) (e := av != bn) rfl hst_ Z15 Z15 Z15 Z15 Z15 (fun _ _ _ _ _ _ h_ => roadbookref07_Same.fa5 h_) (fun _ _ _ _ _ _ h_ => roadbookref07_Same.fa5 h_) (fun _ _ _ _ _ _ h_ => roadbookref07_Same.ldi h_ hp5) (fun _ _ _ _ _ _ h_ => roadbookref07_Same.ldi h_ hq5) (fun _ _ _ _ _ _ _ _ h_ h2_ => roadbookref07_Same.nei h_ h2_) ?_
  intro a5_ hst_
  refine Pre.row_next (n := 46) (A1 := .pointer (some ⟨aF, 0, none⟩)) (A2 := .pointer (some ⟨aE, 0, none⟩)) (B1 := .pointer (some ⟨aF, 6, none⟩)) (B2 := .pointer (some ⟨aE, 6, none⟩)) (X1 := .string ax) (X2 := .string bo) (e := ax.toList != bo.toList) rfl hst_ Z15 Z15 Z15 Z15 Z15 (fun _ _ _ _ _ _ h_ => roadbookref07_Same.fa6 h_) (fun _ _ _ _ _ _ h_ => roadbookref07_Same.fa6 h_) (fun _ _ _ _ _ _ h_ => roadbookref07_Same.lds h_ hp6) (fun _ _ _ _ _ _ h_ => roadbookref07_Same.lds h_ hq6) (fun _ _ _ _ _ _ _ _ h_ h2_ => roadbookref07_Same.nes h_ h2_) ?_
  intro a6_ hst_
  refine Pre.row_next (n := 53) (A1 := .pointer (some ⟨aF, 0, none⟩)) (A2 := .pointer (some ⟨aE, 0, none⟩)) (B1 := .pointer (some ⟨aF, 7, none⟩)) (B2 := .pointer (some ⟨aE, 7, none⟩)) (X1 := .int .i64 aw) (X2 := .int .i64 bp) (e := aw != bp) rfl hst_ Z15 Z15 Z15 Z15 Z15 (fun _ _ _ _ _ _ h_ => roadbookref07_Same.fa7 h_) (fun _ _ _ _ _ _ h_ => roadbookref07_Same.fa7 h_) (fun _ _ _ _ _ _ h_ => roadbookref07_Same.ldi h_ hp7) (fun _ _ _ _ _ _ h_ => roadbookref07_Same.ldi h_ hq7) (fun _ _ _ _ _ _ _ _ h_ h2_ => roadbookref07_Same.nei h_ h2_) ?_
  intro a7_ hst_
  refine Pre.row_next (n := 60) (A1 := .pointer (some ⟨aF, 0, none⟩)) (A2 := .pointer (some ⟨aE, 0, none⟩)) (B1 := .pointer (some ⟨aF, 8, none⟩)) (B2 := .pointer (some ⟨aE, 8, none⟩)) (X1 := .int .i64 aD) (X2 := .int .i64 bq) (e := aD != bq) rfl hst_ Z15 Z15 Z15 Z15 Z15 (fun _ _ _ _ _ _ h_ => roadbookref07_Same.fa8 h_) (fun _ _ _ _ _ _ h_ => roadbookref07_Same.fa8 h_) (fun _ _ _ _ _ _ h_ => roadbookref07_Same.ldi h_ hp8) (fun _ _ _ _ _ _ h_ => roadbookref07_Same.ldi h_ hq8) (fun _ _ _ _ _ _ _ _ h_ h2_ => roadbookref07_Same.nei h_ h2_) ?_
  intro a8_ hst_
  refine Pre.row_next (n := 67) (A1 := .pointer (some ⟨aF, 0, none⟩)) (A2 := .pointer (some ⟨aE, 0, none⟩)) (B1 := .pointer (some ⟨aF, 9, none⟩)) (B2 := .pointer (some ⟨aE, 9, none⟩)) (X1 := .string ay) (X2 := .string br) (e := ay.toList != br.toList) rfl hst_ Z15 Z15 Z15 Z15 Z15 (fun _ _ _ _ _ _ h_ => roadbookref07_Same.fa9 h_) (fun _ _ _ _ _ _ h_ => roadbookref07_Same.fa9 h_) (fun _ _ _ _ _ _ h_ => roadbookref07_Same.lds h_ hp9) (fun _ _ _ _ _ _ h_ => roadbookref07_Same.lds h_ hq9) (fun _ _ _ _ _ _ _ _ h_ h2_ => roadbookref07_Same.nes h_ h2_) ?_
  intro a9_ hst_
  refine Pre.row_last (n := 74) (A1 := .pointer (some ⟨aF, 0, none⟩)) (A2 := .pointer (some ⟨aE, 0, none⟩)) (B1 := .pointer (some ⟨aF, 10, none⟩)) (B2 := .pointer (some ⟨aE, 10, none⟩)) (X1 := .int .i64 ap) (X2 := .int .i64 bb) (e := ap != bb) rfl hst_ Z15 Z15 Z15 Z15 Z15 (fun _ _ _ _ _ _ h_ => roadbookref07_Same.fa10 h_) (fun _ _ _ _ _ _ h_ => roadbookref07_Same.fa10 h_) (fun _ _ _ _ _ _ h_ => roadbookref07_Same.ldi h_ hp10) (fun _ _ _ _ _ _ h_ => roadbookref07_Same.ldi h_ hq10) (fun _ _ _ _ _ _ _ _ h_ h2_ => roadbookref07_Same.nei h_ h2_) ?_
  intro a10_ hst_
  refine wpList_nil ?_
  have e_ := Pre.act_lit hst_.size hst_.defers
  have e2_ : a10_ = ⟨#[a10_.eval (.tmp 0), a10_.eval (.tmp 1), a10_.eval (.tmp 2), a10_.eval (.tmp 3), a10_.eval (.tmp 4), a10_.eval (.tmp 5), a10_.eval (.tmp 6), a10_.eval (.tmp 7), a10_.eval (.tmp 8), a10_.eval (.tmp 9), a10_.eval (.tmp 10), a10_.eval (.tmp 11), a10_.eval (.tmp 12), a10_.eval (.tmp 13), a10_.eval (.tmp 14), a10_.eval (.tmp 15), a10_.eval (.tmp 16), a10_.eval (.tmp 17), a10_.eval (.tmp 18), a10_.eval (.tmp 19), a10_.eval (.tmp 20), a10_.eval (.tmp 21), a10_.eval (.tmp 22), a10_.eval (.tmp 23), a10_.eval (.tmp 24), a10_.eval (.tmp 25), a10_.eval (.tmp 26), a10_.eval (.tmp 27), a10_.eval (.tmp 28), a10_.eval (.tmp 29), a10_.eval (.tmp 30), a10_.eval (.tmp 31), a10_.eval (.tmp 32), a10_.eval (.tmp 33), a10_.eval (.tmp 34), a10_.eval (.tmp 35), a10_.eval (.tmp 36), a10_.eval (.tmp 37), a10_.eval (.tmp 38), a10_.eval (.tmp 39), a10_.eval (.tmp 40), a10_.eval (.tmp 41), a10_.eval (.tmp 42), a10_.eval (.tmp 43), a10_.eval (.tmp 44), a10_.eval (.tmp 45), a10_.eval (.tmp 46), a10_.eval (.tmp 47), a10_.eval (.tmp 48), a10_.eval (.tmp 49), a10_.eval (.tmp 50), a10_.eval (.tmp 51), a10_.eval (.tmp 52), a10_.eval (.tmp 53), a10_.eval (.tmp 54), a10_.eval (.tmp 55), a10_.eval (.tmp 56), a10_.eval (.tmp 57), a10_.eval (.tmp 58), a10_.eval (.tmp 59), a10_.eval (.tmp 60), a10_.eval (.tmp 61), a10_.eval (.tmp 62), a10_.eval (.tmp 63), a10_.eval (.tmp 64), a10_.eval (.tmp 65), a10_.eval (.tmp 66), a10_.eval (.tmp 67), a10_.eval (.tmp 68), a10_.eval (.tmp 69), a10_.eval (.tmp 70), a10_.eval (.tmp 71), a10_.eval (.tmp 72), a10_.eval (.tmp 73), a10_.eval (.tmp 74), a10_.eval (.tmp 75), a10_.eval (.tmp 76), a10_.eval (.tmp 77), a10_.eval (.tmp 78), a10_.eval (.tmp 79), a10_.eval (.tmp 80), a10_.eval (.tmp 81), a10_.eval (.tmp 82), a10_.eval (.tmp 83), a10_.eval (.tmp 84), a10_.eval (.tmp 85), a10_.eval (.tmp 86), a10_.eval (.tmp 87), a10_.eval (.tmp 88), a10_.eval (.tmp 89), a10_.eval (.tmp 90), a10_.eval (.tmp 91), a10_.eval (.tmp 92), a10_.eval (.tmp 93), a10_.eval (.tmp 94), a10_.eval (.tmp 95), a10_.eval (.tmp 96), a10_.eval (.tmp 97), a10_.eval (.tmp 98), a10_.eval (.tmp 99), a10_.eval (.tmp 100), a10_.eval (.tmp 101), a10_.eval (.tmp 102), a10_.eval (.tmp 103), a10_.eval (.tmp 104), a10_.eval (.tmp 105), a10_.eval (.tmp 106), a10_.eval (.tmp 107), a10_.eval (.tmp 108), a10_.eval (.tmp 109), a10_.eval (.tmp 110), a10_.eval (.tmp 111), a10_.eval (.tmp 112), a10_.eval (.tmp 113), a10_.eval (.tmp 114), a10_.eval (.tmp 115), a10_.eval (.tmp 116), a10_.eval (.tmp 117), a10_.eval (.tmp 118), a10_.eval (.tmp 119), a10_.eval (.tmp 120), a10_.eval (.tmp 121), a10_.eval (.tmp 122), a10_.eval (.tmp 123), a10_.eval (.tmp 124), a10_.eval (.tmp 125), a10_.eval (.tmp 126), a10_.eval (.tmp 127), a10_.eval (.tmp 128), a10_.eval (.tmp 129), a10_.eval (.tmp 130), a10_.eval (.tmp 131), a10_.eval (.tmp 132), a10_.eval (.tmp 133), a10_.eval (.tmp 134), a10_.eval (.tmp 135), a10_.eval (.tmp 136), a10_.eval (.tmp 137), a10_.eval (.tmp 138), a10_.eval (.tmp 139), a10_.eval (.tmp 140), a10_.eval (.tmp 141), a10_.eval (.tmp 142), a10_.eval (.tmp 143), a10_.eval (.tmp 144), a10_.eval (.tmp 145), a10_.eval (.tmp 146), a10_.eval (.tmp 147), a10_.eval (.tmp 148), a10_.eval (.tmp 149), a10_.eval (.tmp 150), a10_.eval (.tmp 151), a10_.eval (.tmp 152), a10_.eval (.tmp 153), a10_.eval (.tmp 154), a10_.eval (.tmp 155), a10_.eval (.tmp 156), a10_.eval (.tmp 157), a10_.eval (.tmp 158), a10_.eval (.tmp 159), a10_.eval (.tmp 160), a10_.eval (.tmp 161), a10_.eval (.tmp 162), a10_.eval (.tmp 163), a10_.eval (.tmp 164), a10_.eval (.tmp 165), a10_.eval (.tmp 166), a10_.eval (.tmp 167), a10_.eval (.tmp 168), a10_.eval (.tmp 169), a10_.eval (.tmp 170), a10_.eval (.tmp 171), a10_.eval (.tmp 172), a10_.eval (.tmp 173)], []⟩ := e_.trans rfl
  clear e_
  have k0_ := hst_.kept 0 Z15
  have k1_ := hst_.kept 1 Z15
  have k2_ := hst_.kept 2 Z15
  have k3_ := hst_.kept 3 Z15
  have k4_ := hst_.kept 4 Z15
  rw [k0_, k1_, k2_, k3_, k4_] at e2_
  exact hK_ _ _ (hJ_ _ _ ⟨a10_.eval (.tmp 5), a10_.eval (.tmp 6), a10_.eval (.tmp 7), a10_.eval (.tmp 8), a10_.eval (.tmp 9), a10_.eval (.tmp 10), a10_.eval (.tmp 11), a10_.eval (.tmp 12), a10_.eval (.tmp 13), a10_.eval (.tmp 14), a10_.eval (.tmp 15), a10_.eval (.tmp 16), a10_.eval (.tmp 17), a10_.eval (.tmp 18), a10_.eval (.tmp 19), a10_.eval (.tmp 20), a10_.eval (.tmp 21), a10_.eval (.tmp 22), a10_.eval (.tmp 23), a10_.eval (.tmp 24), a10_.eval (.tmp 25), a10_.eval (.tmp 26), a10_.eval (.tmp 27), a10_.eval (.tmp 28), a10_.eval (.tmp 29), a10_.eval (.tmp 30), a10_.eval (.tmp 31), a10_.eval (.tmp 32), a10_.eval (.tmp 33), a10_.eval (.tmp 34), a10_.eval (.tmp 35), a10_.eval (.tmp 36), a10_.eval (.tmp 37), a10_.eval (.tmp 38), a10_.eval (.tmp 39), a10_.eval (.tmp 40), a10_.eval (.tmp 41), a10_.eval (.tmp 42), a10_.eval (.tmp 43), a10_.eval (.tmp 44), a10_.eval (.tmp 45), a10_.eval (.tmp 46), a10_.eval (.tmp 47), a10_.eval (.tmp 48), a10_.eval (.tmp 49), a10_.eval (.tmp 50), a10_.eval (.tmp 51), a10_.eval (.tmp 52), a10_.eval (.tmp 53), a10_.eval (.tmp 54), a10_.eval (.tmp 55), a10_.eval (.tmp 56), a10_.eval (.tmp 57), a10_.eval (.tmp 58), a10_.eval (.tmp 59), a10_.eval (.tmp 60), a10_.eval (.tmp 61), a10_.eval (.tmp 62), a10_.eval (.tmp 63), a10_.eval (.tmp 64), a10_.eval (.tmp 65), a10_.eval (.tmp 66), a10_.eval (.tmp 67), a10_.eval (.tmp 68), a10_.eval (.tmp 69), a10_.eval (.tmp 70), a10_.eval (.tmp 71), a10_.eval (.tmp 72), a10_.eval (.tmp 73), a10_.eval (.tmp 74), a10_.eval (.tmp 75), a10_.eval (.tmp 76), a10_.eval (.tmp 77), a10_.eval (.tmp 78), a10_.eval (.tmp 79), a10_.eval (.tmp 80), a10_.eval (.tmp 81), a10_.eval (.tmp 82), a10_.eval (.tmp 83), a10_.eval (.tmp 84), a10_.eval (.tmp 85), a10_.eval (.tmp 86), a10_.eval (.tmp 87), a10_.eval (.tmp 88), a10_.eval (.tmp 89), a10_.eval (.tmp 90), a10_.eval (.tmp 91), a10_.eval (.tmp 92), a10_.eval (.tmp 93), a10_.eval (.tmp 94), a10_.eval (.tmp 95), a10_.eval (.tmp 96), a10_.eval (.tmp 97), a10_.eval (.tmp 98), a10_.eval (.tmp 99), a10_.eval (.tmp 100), a10_.eval (.tmp 101), a10_.eval (.tmp 102), a10_.eval (.tmp 103), a10_.eval (.tmp 104), a10_.eval (.tmp 105), a10_.eval (.tmp 106), a10_.eval (.tmp 107), a10_.eval (.tmp 108), a10_.eval (.tmp 109), a10_.eval (.tmp 110), a10_.eval (.tmp 111), a10_.eval (.tmp 112), a10_.eval (.tmp 113), a10_.eval (.tmp 114), a10_.eval (.tmp 115), a10_.eval (.tmp 116), a10_.eval (.tmp 117), a10_.eval (.tmp 118), a10_.eval (.tmp 119), a10_.eval (.tmp 120), a10_.eval (.tmp 121), a10_.eval (.tmp 122), a10_.eval (.tmp 123), a10_.eval (.tmp 124), a10_.eval (.tmp 125), a10_.eval (.tmp 126), a10_.eval (.tmp 127), a10_.eval (.tmp 128), a10_.eval (.tmp 129), a10_.eval (.tmp 130), a10_.eval (.tmp 131), a10_.eval (.tmp 132), a10_.eval (.tmp 133), a10_.eval (.tmp 134), a10_.eval (.tmp 135), a10_.eval (.tmp 136), a10_.eval (.tmp 137), a10_.eval (.tmp 138), a10_.eval (.tmp 139), a10_.eval (.tmp 140), a10_.eval (.tmp 141), a10_.eval (.tmp 142), a10_.eval (.tmp 143), a10_.eval (.tmp 144), a10_.eval (.tmp 145), a10_.eval (.tmp 146), a10_.eval (.tmp 147), a10_.eval (.tmp 148), a10_.eval (.tmp 149), a10_.eval (.tmp 150), a10_.eval (.tmp 151), a10_.eval (.tmp 152), a10_.eval (.tmp 153), a10_.eval (.tmp 154), a10_.eval (.tmp 155), a10_.eval (.tmp 156), a10_.eval (.tmp 157), a10_.eval (.tmp 158), a10_.eval (.tmp 159), a10_.eval (.tmp 160), a10_.eval (.tmp 161), a10_.eval (.tmp 162), a10_.eval (.tmp 163), a10_.eval (.tmp 164), a10_.eval (.tmp 165), a10_.eval (.tmp 166), a10_.eval (.tmp 167), a10_.eval (.tmp 168), a10_.eval (.tmp 169), a10_.eval (.tmp 170), a10_.eval (.tmp 171), a10_.eval (.tmp 172), a10_.eval (.tmp 173), ⟨k, (((((((((((aG != bi) || (aA != bj)) || (aB != bk)) || (az.toList != bl.toList)) || (aC != bm)) || (av != bn)) || (ax.toList != bo.toList)) || (aw != bp)) || (aD != bq)) || (ay.toList != br.toList)) || (ap != bb)), hst_.so, ⟨HJ_⟩, ⟨Nat.le_refl _⟩, ⟨ae.out⟩, ⟨ac.out⟩, ⟨HB.out⟩⟩, e2_⟩)
 case rest =>
  clear cB
  try clear c1
  try clear c4
  try clear iW
  obtain ⟨kq, fn, rfl, HA, HJ2, ae, ac, HB⟩ := hcut
  cases kq with
  | zero => exact absurd HA.out (by simp [roadbookref07_Same.j0])
  | succ kj2 =>
   have H := HA.out
   clear HA
   simp only [roadbookref07_Same.j0] at H
   by_cases hY : fn = true
   ·subst hY
    replace H := Sq.itT H
    obtain rfl := Option.some.inj H
    go_wp2
    go_ret
    exact ⟨Z8, Z4⟩
   ·replace hY := Bool.eq_false_iff.mpr hY
    subst hY
    replace H := Sq.itF H
    have hZ := Aside0.mk H
    clear H
    go_upto_region 3 with (fail)
    go_cut [161] (fun iy wc => ∃ (kq : Nat) (dD : Bool), iy = .bool dD ∧ Aside0 (roadbookref07_Same.j1 kq dD aG aA aB az aC av ax aw aD ay ap an ag aq ai ah ak al ao aj am af ar au ab bi bj bk bl bm bn bo bp bq br bb aQ aR aS aT aU aV aW aX aY aZ aO ba bc aP = some r) ∧ Aside0 (kq ≤ kj2) ∧ Aside0 (wc.heap[aF]? = some (.cells #[.int .i64 aG, .int .i64 aA, .int .i64 aB, .string az, .int .i64 aC, .int .i64 av, .string ax, .int .i64 aw, .int .i64 aD, .string ay, .int .i64 ap, .string an, .int .i64 ag, .int .i64 aq, .int .i64 ai, .int .i64 ah, .int .i64 ak, .int .i64 al, .int .i64 ao, .string aj, .string am, (.slice bf af.length bg), .int .i64 ar, .string au, (.slice aI ab.length aJ)] 58 (0, 0))) ∧ Aside0 (wc.heap[aE]? = some (.cells #[.int .i64 bi, .int .i64 bj, .int .i64 bk, .string bl, .int .i64 bm, .int .i64 bn, .string bo, .int .i64 bp, .int .i64 bq, .string br, .int .i64 bb, .string aQ, .int .i64 aR, .int .i64 aS, .int .i64 aT, .int .i64 aU, .int .i64 aV, .int .i64 aW, .int .i64 aX, .string aY, .string aZ, (.slice cD aO.length cE), .int .i64 ba, .string bc, (.slice cH aP.length cI)] 58 (0, 0))) ∧ Aside0 (Below w.heap.size w wc))
    case first =>
     rename_i J_ K_ hJ_ hK_
     have HJ_ : roadbookref07_Same.j1 kj2 ((((((((((((an.toList != aQ.toList) || (ag != aR)) || (aq != aS)) || (ai != aT)) || (ah != aU)) || (ak != aV)) || (al != aW)) || (ao != aX)) || (aj.toList != aY.toList)) || (am.toList != aZ.toList)) || (ar != ba)) || (au.toList != bc.toList)) aG aA aB az aC av ax aw aD ay ap an ag aq ai ah ak al ao aj am af ar au ab bi bj bk bl bm bn bo bp bq br bb aQ aR aS aT aU aV aW aX aY aZ aO ba bc aP = some r := by
      have H := hZ.out
      by_cases q0 : an.toList = aQ.toList
      ·rw [if_pos q0] at H
       have d0 : (an.toList != aQ.toList) = false := bne_eq_false_iff_eq.mpr q0
       by_cases q1 : ag = aR
       ·rw [if_pos q1] at H
        have d1 : (ag != aR) = false := bne_eq_false_iff_eq.mpr q1
        by_cases q2 : aq = aS
        ·rw [if_pos q2] at H
         have d2 : (aq != aS) = false := bne_eq_false_iff_eq.mpr q2
         by_cases q3 : ai = aT
         ·rw [if_pos q3] at H
          have d3 : (ai != aT) = false := bne_eq_false_iff_eq.mpr q3
          by_cases q4 : ah = aU
          ·rw [if_pos q4] at H
           have d4 : (ah != aU) = false := bne_eq_false_iff_eq.mpr q4
           by_cases q5 : ak = aV
           ·rw [if_pos q5] at H
            have d5 : (ak != aV) = false := bne_eq_false_iff_eq.mpr q5
            by_cases q6 : al = aW
            ·rw [if_pos q6] at H
             have d6 : (al != aW) = false := bne_eq_false_iff_eq.mpr q6
             by_cases q7 : ao = aX
             ·rw [if_pos q7] at H
              have d7 : (ao != aX) = false := bne_eq_false_iff_eq.mpr q7
              by_cases q8 : aj.toList = aY.toList
              ·rw [if_pos q8] at H
               have d8 : (aj.toList != aY.toList) = false := bne_eq_false_iff_eq.mpr q8
               by_cases q9 : am.toList = aZ.toList
               ·rw [if_pos q9] at H
                have d9 : (am.toList != aZ.toList) = false := bne_eq_false_iff_eq.mpr q9
                by_cases q10 : ar = ba
                ·rw [if_pos q10] at H
                 have d10 : (ar != ba) = false := bne_eq_false_iff_eq.mpr q10
                 rw [d0, d1, d2, d3, d4, d5, d6, d7, d8, d9, d10]; simp only [Bool.false_or]; exact H
                ·rw [if_neg q10] at H
                 have d10 : (ar != ba) = true := bne_iff_ne.mpr q10
                 rw [d0, d1, d2, d3, d4, d5, d6, d7, d8, d9, d10]; simp only [Bool.false_or, Bool.true_or, Bool.or_true]; exact H
               ·rw [if_neg q9] at H
                have d9 : (am.toList != aZ.toList) = true := bne_iff_ne.mpr q9
                rw [d0, d1, d2, d3, d4, d5, d6, d7, d8, d9]; simp only [Bool.false_or, Bool.true_or, Bool.or_true]; exact H
              ·rw [if_neg q8] at H
               have d8 : (aj.toList != aY.toList) = true := bne_iff_ne.mpr q8
               rw [d0, d1, d2, d3, d4, d5, d6, d7, d8]; simp only [Bool.false_or, Bool.true_or, Bool.or_true]; exact H
             ·rw [if_neg q7] at H
              have d7 : (ao != aX) = true := bne_iff_ne.mpr q7
              rw [d0, d1, d2, d3, d4, d5, d6, d7]; simp only [Bool.false_or, Bool.true_or, Bool.or_true]; exact H
            ·rw [if_neg q6] at H
             have d6 : (al != aW) = true := bne_iff_ne.mpr q6
             rw [d0, d1, d2, d3, d4, d5, d6]; simp only [Bool.false_or, Bool.true_or, Bool.or_true]; exact H
           ·rw [if_neg q5] at H
            have d5 : (ak != aV) = true := bne_iff_ne.mpr q5
            rw [d0, d1, d2, d3, d4, d5]; simp only [Bool.false_or, Bool.true_or, Bool.or_true]; exact H
          ·rw [if_neg q4] at H
           have d4 : (ah != aU) = true := bne_iff_ne.mpr q4
           rw [d0, d1, d2, d3, d4]; simp only [Bool.false_or, Bool.true_or, Bool.or_true]; exact H
         ·rw [if_neg q3] at H
          have d3 : (ai != aT) = true := bne_iff_ne.mpr q3
          rw [d0, d1, d2, d3]; simp only [Bool.false_or, Bool.true_or, Bool.or_true]; exact H
        ·rw [if_neg q2] at H
         have d2 : (aq != aS) = true := bne_iff_ne.mpr q2
         rw [d0, d1, d2]; simp only [Bool.false_or, Bool.true_or, Bool.or_true]; exact H
       ·rw [if_neg q1] at H
        have d1 : (ag != aR) = true := bne_iff_ne.mpr q1
        rw [d0, d1]; simp only [Bool.false_or, Bool.true_or, Bool.or_true]; exact H
      ·rw [if_neg q0] at H
       have d0 : (an.toList != aQ.toList) = true := bne_iff_ne.mpr q0
       rw [d0]; simp only [Bool.false_or, Bool.true_or, Bool.or_true]; exact H
     obtain ⟨-, -, -, -, -, -, -, -, -, -, -, hp11, hp12, hp13, hp14, hp15, hp16, hp17, hp18, hp19, hp20, -, hp22, hp23, -, -, -, -, -, -, -, -, -, -, -, -, -, -, -, -, -, -, -, -, -, -, -, -, -, -⟩ := cells_25 ae.out
     obtain ⟨-, -, -, -, -, -, -, -, -, -, -, hq11, hq12, hq13, hq14, hq15, hq16, hq17, hq18, hq19, hq20, -, hq22, hq23, -, -, -, -, -, -, -, -, -, -, -, -, -, -, -, -, -, -, -, -, -, -, -, -, -, -⟩ := cells_25 ac.out
     refine wp_region_lit ?_
     refine Pre.row_first (p := 2) (q := 3) (n := 80) (N := 174) (lo := 5) (A1 := .pointer (some ⟨aF, 0, none⟩)) (A2 := .pointer (some ⟨aE, 0, none⟩)) (B1 := .pointer (some ⟨aF, 11, none⟩)) (B2 := .pointer (some ⟨aE, 11, none⟩)) (X1 := .string an) (X2 := .string aQ) (e := an.toList != aQ.toList) rfl rfl Z15 rfl rfl Z15 Z15 Z15 (fun _ _ _ _ _ _ h_ => roadbookref07_Same.fa11 h_) (fun _ _ _ _ _ _ h_ => roadbookref07_Same.fa11 h_) (fun _ _ _ _ _ _ h_ => roadbookref07_Same.lds h_ hp11) (fun _ _ _ _ _ _ h_ => roadbookref07_Same.lds h_ hq11) (fun _ _ _ _ _ _ _ _ h_ h2_ => roadbookref07_Same.nes h_ h2_) ?_
     intro a0_ hst_
     refine Pre.row_next (n := 86) (A1 := .pointer (some ⟨aF, 0, none⟩)) (A2 := .pointer (some ⟨aE, 0, none⟩)) (B1 := .pointer (some ⟨aF, 12, none⟩)) (B2 := .pointer (some ⟨aE, 12, none⟩)) (X1 := .int .i64 ag) (X2 := .int .i64 aR) (e := ag != aR) rfl hst_ Z15 Z15 Z15 Z15 Z15 (fun _ _ _ _ _ _ h_ => roadbookref07_Same.fa12 h_) (fun _ _ _ _ _ _ h_ => roadbookref07_Same.fa12 h_) (fun _ _ _ _ _ _ h_ => roadbookref07_Same.ldi h_ hp12) (fun _ _ _ _ _ _ h_ => roadbookref07_Same.ldi h_ hq12) (fun _ _ _ _ _ _ _ _ h_ h2_ => roadbookref07_Same.nei h_ h2_) ?_
     intro a1_ hst_
     refine Pre.row_next (n := 93) (A1 := .pointer (some ⟨aF, 0, none⟩)) (A2 := .pointer (some ⟨aE, 0, none⟩)) (B1 := .pointer (some ⟨aF, 13, none⟩)) (B2 := .pointer (some ⟨aE, 13, none⟩)) (X1 := .int .i64 aq) (X2 := .int .i64 aS) (e := aq != aS) rfl hst_ Z15 Z15 Z15 Z15 Z15 (fun _ _ _ _ _ _ h_ => roadbookref07_Same.fa13 h_) (fun _ _ _ _ _ _ h_ => roadbookref07_Same.fa13 h_) (fun _ _ _ _ _ _ h_ => roadbookref07_Same.ldi h_ hp13) (fun _ _ _ _ _ _ h_ => roadbookref07_Same.ldi h_ hq13) (fun _ _ _ _ _ _ _ _ h_ h2_ => roadbookref07_Same.nei h_ h2_) ?_
     intro a2_ hst_
     refine Pre.row_next (n := 100) (A1 := .pointer (some ⟨aF, 0, none⟩)) (A2 := .pointer (some ⟨aE, 0, none⟩)) (B1 := .pointer (some ⟨aF, 14, none⟩)) (B2 := .pointer (some ⟨aE, 14, none⟩)) (X1 := .int .i64 ai) (X2 := .int .i64 aT) (e := ai != aT) rfl hst_ Z15 Z15 Z15 Z15 Z15 (fun _ _ _ _ _ _ h_ => roadbookref07_Same.fa14 h_) (fun _ _ _ _ _ _ h_ => roadbookref07_Same.fa14 h_) (fun _ _ _ _ _ _ h_ => roadbookref07_Same.ldi h_ hp14) (fun _ _ _ _ _ _ h_ => roadbookref07_Same.ldi h_ hq14) (fun _ _ _ _ _ _ _ _ h_ h2_ => roadbookref07_Same.nei h_ h2_) ?_
     intro a3_ hst_
     refine Pre.row_next (n := 107) (A1 := .pointer (some ⟨aF, 0, none⟩)) (A2 := .pointer (some ⟨aE, 0, none⟩)) (B1 := .pointer (some ⟨aF, 15, none⟩)) (B2 := .pointer (some ⟨aE, 15, none⟩)) (X1 := .int .i64 ah) (X2 := .int .i64 aU) (e := ah != aU) rfl hst_ Z15 Z15 Z15 Z15 Z15 (fun _ _ _ _ _ _ h_ => roadbookref07_Same.fa15 h_) (fun _ _ _ _ _ _ h_ => roadbookref07_Same.fa15 h_) (fun _ _ _ _ _ _ h_ => roadbookref07_Same.ldi h_ hp15) (fun _ _ _ _ _ _ h_ => roadbookref07_Same.ldi h_ hq15) (fun _ _ _ _ _ _ _ _ h_ h2_ => roadbookref07_Same.nei h_ h2_) ?_
     intro a4_ hst_
     refine Pre.row_next (n := 114) (A1 := .pointer (some ⟨aF, 0, none⟩)) (A2 := .pointer (some ⟨aE, 0, none⟩)) (B1 := .pointer (some ⟨aF, 16, none⟩)) (B2 := .pointer (some ⟨aE, 16, none⟩)) (X1 := .int .i64 ak) (X2 := .int .i64 aV) (e := ak != aV) rfl hst_ Z15 Z15 Z15 Z15 Z15 (fun _ _ _ _ _ _ h_ => roadbookref07_Same.fa16 h_) (fun _ _ _ _ _ _ h_ => roadbookref07_Same.fa16 h_) (fun _ _ _ _ _ _ h_ => roadbookref07_Same.ldi h_ hp16) (fun _ _ _ _ _ _ h_ => roadbookref07_Same.ldi h_ hq16) (fun _ _ _ _ _ _ _ _ h_ h2_ => roadbookref07_Same.nei h_ h2_) ?_
     intro a5_ hst_
     refine Pre.row_next (n := 121) (A1 := .pointer (some ⟨aF, 0, none⟩)) (A2 := .pointer (some ⟨aE, 0, none⟩)) (B1 := .pointer (some ⟨aF, 17, none⟩)) (B2 := .pointer (some ⟨aE, 17, none⟩)) (X1 := .int .i64 al) (X2 := .int .i64 aW) (e := al != aW) rfl hst_ Z15 Z15 Z15 Z15 Z15 (fun _ _ _ _ _ _ h_ => roadbookref07_Same.fa17 h_) (fun _ _ _ _ _ _ h_ => roadbookref07_Same.fa17 h_) (fun _ _ _ _ _ _ h_ => roadbookref07_Same.ldi h_ hp17) (fun _ _ _ _ _ _ h_ => roadbookref07_Same.ldi h_ hq17) (fun _ _ _ _ _ _ _ _ h_ h2_ => roadbookref07_Same.nei h_ h2_) ?_
     intro a6_ hst_
     refine Pre.row_next (n := 128) (A1 := .pointer (some ⟨aF, 0, none⟩)) (A2 := .pointer (some ⟨aE, 0, none⟩)) (B1 := .pointer (some ⟨aF, 18, none⟩)) (B2 := .pointer (some ⟨aE, 18, none⟩)) (X1 := .int .i64 ao) (X2 := .int .i64 aX) (e := ao != aX) rfl hst_ Z15 Z15 Z15 Z15 Z15 (fun _ _ _ _ _ _ h_ => roadbookref07_Same.fa18 h_) (fun _ _ _ _ _ _ h_ => roadbookref07_Same.fa18 h_) (fun _ _ _ _ _ _ h_ => roadbookref07_Same.ldi h_ hp18) (fun _ _ _ _ _ _ h_ => roadbookref07_Same.ldi h_ hq18) (fun _ _ _ _ _ _ _ _ h_ h2_ => roadbookref07_Same.nei h_ h2_) ?_
     intro a7_ hst_
     refine Pre.row_next (n := 135) (A1 := .pointer (some ⟨aF, 0, none⟩)) (A2 := .pointer (some ⟨aE, 0, none⟩)) (B1 := .pointer (some ⟨aF, 19, none⟩)) (B2 := .pointer (some ⟨aE, 19, none⟩)) (X1 := .string aj) (X2 := .string aY) (e := aj.toList != aY.toList) rfl hst_ Z15 Z15 Z15 Z15 Z15 (fun _ _ _ _ _ _ h_ => roadbookref07_Same.fa19 h_) (fun _ _ _ _ _ _ h_ => roadbookref07_Same.fa19 h_) (fun _ _ _ _ _ _ h_ => roadbookref07_Same.lds h_ hp19) (fun _ _ _ _ _ _ h_ => roadbookref07_Same.lds h_ hq19) (fun _ _ _ _ _ _ _ _ h_ h2_ => roadbookref07_Same.nes h_ h2_) ?_
     intro a8_ hst_
     refine Pre.row_next (n := 142) (A1 := .pointer (some ⟨aF, 0, none⟩)) (A2 := .pointer (some ⟨aE, 0, none⟩)) (B1 := .pointer (some ⟨aF, 20, none⟩)) (B2 := .pointer (some ⟨aE, 20, none⟩)) (X1 := .string am) (X2 := .string aZ) (e := am.toList != aZ.toList) rfl hst_ Z15 Z15 Z15 Z15 Z15 (fun _ _ _ _ _ _ h_ => roadbookref07_Same.fa20 h_) (fun _ _ _ _ _ _ h_ => roadbookref07_Same.fa20 h_) (fun _ _ _ _ _ _ h_ => roadbookref07_Same.lds h_ hp20) (fun _ _ _ _ _ _ h_ => roadbookref07_Same.lds h_ hq20) (fun _ _ _ _ _ _ _ _ h_ h2_ => roadbookref07_Same.nes h_ h2_) ?_
     intro a9_ hst_
     refine Pre.row_next (n := 149) (A1 := .pointer (some ⟨aF, 0, none⟩)) (A2 := .pointer (some ⟨aE, 0, none⟩)) (B1 := .pointer (some ⟨aF, 22, none⟩)) (B2 := .pointer (some ⟨aE, 22, none⟩)) (X1 := .int .i64 ar) (X2 := .int .i64 ba) (e := ar != ba) rfl hst_ Z15 Z15 Z15 Z15 Z15 (fun _ _ _ _ _ _ h_ => roadbookref07_Same.fa22 h_) (fun _ _ _ _ _ _ h_ => roadbookref07_Same.fa22 h_) (fun _ _ _ _ _ _ h_ => roadbookref07_Same.ldi h_ hp22) (fun _ _ _ _ _ _ h_ => roadbookref07_Same.ldi h_ hq22) (fun _ _ _ _ _ _ _ _ h_ h2_ => roadbookref07_Same.nei h_ h2_) ?_
     intro a10_ hst_
     refine Pre.row_last (n := 156) (A1 := .pointer (some ⟨aF, 0, none⟩)) (A2 := .pointer (some ⟨aE, 0, none⟩)) (B1 := .pointer (some ⟨aF, 23, none⟩)) (B2 := .pointer (some ⟨aE, 23, none⟩)) (X1 := .string au) (X2 := .string bc) (e := au.toList != bc.toList) rfl hst_ Z15 Z15 Z15 Z15 Z15 (fun _ _ _ _ _ _ h_ => roadbookref07_Same.fa23 h_) (fun _ _ _ _ _ _ h_ => roadbookref07_Same.fa23 h_) (fun _ _ _ _ _ _ h_ => roadbookref07_Same.lds h_ hp23) (fun _ _ _ _ _ _ h_ => roadbookref07_Same.lds h_ hq23) (fun _ _ _ _ _ _ _ _ h_ h2_ => roadbookref07_Same.nes h_ h2_) ?_
     intro a11_ hst_
     refine wpList_nil ?_
     have e_ := Pre.act_lit hst_.size hst_.defers
     have e2_ : a11_ = ⟨#[a11_.eval (.tmp 0), a11_.eval (.tmp 1), a11_.eval (.tmp 2), a11_.eval (.tmp 3), a11_.eval (.tmp 4), a11_.eval (.tmp 5), a11_.eval (.tmp 6), a11_.eval (.tmp 7), a11_.eval (.tmp 8), a11_.eval (.tmp 9), a11_.eval (.tmp 10), a11_.eval (.tmp 11), a11_.eval (.tmp 12), a11_.eval (.tmp 13), a11_.eval (.tmp 14), a11_.eval (.tmp 15), a11_.eval (.tmp 16), a11_.eval (.tmp 17), a11_.eval (.tmp 18), a11_.eval (.tmp 19), a11_.eval (.tmp 20), a11_.eval (.tmp 21), a11_.eval (.tmp 22), a11_.eval (.tmp 23), a11_.eval (.tmp 24), a11_.eval (.tmp 25), a11_.eval (.tmp 26), a11_.eval (.tmp 27), a11_.eval (.tmp 28), a11_.eval (.tmp 29), a11_.eval (.tmp 30), a11_.eval (.tmp 31), a11_.eval (.tmp 32), a11_.eval (.tmp 33), a11_.eval (.tmp 34), a11_.eval (.tmp 35), a11_.eval (.tmp 36), a11_.eval (.tmp 37), a11_.eval (.tmp 38), a11_.eval (.tmp 39), a11_.eval (.tmp 40), a11_.eval (.tmp 41), a11_.eval (.tmp 42), a11_.eval (.tmp 43), a11_.eval (.tmp 44), a11_.eval (.tmp 45), a11_.eval (.tmp 46), a11_.eval (.tmp 47), a11_.eval (.tmp 48), a11_.eval (.tmp 49), a11_.eval (.tmp 50), a11_.eval (.tmp 51), a11_.eval (.tmp 52), a11_.eval (.tmp 53), a11_.eval (.tmp 54), a11_.eval (.tmp 55), a11_.eval (.tmp 56), a11_.eval (.tmp 57), a11_.eval (.tmp 58), a11_.eval (.tmp 59), a11_.eval (.tmp 60), a11_.eval (.tmp 61), a11_.eval (.tmp 62), a11_.eval (.tmp 63), a11_.eval (.tmp 64), a11_.eval (.tmp 65), a11_.eval (.tmp 66), a11_.eval (.tmp 67), a11_.eval (.tmp 68), a11_.eval (.tmp 69), a11_.eval (.tmp 70), a11_.eval (.tmp 71), a11_.eval (.tmp 72), a11_.eval (.tmp 73), a11_.eval (.tmp 74), a11_.eval (.tmp 75), a11_.eval (.tmp 76), a11_.eval (.tmp 77), a11_.eval (.tmp 78), a11_.eval (.tmp 79), a11_.eval (.tmp 80), a11_.eval (.tmp 81), a11_.eval (.tmp 82), a11_.eval (.tmp 83), a11_.eval (.tmp 84), a11_.eval (.tmp 85), a11_.eval (.tmp 86), a11_.eval (.tmp 87), a11_.eval (.tmp 88), a11_.eval (.tmp 89), a11_.eval (.tmp 90), a11_.eval (.tmp 91), a11_.eval (.tmp 92), a11_.eval (.tmp 93), a11_.eval (.tmp 94), a11_.eval (.tmp 95), a11_.eval (.tmp 96), a11_.eval (.tmp 97), a11_.eval (.tmp 98), a11_.eval (.tmp 99), a11_.eval (.tmp 100), a11_.eval (.tmp 101), a11_.eval (.tmp 102), a11_.eval (.tmp 103), a11_.eval (.tmp 104), a11_.eval (.tmp 105), a11_.eval (.tmp 106), a11_.eval (.tmp 107), a11_.eval (.tmp 108), a11_.eval (.tmp 109), a11_.eval (.tmp 110), a11_.eval (.tmp 111), a11_.eval (.tmp 112), a11_.eval (.tmp 113), a11_.eval (.tmp 114), a11_.eval (.tmp 115), a11_.eval (.tmp 116), a11_.eval (.tmp 117), a11_.eval (.tmp 118), a11_.eval (.tmp 119), a11_.eval (.tmp 120), a11_.eval (.tmp 121), a11_.eval (.tmp 122), a11_.eval (.tmp 123), a11_.eval (.tmp 124), a11_.eval (.tmp 125), a11_.eval (.tmp 126), a11_.eval (.tmp 127), a11_.eval (.tmp 128), a11_.eval (.tmp 129), a11_.eval (.tmp 130), a11_.eval (.tmp 131), a11_.eval (.tmp 132), a11_.eval (.tmp 133), a11_.eval (.tmp 134), a11_.eval (.tmp 135), a11_.eval (.tmp 136), a11_.eval (.tmp 137), a11_.eval (.tmp 138), a11_.eval (.tmp 139), a11_.eval (.tmp 140), a11_.eval (.tmp 141), a11_.eval (.tmp 142), a11_.eval (.tmp 143), a11_.eval (.tmp 144), a11_.eval (.tmp 145), a11_.eval (.tmp 146), a11_.eval (.tmp 147), a11_.eval (.tmp 148), a11_.eval (.tmp 149), a11_.eval (.tmp 150), a11_.eval (.tmp 151), a11_.eval (.tmp 152), a11_.eval (.tmp 153), a11_.eval (.tmp 154), a11_.eval (.tmp 155), a11_.eval (.tmp 156), a11_.eval (.tmp 157), a11_.eval (.tmp 158), a11_.eval (.tmp 159), a11_.eval (.tmp 160), a11_.eval (.tmp 161), a11_.eval (.tmp 162), a11_.eval (.tmp 163), a11_.eval (.tmp 164), a11_.eval (.tmp 165), a11_.eval (.tmp 166), a11_.eval (.tmp 167), a11_.eval (.tmp 168), a11_.eval (.tmp 169), a11_.eval (.tmp 170), a11_.eval (.tmp 171), a11_.eval (.tmp 172), a11_.eval (.tmp 173)], []⟩ := e_.trans rfl
     clear e_
     have k0_ := hst_.kept 0 Z15
     have k1_ := hst_.kept 1 Z15
     have k2_ := hst_.kept 2 Z15
     have k3_ := hst_.kept 3 Z15
     have k4_ := hst_.kept 4 Z15
     rw [k0_, k1_, k2_, k3_, k4_] at e2_
     exact hK_ _ _ (hJ_ _ _ ⟨a11_.eval (.tmp 5), a11_.eval (.tmp 6), a11_.eval (.tmp 7), a11_.eval (.tmp 8), a11_.eval (.tmp 9), a11_.eval (.tmp 10), a11_.eval (.tmp 11), a11_.eval (.tmp 12), a11_.eval (.tmp 13), a11_.eval (.tmp 14), a11_.eval (.tmp 15), a11_.eval (.tmp 16), a11_.eval (.tmp 17), a11_.eval (.tmp 18), a11_.eval (.tmp 19), a11_.eval (.tmp 20), a11_.eval (.tmp 21), a11_.eval (.tmp 22), a11_.eval (.tmp 23), a11_.eval (.tmp 24), a11_.eval (.tmp 25), a11_.eval (.tmp 26), a11_.eval (.tmp 27), a11_.eval (.tmp 28), a11_.eval (.tmp 29), a11_.eval (.tmp 30), a11_.eval (.tmp 31), a11_.eval (.tmp 32), a11_.eval (.tmp 33), a11_.eval (.tmp 34), a11_.eval (.tmp 35), a11_.eval (.tmp 36), a11_.eval (.tmp 37), a11_.eval (.tmp 38), a11_.eval (.tmp 39), a11_.eval (.tmp 40), a11_.eval (.tmp 41), a11_.eval (.tmp 42), a11_.eval (.tmp 43), a11_.eval (.tmp 44), a11_.eval (.tmp 45), a11_.eval (.tmp 46), a11_.eval (.tmp 47), a11_.eval (.tmp 48), a11_.eval (.tmp 49), a11_.eval (.tmp 50), a11_.eval (.tmp 51), a11_.eval (.tmp 52), a11_.eval (.tmp 53), a11_.eval (.tmp 54), a11_.eval (.tmp 55), a11_.eval (.tmp 56), a11_.eval (.tmp 57), a11_.eval (.tmp 58), a11_.eval (.tmp 59), a11_.eval (.tmp 60), a11_.eval (.tmp 61), a11_.eval (.tmp 62), a11_.eval (.tmp 63), a11_.eval (.tmp 64), a11_.eval (.tmp 65), a11_.eval (.tmp 66), a11_.eval (.tmp 67), a11_.eval (.tmp 68), a11_.eval (.tmp 69), a11_.eval (.tmp 70), a11_.eval (.tmp 71), a11_.eval (.tmp 72), a11_.eval (.tmp 73), a11_.eval (.tmp 74), a11_.eval (.tmp 75), a11_.eval (.tmp 76), a11_.eval (.tmp 77), a11_.eval (.tmp 78), a11_.eval (.tmp 79), a11_.eval (.tmp 80), a11_.eval (.tmp 81), a11_.eval (.tmp 82), a11_.eval (.tmp 83), a11_.eval (.tmp 84), a11_.eval (.tmp 85), a11_.eval (.tmp 86), a11_.eval (.tmp 87), a11_.eval (.tmp 88), a11_.eval (.tmp 89), a11_.eval (.tmp 90), a11_.eval (.tmp 91), a11_.eval (.tmp 92), a11_.eval (.tmp 93), a11_.eval (.tmp 94), a11_.eval (.tmp 95), a11_.eval (.tmp 96), a11_.eval (.tmp 97), a11_.eval (.tmp 98), a11_.eval (.tmp 99), a11_.eval (.tmp 100), a11_.eval (.tmp 101), a11_.eval (.tmp 102), a11_.eval (.tmp 103), a11_.eval (.tmp 104), a11_.eval (.tmp 105), a11_.eval (.tmp 106), a11_.eval (.tmp 107), a11_.eval (.tmp 108), a11_.eval (.tmp 109), a11_.eval (.tmp 110), a11_.eval (.tmp 111), a11_.eval (.tmp 112), a11_.eval (.tmp 113), a11_.eval (.tmp 114), a11_.eval (.tmp 115), a11_.eval (.tmp 116), a11_.eval (.tmp 117), a11_.eval (.tmp 118), a11_.eval (.tmp 119), a11_.eval (.tmp 120), a11_.eval (.tmp 121), a11_.eval (.tmp 122), a11_.eval (.tmp 123), a11_.eval (.tmp 124), a11_.eval (.tmp 125), a11_.eval (.tmp 126), a11_.eval (.tmp 127), a11_.eval (.tmp 128), a11_.eval (.tmp 129), a11_.eval (.tmp 130), a11_.eval (.tmp 131), a11_.eval (.tmp 132), a11_.eval (.tmp 133), a11_.eval (.tmp 134), a11_.eval (.tmp 135), a11_.eval (.tmp 136), a11_.eval (.tmp 137), a11_.eval (.tmp 138), a11_.eval (.tmp 139), a11_.eval (.tmp 140), a11_.eval (.tmp 141), a11_.eval (.tmp 142), a11_.eval (.tmp 143), a11_.eval (.tmp 144), a11_.eval (.tmp 145), a11_.eval (.tmp 146), a11_.eval (.tmp 147), a11_.eval (.tmp 148), a11_.eval (.tmp 149), a11_.eval (.tmp 150), a11_.eval (.tmp 151), a11_.eval (.tmp 152), a11_.eval (.tmp 153), a11_.eval (.tmp 154), a11_.eval (.tmp 155), a11_.eval (.tmp 156), a11_.eval (.tmp 157), a11_.eval (.tmp 158), a11_.eval (.tmp 159), a11_.eval (.tmp 160), a11_.eval (.tmp 161), a11_.eval (.tmp 162), a11_.eval (.tmp 163), a11_.eval (.tmp 164), a11_.eval (.tmp 165), a11_.eval (.tmp 166), a11_.eval (.tmp 167), a11_.eval (.tmp 168), a11_.eval (.tmp 169), a11_.eval (.tmp 170), a11_.eval (.tmp 171), a11_.eval (.tmp 172), a11_.eval (.tmp 173), ⟨kj2, ((((((((((((an.toList != aQ.toList) || (ag != aR)) || (aq != aS)) || (ai != aT)) || (ah != aU)) || (ak != aV)) || (al != aW)) || (ao != aX)) || (aj.toList != aY.toList)) || (am.toList != aZ.toList)) || (ar != ba)) || (au.toList != bc.toList)), hst_.so, ⟨HJ_⟩, ⟨Nat.le_refl _⟩, ⟨ae.out⟩, ⟨ac.out⟩, ⟨HB.out⟩⟩, e2_⟩)
    case rest =>
     clear hZ
     try clear c1
     try clear p2
     try clear c4
     try clear c6
     try clear dC
     try clear fQ
     try clear c7
     try clear eT
     try clear c7b1
     try clear c8
     try clear c43
     try clear c46
     try clear iW
     try clear hY
     obtain ⟨kq, dD, rfl, HA, HJ49, ae, ac, HB⟩ := hcut
     cases kq with
     | zero => exact absurd HA.out (by simp [roadbookref07_Same.j1])
     | succ kj49 =>
      have H := HA.out
      clear HA
      simp only [roadbookref07_Same.j1] at H
      by_cases ik : dD = true
      ·subst ik
       replace H := Sq.itT H
       obtain rfl := Option.some.inj H
       go_wp2
       go_ret
       exact ⟨Z8, Z4⟩
      ·replace ik := Bool.eq_false_iff.mpr ik
       subst ik
       replace H := Sq.itF H
       replace H := Option.bind_eq_some_iff.mp H
       obtain ⟨cC, ia, H⟩ := H
       replace H : (if cC = true then ((roadbookref07_subs.f kj49 ab aP).bind fun de => (some de)) else (some false)) = some r := H
       have iO := Aside0.mk ia
       clear ia
       by_cases fR : cC = true
       ·subst fR
        replace H := Sq.itT H
        replace H := Option.bind_eq_some_iff.mp H
        obtain ⟨de, gf, H⟩ := H
        replace H : (some de) = some r := H
        have iz := Aside0.mk gf
        clear gf
        obtain rfl := Option.some.inj H
        have hnb102 := cG.out
        have hnc102 := cJ.out
        obtain ⟨-, -, -, -, -, -, -, -, -, -, -, -, -, -, -, -, -, -, -, -, -, hcz103_21, -, -, hcz103_24, -, -, -, -, -, -, -, -, -, -, -, -, -, -, -, -, -, -, -, -, -, -, -, -, -⟩ := cells_25 ae.out
        obtain ⟨-, -, -, -, -, -, -, -, -, -, -, -, -, -, -, -, -, -, -, -, -, hcz104_21, -, -, hcz104_24, -, -, -, -, -, -, -, -, -, -, -, -, -, -, -, -, -, -, -, -, -, -, -, -, -⟩ := cells_25 ac.out
        go_wp2_with (first | ((with_reducible refine gate_callee (f := 75) rfl ?_); refine goesL_ (some 166) rfl rfl Try.func75 Z5 rfl #[.slice bf af.length bg, .slice cD aO.length cE] rfl Z9 ?_; (with_reducible refine (roadbookref07_dests.calls kj49 _ _ af _ _ aO true _ ?side1 ?side2 ?side3 ?side4 iO.out).mono ?_); (case side1 => exact Z12); (case side2 => exact cF.out); (case side3 => exact Z16); (case side4 => exact dg.out); rintro e w' ⟨rfl, ⟨nd, rfl⟩⟩; refine ⟨_, rfl, ?_⟩) | (go_at_call 76; (with_reducible refine (roadbookref07_subs.calls kj49 _ _ ab _ _ aP de _ ?side1 ?side2 ?side3 ?side4 iz.out).mono ?_); (case side1 => exact Z35); (case side2 => exact bU.out); (case side3 => exact Z34); (case side4 => exact dz.out); rintro e w' ⟨rfl, ⟨nd, rfl⟩⟩))
        go_ret
        exact ⟨Z8, Z4⟩
       ·replace fR := Bool.eq_false_iff.mpr fR
        subst fR
        replace H := Sq.itF H
        obtain rfl := Option.some.inj H
        have hnb105 := cG.out
        have hnc105 := cJ.out
        obtain ⟨-, -, -, -, -, -, -, -, -, -, -, -, -, -, -, -, -, -, -, -, -, hcz106_21, -, -, hcz106_24, -, -, -, -, -, -, -, -, -, -, -, -, -, -, -, -, -, -, -, -, -, -, -, -, -⟩ := cells_25 ae.out
        obtain ⟨-, -, -, -, -, -, -, -, -, -, -, -, -, -, -, -, -, -, -, -, -, hcz107_21, -, -, hcz107_24, -, -, -, -, -, -, -, -, -, -, -, -, -, -, -, -, -, -, -, -, -, -, -, -, -⟩ := cells_25 ac.out
        go_wp2_with (first | ((with_reducible refine gate_callee (f := 75) rfl ?_); refine goesL_ (some 166) rfl rfl Try.func75 Z5 rfl #[.slice bf af.length bg, .slice cD aO.length cE] rfl Z9 ?_; (with_reducible refine (roadbookref07_dests.calls kj49 _ _ af _ _ aO false _ ?side1 ?side2 ?side3 ?side4 iO.out).mono ?_); (case side1 => exact Z12); (case side2 => exact cF.out); (case side3 => exact Z16); (case side4 => exact dg.out); rintro e w' ⟨rfl, ⟨nd, rfl⟩⟩; refine ⟨_, rfl, ?_⟩))
        go_ret
        exact ⟨Z8, Z4⟩

end Go.Proofs.Ytelcciekdoccfaa.PM
