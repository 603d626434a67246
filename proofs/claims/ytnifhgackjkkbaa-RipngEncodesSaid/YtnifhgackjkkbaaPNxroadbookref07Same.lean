-- Written by mp.py, a program of this work (wip/tools), out of the translation; Lean checks it.
import Derived.Test.YtnifhgackjkkbaaPNxZ
import Derived.Test.YtnifhgackjkkbaaPNxroadbookref07
import Derived.Test.YtnifhgackjkkbaaOr
namespace Go.Proofs.Ytnifhgackjkkbaa.PN
open Go.RowKit Go.Proofs.YtnifhgackjkkbaaW.PrintWords Go.Proofs.YtnifhgackjkkbaaW.PrintLast Go.Proofs.YtnifhgackjkkbaaW.PrintMore
attribute [local go_sem] max2_int min2_int max_two min_two max_three min_three max_four min_four   -- for this text's walks alone
set_option linter.unusedVariables false
set_option linter.unusedSimpArgs false

/-! ### roadbookref07_Same: function 25 -/
mutual
def roadbookref07_Same.j0 : Nat → Bool → Int → Int → Int → ByteArray → Int → Int → ByteArray → Int → Int → ByteArray → Int → ByteArray → Int → Int → Int → Int → Int → Int → Int → ByteArray → ByteArray → List (S66) → Int → ByteArray → List (S68) → Int → Int → Int → ByteArray → Int → Int → ByteArray → Int → Int → ByteArray → Int → ByteArray → Int → Int → Int → Int → Int → Int → Int → ByteArray → ByteArray → List (S66) → Int → ByteArray → List (S68) → Option (Bool)
 | 0, _, _, _, _, _, _, _, _, _, _, _, _, _, _, _, _, _, _, _, _, _, _, _, _, _, _, _, _, _, _, _, _, _, _, _, _, _, _, _, _, _, _, _, _, _, _, _, _, _, _, _ => none
 | k + 1, jW, bN, bO, bP, bQ, bR, bS, bo, br, bT, bp, bq, bs, bu, bv, bw, bx, bA, bB, bC, bD, bE, bF, bG, bH, bI, cq, cr, ct, cu, cv, cw, cx, cy, cz, cA, cB, cb, cc, cd, ce, cf, cg, ch, ci, cj, ck, cl, cm, cn, co => if jW = true then (some false) else (if bs.toList = cb.toList then (if bu = cc then (if bv = cd then (if bw = ce then (if bx = cf then (if bA = cg then (if bB = ch then (if bC = ci then (if bD.toList = cj.toList then (if bE.toList = ck.toList then (if bG = cm then (roadbookref07_Same.j1 k (bH.toList != cn.toList) bN bO bP bQ bR bS bo br bT bp bq bs bu bv bw bx bA bB bC bD bE bF bG bH bI cq cr ct cu cv cw cx cy cz cA cB cb cc cd ce cf cg ch ci cj ck cl cm cn co) else (roadbookref07_Same.j1 k true bN bO bP bQ bR bS bo br bT bp bq bs bu bv bw bx bA bB bC bD bE bF bG bH bI cq cr ct cu cv cw cx cy cz cA cB cb cc cd ce cf cg ch ci cj ck cl cm cn co)) else (roadbookref07_Same.j1 k true bN bO bP bQ bR bS bo br bT bp bq bs bu bv bw bx bA bB bC bD bE bF bG bH bI cq cr ct cu cv cw cx cy cz cA cB cb cc cd ce cf cg ch ci cj ck cl cm cn co)) else (roadbookref07_Same.j1 k true bN bO bP bQ bR bS bo br bT bp bq bs bu bv bw bx bA bB bC bD bE bF bG bH bI cq cr ct cu cv cw cx cy cz cA cB cb cc cd ce cf cg ch ci cj ck cl cm cn co)) else (roadbookref07_Same.j1 k true bN bO bP bQ bR bS bo br bT bp bq bs bu bv bw bx bA bB bC bD bE bF bG bH bI cq cr ct cu cv cw cx cy cz cA cB cb cc cd ce cf cg ch ci cj ck cl cm cn co)) else (roadbookref07_Same.j1 k true bN bO bP bQ bR bS bo br bT bp bq bs bu bv bw bx bA bB bC bD bE bF bG bH bI cq cr ct cu cv cw cx cy cz cA cB cb cc cd ce cf cg ch ci cj ck cl cm cn co)) else (roadbookref07_Same.j1 k true bN bO bP bQ bR bS bo br bT bp bq bs bu bv bw bx bA bB bC bD bE bF bG bH bI cq cr ct cu cv cw cx cy cz cA cB cb cc cd ce cf cg ch ci cj ck cl cm cn co)) else (roadbookref07_Same.j1 k true bN bO bP bQ bR bS bo br bT bp bq bs bu bv bw bx bA bB bC bD bE bF bG bH bI cq cr ct cu cv cw cx cy cz cA cB cb cc cd ce cf cg ch ci cj ck cl cm cn co)) else (roadbookref07_Same.j1 k true bN bO bP bQ bR bS bo br bT bp bq bs bu bv bw bx bA bB bC bD bE bF bG bH bI cq cr ct cu cv cw cx cy cz cA cB cb cc cd ce cf cg ch ci cj ck cl cm cn co)) else (roadbookref07_Same.j1 k true bN bO bP bQ bR bS bo br bT bp bq bs bu bv bw bx bA bB bC bD bE bF bG bH bI cq cr ct cu cv cw cx cy cz cA cB cb cc cd ce cf cg ch ci cj ck cl cm cn co)) else (roadbookref07_Same.j1 k true bN bO bP bQ bR bS bo br bT bp bq bs bu bv bw bx bA bB bC bD bE bF bG bH bI cq cr ct cu cv cw cx cy cz cA cB cb cc cd ce cf cg ch ci cj ck cl cm cn co)) else (roadbookref07_Same.j1 k true bN bO bP bQ bR bS bo br bT bp bq bs bu bv bw bx bA bB bC bD bE bF bG bH bI cq cr ct cu cv cw cx cy cz cA cB cb cc cd ce cf cg ch ci cj ck cl cm cn co))
def roadbookref07_Same.j1 : Nat → Bool → Int → Int → Int → ByteArray → Int → Int → ByteArray → Int → Int → ByteArray → Int → ByteArray → Int → Int → Int → Int → Int → Int → Int → ByteArray → ByteArray → List (S66) → Int → ByteArray → List (S68) → Int → Int → Int → ByteArray → Int → Int → ByteArray → Int → Int → ByteArray → Int → ByteArray → Int → Int → Int → Int → Int → Int → Int → ByteArray → ByteArray → List (S66) → Int → ByteArray → List (S68) → Option (Bool)
 | 0, _, _, _, _, _, _, _, _, _, _, _, _, _, _, _, _, _, _, _, _, _, _, _, _, _, _, _, _, _, _, _, _, _, _, _, _, _, _, _, _, _, _, _, _, _, _, _, _, _, _, _ => none
 | k + 1, iR, bN, bO, bP, bQ, bR, bS, bo, br, bT, bp, bq, bs, bu, bv, bw, bx, bA, bB, bC, bD, bE, bF, bG, bH, bI, cq, cr, ct, cu, cv, cw, cx, cy, cz, cA, cB, cb, cc, cd, ce, cf, cg, ch, ci, cj, ck, cl, cm, cn, co => if iR = true then (some false) else ((roadbookref07_dests.f k bF cl).bind fun aN => (if aN = true then ((roadbookref07_subs.f k bI co).bind fun aJ => (some aJ)) else (some false)))
end
def roadbookref07_Same.f (k : Nat) (aA : Int) (aq : Int) (ar : Int) (av : ByteArray) (aw : Int) (ax : Int) (aC : ByteArray) (aD : Int) (ay : Int) (az : ByteArray) (ag : Int) (ai : ByteArray) (ao : Int) (ac : Int) (ap : Int) (an : Int) (ak : Int) (al : Int) (ae : Int) (am : ByteArray) (aj : ByteArray) (ab : List (S66)) (af : Int) (ah : ByteArray) (au : List (S68)) (bk : Int) (bl : Int) (aT : Int) (bK : ByteArray) (bL : Int) (bM : Int) (bU : ByteArray) (bV : Int) (bW : Int) (bX : ByteArray) (bj : Int) (aU : ByteArray) (aV : Int) (aW : Int) (aX : Int) (aY : Int) (aZ : Int) (ba : Int) (bb : Int) (bf : ByteArray) (bg : ByteArray) (bh : List (S66)) (bi : Int) (bn : ByteArray) (bm : List (S68)) : Option (Bool) := if aA = bk then (if aq = bl then (if ar = aT then (if av.toList = bK.toList then (if aw = bL then (if ax = bM then (if aC.toList = bU.toList then (if aD = bV then (if ay = bW then (if az.toList = bX.toList then (roadbookref07_Same.j0 k (ag != bj) aA aq ar av aw ax aC aD ay az ag ai ao ac ap an ak al ae am aj ab af ah au bk bl aT bK bL bM bU bV bW bX bj aU aV aW aX aY aZ ba bb bf bg bh bi bn bm) else (roadbookref07_Same.j0 k true aA aq ar av aw ax aC aD ay az ag ai ao ac ap an ak al ae am aj ab af ah au bk bl aT bK bL bM bU bV bW bX bj aU aV aW aX aY aZ ba bb bf bg bh bi bn bm)) else (roadbookref07_Same.j0 k true aA aq ar av aw ax aC aD ay az ag ai ao ac ap an ak al ae am aj ab af ah au bk bl aT bK bL bM bU bV bW bX bj aU aV aW aX aY aZ ba bb bf bg bh bi bn bm)) else (roadbookref07_Same.j0 k true aA aq ar av aw ax aC aD ay az ag ai ao ac ap an ak al ae am aj ab af ah au bk bl aT bK bL bM bU bV bW bX bj aU aV aW aX aY aZ ba bb bf bg bh bi bn bm)) else (roadbookref07_Same.j0 k true aA aq ar av aw ax aC aD ay az ag ai ao ac ap an ak al ae am aj ab af ah au bk bl aT bK bL bM bU bV bW bX bj aU aV aW aX aY aZ ba bb bf bg bh bi bn bm)) else (roadbookref07_Same.j0 k true aA aq ar av aw ax aC aD ay az ag ai ao ac ap an ak al ae am aj ab af ah au bk bl aT bK bL bM bU bV bW bX bj aU aV aW aX aY aZ ba bb bf bg bh bi bn bm)) else (roadbookref07_Same.j0 k true aA aq ar av aw ax aC aD ay az ag ai ao ac ap an ak al ae am aj ab af ah au bk bl aT bK bL bM bU bV bW bX bj aU aV aW aX aY aZ ba bb bf bg bh bi bn bm)) else (roadbookref07_Same.j0 k true aA aq ar av aw ax aC aD ay az ag ai ao ac ap an ak al ae am aj ab af ah au bk bl aT bK bL bM bU bV bW bX bj aU aV aW aX aY aZ ba bb bf bg bh bi bn bm)) else (roadbookref07_Same.j0 k true aA aq ar av aw ax aC aD ay az ag ai ao ac ap an ak al ae am aj ab af ah au bk bl aT bK bL bM bU bV bW bX bj aU aV aW aX aY aZ ba bb bf bg bh bi bn bm)) else (roadbookref07_Same.j0 k true aA aq ar av aw ax aC aD ay az ag ai ao ac ap an ak al ae am aj ab af ah au bk bl aT bK bL bM bU bV bW bX bj aU aV aW aX aY aZ ba bb bf bg bh bi bn bm)) else (roadbookref07_Same.j0 k true aA aq ar av aw ax aC aD ay az ag ai ao ac ap an ak al ae am aj ab af ah au bk bl aT bK bL bM bU bV bW bX bj aU aV aW aX aY aZ ba bb bf bg bh bi bn bm)
theorem roadbookref07_Same.mono_l : ∀ k, (∀ y0 y1 y2 y3 y4 y5 y6 y7 y8 y9 el em en eo ep er es et eu ev ew ex ey ez eA eB gd gf gg gh gi gj gl gn gp gq gr gs gu gv gw gy gz gA gB gC gD gE gF gG gH, LeO (roadbookref07_Same.j0 k y0 y1 y2 y3 y4 y5 y6 y7 y8 y9 el em en eo ep er es et eu ev ew ex ey ez eA eB gd gf gg gh gi gj gl gn gp gq gr gs gu gv gw gy gz gA gB gC gD gE gF gG gH) (roadbookref07_Same.j0 (k + 1) y0 y1 y2 y3 y4 y5 y6 y7 y8 y9 el em en eo ep er es et eu ev ew ex ey ez eA eB gd gf gg gh gi gj gl gn gp gq gr gs gu gv gw gy gz gA gB gC gD gE gF gG gH)) ∧ (∀ y0 y1 y2 y3 y4 y5 y6 y7 y8 y9 el em en eo ep er es et eu ev ew ex ey ez eA eB gd gf gg gh gi gj gl gn gp gq gr gs gu gv gw gy gz gA gB gC gD gE gF gG gH, LeO (roadbookref07_Same.j1 k y0 y1 y2 y3 y4 y5 y6 y7 y8 y9 el em en eo ep er es et eu ev ew ex ey ez eA eB gd gf gg gh gi gj gl gn gp gq gr gs gu gv gw gy gz gA gB gC gD gE gF gG gH) (roadbookref07_Same.j1 (k + 1) y0 y1 y2 y3 y4 y5 y6 y7 y8 y9 el em en eo ep er es et eu ev ew ex ey ez eA eB gd gf gg gh gi gj gl gn gp gq gr gs gu gv gw gy gz gA gB gC gD gE gF gG gH))
 | 0 => ⟨Sq.mz, Sq.mz⟩
 | k + 1 => by
  obtain ⟨ih0, ih1⟩ := roadbookref07_Same.mono_l k
  refine ⟨?_, ?_⟩
  ·intros
   unfold roadbookref07_Same.j0
   have m0 := roadbookref07_dests.mono
   have m1 := roadbookref07_subs.mono
   exact Sq.mo
  ·intros
   unfold roadbookref07_Same.j1
   have m0 := roadbookref07_dests.mono
   have m1 := roadbookref07_subs.mono
   exact Sq.mo
theorem roadbookref07_Same.mono : ∀ a0 a1 a2 a3 a4 a5 a6 a7 a8 a9 gI gJ gK gL gM gN gO gP gQ gR gS gT gU gV gW iS iT iU iV iW iX iY iZ ja jb jc jd je jf jg jh ji jj jk jl jm jn jo jp jq k, LeO (roadbookref07_Same.f k a0 a1 a2 a3 a4 a5 a6 a7 a8 a9 gI gJ gK gL gM gN gO gP gQ gR gS gT gU gV gW iS iT iU iV iW iX iY iZ ja jb jc jd je jf jg jh ji jj jk jl jm jn jo jp jq) (roadbookref07_Same.f (k + 1) a0 a1 a2 a3 a4 a5 a6 a7 a8 a9 gI gJ gK gL gM gN gO gP gQ gR gS gT gU gV gW iS iT iU iV iW iX iY iZ ja jb jc jd je jf jg jh ji jj jk jl jm jn jo jp jq) := by
 intros
 rename_i k
 obtain ⟨ih0, ih1⟩ := roadbookref07_Same.mono_l k
 unfold roadbookref07_Same.f
 have m0 := roadbookref07_dests.mono
 have m1 := roadbookref07_subs.mono
 exact Sq.mo
section
variable {ρ_ : Operand → Value} {x_ y_ : Operand} {w_ : World} {d_ : Option Tmp} {t_ t2_ : TypeId} {p_ : String} {g_ : Option (Nat × Bool)} {af_ : Array Edge} {gb_ f_ : Nat}
theorem roadbookref07_Same.fa0 (h : ρ_ x_ = .pointer (some ⟨gb_, 0, none⟩)) : (execOp ρ_ { dst := d_, op := .fieldAddr 34 x_ 0, type := t_, pos := p_, after := af_, guard := g_ }).run Try.prog w_ = .ok (.value (.pointer (some ⟨gb_, 0, none⟩))) w_ := by
 have hu_ := Try.underlying34
 simp only [execOp, h]
 go_simp
theorem roadbookref07_Same.fa1 (h : ρ_ x_ = .pointer (some ⟨gb_, 0, none⟩)) : (execOp ρ_ { dst := d_, op := .fieldAddr 34 x_ 1, type := t_, pos := p_, after := af_, guard := g_ }).run Try.prog w_ = .ok (.value (.pointer (some ⟨gb_, 1, none⟩))) w_ := by
 have hu_ := Try.underlying34
 simp only [execOp, h]
 go_simp
theorem roadbookref07_Same.fa2 (h : ρ_ x_ = .pointer (some ⟨gb_, 0, none⟩)) : (execOp ρ_ { dst := d_, op := .fieldAddr 34 x_ 2, type := t_, pos := p_, after := af_, guard := g_ }).run Try.prog w_ = .ok (.value (.pointer (some ⟨gb_, 2, none⟩))) w_ := by
 have hu_ := Try.underlying34
 simp only [execOp, h]
 go_simp
theorem roadbookref07_Same.fa3 (h : ρ_ x_ = .pointer (some ⟨gb_, 0, none⟩)) : (execOp ρ_ { dst := d_, op := .fieldAddr 34 x_ 3, type := t_, pos := p_, after := af_, guard := g_ }).run Try.prog w_ = .ok (.value (.pointer (some ⟨gb_, 3, none⟩))) w_ := by
 have hu_ := Try.underlying34
 simp only [execOp, h]
 go_simp
theorem roadbookref07_Same.fa4 (h : ρ_ x_ = .pointer (some ⟨gb_, 0, none⟩)) : (execOp ρ_ { dst := d_, op := .fieldAddr 34 x_ 4, type := t_, pos := p_, after := af_, guard := g_ }).run Try.prog w_ = .ok (.value (.pointer (some ⟨gb_, 4, none⟩))) w_ := by
 have hu_ := Try.underlying34
 simp only [execOp, h]
 go_simp
theorem roadbookref07_Same.fa5 (h : ρ_ x_ = .pointer (some ⟨gb_, 0, none⟩)) : (execOp ρ_ { dst := d_, op := .fieldAddr 34 x_ 5, type := t_, pos := p_, after := af_, guard := g_ }).run Try.prog w_ = .ok (.value (.pointer (some ⟨gb_, 5, none⟩))) w_ := by
 have hu_ := Try.underlying34
 simp only [execOp, h]
 go_simp
theorem roadbookref07_Same.fa6 (h : ρ_ x_ = .pointer (some ⟨gb_, 0, none⟩)) : (execOp ρ_ { dst := d_, op := .fieldAddr 34 x_ 6, type := t_, pos := p_, after := af_, guard := g_ }).run Try.prog w_ = .ok (.value (.pointer (some ⟨gb_, 6, none⟩))) w_ := by
 have hu_ := Try.underlying34
 simp only [execOp, h]
 go_simp
theorem roadbookref07_Same.fa7 (h : ρ_ x_ = .pointer (some ⟨gb_, 0, none⟩)) : (execOp ρ_ { dst := d_, op := .fieldAddr 34 x_ 7, type := t_, pos := p_, after := af_, guard := g_ }).run Try.prog w_ = .ok (.value (.pointer (some ⟨gb_, 7, none⟩))) w_ := by
 have hu_ := Try.underlying34
 simp only [execOp, h]
 go_simp
theorem roadbookref07_Same.fa8 (h : ρ_ x_ = .pointer (some ⟨gb_, 0, none⟩)) : (execOp ρ_ { dst := d_, op := .fieldAddr 34 x_ 8, type := t_, pos := p_, after := af_, guard := g_ }).run Try.prog w_ = .ok (.value (.pointer (some ⟨gb_, 8, none⟩))) w_ := by
 have hu_ := Try.underlying34
 simp only [execOp, h]
 go_simp
theorem roadbookref07_Same.fa9 (h : ρ_ x_ = .pointer (some ⟨gb_, 0, none⟩)) : (execOp ρ_ { dst := d_, op := .fieldAddr 34 x_ 9, type := t_, pos := p_, after := af_, guard := g_ }).run Try.prog w_ = .ok (.value (.pointer (some ⟨gb_, 9, none⟩))) w_ := by
 have hu_ := Try.underlying34
 simp only [execOp, h]
 go_simp
theorem roadbookref07_Same.fa10 (h : ρ_ x_ = .pointer (some ⟨gb_, 0, none⟩)) : (execOp ρ_ { dst := d_, op := .fieldAddr 34 x_ 10, type := t_, pos := p_, after := af_, guard := g_ }).run Try.prog w_ = .ok (.value (.pointer (some ⟨gb_, 10, none⟩))) w_ := by
 have hu_ := Try.underlying34
 simp only [execOp, h]
 go_simp
theorem roadbookref07_Same.fa11 (h : ρ_ x_ = .pointer (some ⟨gb_, 0, none⟩)) : (execOp ρ_ { dst := d_, op := .fieldAddr 34 x_ 11, type := t_, pos := p_, after := af_, guard := g_ }).run Try.prog w_ = .ok (.value (.pointer (some ⟨gb_, 11, none⟩))) w_ := by
 have hu_ := Try.underlying34
 simp only [execOp, h]
 go_simp
theorem roadbookref07_Same.fa12 (h : ρ_ x_ = .pointer (some ⟨gb_, 0, none⟩)) : (execOp ρ_ { dst := d_, op := .fieldAddr 34 x_ 12, type := t_, pos := p_, after := af_, guard := g_ }).run Try.prog w_ = .ok (.value (.pointer (some ⟨gb_, 12, none⟩))) w_ := by
 have hu_ := Try.underlying34
 simp only [execOp, h]
 go_simp
theorem roadbookref07_Same.fa13 (h : ρ_ x_ = .pointer (some ⟨gb_, 0, none⟩)) : (execOp ρ_ { dst := d_, op := .fieldAddr 34 x_ 13, type := t_, pos := p_, after := af_, guard := g_ }).run Try.prog w_ = .ok (.value (.pointer (some ⟨gb_, 13, none⟩))) w_ := by
 have hu_ := Try.underlying34
 simp only [execOp, h]
 go_simp
theorem roadbookref07_Same.fa14 (h : ρ_ x_ = .pointer (some ⟨gb_, 0, none⟩)) : (execOp ρ_ { dst := d_, op := .fieldAddr 34 x_ 14, type := t_, pos := p_, after := af_, guard := g_ }).run Try.prog w_ = .ok (.value (.pointer (some ⟨gb_, 14, none⟩))) w_ := by
 have hu_ := Try.underlying34
 simp only [execOp, h]
 go_simp
theorem roadbookref07_Same.fa15 (h : ρ_ x_ = .pointer (some ⟨gb_, 0, none⟩)) : (execOp ρ_ { dst := d_, op := .fieldAddr 34 x_ 15, type := t_, pos := p_, after := af_, guard := g_ }).run Try.prog w_ = .ok (.value (.pointer (some ⟨gb_, 15, none⟩))) w_ := by
 have hu_ := Try.underlying34
 simp only [execOp, h]
 go_simp
theorem roadbookref07_Same.fa16 (h : ρ_ x_ = .pointer (some ⟨gb_, 0, none⟩)) : (execOp ρ_ { dst := d_, op := .fieldAddr 34 x_ 16, type := t_, pos := p_, after := af_, guard := g_ }).run Try.prog w_ = .ok (.value (.pointer (some ⟨gb_, 16, none⟩))) w_ := by
 have hu_ := Try.underlying34
 simp only [execOp, h]
 go_simp
theorem roadbookref07_Same.fa17 (h : ρ_ x_ = .pointer (some ⟨gb_, 0, none⟩)) : (execOp ρ_ { dst := d_, op := .fieldAddr 34 x_ 17, type := t_, pos := p_, after := af_, guard := g_ }).run Try.prog w_ = .ok (.value (.pointer (some ⟨gb_, 17, none⟩))) w_ := by
 have hu_ := Try.underlying34
 simp only [execOp, h]
 go_simp
theorem roadbookref07_Same.fa18 (h : ρ_ x_ = .pointer (some ⟨gb_, 0, none⟩)) : (execOp ρ_ { dst := d_, op := .fieldAddr 34 x_ 18, type := t_, pos := p_, after := af_, guard := g_ }).run Try.prog w_ = .ok (.value (.pointer (some ⟨gb_, 18, none⟩))) w_ := by
 have hu_ := Try.underlying34
 simp only [execOp, h]
 go_simp
theorem roadbookref07_Same.fa19 (h : ρ_ x_ = .pointer (some ⟨gb_, 0, none⟩)) : (execOp ρ_ { dst := d_, op := .fieldAddr 34 x_ 19, type := t_, pos := p_, after := af_, guard := g_ }).run Try.prog w_ = .ok (.value (.pointer (some ⟨gb_, 19, none⟩))) w_ := by
 have hu_ := Try.underlying34
 simp only [execOp, h]
 go_simp
theorem roadbookref07_Same.fa20 (h : ρ_ x_ = .pointer (some ⟨gb_, 0, none⟩)) : (execOp ρ_ { dst := d_, op := .fieldAddr 34 x_ 20, type := t_, pos := p_, after := af_, guard := g_ }).run Try.prog w_ = .ok (.value (.pointer (some ⟨gb_, 20, none⟩))) w_ := by
 have hu_ := Try.underlying34
 simp only [execOp, h]
 go_simp
theorem roadbookref07_Same.fa22 (h : ρ_ x_ = .pointer (some ⟨gb_, 0, none⟩)) : (execOp ρ_ { dst := d_, op := .fieldAddr 34 x_ 22, type := t_, pos := p_, after := af_, guard := g_ }).run Try.prog w_ = .ok (.value (.pointer (some ⟨gb_, 22, none⟩))) w_ := by
 have hu_ := Try.underlying34
 simp only [execOp, h]
 go_simp
theorem roadbookref07_Same.fa23 (h : ρ_ x_ = .pointer (some ⟨gb_, 0, none⟩)) : (execOp ρ_ { dst := d_, op := .fieldAddr 34 x_ 23, type := t_, pos := p_, after := af_, guard := g_ }).run Try.prog w_ = .ok (.value (.pointer (some ⟨gb_, 23, none⟩))) w_ := by
 have hu_ := Try.underlying34
 simp only [execOp, h]
 go_simp
theorem roadbookref07_Same.ldi {v_ : Value} (h : ρ_ x_ = .pointer (some ⟨gb_, f_, none⟩)) (hc : w_.cell? ⟨gb_, f_, none⟩ = some v_) : (execOp ρ_ { dst := d_, op := .load 3 x_, type := t_, pos := p_, after := af_, guard := g_ }).run Try.prog w_ = .ok (.value v_) w_ := by
 simp only [execOp, h]
 go_simp
theorem roadbookref07_Same.lds {v_ : Value} (h : ρ_ x_ = .pointer (some ⟨gb_, f_, none⟩)) (hc : w_.cell? ⟨gb_, f_, none⟩ = some v_) : (execOp ρ_ { dst := d_, op := .load 9 x_, type := t_, pos := p_, after := af_, guard := g_ }).run Try.prog w_ = .ok (.value v_) w_ := by
 simp only [execOp, h]
 go_simp
theorem roadbookref07_Same.nei {m_ n_ : Int} (hx : ρ_ x_ = .int .i64 m_) (hy : ρ_ y_ = .int .i64 n_) : (execOp ρ_ { dst := d_, op := .binOp .neq 3 x_ y_ t2_, type := t_, pos := p_, after := af_, guard := g_ }).run Try.prog w_ = .ok (.value (.bool (m_ != n_))) w_ := by
 simp only [execOp, hx, hy]
 go_simp
theorem roadbookref07_Same.nes {m_ n_ : ByteArray} (hx : ρ_ x_ = .string m_) (hy : ρ_ y_ = .string n_) : (execOp ρ_ { dst := d_, op := .binOp .neq 9 x_ y_ t2_, type := t_, pos := p_, after := af_, guard := g_ }).run Try.prog w_ = .ok (.value (.bool (m_.toList != n_.toList))) w_ := by
 simp only [execOp, hx, hy]
 go_simp
 simp only [bne, Bool.not_not]
end
set_option maxHeartbeats 8000000 in
set_option maxRecDepth 100000 in
theorem roadbookref07_Same.calls (k : Nat) (aA : Int) (aq : Int) (ar : Int) (av : ByteArray) (aw : Int) (ax : Int) (aC : ByteArray) (aD : Int) (ay : Int) (az : ByteArray) (ag : Int) (ai : ByteArray) (ao : Int) (ac : Int) (ap : Int) (an : Int) (ak : Int) (al : Int) (ae : Int) (am : ByteArray) (aj : ByteArray) (bZ : Option Addr) (ca : Nat) (ab : List (S66)) (af : Int) (ah : ByteArray) (cC : Option Addr) (cD : Nat) (au : List (S68)) (bk : Int) (bl : Int) (aT : Int) (bK : ByteArray) (bL : Int) (bM : Int) (bU : ByteArray) (bV : Int) (bW : Int) (bX : ByteArray) (bj : Int) (aU : ByteArray) (aV : Int) (aW : Int) (aX : Int) (aY : Int) (aZ : Int) (ba : Int) (bb : Int) (bf : ByteArray) (bg : ByteArray) (dK : Option Addr) (dL : Nat) (bh : List (S66)) (bi : Int) (bn : ByteArray) (ej : Option Addr) (ek : Nat) (bm : List (S68)) (r : Bool) (w : World) (cM : Kd.C k66 w bZ ab.length ab) (cN : ab.length ≤ ca) (cO : Kd.C k68 w cC au.length au) (cP : au.length ≤ cD) (fi : Kd.C k66 w dK bh.length bh) (fj : bh.length ≤ dL) (fk : Kd.C k68 w ej bm.length bm) (fl : bm.length ≤ ek) (h : roadbookref07_Same.f k aA aq ar av aw ax aC aD ay az ag ai ao ac ap an ak al ae am aj ab af ah au bk bl aT bK bL bM bU bV bW bX bj aU aV aW aX aY aZ ba bb bf bg bh bi bn bm = some r) :
  Calls Try.prog 25 #[.agg #[.int .i64 aA, .int .i64 aq, .int .i64 ar, .string av, .int .i64 aw, .int .i64 ax, .string aC, .int .i64 aD, .int .i64 ay, .string az, .int .i64 ag, .string ai, .int .i64 ao, .int .i64 ac, .int .i64 ap, .int .i64 an, .int .i64 ak, .int .i64 al, .int .i64 ae, .string am, .string aj, .slice bZ ab.length ca, .int .i64 af, .string ah, .slice cC au.length cD], .agg #[.int .i64 bk, .int .i64 bl, .int .i64 aT, .string bK, .int .i64 bL, .int .i64 bM, .string bU, .int .i64 bV, .int .i64 bW, .string bX, .int .i64 bj, .string aU, .int .i64 aV, .int .i64 aW, .int .i64 aX, .int .i64 aY, .int .i64 aZ, .int .i64 ba, .int .i64 bb, .string bf, .string bg, .slice dK bh.length dL, .int .i64 bi, .string bn, .slice ej bm.length ek]] w fun e w' => e = .returned (.bool r) ∧ Below w.heap.size w w' := by
 have fu := Try.underlying34
 have dZ := Aside0.mk cM
 have cU := Aside0.mk cN
 clear cM cN
 have dI := Aside0.mk cO
 have cZ := Aside0.mk cP
 clear cO cP
 have gX := Aside0.mk fi
 have fm := Aside0.mk fj
 clear fi fj
 have gY := Aside0.mk fk
 have gZ := Aside0.mk fl
 clear fk fl
 have HB := Aside0.mk (Below.refl w.heap.size w)
 have H : (if aA = bk then (if aq = bl then (if ar = aT then (if av.toList = bK.toList then (if aw = bL then (if ax = bM then (if aC.toList = bU.toList then (if aD = bV then (if ay = bW then (if az.toList = bX.toList then (roadbookref07_Same.j0 k (ag != bj) aA aq ar av aw ax aC aD ay az ag ai ao ac ap an ak al ae am aj ab af ah au bk bl aT bK bL bM bU bV bW bX bj aU aV aW aX aY aZ ba bb bf bg bh bi bn bm) else (roadbookref07_Same.j0 k true aA aq ar av aw ax aC aD ay az ag ai ao ac ap an ak al ae am aj ab af ah au bk bl aT bK bL bM bU bV bW bX bj aU aV aW aX aY aZ ba bb bf bg bh bi bn bm)) else (roadbookref07_Same.j0 k true aA aq ar av aw ax aC aD ay az ag ai ao ac ap an ak al ae am aj ab af ah au bk bl aT bK bL bM bU bV bW bX bj aU aV aW aX aY aZ ba bb bf bg bh bi bn bm)) else (roadbookref07_Same.j0 k true aA aq ar av aw ax aC aD ay az ag ai ao ac ap an ak al ae am aj ab af ah au bk bl aT bK bL bM bU bV bW bX bj aU aV aW aX aY aZ ba bb bf bg bh bi bn bm)) else (roadbookref07_Same.j0 k true aA aq ar av aw ax aC aD ay az ag ai ao ac ap an ak al ae am aj ab af ah au bk bl aT bK bL bM bU bV bW bX bj aU aV aW aX aY aZ ba bb bf bg bh bi bn bm)) else (roadbookref07_Same.j0 k true aA aq ar av aw ax aC aD ay az ag ai ao ac ap an ak al ae am aj ab af ah au bk bl aT bK bL bM bU bV bW bX bj aU aV aW aX aY aZ ba bb bf bg bh bi bn bm)) else (roadbookref07_Same.j0 k true aA aq ar av aw ax aC aD ay az ag ai ao ac ap an ak al ae am aj ab af ah au bk bl aT bK bL bM bU bV bW bX bj aU aV aW aX aY aZ ba bb bf bg bh bi bn bm)) else (roadbookref07_Same.j0 k true aA aq ar av aw ax aC aD ay az ag ai ao ac ap an ak al ae am aj ab af ah au bk bl aT bK bL bM bU bV bW bX bj aU aV aW aX aY aZ ba bb bf bg bh bi bn bm)) else (roadbookref07_Same.j0 k true aA aq ar av aw ax aC aD ay az ag ai ao ac ap an ak al ae am aj ab af ah au bk bl aT bK bL bM bU bV bW bX bj aU aV aW aX aY aZ ba bb bf bg bh bi bn bm)) else (roadbookref07_Same.j0 k true aA aq ar av aw ax aC aD ay az ag ai ao ac ap an ak al ae am aj ab af ah au bk bl aT bK bL bM bU bV bW bX bj aU aV aW aX aY aZ ba bb bf bg bh bi bn bm)) else (roadbookref07_Same.j0 k true aA aq ar av aw ax aC aD ay az ag ai ao ac ap an ak al ae am aj ab af ah au bk bl aT bK bL bM bU bV bW bX bj aU aV aW aX aY aZ ba bb bf bg bh bi bn bm)) = some r := h
 clear h
 have dg := Aside0.mk H
 clear H
 go_enter Try.func25, Try.ntmps25
 go_upto_region 1 with (first | ((with_reducible refine gate_dst (N := 2) rfl ?_); refine Sq.box 2 #[.int .i64 aA, .int .i64 aq, .int .i64 ar, .string av, .int .i64 aw, .int .i64 ax, .string aC, .int .i64 aD, .int .i64 ay, .string az, .int .i64 ag, .string ai, .int .i64 ao, .int .i64 ac, .int .i64 ap, .int .i64 an, .int .i64 ak, .int .i64 al, .int .i64 ae, .string am, .string aj, .slice bZ ab.length ca, .int .i64 af, .string ah, .slice cC au.length cD] 34 ?_; intro aE hg w4 hbox hb; have aG := Aside0.mk (hbox); have cS := Aside0.mk (Sq.ge hg Z0); have cL := Aside0.mk (Sq.ge hg Z0); replace HB := Aside0.mk (below_step Z0 hb); clear hb hbox hg) | ((with_reducible refine gate_dst (N := 3) rfl ?_); refine Sq.box 3 #[.int .i64 bk, .int .i64 bl, .int .i64 aT, .string bK, .int .i64 bL, .int .i64 bM, .string bU, .int .i64 bV, .int .i64 bW, .string bX, .int .i64 bj, .string aU, .int .i64 aV, .int .i64 aW, .int .i64 aX, .int .i64 aY, .int .i64 aZ, .int .i64 ba, .int .i64 bb, .string bf, .string bg, .slice dK bh.length dL, .int .i64 bi, .string bn, .slice ej bm.length ek] 34 ?_; intro aK hg w5 hbox hb; have cW := Aside0.mk (hbox); have ii := Aside0.mk (Sq.ge hg Z3); have fn := Aside0.mk (Sq.ge hg Z3); have cX := Aside0.mk (Sq.nl hg (blk_lt (g := aE) Z6)); have dh := Aside0.mk (Sq.ng hg (blk_lt (g := aE) Z6)); replace aG := Aside0.mk (blk_below (g := aE) Z6 hb); replace HB := Aside0.mk (below_step Z3 hb); clear hb hbox hg))
 (try simp only [Act.put, Sq.s1, Sq.s2, Sq.s3])
 go_cut [79] (fun jX wc => ∃ (kq : Nat) (eQ : Bool), jX = .bool eQ ∧ Aside0 (roadbookref07_Same.j0 kq eQ aA aq ar av aw ax aC aD ay az ag ai ao ac ap an ak al ae am aj ab af ah au bk bl aT bK bL bM bU bV bW bX bj aU aV aW aX aY aZ ba bb bf bg bh bi bn bm = some r) ∧ Aside0 (kq ≤ k) ∧ Aside0 (wc.heap[aE]? = some (.cells #[.int .i64 aA, .int .i64 aq, .int .i64 ar, .string av, .int .i64 aw, .int .i64 ax, .string aC, .int .i64 aD, .int .i64 ay, .string az, .int .i64 ag, .string ai, .int .i64 ao, .int .i64 ac, .int .i64 ap, .int .i64 an, .int .i64 ak, .int .i64 al, .int .i64 ae, .string am, .string aj, (.slice bZ ab.length ca), .int .i64 af, .string ah, (.slice cC au.length cD)] 34 (0, 0))) ∧ Aside0 (wc.heap[aK]? = some (.cells #[.int .i64 bk, .int .i64 bl, .int .i64 aT, .string bK, .int .i64 bL, .int .i64 bM, .string bU, .int .i64 bV, .int .i64 bW, .string bX, .int .i64 bj, .string aU, .int .i64 aV, .int .i64 aW, .int .i64 aX, .int .i64 aY, .int .i64 aZ, .int .i64 ba, .int .i64 bb, .string bf, .string bg, (.slice dK bh.length dL), .int .i64 bi, .string bn, (.slice ej bm.length ek)] 34 (0, 0))) ∧ Aside0 (Below w.heap.size w wc))
 case first =>
  rename_i J_ K_ hJ_ hK_
  have HJ_ : roadbookref07_Same.j0 k (((((((((((aA != bk) || (aq != bl)) || (ar != aT)) || (av.toList != bK.toList)) || (aw != bL)) || (ax != bM)) || (aC.toList != bU.toList)) || (aD != bV)) || (ay != bW)) || (az.toList != bX.toList)) || (ag != bj)) aA aq ar av aw ax aC aD ay az ag ai ao ac ap an ak al ae am aj ab af ah au bk bl aT bK bL bM bU bV bW bX bj aU aV aW aX aY aZ ba bb bf bg bh bi bn bm = some r := by
   have H := dg.out
   by_cases q0 : aA = bk
   ·rw [if_pos q0] at H
    have d0 : (aA != bk) = false := bne_eq_false_iff_eq.mpr q0
    by_cases q1 : aq = bl
    ·rw [if_pos q1] at H
     have d1 : (aq != bl) = false := bne_eq_false_iff_eq.mpr q1
     by_cases q2 : ar = aT
     ·rw [if_pos q2] at H
      have d2 : (ar != aT) = false := bne_eq_false_iff_eq.mpr q2
      by_cases q3 : av.toList = bK.toList
      ·rw [if_pos q3] at H
       have d3 : (av.toList != bK.toList) = false := bne_eq_false_iff_eq.mpr q3
       by_cases q4 : aw = bL
       ·rw [if_pos q4] at H
        have d4 : (aw != bL) = false := bne_eq_false_iff_eq.mpr q4
        by_cases q5 : ax = bM
        ·rw [if_pos q5] at H
         have d5 : (ax != bM) = false := bne_eq_false_iff_eq.mpr q5
         by_cases q6 : aC.toList = bU.toList
         ·rw [if_pos q6] at H
          have d6 : (aC.toList != bU.toList) = false := bne_eq_false_iff_eq.mpr q6
          by_cases q7 : aD = bV
          ·rw [if_pos q7] at H
           have d7 : (aD != bV) = false := bne_eq_false_iff_eq.mpr q7
           by_cases q8 : ay = bW
           ·rw [if_pos q8] at H
            have d8 : (ay != bW) = false := bne_eq_false_iff_eq.mpr q8
            by_cases q9 : az.toList = bX.toList
            ·rw [if_pos q9] at H
             have d9 : (az.toList != bX.toList) = false := bne_eq_false_iff_eq.mpr q9
             rw [d0, d1, d2, d3, d4, d5, d6, d7, d8, d9]; simp only [Bool.false_or]; exact H
            ·rw [if_neg q9] at H
             have d9 : (az.toList != bX.toList) = true := bne_iff_ne.mpr q9
             rw [d0, d1, d2, d3, d4, d5, d6, d7, d8, d9]; simp only [Bool.false_or, Bool.true_or, Bool.or_true]; exact H
           ·rw [if_neg q8] at H
            have d8 : (ay != bW) = true := bne_iff_ne.mpr q8
            rw [d0, d1, d2, d3, d4, d5, d6, d7, d8]; simp only [Bool.false_or, Bool.true_or, Bool.or_true]; exact H
          ·rw [if_neg q7] at H
           have d7 : (aD != bV) = true := bne_iff_ne.mpr q7
           rw [d0, d1, d2, d3, d4, d5, d6, d7]; simp only [Bool.false_or, Bool.true_or, Bool.or_true]; exact H
         ·rw [if_neg q6] at H
          have d6 : (aC.toList != bU.toList) = true := bne_iff_ne.mpr q6
          rw [d0, d1, d2, d3, d4, d5, d6]; simp only [Bool.false_or, Bool.true_or, Bool.or_true]; exact H
        ·rw [if_neg q5] at H
         have d5 : (ax != bM) = true := bne_iff_ne.mpr q5
         rw [d0, d1, d2, d3, d4, d5]; simp only [Bool.false_or, Bool.true_or, Bool.or_true]; exact H
       ·rw [if_neg q4] at H
        have d4 : (aw != bL) = true := bne_iff_ne.mpr q4
        rw [d0, d1, d2, d3, d4]; simp only [Bool.false_or, Bool.true_or, Bool.or_true]; exact H
      ·rw [if_neg q3] at H
       have d3 : (av.toList != bK.toList) = true := bne_iff_ne.mpr q3
       rw [d0, d1, d2, d3]; simp only [Bool.false_or, Bool.true_or, Bool.or_true]; exact H
     ·rw [if_neg q2] at H
      have d2 : (ar != aT) = true := bne_iff_ne.mpr q2
      rw [d0, d1, d2]; simp only [Bool.false_or, Bool.true_or, Bool.or_true]; exact H
    ·rw [if_neg q1] at H
     have d1 : (aq != bl) = true := bne_iff_ne.mpr q1
     rw [d0, d1]; simp only [Bool.false_or, Bool.true_or, Bool.or_true]; exact H
   ·rw [if_neg q0] at H
    have d0 : (aA != bk) = true := bne_iff_ne.mpr q0
    rw [d0]; simp only [Bool.false_or, Bool.true_or, Bool.or_true]; exact H
  obtain ⟨hp0, hp1, hp2, hp3, hp4, hp5, hp6, hp7, hp8, hp9, hp10, -, -, -, -, -, -, -, -, -, -, -, -, -, -, -, -, -, -, -, -, -, -, -, -, -, -, -, -, -, -, -, -, -, -, -, -, -, -, -⟩ := cells_25 aG.out
  obtain ⟨hq0, hq1, hq2, hq3, hq4, hq5, hq6, hq7, hq8, hq9, hq10, -, -, -, -, -, -, -, -, -, -, -, -, -, -, -, -, -, -, -, -, -, -, -, -, -, -, -, -, -, -, -, -, -, -, -, -, -, -, -⟩ := cells_25 cW.out
  refine wp_region_lit ?_
  refine Pre.row_first (p := 2) (q := 3) (n := 5) (N := 174) (lo := 5) (A1 := .pointer (some ⟨aE, 0, none⟩)) (A2 := .pointer (some ⟨aK, 0, none⟩)) (B1 := .pointer (some ⟨aE, 0, none⟩)) (B2 := .pointer (some ⟨aK, 0, none⟩)) (X1 := .int .i64 aA) (X2 := .int .i64 bk) (e := aA != bk) rfl rfl Z18 rfl rfl Z18 Z18 Z18 (fun _ _ _ _ _ _ h_ => roadbookref07_Same.fa0 h_) (fun _ _ _ _ _ _ h_ => roadbookref07_Same.fa0 h_) (fun _ _ _ _ _ _ h_ => roadbookref07_Same.ldi h_ hp0) (fun _ _ _ _ _ _ h_ => roadbookref07_Same.ldi h_ hq0) (fun _ _ _ _ _ _ _ _ h_ h2_ => roadbookref07_Same.nei h_ h2_) ?_
  intro a0_ hst_
  refine Pre.row_next (n := 11) (A1 := .pointer (some ⟨aE, 0, none⟩)) (A2 := .pointer (some ⟨aK, 0, none⟩)) (B1 := .pointer (some ⟨aE, 1, none⟩)) (B2 := .pointer (some ⟨aK, 1, none⟩)) (X1 := .int .i64 aq) (X2 := .int .i64 bl) (e := aq != bl) rfl hst_ Z18 Z18 Z18 Z18 Z18 (fun _ _ _ _ _ _ h_ => roadbookref07_Same.fa1 h_) (fun _ _ _ _ _ _ h_ => roadbookref07_Same.fa1 h_) (fun _ _ _ _ _ _ h_ => roadbookref07_Same.ldi h_ hp1) (fun _ _ _ _ _ _ h_ => roadbookref07_Same.ldi h_ hq1) (fun _ _ _ _ _ _ _ _ h_ h2_ => roadbookref07_Same.nei h_ h2_) ?_
  intro a1_ hst_
  refine Pre.row_next (n := 18) (A1 := .pointer (some ⟨aE, 0, none⟩)) (A2 := .pointer (some ⟨aK, 0, none⟩)) (B1 := .pointer (some ⟨aE, 2, none⟩)) (B2 := .pointer (some ⟨aK, 2, none⟩)) (X1 := .int .i64 ar) (X2 := .int .i64 aT) (e := ar != aT) rfl hst_ Z18 Z18 Z18 Z18 Z18 (fun _ _ _ _ _ _ h_ => roadbookref07_Same.fa2 h_) (fun _ _ _ _ _ _ h_ => roadbookref07_Same.fa2 h_) (fun _ _ _ _ _ _ h_ => roadbookref07_Same.ldi h_ hp2) (fun _ _ _ _ _ _ h_ => roadbookref07_Same.ldi h_ hq2) (fun _ _ _ _ _ _ _ _ h_ h2_ => roadbookref07_Same.nei h_ h2_) ?_
  intro a2_ hst_
  refine Pre.row_next (n := 25) (A1 := .pointer (some ⟨aE, 0, none⟩)) (A2 := .pointer (some ⟨aK, 0, none⟩)) (B1 := .pointer (some ⟨aE, 3, none⟩)) (B2 := .pointer (some ⟨aK, 3, none⟩)) (X1 := .string av) (X2 := .string bK) (e := av.toList != bK.toList) rfl hst_ Z18 Z18 Z18 Z18 Z18 (fun _ _ _ _ _ _ h_ => roadbookref07_Same.fa3 h_) (fun _ _ _ _ _ _ h_ => roadbookref07_Same.fa3 h_) (fun _ _ _ _ _ _ h_ => roadbookref07_Same.lds h_ hp3) (fun _ _ _ _ _ _ h_ => roadbookref07_Same.lds h_ hq3) (fun _ _ _ _ _ _ _ _ h_ h2_ => roadbookref07_Same.nes h_ h2_) ?_
  intro a3_ hst_
  refine Pre.row_next (n := 32) (A1 := .pointer (some ⟨aE, 0, none⟩)) (A2 := .pointer (some ⟨aK, 0, none⟩)) (B1 := .pointer (some ⟨aE, 4, none⟩)) (B2 := .pointer (some ⟨aK, 4, none⟩)) (X1 := .int .i64 aw) (X2 := .int .i64 bL) (e := aw != bL) rfl hst_ Z18 Z18 Z18 Z18 Z18 (fun _ _ _ _ _ _ h_ => roadbookref07_Same.fa4 h_) (fun _ _ _ _ _ _ h_ => roadbookref07_Same.fa4 h_) (fun _ _ _ _ _ _ h_ => roadbookref07_Same.ldi h_ hp4) (fun _ _ _ _ _ _ h_ => roadbookref07_Same.ldi h_ hq4) (fun _ _ _ _ _ _ _ _ h_ h2_ => roadbookref07_Same.nei h_ h2_) ?_
  intro a4_ hst_
  refine Pre.row_next (n := 39) (A1 := .pointer (some ⟨aE, 0, none⟩)) (A2 := .pointer (some ⟨aK, 0, none⟩)) (B1 := .pointer (some ⟨aE, 5, none⟩)) (B2 := .pointer (some ⟨aK, 5, none⟩)) (X1 := .int .i64 ax) (X2 := .int .i64 bM) (e := ax != bM) rfl hst_ Z18 Z18 Z18 Z18 Z18 (fun _ _ _ _ _ _ h_ => roadbookref07_Same.fa5 h_) (fun _ _ _ _ _ _ h_ => roadbookref07_Same.fa5 h_) (fun _ _ _ _ _ _ h_ => roadbookref07_Same.ldi h_ hp5) (fun _ _ _ _ _ _ h_ => roadbookref07_Same.ldi h_ hq5) (fun _ _ _ _ _ _ _ _ h_ h2_ => roadbookref07_Same.nei h_ h2_) ?_
  intro a5_ hst_
  refine Pre.row_next (n := 46) (A1 := .pointer (some ⟨aE, 0, none⟩)) (A2 := .pointer (some ⟨aK, 0, none⟩)) (B1 := .pointer (some ⟨aE, 6, none⟩)) (B2 := .pointer (some ⟨aK, 6, none⟩)) (X1 := .string aC) (X2 := .string bU) (e := aC.toList != bU.toList) rfl hst_ Z18 Z18 Z18 Z18 Z18 (fun _ _ _ _ _ _ h_ => roadbookref07_Same.fa6 h_) (fun _ _ _ _ _ _ h_ => roadbookref07_Same.fa6 h_) (fun _ _ _ _ _ _ h_ => roadbookref07_Same.lds h_ hp6) (fun _ _ _ _ _ _ h_ => roadbookref07_Same.lds h_ hq6) (fun _ _ _ _ _ _ _ _ h_ h2_ => roadbookref07_Same.nes h_ h2_) ?_
  intro a6_ hst_
  refine Pre.row_next (n := 53) (A1 := .pointer (some ⟨aE, 0, none⟩)) (A2 := .pointer (some ⟨aK, 0, none⟩)) (B1 := .pointer (some ⟨aE, 7, none⟩)) (B2 := .pointer (some ⟨aK, 7, none⟩)) (X1 := .int .i64 aD) (X2 := .int .i64 bV) (e := aD != bV) rfl hst_ Z18 Z18 Z18 Z18 Z18 (fun _ _ _ _ _ _ h_ => roadbookref07_Same.fa7 h_) (fun _ _ _ _ _ _ h_ => roadbookref07_Same.fa7 h_) (fun _ _ _ _ _ _ h_ => roadbookref07_Same.ldi h_ hp7) (fun _ _ _ _ _ _ h_ => roadbookref07_Same.ldi h_ hq7) (fun _ _ _ _ _ _ _ _ h_ h2_ => roadbookref07_Same.nei h_ h2_) ?_
  intro a7_ hst_
  refine Pre.row_next (n := 60) (A1 := .pointer (some ⟨aE, 0, none⟩)) (A2 := .pointer (some ⟨aK, 0, none⟩)) (B1 := .pointer (some ⟨aE, 8, none⟩)) (B2 := .pointer (some ⟨aK, 8, none⟩)) (X1 := .int .i64 ay) (X2 := .int .i64 bW) (e := ay != bW) rfl hst_ Z18 Z18 Z18 Z18 Z18 (fun _ _ _ _ _ _ h_ => roadbookref07_Same.fa8 h_) (fun _ _ _ _ _ _ h_ => roadbookref07_Same.fa8 h_) (fun _ _ _ _ _ _ h_ => roadbookref07_Same.ldi h_ hp8) (fun _ _ _ _ _ _ h_ => roadbookref07_Same.ldi h_ hq8) (fun _ _ _ _ _ _ _ _ h_ h2_ => roadbookref07_Same.nei h_ h2_) ?_
  intro a8_ hst_
  refine Pre.row_next (n := 67) (A1 := .pointer (some ⟨aE, 0, none⟩)) (A2 := .pointer (some ⟨aK, 0, none⟩)) (B1 := .pointer (some ⟨aE, 9, none⟩)) (B2 := .pointer (some ⟨aK, 9, none⟩)) (X1 := .string az) (X2 := .string bX) (e := az.toList != bX.toList) rfl hst_ Z18 Z18 Z18 Z18 Z18 (fun _ _ _ _ _ _ h_ => roadbookref07_Same.fa9 h_) (fun _ _ _ _ _ _ h_ => roadbookref07_Same.fa9 h_) (fun _ _ _ _ _ _ h_ => roadbookref07_Same.lds h_ hp9) (fun _ _ _ _ _ _ h_ => roadbookref07_Same.lds h_ hq9) (fun _ _ _ _ _ _ _ _ h_ h2_ => roadbookref07_Same.nes h_ h2_) ?_
  intro a9_ hst_
  refine Pre.row_last (n := 74) (A1 := .pointer (some ⟨aE, 0, none⟩)) (A2 := .pointer (some ⟨aK, 0, none⟩)) (B1 := .pointer (some ⟨aE, 10, none⟩)) (B2 := .pointer (some ⟨aK, 10, none⟩)) (X1 := .int .i64 ag) (X2 := .int .i64 bj) (e := ag != bj) rfl hst_ Z18 Z18 Z18 Z18 Z18 (fun _ _ _ _ _ _ h_ => roadbookref07_Same.fa10 h_) (fun _ _ _ _ _ _ h_ => roadbookref07_Same.fa10 h_) (fun _ _ _ _ _ _ h_ => roadbookref07_Same.ldi h_ hp10) (fun _ _ _ _ _ _ h_ => roadbookref07_Same.ldi h_ hq10) (fun _ _ _ _ _ _ _ _ h_ h2_ => roadbookref07_Same.nei h_ h2_) ?_
  intro a10_ hst_
  refine wpList_nil ?_
  have e_ := Pre.act_lit hst_.size hst_.defers
  have e2_ : a10_ = ⟨#[a10_.eval (.tmp 0), a10_.eval (.tmp 1), a10_.eval (.tmp 2), a10_.eval (.tmp 3), a10_.eval (.tmp 4), a10_.eval (.tmp 5), a10_.eval (.tmp 6), a10_.eval (.tmp 7), a10_.eval (.tmp 8), a10_.eval (.tmp 9), a10_.eval (.tmp 10), a10_.eval (.tmp 11), a10_.eval (.tmp 12), a10_.eval (.tmp 13), a10_.eval (.tmp 14), a10_.eval (.tmp 15), a10_.eval (.tmp 16), a10_.eval (.tmp 17), a10_.eval (.tmp 18), a10_.eval (.tmp 19), a10_.eval (.tmp 20), a10_.eval (.tmp 21), a10_.eval (.tmp 22), a10_.eval (.tmp 23), a10_.eval (.tmp 24), a10_.eval (.tmp 25), a10_.eval (.tmp 26), a10_.eval (.tmp 27), a10_.eval (.tmp 28), a10_.eval (.tmp 29), a10_.eval (.tmp 30), a10_.eval (.tmp 31), a10_.eval (.tmp 32), a10_.eval (.tmp 33), a10_.eval (.tmp 34), a10_.eval (.tmp 35), a10_.eval (.tmp 36), a10_.eval (.tmp 37), a10_.eval (.tmp 38), a10_.eval (.tmp 39), a10_.eval (.tmp 40), a10_.eval (.tmp 41), a10_.eval (.tmp 42), a10_.eval (.tmp 43), a10_.eval (.tmp 44), a10_.eval (.tmp 45), a10_.eval (.tmp 46), a10_.eval (.tmp 47), a10_.eval (.tmp 48), a10_.eval (.tmp 49), a10_.eval (.tmp 50), a10_.eval (.tmp 51), a10_.eval (.tmp 52), a10_.eval (.tmp 53), a10_.eval (.tmp 54), a10_.eval (.tmp 55), a10_.eval (.tmp 56), a10_.eval (.tmp 57), a10_.eval (.tmp 58), a10_.eval (.tmp 59), a10_.eval (.tmp 60), a10_.eval (.tmp 61), a10_.eval (.tmp 62), a10_.eval (.tmp 63), a10_.eval (.tmp 64), a10_.eval (.tmp 65), a10_.eval (.tmp 66), a10_.eval (.tmp 67), a10_.eval (.tmp 68), a10_.eval (.tmp 69), a10_.eval (.tmp 70), a10_.eval (.tmp 71), a10_.eval (.tmp 72), a10_.eval (.tmp 73), a10_.eval (.tmp 74), a10_.eval (.tmp 75), a10_.eval (.tmp 76), a10_.eval (.tmp 77), a10_.eval (.tmp 78), a10_.eval (.tmp 79), a10_.eval (.tmp 80), a10_.eval (.tmp 81), a10_.eval (.tmp 82), a10_.eval (.tmp 83), a10_.eval (.tmp 84), a10_.eval (.tmp 85), a10_.eval (.tmp 86), a10_.eval (.tmp 87), a10_.eval (.tmp 88), a10_.eval (.tmp 89), a10_.eval (.tmp 90), a10_.eval (.tmp 91), a10_.eval (.tmp 92), a10_.eval (.tmp 93), a10_.eval (.tmp 94), a10_.eval (.tmp 95), a10_.eval (.tmp 96), a10_.eval (.tmp 97), a10_.eval (.tmp 98), a10_.eval (.tmp 99), a10_.eval (.tmp 100), a10_.eval (.tmp 101), a10_.eval (.tmp 102), a10_.eval (.tmp 103), a10_.eval (.tmp 104), a10_.eval (.tmp 105), a10_.eval (.tmp 106), a10_.eval (.tmp 107), a10_.eval (.tmp 108), a10_.eval (.tmp 109), a10_.eval (.tmp 110), a10_.eval (.tmp 111), a10_.eval (.tmp 112), a10_.eval (.tmp 113), a10_.eval (.tmp 114), a10_.eval (.tmp 115), a10_.eval (.tmp 116), a10_.eval (.tmp 117), a10_.eval (.tmp 118), a10_.eval (.tmp 119), a10_.eval (.tmp 120), a10_.eval (.tmp 121), a10_.eval (.tmp 122), a10_.eval (.tmp 123), a10_.eval (.tmp 124), a10_.eval (.tmp 125), a10_.eval (.tmp 126), a10_.eval (.tmp 127), a10_.eval (.tmp 128), a10_.eval (.tmp 129), a10_.eval (.tmp 130), a10_.eval (.tmp 131), a10_.eval (.tmp 132), a10_.eval (.tmp 133), a10_.eval (.tmp 134), a10_.eval (.tmp 135), a10_.eval (.tmp 136), a10_.eval (.tmp 137), a10_.eval (.tmp 138), a10_.eval (.tmp 139), a10_.eval (.tmp 140), a10_.eval (.tmp 141), a10_.eval (.tmp 142), a10_.eval (.tmp 143), a10_.eval (.tmp 144), a10_.eval (.tmp 145), a10_.eval (.tmp 146), a10_.eval (.tmp 147), a10_.eval (.tmp 148), a10_.eval (.tmp 149), a10_.eval (.tmp 150), a10_.eval (.tmp 151), a10_.eval (.tmp 152), a10_.eval (.tmp 153), a10_.eval (.tmp 154), a10_.eval (.tmp 155), a10_.eval (.tmp 156), a10_.eval (.tmp 157), a10_.eval (.tmp 158), a10_.eval (.tmp 159), a10_.eval (.tmp 160), a10_.eval (.tmp 161), a10_.eval (.tmp 162), a10_.eval (.tmp 163), a10_.eval (.tmp 164), a10_.eval (.tmp 165), a10_.eval (.tmp 166), a10_.eval (.tmp 167), a10_.eval (.tmp 168), a10_.eval (.tmp 169), a10_.eval (.tmp 170), a10_.eval (.tmp 171), a10_.eval (.tmp 172), a10_.eval (.tmp 173)], []⟩ := e_.trans rfl
  clear e_
  have k0_ := hst_.kept 0 Z18
  have k1_ := hst_.kept 1 Z18
  have k2_ := hst_.kept 2 Z18
  have k3_ := hst_.kept 3 Z18
  have k4_ := hst_.kept 4 Z18
  rw [k0_, k1_, k2_, k3_, k4_] at e2_
  exact hK_ _ _ (hJ_ _ _ ⟨a10_.eval (.tmp 5), a10_.eval (.tmp 6), a10_.eval (.tmp 7), a10_.eval (.tmp 8), a10_.eval (.tmp 9), a10_.eval (.tmp 10), a10_.eval (.tmp 11), a10_.eval (.tmp 12), a10_.eval (.tmp 13), a10_.eval (.tmp 14), a10_.eval (.tmp 15), a10_.eval (.tmp 16), a10_.eval (.tmp 17), a10_.eval (.tmp 18), a10_.eval (.tmp 19), a10_.eval (.tmp 20), a10_.eval (.tmp 21), a10_.eval (.tmp 22), a10_.eval (.tmp 23), a10_.eval (.tmp 24), a10_.eval (.tmp 25), a10_.eval (.tmp 26), a10_.eval (.tmp 27), a10_.eval (.tmp 28), a10_.eval (.tmp 29), a10_.eval (.tmp 30), a10_.eval (.tmp 31), a10_.eval (.tmp 32), a10_.eval (.tmp 33), a10_.eval (.tmp 34), a10_.eval (.tmp 35), a10_.eval (.tmp 36), a10_.eval (.tmp 37), a10_.eval (.tmp 38), a10_.eval (.tmp 39), a10_.eval (.tmp 40), a10_.eval (.tmp 41), a10_.eval (.tmp 42), a10_.eval (.tmp 43), a10_.eval (.tmp 44), a10_.eval (.tmp 45), a10_.eval (.tmp 46), a10_.eval (.tmp 47), a10_.eval (.tmp 48), a10_.eval (.tmp 49), a10_.eval (.tmp 50), a10_.eval (.tmp 51), a10_.eval (.tmp 52), a10_.eval (.tmp 53), a10_.eval (.tmp 54), a10_.eval (.tmp 55), a10_.eval (.tmp 56), a10_.eval (.tmp 57), a10_.eval (.tmp 58), a10_.eval (.tmp 59), a10_.eval (.tmp 60), a10_.eval (.tmp 61), a10_.eval (.tmp 62), a10_.eval (.tmp 63), a10_.eval (.tmp 64), a10_.eval (.tmp 65), a10_.eval (.tmp 66), a10_.eval (.tmp 67), a10_.eval (.tmp 68), a10_.eval (.tmp 69), a10_.eval (.tmp 70), a10_.eval (.tmp 71), a10_.eval (.tmp 72), a10_.eval (.tmp 73), a10_.eval (.tmp 74), a10_.eval (.tmp 75), a10_.eval (.tmp 76), a10_.eval (.tmp 77), a10_.eval (.tmp 78), a10_.eval (.tmp 79), a10_.eval (.tmp 80), a10_.eval (.tmp 81), a10_.eval (.tmp 82), a10_.eval (.tmp 83), a10_.eval (.tmp 84), a10_.eval (.tmp 85), a10_.eval (.tmp 86), a10_.eval (.tmp 87), a10_.eval (.tmp 88), a10_.eval (.tmp 89), a10_.eval (.tmp 90), a10_.eval (.tmp 91), a10_.eval (.tmp 92), a10_.eval (.tmp 93), a10_.eval (.tmp 94), a10_.eval (.tmp 95), a10_.eval (.tmp 96), a10_.eval (.tmp 97), a10_.eval (.tmp 98), a10_.eval (.tmp 99), a10_.eval (.tmp 100), a10_.eval (.tmp 101), a10_.eval (.tmp 102), a10_.eval (.tmp 103), a10_.eval (.tmp 104), a10_.eval (.tmp 105), a10_.eval (.tmp 106), a10_.eval (.tmp 107), a10_.eval (.tmp 108), a10_.eval (.tmp 109), a10_.eval (.tmp 110), a10_.eval (.tmp 111), a10_.eval (.tmp 112), a10_.eval (.tmp 113), a10_.eval (.tmp 114), a10_.eval (.tmp 115), a10_.eval (.tmp 116), a10_.eval (.tmp 117), a10_.eval (.tmp 118), a10_.eval (.tmp 119), a10_.eval (.tmp 120), a10_.eval (.tmp 121), a10_.eval (.tmp 122), a10_.eval (.tmp 123), a10_.eval (.tmp 124), a10_.eval (.tmp 125), a10_.eval (.tmp 126), a10_.eval (.tmp 127), a10_.eval (.tmp 128), a10_.eval (.tmp 129), a10_.eval (.tmp 130), a10_.eval (.tmp 131), a10_.eval (.tmp 132), a10_.eval (.tmp 133), a10_.eval (.tmp 134), a10_.eval (.tmp 135), a10_.eval (.tmp 136), a10_.eval (.tmp 137), a10_.eval (.tmp 138), a10_.eval (.tmp 139), a10_.eval (.tmp 140), a10_.eval (.tmp 141), a10_.eval (.tmp 142), a10_.eval (.tmp 143), a10_.eval (.tmp 144), a10_.eval (.tmp 145), a10_.eval (.tmp 146), a10_.eval (.tmp 147), a10_.eval (.tmp 148), a10_.eval (.tmp 149), a10_.eval (.tmp 150), a10_.eval (.tmp 151), a10_.eval (.tmp 152), a10_.eval (.tmp 153), a10_.eval (.tmp 154), a10_.eval (.tmp 155), a10_.eval (.tmp 156), a10_.eval (.tmp 157), a10_.eval (.tmp 158), a10_.eval (.tmp 159), a10_.eval (.tmp 160), a10_.eval (.tmp 161), a10_.eval (.tmp 162), a10_.eval (.tmp 163), a10_.eval (.tmp 164), a10_.eval (.tmp 165), a10_.eval (.tmp 166), a10_.eval (.tmp 167), a10_.eval (.tmp 168), a10_.eval (.tmp 169), a10_.eval (.tmp 170), a10_.eval (.tmp 171), a10_.eval (.tmp 172), a10_.eval (.tmp 173), ⟨k, (((((((((((aA != bk) || (aq != bl)) || (ar != aT)) || (av.toList != bK.toList)) || (aw != bL)) || (ax != bM)) || (aC.toList != bU.toList)) || (aD != bV)) || (ay != bW)) || (az.toList != bX.toList)) || (ag != bj)), hst_.so, ⟨HJ_⟩, ⟨Nat.le_refl _⟩, ⟨aG.out⟩, ⟨cW.out⟩, ⟨HB.out⟩⟩, e2_⟩)
 case rest =>
  clear dg
  try clear c1
  try clear c2
  try clear eO
  obtain ⟨kq, eQ, rfl, HA, HJ2, aG, cW, HB⟩ := hcut
  cases kq with
  | zero => exact absurd HA.out (by simp [roadbookref07_Same.j0])
  | succ kj2 =>
   have H := HA.out
   clear HA
   simp only [roadbookref07_Same.j0] at H
   by_cases ij : eQ = true
   ·subst ij
    replace H := Sq.itT H
    obtain rfl := Option.some.inj H
    go_wp2
    go_ret
    exact ⟨Z2, Z13⟩
   ·replace ij := Bool.eq_false_iff.mpr ij
    subst ij
    replace H := Sq.itF H
    have ik := Aside0.mk H
    clear H
    go_upto_region 3 with (fail)
    go_cut [161] (fun jr wc => ∃ (kq : Nat) (dH : Bool), jr = .bool dH ∧ Aside0 (roadbookref07_Same.j1 kq dH aA aq ar av aw ax aC aD ay az ag ai ao ac ap an ak al ae am aj ab af ah au bk bl aT bK bL bM bU bV bW bX bj aU aV aW aX aY aZ ba bb bf bg bh bi bn bm = some r) ∧ Aside0 (kq ≤ kj2) ∧ Aside0 (wc.heap[aE]? = some (.cells #[.int .i64 aA, .int .i64 aq, .int .i64 ar, .string av, .int .i64 aw, .int .i64 ax, .string aC, .int .i64 aD, .int .i64 ay, .string az, .int .i64 ag, .string ai, .int .i64 ao, .int .i64 ac, .int .i64 ap, .int .i64 an, .int .i64 ak, .int .i64 al, .int .i64 ae, .string am, .string aj, (.slice bZ ab.length ca), .int .i64 af, .string ah, (.slice cC au.length cD)] 34 (0, 0))) ∧ Aside0 (wc.heap[aK]? = some (.cells #[.int .i64 bk, .int .i64 bl, .int .i64 aT, .string bK, .int .i64 bL, .int .i64 bM, .string bU, .int .i64 bV, .int .i64 bW, .string bX, .int .i64 bj, .string aU, .int .i64 aV, .int .i64 aW, .int .i64 aX, .int .i64 aY, .int .i64 aZ, .int .i64 ba, .int .i64 bb, .string bf, .string bg, (.slice dK bh.length dL), .int .i64 bi, .string bn, (.slice ej bm.length ek)] 34 (0, 0))) ∧ Aside0 (Below w.heap.size w wc))
    case first =>
     rename_i J_ K_ hJ_ hK_
     have HJ_ : roadbookref07_Same.j1 kj2 ((((((((((((ai.toList != aU.toList) || (ao != aV)) || (ac != aW)) || (ap != aX)) || (an != aY)) || (ak != aZ)) || (al != ba)) || (ae != bb)) || (am.toList != bf.toList)) || (aj.toList != bg.toList)) || (af != bi)) || (ah.toList != bn.toList)) aA aq ar av aw ax aC aD ay az ag ai ao ac ap an ak al ae am aj ab af ah au bk bl aT bK bL bM bU bV bW bX bj aU aV aW aX aY aZ ba bb bf bg bh bi bn bm = some r := by
      have H := ik.out
      by_cases q0 : ai.toList = aU.toList
      ·rw [if_pos q0] at H
       have d0 : (ai.toList != aU.toList) = false := bne_eq_false_iff_eq.mpr q0
       by_cases q1 : ao = aV
       ·rw [if_pos q1] at H
        have d1 : (ao != aV) = false := bne_eq_false_iff_eq.mpr q1
        by_cases q2 : ac = aW
        ·rw [if_pos q2] at H
         have d2 : (ac != aW) = false := bne_eq_false_iff_eq.mpr q2
         by_cases q3 : ap = aX
         ·rw [if_pos q3] at H
          have d3 : (ap != aX) = false := bne_eq_false_iff_eq.mpr q3
          by_cases q4 : an = aY
          ·rw [if_pos q4] at H
           have d4 : (an != aY) = false := bne_eq_false_iff_eq.mpr q4
           by_cases q5 : ak = aZ
           ·rw [if_pos q5] at H
            have d5 : (ak != aZ) = false := bne_eq_false_iff_eq.mpr q5
            by_cases q6 : al = ba
            ·rw [if_pos q6] at H
             have d6 : (al != ba) = false := bne_eq_false_iff_eq.mpr q6
             by_cases q7 : ae = bb
             ·rw [if_pos q7] at H
              have d7 : (ae != bb) = false := bne_eq_false_iff_eq.mpr q7
              by_cases q8 : am.toList = bf.toList
              ·rw [if_pos q8] at H
               have d8 : (am.toList != bf.toList) = false := bne_eq_false_iff_eq.mpr q8
               by_cases q9 : aj.toList = bg.toList
               ·rw [if_pos q9] at H
                have d9 : (aj.toList != bg.toList) = false := bne_eq_false_iff_eq.mpr q9
                by_cases q10 : af = bi
                ·rw [if_pos q10] at H
                 have d10 : (af != bi) = false := bne_eq_false_iff_eq.mpr q10
                 rw [d0, d1, d2, d3, d4, d5, d6, d7, d8, d9, d10]; simp only [Bool.false_or]; exact H
                ·rw [if_neg q10] at H
                 have d10 : (af != bi) = true := bne_iff_ne.mpr q10
                 rw [d0, d1, d2, d3, d4, d5, d6, d7, d8, d9, d10]; simp only [Bool.false_or, Bool.true_or, Bool.or_true]; exact H
               ·rw [if_neg q9] at H
                have d9 : (aj.toList != bg.toList) = true := bne_iff_ne.mpr q9
                rw [d0, d1, d2, d3, d4, d5, d6, d7, d8, d9]; simp only [Bool.false_or, Bool.true_or, Bool.or_true]; exact H
              ·rw [if_neg q8] at H
               have d8 : (am.toList != bf.toList) = true := bne_iff_ne.mpr q8
               rw [d0, d1, d2, d3, d4, d5, d6, d7, d8]; simp only [Bool.false_or, Bool.true_or, Bool.or_true]; exact H
             ·rw [if_neg q7] at H
              have d7 : (ae != bb) = true := bne_iff_ne.mpr q7
              rw [d0, d1, d2, d3, d4, d5, d6, d7]; simp only [Bool.false_or, Bool.true_or, Bool.or_true]; exact H
            ·rw [if_neg q6] at H
             have d6 : (al != ba) = true := bne_iff_ne.mpr q6
             rw [d0, d1, d2, d3, d4, d5, d6]; simp only [Bool.false_or, Bool.true_or, Bool.or_true]; exact H
           ·rw [if_neg q5] at H
            have d5 : (ak != aZ) = true := bne_iff_ne.mpr q5
            rw [d0, d1, d2, d3, d4, d5]; simp only [Bool.false_or, Bool.true_or, Bool.or_true]; exact H
          ·rw [if_neg q4] at H
           have d4 : (an != aY) = true := bne_iff_ne.mpr q4
           rw [d0, d1, d2, d3, d4]; simp only [Bool.false_or, Bool.true_or, Bool.or_true]; exact H
         ·rw [if_neg q3] at H
          have d3 : (ap != aX) = true := bne_iff_ne.mpr q3
          rw [d0, d1, d2, d3]; simp only [Bool.false_or, Bool.true_or, Bool.or_true]; exact H
        ·rw [if_neg q2] at H
         have d2 : (ac != aW) = true := bne_iff_ne.mpr q2
         rw [d0, d1, d2]; simp only [Bool.false_or, Bool.true_or, Bool.or_true]; exact H
       ·rw [if_neg q1] at H
        have d1 : (ao != aV) = true := bne_iff_ne.mpr q1
        rw [d0, d1]; simp only [Bool.false_or, Bool.true_or, Bool.or_true]; exact H
      ·rw [if_neg q0] at H
       have d0 : (ai.toList != aU.toList) = true := bne_iff_ne.mpr q0
       rw [d0]; simp only [Bool.false_or, Bool.true_or, Bool.or_true]; exact H
     obtain ⟨-, -, -, -, -, -, -, -, -, -, -, hp11, hp12, hp13, hp14, hp15, hp16, hp17, hp18, hp19, hp20, -, hp22, hp23, -, -, -, -, -, -, -, -, -, -, -, -, -, -, -, -, -, -, -, -, -, -, -, -, -, -⟩ := cells_25 aG.out
     obtain ⟨-, -, -, -, -, -, -, -, -, -, -, hq11, hq12, hq13, hq14, hq15, hq16, hq17, hq18, hq19, hq20, -, hq22, hq23, -, -, -, -, -, -, -, -, -, -, -, -, -, -, -, -, -, -, -, -, -, -, -, -, -, -⟩ := cells_25 cW.out
     refine wp_region_lit ?_
     refine Pre.row_first (p := 2) (q := 3) (n := 80) (N := 174) (lo := 5) (A1 := .pointer (some ⟨aE, 0, none⟩)) (A2 := .pointer (some ⟨aK, 0, none⟩)) (B1 := .pointer (some ⟨aE, 11, none⟩)) (B2 := .pointer (some ⟨aK, 11, none⟩)) (X1 := .string ai) (X2 := .string aU) (e := ai.toList != aU.toList) rfl rfl Z18 rfl rfl Z18 Z18 Z18 (fun _ _ _ _ _ _ h_ => roadbookref07_Same.fa11 h_) (fun _ _ _ _ _ _ h_ => roadbookref07_Same.fa11 h_) (fun _ _ _ _ _ _ h_ => roadbookref07_Same.lds h_ hp11) (fun _ _ _ _ _ _ h_ => roadbookref07_Same.lds h_ hq11) (fun _ _ _ _ _ _ _ _ h_ h2_ => roadbookref07_Same.nes h_ h2_) ?_
     intro a0_ hst_
     refine Pre.row_next (n := 86) (A1 := .pointer (some ⟨aE, 0, none⟩)) (A2 := .pointer (some ⟨aK, 0, none⟩)) (B1 := .pointer (some ⟨aE, 12, none⟩)) (B2 := .pointer (some ⟨aK, 12, none⟩)) (X1 := .int .i64 ao) (X2 := .int .i64 aV) (e := ao != aV) rfl hst_ Z18 Z18 Z18 Z18 Z18 (fun _ _ _ _ _ _ h_ => roadbookref07_Same.fa12 h_) (fun _ _ _ _ _ _ h_ => roadbookref07_Same.fa12 h_) (fun _ _ _ _ _ _ h_ => roadbookref07_Same.ldi h_ hp12) (fun _ _ _ _ _ _ h_ => roadbookref07_Same.ldi h_ hq12) (fun _ _ _ _ _ _ _ _ h_ h2_ => roadbookref07_Same.nei h_ h2_) ?_
     intro a1_ hst_
     refine Pre.row_next (n := 93) (A1 := .pointer (some ⟨aE, 0, none⟩)) (A2 := .pointer (some ⟨aK, 0, none⟩)) (B1 := .pointer (some ⟨aE, 13, none⟩)) (B2 := .pointer (some ⟨aK, 13, none⟩)) (X1 := .int .i64 ac) (X2 := .int .i64 aW) (e := ac != aW) rfl hst_ Z18 Z18 Z18 Z18 Z18 (fun _ _ _ _ _ _ h_ => roadbookref07_Same.fa13 h_) (fun _ _ _ _ _ _ h_ => roadbookref07_Same.fa13 h_) (fun _ _ _ _ _ _ h_ => roadbookref07_Same.ldi h_ hp13) (fun _ _ _ _ _ _ h_ => roadbookref07_Same.ldi h_ hq13) (fun _ _ _ _ _ _ _ _ h_ h2_ => roadbookref07_Same.nei h_ h2_) ?_
     intro a2_ hst_
     refine Pre.row_next (n := 100) (A1 := .pointer (some ⟨aE, 0, none⟩)) (A2 := .pointer (some ⟨aK, 0, none⟩)) (B1 := .pointer (some ⟨aE, 14, none⟩)) (B2 := .pointer (some ⟨aK, 14, none⟩)) (X1 := .int .i64 ap) (X2 := .int .i64 aX) (e := ap != aX) rfl hst_ Z18 Z18 Z18 Z18 Z18 (fun _ _ _ _ _ _ h_ => roadbookref07_Same.fa14 h_) (fun _ _ _ _ _ _ h_ => roadbookref07_Same.fa14 h_) (fun _ _ _ _ _ _ h_ => roadbookref07_Same.ldi h_ hp14) (fun _ _ _ _ _ _ h_ => roadbookref07_Same.ldi h_ hq14) (fun _ _ _ _ _ _ _ _ h_ h2_ => roadbookref07_Same.nei h_ h2_) ?_
     intro a3_ hst_
     refine Pre.row_next (n := 107) (A1 := .pointer (some ⟨aE, 0, none⟩)) (A2 := .pointer (some ⟨aK, 0, none⟩)) (B1 := .pointer (some ⟨aE, 15, none⟩)) (B2 := .pointer (some ⟨aK, 15, none⟩)) (X1 := .int .i64 an) (X2 := .int .i64 aY) (e := an != aY) rfl hst_ Z18 Z18 Z18 Z18 Z18 (fun _ _ _ _ _ _ h_ => roadbookref07_Same.fa15 h_) (fun _ _ _ _ _ _ h_ => roadbookref07_Same.fa15 h_) (fun _ _ _ _ _ _ h_ => roadbookref07_Same.ldi h_ hp15) (fun _ _ _ _ _ _ h_ => roadbookref07_Same.ldi h_ hq15) (fun _ _ _ _ _ _ _ _ h_ h2_ => roadbookref07_Same.nei h_ h2_) ?_
     intro a4_ hst_
     refine Pre.row_next (n := 114) (A1 := .pointer (some ⟨aE, 0, none⟩)) (A2 := .pointer (some ⟨aK, 0, none⟩)) (B1 := .pointer (some ⟨aE, 16, none⟩)) (B2 := .pointer (some ⟨aK, 16, none⟩)) (X1 := .int .i64 ak) (X2 := .int .i64 aZ) (e := ak != aZ) rfl hst_ Z18 Z18 Z18 Z18 Z18 (fun _ _ _ _ _ _ h_ => roadbookref07_Same.fa16 h_) (fun _ _ _ _ _ _ h_ => roadbookref07_Same.fa16 h_) (fun _ _ _ _ _ _ h_ => roadbookref07_Same.ldi h_ hp16) (fun _ _ _ _ _ _ h_ => roadbookref07_Same.ldi h_ hq16) (fun _ _ _ _ _ _ _ _ h_ h2_ => roadbookref07_Same.nei h_ h2_) ?_
     intro a5_ hst_
     refine Pre.row_next (n := 121) (A1 := .pointer (some ⟨aE, 0, none⟩)) (A2 := .pointer (some ⟨aK, 0, none⟩)) (B1 := .pointer (some ⟨aE, 17, none⟩)) (B2 := .pointer (some ⟨aK, 17, none⟩)) (X1 := .int .i64 al) (X2 := .int .i64 ba) (e := al != ba) rfl hst_ Z18 Z18 Z18 Z18 Z18 (fun _ _ _ _ _ _ h_ => roadbookref07_Same.fa17 h_) (fun _ _ _ _ _ _ h_ => roadbookref07_Same.fa17 h_) (fun _ _ _ _ _ _ h_ => roadbookref07_Same.ldi h_ hp17) (fun _ _ _ _ _ _ h_ => roadbookref07_Same.ldi h_ hq17) (fun _ _ _ _ _ _ _ _ h_ h2_ => roadbookref07_Same.nei h_ h2_) ?_
     intro a6_ hst_
     refine Pre.row_next (n := 128) (A1 := .pointer (some ⟨aE, 0, none⟩)) (A2 := .pointer (some ⟨aK, 0, none⟩)) (B1 := .pointer (some ⟨aE, 18, none⟩)) (B2 := .pointer (some ⟨aK, 18, none⟩)) (X1 := .int .i64 ae) (X2 := .int .i64 bb) (e := ae != bb) rfl hst_ Z18 Z18 Z18 Z18 Z18 (fun _ _ _ _ _ _ h_ => roadbookref07_Same.fa18 h_) (fun _ _ _ _ _ _ h_ => roadbookref07_Same.fa18 h_) (fun _ _ _ _ _ _ h_ => roadbookref07_Same.ldi h_ hp18) (fun _ _ _ _ _ _ h_ => roadbookref07_Same.ldi h_ hq18) (fun _ _ _ _ _ _ _ _ h_ h2_ => roadbookref07_Same.nei h_ h2_) ?_
     intro a7_ hst_
     refine Pre.row_next (n := 135) (A1 := .pointer (some ⟨aE, 0, none⟩)) (A2 := .pointer (some ⟨aK, 0, none⟩)) (B1 := .pointer (some ⟨aE, 19, none⟩)) (B2 := .pointer (some ⟨aK, 19, none⟩)) (X1 := .string am) (X2 := .string bf) (e := am.toList != bf.toList) rfl hst_ Z18 Z18 Z18 Z18 Z18 (fun _ _ _ _ _ _ h_ => roadbookref07_Same.fa19 h_) (fun _ _ _ _ _ _ h_ => roadbookref07_Same.fa19 h_) (fun _ _ _ _ _ _ h_ => roadbookref07_Same.lds h_ hp19) (fun _ _ _ _ _ _ h_ => roadbookref07_Same.lds h_ hq19) (fun _ _ _ _ _ _ _ _ h_ h2_ => roadbookref07_Same.nes h_ h2_) ?_
     intro a8_ hst_
     refine Pre.row_next (n := 142) (A1 := .pointer (some ⟨aE, 0, none⟩)) (A2 := .pointer (some ⟨aK, 0, none⟩)) (B1 := .pointer (some ⟨aE, 20, none⟩)) (B2 := .pointer (some ⟨aK, 20, none⟩)) (X1 := .string aj) (X2 := .string bg) (e := aj.toList != bg.toList) rfl hst_ Z18 Z18 Z18 Z18 Z18 (fun _ _ _ _ _ _ h_ => roadbookref07_Same.fa20 h_) (fun _ _ _ _ _ _ h_ => roadbookref07_Same.fa20 h_) (fun _ _ _ _ _ _ h_ => roadbookref07_Same.lds h_ hp20) (fun _ _ _ _ _ _ h_ => roadbookref07_Same.lds h_ hq20) (fun _ _ _ _ _ _ _ _ h_ h2_ => roadbookref07_Same.nes h_ h2_) ?_
     intro a9_ hst_
     refine Pre.row_next (n := 149) (A1 := .pointer (some ⟨aE, 0, none⟩)) (A2 := .pointer (some ⟨aK, 0, none⟩)) (B1 := .pointer (some ⟨aE, 22, none⟩)) (B2 := .pointer (some ⟨aK, 22, none⟩)) (X1 := .int .i64 af) (X2 := .int .i64 bi) (e := af != bi) rfl hst_ Z18 Z18 Z18 Z18 Z18 (fun _ _ _ _ _ _ h_ => roadbookref07_Same.fa22 h_) (fun _ _ _ _ _ _ h_ => roadbookref07_Same.fa22 h_) (fun _ _ _ _ _ _ h_ => roadbookref07_Same.ldi h_ hp22) (fun _ _ _ _ _ _ h_ => roadbookref07_Same.ldi h_ hq22) (fun _ _ _ _ _ _ _ _ h_ h2_ => roadbookref07_Same.nei h_ h2_) ?_
     intro a10_ hst_
     refine Pre.row_last (n := 156) (A1 := .pointer (some ⟨aE, 0, none⟩)) (A2 := .pointer (some ⟨aK, 0, none⟩)) (B1 := .pointer (some ⟨aE, 23, none⟩)) (B2 := .pointer (some ⟨aK, 23, none⟩)) (X1 := .string ah) (X2 := .string bn) (e := ah.toList != bn.toList) rfl hst_ Z18 Z18 Z18 Z18 Z18 (fun _ _ _ _ _ _ h_ => roadbookref07_Same.fa23 h_) (fun _ _ _ _ _ _ h_ => roadbookref07_Same.fa23 h_) (fun _ _ _ _ _ _ h_ => roadbookref07_Same.lds h_ hp23) (fun _ _ _ _ _ _ h_ => roadbookref07_Same.lds h_ hq23) (fun _ _ _ _ _ _ _ _ h_ h2_ => roadbookref07_Same.nes h_ h2_) ?_
     intro a11_ hst_
     refine wpList_nil ?_
     have e_ := Pre.act_lit hst_.size hst_.defers
     have e2_ : a11_ = ⟨#[a11_.eval (.tmp 0), a11_.eval (.tmp 1), a11_.eval (.tmp 2), a11_.eval (.tmp 3), a11_.eval (.tmp 4), a11_.eval (.tmp 5), a11_.eval (.tmp 6), a11_.eval (.tmp 7), a11_.eval (.tmp 8), a11_.eval (.tmp 9), a11_.eval (.tmp 10), a11_.eval (.tmp 11), a11_.eval (.tmp 12), a11_.eval (.tmp 13), a11_.eval (.tmp 14), a11_.eval (.tmp 15), a11_.eval (.tmp 16), a11_.eval (.tmp 17), a11_.eval (.tmp 18), a11_.eval (.tmp 19), a11_.eval (.tmp 20), a11_.eval (.tmp 21), a11_.eval (.tmp 22), a11_.eval (.tmp 23), a11_.eval (.tmp 24), a11_.eval (.tmp 25), a11_.eval (.tmp 26), a11_.eval (.tmp 27), a11_.eval (.tmp 28), a11_.eval (.tmp 29), a11_.eval (.tmp 30), a11_.eval (.tmp 31), a11_.eval (.tmp 32), a11_.eval (.tmp 33), a11_.eval (.tmp 34), a11_.eval (.tmp 35), a11_.eval (.tmp 36), a11_.eval (.tmp 37), a11_.eval (.tmp 38), a11_.eval (.tmp 39), a11_.eval (.tmp 40), a11_.eval (.tmp 41), a11_.eval (.tmp 42), a11_.eval (.tmp 43), a11_.eval (.tmp 44), a11_.eval (.tmp 45), a11_.eval (.tmp 46), a11_.eval (.tmp 47), a11_.eval (.tmp 48), a11_.eval (.tmp 49), a11_.eval (.tmp 50), a11_.eval (.tmp 51), a11_.eval (.tmp 52), a11_.eval (.tmp 53), a11_.eval (.tmp 54), a11_.eval (.tmp 55), a11_.eval (.tmp 56), a11_.eval (.tmp 57), a11_.eval (.tmp 58), a11_.eval (.tmp 59), a11_.eval (.tmp 60), a11_.eval (.tmp 61), a11_.eval (.tmp 62), a11_.eval (.tmp 63), a11_.eval (.tmp 64), a11_.eval (.tmp 65), a11_.eval (.tmp 66), a11_.eval (.tmp 67), a11_.eval (.tmp 68), a11_.eval (.tmp 69), a11_.eval (.tmp 70), a11_.eval (.tmp 71), a11_.eval (.tmp 72), a11_.eval (.tmp 73), a11_.eval (.tmp 74), a11_.eval (.tmp 75), a11_.eval (.tmp 76), a11_.eval (.tmp 77), a11_.eval (.tmp 78), a11_.eval (.tmp 79), a11_.eval (.tmp 80), a11_.eval (.tmp 81), a11_.eval (.tmp 82), a11_.eval (.tmp 83), a11_.eval (.tmp 84), a11_.eval (.tmp 85), a11_.eval (.tmp 86), a11_.eval (.tmp 87), a11_.eval (.tmp 88), a11_.eval (.tmp 89), a11_.eval (.tmp 90), a11_.eval (.tmp 91), a11_.eval (.tmp 92), a11_.eval (.tmp 93), a11_.eval (.tmp 94), a11_.eval (.tmp 95), a11_.eval (.tmp 96), a11_.eval (.tmp 97), a11_.eval (.tmp 98), a11_.eval (.tmp 99), a11_.eval (.tmp 100), a11_.eval (.tmp 101), a11_.eval (.tmp 102), a11_.eval (.tmp 103), a11_.eval (.tmp 104), a11_.eval (.tmp 105), a11_.eval (.tmp 106), a11_.eval (.tmp 107), a11_.eval (.tmp 108), a11_.eval (.tmp 109), a11_.eval (.tmp 110), a11_.eval (.tmp 111), a11_.eval (.tmp 112), a11_.eval (.tmp 113), a11_.eval (.tmp 114), a11_.eval (.tmp 115), a11_.eval (.tmp 116), a11_.eval (.tmp 117), a11_.eval (.tmp 118), a11_.eval (.tmp 119), a11_.eval (.tmp 120), a11_.eval (.tmp 121), a11_.eval (.tmp 122), a11_.eval (.tmp 123), a11_.eval (.tmp 124), a11_.eval (.tmp 125), a11_.eval (.tmp 126), a11_.eval (.tmp 127), a11_.eval (.tmp 128), a11_.eval (.tmp 129), a11_.eval (.tmp 130), a11_.eval (.tmp 131), a11_.eval (.tmp 132), a11_.eval (.tmp 133), a11_.eval (.tmp 134), a11_.eval (.tmp 135), a11_.eval (.tmp 136), a11_.eval (.tmp 137), a11_.eval (.tmp 138), a11_.eval (.tmp 139), a11_.eval (.tmp 140), a11_.eval (.tmp 141), a11_.eval (.tmp 142), a11_.eval (.tmp 143), a11_.eval (.tmp 144), a11_.eval (.tmp 145), a11_.eval (.tmp 146), a11_.eval (.tmp 147), a11_.eval (.tmp 148), a11_.eval (.tmp 149), a11_.eval (.tmp 150), a11_.eval (.tmp 151), a11_.eval (.tmp 152), a11_.eval (.tmp 153), a11_.eval (.tmp 154), a11_.eval (.tmp 155), a11_.eval (.tmp 156), a11_.eval (.tmp 157), a11_.eval (.tmp 158), a11_.eval (.tmp 159), a11_.eval (.tmp 160), a11_.eval (.tmp 161), a11_.eval (.tmp 162), a11_.eval (.tmp 163), a11_.eval (.tmp 164), a11_.eval (.tmp 165), a11_.eval (.tmp 166), a11_.eval (.tmp 167), a11_.eval (.tmp 168), a11_.eval (.tmp 169), a11_.eval (.tmp 170), a11_.eval (.tmp 171), a11_.eval (.tmp 172), a11_.eval (.tmp 173)], []⟩ := e_.trans rfl
     clear e_
     have k0_ := hst_.kept 0 Z18
     have k1_ := hst_.kept 1 Z18
     have k2_ := hst_.kept 2 Z18
     have k3_ := hst_.kept 3 Z18
     have k4_ := hst_.kept 4 Z18
     rw [k0_, k1_, k2_, k3_, k4_] at e2_
     exact hK_ _ _ (hJ_ _ _ ⟨a11_.eval (.tmp 5), a11_.eval (.tmp 6), a11_.eval (.tmp 7), a11_.eval (.tmp 8), a11_.eval (.tmp 9), a11_.eval (.tmp 10), a11_.eval (.tmp 11), a11_.eval (.tmp 12), a11_.eval (.tmp 13), a11_.eval (.tmp 14), a11_.eval (.tmp 15), a11_.eval (.tmp 16), a11_.eval (.tmp 17), a11_.eval (.tmp 18), a11_.eval (.tmp 19), a11_.eval (.tmp 20), a11_.eval (.tmp 21), a11_.eval (.tmp 22), a11_.eval (.tmp 23), a11_.eval (.tmp 24), a11_.eval (.tmp 25), a11_.eval (.tmp 26), a11_.eval (.tmp 27), a11_.eval (.tmp 28), a11_.eval (.tmp 29), a11_.eval (.tmp 30), a11_.eval (.tmp 31), a11_.eval (.tmp 32), a11_.eval (.tmp 33), a11_.eval (.tmp 34), a11_.eval (.tmp 35), a11_.eval (.tmp 36), a11_.eval (.tmp 37), a11_.eval (.tmp 38), a11_.eval (.tmp 39), a11_.eval (.tmp 40), a11_.eval (.tmp 41), a11_.eval (.tmp 42), a11_.eval (.tmp 43), a11_.eval (.tmp 44), a11_.eval (.tmp 45), a11_.eval (.tmp 46), a11_.eval (.tmp 47), a11_.eval (.tmp 48), a11_.eval (.tmp 49), a11_.eval (.tmp 50), a11_.eval (.tmp 51), a11_.eval (.tmp 52), a11_.eval (.tmp 53), a11_.eval (.tmp 54), a11_.eval (.tmp 55), a11_.eval (.tmp 56), a11_.eval (.tmp 57), a11_.eval (.tmp 58), a11_.eval (.tmp 59), a11_.eval (.tmp 60), a11_.eval (.tmp 61), a11_.eval (.tmp 62), a11_.eval (.tmp 63), a11_.eval (.tmp 64), a11_.eval (.tmp 65), a11_.eval (.tmp 66), a11_.eval (.tmp 67), a11_.eval (.tmp 68), a11_.eval (.tmp 69), a11_.eval (.tmp 70), a11_.eval (.tmp 71), a11_.eval (.tmp 72), a11_.eval (.tmp 73), a11_.eval (.tmp 74), a11_.eval (.tmp 75), a11_.eval (.tmp 76), a11_.eval (.tmp 77), a11_.eval (.tmp 78), a11_.eval (.tmp 79), a11_.eval (.tmp 80), a11_.eval (.tmp 81), a11_.eval (.tmp 82), a11_.eval (.tmp 83), a11_.eval (.tmp 84), a11_.eval (.tmp 85), a11_.eval (.tmp 86), a11_.eval (.tmp 87), a11_.eval (.tmp 88), a11_.eval (.tmp 89), a11_.eval (.tmp 90), a11_.eval (.tmp 91), a11_.eval (.tmp 92), a11_.eval (.tmp 93), a11_.eval (.tmp 94), a11_.eval (.tmp 95), a11_.eval (.tmp 96), a11_.eval (.tmp 97), a11_.eval (.tmp 98), a11_.eval (.tmp 99), a11_.eval (.tmp 100), a11_.eval (.tmp 101), a11_.eval (.tmp 102), a11_.eval (.tmp 103), a11_.eval (.tmp 104), a11_.eval (.tmp 105), a11_.eval (.tmp 106), a11_.eval (.tmp 107), a11_.eval (.tmp 108), a11_.eval (.tmp 109), a11_.eval (.tmp 110), a11_.eval (.tmp 111), a11_.eval (.tmp 112), a11_.eval (.tmp 113), a11_.eval (.tmp 114), a11_.eval (.tmp 115), a11_.eval (.tmp 116), a11_.eval (.tmp 117), a11_.eval (.tmp 118), a11_.eval (.tmp 119), a11_.eval (.tmp 120), a11_.eval (.tmp 121), a11_.eval (.tmp 122), a11_.eval (.tmp 123), a11_.eval (.tmp 124), a11_.eval (.tmp 125), a11_.eval (.tmp 126), a11_.eval (.tmp 127), a11_.eval (.tmp 128), a11_.eval (.tmp 129), a11_.eval (.tmp 130), a11_.eval (.tmp 131), a11_.eval (.tmp 132), a11_.eval (.tmp 133), a11_.eval (.tmp 134), a11_.eval (.tmp 135), a11_.eval (.tmp 136), a11_.eval (.tmp 137), a11_.eval (.tmp 138), a11_.eval (.tmp 139), a11_.eval (.tmp 140), a11_.eval (.tmp 141), a11_.eval (.tmp 142), a11_.eval (.tmp 143), a11_.eval (.tmp 144), a11_.eval (.tmp 145), a11_.eval (.tmp 146), a11_.eval (.tmp 147), a11_.eval (.tmp 148), a11_.eval (.tmp 149), a11_.eval (.tmp 150), a11_.eval (.tmp 151), a11_.eval (.tmp 152), a11_.eval (.tmp 153), a11_.eval (.tmp 154), a11_.eval (.tmp 155), a11_.eval (.tmp 156), a11_.eval (.tmp 157), a11_.eval (.tmp 158), a11_.eval (.tmp 159), a11_.eval (.tmp 160), a11_.eval (.tmp 161), a11_.eval (.tmp 162), a11_.eval (.tmp 163), a11_.eval (.tmp 164), a11_.eval (.tmp 165), a11_.eval (.tmp 166), a11_.eval (.tmp 167), a11_.eval (.tmp 168), a11_.eval (.tmp 169), a11_.eval (.tmp 170), a11_.eval (.tmp 171), a11_.eval (.tmp 172), a11_.eval (.tmp 173), ⟨kj2, ((((((((((((ai.toList != aU.toList) || (ao != aV)) || (ac != aW)) || (ap != aX)) || (an != aY)) || (ak != aZ)) || (al != ba)) || (ae != bb)) || (am.toList != bf.toList)) || (aj.toList != bg.toList)) || (af != bi)) || (ah.toList != bn.toList)), hst_.so, ⟨HJ_⟩, ⟨Nat.le_refl _⟩, ⟨aG.out⟩, ⟨cW.out⟩, ⟨HB.out⟩⟩, e2_⟩)
    case rest =>
     clear ik
     try clear c1
     try clear c2
     try clear p2
     try clear c4
     try clear c6
     try clear fc
     try clear iO
     try clear c7
     try clear dn
     try clear eY
     try clear c8
     try clear eO
     try clear c43
     try clear gc
     try clear ij
     obtain ⟨kq, dH, rfl, HA, HJ49, aG, cW, HB⟩ := hcut
     cases kq with
     | zero => exact absurd HA.out (by simp [roadbookref07_Same.j1])
     | succ kj49 =>
      have H := HA.out
      clear HA
      simp only [roadbookref07_Same.j1] at H
      by_cases iK : dH = true
      ·subst iK
       replace H := Sq.itT H
       obtain rfl := Option.some.inj H
       go_wp2
       go_ret
       exact ⟨Z2, Z13⟩
      ·replace iK := Bool.eq_false_iff.mpr iK
       subst iK
       replace H := Sq.itF H
       replace H := Option.bind_eq_some_iff.mp H
       obtain ⟨aN, il, H⟩ := H
       replace H : (if aN = true then ((roadbookref07_subs.f kj49 au bm).bind fun aJ => (some aJ)) else (some false)) = some r := H
       have jC := Aside0.mk il
       clear il
       by_cases fx : aN = true
       ·subst fx
        replace H := Sq.itT H
        replace H := Option.bind_eq_some_iff.mp H
        obtain ⟨aJ, fN, H⟩ := H
        replace H : (some aJ) = some r := H
        have js := Aside0.mk fN
        clear fN
        obtain rfl := Option.some.inj H
        have hnb102 := cX.out
        have hnc102 := dh.out
        obtain ⟨-, -, -, -, -, -, -, -, -, -, -, -, -, -, -, -, -, -, -, -, -, hcz103_21, -, -, hcz103_24, -, -, -, -, -, -, -, -, -, -, -, -, -, -, -, -, -, -, -, -, -, -, -, -, -⟩ := cells_25 aG.out
        obtain ⟨-, -, -, -, -, -, -, -, -, -, -, -, -, -, -, -, -, -, -, -, -, hcz104_21, -, -, hcz104_24, -, -, -, -, -, -, -, -, -, -, -, -, -, -, -, -, -, -, -, -, -, -, -, -, -⟩ := cells_25 cW.out
        go_wp2_with (first | ((with_reducible refine gate_callee (f := 41) rfl ?_); refine goesL_ (some 166) rfl rfl Try.func41 Z16 rfl #[.slice bZ ab.length ca, .slice dK bh.length dL] rfl Z4 ?_; (with_reducible refine (roadbookref07_dests.calls kj49 _ _ ab _ _ bh true _ ?side1 ?side2 ?side3 ?side4 jC.out).mono ?_); (case side1 => exact Z17); (case side2 => exact cU.out); (case side3 => exact Z44); (case side4 => exact fm.out); rintro e w' ⟨rfl, ⟨nd, rfl⟩⟩; refine ⟨_, rfl, ?_⟩) | (go_at_call 42; (with_reducible refine (roadbookref07_subs.calls kj49 _ _ au _ _ bm aJ _ ?side1 ?side2 ?side3 ?side4 js.out).mono ?_); (case side1 => exact (by repeat (first | exact (Kd.C_below dI.out Z13) | (with_reducible refine Kd.C_alloc ?_ _) | (with_reducible refine Kd.C_drewN ?_ _) | (with_reducible refine Kd.C_drew ?_)))); (case side2 => exact cZ.out); (case side3 => exact (by repeat (first | exact (Kd.C_below gY.out Z13) | (with_reducible refine Kd.C_alloc ?_ _) | (with_reducible refine Kd.C_drewN ?_ _) | (with_reducible refine Kd.C_drew ?_)))); (case side4 => exact gZ.out); rintro e w' ⟨rfl, ⟨nd, rfl⟩⟩))
        go_ret
        exact ⟨Z2, Z13⟩
       ·replace fx := Bool.eq_false_iff.mpr fx
        subst fx
        replace H := Sq.itF H
        obtain rfl := Option.some.inj H
        have hnb105 := cX.out
        have hnc105 := dh.out
        obtain ⟨-, -, -, -, -, -, -, -, -, -, -, -, -, -, -, -, -, -, -, -, -, hcz106_21, -, -, hcz106_24, -, -, -, -, -, -, -, -, -, -, -, -, -, -, -, -, -, -, -, -, -, -, -, -, -⟩ := cells_25 aG.out
        obtain ⟨-, -, -, -, -, -, -, -, -, -, -, -, -, -, -, -, -, -, -, -, -, hcz107_21, -, -, hcz107_24, -, -, -, -, -, -, -, -, -, -, -, -, -, -, -, -, -, -, -, -, -, -, -, -, -⟩ := cells_25 cW.out
        go_wp2_with (first | ((with_reducible refine gate_callee (f := 41) rfl ?_); refine goesL_ (some 166) rfl rfl Try.func41 Z16 rfl #[.slice bZ ab.length ca, .slice dK bh.length dL] rfl Z4 ?_; (with_reducible refine (roadbookref07_dests.calls kj49 _ _ ab _ _ bh false _ ?side1 ?side2 ?side3 ?side4 jC.out).mono ?_); (case side1 => exact Z17); (case side2 => exact cU.out); (case side3 => exact Z44); (case side4 => exact fm.out); rintro e w' ⟨rfl, ⟨nd, rfl⟩⟩; refine ⟨_, rfl, ?_⟩))
        go_ret
        exact ⟨Z2, Z13⟩

end Go.Proofs.Ytnifhgackjkkbaa.PN
