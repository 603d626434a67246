-- Written by mp.py, a program of this work (wip/tools), out of the translation; Lean checks it.
import Derived.Test.YtccjakjjaemmkaaPABxZ
import Derived.Test.YtccjakjjaemmkaaPABxroadbookref07
import Derived.Test.YtccjakjjaemmkaaOr
namespace Go.Proofs.Ytccjakjjaemmkaa.PAB
open Go.RowKit Go.Proofs.YtccjakjjaemmkaaW.PrintWords Go.Proofs.YtccjakjjaemmkaaW.PrintLast Go.Proofs.YtccjakjjaemmkaaW.PrintMore
attribute [local go_sem] max2_int min2_int max_two min_two max_three min_three max_four min_four   -- for this text's walks alone
set_option linter.unusedVariables false
set_option linter.unusedSimpArgs false

/-! ### roadbookref07_Same: function 24 -/
mutual
def roadbookref07_Same.j0 : Nat → Bool → Int → Int → Int → ByteArray → Int → Int → ByteArray → Int → Int → ByteArray → Int → ByteArray → Int → Int → Int → Int → Int → Int → Int → ByteArray → ByteArray → List (S46) → Int → ByteArray → List (S48) → Int → Int → Int → ByteArray → Int → Int → ByteArray → Int → Int → ByteArray → Int → ByteArray → Int → Int → Int → Int → Int → Int → Int → ByteArray → ByteArray → List (S46) → Int → ByteArray → List (S48) → Option (Bool)
 | 0, _, _, _, _, _, _, _, _, _, _, _, _, _, _, _, _, _, _, _, _, _, _, _, _, _, _, _, _, _, _, _, _, _, _, _, _, _, _, _, _, _, _, _, _, _, _, _, _, _, _, _ => none
 | k + 1, tV, bB, bN, bO, bP, bQ, bR, bS, bC, bT, bU, bV, bI, bw, bD, bE, bx, bA, bF, bJ, bG, bH, bs, bK, bL, bp, dC, dD, dE, dF, dG, dH, dI, dJ, dK, dL, dM, di, dj, dk, dl, dm, dn, dp, dq, dr, dt, dd, du, dv, eg => if tV = true then (some false) else (if bI.toList = di.toList then (if bw = dj then (if bD = dk then (if bE = dl then (if bx = dm then (if bA = dn then (if bF = dp then (if bJ = dq then (if bG.toList = dr.toList then (if bH.toList = dt.toList then (if bK = du then (roadbookref07_Same.j1 k (bL.toList != dv.toList) bB bN bO bP bQ bR bS bC bT bU bV bI bw bD bE bx bA bF bJ bG bH bs bK bL bp dC dD dE dF dG dH dI dJ dK dL dM di dj dk dl dm dn dp dq dr dt dd du dv eg) else (roadbookref07_Same.j1 k true bB bN bO bP bQ bR bS bC bT bU bV bI bw bD bE bx bA bF bJ bG bH bs bK bL bp dC dD dE dF dG dH dI dJ dK dL dM di dj dk dl dm dn dp dq dr dt dd du dv eg)) else (roadbookref07_Same.j1 k true bB bN bO bP bQ bR bS bC bT bU bV bI bw bD bE bx bA bF bJ bG bH bs bK bL bp dC dD dE dF dG dH dI dJ dK dL dM di dj dk dl dm dn dp dq dr dt dd du dv eg)) else (roadbookref07_Same.j1 k true bB bN bO bP bQ bR bS bC bT bU bV bI bw bD bE bx bA bF bJ bG bH bs bK bL bp dC dD dE dF dG dH dI dJ dK dL dM di dj dk dl dm dn dp dq dr dt dd du dv eg)) else (roadbookref07_Same.j1 k true bB bN bO bP bQ bR bS bC bT bU bV bI bw bD bE bx bA bF bJ bG bH bs bK bL bp dC dD dE dF dG dH dI dJ dK dL dM di dj dk dl dm dn dp dq dr dt dd du dv eg)) else (roadbookref07_Same.j1 k true bB bN bO bP bQ bR bS bC bT bU bV bI bw bD bE bx bA bF bJ bG bH bs bK bL bp dC dD dE dF dG dH dI dJ dK dL dM di dj dk dl dm dn dp dq dr dt dd du dv eg)) else (roadbookref07_Same.j1 k true bB bN bO bP bQ bR bS bC bT bU bV bI bw bD bE bx bA bF bJ bG bH bs bK bL bp dC dD dE dF dG dH dI dJ dK dL dM di dj dk dl dm dn dp dq dr dt dd du dv eg)) else (roadbookref07_Same.j1 k true bB bN bO bP bQ bR bS bC bT bU bV bI bw bD bE bx bA bF bJ bG bH bs bK bL bp dC dD dE dF dG dH dI dJ dK dL dM di dj dk dl dm dn dp dq dr dt dd du dv eg)) else (roadbookref07_Same.j1 k true bB bN bO bP bQ bR bS bC bT bU bV bI bw bD bE bx bA bF bJ bG bH bs bK bL bp dC dD dE dF dG dH dI dJ dK dL dM di dj dk dl dm dn dp dq dr dt dd du dv eg)) else (roadbookref07_Same.j1 k true bB bN bO bP bQ bR bS bC bT bU bV bI bw bD bE bx bA bF bJ bG bH bs bK bL bp dC dD dE dF dG dH dI dJ dK dL dM di dj dk dl dm dn dp dq dr dt dd du dv eg)) else (roadbookref07_Same.j1 k true bB bN bO bP bQ bR bS bC bT bU bV bI bw bD bE bx bA bF bJ bG bH bs bK bL bp dC dD dE dF dG dH dI dJ dK dL dM di dj dk dl dm dn dp dq dr dt dd du dv eg)) else (roadbookref07_Same.j1 k true bB bN bO bP bQ bR bS bC bT bU bV bI bw bD bE bx bA bF bJ bG bH bs bK bL bp dC dD dE dF dG dH dI dJ dK dL dM di dj dk dl dm dn dp dq dr dt dd du dv eg))
def roadbookref07_Same.j1 : Nat → Bool → Int → Int → Int → ByteArray → Int → Int → ByteArray → Int → Int → ByteArray → Int → ByteArray → Int → Int → Int → Int → Int → Int → Int → ByteArray → ByteArray → List (S46) → Int → ByteArray → List (S48) → Int → Int → Int → ByteArray → Int → Int → ByteArray → Int → Int → ByteArray → Int → ByteArray → Int → Int → Int → Int → Int → Int → Int → ByteArray → ByteArray → List (S46) → Int → ByteArray → List (S48) → Option (Bool)
 | 0, _, _, _, _, _, _, _, _, _, _, _, _, _, _, _, _, _, _, _, _, _, _, _, _, _, _, _, _, _, _, _, _, _, _, _, _, _, _, _, _, _, _, _, _, _, _, _, _, _, _, _ => none
 | k + 1, sl, bB, bN, bO, bP, bQ, bR, bS, bC, bT, bU, bV, bI, bw, bD, bE, bx, bA, bF, bJ, bG, bH, bs, bK, bL, bp, dC, dD, dE, dF, dG, dH, dI, dJ, dK, dL, dM, di, dj, dk, dl, dm, dn, dp, dq, dr, dt, dd, du, dv, eg => if sl = true then (some false) else ((roadbookref07_dests.f k bs dd).bind fun aW => (if aW = true then ((roadbookref07_subs.f k bp eg).bind fun aY => (some aY)) else (some false)))
end
def roadbookref07_Same.f (k : Nat) (ax : Int) (av : Int) (aw : Int) (ay : ByteArray) (az : Int) (aH : Int) (aE : ByteArray) (aA : Int) (aD : Int) (aC : ByteArray) (au : Int) (an : ByteArray) (al : Int) (ak : Int) (ar : Int) (af : Int) (ai : Int) (am : Int) (ao : Int) (aa : ByteArray) (ac : ByteArray) (ab : List (S46)) (ap : Int) (aq : ByteArray) (ah : List (S48)) (dN : Int) (dO : Int) (dP : Int) (dQ : ByteArray) (dR : Int) (dS : Int) (dT : ByteArray) (dU : Int) (dV : Int) (dW : ByteArray) (cJ : Int) (cw : ByteArray) (cx : Int) (cy : Int) (cz : Int) (cA : Int) (cB : Int) (cC : Int) (cD : Int) (cE : ByteArray) (cF : ByteArray) (cG : List (S46)) (cH : Int) (cS : ByteArray) (cL : List (S48)) : Option (Bool) := if ax = dN then (if av = dO then (if aw = dP then (if ay.toList = dQ.toList then (if az = dR then (if aH = dS then (if aE.toList = dT.toList then (if aA = dU then (if aD = dV then (if aC.toList = dW.toList then (roadbookref07_Same.j0 k (au != cJ) ax av aw ay az aH aE aA aD aC au an al ak ar af ai am ao aa ac ab ap aq ah dN dO dP dQ dR dS dT dU dV dW cJ cw cx cy cz cA cB cC cD cE cF cG cH cS cL) else (roadbookref07_Same.j0 k true ax av aw ay az aH aE aA aD aC au an al ak ar af ai am ao aa ac ab ap aq ah dN dO dP dQ dR dS dT dU dV dW cJ cw cx cy cz cA cB cC cD cE cF cG cH cS cL)) else (roadbookref07_Same.j0 k true ax av aw ay az aH aE aA aD aC au an al ak ar af ai am ao aa ac ab ap aq ah dN dO dP dQ dR dS dT dU dV dW cJ cw cx cy cz cA cB cC cD cE cF cG cH cS cL)) else (roadbookref07_Same.j0 k true ax av aw ay az aH aE aA aD aC au an al ak ar af ai am ao aa ac ab ap aq ah dN dO dP dQ dR dS dT dU dV dW cJ cw cx cy cz cA cB cC cD cE cF cG cH cS cL)) else (roadbookref07_Same.j0 k true ax av aw ay az aH aE aA aD aC au an al ak ar af ai am ao aa ac ab ap aq ah dN dO dP dQ dR dS dT dU dV dW cJ cw cx cy cz cA cB cC cD cE cF cG cH cS cL)) else (roadbookref07_Same.j0 k true ax av aw ay az aH aE aA aD aC au an al ak ar af ai am ao aa ac ab ap aq ah dN dO dP dQ dR dS dT dU dV dW cJ cw cx cy cz cA cB cC cD cE cF cG cH cS cL)) else (roadbookref07_Same.j0 k true ax av aw ay az aH aE aA aD aC au an al ak ar af ai am ao aa ac ab ap aq ah dN dO dP dQ dR dS dT dU dV dW cJ cw cx cy cz cA cB cC cD cE cF cG cH cS cL)) else (roadbookref07_Same.j0 k true ax av aw ay az aH aE aA aD aC au an al ak ar af ai am ao aa ac ab ap aq ah dN dO dP dQ dR dS dT dU dV dW cJ cw cx cy cz cA cB cC cD cE cF cG cH cS cL)) else (roadbookref07_Same.j0 k true ax av aw ay az aH aE aA aD aC au an al ak ar af ai am ao aa ac ab ap aq ah dN dO dP dQ dR dS dT dU dV dW cJ cw cx cy cz cA cB cC cD cE cF cG cH cS cL)) else (roadbookref07_Same.j0 k true ax av aw ay az aH aE aA aD aC au an al ak ar af ai am ao aa ac ab ap aq ah dN dO dP dQ dR dS dT dU dV dW cJ cw cx cy cz cA cB cC cD cE cF cG cH cS cL)) else (roadbookref07_Same.j0 k true ax av aw ay az aH aE aA aD aC au an al ak ar af ai am ao aa ac ab ap aq ah dN dO dP dQ dR dS dT dU dV dW cJ cw cx cy cz cA cB cC cD cE cF cG cH cS cL)
theorem roadbookref07_Same.mono_l : ∀ k, (∀ y0 y1 y2 y3 y4 y5 y6 y7 y8 y9 fr fs ft fu fv fw fx fy fz fA fB fC fD fE fF fG iE jh kU mR mS pw px pz pA pB pC pD pE pF pG pH pI pJ pK pL pM pN pO pP pQ, LeO (roadbookref07_Same.j0 k y0 y1 y2 y3 y4 y5 y6 y7 y8 y9 fr fs ft fu fv fw fx fy fz fA fB fC fD fE fF fG iE jh kU mR mS pw px pz pA pB pC pD pE pF pG pH pI pJ pK pL pM pN pO pP pQ) (roadbookref07_Same.j0 (k + 1) y0 y1 y2 y3 y4 y5 y6 y7 y8 y9 fr fs ft fu fv fw fx fy fz fA fB fC fD fE fF fG iE jh kU mR mS pw px pz pA pB pC pD pE pF pG pH pI pJ pK pL pM pN pO pP pQ)) ∧ (∀ y0 y1 y2 y3 y4 y5 y6 y7 y8 y9 fr fs ft fu fv fw fx fy fz fA fB fC fD fE fF fG iE jh kU mR mS pw px pz pA pB pC pD pE pF pG pH pI pJ pK pL pM pN pO pP pQ, LeO (roadbookref07_Same.j1 k y0 y1 y2 y3 y4 y5 y6 y7 y8 y9 fr fs ft fu fv fw fx fy fz fA fB fC fD fE fF fG iE jh kU mR mS pw px pz pA pB pC pD pE pF pG pH pI pJ pK pL pM pN pO pP pQ) (roadbookref07_Same.j1 (k + 1) y0 y1 y2 y3 y4 y5 y6 y7 y8 y9 fr fs ft fu fv fw fx fy fz fA fB fC fD fE fF fG iE jh kU mR mS pw px pz pA pB pC pD pE pF pG pH pI pJ pK pL pM pN pO pP pQ))
 | 0 => ⟨Sq.mz, Sq.mz⟩
 | k + 1 => by
  obtain ⟨ih0, ih1⟩ := roadbookref07_Same.mono_l k
  refine ⟨?_, ?_⟩
  ·intros
   unfold roadbookref07_Same.j0
   have m0 := roadbookref07_dests.mono
   have m1 := roadbookref07_subs.mono
   exact Sq.mo
  ·intros
   unfold roadbookref07_Same.j1
   have m0 := roadbookref07_dests.mono
   have m1 := roadbookref07_subs.mono
   exact Sq.mo
theorem roadbookref07_Same.mono : ∀ a0 a1 a2 a3 a4 a5 a6 a7 a8 a9 gs gu gv gw gy gz gA gB gC gD gE gF gG gH gI oR sU sV sW sX sY sZ ta tb tc td te tf tg th ti tj tk tl tm tn tp tq tr ts k, LeO (roadbookref07_Same.f k a0 a1 a2 a3 a4 a5 a6 a7 a8 a9 gs gu gv gw gy gz gA gB gC gD gE gF gG gH gI oR sU sV sW sX sY sZ ta tb tc td te tf tg th ti tj tk tl tm tn tp tq tr ts) (roadbookref07_Same.f (k + 1) a0 a1 a2 a3 a4 a5 a6 a7 a8 a9 gs gu gv gw gy gz gA gB gC gD gE gF gG gH gI oR sU sV sW sX sY sZ ta tb tc td te tf tg th ti tj tk tl tm tn tp tq tr ts) := by
 intros
 rename_i k
 obtain ⟨ih0, ih1⟩ := roadbookref07_Same.mono_l k
 unfold roadbookref07_Same.f
 have m0 := roadbookref07_dests.mono
 have m1 := roadbookref07_subs.mono
 exact Sq.mo
section
variable {ρ_ : Operand → Value} {x_ y_ : Operand} {w_ : World} {d_ : Option Tmp} {t_ t2_ : TypeId} {p_ : String} {g_ : Option (Nat × Bool)} {af_ : Array Edge} {gb_ f_ : Nat}
theorem roadbookref07_Same.fa0 (h : ρ_ x_ = .pointer (some ⟨gb_, 0, none⟩)) : (execOp ρ_ { dst := d_, op := .fieldAddr 25 x_ 0, type := t_, pos := p_, after := af_, guard := g_ }).run Try.prog w_ = .ok (.value (.pointer (some ⟨gb_, 0, none⟩))) w_ := by
 have hu_ := Try.underlying25
 simp only [execOp, h]
 go_simp
theorem roadbookref07_Same.fa1 (h : ρ_ x_ = .pointer (some ⟨gb_, 0, none⟩)) : (execOp ρ_ { dst := d_, op := .fieldAddr 25 x_ 1, type := t_, pos := p_, after := af_, guard := g_ }).run Try.prog w_ = .ok (.value (.pointer (some ⟨gb_, 1, none⟩))) w_ := by
 have hu_ := Try.underlying25
 simp only [execOp, h]
 go_simp
theorem roadbookref07_Same.fa2 (h : ρ_ x_ = .pointer (some ⟨gb_, 0, none⟩)) : (execOp ρ_ { dst := d_, op := .fieldAddr 25 x_ 2, type := t_, pos := p_, after := af_, guard := g_ }).run Try.prog w_ = .ok (.value (.pointer (some ⟨gb_, 2, none⟩))) w_ := by
 have hu_ := Try.underlying25
 simp only [execOp, h]
 go_simp
theorem roadbookref07_Same.fa3 (h : ρ_ x_ = .pointer (some ⟨gb_, 0, none⟩)) : (execOp ρ_ { dst := d_, op := .fieldAddr 25 x_ 3, type := t_, pos := p_, after := af_, guard := g_ }).run Try.prog w_ = .ok (.value (.pointer (some ⟨gb_, 3, none⟩))) w_ := by
 have hu_ := Try.underlying25
 simp only [execOp, h]
 go_simp
theorem roadbookref07_Same.fa4 (h : ρ_ x_ = .pointer (some ⟨gb_, 0, none⟩)) : (execOp ρ_ { dst := d_, op := .fieldAddr 25 x_ 4, type := t_, pos := p_, after := af_, guard := g_ }).run Try.prog w_ = .ok (.value (.pointer (some ⟨gb_, 4, none⟩))) w_ := by
 have hu_ := Try.underlying25
 simp only [execOp, h]
 go_simp
theorem roadbookref07_Same.fa5 (h : ρ_ x_ = .pointer (some ⟨gb_, 0, none⟩)) : (execOp ρ_ { dst := d_, op := .fieldAddr 25 x_ 5, type := t_, pos := p_, after := af_, guard := g_ }).run Try.prog w_ = .ok (.value (.pointer (some ⟨gb_, 5, none⟩))) w_ := by
 have hu_ := Try.underlying25
 simp only [execOp, h]
 go_simp
theorem roadbookref07_Same.fa6 (h : ρ_ x_ = .pointer (some ⟨gb_, 0, none⟩)) : (execOp ρ_ { dst := d_, op := .fieldAddr 25 x_ 6, type := t_, pos := p_, after := af_, guard := g_ }).run Try.prog w_ = .ok (.value (.pointer (some ⟨gb_, 6, none⟩))) w_ := by
 have hu_ := Try.underlying25
 simp only [execOp, h]
 go_simp
theorem roadbookref07_Same.fa7 (h : ρ_ x_ = .pointer (some ⟨gb_, 0, none⟩)) : (execOp ρ_ { dst := d_, op := .fieldAddr 25 x_ 7, type := t_, pos := p_, after := af_, guard := g_ }).run Try.prog w_ = .ok (.value (.pointer (some ⟨gb_, 7, none⟩))) w_ := by
 have hu_ := Try.underlying25
 simp only [execOp, h]
 go_simp
theorem roadbookref07_Same.fa8 (h : ρ_ x_ = .pointer (some ⟨gb_, 0, none⟩)) : (execOp ρ_ { dst := d_, op := .fieldAddr 25 x_ 8, type := t_, pos := p_, after := af_, guard := g_ }).run Try.prog w_ = .ok (.value (.pointer (some ⟨gb_, 8, none⟩))) w_ := by
 have hu_ := Try.underlying25
 simp only [execOp, h]
 go_simp
theorem roadbookref07_Same.fa9 (h : ρ_ x_ = .pointer (some ⟨gb_, 0, none⟩)) : (execOp ρ_ { dst := d_, op := .fieldAddr 25 x_ 9, type := t_, pos := p_, after := af_, guard := g_ }).run Try.prog w_ = .ok (.value (.pointer (some ⟨gb_, 9, none⟩))) w_ := by
 have hu_ := Try.underlying25
 simp only [execOp, h]
 go_simp
theorem roadbookref07_Same.fa10 (h : ρ_ x_ = .pointer (some ⟨gb_, 0, none⟩)) : (execOp ρ_ { dst := d_, op := .fieldAddr 25 x_ 10, type := t_, pos := p_, after := af_, guard := g_ }).run Try.prog w_ = .ok (.value (.pointer (some ⟨gb_, 10, none⟩))) w_ := by
 have hu_ := Try.underlying25
 simp only [execOp, h]
 go_simp
theorem roadbookref07_Same.fa11 (h : ρ_ x_ = .pointer (some ⟨gb_, 0, none⟩)) : (execOp ρ_ { dst := d_, op := .fieldAddr 25 x_ 11, type := t_, pos := p_, after := af_, guard := g_ }).run Try.prog w_ = .ok (.value (.pointer (some ⟨gb_, 11, none⟩))) w_ := by
 have hu_ := Try.underlying25
 simp only [execOp, h]
 go_simp
theorem roadbookref07_Same.fa12 (h : ρ_ x_ = .pointer (some ⟨gb_, 0, none⟩)) : (execOp ρ_ { dst := d_, op := .fieldAddr 25 x_ 12, type := t_, pos := p_, after := af_, guard := g_ }).run Try.prog w_ = .ok (.value (.pointer (some ⟨gb_, 12, none⟩))) w_ := by
 have hu_ := Try.underlying25
 simp only [execOp, h]
 go_simp
theorem roadbookref07_Same.fa13 (h : ρ_ x_ = .pointer (some ⟨gb_, 0, none⟩)) : (execOp ρ_ { dst := d_, op := .fieldAddr 25 x_ 13, type := t_, pos := p_, after := af_, guard := g_ }).run Try.prog w_ = .ok (.value (.pointer (some ⟨gb_, 13, none⟩))) w_ := by
 have hu_ := Try.underlying25
 simp only [execOp, h]
 go_simp
theorem roadbookref07_Same.fa14 (h : ρ_ x_ = .pointer (some ⟨gb_, 0, none⟩)) : (execOp ρ_ { dst := d_, op := .fieldAddr 25 x_ 14, type := t_, pos := p_, after := af_, guard := g_ }).run Try.prog w_ = .ok (.value (.pointer (some ⟨gb_, 14, none⟩))) w_ := by
 have hu_ := Try.underlying25
 simp only [execOp, h]
 go_simp
theorem roadbookref07_Same.fa15 (h : ρ_ x_ = .pointer (some ⟨gb_, 0, none⟩)) : (execOp ρ_ { dst := d_, op := .fieldAddr 25 x_ 15, type := t_, pos := p_, after := af_, guard := g_ }).run Try.prog w_ = .ok (.value (.pointer (some ⟨gb_, 15, none⟩))) w_ := by
 have hu_ := Try.underlying25
 simp only [execOp, h]
 go_simp
theorem roadbookref07_Same.fa16 (h : ρ_ x_ = .pointer (some ⟨gb_, 0, none⟩)) : (execOp ρ_ { dst := d_, op := .fieldAddr 25 x_ 16, type := t_, pos := p_, after := af_, guard := g_ }).run Try.prog w_ = .ok (.value (.pointer (some ⟨gb_, 16, none⟩))) w_ := by
 have hu_ := Try.underlying25
 simp only [execOp, h]
 go_simp
theorem roadbookref07_Same.fa17 (h : ρ_ x_ = .pointer (some ⟨gb_, 0, none⟩)) : (execOp ρ_ { dst := d_, op := .fieldAddr 25 x_ 17, type := t_, pos := p_, after := af_, guard := g_ }).run Try.prog w_ = .ok (.value (.pointer (some ⟨gb_, 17, none⟩))) w_ := by
 have hu_ := Try.underlying25
 simp only [execOp, h]
 go_simp
theorem roadbookref07_Same.fa18 (h : ρ_ x_ = .pointer (some ⟨gb_, 0, none⟩)) : (execOp ρ_ { dst := d_, op := .fieldAddr 25 x_ 18, type := t_, pos := p_, after := af_, guard := g_ }).run Try.prog w_ = .ok (.value (.pointer (some ⟨gb_, 18, none⟩))) w_ := by
 have hu_ := Try.underlying25
 simp only [execOp, h]
 go_simp
theorem roadbookref07_Same.fa19 (h : ρ_ x_ = .pointer (some ⟨gb_, 0, none⟩)) : (execOp ρ_ { dst := d_, op := .fieldAddr 25 x_ 19, type := t_, pos := p_, after := af_, guard := g_ }).run Try.prog w_ = .ok (.value (.pointer (some ⟨gb_, 19, none⟩))) w_ := by
 have hu_ := Try.underlying25
 simp only [execOp, h]
 go_simp
theorem roadbookref07_Same.fa20 (h : ρ_ x_ = .pointer (some ⟨gb_, 0, none⟩)) : (execOp ρ_ { dst := d_, op := .fieldAddr 25 x_ 20, type := t_, pos := p_, after := af_, guard := g_ }).run Try.prog w_ = .ok (.value (.pointer (some ⟨gb_, 20, none⟩))) w_ := by
 have hu_ := Try.underlying25
 simp only [execOp, h]
 go_simp
theorem roadbookref07_Same.fa22 (h : ρ_ x_ = .pointer (some ⟨gb_, 0, none⟩)) : (execOp ρ_ { dst := d_, op := .fieldAddr 25 x_ 22, type := t_, pos := p_, after := af_, guard := g_ }).run Try.prog w_ = .ok (.value (.pointer (some ⟨gb_, 22, none⟩))) w_ := by
 have hu_ := Try.underlying25
 simp only [execOp, h]
 go_simp
theorem roadbookref07_Same.fa23 (h : ρ_ x_ = .pointer (some ⟨gb_, 0, none⟩)) : (execOp ρ_ { dst := d_, op := .fieldAddr 25 x_ 23, type := t_, pos := p_, after := af_, guard := g_ }).run Try.prog w_ = .ok (.value (.pointer (some ⟨gb_, 23, none⟩))) w_ := by
 have hu_ := Try.underlying25
 simp only [execOp, h]
 go_simp
theorem roadbookref07_Same.ldi {v_ : Value} (h : ρ_ x_ = .pointer (some ⟨gb_, f_, none⟩)) (hc : w_.cell? ⟨gb_, f_, none⟩ = some v_) : (execOp ρ_ { dst := d_, op := .load 3 x_, type := t_, pos := p_, after := af_, guard := g_ }).run Try.prog w_ = .ok (.value v_) w_ := by
 simp only [execOp, h]
 go_simp
theorem roadbookref07_Same.lds {v_ : Value} (h : ρ_ x_ = .pointer (some ⟨gb_, f_, none⟩)) (hc : w_.cell? ⟨gb_, f_, none⟩ = some v_) : (execOp ρ_ { dst := d_, op := .load 9 x_, type := t_, pos := p_, after := af_, guard := g_ }).run Try.prog w_ = .ok (.value v_) w_ := by
 simp only [execOp, h]
 go_simp
theorem roadbookref07_Same.nei {m_ n_ : Int} (hx : ρ_ x_ = .int .i64 m_) (hy : ρ_ y_ = .int .i64 n_) : (execOp ρ_ { dst := d_, op := .binOp .neq 3 x_ y_ t2_, type := t_, pos := p_, after := af_, guard := g_ }).run Try.prog w_ = .ok (.value (.bool (m_ != n_))) w_ := by
 simp only [execOp, hx, hy]
 go_simp
theorem roadbookref07_Same.nes {m_ n_ : ByteArray} (hx : ρ_ x_ = .string m_) (hy : ρ_ y_ = .string n_) : (execOp ρ_ { dst := d_, op := .binOp .neq 9 x_ y_ t2_, type := t_, pos := p_, after := af_, guard := g_ }).run Try.prog w_ = .ok (.value (.bool (m_.toList != n_.toList))) w_ := by
 simp only [execOp, hx, hy]
 go_simp
 simp only [bne, Bool.not_not]
end
set_option maxHeartbeats 8000000 in
set_option maxRecDepth 100000 in
theorem roadbookref07_Same.calls (k : Nat) (ax : Int) (av : Int) (aw : Int) (ay : ByteArray) (az : Int) (aH : Int) (aE : ByteArray) (aA : Int) (aD : Int) (aC : ByteArray) (au : Int) (an : ByteArray) (al : Int) (ak : Int) (ar : Int) (af : Int) (ai : Int) (am : Int) (ao : Int) (aa : ByteArray) (ac : ByteArray) (bg : Option Addr) (bb : Nat) (ab : List (S46)) (ap : Int) (aq : ByteArray) (aZ : Option Addr) (ba : Nat) (ah : List (S48)) (dN : Int) (dO : Int) (dP : Int) (dQ : ByteArray) (dR : Int) (dS : Int) (dT : ByteArray) (dU : Int) (dV : Int) (dW : ByteArray) (cJ : Int) (cw : ByteArray) (cx : Int) (cy : Int) (cz : Int) (cA : Int) (cB : Int) (cC : Int) (cD : Int) (cE : ByteArray) (cF : ByteArray) (hI : Option Addr) (hJ : Nat) (cG : List (S46)) (cH : Int) (cS : ByteArray) (jk : Option Addr) (jl : Nat) (cL : List (S48)) (r : Bool) (w : World) (cf : Kd.C k46 w bg ab.length ab) (cg : ab.length ≤ bb) (ch : Kd.C k48 w aZ ah.length ah) (ci : ah.length ≤ ba) (kW : Kd.C k46 w hI cG.length cG) (kX : cG.length ≤ hJ) (kY : Kd.C k48 w jk cL.length cL) (kZ : cL.length ≤ jl) (h : roadbookref07_Same.f k ax av aw ay az aH aE aA aD aC au an al ak ar af ai am ao aa ac ab ap aq ah dN dO dP dQ dR dS dT dU dV dW cJ cw cx cy cz cA cB cC cD cE cF cG cH cS cL = some r) :
  Calls Try.prog 24 #[.agg #[.int .i64 ax, .int .i64 av, .int .i64 aw, .string ay, .int .i64 az, .int .i64 aH, .string aE, .int .i64 aA, .int .i64 aD, .string aC, .int .i64 au, .string an, .int .i64 al, .int .i64 ak, .int .i64 ar, .int .i64 af, .int .i64 ai, .int .i64 am, .int .i64 ao, .string aa, .string ac, .slice bg ab.length bb, .int .i64 ap, .string aq, .slice aZ ah.length ba], .agg #[.int .i64 dN, .int .i64 dO, .int .i64 dP, .string dQ, .int .i64 dR, .int .i64 dS, .string dT, .int .i64 dU, .int .i64 dV, .string dW, .int .i64 cJ, .string cw, .int .i64 cx, .int .i64 cy, .int .i64 cz, .int .i64 cA, .int .i64 cB, .int .i64 cC, .int .i64 cD, .string cE, .string cF, .slice hI cG.length hJ, .int .i64 cH, .string cS, .slice jk cL.length jl]] w fun e w' => e = .returned (.bool r) ∧ Below w.heap.size w w' := by
 have fi := Try.underlying25
 have ed := Aside0.mk cf
 have bM := Aside0.mk cg
 clear cf cg
 have er := Aside0.mk ch
 have br := Aside0.mk ci
 clear ch ci
 have nU := Aside0.mk kW
 have la := Aside0.mk kX
 clear kW kX
 have nV := Aside0.mk kY
 have nW := Aside0.mk kZ
 clear kY kZ
 have HB := Aside0.mk (Below.refl w.heap.size w)
 have H : (if ax = dN then (if av = dO then (if aw = dP then (if ay.toList = dQ.toList then (if az = dR then (if aH = dS then (if aE.toList = dT.toList then (if aA = dU then (if aD = dV then (if aC.toList = dW.toList then (roadbookref07_Same.j0 k (au != cJ) ax av aw ay az aH aE aA aD aC au an al ak ar af ai am ao aa ac ab ap aq ah dN dO dP dQ dR dS dT dU dV dW cJ cw cx cy cz cA cB cC cD cE cF cG cH cS cL) else (roadbookref07_Same.j0 k true ax av aw ay az aH aE aA aD aC au an al ak ar af ai am ao aa ac ab ap aq ah dN dO dP dQ dR dS dT dU dV dW cJ cw cx cy cz cA cB cC cD cE cF cG cH cS cL)) else (roadbookref07_Same.j0 k true ax av aw ay az aH aE aA aD aC au an al ak ar af ai am ao aa ac ab ap aq ah dN dO dP dQ dR dS dT dU dV dW cJ cw cx cy cz cA cB cC cD cE cF cG cH cS cL)) else (roadbookref07_Same.j0 k true ax av aw ay az aH aE aA aD aC au an al ak ar af ai am ao aa ac ab ap aq ah dN dO dP dQ dR dS dT dU dV dW cJ cw cx cy cz cA cB cC cD cE cF cG cH cS cL)) else (roadbookref07_Same.j0 k true ax av aw ay az aH aE aA aD aC au an al ak ar af ai am ao aa ac ab ap aq ah dN dO dP dQ dR dS dT dU dV dW cJ cw cx cy cz cA cB cC cD cE cF cG cH cS cL)) else (roadbookref07_Same.j0 k true ax av aw ay az aH aE aA aD aC au an al ak ar af ai am ao aa ac ab ap aq ah dN dO dP dQ dR dS dT dU dV dW cJ cw cx cy cz cA cB cC cD cE cF cG cH cS cL)) else (roadbookref07_Same.j0 k true ax av aw ay az aH aE aA aD aC au an al ak ar af ai am ao aa ac ab ap aq ah dN dO dP dQ dR dS dT dU dV dW cJ cw cx cy cz cA cB cC cD cE cF cG cH cS cL)) else (roadbookref07_Same.j0 k true ax av aw ay az aH aE aA aD aC au an al ak ar af ai am ao aa ac ab ap aq ah dN dO dP dQ dR dS dT dU dV dW cJ cw cx cy cz cA cB cC cD cE cF cG cH cS cL)) else (roadbookref07_Same.j0 k true ax av aw ay az aH aE aA aD aC au an al ak ar af ai am ao aa ac ab ap aq ah dN dO dP dQ dR dS dT dU dV dW cJ cw cx cy cz cA cB cC cD cE cF cG cH cS cL)) else (roadbookref07_Same.j0 k true ax av aw ay az aH aE aA aD aC au an al ak ar af ai am ao aa ac ab ap aq ah dN dO dP dQ dR dS dT dU dV dW cJ cw cx cy cz cA cB cC cD cE cF cG cH cS cL)) else (roadbookref07_Same.j0 k true ax av aw ay az aH aE aA aD aC au an al ak ar af ai am ao aa ac ab ap aq ah dN dO dP dQ dR dS dT dU dV dW cJ cw cx cy cz cA cB cC cD cE cF cG cH cS cL)) = some r := h
 clear h
 have fH := Aside0.mk H
 clear H
 go_enter Try.func24, Try.ntmps24
 go_upto_region 1 with (first | ((with_reducible refine gate_dst (N := 2) rfl ?_); refine Sq.box 2 #[.int .i64 ax, .int .i64 av, .int .i64 aw, .string ay, .int .i64 az, .int .i64 aH, .string aE, .int .i64 aA, .int .i64 aD, .string aC, .int .i64 au, .string an, .int .i64 al, .int .i64 ak, .int .i64 ar, .int .i64 af, .int .i64 ai, .int .i64 am, .int .i64 ao, .string aa, .string ac, .slice bg ab.length bb, .int .i64 ap, .string aq, .slice aZ ah.length ba] 25 ?_; intro ag hg w4 hbox hb; have ae := Aside0.mk (hbox); have cp := Aside0.mk (Sq.ge hg Z1); have bm := Aside0.mk (Sq.ge hg Z1); replace HB := Aside0.mk (below_step Z1 hb); clear hb hbox hg) | ((with_reducible refine gate_dst (N := 3) rfl ?_); refine Sq.box 3 #[.int .i64 dN, .int .i64 dO, .int .i64 dP, .string dQ, .int .i64 dR, .int .i64 dS, .string dT, .int .i64 dU, .int .i64 dV, .string dW, .int .i64 cJ, .string cw, .int .i64 cx, .int .i64 cy, .int .i64 cz, .int .i64 cA, .int .i64 cB, .int .i64 cC, .int .i64 cD, .string cE, .string cF, .slice hI cG.length hJ, .int .i64 cH, .string cS, .slice jk cL.length jl] 25 ?_; intro aI hg w5 hbox hb; have aN := Aside0.mk (hbox); have fj := Aside0.mk (Sq.ge hg Z0); have ew := Aside0.mk (Sq.ge hg Z0); have aQ := Aside0.mk (Sq.nl hg (blk_lt (g := ag) Z2)); have bj := Aside0.mk (Sq.ng hg (blk_lt (g := ag) Z2)); replace ae := Aside0.mk (blk_below (g := ag) Z2 hb); replace HB := Aside0.mk (below_step Z0 hb); clear hb hbox hg))
 (try simp only [Act.put, Sq.s1, Sq.s2, Sq.s3])
 go_cut [79] (fun tW wc => ∃ (kq : Nat) (jT : Bool), tW = .bool jT ∧ Aside0 (roadbookref07_Same.j0 kq jT ax av aw ay az aH aE aA aD aC au an al ak ar af ai am ao aa ac ab ap aq ah dN dO dP dQ dR dS dT dU dV dW cJ cw cx cy cz cA cB cC cD cE cF cG cH cS cL = some r) ∧ Aside0 (kq ≤ k) ∧ Aside0 (wc.heap[ag]? = some (.cells #[.int .i64 ax, .int .i64 av, .int .i64 aw, .string ay, .int .i64 az, .int .i64 aH, .string aE, .int .i64 aA, .int .i64 aD, .string aC, .int .i64 au, .string an, .int .i64 al, .int .i64 ak, .int .i64 ar, .int .i64 af, .int .i64 ai, .int .i64 am, .int .i64 ao, .string aa, .string ac, (.slice bg ab.length bb), .int .i64 ap, .string aq, (.slice aZ ah.length ba)] 25 (0, 0))) ∧ Aside0 (wc.heap[aI]? = some (.cells #[.int .i64 dN, .int .i64 dO, .int .i64 dP, .string dQ, .int .i64 dR, .int .i64 dS, .string dT, .int .i64 dU, .int .i64 dV, .string dW, .int .i64 cJ, .string cw, .int .i64 cx, .int .i64 cy, .int .i64 cz, .int .i64 cA, .int .i64 cB, .int .i64 cC, .int .i64 cD, .string cE, .string cF, (.slice hI cG.length hJ), .int .i64 cH, .string cS, (.slice jk cL.length jl)] 25 (0, 0))) ∧ Aside0 (Below w.heap.size w wc))
 case first =>
  rename_i J_ K_ hJ_ hK_
  have HJ_ : roadbookref07_Same.j0 k (((((((((((ax != dN) || (av != dO)) || (aw != dP)) || (ay.toList != dQ.toList)) || (az != dR)) || (aH != dS)) || (aE.toList != dT.toList)) || (aA != dU)) || (aD != dV)) || (aC.toList != dW.toList)) || (au != cJ)) ax av aw ay az aH aE aA aD aC au an al ak ar af ai am ao aa ac ab ap aq ah dN dO dP dQ dR dS dT dU dV dW cJ cw cx cy cz cA cB cC cD cE cF cG cH cS cL = some r := by
   have H := fH.out
   by_cases q0 : ax = dN
   ·rw [if_pos q0] at H
    have d0 : (ax != dN) = false := bne_eq_false_iff_eq.mpr q0
    by_cases q1 : av = dO
    ·rw [if_pos q1] at H
     have d1 : (av != dO) = false := bne_eq_false_iff_eq.mpr q1
     by_cases q2 : aw = dP
     ·rw [if_pos q2] at H
      have d2 : (aw != dP) = false := bne_eq_false_iff_eq.mpr q2
      by_cases q3 : ay.toList = dQ.toList
      ·rw [if_pos q3] at H
       have d3 : (ay.toList != dQ.toList) = false := bne_eq_false_iff_eq.mpr q3
       by_cases q4 : az = dR
       ·rw [if_pos q4] at H
        have d4 : (az != dR) = false := bne_eq_false_iff_eq.mpr q4
        by_cases q5 : aH = dS
        ·rw [if_pos q5] at H
         have d5 : (aH != dS) = false := bne_eq_false_iff_eq.mpr q5
         by_cases q6 : aE.toList = dT.toList
         ·rw [if_pos q6] at H
          have d6 : (aE.toList != dT.toList) = false := bne_eq_false_iff_eq.mpr q6
          by_cases q7 : aA = dU
          ·rw [if_pos q7] at H
           have d7 : (aA != dU) = false := bne_eq_false_iff_eq.mpr q7
           by_cases q8 : aD = dV
           ·rw [if_pos q8] at H
            have d8 : (aD != dV) = false := bne_eq_false_iff_eq.mpr q8
            by_cases q9 : aC.toList = dW.toList
            ·rw [if_pos q9] at H
             have d9 : (aC.toList != dW.toList) = false := bne_eq_false_iff_eq.mpr q9
             rw [d0, d1, d2, d3, d4, d5, d6, d7, d8, d9]; simp only [Bool.false_or]; exact H
            ·rw [if_neg q9] at H
             have d9 : (aC.toList != dW.toList) = true := bne_iff_ne.mpr q9
             rw [d0, d1, d2, d3, d4, d5, d6, d7, d8, d9]; simp only [Bool.false_or, Bool.true_or, Bool.or_true]; exact H
           ·rw [if_neg q8] at H
            have d8 : (aD != dV) = true := bne_iff_ne.mpr q8
            rw [d0, d1, d2, d3, d4, d5, d6, d7, d8]; simp only [Bool.false_or, Bool.true_or, Bool.or_true]; exact H
          ·rw [if_neg q7] at H
           have d7 : (aA != dU) = true := bne_iff_ne.mpr q7
           rw [d0, d1, d2, d3, d4, d5, d6, d7]; simp only [Bool.false_or, Bool.true_or, Bool.or_true]; exact H
         ·rw [if_neg q6] at H
          have d6 : (aE.toList != dT.toList) = true := bne_iff_ne.mpr q6
          rw [d0, d1, d2, d3, d4, d5, d6]; simp only [Bool.false_or, Bool.true_or, Bool.or_true]; exact H
        ·rw [if_neg q5] at H
         have d5 : (aH != dS) = true := bne_iff_ne.mpr q5
         rw [d0, d1, d2, d3, d4, d5]; simp only [Bool.false_or, Bool.true_or, Bool.or_true]; exact H
       ·rw [if_neg q4] at H
        have d4 : (az != dR) = true := bne_iff_ne.mpr q4
        rw [d0, d1, d2, d3, d4]; simp only [Bool.false_or, Bool.true_or, Bool.or_true]; exact H
      ·rw [if_neg q3] at H
       have d3 : (ay.toList != dQ.toList) = true := bne_iff_ne.mpr q3
       rw [d0, d1, d2, d3]; simp only [Bool.false_or, Bool.true_or, Bool.or_true]; exact H
     ·rw [if_neg q2] at H
      have d2 : (aw != dP) = true := bne_iff_ne.mpr q2
      rw [d0, d1, d2]; simp only [Bool.false_or, Bool.true_or, Bool.or_true]; exact H
    ·rw [if_neg q1] at H
     have d1 : (av != dO) = true := bne_iff_ne.mpr q1
     rw [d0, d1]; simp only [Bool.false_or, Bool.true_or, Bool.or_true]; exact H
   ·rw [if_neg q0] at H
    have d0 : (ax != dN) = true := bne_iff_ne.mpr q0
    rw [d0]; simp only [Bool.false_or, Bool.true_or, Bool.or_true]; exact H
  obtain ⟨hp0, hp1, hp2, hp3, hp4, hp5, hp6, hp7, hp8, hp9, hp10, -, -, -, -, -, -, -, -, -, -, -, -, -, -, -, -, -, -, -, -, -, -, -, -, -, -, -, -, -, -, -, -, -, -, -, -, -, -, -⟩ := cells_25 ae.out
  obtain ⟨hq0, hq1, hq2, hq3, hq4, hq5, hq6, hq7, hq8, hq9, hq10, -, -, -, -, -, -, -, -, -, -, -, -, -, -, -, -, -, -, -, -, -, -, -, -, -, -, -, -, -, -, -, -, -, -, -, -, -, -, -⟩ := cells_25 aN.out
  refine wp_region_lit ?_
  refine Pre.row_first (p := 2) (q := 3) (n := 5) (N := 174) (lo := 5) (A1 := .pointer (some ⟨ag, 0, none⟩)) (A2 := .pointer (some ⟨aI, 0, none⟩)) (B1 := .pointer (some ⟨ag, 0, none⟩)) (B2 := .pointer (some ⟨aI, 0, none⟩)) (X1 := .int .i64 ax) (X2 := .int .i64 dN) (e := ax != dN) rfl rfl Z29 rfl rfl Z29 Z29 Z29 (fun _ _ _ _ _ _ h_ => roadbookref07_Same.fa0 h_) (fun _ _ _ _ _ _ h_ => roadbookref07_Same.fa0 h_) (fun _ _ _ _ _ _ h_ => roadbookref07_Same.ldi h_ hp0) (fun _ _ _ _ _ _ h_ => roadbookref07_Same.ldi h_ hq0) (fun _ _ _ _ _ _ _ _ h_ h2_ => roadbookref07_Same.nei h_ h2_) ?_
  intro a0_ hst_
  refine Pre.row_next (n := 11) (A1 := .pointer (some ⟨ag, 0, none⟩)) (A2 := .pointer (some ⟨aI, 0, none⟩)) (B1 := .pointer (some ⟨ag, 1, none⟩)) (B2 := .pointer (some ⟨aI, 1, none⟩)) (X1 := .int .i64 av) (X2 := .int .i64 dO) (e := av != dO) rfl hst_ Z29 Z29 Z29 Z29 Z29 (fun _ _ _ _ _ _ h_ => roadbookref07_Same.fa1 h_) (fun _ _ _ _ _ _ h_ => roadbookref07_Same.fa1 h_) (fun _ _ _ _ _ _ h_ => roadbookref07_Same.ldi h_ hp1) (fun _ _ _ _ _ _ h_ => roadbookref07_Same.ldi h_ hq1) (fun _ _ _ _ _ _ _ _ h_ h2_ => roadbookref07_Same.nei h_ h2_) ?_
  intro a1_ hst_
  refine Pre.row_next (n := 18) (A1 := .pointer (some ⟨ag, 0, none⟩)) (A2 := .pointer (some ⟨aI, 0, none⟩)) (B1 := .pointer (some ⟨ag, 2, none⟩)) (B2 := .pointer (some ⟨aI, 2, none⟩)) (X1 := .int .i64 aw) (X2 := .int .i64 dP) (e := aw != dP) rfl hst_ Z29 Z29 Z29 Z29 Z29 (fun _ _ _ _ _ _ h_ => roadbookref07_Same.fa2 h_) (fun _ _ _ _ _ _ h_ => roadbookref07_Same.fa2 h_) (fun _ _ _ _ _ _ h_ => roadbookref07_Same.ldi h_ hp2) (fun _ _ _ _ _ _ h_ => roadbookref07_Same.ldi h_ hq2) (fun _ _ _ _ _ _ _ _ h_ h2_ => roadbookref07_Same.nei h_ h2_) ?_
  intro a2_ hst_
  refine Pre.row_next (n := 25) (A1 := .pointer (some ⟨ag, 0, none⟩)) (A2 := .pointer (some ⟨aI, 0, none⟩)) (B1 := .pointer (some ⟨ag, 3, none⟩)) (B2 := .pointer (some ⟨aI, 3, none⟩)) (X1 := .string ay) (X2 := .string dQ) (e := ay.toList != dQ.toList) rfl hst_ Z29 Z29 Z29 Z29 Z29 (fun _ _ _ _ _ _ h_ => roadbookref07_Same.fa3 h_) (fun _ _ _ _ _ _ h_ => roadbookref07_Same.fa3 h_) (fun _ _ _ _ _ _ h_ => roadbookref07_Same.lds h_ hp3) (fun _ _ _ _ _ _ h_ => roadbookref07_Same.lds h_ hq3) (fun _ _ _ _ _ _ _ _ h_ h2_ => roadbookref07_Same.nes h_ h2_) ?_
  intro a3_ hst_
  refine Pre.row_next (n := 32) (A1 := .pointer (some ⟨ag, 0, none⟩)) (A2 := .pointer (some ⟨aI, 0, none⟩)) (B1 := .pointer (some ⟨ag, 4, none⟩)) (B2 := .pointer (some ⟨aI, 4, none⟩)) (X1 := .int .i64 az) (X2 := .int .i64 dR) (e := az != dR) rfl hst_ Z29 Z29 Z29 Z29 Z29 (fun _ _ _ _ _ _ h_ => roadbookref07_Same.fa4 h_) (fun _ _ _ _ _ _ h_ => roadbookref07_Same.fa4 h_) (fun _ _ _ _ _ _ h_ => roadbookref07_Same.ldi h_ hp4) (fun _ _ _ _ _ _ h_ => roadbookref07_Same.ldi h_ hq4) (fun _ _ _ _ _ _ _ _ h_ h2_ => roadbookref07_Same.nei h_ h2_) ?_
  intro a4_ hst_
  refine Pre.row_next (n := 39) (A1 := .pointer (some ⟨ag, 0, none⟩)) (A2 := .pointer (some ⟨aI, 0, none⟩)) (B1 := .pointer (some ⟨ag, 5, none⟩)) (B2 := .pointer (some ⟨aI, 5, none⟩)) (X1 := .int .i64 aH) (X2 := .int .i64 dS) (e := aH != dS) rfl hst_ Z29 Z29 Z29 Z29 Z29 (fun _ _ _ _ _ _ h_ => roadbookref07_Same.fa5 h_) (fun _ _ _ _ _ _ h_ => roadbookref07_Same.fa5 h_) (fun _ _ _ _ _ _ h_ => roadbookref07_Same.ldi h_ hp5) (fun _ _ _ _ _ _ h_ => roadbookref07_Same.ldi h_ hq5) (fun _ _ _ _ _ _ _ _ h_ h2_ => roadbookref07_Same.nei h_ h2_) ?_
  intro a5_ hst_
  refine Pre.row_next (n := 46) (A1 := .pointer (some ⟨ag, 0, none⟩)) (A2 := .pointer (some ⟨aI, 0, none⟩)) (B1 := .pointer (some ⟨ag, 6, none⟩)) (B2 := .pointer (some ⟨aI, 6, none⟩)) (X1 := .string aE) (X2 := .string dT) (e := aE.toList != dT.toList) rfl hst_ Z29 Z29 Z29 Z29 Z29 (fun _ _ _ _ _ _ h_ => roadbookref07_Same.fa6 h_) (fun _ _ _ _ _ _ h_ => roadbookref07_Same.fa6 h_) (fun _ _ _ _ _ _ h_ => roadbookref07_Same.lds h_ hp6) (fun _ _ _ _ _ _ h_ => roadbookref07_Same.lds h_ hq6) (fun _ _ _ _ _ _ _ _ h_ h2_ => roadbookref07_Same.nes h_ h2_) ?_
  intro a6_ hst_
  refine Pre.row_next (n := 53) (A1 := .pointer (some ⟨ag, 0, none⟩)) (A2 := .pointer (some ⟨aI, 0, none⟩)) (B1 := .pointer (some ⟨ag, 7, none⟩)) (B2 := .pointer (some ⟨aI, 7, none⟩)) (X1 := .int .i64 aA) (X2 := .int .i64 dU) (e := aA != dU) rfl hst_ Z29 Z29 Z29 Z29 Z29 (fun _ _ _ _ _ _ h_ => roadbookref07_Same.fa7 h_) (fun _ _ _ _ _ _ h_ => roadbookref07_Same.fa7 h_) (fun _ _ _ _ _ _ h_ => roadbookref07_Same.ldi h_ hp7) (fun _ _ _ _ _ _ h_ => roadbookref07_Same.ldi h_ hq7) (fun _ _ _ _ _ _ _ _ h_ h2_ => roadbookref07_Same.nei h_ h2_) ?_
  intro a7_ hst_
  refine Pre.row_next (n := 60) (A1 := .pointer (some ⟨ag, 0, none⟩)) (A2 := .pointer (some ⟨aI, 0, none⟩)) (B1 := .pointer (some ⟨ag, 8, none⟩)) (B2 := .pointer (some ⟨aI, 8, none⟩)) (X1 := .int .i64 aD) (X2 := .int .i64 dV) (e := aD != dV) rfl hst_ Z29 Z29 Z29 Z29 Z29 (fun _ _ _ _ _ _ h_ => roadbookref07_Same.fa8 h_) (fun _ _ _ _ _ _ h_ => roadbookref07_Same.fa8 h_) (fun _ _ _ _ _ _ h_ => roadbookref07_Same.ldi h_ hp8) (fun _ _ _ _ _ _ h_ => roadbookref07_Same.ldi h_ hq8) (fun _ _ _ _ _ _ _ _ h_ h2_ => roadbookref07_Same.nei h_ h2_) ?_
  intro a8_ hst_
  refine Pre.row_next (n := 67) (A1 := .pointer (some ⟨ag, 0, none⟩)) (A2 := .pointer (some ⟨aI, 0, none⟩)) (B1 := .pointer (some ⟨ag, 9, none⟩)) (B2 := .pointer (some ⟨aI, 9, none⟩)) (X1 := .string aC) (X2 := .string dW) (e := aC.toList != dW.toList) rfl hst_ Z29 Z29 Z29 Z29 Z29 (fun _ _ _ _ _ _ h_ => roadbookref07_Same.fa9 h_) (fun _ _ _ _ _ _ h_ => roadbookref07_Same.fa9 h_) (fun _ _ _ _ _ _ h_ => roadbookref07_Same.lds h_ hp9) (fun _ _ _ _ _ _ h_ => roadbookref07_Same.lds h_ hq9) (fun _ _ _ _ _ _ _ _ h_ h2_ => roadbookref07_Same.nes h_ h2_) ?_
  intro a9_ hst_
  refine Pre.row_last (n := 74) (A1 := .pointer (some ⟨ag, 0, none⟩)) (A2 := .pointer (some ⟨aI, 0, none⟩)) (B1 := .pointer (some ⟨ag, 10, none⟩)) (B2 := .pointer (some ⟨aI, 10, none⟩)) (X1 := .int .i64 au) (X2 := .int .i64 cJ) (e := au != cJ) rfl hst_ Z29 Z29 Z29 Z29 Z29 (fun _ _ _ _ _ _ h_ => roadbookref07_Same.fa10 h_) (fun _ _ _ _ _ _ h_ => roadbookref07_Same.fa10 h_) (fun _ _ _ _ _ _ h_ => roadbookref07_Same.ldi h_ hp10) (fun _ _ _ _ _ _ h_ => roadbookref07_Same.ldi h_ hq10) (fun _ _ _ _ _ _ _ _ h_ h2_ => roadbookref07_Same.nei h_ h2_) ?_
  intro a10_ hst_
  refine wpList_nil ?_
  have e_ := Pre.act_lit hst_.size hst_.defers
  have e2_ : a10_ = ⟨#[a10_.eval (.tmp 0), a10_.eval (.tmp 1), a10_.eval (.tmp 2), a10_.eval (.tmp 3), a10_.eval (.tmp 4), a10_.eval (.tmp 5), a10_.eval (.tmp 6), a10_.eval (.tmp 7), a10_.eval (.tmp 8), a10_.eval (.tmp 9), a10_.eval (.tmp 10), a10_.eval (.tmp 11), a10_.eval (.tmp 12), a10_.eval (.tmp 13), a10_.eval (.tmp 14), a10_.eval (.tmp 15), a10_.eval (.tmp 16), a10_.eval (.tmp 17), a10_.eval (.tmp 18), a10_.eval (.tmp 19), a10_.eval (.tmp 20), a10_.eval (.tmp 21), a10_.eval (.tmp 22), a10_.eval (.tmp 23), a10_.eval (.tmp 24), a10_.eval (.tmp 25), a10_.eval (.tmp 26), a10_.eval (.tmp 27), a10_.eval (.tmp 28), a10_.eval (.tmp 29), a10_.eval (.tmp 30), a10_.eval (.tmp 31), a10_.eval (.tmp 32), a10_.eval (.tmp 33), a10_.eval (.tmp 34), a10_.eval (.tmp 35), a10_.eval (.tmp 36), a10_.eval (.tmp 37), a10_.eval (.tmp 38), a10_.eval (.tmp 39), a10_.eval (.tmp 40), a10_.eval (.tmp 41), a10_.eval (.tmp 42), a10_.eval (.tmp 43), a10_.eval (.tmp 44), a10_.eval (.tmp 45), a10_.eval (.tmp 46), a10_.eval (.tmp 47), a10_.eval (.tmp 48), a10_.eval (.tmp 49), a10_.eval (.tmp 50), a10_.eval (.tmp 51), a10_.eval (.tmp 52), a10_.eval (.tmp 53), a10_.eval (.tmp 54), a10_.eval (.tmp 55), a10_.eval (.tmp 56), a10_.eval (.tmp 57), a10_.eval (.tmp 58), a10_.eval (.tmp 59), a10_.eval (.tmp 60), a10_.eval (.tmp 61), a10_.eval (.tmp 62), a10_.eval (.tmp 63), a10_.eval (.tmp 64), a10_.eval (.tmp 65), a10_.eval (.tmp 66), a10_.eval (.tmp 67), a10_.eval (.tmp 68), a10_.eval (.tmp 69), a10_.eval (.tmp 70), a10_.eval (.tmp 71), a10_.eval (.tmp 72), a10_.eval (.tmp 73), a10_.eval (.tmp 74), a10_.eval (.tmp 75), a10_.eval (.tmp 76), a10_.eval (.tmp 77), a10_.eval (.tmp 78), a10_.eval (.tmp 79), a10_.eval (.tmp 80), a10_.eval (.tmp 81), a10_.eval (.tmp 82), a10_.eval (.tmp 83), a10_.eval (.tmp 84), a10_.eval (.tmp 85), a10_.eval (.tmp 86), a10_.eval (.tmp 87), a10_.eval (.tmp 88), a10_.eval (.tmp 89), a10_.eval (.tmp 90), a10_.eval (.tmp 91), a10_.eval (.tmp 92), a10_.eval (.tmp 93), a10_.eval (.tmp 94), a10_.eval (.tmp 95), a10_.eval (.tmp 96), a10_.eval (.tmp 97), a10_.eval (.tmp 98), a10_.eval (.tmp 99), a10_.eval (.tmp 100), a10_.eval (.tmp 101), a10_.eval (.tmp 102), a10_.eval (.tmp 103), a10_.eval (.tmp 104), a10_.eval (.tmp 105), a10_.eval (.tmp 106), a10_.eval (.tmp 107), a10_.eval (.tmp 108), a10_.eval (.tmp 109), a10_.eval (.tmp 110), a10_.eval (.tmp 111), a10_.eval (.tmp 112), a10_.eval (.tmp 113), a10_.eval (.tmp 114), a10_.eval (.tmp 115), a10_.eval (.tmp 116), a10_.eval (.tmp 117), a10_.eval (.tmp 118), a10_.eval (.tmp 119), a10_.eval (.tmp 120), a10_.eval (.tmp 121), a10_.eval (.tmp 122), a10_.eval (.tmp 123), a10_.eval (.tmp 124), a10_.eval (.tmp 125), a10_.eval (.tmp 126), a10_.eval (.tmp 127), a10_.eval (.tmp 128), a10_.eval (.tmp 129), a10_.eval (.tmp 130), a10_.eval (.tmp 131), a10_.eval (.tmp 132), a10_.eval (.tmp 133), a10_.eval (.tmp 134), a10_.eval (.tmp 135), a10_.eval (.tmp 136), a10_.eval (.tmp 137), a10_.eval (.tmp 138), a10_.eval (.tmp 139), a10_.eval (.tmp 140), a10_.eval (.tmp 141), a10_.eval (.tmp 142), a10_.eval (.tmp 143), a10_.eval (.tmp 144), a10_.eval (.tmp 145), a10_.eval (.tmp 146), a10_.eval (.tmp 147), a10_.eval (.tmp 148), a10_.eval (.tmp 149), a10_.eval (.tmp 150), a10_.eval (.tmp 151), a10_.eval (.tmp 152), a10_.eval (.tmp 153), a10_.eval (.tmp 154), a10_.eval (.tmp 155), a10_.eval (.tmp 156), a10_.eval (.tmp 157), a10_.eval (.tmp 158), a10_.eval (.tmp 159), a10_.eval (.tmp 160), a10_.eval (.tmp 161), a10_.eval (.tmp 162), a10_.eval (.tmp 163), a10_.eval (.tmp 164), a10_.eval (.tmp 165), a10_.eval (.tmp 166), a10_.eval (.tmp 167), a10_.eval (.tmp 168), a10_.eval (.tmp 169), a10_.eval (.tmp 170), a10_.eval (.tmp 171), a10_.eval (.tmp 172), a10_.eval (.tmp 173)], []⟩ := e_.trans rfl
  clear e_
  have k0_ := hst_.kept 0 Z29
  have k1_ := hst_.kept 1 Z29
  have k2_ := hst_.kept 2 Z29
  have k3_ := hst_.kept 3 Z29
  have k4_ := hst_.kept 4 Z29
  rw [k0_, k1_, k2_, k3_, k4_] at e2_
  exact hK_ _ _ (hJ_ _ _ ⟨a10_.eval (.tmp 5), a10_.eval (.tmp 6), a10_.eval (.tmp 7), a10_.eval (.tmp 8), a10_.eval (.tmp 9), a10_.eval (.tmp 10), a10_.eval (.tmp 11), a10_.eval (.tmp 12), a10_.eval (.tmp 13), a10_.eval (.tmp 14), a10_.eval (.tmp 15), a10_.eval (.tmp 16), a10_.eval (.tmp 17), a10_.eval (.tmp 18), a10_.eval (.tmp 19), a10_.eval (.tmp 20), a10_.eval (.tmp 21), a10_.eval (.tmp 22), a10_.eval (.tmp 23), a10_.eval (.tmp 24), a10_.eval (.tmp 25), a10_.eval (.tmp 26), a10_.eval (.tmp 27), a10_.eval (.tmp 28), a10_.eval (.tmp 29), a10_.eval (.tmp 30), a10_.eval (.tmp 31), a10_.eval (.tmp 32), a10_.eval (.tmp 33), a10_.eval (.tmp 34), a10_.eval (.tmp 35), a10_.eval (.tmp 36), a10_.eval (.tmp 37), a10_.eval (.tmp 38), a10_.eval (.tmp 39), a10_.eval (.tmp 40), a10_.eval (.tmp 41), a10_.eval (.tmp 42), a10_.eval (.tmp 43), a10_.eval (.tmp 44), a10_.eval (.tmp 45), a10_.eval (.tmp 46), a10_.eval (.tmp 47), a10_.eval (.tmp 48), a10_.eval (.tmp 49), a10_.eval (.tmp 50), a10_.eval (.tmp 51), a10_.eval (.tmp 52), a10_.eval (.tmp 53), a10_.eval (.tmp 54), a10_.eval (.tmp 55), a10_.eval (.tmp 56), a10_.eval (.tmp 57), a10_.eval (.tmp 58), a10_.eval (.tmp 59), a10_.eval (.tmp 60), a10_.eval (.tmp 61), a10_.eval (.tmp 62), a10_.eval (.tmp 63), a10_.eval (.tmp 64), a10_.eval (.tmp 65), a10_.eval (.tmp 66), a10_.eval (.tmp 67), a10_.eval (.tmp 68), a10_.eval (.tmp 69), a10_.eval (.tmp 70), a10_.eval (.tmp 71), a10_.eval (.tmp 72), a10_.eval (.tmp 73), a10_.eval (.tmp 74), a10_.eval (.tmp 75), a10_.eval (.tmp 76), a10_.eval (.tmp 77), a10_.eval (.tmp 78), a10_.eval (.tmp 79), a10_.eval (.tmp 80), a10_.eval (.tmp 81), a10_.eval (.tmp 82), a10_.eval (.tmp 83), a10_.eval (.tmp 84), a10_.eval (.tmp 85), a10_.eval (.tmp 86), a10_.eval (.tmp 87), a10_.eval (.tmp 88), a10_.eval (.tmp 89), a10_.eval (.tmp 90), a10_.eval (.tmp 91), a10_.eval (.tmp 92), a10_.eval (.tmp 93), a10_.eval (.tmp 94), a10_.eval (.tmp 95), a10_.eval (.tmp 96), a10_.eval (.tmp 97), a10_.eval (.tmp 98), a10_.eval (.tmp 99), a10_.eval (.tmp 100), a10_.eval (.tmp 101), a10_.eval (.tmp 102), a10_.eval (.tmp 103), a10_.eval (.tmp 104), a10_.eval (.tmp 105), a10_.eval (.tmp 106), a10_.eval (.tmp 107), a10_.eval (.tmp 108), a10_.eval (.tmp 109), a10_.eval (.tmp 110), a10_.eval (.tmp 111), a10_.eval (.tmp 112), a10_.eval (.tmp 113), a10_.eval (.tmp 114), a10_.eval (.tmp 115), a10_.eval (.tmp 116), a10_.eval (.tmp 117), a10_.eval (.tmp 118), a10_.eval (.tmp 119), a10_.eval (.tmp 120), a10_.eval (.tmp 121), a10_.eval (.tmp 122), a10_.eval (.tmp 123), a10_.eval (.tmp 124), a10_.eval (.tmp 125), a10_.eval (.tmp 126), a10_.eval (.tmp 127), a10_.eval (.tmp 128), a10_.eval (.tmp 129), a10_.eval (.tmp 130), a10_.eval (.tmp 131), a10_.eval (.tmp 132), a10_.eval (.tmp 133), a10_.eval (.tmp 134), a10_.eval (.tmp 135), a10_.eval (.tmp 136), a10_.eval (.tmp 137), a10_.eval (.tmp 138), a10_.eval (.tmp 139), a10_.eval (.tmp 140), a10_.eval (.tmp 141), a10_.eval (.tmp 142), a10_.eval (.tmp 143), a10_.eval (.tmp 144), a10_.eval (.tmp 145), a10_.eval (.tmp 146), a10_.eval (.tmp 147), a10_.eval (.tmp 148), a10_.eval (.tmp 149), a10_.eval (.tmp 150), a10_.eval (.tmp 151), a10_.eval (.tmp 152), a10_.eval (.tmp 153), a10_.eval (.tmp 154), a10_.eval (.tmp 155), a10_.eval (.tmp 156), a10_.eval (.tmp 157), a10_.eval (.tmp 158), a10_.eval (.tmp 159), a10_.eval (.tmp 160), a10_.eval (.tmp 161), a10_.eval (.tmp 162), a10_.eval (.tmp 163), a10_.eval (.tmp 164), a10_.eval (.tmp 165), a10_.eval (.tmp 166), a10_.eval (.tmp 167), a10_.eval (.tmp 168), a10_.eval (.tmp 169), a10_.eval (.tmp 170), a10_.eval (.tmp 171), a10_.eval (.tmp 172), a10_.eval (.tmp 173), ⟨k, (((((((((((ax != dN) || (av != dO)) || (aw != dP)) || (ay.toList != dQ.toList)) || (az != dR)) || (aH != dS)) || (aE.toList != dT.toList)) || (aA != dU)) || (aD != dV)) || (aC.toList != dW.toList)) || (au != cJ)), hst_.so, ⟨HJ_⟩, ⟨Nat.le_refl _⟩, ⟨ae.out⟩, ⟨aN.out⟩, ⟨HB.out⟩⟩, e2_⟩)
 case rest =>
  clear fH
  try clear c1
  try clear c2
  try clear eb
  obtain ⟨kq, jT, rfl, HA, rY, ae, aN, HB⟩ := hcut
  cases kq with
  | zero => exact absurd HA.out (by simp [roadbookref07_Same.j0])
  | succ kj2 =>
   have H := HA.out
   clear HA
   simp only [roadbookref07_Same.j0] at H
   by_cases pR : jT = true
   ·subst pR
    replace H := Sq.itT H
    obtain rfl := Option.some.inj H
    go_wp2
    go_ret
    exact ⟨Z5, Z12⟩
   ·replace pR := Bool.eq_false_iff.mpr pR
    subst pR
    replace H := Sq.itF H
    have pS := Aside0.mk H
    clear H
    go_upto_region 3 with (fail)
    go_cut [161] (fun sm wc => ∃ (kq : Nat) (ht : Bool), sm = .bool ht ∧ Aside0 (roadbookref07_Same.j1 kq ht ax av aw ay az aH aE aA aD aC au an al ak ar af ai am ao aa ac ab ap aq ah dN dO dP dQ dR dS dT dU dV dW cJ cw cx cy cz cA cB cC cD cE cF cG cH cS cL = some r) ∧ Aside0 (kq ≤ kj2) ∧ Aside0 (wc.heap[ag]? = some (.cells #[.int .i64 ax, .int .i64 av, .int .i64 aw, .string ay, .int .i64 az, .int .i64 aH, .string aE, .int .i64 aA, .int .i64 aD, .string aC, .int .i64 au, .string an, .int .i64 al, .int .i64 ak, .int .i64 ar, .int .i64 af, .int .i64 ai, .int .i64 am, .int .i64 ao, .string aa, .string ac, (.slice bg ab.length bb), .int .i64 ap, .string aq, (.slice aZ ah.length ba)] 25 (0, 0))) ∧ Aside0 (wc.heap[aI]? = some (.cells #[.int .i64 dN, .int .i64 dO, .int .i64 dP, .string dQ, .int .i64 dR, .int .i64 dS, .string dT, .int .i64 dU, .int .i64 dV, .string dW, .int .i64 cJ, .string cw, .int .i64 cx, .int .i64 cy, .int .i64 cz, .int .i64 cA, .int .i64 cB, .int .i64 cC, .int .i64 cD, .string cE, .string cF, (.slice hI cG.length hJ), .int .i64 cH, .string cS, (.slice jk cL.length jl)] 25 (0, 0))) ∧ Aside0 (Below w.heap.size w wc))
    case first =>
     rename_i J_ K_ hJ_ hK_
     have HJ_ : roadbookref07_Same.j1 kj2 ((((((((((((an.toList != cw.toList) || (al != cx)) || (ak != cy)) || (ar != cz)) || (af != cA)) || (ai != cB)) || (am != cC)) || (ao != cD)) || (aa.toList != cE.toList)) || (ac.toList != cF.toList)) || (ap != cH)) || (aq.toList != cS.toList)) ax av aw ay az aH aE aA aD aC au an al ak ar af ai am ao aa ac ab ap aq ah dN dO dP dQ dR dS dT dU dV dW cJ cw cx cy cz cA cB cC cD cE cF cG cH cS cL = some r := by
      have H := pS.out
      by_cases q0 : an.toList = cw.toList
      ·rw [if_pos q0] at H
       have d0 : (an.toList != cw.toList) = false := bne_eq_false_iff_eq.mpr q0
       by_cases q1 : al = cx
       ·rw [if_pos q1] at H
        have d1 : (al != cx) = false := bne_eq_false_iff_eq.mpr q1
        by_cases q2 : ak = cy
        ·rw [if_pos q2] at H
         have d2 : (ak != cy) = false := bne_eq_false_iff_eq.mpr q2
         by_cases q3 : ar = cz
         ·rw [if_pos q3] at H
          have d3 : (ar != cz) = false := bne_eq_false_iff_eq.mpr q3
          by_cases q4 : af = cA
          ·rw [if_pos q4] at H
           have d4 : (af != cA) = false := bne_eq_false_iff_eq.mpr q4
           by_cases q5 : ai = cB
           ·rw [if_pos q5] at H
            have d5 : (ai != cB) = false := bne_eq_false_iff_eq.mpr q5
            by_cases q6 : am = cC
            ·rw [if_pos q6] at H
             have d6 : (am != cC) = false := bne_eq_false_iff_eq.mpr q6
             by_cases q7 : ao = cD
             ·rw [if_pos q7] at H
              have d7 : (ao != cD) = false := bne_eq_false_iff_eq.mpr q7
              by_cases q8 : aa.toList = cE.toList
              ·rw [if_pos q8] at H
               have d8 : (aa.toList != cE.toList) = false := bne_eq_false_iff_eq.mpr q8
               by_cases q9 : ac.toList = cF.toList
               ·rw [if_pos q9] at H
                have d9 : (ac.toList != cF.toList) = false := bne_eq_false_iff_eq.mpr q9
                by_cases q10 : ap = cH
                ·rw [if_pos q10] at H
                 have d10 : (ap != cH) = false := bne_eq_false_iff_eq.mpr q10
                 rw [d0, d1, d2, d3, d4, d5, d6, d7, d8, d9, d10]; simp only [Bool.false_or]; exact H
                ·rw [if_neg q10] at H
                 have d10 : (ap != cH) = true := bne_iff_ne.mpr q10
                 rw [d0, d1, d2, d3, d4, d5, d6, d7, d8, d9, d10]; simp only [Bool.false_or, Bool.true_or, Bool.or_true]; exact H
               ·rw [if_neg q9] at H
                have d9 : (ac.toList != cF.toList) = true := bne_iff_ne.mpr q9
                rw [d0, d1, d2, d3, d4, d5, d6, d7, d8, d9]; simp only [Bool.false_or, Bool.true_or, Bool.or_true]; exact H
              ·rw [if_neg q8] at H
               have d8 : (aa.toList != cE.toList) = true := bne_iff_ne.mpr q8
               rw [d0, d1, d2, d3, d4, d5, d6, d7, d8]; simp only [Bool.false_or, Bool.true_or, Bool.or_true]; exact H
             ·rw [if_neg q7] at H
              have d7 : (ao != cD) = true := bne_iff_ne.mpr q7
              rw [d0, d1, d2, d3, d4, d5, d6, d7]; simp only [Bool.false_or, Bool.true_or, Bool.or_true]; exact H
            ·rw [if_neg q6] at H
             have d6 : (am != cC) = true := bne_iff_ne.mpr q6
             rw [d0, d1, d2, d3, d4, d5, d6]; simp only [Bool.false_or, Bool.true_or, Bool.or_true]; exact H
           ·rw [if_neg q5] at H
            have d5 : (ai != cB) = true := bne_iff_ne.mpr q5
            rw [d0, d1, d2, d3, d4, d5]; simp only [Bool.false_or, Bool.true_or, Bool.or_true]; exact H
          ·rw [if_neg q4] at H
           have d4 : (af != cA) = true := bne_iff_ne.mpr q4
           rw [d0, d1, d2, d3, d4]; simp only [Bool.false_or, Bool.true_or, Bool.or_true]; exact H
         ·rw [if_neg q3] at H
          have d3 : (ar != cz) = true := bne_iff_ne.mpr q3
          rw [d0, d1, d2, d3]; simp only [Bool.false_or, Bool.true_or, Bool.or_true]; exact H
        ·rw [if_neg q2] at H
         have d2 : (ak != cy) = true := bne_iff_ne.mpr q2
         rw [d0, d1, d2]; simp only [Bool.false_or, Bool.true_or, Bool.or_true]; exact H
       ·rw [if_neg q1] at H
        have d1 : (al != cx) = true := bne_iff_ne.mpr q1
        rw [d0, d1]; simp only [Bool.false_or, Bool.true_or, Bool.or_true]; exact H
      ·rw [if_neg q0] at H
       have d0 : (an.toList != cw.toList) = true := bne_iff_ne.mpr q0
       rw [d0]; simp only [Bool.false_or, Bool.true_or, Bool.or_true]; exact H
     obtain ⟨-, -, -, -, -, -, -, -, -, -, -, hp11, hp12, hp13, hp14, hp15, hp16, hp17, hp18, hp19, hp20, -, hp22, hp23, -, -, -, -, -, -, -, -, -, -, -, -, -, -, -, -, -, -, -, -, -, -, -, -, -, -⟩ := cells_25 ae.out
     obtain ⟨-, -, -, -, -, -, -, -, -, -, -, hq11, hq12, hq13, hq14, hq15, hq16, hq17, hq18, hq19, hq20, -, hq22, hq23, -, -, -, -, -, -, -, -, -, -, -, -, -, -, -, -, -, -, -, -, -, -, -, -, -, -⟩ := cells_25 aN.out
     refine wp_region_lit ?_
     refine Pre.row_first (p := 2) (q := 3) (n := 80) (N := 174) (lo := 5) (A1 := .pointer (some ⟨ag, 0, none⟩)) (A2 := .pointer (some ⟨aI, 0, none⟩)) (B1 := .pointer (some ⟨ag, 11, none⟩)) (B2 := .pointer (some ⟨aI, 11, none⟩)) (X1 := .string an) (X2 := .string cw) (e := an.toList != cw.toList) rfl rfl Z29 rfl rfl Z29 Z29 Z29 (fun _ _ _ _ _ _ h_ => roadbookref07_Same.fa11 h_) (fun _ _ _ _ _ _ h_ => roadbookref07_Same.fa11 h_) (fun _ _ _ _ _ _ h_ => roadbookref07_Same.lds h_ hp11) (fun _ _ _ _ _ _ h_ => roadbookref07_Same.lds h_ hq11) (fun _ _ _ _ _ _ _ _ h_ h2_ => roadbookref07_Same.nes h_ h2_) ?_
     intro a0_ hst_
     refine Pre.row_next (n := 86) (A1 := .pointer (some ⟨ag, 0, none⟩)) (A2 := .pointer (some ⟨aI, 0, none⟩)) (B1 := .pointer (some ⟨ag, 12, none⟩)) (B2 := .pointer (some ⟨aI, 12, none⟩)) (X1 := .int .i64 al) (X2 := .int .i64 cx) (e := al != cx) rfl hst_ Z29 Z29 Z29 Z29 Z29 (fun _ _ _ _ _ _ h_ => roadbookref07_Same.fa12 h_) (fun _ _ _ _ _ _ h_ => roadbookref07_Same.fa12 h_) (fun _ _ _ _ _ _ h_ => roadbookref07_Same.ldi h_ hp12) (fun _ _ _ _ _ _ h_ => roadbookref07_Same.ldi h_ hq12) (fun _ _ _ _ _ _ _ _ h_ h2_ => roadbookref07_Same.nei h_ h2_) ?_
     intro a1_ hst_
     refine Pre.row_next (n := 93) (A1 := .pointer (some ⟨ag, 0, none⟩)) (A2 := .pointer (some ⟨aI, 0, none⟩)) (B1 := .pointer (some ⟨ag, 13, none⟩)) (B2 := .pointer (some ⟨aI, 13, none⟩)) (X1 := .int .i64 ak) (X2 := .int .i64 cy) (e := ak != cy) rfl hst_ Z29 Z29 Z29 Z29 Z29 (fun _ _ _ _ _ _ h_ => roadbookref07_Same.fa13 h_) (fun _ _ _ _ _ _ h_ => roadbookref07_Same.fa13 h_) (fun _ _ _ _ _ _ h_ => roadbookref07_Same.ldi h_ hp13) (fun _ _ _ _ _ _ h_ => roadbookref07_Same.ldi h_ hq13) (fun _ _ _ _ _ _ _ _ h_ h2_ => roadbookref07_Same.nei h_ h2_) ?_
     intro a2_ hst_
     refine Pre.row_next (n := 100) (A1 := .pointer (some ⟨ag, 0, none⟩)) (A2 := .pointer (some ⟨aI, 0, none⟩)) (B1 := .pointer (some ⟨ag, 14, none⟩)) (B2 := .pointer (some ⟨aI, 14, none⟩)) (X1 := .int .i64 ar) (X2 := .int .i64 cz) (e := ar != cz) rfl hst_ Z29 Z29 Z29 Z29 Z29 (fun _ _ _ _ _ _ h_ => roadbookref07_Same.fa14 h_) (fun _ _ _ _ _ _ h_ => roadbookref07_Same.fa14 h_) (fun _ _ _ _ _ _ h_ => roadbookref07_Same.ldi h_ hp14) (fun _ _ _ _ _ _ h_ => roadbookref07_Same.ldi h_ hq14) (fun _ _ _ _ _ _ _ _ h_ h2_ => roadbookref07_Same.nei h_ h2_) ?_
     intro a3_ hst_
     refine Pre.row_next (n := 107) (A1 := .pointer (some ⟨ag, 0, none⟩)) (A2 := .pointer (some ⟨aI, 0, none⟩)) (B1 := .pointer (some ⟨ag, 15, none⟩)) (B2 := .pointer (some ⟨aI, 15, none⟩)) (X1 := .int .i64 af) (X2 := .int .i64 cA) (e := af != cA) rfl hst_ Z29 Z29 Z29 Z29 Z29 (fun _ _ _ _ _ _ h_ => roadbookref07_Same.fa15 h_) (fun _ _ _ _ _ _ h_ => roadbookref07_Same.fa15 h_) (fun _ _ _ _ _ _ h_ => roadbookref07_Same.ldi h_ hp15) (fun _ _ _ _ _ _ h_ => roadbookref07_Same.ldi h_ hq15) (fun _ _ _ _ _ _ _ _ h_ h2_ => roadbookref07_Same.nei h_ h2_) ?_
     intro a4_ hst_
     refine Pre.row_next (n := 114) (A1 := .pointer (some ⟨ag, 0, none⟩)) (A2 := .pointer (some ⟨aI, 0, none⟩)) (B1 := .pointer (some ⟨ag, 16, none⟩)) (B2 := .pointer (some ⟨aI, 16, none⟩)) (X1 := .int .i64 ai) (X2 := .int .i64 cB) (e := ai != cB) rfl hst_ Z29 Z29 Z29 Z29 Z29 (fun _ _ _ _ _ _ h_ => roadbookref07_Same.fa16 h_) (fun _ _ _ _ _ _ h_ => roadbookref07_Same.fa16 h_) (fun _ _ _ _ _ _ h_ => roadbookref07_Same.ldi h_ hp16) (fun _ _ _ _ _ _ h_ => roadbookref07_Same.ldi h_ hq16) (fun _ _ _ _ _ _ _ _ h_ h2_ => roadbookref07_Same.nei h_ h2_) ?_
     intro a5_ hst_
     refine Pre.row_next (n := 121) (A1 := .pointer (some ⟨ag, 0, none⟩)) (A2 := .pointer (some ⟨aI, 0, none⟩)) (B1 := .pointer (some ⟨ag, 17, none⟩)) (B2 := .pointer (some ⟨aI, 17, none⟩)) (X1 := .int .i64 am) (X2 := .int .i64 cC) (e := am != cC) rfl hst_ Z29 Z29 Z29 Z29 Z29 (fun _ _ _ _ _ _ h_ => roadbookref07_Same.fa17 h_) (fun _ _ _ _ _ _ h_ => roadbookref07_Same.fa17 h_) (fun _ _ _ _ _ _ h_ => roadbookref07_Same.ldi h_ hp17) (fun _ _ _ _ _ _ h_ => roadbookref07_Same.ldi h_ hq17) (fun _ _ _ _ _ _ _ _ h_ h2_ => roadbookref07_Same.nei h_ h2_) ?_
     intro a6_ hst_
     refine Pre.row_next (n := 128) (A1 := .pointer (some ⟨ag, 0, none⟩)) (A2 := .pointer (some ⟨aI, 0, none⟩)) (B1 := .pointer (some ⟨ag, 18, none⟩)) (B2 := .pointer (some ⟨aI, 18, none⟩)) (X1 := .int .i64 ao) (X2 := .int .i64 cD) (e := ao != cD) rfl hst_ Z29 Z29 Z29 Z29 Z29 (fun _ _ _ _ _ _ h_ => roadbookref07_Same.fa18 h_) (fun _ _ _ _ _ _ h_ => roadbookref07_Same.fa18 h_) (fun _ _ _ _ _ _ h_ => roadbookref07_Same.ldi h_ hp18) (fun _ _ _ _ _ _ h_ => roadbookref07_Same.ldi h_ hq18) (fun _ _ _ _ _ _ _ _ h_ h2_ => roadbookref07_Same.nei h_ h2_) ?_
     intro a7_ hst_
     refine Pre.row_next (n := 135) (A1 := .pointer (some ⟨ag, 0, none⟩)) (A2 := .pointer (some ⟨aI, 0, none⟩)) (B1 := .pointer (some ⟨ag, 19, none⟩)) (B2 := .pointer (some ⟨aI, 19, none⟩)) (X1 := .string aa) (X2 := .string cE) (e := aa.toList != cE.toList) rfl hst_ Z29 Z29 Z29 Z29 Z29 (fun _ _ _ _ _ _ h_ => roadbookref07_Same.fa19 h_) (fun _ _ _ _ _ _ h_ => roadbookref07_Same.fa19 h_) (fun _ _ _ _ _ _ h_ => roadbookref07_Same.lds h_ hp19) (fun _ _ _ _ _ _ h_ => roadbookref07_Same.lds h_ hq19) (fun _ _ _ _ _ _ _ _ h_ h2_ => roadbookref07_Same.nes h_ h2_) ?_
     intro a8_ hst_
     refine Pre.row_next (n := 142) (A1 := .pointer (some ⟨ag, 0, none⟩)) (A2 := .pointer (some ⟨aI, 0, none⟩)) (B1 := .pointer (some ⟨ag, 20, none⟩)) (B2 := .pointer (some ⟨aI, 20, none⟩)) (X1 := .string ac) (X2 := .string cF) (e := ac.toList != cF.toList) rfl hst_ Z29 Z29 Z29 Z29 Z29 (fun _ _ _ _ _ _ h_ => roadbookref07_Same.fa20 h_) (fun _ _ _ _ _ _ h_ => roadbookref07_Same.fa20 h_) (fun _ _ _ _ _ _ h_ => roadbookref07_Same.lds h_ hp20) (fun _ _ _ _ _ _ h_ => roadbookref07_Same.lds h_ hq20) (fun _ _ _ _ _ _ _ _ h_ h2_ => roadbookref07_Same.nes h_ h2_) ?_
     intro a9_ hst_
     refine Pre.row_next (n := 149) (A1 := .pointer (some ⟨ag, 0, none⟩)) (A2 := .pointer (some ⟨aI, 0, none⟩)) (B1 := .pointer (some ⟨ag, 22, none⟩)) (B2 := .pointer (some ⟨aI, 22, none⟩)) (X1 := .int .i64 ap) (X2 := .int .i64 cH) (e := ap != cH) rfl hst_ Z29 Z29 Z29 Z29 Z29 (fun _ _ _ _ _ _ h_ => roadbookref07_Same.fa22 h_) (fun _ _ _ _ _ _ h_ => roadbookref07_Same.fa22 h_) (fun _ _ _ _ _ _ h_ => roadbookref07_Same.ldi h_ hp22) (fun _ _ _ _ _ _ h_ => roadbookref07_Same.ldi h_ hq22) (fun _ _ _ _ _ _ _ _ h_ h2_ => roadbookref07_Same.nei h_ h2_) ?_
     intro a10_ hst_
     refine Pre.row_last (n := 156) (A1 := .pointer (some ⟨ag, 0, none⟩)) (A2 := .pointer (some ⟨aI, 0, none⟩)) (B1 := .pointer (some ⟨ag, 23, none⟩)) (B2 := .pointer (some ⟨aI, 23, none⟩)) (X1 := .string aq) (X2 := .string cS) (e := aq.toList != cS.toList) rfl hst_ Z29 Z29 Z29 Z29 Z29 (fun _ _ _ _ _ _ h_ => roadbookref07_Same.fa23 h_) (fun _ _ _ _ _ _ h_ => roadbookref07_Same.fa23 h_) (fun _ _ _ _ _ _ h_ => roadbookref07_Same.lds h_ hp23) (fun _ _ _ _ _ _ h_ => roadbookref07_Same.lds h_ hq23) (fun _ _ _ _ _ _ _ _ h_ h2_ => roadbookref07_Same.nes h_ h2_) ?_
     intro a11_ hst_
     refine wpList_nil ?_
     have e_ := Pre.act_lit hst_.size hst_.defers
     have e2_ : a11_ = ⟨#[a11_.eval (.tmp 0), a11_.eval (.tmp 1), a11_.eval (.tmp 2), a11_.eval (.tmp 3), a11_.eval (.tmp 4), a11_.eval (.tmp 5), a11_.eval (.tmp 6), a11_.eval (.tmp 7), a11_.eval (.tmp 8), a11_.eval (.tmp 9), a11_.eval (.tmp 10), a11_.eval (.tmp 11), a11_.eval (.tmp 12), a11_.eval (.tmp 13), a11_.eval (.tmp 14), a11_.eval (.tmp 15), a11_.eval (.tmp 16), a11_.eval (.tmp 17), a11_.eval (.tmp 18), a11_.eval (.tmp 19), a11_.eval (.tmp 20), a11_.eval (.tmp 21), a11_.eval (.tmp 22), a11_.eval (.tmp 23), a11_.eval (.tmp 24), a11_.eval (.tmp 25), a11_.eval (.tmp 26), a11_.eval (.tmp 27), a11_.eval (.tmp 28), a11_.eval (.tmp 29), a11_.eval (.tmp 30), a11_.eval (.tmp 31), a11_.eval (.tmp 32), a11_.eval (.tmp 33), a11_.eval (.tmp 34), a11_.eval (.tmp 35), a11_.eval (.tmp 36), a11_.eval (.tmp 37), a11_.eval (.tmp 38), a11_.eval (.tmp 39), a11_.eval (.tmp 40), a11_.eval (.tmp 41), a11_.eval (.tmp 42), a11_.eval (.tmp 43), a11_.eval (.tmp 44), a11_.eval (.tmp 45), a11_.eval (.tmp 46), a11_.eval (.tmp 47), a11_.eval (.tmp 48), a11_.eval (.tmp 49), a11_.eval (.tmp 50), a11_.eval (.tmp 51), a11_.eval (.tmp 52), a11_.eval (.tmp 53), a11_.eval (.tmp 54), a11_.eval (.tmp 55), a11_.eval (.tmp 56), a11_.eval (.tmp 57), a11_.eval (.tmp 58), a11_.eval (.tmp 59), a11_.eval (.tmp 60), a11_.eval (.tmp 61), a11_.eval (.tmp 62), a11_.eval (.tmp 63), a11_.eval (.tmp 64), a11_.eval (.tmp 65), a11_.eval (.tmp 66), a11_.eval (.tmp 67), a11_.eval (.tmp 68), a11_.eval (.tmp 69), a11_.eval (.tmp 70), a11_.eval (.tmp 71), a11_.eval (.tmp 72), a11_.eval (.tmp 73), a11_.eval (.tmp 74), a11_.eval (.tmp 75), a11_.eval (.tmp 76), a11_.eval (.tmp 77), a11_.eval (.tmp 78), a11_.eval (.tmp 79), a11_.eval (.tmp 80), a11_.eval (.tmp 81), a11_.eval (.tmp 82), a11_.eval (.tmp 83), a11_.eval (.tmp 84), a11_.eval (.tmp 85), a11_.eval (.tmp 86), a11_.eval (.tmp 87), a11_.eval (.tmp 88), a11_.eval (.tmp 89), a11_.eval (.tmp 90), a11_.eval (.tmp 91), a11_.eval (.tmp 92), a11_.eval (.tmp 93), a11_.eval (.tmp 94), a11_.eval (.tmp 95), a11_.eval (.tmp 96), a11_.eval (.tmp 97), a11_.eval (.tmp 98), a11_.eval (.tmp 99), a11_.eval (.tmp 100), a11_.eval (.tmp 101), a11_.eval (.tmp 102), a11_.eval (.tmp 103), a11_.eval (.tmp 104), a11_.eval (.tmp 105), a11_.eval (.tmp 106), a11_.eval (.tmp 107), a11_.eval (.tmp 108), a11_.eval (.tmp 109), a11_.eval (.tmp 110), a11_.eval (.tmp 111), a11_.eval (.tmp 112), a11_.eval (.tmp 113), a11_.eval (.tmp 114), a11_.eval (.tmp 115), a11_.eval (.tmp 116), a11_.eval (.tmp 117), a11_.eval (.tmp 118), a11_.eval (.tmp 119), a11_.eval (.tmp 120), a11_.eval (.tmp 121), a11_.eval (.tmp 122), a11_.eval (.tmp 123), a11_.eval (.tmp 124), a11_.eval (.tmp 125), a11_.eval (.tmp 126), a11_.eval (.tmp 127), a11_.eval (.tmp 128), a11_.eval (.tmp 129), a11_.eval (.tmp 130), a11_.eval (.tmp 131), a11_.eval (.tmp 132), a11_.eval (.tmp 133), a11_.eval (.tmp 134), a11_.eval (.tmp 135), a11_.eval (.tmp 136), a11_.eval (.tmp 137), a11_.eval (.tmp 138), a11_.eval (.tmp 139), a11_.eval (.tmp 140), a11_.eval (.tmp 141), a11_.eval (.tmp 142), a11_.eval (.tmp 143), a11_.eval (.tmp 144), a11_.eval (.tmp 145), a11_.eval (.tmp 146), a11_.eval (.tmp 147), a11_.eval (.tmp 148), a11_.eval (.tmp 149), a11_.eval (.tmp 150), a11_.eval (.tmp 151), a11_.eval (.tmp 152), a11_.eval (.tmp 153), a11_.eval (.tmp 154), a11_.eval (.tmp 155), a11_.eval (.tmp 156), a11_.eval (.tmp 157), a11_.eval (.tmp 158), a11_.eval (.tmp 159), a11_.eval (.tmp 160), a11_.eval (.tmp 161), a11_.eval (.tmp 162), a11_.eval (.tmp 163), a11_.eval (.tmp 164), a11_.eval (.tmp 165), a11_.eval (.tmp 166), a11_.eval (.tmp 167), a11_.eval (.tmp 168), a11_.eval (.tmp 169), a11_.eval (.tmp 170), a11_.eval (.tmp 171), a11_.eval (.tmp 172), a11_.eval (.tmp 173)], []⟩ := e_.trans rfl
     clear e_
     have k0_ := hst_.kept 0 Z29
     have k1_ := hst_.kept 1 Z29
     have k2_ := hst_.kept 2 Z29
     have k3_ := hst_.kept 3 Z29
     have k4_ := hst_.kept 4 Z29
     rw [k0_, k1_, k2_, k3_, k4_] at e2_
     exact hK_ _ _ (hJ_ _ _ ⟨a11_.eval (.tmp 5), a11_.eval (.tmp 6), a11_.eval (.tmp 7), a11_.eval (.tmp 8), a11_.eval (.tmp 9), a11_.eval (.tmp 10), a11_.eval (.tmp 11), a11_.eval (.tmp 12), a11_.eval (.tmp 13), a11_.eval (.tmp 14), a11_.eval (.tmp 15), a11_.eval (.tmp 16), a11_.eval (.tmp 17), a11_.eval (.tmp 18), a11_.eval (.tmp 19), a11_.eval (.tmp 20), a11_.eval (.tmp 21), a11_.eval (.tmp 22), a11_.eval (.tmp 23), a11_.eval (.tmp 24), a11_.eval (.tmp 25), a11_.eval (.tmp 26), a11_.eval (.tmp 27), a11_.eval (.tmp 28), a11_.eval (.tmp 29), a11_.eval (.tmp 30), a11_.eval (.tmp 31), a11_.eval (.tmp 32), a11_.eval (.tmp 33), a11_.eval (.tmp 34), a11_.eval (.tmp 35), a11_.eval (.tmp 36), a11_.eval (.tmp 37), a11_.eval (.tmp 38), a11_.eval (.tmp 39), a11_.eval (.tmp 40), a11_.eval (.tmp 41), a11_.eval (.tmp 42), a11_.eval (.tmp 43), a11_.eval (.tmp 44), a11_.eval (.tmp 45), a11_.eval (.tmp 46), a11_.eval (.tmp 47), a11_.eval (.tmp 48), a11_.eval (.tmp 49), a11_.eval (.tmp 50), a11_.eval (.tmp 51), a11_.eval (.tmp 52), a11_.eval (.tmp 53), a11_.eval (.tmp 54), a11_.eval (.tmp 55), a11_.eval (.tmp 56), a11_.eval (.tmp 57), a11_.eval (.tmp 58), a11_.eval (.tmp 59), a11_.eval (.tmp 60), a11_.eval (.tmp 61), a11_.eval (.tmp 62), a11_.eval (.tmp 63), a11_.eval (.tmp 64), a11_.eval (.tmp 65), a11_.eval (.tmp 66), a11_.eval (.tmp 67), a11_.eval (.tmp 68), a11_.eval (.tmp 69), a11_.eval (.tmp 70), a11_.eval (.tmp 71), a11_.eval (.tmp 72), a11_.eval (.tmp 73), a11_.eval (.tmp 74), a11_.eval (.tmp 75), a11_.eval (.tmp 76), a11_.eval (.tmp 77), a11_.eval (.tmp 78), a11_.eval (.tmp 79), a11_.eval (.tmp 80), a11_.eval (.tmp 81), a11_.eval (.tmp 82), a11_.eval (.tmp 83), a11_.eval (.tmp 84), a11_.eval (.tmp 85), a11_.eval (.tmp 86), a11_.eval (.tmp 87), a11_.eval (.tmp 88), a11_.eval (.tmp 89), a11_.eval (.tmp 90), a11_.eval (.tmp 91), a11_.eval (.tmp 92), a11_.eval (.tmp 93), a11_.eval (.tmp 94), a11_.eval (.tmp 95), a11_.eval (.tmp 96), a11_.eval (.tmp 97), a11_.eval (.tmp 98), a11_.eval (.tmp 99), a11_.eval (.tmp 100), a11_.eval (.tmp 101), a11_.eval (.tmp 102), a11_.eval (.tmp 103), a11_.eval (.tmp 104), a11_.eval (.tmp 105), a11_.eval (.tmp 106), a11_.eval (.tmp 107), a11_.eval (.tmp 108), a11_.eval (.tmp 109), a11_.eval (.tmp 110), a11_.eval (.tmp 111), a11_.eval (.tmp 112), a11_.eval (.tmp 113), a11_.eval (.tmp 114), a11_.eval (.tmp 115), a11_.eval (.tmp 116), a11_.eval (.tmp 117), a11_.eval (.tmp 118), a11_.eval (.tmp 119), a11_.eval (.tmp 120), a11_.eval (.tmp 121), a11_.eval (.tmp 122), a11_.eval (.tmp 123), a11_.eval (.tmp 124), a11_.eval (.tmp 125), a11_.eval (.tmp 126), a11_.eval (.tmp 127), a11_.eval (.tmp 128), a11_.eval (.tmp 129), a11_.eval (.tmp 130), a11_.eval (.tmp 131), a11_.eval (.tmp 132), a11_.eval (.tmp 133), a11_.eval (.tmp 134), a11_.eval (.tmp 135), a11_.eval (.tmp 136), a11_.eval (.tmp 137), a11_.eval (.tmp 138), a11_.eval (.tmp 139), a11_.eval (.tmp 140), a11_.eval (.tmp 141), a11_.eval (.tmp 142), a11_.eval (.tmp 143), a11_.eval (.tmp 144), a11_.eval (.tmp 145), a11_.eval (.tmp 146), a11_.eval (.tmp 147), a11_.eval (.tmp 148), a11_.eval (.tmp 149), a11_.eval (.tmp 150), a11_.eval (.tmp 151), a11_.eval (.tmp 152), a11_.eval (.tmp 153), a11_.eval (.tmp 154), a11_.eval (.tmp 155), a11_.eval (.tmp 156), a11_.eval (.tmp 157), a11_.eval (.tmp 158), a11_.eval (.tmp 159), a11_.eval (.tmp 160), a11_.eval (.tmp 161), a11_.eval (.tmp 162), a11_.eval (.tmp 163), a11_.eval (.tmp 164), a11_.eval (.tmp 165), a11_.eval (.tmp 166), a11_.eval (.tmp 167), a11_.eval (.tmp 168), a11_.eval (.tmp 169), a11_.eval (.tmp 170), a11_.eval (.tmp 171), a11_.eval (.tmp 172), a11_.eval (.tmp 173), ⟨kj2, ((((((((((((an.toList != cw.toList) || (al != cx)) || (ak != cy)) || (ar != cz)) || (af != cA)) || (ai != cB)) || (am != cC)) || (ao != cD)) || (aa.toList != cE.toList)) || (ac.toList != cF.toList)) || (ap != cH)) || (aq.toList != cS.toList)), hst_.so, ⟨HJ_⟩, ⟨Nat.le_refl _⟩, ⟨ae.out⟩, ⟨aN.out⟩, ⟨HB.out⟩⟩, e2_⟩)
    case rest =>
     clear pS
     try clear c1
     try clear c2
     try clear p2
     try clear c4
     try clear c6
     try clear fg
     try clear fQ
     try clear c7
     try clear fp
     try clear jF
     try clear c8
     try clear eb
     try clear mO
     try clear c46
     try clear pR
     obtain ⟨kq, ht, rfl, HA, HJ49, ae, aN, HB⟩ := hcut
     cases kq with
     | zero => exact absurd HA.out (by simp [roadbookref07_Same.j1])
     | succ kj49 =>
      have H := HA.out
      clear HA
      simp only [roadbookref07_Same.j1] at H
      by_cases rT : ht = true
      ·subst rT
       replace H := Sq.itT H
       obtain rfl := Option.some.inj H
       go_wp2
       go_ret
       exact ⟨Z5, Z12⟩
      ·replace rT := Bool.eq_false_iff.mpr rT
       subst rT
       replace H := Sq.itF H
       replace H := Option.bind_eq_some_iff.mp H
       obtain ⟨aW, pT, H⟩ := H
       replace H : (if aW = true then ((roadbookref07_subs.f kj49 ah cL).bind fun aY => (some aY)) else (some false)) = some r := H
       have tt := Aside0.mk pT
       clear pT
       by_cases mj : aW = true
       ·subst mj
        replace H := Sq.itT H
        replace H := Option.bind_eq_some_iff.mp H
        obtain ⟨aY, mT, H⟩ := H
        replace H : (some aY) = some r := H
        have sn := Aside0.mk mT
        clear mT
        obtain rfl := Option.some.inj H
        have hnb102 := aQ.out
        have hnc102 := bj.out
        obtain ⟨-, -, -, -, -, -, -, -, -, -, -, -, -, -, -, -, -, -, -, -, -, hcz103_21, -, -, hcz103_24, -, -, -, -, -, -, -, -, -, -, -, -, -, -, -, -, -, -, -, -, -, -, -, -, -⟩ := cells_25 ae.out
        obtain ⟨-, -, -, -, -, -, -, -, -, -, -, -, -, -, -, -, -, -, -, -, -, hcz104_21, -, -, hcz104_24, -, -, -, -, -, -, -, -, -, -, -, -, -, -, -, -, -, -, -, -, -, -, -, -, -⟩ := cells_25 aN.out
        go_wp2_with (first | ((with_reducible refine gate_callee (f := 65) rfl ?_); refine goesL_ (some 166) rfl rfl Try.func65 Z14 rfl #[.slice bg ab.length bb, .slice hI cG.length hJ] rfl Z4 ?_; (with_reducible refine (roadbookref07_dests.calls kj49 _ _ ab _ _ cG true _ ?side1 ?side2 ?side3 ?side4 tt.out).mono ?_); (case side1 => exact Z10); (case side2 => exact bM.out); (case side3 => exact Z100); (case side4 => exact la.out); rintro e w' ⟨rfl, ⟨nd, rfl⟩⟩; refine ⟨_, rfl, ?_⟩) | (go_at_call 66; (with_reducible refine (roadbookref07_subs.calls kj49 _ _ ah _ _ cL aY _ ?side1 ?side2 ?side3 ?side4 sn.out).mono ?_); (case side1 => exact (by repeat (first | exact (Kd.C_below er.out Z12) | (with_reducible refine Kd.C_alloc ?_ _) | (with_reducible refine Kd.C_drewN ?_ _) | (with_reducible refine Kd.C_drew ?_)))); (case side2 => exact br.out); (case side3 => exact (by repeat (first | exact (Kd.C_below nV.out Z12) | (with_reducible refine Kd.C_alloc ?_ _) | (with_reducible refine Kd.C_drewN ?_ _) | (with_reducible refine Kd.C_drew ?_)))); (case side4 => exact nW.out); rintro e w' ⟨rfl, ⟨nd, rfl⟩⟩))
        go_ret
        exact ⟨Z5, Z12⟩
       ·replace mj := Bool.eq_false_iff.mpr mj
        subst mj
        replace H := Sq.itF H
        obtain rfl := Option.some.inj H
        have hnb105 := aQ.out
        have hnc105 := bj.out
        obtain ⟨-, -, -, -, -, -, -, -, -, -, -, -, -, -, -, -, -, -, -, -, -, hcz106_21, -, -, hcz106_24, -, -, -, -, -, -, -, -, -, -, -, -, -, -, -, -, -, -, -, -, -, -, -, -, -⟩ := cells_25 ae.out
        obtain ⟨-, -, -, -, -, -, -, -, -, -, -, -, -, -, -, -, -, -, -, -, -, hcz107_21, -, -, hcz107_24, -, -, -, -, -, -, -, -, -, -, -, -, -, -, -, -, -, -, -, -, -, -, -, -, -⟩ := cells_25 aN.out
        go_wp2_with (first | ((with_reducible refine gate_callee (f := 65) rfl ?_); refine goesL_ (some 166) rfl rfl Try.func65 Z14 rfl #[.slice bg ab.length bb, .slice hI cG.length hJ] rfl Z4 ?_; (with_reducible refine (roadbookref07_dests.calls kj49 _ _ ab _ _ cG false _ ?side1 ?side2 ?side3 ?side4 tt.out).mono ?_); (case side1 => exact Z10); (case side2 => exact bM.out); (case side3 => exact Z100); (case side4 => exact la.out); rintro e w' ⟨rfl, ⟨nd, rfl⟩⟩; refine ⟨_, rfl, ?_⟩))
        go_ret
        exact ⟨Z5, Z12⟩

end Go.Proofs.Ytccjakjjaemmkaa.PAB
