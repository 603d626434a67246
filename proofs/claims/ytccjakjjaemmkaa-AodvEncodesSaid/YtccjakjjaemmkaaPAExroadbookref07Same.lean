-- Written by mp.py, a program of this work (wip/tools), out of the translation; Lean checks it.
import Derived.Test.YtccjakjjaemmkaaPAExZ
import Derived.Test.YtccjakjjaemmkaaPAExroadbookref07
import Derived.Test.YtccjakjjaemmkaaOr
namespace Go.Proofs.Ytccjakjjaemmkaa.PAE
open Go.RowKit Go.Proofs.YtccjakjjaemmkaaW.PrintWords Go.Proofs.YtccjakjjaemmkaaW.PrintLast Go.Proofs.YtccjakjjaemmkaaW.PrintMore
attribute [local go_sem] max2_int min2_int max_two min_two max_three min_three max_four min_four   -- for this text's walks alone
set_option linter.unusedVariables false
set_option linter.unusedSimpArgs false

/-! ### roadbookref07_Same: function 24 -/
mutual
def roadbookref07_Same.j0 : Nat → Bool → Int → Int → Int → ByteArray → Int → Int → ByteArray → Int → Int → ByteArray → Int → ByteArray → Int → Int → Int → Int → Int → Int → Int → ByteArray → ByteArray → List (S46) → Int → ByteArray → List (S48) → Int → Int → Int → ByteArray → Int → Int → ByteArray → Int → Int → ByteArray → Int → ByteArray → Int → Int → Int → Int → Int → Int → Int → ByteArray → ByteArray → List (S46) → Int → ByteArray → List (S48) → Option (Bool)
 | 0, _, _, _, _, _, _, _, _, _, _, _, _, _, _, _, _, _, _, _, _, _, _, _, _, _, _, _, _, _, _, _, _, _, _, _, _, _, _, _, _, _, _, _, _, _, _, _, _, _, _, _ => none
 | k + 1, oT, bq, bI, bJ, bK, bL, bM, bN, br, bO, bP, bQ, bD, bs, bA, bv, bo, bu, bB, bE, bw, bx, bf, bF, bG, bj, di, dj, dk, dl, dm, dn, dp, dq, dr, dt, du, cQ, cR, cS, cT, cU, cV, cW, cX, cY, cZ, da, db, dc, dd => if oT = true then (some false) else (if bD.toList = cQ.toList then (if bs = cR then (if bA = cS then (if bv = cT then (if bo = cU then (if bu = cV then (if bB = cW then (if bE = cX then (if bw.toList = cY.toList then (if bx.toList = cZ.toList then (if bF = db then (roadbookref07_Same.j1 k (bG.toList != dc.toList) bq bI bJ bK bL bM bN br bO bP bQ bD bs bA bv bo bu bB bE bw bx bf bF bG bj di dj dk dl dm dn dp dq dr dt du cQ cR cS cT cU cV cW cX cY cZ da db dc dd) else (roadbookref07_Same.j1 k true bq bI bJ bK bL bM bN br bO bP bQ bD bs bA bv bo bu bB bE bw bx bf bF bG bj di dj dk dl dm dn dp dq dr dt du cQ cR cS cT cU cV cW cX cY cZ da db dc dd)) else (roadbookref07_Same.j1 k true bq bI bJ bK bL bM bN br bO bP bQ bD bs bA bv bo bu bB bE bw bx bf bF bG bj di dj dk dl dm dn dp dq dr dt du cQ cR cS cT cU cV cW cX cY cZ da db dc dd)) else (roadbookref07_Same.j1 k true bq bI bJ bK bL bM bN br bO bP bQ bD bs bA bv bo bu bB bE bw bx bf bF bG bj di dj dk dl dm dn dp dq dr dt du cQ cR cS cT cU cV cW cX cY cZ da db dc dd)) else (roadbookref07_Same.j1 k true bq bI bJ bK bL bM bN br bO bP bQ bD bs bA bv bo bu bB bE bw bx bf bF bG bj di dj dk dl dm dn dp dq dr dt du cQ cR cS cT cU cV cW cX cY cZ da db dc dd)) else (roadbookref07_Same.j1 k true bq bI bJ bK bL bM bN br bO bP bQ bD bs bA bv bo bu bB bE bw bx bf bF bG bj di dj dk dl dm dn dp dq dr dt du cQ cR cS cT cU cV cW cX cY cZ da db dc dd)) else (roadbookref07_Same.j1 k true bq bI bJ bK bL bM bN br bO bP bQ bD bs bA bv bo bu bB bE bw bx bf bF bG bj di dj dk dl dm dn dp dq dr dt du cQ cR cS cT cU cV cW cX cY cZ da db dc dd)) else (roadbookref07_Same.j1 k true bq bI bJ bK bL bM bN br bO bP bQ bD bs bA bv bo bu bB bE bw bx bf bF bG bj di dj dk dl dm dn dp dq dr dt du cQ cR cS cT cU cV cW cX cY cZ da db dc dd)) else (roadbookref07_Same.j1 k true bq bI bJ bK bL bM bN br bO bP bQ bD bs bA bv bo bu bB bE bw bx bf bF bG bj di dj dk dl dm dn dp dq dr dt du cQ cR cS cT cU cV cW cX cY cZ da db dc dd)) else (roadbookref07_Same.j1 k true bq bI bJ bK bL bM bN br bO bP bQ bD bs bA bv bo bu bB bE bw bx bf bF bG bj di dj dk dl dm dn dp dq dr dt du cQ cR cS cT cU cV cW cX cY cZ da db dc dd)) else (roadbookref07_Same.j1 k true bq bI bJ bK bL bM bN br bO bP bQ bD bs bA bv bo bu bB bE bw bx bf bF bG bj di dj dk dl dm dn dp dq dr dt du cQ cR cS cT cU cV cW cX cY cZ da db dc dd)) else (roadbookref07_Same.j1 k true bq bI bJ bK bL bM bN br bO bP bQ bD bs bA bv bo bu bB bE bw bx bf bF bG bj di dj dk dl dm dn dp dq dr dt du cQ cR cS cT cU cV cW cX cY cZ da db dc dd))
def roadbookref07_Same.j1 : Nat → Bool → Int → Int → Int → ByteArray → Int → Int → ByteArray → Int → Int → ByteArray → Int → ByteArray → Int → Int → Int → Int → Int → Int → Int → ByteArray → ByteArray → List (S46) → Int → ByteArray → List (S48) → Int → Int → Int → ByteArray → Int → Int → ByteArray → Int → Int → ByteArray → Int → ByteArray → Int → Int → Int → Int → Int → Int → Int → ByteArray → ByteArray → List (S46) → Int → ByteArray → List (S48) → Option (Bool)
 | 0, _, _, _, _, _, _, _, _, _, _, _, _, _, _, _, _, _, _, _, _, _, _, _, _, _, _, _, _, _, _, _, _, _, _, _, _, _, _, _, _, _, _, _, _, _, _, _, _, _, _, _ => none
 | k + 1, nw, bq, bI, bJ, bK, bL, bM, bN, br, bO, bP, bQ, bD, bs, bA, bv, bo, bu, bB, bE, bw, bx, bf, bF, bG, bj, di, dj, dk, dl, dm, dn, dp, dq, dr, dt, du, cQ, cR, cS, cT, cU, cV, cW, cX, cY, cZ, da, db, dc, dd => if nw = true then (some false) else ((roadbookref07_dests.f k bf da).bind fun aY => (if aY = true then ((roadbookref07_subs.f k bj dd).bind fun bg => (some bg)) else (some false)))
end
def roadbookref07_Same.f (k : Nat) (aD : Int) (aw : Int) (ax : Int) (au : ByteArray) (aA : Int) (ay : Int) (av : ByteArray) (ar : Int) (aC : Int) (az : ByteArray) (ao : Int) (am : ByteArray) (ah : Int) (aj : Int) (ak : Int) (ae : Int) (ag : Int) (ai : Int) (an : Int) (aa : ByteArray) (ab : ByteArray) (ac : List (S46)) (ap : Int) (aq : ByteArray) (af : List (S48)) (cF : Int) (cG : Int) (cH : Int) (cI : ByteArray) (cJ : Int) (cK : Int) (cL : ByteArray) (cM : Int) (cN : Int) (cO : ByteArray) (cu : Int) (cg : ByteArray) (ch : Int) (ci : Int) (cj : Int) (ck : Int) (cl : Int) (cm : Int) (cn : Int) (co : ByteArray) (cp : ByteArray) (cq : List (S46)) (cr : Int) (cx : ByteArray) (cw : List (S48)) : Option (Bool) := if aD = cF then (if aw = cG then (if ax = cH then (if au.toList = cI.toList then (if aA = cJ then (if ay = cK then (if av.toList = cL.toList then (if ar = cM then (if aC = cN then (if az.toList = cO.toList then (roadbookref07_Same.j0 k (ao != cu) aD aw ax au aA ay av ar aC az ao am ah aj ak ae ag ai an aa ab ac ap aq af cF cG cH cI cJ cK cL cM cN cO cu cg ch ci cj ck cl cm cn co cp cq cr cx cw) else (roadbookref07_Same.j0 k true aD aw ax au aA ay av ar aC az ao am ah aj ak ae ag ai an aa ab ac ap aq af cF cG cH cI cJ cK cL cM cN cO cu cg ch ci cj ck cl cm cn co cp cq cr cx cw)) else (roadbookref07_Same.j0 k true aD aw ax au aA ay av ar aC az ao am ah aj ak ae ag ai an aa ab ac ap aq af cF cG cH cI cJ cK cL cM cN cO cu cg ch ci cj ck cl cm cn co cp cq cr cx cw)) else (roadbookref07_Same.j0 k true aD aw ax au aA ay av ar aC az ao am ah aj ak ae ag ai an aa ab ac ap aq af cF cG cH cI cJ cK cL cM cN cO cu cg ch ci cj ck cl cm cn co cp cq cr cx cw)) else (roadbookref07_Same.j0 k true aD aw ax au aA ay av ar aC az ao am ah aj ak ae ag ai an aa ab ac ap aq af cF cG cH cI cJ cK cL cM cN cO cu cg ch ci cj ck cl cm cn co cp cq cr cx cw)) else (roadbookref07_Same.j0 k true aD aw ax au aA ay av ar aC az ao am ah aj ak ae ag ai an aa ab ac ap aq af cF cG cH cI cJ cK cL cM cN cO cu cg ch ci cj ck cl cm cn co cp cq cr cx cw)) else (roadbookref07_Same.j0 k true aD aw ax au aA ay av ar aC az ao am ah aj ak ae ag ai an aa ab ac ap aq af cF cG cH cI cJ cK cL cM cN cO cu cg ch ci cj ck cl cm cn co cp cq cr cx cw)) else (roadbookref07_Same.j0 k true aD aw ax au aA ay av ar aC az ao am ah aj ak ae ag ai an aa ab ac ap aq af cF cG cH cI cJ cK cL cM cN cO cu cg ch ci cj ck cl cm cn co cp cq cr cx cw)) else (roadbookref07_Same.j0 k true aD aw ax au aA ay av ar aC az ao am ah aj ak ae ag ai an aa ab ac ap aq af cF cG cH cI cJ cK cL cM cN cO cu cg ch ci cj ck cl cm cn co cp cq cr cx cw)) else (roadbookref07_Same.j0 k true aD aw ax au aA ay av ar aC az ao am ah aj ak ae ag ai an aa ab ac ap aq af cF cG cH cI cJ cK cL cM cN cO cu cg ch ci cj ck cl cm cn co cp cq cr cx cw)) else (roadbookref07_Same.j0 k true aD aw ax au aA ay av ar aC az ao am ah aj ak ae ag ai an aa ab ac ap aq af cF cG cH cI cJ cK cL cM cN cO cu cg ch ci cj ck cl cm cn co cp cq cr cx cw)
theorem roadbookref07_Same.mono_l : ∀ k, (∀ y0 y1 y2 y3 y4 y5 y6 y7 y8 y9 er es et eu ev ew ex ey ez eA eB eC eD eE eF eG hq ia kj lq lr ls lu lv lw lx ly lz lA lB lC lD lE lF lG lH lI lJ lK lL lM, LeO (roadbookref07_Same.j0 k y0 y1 y2 y3 y4 y5 y6 y7 y8 y9 er es et eu ev ew ex ey ez eA eB eC eD eE eF eG hq ia kj lq lr ls lu lv lw lx ly lz lA lB lC lD lE lF lG lH lI lJ lK lL lM) (roadbookref07_Same.j0 (k + 1) y0 y1 y2 y3 y4 y5 y6 y7 y8 y9 er es et eu ev ew ex ey ez eA eB eC eD eE eF eG hq ia kj lq lr ls lu lv lw lx ly lz lA lB lC lD lE lF lG lH lI lJ lK lL lM)) ∧ (∀ y0 y1 y2 y3 y4 y5 y6 y7 y8 y9 er es et eu ev ew ex ey ez eA eB eC eD eE eF eG hq ia kj lq lr ls lu lv lw lx ly lz lA lB lC lD lE lF lG lH lI lJ lK lL lM, LeO (roadbookref07_Same.j1 k y0 y1 y2 y3 y4 y5 y6 y7 y8 y9 er es et eu ev ew ex ey ez eA eB eC eD eE eF eG hq ia kj lq lr ls lu lv lw lx ly lz lA lB lC lD lE lF lG lH lI lJ lK lL lM) (roadbookref07_Same.j1 (k + 1) y0 y1 y2 y3 y4 y5 y6 y7 y8 y9 er es et eu ev ew ex ey ez eA eB eC eD eE eF eG hq ia kj lq lr ls lu lv lw lx ly lz lA lB lC lD lE lF lG lH lI lJ lK lL lM))
 | 0 => ⟨Sq.mz, Sq.mz⟩
 | k + 1 => by
  obtain ⟨ih0, ih1⟩ := roadbookref07_Same.mono_l k
  refine ⟨?_, ?_⟩
  ·intros
   unfold roadbookref07_Same.j0
   have m0 := roadbookref07_dests.mono
   have m1 := roadbookref07_subs.mono
   exact Sq.mo
  ·intros
   unfold roadbookref07_Same.j1
   have m0 := roadbookref07_dests.mono
   have m1 := roadbookref07_subs.mono
   exact Sq.mo
theorem roadbookref07_Same.mono : ∀ a0 a1 a2 a3 a4 a5 a6 a7 a8 a9 dY dZ ea eb ec ed ee ef eg eh ei ej ek el em og oh oi oj ol om oo oq os ot ou ov ow ox oy oz oA oB oC oD oE oF oG oH oI k, LeO (roadbookref07_Same.f k a0 a1 a2 a3 a4 a5 a6 a7 a8 a9 dY dZ ea eb ec ed ee ef eg eh ei ej ek el em og oh oi oj ol om oo oq os ot ou ov ow ox oy oz oA oB oC oD oE oF oG oH oI) (roadbookref07_Same.f (k + 1) a0 a1 a2 a3 a4 a5 a6 a7 a8 a9 dY dZ ea eb ec ed ee ef eg eh ei ej ek el em og oh oi oj ol om oo oq os ot ou ov ow ox oy oz oA oB oC oD oE oF oG oH oI) := by
 intros
 rename_i k
 obtain ⟨ih0, ih1⟩ := roadbookref07_Same.mono_l k
 unfold roadbookref07_Same.f
 have m0 := roadbookref07_dests.mono
 have m1 := roadbookref07_subs.mono
 exact Sq.mo
section
variable {ρ_ : Operand → Value} {x_ y_ : Operand} {w_ : World} {d_ : Option Tmp} {t_ t2_ : TypeId} {p_ : String} {g_ : Option (Nat × Bool)} {af_ : Array Edge} {gb_ f_ : Nat}
theorem roadbookref07_Same.fa0 (h : ρ_ x_ = .pointer (some ⟨gb_, 0, none⟩)) : (execOp ρ_ { dst := d_, op := .fieldAddr 25 x_ 0, type := t_, pos := p_, after := af_, guard := g_ }).run Try.prog w_ = .ok (.value (.pointer (some ⟨gb_, 0, none⟩))) w_ := by
 have hu_ := Try.underlying25
 simp only [execOp, h]
 go_simp
theorem roadbookref07_Same.fa1 (h : ρ_ x_ = .pointer (some ⟨gb_, 0, none⟩)) : (execOp ρ_ { dst := d_, op := .fieldAddr 25 x_ 1, type := t_, pos := p_, after := af_, guard := g_ }).run Try.prog w_ = .ok (.value (.pointer (some ⟨gb_, 1, none⟩))) w_ := by
 have hu_ := Try.underlying25
 simp only [execOp, h]
 go_simp
theorem roadbookref07_Same.fa2 (h : ρ_ x_ = .pointer (some ⟨gb_, 0, none⟩)) : (execOp ρ_ { dst := d_, op := .fieldAddr 25 x_ 2, type := t_, pos := p_, after := af_, guard := g_ }).run Try.prog w_ = .ok (.value (.pointer (some ⟨gb_, 2, none⟩))) w_ := by
 have hu_ := Try.underlying25
 simp only [execOp, h]
 go_simp
theorem roadbookref07_Same.fa3 (h : ρ_ x_ = .pointer (some ⟨gb_, 0, none⟩)) : (execOp ρ_ { dst := d_, op := .fieldAddr 25 x_ 3, type := t_, pos := p_, after := af_, guard := g_ }).run Try.prog w_ = .ok (.value (.pointer (some ⟨gb_, 3, none⟩))) w_ := by
 have hu_ := Try.underlying25
 simp only [execOp, h]
 go_simp
theorem roadbookref07_Same.fa4 (h : ρ_ x_ = .pointer (some ⟨gb_, 0, none⟩)) : (execOp ρ_ { dst := d_, op := .fieldAddr 25 x_ 4, type := t_, pos := p_, after := af_, guard := g_ }).run Try.prog w_ = .ok (.value (.pointer (some ⟨gb_, 4, none⟩))) w_ := by
 have hu_ := Try.underlying25
 simp only [execOp, h]
 go_simp
theorem roadbookref07_Same.fa5 (h : ρ_ x_ = .pointer (some ⟨gb_, 0, none⟩)) : (execOp ρ_ { dst := d_, op := .fieldAddr 25 x_ 5, type := t_, pos := p_, after := af_, guard := g_ }).run Try.prog w_ = .ok (.value (.pointer (some ⟨gb_, 5, none⟩))) w_ := by
 have hu_ := Try.underlying25
 simp only [execOp, h]
 go_simp
theorem roadbookref07_Same.fa6 (h : ρ_ x_ = .pointer (some ⟨gb_, 0, none⟩)) : (execOp ρ_ { dst := d_, op := .fieldAddr 25 x_ 6, type := t_, pos := p_, after := af_, guard := g_ }).run Try.prog w_ = .ok (.value (.pointer (some ⟨gb_, 6, none⟩))) w_ := by
 have hu_ := Try.underlying25
 simp only [execOp, h]
 go_simp
theorem roadbookref07_Same.fa7 (h : ρ_ x_ = .pointer (some ⟨gb_, 0, none⟩)) : (execOp ρ_ { dst := d_, op := .fieldAddr 25 x_ 7, type := t_, pos := p_, after := af_, guard := g_ }).run Try.prog w_ = .ok (.value (.pointer (some ⟨gb_, 7, none⟩))) w_ := by
 have hu_ := Try.underlying25
 simp only [execOp, h]
 go_simp
theorem roadbookref07_Same.fa8 (h : ρ_ x_ = .pointer (some ⟨gb_, 0, none⟩)) : (execOp ρ_ { dst := d_, op := .fieldAddr 25 x_ 8, type := t_, pos := p_, after := af_, guard := g_ }).run Try.prog w_ = .ok (.value (.pointer (some ⟨gb_, 8, none⟩))) w_ := by
 have hu_ := Try.underlying25
 simp only [execOp, h]
 go_simp
theorem roadbookref07_Same.fa9 (h : ρ_ x_ = .pointer (some ⟨gb_, 0, none⟩)) : (execOp ρ_ { dst := d_, op := .fieldAddr 25 x_ 9, type := t_, pos := p_, after := af_, guard := g_ }).run Try.prog w_ = .ok (.value (.pointer (some ⟨gb_, 9, none⟩))) w_ := by
 have hu_ := Try.underlying25
 simp only [execOp, h]
 go_simp
theorem roadbookref07_Same.fa10 (h : ρ_ x_ = .pointer (some ⟨gb_, 0, none⟩)) : (execOp ρ_ { dst := d_, op := .fieldAddr 25 x_ 10, type := t_, pos := p_, after := af_, guard := g_ }).run Try.prog w_ = .ok (.value (.pointer (some ⟨gb_, 10, none⟩))) w_ := by
 have hu_ := Try.underlying25
 simp only [execOp, h]
 go_simp
theorem roadbookref07_Same.fa11 (h : ρ_ x_ = .pointer (some ⟨gb_, 0, none⟩)) : (execOp ρ_ { dst := d_, op := .fieldAddr 25 x_ 11, type := t_, pos := p_, after := af_, guard := g_ }).run Try.prog w_ = .ok (.value (.pointer (some ⟨gb_, 11, none⟩))) w_ := by
 have hu_ := Try.underlying25
 simp only [execOp, h]
 go_simp
theorem roadbookref07_Same.fa12 (h : ρ_ x_ = .pointer (some ⟨gb_, 0, none⟩)) : (execOp ρ_ { dst := d_, op := .fieldAddr 25 x_ 12, type := t_, pos := p_, after := af_, guard := g_ }).run Try.prog w_ = .ok (.value (.pointer (some ⟨gb_, 12, none⟩))) w_ := by
 have hu_ := Try.underlying25
 simp only [execOp, h]
 go_simp
theorem roadbookref07_Same.fa13 (h : ρ_ x_ = .pointer (some ⟨gb_, 0, none⟩)) : (execOp ρ_ { dst := d_, op := .fieldAddr 25 x_ 13, type := t_, pos := p_, after := af_, guard := g_ }).run Try.prog w_ = .ok (.value (.pointer (some ⟨gb_, 13, none⟩))) w_ := by
 have hu_ := Try.underlying25
 simp only [execOp, h]
 go_simp
theorem roadbookref07_Same.fa14 (h : ρ_ x_ = .pointer (some ⟨gb_, 0, none⟩)) : (execOp ρ_ { dst := d_, op := .fieldAddr 25 x_ 14, type := t_, pos := p_, after := af_, guard := g_ }).run Try.prog w_ = .ok (.value (.pointer (some ⟨gb_, 14, none⟩))) w_ := by
 have hu_ := Try.underlying25
 simp only [execOp, h]
 go_simp
theorem roadbookref07_Same.fa15 (h : ρ_ x_ = .pointer (some ⟨gb_, 0, none⟩)) : (execOp ρ_ { dst := d_, op := .fieldAddr 25 x_ 15, type := t_, pos := p_, after := af_, guard := g_ }).run Try.prog w_ = .ok (.value (.pointer (some ⟨gb_, 15, none⟩))) w_ := by
 have hu_ := Try.underlying25
 simp only [execOp, h]
 go_simp
theorem roadbookref07_Same.fa16 (h : ρ_ x_ = .pointer (some ⟨gb_, 0, none⟩)) : (execOp ρ_ { dst := d_, op := .fieldAddr 25 x_ 16, type := t_, pos := p_, after := af_, guard := g_ }).run Try.prog w_ = .ok (.value (.pointer (some ⟨gb_, 16, none⟩))) w_ := by
 have hu_ := Try.underlying25
 simp only [execOp, h]
 go_simp
theorem roadbookref07_Same.fa17 (h : ρ_ x_ = .pointer (some ⟨gb_, 0, none⟩)) : (execOp ρ_ { dst := d_, op := .fieldAddr 25 x_ 17, type := t_, pos := p_, after := af_, guard := g_ }).run Try.prog w_ = .ok (.value (.pointer (some ⟨gb_, 17, none⟩))) w_ := by
 have hu_ := Try.underlying25
 simp only [execOp, h]
 go_simp
theorem roadbookref07_Same.fa18 (h : ρ_ x_ = .pointer (some ⟨gb_, 0, none⟩)) : (execOp ρ_ { dst := d_, op := .fieldAddr 25 x_ 18, type := t_, pos := p_, after := af_, guard := g_ }).run Try.prog w_ = .ok (.value (.pointer (some ⟨gb_, 18, none⟩))) w_ := by
 have hu_ := Try.underlying25
 simp only [execOp, h]
 go_simp
theorem roadbookref07_Same.fa19 (h : ρ_ x_ = .pointer (some ⟨gb_, 0, none⟩)) : (execOp ρ_ { dst := d_, op := .fieldAddr 25 x_ 19, type := t_, pos := p_, after := af_, guard := g_ }).run Try.prog w_ = .ok (.value (.pointer (some ⟨gb_, 19, none⟩))) w_ := by
 have hu_ := Try.underlying25
 simp only [execOp, h]
 go_simp
theorem roadbookref07_Same.fa20 (h : ρ_ x_ = .pointer (some ⟨gb_, 0, none⟩)) : (execOp ρ_ { dst := d_, op := .fieldAddr 25 x_ 20, type := t_, pos := p_, after := af_, guard := g_ }).run Try.prog w_ = .ok (.value (.pointer (some ⟨gb_, 20, none⟩))) w_ := by
 have hu_ := Try.underlying25
 simp only [execOp, h]
 go_simp
theorem roadbookref07_Same.fa22 (h : ρ_ x_ = .pointer (some ⟨gb_, 0, none⟩)) : (execOp ρ_ { dst := d_, op := .fieldAddr 25 x_ 22, type := t_, pos := p_, after := af_, guard := g_ }).run Try.prog w_ = .ok (.value (.pointer (some ⟨gb_, 22, none⟩))) w_ := by
 have hu_ := Try.underlying25
 simp only [execOp, h]
 go_simp
theorem roadbookref07_Same.fa23 (h : ρ_ x_ = .pointer (some ⟨gb_, 0, none⟩)) : (execOp ρ_ { dst := d_, op := .fieldAddr 25 x_ 23, type := t_, pos := p_, after := af_, guard := g_ }).run Try.prog w_ = .ok (.value (.pointer (some ⟨gb_, 23, none⟩))) w_ := by
 have hu_ := Try.underlying25
 simp only [execOp, h]
 go_simp
theorem roadbookref07_Same.ldi {v_ : Value} (h : ρ_ x_ = .pointer (some ⟨gb_, f_, none⟩)) (hc : w_.cell? ⟨gb_, f_, none⟩ = some v_) : (execOp ρ_ { dst := d_, op := .load 3 x_, type := t_, pos := p_, after := af_, guard := g_ }).run Try.prog w_ = .ok (.value v_) w_ := by
 simp only [execOp, h]
 go_simp
theorem roadbookref07_Same.lds {v_ : Value} (h : ρ_ x_ = .pointer (some ⟨gb_, f_, none⟩)) (hc : w_.cell? ⟨gb_, f_, none⟩ = some v_) : (execOp ρ_ { dst := d_, op := .load 9 x_, type := t_, pos := p_, after := af_, guard := g_ }).run Try.prog w_ = .ok (.value v_) w_ := by
 simp only [execOp, h]
 go_simp
theorem roadbookref07_Same.nei {m_ n_ : Int} (hx : ρ_ x_ = .int .i64 m_) (hy : ρ_ y_ = .int .i64 n_) : (execOp ρ_ { dst := d_, op := .binOp .neq 3 x_ y_ t2_, type := t_, pos := p_, after := af_, guard := g_ }).run Try.prog w_ = .ok (.value (.bool (m_ != n_))) w_ := by
 simp only [execOp, hx, hy]
 go_simp
theorem roadbookref07_Same.nes {m_ n_ : ByteArray} (hx : ρ_ x_ = .string m_) (hy : ρ_ y_ = .string n_) : (execOp ρ_ { dst := d_, op := .binOp .neq 9 x_ y_ t2_, type := t_, pos := p_, after := af_, guard := g_ }).run Try.prog w_ = .ok (.value (.bool (m_.toList != n_.toList))) w_ := by
 simp only [execOp, hx, hy]
 go_simp
 simp only [bne, Bool.not_not]
end
set_option maxHeartbeats 8000000 in
set_option maxRecDepth 100000 in
theorem roadbookref07_Same.calls (k : Nat) (aD : Int) (aw : Int) (ax : Int) (au : ByteArray) (aA : Int) (ay : Int) (av : ByteArray) (ar : Int) (aC : Int) (az : ByteArray) (ao : Int) (am : ByteArray) (ah : Int) (aj : Int) (ak : Int) (ae : Int) (ag : Int) (ai : Int) (an : Int) (aa : ByteArray) (ab : ByteArray) (aP : Option Addr) (aN : Nat) (ac : List (S46)) (ap : Int) (aq : ByteArray) (aJ : Option Addr) (aK : Nat) (af : List (S48)) (cF : Int) (cG : Int) (cH : Int) (cI : ByteArray) (cJ : Int) (cK : Int) (cL : ByteArray) (cM : Int) (cN : Int) (cO : ByteArray) (cu : Int) (cg : ByteArray) (ch : Int) (ci : Int) (cj : Int) (ck : Int) (cl : Int) (cm : Int) (cn : Int) (co : ByteArray) (cp : ByteArray) (gf : Option Addr) (gg : Nat) (cq : List (S46)) (cr : Int) (cx : ByteArray) (hs : Option Addr) (ht : Nat) (cw : List (S48)) (r : Bool) (w : World) (bk : Kd.C k46 w aP ac.length ac) (bl : ac.length ≤ aN) (bm : Kd.C k48 w aJ af.length af) (bn : af.length ≤ aK) (iS : Kd.C k46 w gf cq.length cq) (iT : cq.length ≤ gg) (iU : Kd.C k48 w hs cw.length cw) (iV : cw.length ≤ ht) (h : roadbookref07_Same.f k aD aw ax au aA ay av ar aC az ao am ah aj ak ae ag ai an aa ab ac ap aq af cF cG cH cI cJ cK cL cM cN cO cu cg ch ci cj ck cl cm cn co cp cq cr cx cw = some r) :
  Calls Try.prog 24 #[.agg #[.int .i64 aD, .int .i64 aw, .int .i64 ax, .string au, .int .i64 aA, .int .i64 ay, .string av, .int .i64 ar, .int .i64 aC, .string az, .int .i64 ao, .string am, .int .i64 ah, .int .i64 aj, .int .i64 ak, .int .i64 ae, .int .i64 ag, .int .i64 ai, .int .i64 an, .string aa, .string ab, .slice aP ac.length aN, .int .i64 ap, .string aq, .slice aJ af.length aK], .agg #[.int .i64 cF, .int .i64 cG, .int .i64 cH, .string cI, .int .i64 cJ, .int .i64 cK, .string cL, .int .i64 cM, .int .i64 cN, .string cO, .int .i64 cu, .string cg, .int .i64 ch, .int .i64 ci, .int .i64 cj, .int .i64 ck, .int .i64 cl, .int .i64 cm, .int .i64 cn, .string co, .string cp, .slice gf cq.length gg, .int .i64 cr, .string cx, .slice hs cw.length ht]] w fun e w' => e = .returned (.bool r) ∧ Below w.heap.size w w' := by
 have dM := Try.underlying25
 have cc := Aside0.mk bk
 have aZ := Aside0.mk bl
 clear bk bl
 have bZ := Aside0.mk bm
 have aT := Aside0.mk bn
 clear bm bn
 have kS := Aside0.mk iS
 have iW := Aside0.mk iT
 clear iS iT
 have kT := Aside0.mk iU
 have kU := Aside0.mk iV
 clear iU iV
 have HB := Aside0.mk (Below.refl w.heap.size w)
 have H : (if aD = cF then (if aw = cG then (if ax = cH then (if au.toList = cI.toList then (if aA = cJ then (if ay = cK then (if av.toList = cL.toList then (if ar = cM then (if aC = cN then (if az.toList = cO.toList then (roadbookref07_Same.j0 k (ao != cu) aD aw ax au aA ay av ar aC az ao am ah aj ak ae ag ai an aa ab ac ap aq af cF cG cH cI cJ cK cL cM cN cO cu cg ch ci cj ck cl cm cn co cp cq cr cx cw) else (roadbookref07_Same.j0 k true aD aw ax au aA ay av ar aC az ao am ah aj ak ae ag ai an aa ab ac ap aq af cF cG cH cI cJ cK cL cM cN cO cu cg ch ci cj ck cl cm cn co cp cq cr cx cw)) else (roadbookref07_Same.j0 k true aD aw ax au aA ay av ar aC az ao am ah aj ak ae ag ai an aa ab ac ap aq af cF cG cH cI cJ cK cL cM cN cO cu cg ch ci cj ck cl cm cn co cp cq cr cx cw)) else (roadbookref07_Same.j0 k true aD aw ax au aA ay av ar aC az ao am ah aj ak ae ag ai an aa ab ac ap aq af cF cG cH cI cJ cK cL cM cN cO cu cg ch ci cj ck cl cm cn co cp cq cr cx cw)) else (roadbookref07_Same.j0 k true aD aw ax au aA ay av ar aC az ao am ah aj ak ae ag ai an aa ab ac ap aq af cF cG cH cI cJ cK cL cM cN cO cu cg ch ci cj ck cl cm cn co cp cq cr cx cw)) else (roadbookref07_Same.j0 k true aD aw ax au aA ay av ar aC az ao am ah aj ak ae ag ai an aa ab ac ap aq af cF cG cH cI cJ cK cL cM cN cO cu cg ch ci cj ck cl cm cn co cp cq cr cx cw)) else (roadbookref07_Same.j0 k true aD aw ax au aA ay av ar aC az ao am ah aj ak ae ag ai an aa ab ac ap aq af cF cG cH cI cJ cK cL cM cN cO cu cg ch ci cj ck cl cm cn co cp cq cr cx cw)) else (roadbookref07_Same.j0 k true aD aw ax au aA ay av ar aC az ao am ah aj ak ae ag ai an aa ab ac ap aq af cF cG cH cI cJ cK cL cM cN cO cu cg ch ci cj ck cl cm cn co cp cq cr cx cw)) else (roadbookref07_Same.j0 k true aD aw ax au aA ay av ar aC az ao am ah aj ak ae ag ai an aa ab ac ap aq af cF cG cH cI cJ cK cL cM cN cO cu cg ch ci cj ck cl cm cn co cp cq cr cx cw)) else (roadbookref07_Same.j0 k true aD aw ax au aA ay av ar aC az ao am ah aj ak ae ag ai an aa ab ac ap aq af cF cG cH cI cJ cK cL cM cN cO cu cg ch ci cj ck cl cm cn co cp cq cr cx cw)) else (roadbookref07_Same.j0 k true aD aw ax au aA ay av ar aC az ao am ah aj ak ae ag ai an aa ab ac ap aq af cF cG cH cI cJ cK cL cM cN cO cu cg ch ci cj ck cl cm cn co cp cq cr cx cw)) = some r := h
 clear h
 have dh := Aside0.mk H
 clear H
 go_enter Try.func24, Try.ntmps24
 go_upto_region 1 with (first | ((with_reducible refine gate_dst (N := 2) rfl ?_); refine Sq.box 2 #[.int .i64 aD, .int .i64 aw, .int .i64 ax, .string au, .int .i64 aA, .int .i64 ay, .string av, .int .i64 ar, .int .i64 aC, .string az, .int .i64 ao, .string am, .int .i64 ah, .int .i64 aj, .int .i64 ak, .int .i64 ae, .int .i64 ag, .int .i64 ai, .int .i64 an, .string aa, .string ab, .slice aP ac.length aN, .int .i64 ap, .string aq, .slice aJ af.length aK] 25 ?_; intro aE hg w4 hbox hb; have al := Aside0.mk (hbox); have cd := Aside0.mk (Sq.ge hg Z2); have bV := Aside0.mk (Sq.ge hg Z2); replace HB := Aside0.mk (below_step Z2 hb); clear hb hbox hg) | ((with_reducible refine gate_dst (N := 3) rfl ?_); refine Sq.box 3 #[.int .i64 cF, .int .i64 cG, .int .i64 cH, .string cI, .int .i64 cJ, .int .i64 cK, .string cL, .int .i64 cM, .int .i64 cN, .string cO, .int .i64 cu, .string cg, .int .i64 ch, .int .i64 ci, .int .i64 cj, .int .i64 ck, .int .i64 cl, .int .i64 cm, .int .i64 cn, .string co, .string cp, .slice gf cq.length gg, .int .i64 cr, .string cx, .slice hs cw.length ht] 25 ?_; intro bC hg w5 hbox hb; have cv := Aside0.mk (hbox); have gI := Aside0.mk (Sq.ge hg Z0); have fE := Aside0.mk (Sq.ge hg Z0); have eO := Aside0.mk (Sq.nl hg (blk_lt (g := aE) Z3)); have fs := Aside0.mk (Sq.ng hg (blk_lt (g := aE) Z3)); replace al := Aside0.mk (blk_below (g := aE) Z3 hb); replace HB := Aside0.mk (below_step Z0 hb); clear hb hbox hg))
 (try simp only [Act.put, Sq.s1, Sq.s2, Sq.s3])
 go_cut [79] (fun oU wc => ∃ (kq : Nat) (ib : Bool), oU = .bool ib ∧ Aside0 (roadbookref07_Same.j0 kq ib aD aw ax au aA ay av ar aC az ao am ah aj ak ae ag ai an aa ab ac ap aq af cF cG cH cI cJ cK cL cM cN cO cu cg ch ci cj ck cl cm cn co cp cq cr cx cw = some r) ∧ Aside0 (kq ≤ k) ∧ Aside0 (wc.heap[aE]? = some (.cells #[.int .i64 aD, .int .i64 aw, .int .i64 ax, .string au, .int .i64 aA, .int .i64 ay, .string av, .int .i64 ar, .int .i64 aC, .string az, .int .i64 ao, .string am, .int .i64 ah, .int .i64 aj, .int .i64 ak, .int .i64 ae, .int .i64 ag, .int .i64 ai, .int .i64 an, .string aa, .string ab, (.slice aP ac.length aN), .int .i64 ap, .string aq, (.slice aJ af.length aK)] 25 (0, 0))) ∧ Aside0 (wc.heap[bC]? = some (.cells #[.int .i64 cF, .int .i64 cG, .int .i64 cH, .string cI, .int .i64 cJ, .int .i64 cK, .string cL, .int .i64 cM, .int .i64 cN, .string cO, .int .i64 cu, .string cg, .int .i64 ch, .int .i64 ci, .int .i64 cj, .int .i64 ck, .int .i64 cl, .int .i64 cm, .int .i64 cn, .string co, .string cp, (.slice gf cq.length gg), .int .i64 cr, .string cx, (.slice hs cw.length ht)] 25 (0, 0))) ∧ Aside0 (Below w.heap.size w wc))
 case first =>
  rename_i J_ K_ hJ_ hK_
  have HJ_ : roadbookref07_Same.j0 k (((((((((((aD != cF) || (aw != cG)) || (ax != cH)) || (au.toList != cI.toList)) || (aA != cJ)) || (ay != cK)) || (av.toList != cL.toList)) || (ar != cM)) || (aC != cN)) || (az.toList != cO.toList)) || (ao != cu)) aD aw ax au aA ay av ar aC az ao am ah aj ak ae ag ai an aa ab ac ap aq af cF cG cH cI cJ cK cL cM cN cO cu cg ch ci cj ck cl cm cn co cp cq cr cx cw = some r := by
   have H := dh.out
   by_cases q0 : aD = cF
   ·rw [if_pos q0] at H
    have d0 : (aD != cF) = false := bne_eq_false_iff_eq.mpr q0
    by_cases q1 : aw = cG
    ·rw [if_pos q1] at H
     have d1 : (aw != cG) = false := bne_eq_false_iff_eq.mpr q1
     by_cases q2 : ax = cH
     ·rw [if_pos q2] at H
      have d2 : (ax != cH) = false := bne_eq_false_iff_eq.mpr q2
      by_cases q3 : au.toList = cI.toList
      ·rw [if_pos q3] at H
       have d3 : (au.toList != cI.toList) = false := bne_eq_false_iff_eq.mpr q3
       by_cases q4 : aA = cJ
       ·rw [if_pos q4] at H
        have d4 : (aA != cJ) = false := bne_eq_false_iff_eq.mpr q4
        by_cases q5 : ay = cK
        ·rw [if_pos q5] at H
         have d5 : (ay != cK) = false := bne_eq_false_iff_eq.mpr q5
         by_cases q6 : av.toList = cL.toList
         ·rw [if_pos q6] at H
          have d6 : (av.toList != cL.toList) = false := bne_eq_false_iff_eq.mpr q6
          by_cases q7 : ar = cM
          ·rw [if_pos q7] at H
           have d7 : (ar != cM) = false := bne_eq_false_iff_eq.mpr q7
           by_cases q8 : aC = cN
           ·rw [if_pos q8] at H
            have d8 : (aC != cN) = false := bne_eq_false_iff_eq.mpr q8
            by_cases q9 : az.toList = cO.toList
            ·rw [if_pos q9] at H
             have d9 : (az.toList != cO.toList) = false := bne_eq_false_iff_eq.mpr q9
             rw [d0, d1, d2, d3, d4, d5, d6, d7, d8, d9]; simp only [Bool.false_or]; exact H
            ·rw [if_neg q9] at H
             have d9 : (az.toList != cO.toList) = true := bne_iff_ne.mpr q9
             rw [d0, d1, d2, d3, d4, d5, d6, d7, d8, d9]; simp only [Bool.false_or, Bool.true_or, Bool.or_true]; exact H
           ·rw [if_neg q8] at H
            have d8 : (aC != cN) = true := bne_iff_ne.mpr q8
            rw [d0, d1, d2, d3, d4, d5, d6, d7, d8]; simp only [Bool.false_or, Bool.true_or, Bool.or_true]; exact H
          ·rw [if_neg q7] at H
           have d7 : (ar != cM) = true := bne_iff_ne.mpr q7
           rw [d0, d1, d2, d3, d4, d5, d6, d7]; simp only [Bool.false_or, Bool.true_or, Bool.or_true]; exact H
         ·rw [if_neg q6] at H
          have d6 : (av.toList != cL.toList) = true := bne_iff_ne.mpr q6
          rw [d0, d1, d2, d3, d4, d5, d6]; simp only [Bool.false_or, Bool.true_or, Bool.or_true]; exact H
        ·rw [if_neg q5] at H
         have d5 : (ay != cK) = true := bne_iff_ne.mpr q5
         rw [d0, d1, d2, d3, d4, d5]; simp only [Bool.false_or, Bool.true_or, Bool.or_true]; exact H
       ·rw [if_neg q4] at H
        have d4 : (aA != cJ) = true := bne_iff_ne.mpr q4
        rw [d0, d1, d2, d3, d4]; simp only [Bool.false_or, Bool.true_or, Bool.or_true]; exact H
      ·rw [if_neg q3] at H
       have d3 : (au.toList != cI.toList) = true := bne_iff_ne.mpr q3
       rw [d0, d1, d2, d3]; simp only [Bool.false_or, Bool.true_or, Bool.or_true]; exact H
     ·rw [if_neg q2] at H
      have d2 : (ax != cH) = true := bne_iff_ne.mpr q2
      rw [d0, d1, d2]; simp only [Bool.false_or, Bool.true_or, Bool.or_true]; exact H
    ·rw [if_neg q1] at H
     have d1 : (aw != cG) = true := bne_iff_ne.mpr q1
     rw [d0, d1]; simp only [Bool.false_or, Bool.true_or, Bool.or_true]; exact H
   ·rw [if_neg q0] at H
    have d0 : (aD != cF) = true := bne_iff_ne.mpr q0
    rw [d0]; simp only [Bool.false_or, Bool.true_or, Bool.or_true]; exact H
  obtain ⟨hp0, hp1, hp2, hp3, hp4, hp5, hp6, hp7, hp8, hp9, hp10, -, -, -, -, -, -, -, -, -, -, -, -, -, -, -, -, -, -, -, -, -, -, -, -, -, -, -, -, -, -, -, -, -, -, -, -, -, -, -⟩ := cells_25 al.out
  obtain ⟨hq0, hq1, hq2, hq3, hq4, hq5, hq6, hq7, hq8, hq9, hq10, -, -, -, -, -, -, -, -, -, -, -, -, -, -, -, -, -, -, -, -, -, -, -, -, -, -, -, -, -, -, -, -, -, -, -, -, -, -, -⟩ := cells_25 cv.out
  refine wp_region_lit ?_
  refine Pre.row_first (p := 2) (q := 3) (n := 5) (N := 174) (lo := 5) (A1 := .pointer (some ⟨aE, 0, none⟩)) (A2 := .pointer (some ⟨bC, 0, none⟩)) (B1 := .pointer (some ⟨aE, 0, none⟩)) (B2 := .pointer (some ⟨bC, 0, none⟩)) (X1 := .int .i64 aD) (X2 := .int .i64 cF) (e := aD != cF) rfl rfl Z21 rfl rfl Z21 Z21 Z21 (fun _ _ _ _ _ _ h_ => roadbookref07_Same.fa0 h_) (fun _ _ _ _ _ _ h_ => roadbookref07_Same.fa0 h_) (fun _ _ _ _ _ _ h_ => roadbookref07_Same.ldi h_ hp0) (fun _ _ _ _ _ _ h_ => roadbookref07_Same.ldi h_ hq0) (fun _ _ _ _ _ _ _ _ h_ h2_ => roadbookref07_Same.nei h_ h2_) ?_
  intro a0_ hst_
  refine Pre.row_next (n := 11) (A1 := .pointer (some ⟨aE, 0, none⟩)) (A2 := .pointer (some ⟨bC, 0, none⟩)) (B1 := .pointer (some ⟨aE, 1, none⟩)) (B2 := .pointer (some ⟨bC, 1, none⟩)) (X1 := .int .i64 aw) (X2 := .int .i64 cG) (e := aw != cG) rfl hst_ Z21 Z21 Z21 Z21 Z21 (fun _ _ _ _ _ _ h_ => roadbookref07_Same.fa1 h_) (fun _ _ _ _ _ _ h_ => roadbookref07_Same.fa1 h_) (fun _ _ _ _ _ _ h_ => roadbookref07_Same.ldi h_ hp1) (fun _ _ _ _ _ _ h_ => roadbookref07_Same.ldi h_ hq1) (fun _ _ _ _ _ _ _ _ h_ h2_ => roadbookref07_Same.nei h_ h2_) ?_
  intro a1_ hst_
  refine Pre.row_next (n := 18) (A1 := .pointer (some ⟨aE, 0, none⟩)) (A2 := .pointer (some ⟨bC, 0, none⟩)) (B1 := .pointer (some ⟨aE, 2, none⟩)) (B2 := .pointer (some ⟨bC, 2, none⟩)) (X1 := .int .i64 ax) (X2 := .int .i64 cH) (e := ax != cH) rfl hst_ Z21 Z21 Z21 Z21 Z21 (fun _ _ _ _ _ _ h_ => roadbookref07_Same.fa2 h_) (fun _ _ _ _ _ _ h_ => roadbookref07_Same.fa2 h_) (fun _ _ _ _ _ _ h_ => roadbookref07_Same.ldi h_ hp2) (fun _ _ _ _ _ _ h_ => roadbookref07_Same.ldi h_ hq2) (fun _ _ _ _ _ _ _ _ h_ h2_ => roadbookref07_Same.nei h_ h2_) ?_
  intro a2_ hst_
  refine Pre.row_next (n := 25) (A1 := .pointer (some ⟨aE, 0, none⟩)) (A2 := .pointer (some ⟨bC, 0, none⟩)) (B1 := .pointer (some ⟨aE, 3, none⟩)) (B2 := .pointer (some ⟨bC, 3, none⟩)) (X1 := .string au) (X2 := .string cI) (e := au.toList != cI.toList) rfl hst_ Z21 Z21 Z21 Z21 Z21 (fun _ _ _ _ _ _ h_ => roadbookref07_Same.fa3 h_) (fun _ _ _ _ _ _ h_ => roadbookref07_Same.fa3 h_) (fun _ _ _ _ _ _ h_ => roadbookref07_Same.lds h_ hp3) (fun _ _ _ _ _ _ h_ => roadbookref07_Same.lds h_ hq3) (fun _ _ _ _ _ _ _ _ h_ h2_ => roadbookref07_Same.nes h_ h2_) ?_
  intro a3_ hst_
  refine Pre.row_next (n := 32) (A1 := .pointer (some ⟨aE, 0, none⟩)) (A2 := .pointer (some ⟨bC, 0, none⟩)) (B1 := .pointer (some ⟨aE, 4, none⟩)) (B2 := .pointer (some ⟨bC, 4, none⟩)) (X1 := .int .i64 aA) (X2 := .int .i64 cJ) (e := aA != cJ) rfl hst_ Z21 Z21 Z21 Z21 Z21 (fun _ _ _ _ _ _ h_ => roadbookref07_Same.fa4 h_) (fun _ _ _ _ _ _ h_ => roadbookref07_Same.fa4 h_) (fun _ _ _ _ _ _ h_ => roadbookref07_Same.ldi h_ hp4) (fun _ _ _ _ _ _ h_ => roadbookref07_Same.ldi h_ hq4) (fun _ _ _ _ _ _ _ _ h_ h2_ => roadbookref07_Same.nei h_ h2_) ?_
  intro a4_ hst_
  refine Pre.row_next (n := 39) (A1 := .pointer (some ⟨aE, 0, none⟩)) (A2 := .pointer (some ⟨bC, 0, none⟩)) (B1 := .pointer (some ⟨aE, 5, none⟩)) (B2 := .pointer (some ⟨bC, 5, none⟩)) (X1 := .int .i64 ay) (X2 := .int .i64 cK) (e := ay != cK) rfl hst_ Z21 Z21 Z21 Z21 Z21 (fun _ _ _ _ _ _ h_ => roadbookref07_Same.fa5 h_) (fun _ _ _ _ _ _ h_ => roadbookref07_Same.fa5 h_) (fun _ _ _ _ _ _ h_ => roadbookref07_Same.ldi h_ hp5) (fun _ _ _ _ _ _ h_ => roadbookref07_Same.ldi h_ hq5) (fun _ _ _ _ _ _ _ _ h_ h2_ => roadbookref07_Same.nei h_ h2_) ?_
  intro a5_ hst_
  refine Pre.row_next (n := 46) (A1 := .pointer (some ⟨aE, 0, none⟩)) (A2 := .pointer (some ⟨bC, 0, none⟩)) (B1 := .pointer (some ⟨aE, 6, none⟩)) (B2 := .pointer (some ⟨bC, 6, none⟩)) (X1 := .string av) (X2 := .string cL) (e := av.toList != cL.toList) rfl hst_ Z21 Z21 Z21 Z21 Z21 (fun _ _ _ _ _ _ h_ => roadbookref07_Same.fa6 h_) (fun _ _ _ _ _ _ h_ => roadbookref07_Same.fa6 h_) (fun _ _ _ _ _ _ h_ => roadbookref07_Same.lds h_ hp6) (fun _ _ _ _ _ _ h_ => roadbookref07_Same.lds h_ hq6) (fun _ _ _ _ _ _ _ _ h_ h2_ => roadbookref07_Same.nes h_ h2_) ?_
  intro a6_ hst_
  refine Pre.row_next (n := 53) (A1 := .pointer (some ⟨aE, 0, none⟩)) (A2 := .pointer (some ⟨bC, 0, none⟩)) (B1 := .pointer (some ⟨aE, 7, none⟩)) (B2 := .pointer (some ⟨bC, 7, none⟩)) (X1 := .int .i64 ar) (X2 := .int .i64 cM) (e := ar != cM) rfl hst_ Z21 Z21 Z21 Z21 Z21 (fun _ _ _ _ _ _ h_ => roadbookref07_Same.fa7 h_) (fun _ _ _ _ _ _ h_ => roadbookref07_Same.fa7 h_) (fun _ _ _ _ _ _ h_ => roadbookref07_Same.ldi h_ hp7) (fun _ _ _ _ _ _ h_ => roadbookref07_Same.ldi h_ hq7) (fun _ _ _ _ _ _ _ _ h_ h2_ => roadbookref07_Same.nei h_ h2_) ?_
  intro a7_ hst_
  refine Pre.row_next (n := 60) (A1 := .pointer (some ⟨aE, 0, none⟩)) (A2 := .pointer (some ⟨bC, 0, none⟩)) (B1 := .pointer (some ⟨aE, 8, none⟩)) (B2 := .pointer (some ⟨bC, 8, none⟩)) (X1 := .int .i64 aC) (X2 := .int .i64 cN) (e := aC != cN) rfl hst_ Z21 Z21 Z21 Z21 Z21 (fun _ _ _ _ _ _ h_ => roadbookref07_Same.fa8 h_) (fun _ _ _ _ _ _ h_ => roadbookref07_Same.fa8 h_) (fun _ _ _ _ _ _ h_ => roadbookref07_Same.ldi h_ hp8) (fun _ _ _ _ _ _ h_ => roadbookref07_Same.ldi h_ hq8) (fun _ _ _ _ _ _ _ _ h_ h2_ => roadbookref07_Same.nei h_ h2_) ?_
  intro a8_ hst_
  refine Pre.row_next (n := 67) (A1 := .pointer (some ⟨aE, 0, none⟩)) (A2 := .pointer (some ⟨bC, 0, none⟩)) (B1 := .pointer (some ⟨aE, 9, none⟩)) (B2 := .pointer (some ⟨bC, 9, none⟩)) (X1 := .string az) (X2 := .string cO) (e := az.toList != cO.toList) rfl hst_ Z21 Z21 Z21 Z21 Z21 (fun _ _ _ _ _ _ h_ => roadbookref07_Same.fa9 h_) (fun _ _ _ _ _ _ h_ => roadbookref07_Same.fa9 h_) (fun _ _ _ _ _ _ h_ => roadbookref07_Same.lds h_ hp9) (fun _ _ _ _ _ _ h_ => roadbookref07_Same.lds h_ hq9) (fun _ _ _ _ _ _ _ _ h_ h2_ => roadbookref07_Same.nes h_ h2_) ?_
  intro a9_ hst_
  refine Pre.row_last (n := 74) (A1 := .pointer (some ⟨aE, 0, none⟩)) (A2 := .pointer (some ⟨bC, 0, none⟩)) (B1 := .pointer (some ⟨aE, 10, none⟩)) (B2 := .pointer (some ⟨bC, 10, none⟩)) (X1 := .int .i64 ao) (X2 := .int .i64 cu) (e := ao != cu) rfl hst_ Z21 Z21 Z21 Z21 Z21 (fun _ _ _ _ _ _ h_ => roadbookref07_Same.fa10 h_) (fun _ _ _ _ _ _ h_ => roadbookref07_Same.fa10 h_) (fun _ _ _ _ _ _ h_ => roadbookref07_Same.ldi h_ hp10) (fun _ _ _ _ _ _ h_ => roadbookref07_Same.ldi h_ hq10) (fun _ _ _ _ _ _ _ _ h_ h2_ => roadbookref07_Same.nei h_ h2_) ?_
  intro a10_ hst_
  refine wpList_nil ?_
  have e_ := Pre.act_lit hst_.size hst_.defers
  have e2_ : a10_ = ⟨#[a10_.eval (.tmp 0), a10_.eval (.tmp 1), a10_.eval (.tmp 2), a10_.eval (.tmp 3), a10_.eval (.tmp 4), a10_.eval (.tmp 5), a10_.eval (.tmp 6), a10_.eval (.tmp 7), a10_.eval (.tmp 8), a10_.eval (.tmp 9), a10_.eval (.tmp 10), a10_.eval (.tmp 11), a10_.eval (.tmp 12), a10_.eval (.tmp 13), a10_.eval (.tmp 14), a10_.eval (.tmp 15), a10_.eval (.tmp 16), a10_.eval (.tmp 17), a10_.eval (.tmp 18), a10_.eval (.tmp 19), a10_.eval (.tmp 20), a10_.eval (.tmp 21), a10_.eval (.tmp 22), a10_.eval (.tmp 23), a10_.eval (.tmp 24), a10_.eval (.tmp 25), a10_.eval (.tmp 26), a10_.eval (.tmp 27), a10_.eval (.tmp 28), a10_.eval (.tmp 29), a10_.eval (.tmp 30), a10_.eval (.tmp 31), a10_.eval (.tmp 32), a10_.eval (.tmp 33), a10_.eval (.tmp 34), a10_.eval (.tmp 35), a10_.eval (.tmp 36), a10_.eval (.tmp 37), a10_.eval (.tmp 38), a10_.eval (.tmp 39), a10_.eval (.tmp 40), a10_.eval (.tmp 41), a10_.eval (.tmp 42), a10_.eval (.tmp 43), a10_.eval (.tmp 44), a10_.eval (.tmp 45), a10_.eval (.tmp 46), a10_.eval (.tmp 47), a10_.eval (.tmp 48), a10_.eval (.tmp 49), a10_.eval (.tmp 50), a10_.eval (.tmp 51), a10_.eval (.tmp 52), a10_.eval (.tmp 53), a10_.eval (.tmp 54), a10_.eval (.tmp 55), a10_.eval (.tmp 56), a10_.eval (.tmp 57), a10_.eval (.tmp 58), a10_.eval (.tmp 59), a10_.eval (.tmp 60), a10_.eval (.tmp 61), a10_.eval (.tmp 62), a10_.eval (.tmp 63), a10_.eval (.tmp 64), a10_.eval (.tmp 65), a10_.eval (.tmp 66), a10_.eval (.tmp 67), a10_.eval (.tmp 68), a10_.eval (.tmp 69), a10_.eval (.tmp 70), a10_.eval (.tmp 71), a10_.eval (.tmp 72), a10_.eval (.tmp 73), a10_.eval (.tmp 74), a10_.eval (.tmp 75), a10_.eval (.tmp 76), a10_.eval (.tmp 77), a10_.eval (.tmp 78), a10_.eval (.tmp 79), a10_.eval (.tmp 80), a10_.eval (.tmp 81), a10_.eval (.tmp 82), a10_.eval (.tmp 83), a10_.eval (.tmp 84), a10_.eval (.tmp 85), a10_.eval (.tmp 86), a10_.eval (.tmp 87), a10_.eval (.tmp 88), a10_.eval (.tmp 89), a10_.eval (.tmp 90), a10_.eval (.tmp 91), a10_.eval (.tmp 92), a10_.eval (.tmp 93), a10_.eval (.tmp 94), a10_.eval (.tmp 95), a10_.eval (.tmp 96), a10_.eval (.tmp 97), a10_.eval (.tmp 98), a10_.eval (.tmp 99), a10_.eval (.tmp 100), a10_.eval (.tmp 101), a10_.eval (.tmp 102), a10_.eval (.tmp 103), a10_.eval (.tmp 104), a10_.eval (.tmp 105), a10_.eval (.tmp 106), a10_.eval (.tmp 107), a10_.eval (.tmp 108), a10_.eval (.tmp 109), a10_.eval (.tmp 110), a10_.eval (.tmp 111), a10_.eval (.tmp 112), a10_.eval (.tmp 113), a10_.eval (.tmp 114), a10_.eval (.tmp 115), a10_.eval (.tmp 116), a10_.eval (.tmp 117), a10_.eval (.tmp 118), a10_.eval (.tmp 119), a10_.eval (.tmp 120), a10_.eval (.tmp 121), a10_.eval (.tmp 122), a10_.eval (.tmp 123), a10_.eval (.tmp 124), a10_.eval (.tmp 125), a10_.eval (.tmp 126), a10_.eval (.tmp 127), a10_.eval (.tmp 128), a10_.eval (.tmp 129), a10_.eval (.tmp 130), a10_.eval (.tmp 131), a10_.eval (.tmp 132), a10_.eval (.tmp 133), a10_.eval (.tmp 134), a10_.eval (.tmp 135), a10_.eval (.tmp 136), a10_.eval (.tmp 137), a10_.eval (.tmp 138), a10_.eval (.tmp 139), a10_.eval (.tmp 140), a10_.eval (.tmp 141), a10_.eval (.tmp 142), a10_.eval (.tmp 143), a10_.eval (.tmp 144), a10_.eval (.tmp 145), a10_.eval (.tmp 146), a10_.eval (.tmp 147), a10_.eval (.tmp 148), a10_.eval (.tmp 149), a10_.eval (.tmp 150), a10_.eval (.tmp 151), a10_.eval (.tmp 152), a10_.eval (.tmp 153), a10_.eval (.tmp 154), a10_.eval (.tmp 155), a10_.eval (.tmp 156), a10_.eval (.tmp 157), a10_.eval (.tmp 158), a10_.eval (.tmp 159), a10_.eval (.tmp 160), a10_.eval (.tmp 161), a10_.eval (.tmp 162), a10_.eval (.tmp 163), a10_.eval (.tmp 164), a10_.eval (.tmp 165), a10_.eval (.tmp 166), a10_.eval (.tmp 167), a10_.eval (.tmp 168), a10_.eval (.tmp 169), a10_.eval (.tmp 170), a10_.eval (.tmp 171), a10_.eval (.tmp 172), a10_.eval (.tmp 173)], []⟩ := e_.trans rfl
  clear e_
  have k0_ := hst_.kept 0 Z21
  have k1_ := hst_.kept 1 Z21
  have k2_ := hst_.kept 2 Z21
  have k3_ := hst_.kept 3 Z21
  have k4_ := hst_.kept 4 Z21
  rw [k0_, k1_, k2_, k3_, k4_] at e2_
  exact hK_ _ _ (hJ_ _ _ ⟨a10_.eval (.tmp 5), a10_.eval (.tmp 6), a10_.eval (.tmp 7), a10_.eval (.tmp 8), a10_.eval (.tmp 9), a10_.eval (.tmp 10), a10_.eval (.tmp 11), a10_.eval (.tmp 12), a10_.eval (.tmp 13), a10_.eval (.tmp 14), a10_.eval (.tmp 15), a10_.eval (.tmp 16), a10_.eval (.tmp 17), a10_.eval (.tmp 18), a10_.eval (.tmp 19), a10_.eval (.tmp 20), a10_.eval (.tmp 21), a10_.eval (.tmp 22), a10_.eval (.tmp 23), a10_.eval (.tmp 24), a10_.eval (.tmp 25), a10_.eval (.tmp 26), a10_.eval (.tmp 27), a10_.eval (.tmp 28), a10_.eval (.tmp 29), a10_.eval (.tmp 30), a10_.eval (.tmp 31), a10_.eval (.tmp 32), a10_.eval (.tmp 33), a10_.eval (.tmp 34), a10_.eval (.tmp 35), a10_.eval (.tmp 36), a10_.eval (.tmp 37), a10_.eval (.tmp 38), a10_.eval (.tmp 39), a10_.eval (.tmp 40), a10_.eval (.tmp 41), a10_.eval (.tmp 42), a10_.eval (.tmp 43), a10_.eval (.tmp 44), a10_.eval (.tmp 45), a10_.eval (.tmp 46), a10_.eval (.tmp 47), a10_.eval (.tmp 48), a10_.eval (.tmp 49), a10_.eval (.tmp 50), a10_.eval (.tmp 51), a10_.eval (.tmp 52), a10_.eval (.tmp 53), a10_.eval (.tmp 54), a10_.eval (.tmp 55), a10_.eval (.tmp 56), a10_.eval (.tmp 57), a10_.eval (.tmp 58), a10_.eval (.tmp 59), a10_.eval (.tmp 60), a10_.eval (.tmp 61), a10_.eval (.tmp 62), a10_.eval (.tmp 63), a10_.eval (.tmp 64), a10_.eval (.tmp 65), a10_.eval (.tmp 66), a10_.eval (.tmp 67), a10_.eval (.tmp 68), a10_.eval (.tmp 69), a10_.eval (.tmp 70), a10_.eval (.tmp 71), a10_.eval (.tmp 72), a10_.eval (.tmp 73), a10_.eval (.tmp 74), a10_.eval (.tmp 75), a10_.eval (.tmp 76), a10_.eval (.tmp 77), a10_.eval (.tmp 78), a10_.eval (.tmp 79), a10_.eval (.tmp 80), a10_.eval (.tmp 81), a10_.eval (.tmp 82), a10_.eval (.tmp 83), a10_.eval (.tmp 84), a10_.eval (.tmp 85), a10_.eval (.tmp 86), a10_.eval (.tmp 87), a10_.eval (.tmp 88), a10_.eval (.tmp 89), a10_.eval (.tmp 90), a10_.eval (.tmp 91), a10_.eval (.tmp 92), a10_.eval (.tmp 93), a10_.eval (.tmp 94), a10_.eval (.tmp 95), a10_.eval (.tmp 96), a10_.eval (.tmp 97), a10_.eval (.tmp 98), a10_.eval (.tmp 99), a10_.eval (.tmp 100), a10_.eval (.tmp 101), a10_.eval (.tmp 102), a10_.eval (.tmp 103), a10_.eval (.tmp 104), a10_.eval (.tmp 105), a10_.eval (.tmp 106), a10_.eval (.tmp 107), a10_.eval (.tmp 108), a10_.eval (.tmp 109), a10_.eval (.tmp 110), a10_.eval (.tmp 111), a10_.eval (.tmp 112), a10_.eval (.tmp 113), a10_.eval (.tmp 114), a10_.eval (.tmp 115), a10_.eval (.tmp 116), a10_.eval (.tmp 117), a10_.eval (.tmp 118), a10_.eval (.tmp 119), a10_.eval (.tmp 120), a10_.eval (.tmp 121), a10_.eval (.tmp 122), a10_.eval (.tmp 123), a10_.eval (.tmp 124), a10_.eval (.tmp 125), a10_.eval (.tmp 126), a10_.eval (.tmp 127), a10_.eval (.tmp 128), a10_.eval (.tmp 129), a10_.eval (.tmp 130), a10_.eval (.tmp 131), a10_.eval (.tmp 132), a10_.eval (.tmp 133), a10_.eval (.tmp 134), a10_.eval (.tmp 135), a10_.eval (.tmp 136), a10_.eval (.tmp 137), a10_.eval (.tmp 138), a10_.eval (.tmp 139), a10_.eval (.tmp 140), a10_.eval (.tmp 141), a10_.eval (.tmp 142), a10_.eval (.tmp 143), a10_.eval (.tmp 144), a10_.eval (.tmp 145), a10_.eval (.tmp 146), a10_.eval (.tmp 147), a10_.eval (.tmp 148), a10_.eval (.tmp 149), a10_.eval (.tmp 150), a10_.eval (.tmp 151), a10_.eval (.tmp 152), a10_.eval (.tmp 153), a10_.eval (.tmp 154), a10_.eval (.tmp 155), a10_.eval (.tmp 156), a10_.eval (.tmp 157), a10_.eval (.tmp 158), a10_.eval (.tmp 159), a10_.eval (.tmp 160), a10_.eval (.tmp 161), a10_.eval (.tmp 162), a10_.eval (.tmp 163), a10_.eval (.tmp 164), a10_.eval (.tmp 165), a10_.eval (.tmp 166), a10_.eval (.tmp 167), a10_.eval (.tmp 168), a10_.eval (.tmp 169), a10_.eval (.tmp 170), a10_.eval (.tmp 171), a10_.eval (.tmp 172), a10_.eval (.tmp 173), ⟨k, (((((((((((aD != cF) || (aw != cG)) || (ax != cH)) || (au.toList != cI.toList)) || (aA != cJ)) || (ay != cK)) || (av.toList != cL.toList)) || (ar != cM)) || (aC != cN)) || (az.toList != cO.toList)) || (ao != cu)), hst_.so, ⟨HJ_⟩, ⟨Nat.le_refl _⟩, ⟨al.out⟩, ⟨cv.out⟩, ⟨HB.out⟩⟩, e2_⟩)
 case rest =>
  clear dh
  try clear c1
  try clear c2
  try clear dz
  obtain ⟨kq, ib, rfl, HA, nx, al, cv, HB⟩ := hcut
  cases kq with
  | zero => exact absurd HA.out (by simp [roadbookref07_Same.j0])
  | succ kj2 =>
   have H := HA.out
   clear HA
   simp only [roadbookref07_Same.j0] at H
   by_cases lN : ib = true
   ·subst lN
    replace H := Sq.itT H
    obtain rfl := Option.some.inj H
    go_wp2
    go_ret
    exact ⟨Z6, Z19⟩
   ·replace lN := Bool.eq_false_iff.mpr lN
    subst lN
    replace H := Sq.itF H
    have lO := Aside0.mk H
    clear H
    go_upto_region 3 with (fail)
    go_cut [161] (fun ny wc => ∃ (kq : Nat) (gd : Bool), ny = .bool gd ∧ Aside0 (roadbookref07_Same.j1 kq gd aD aw ax au aA ay av ar aC az ao am ah aj ak ae ag ai an aa ab ac ap aq af cF cG cH cI cJ cK cL cM cN cO cu cg ch ci cj ck cl cm cn co cp cq cr cx cw = some r) ∧ Aside0 (kq ≤ kj2) ∧ Aside0 (wc.heap[aE]? = some (.cells #[.int .i64 aD, .int .i64 aw, .int .i64 ax, .string au, .int .i64 aA, .int .i64 ay, .string av, .int .i64 ar, .int .i64 aC, .string az, .int .i64 ao, .string am, .int .i64 ah, .int .i64 aj, .int .i64 ak, .int .i64 ae, .int .i64 ag, .int .i64 ai, .int .i64 an, .string aa, .string ab, (.slice aP ac.length aN), .int .i64 ap, .string aq, (.slice aJ af.length aK)] 25 (0, 0))) ∧ Aside0 (wc.heap[bC]? = some (.cells #[.int .i64 cF, .int .i64 cG, .int .i64 cH, .string cI, .int .i64 cJ, .int .i64 cK, .string cL, .int .i64 cM, .int .i64 cN, .string cO, .int .i64 cu, .string cg, .int .i64 ch, .int .i64 ci, .int .i64 cj, .int .i64 ck, .int .i64 cl, .int .i64 cm, .int .i64 cn, .string co, .string cp, (.slice gf cq.length gg), .int .i64 cr, .string cx, (.slice hs cw.length ht)] 25 (0, 0))) ∧ Aside0 (Below w.heap.size w wc))
    case first =>
     rename_i J_ K_ hJ_ hK_
     have HJ_ : roadbookref07_Same.j1 kj2 ((((((((((((am.toList != cg.toList) || (ah != ch)) || (aj != ci)) || (ak != cj)) || (ae != ck)) || (ag != cl)) || (ai != cm)) || (an != cn)) || (aa.toList != co.toList)) || (ab.toList != cp.toList)) || (ap != cr)) || (aq.toList != cx.toList)) aD aw ax au aA ay av ar aC az ao am ah aj ak ae ag ai an aa ab ac ap aq af cF cG cH cI cJ cK cL cM cN cO cu cg ch ci cj ck cl cm cn co cp cq cr cx cw = some r := by
      have H := lO.out
      by_cases q0 : am.toList = cg.toList
      ·rw [if_pos q0] at H
       have d0 : (am.toList != cg.toList) = false := bne_eq_false_iff_eq.mpr q0
       by_cases q1 : ah = ch
       ·rw [if_pos q1] at H
        have d1 : (ah != ch) = false := bne_eq_false_iff_eq.mpr q1
        by_cases q2 : aj = ci
        ·rw [if_pos q2] at H
         have d2 : (aj != ci) = false := bne_eq_false_iff_eq.mpr q2
         by_cases q3 : ak = cj
         ·rw [if_pos q3] at H
          have d3 : (ak != cj) = false := bne_eq_false_iff_eq.mpr q3
          by_cases q4 : ae = ck
          ·rw [if_pos q4] at H
           have d4 : (ae != ck) = false := bne_eq_false_iff_eq.mpr q4
           by_cases q5 : ag = cl
           ·rw [if_pos q5] at H
            have d5 : (ag != cl) = false := bne_eq_false_iff_eq.mpr q5
            by_cases q6 : ai = cm
            ·rw [if_pos q6] at H
             have d6 : (ai != cm) = false := bne_eq_false_iff_eq.mpr q6
             by_cases q7 : an = cn
             ·rw [if_pos q7] at H
              have d7 : (an != cn) = false := bne_eq_false_iff_eq.mpr q7
              by_cases q8 : aa.toList = co.toList
              ·rw [if_pos q8] at H
               have d8 : (aa.toList != co.toList) = false := bne_eq_false_iff_eq.mpr q8
               by_cases q9 : ab.toList = cp.toList
               ·rw [if_pos q9] at H
                have d9 : (ab.toList != cp.toList) = false := bne_eq_false_iff_eq.mpr q9
                by_cases q10 : ap = cr
                ·rw [if_pos q10] at H
                 have d10 : (ap != cr) = false := bne_eq_false_iff_eq.mpr q10
                 rw [d0, d1, d2, d3, d4, d5, d6, d7, d8, d9, d10]; simp only [Bool.false_or]; exact H
                ·rw [if_neg q10] at H
                 have d10 : (ap != cr) = true := bne_iff_ne.mpr q10
                 rw [d0, d1, d2, d3, d4, d5, d6, d7, d8, d9, d10]; simp only [Bool.false_or, Bool.true_or, Bool.or_true]; exact H
               ·rw [if_neg q9] at H
                have d9 : (ab.toList != cp.toList) = true := bne_iff_ne.mpr q9
                rw [d0, d1, d2, d3, d4, d5, d6, d7, d8, d9]; simp only [Bool.false_or, Bool.true_or, Bool.or_true]; exact H
              ·rw [if_neg q8] at H
               have d8 : (aa.toList != co.toList) = true := bne_iff_ne.mpr q8
               rw [d0, d1, d2, d3, d4, d5, d6, d7, d8]; simp only [Bool.false_or, Bool.true_or, Bool.or_true]; exact H
             ·rw [if_neg q7] at H
              have d7 : (an != cn) = true := bne_iff_ne.mpr q7
              rw [d0, d1, d2, d3, d4, d5, d6, d7]; simp only [Bool.false_or, Bool.true_or, Bool.or_true]; exact H
            ·rw [if_neg q6] at H
             have d6 : (ai != cm) = true := bne_iff_ne.mpr q6
             rw [d0, d1, d2, d3, d4, d5, d6]; simp only [Bool.false_or, Bool.true_or, Bool.or_true]; exact H
           ·rw [if_neg q5] at H
            have d5 : (ag != cl) = true := bne_iff_ne.mpr q5
            rw [d0, d1, d2, d3, d4, d5]; simp only [Bool.false_or, Bool.true_or, Bool.or_true]; exact H
          ·rw [if_neg q4] at H
           have d4 : (ae != ck) = true := bne_iff_ne.mpr q4
           rw [d0, d1, d2, d3, d4]; simp only [Bool.false_or, Bool.true_or, Bool.or_true]; exact H
         ·rw [if_neg q3] at H
          have d3 : (ak != cj) = true := bne_iff_ne.mpr q3
          rw [d0, d1, d2, d3]; simp only [Bool.false_or, Bool.true_or, Bool.or_true]; exact H
        ·rw [if_neg q2] at H
         have d2 : (aj != ci) = true := bne_iff_ne.mpr q2
         rw [d0, d1, d2]; simp only [Bool.false_or, Bool.true_or, Bool.or_true]; exact H
       ·rw [if_neg q1] at H
        have d1 : (ah != ch) = true := bne_iff_ne.mpr q1
        rw [d0, d1]; simp only [Bool.false_or, Bool.true_or, Bool.or_true]; exact H
      ·rw [if_neg q0] at H
       have d0 : (am.toList != cg.toList) = true := bne_iff_ne.mpr q0
       rw [d0]; simp only [Bool.false_or, Bool.true_or, Bool.or_true]; exact H
     obtain ⟨-, -, -, -, -, -, -, -, -, -, -, hp11, hp12, hp13, hp14, hp15, hp16, hp17, hp18, hp19, hp20, -, hp22, hp23, -, -, -, -, -, -, -, -, -, -, -, -, -, -, -, -, -, -, -, -, -, -, -, -, -, -⟩ := cells_25 al.out
     obtain ⟨-, -, -, -, -, -, -, -, -, -, -, hq11, hq12, hq13, hq14, hq15, hq16, hq17, hq18, hq19, hq20, -, hq22, hq23, -, -, -, -, -, -, -, -, -, -, -, -, -, -, -, -, -, -, -, -, -, -, -, -, -, -⟩ := cells_25 cv.out
     refine wp_region_lit ?_
     refine Pre.row_first (p := 2) (q := 3) (n := 80) (N := 174) (lo := 5) (A1 := .pointer (some ⟨aE, 0, none⟩)) (A2 := .pointer (some ⟨bC, 0, none⟩)) (B1 := .pointer (some ⟨aE, 11, none⟩)) (B2 := .pointer (some ⟨bC, 11, none⟩)) (X1 := .string am) (X2 := .string cg) (e := am.toList != cg.toList) rfl rfl Z21 rfl rfl Z21 Z21 Z21 (fun _ _ _ _ _ _ h_ => roadbookref07_Same.fa11 h_) (fun _ _ _ _ _ _ h_ => roadbookref07_Same.fa11 h_) (fun _ _ _ _ _ _ h_ => roadbookref07_Same.lds h_ hp11) (fun _ _ _ _ _ _ h_ => roadbookref07_Same.lds h_ hq11) (fun _ _ _ _ _ _ _ _ h_ h2_ => roadbookref07_Same.nes h_ h2_) ?_
     intro a0_ hst_
     refine Pre.row_next (n := 86) (A1 := .pointer (some ⟨aE, 0, none⟩)) (A2 := .pointer (some ⟨bC, 0, none⟩)) (B1 := .pointer (some ⟨aE, 12, none⟩)) (B2 := .pointer (some ⟨bC, 12, none⟩)) (X1 := .int .i64 ah) (X2 := .int .i64 ch) (e := ah != ch) rfl hst_ Z21 Z21 Z21 Z21 Z21 (fun _ _ _ _ _ _ h_ => roadbookref07_Same.fa12 h_) (fun _ _ _ _ _ _ h_ => roadbookref07_Same.fa12 h_) (fun _ _ _ _ _ _ h_ => roadbookref07_Same.ldi h_ hp12) (fun _ _ _ _ _ _ h_ => roadbookref07_Same.ldi h_ hq12) (fun _ _ _ _ _ _ _ _ h_ h2_ => roadbookref07_Same.nei h_ h2_) ?_
     intro a1_ hst_
     refine Pre.row_next (n := 93) (A1 := .pointer (some ⟨aE, 0, none⟩)) (A2 := .pointer (some ⟨bC, 0, none⟩)) (B1 := .pointer (some ⟨aE, 13, none⟩)) (B2 := .pointer (some ⟨bC, 13, none⟩)) (X1 := .int .i64 aj) (X2 := .int .i64 ci) (e := aj != ci) rfl hst_ Z21 Z21 Z21 Z21 Z21 (fun _ _ _ _ _ _ h_ => roadbookref07_Same.fa13 h_) (fun _ _ _ _ _ _ h_ => roadbookref07_Same.fa13 h_) (fun _ _ _ _ _ _ h_ => roadbookref07_Same.ldi h_ hp13) (fun _ _ _ _ _ _ h_ => roadbookref07_Same.ldi h_ hq13) (fun _ _ _ _ _ _ _ _ h_ h2_ => roadbookref07_Same.nei h_ h2_) ?_
     intro a2_ hst_
     refine Pre.row_next (n := 100) (A1 := .pointer (some ⟨aE, 0, none⟩)) (A2 := .pointer (some ⟨bC, 0, none⟩)) (B1 := .pointer (some ⟨aE, 14, none⟩)) (B2 := .pointer (some ⟨bC, 14, none⟩)) (X1 := .int .i64 ak) (X2 := .int .i64 cj) (e := ak != cj) rfl hst_ Z21 Z21 Z21 Z21 Z21 (fun _ _ _ _ _ _ h_ => roadbookref07_Same.fa14 h_) (fun _ _ _ _ _ _ h_ => roadbookref07_Same.fa14 h_) (fun _ _ _ _ _ _ h_ => roadbookref07_Same.ldi h_ hp14) (fun _ _ _ _ _ _ h_ => roadbookref07_Same.ldi h_ hq14) (fun _ _ _ _ _ _ _ _ h_ h2_ => roadbookref07_Same.nei h_ h2_) ?_
     intro a3_ hst_
     refine Pre.row_next (n := 107) (A1 := .pointer (some ⟨aE, 0, none⟩)) (A2 := .pointer (some ⟨bC, 0, none⟩)) (B1 := .pointer (some ⟨aE, 15, none⟩)) (B2 := .pointer (some ⟨bC, 15, none⟩)) (X1 := .int .i64 ae) (X2 := .int .i64 ck) (e := ae != ck) rfl hst_ Z21 Z21 Z21 Z21 Z21 (fun _ _ _ _ _ _ h_ => roadbookref07_Same.fa15 h_) (fun _ _ _ _ _ _ h_ => roadbookref07_Same.fa15 h_) (fun _ _ _ _ _ _ h_ => roadbookref07_Same.ldi h_ hp15) (fun _ _ _ _ _ _ h_ => roadbookref07_Same.ldi h_ hq15) (fun _ _ _ _ _ _ _ _ h_ h2_ => roadbookref07_Same.nei h_ h2_) ?_
     intro a4_ hst_
     refine Pre.row_next (n := 114) (A1 := .pointer (some ⟨aE, 0, none⟩)) (A2 := .pointer (some ⟨bC, 0, none⟩)) (B1 := .pointer (some ⟨aE, 16, none⟩)) (B2 := .pointer (some ⟨bC, 16, none⟩)) (X1 := .int .i64 ag) (X2 := .int .i64 cl) (e := ag != cl) rfl hst_ Z21 Z21 Z21 Z21 Z21 (fun _ _ _ _ _ _ h_ => roadbookref07_Same.fa16 h_) (fun _ _ _ _ _ _ h_ => roadbookref07_Same.fa16 h_) (fun _ _ _ _ _ _ h_ => roadbookref07_Same.ldi h_ hp16) (fun _ _ _ _ _ _ h_ => roadbookref07_Same.ldi h_ hq16) (fun _ _ _ _ _ _ _ _ h_ h2_ => roadbookref07_Same.nei h_ h2_) ?_
     intro a5_ hst_
     refine Pre.row_next (n := 121) (A1 := .pointer (some ⟨aE, 0, none⟩)) (A2 := .pointer (some ⟨bC, 0, none⟩)) (B1 := .pointer (some ⟨aE, 17, none⟩)) (B2 := .pointer (some ⟨bC, 17, none⟩)) (X1 := .int .i64 ai) (X2 := .int .i64 cm) (e := ai != cm) rfl hst_ Z21 Z21 Z21 Z21 Z21 (fun _ _ _ _ _ _ h_ => roadbookref07_Same.fa17 h_) (fun _ _ _ _ _ _ h_ => roadbookref07_Same.fa17 h_) (fun _ _ _ _ _ _ h_ => roadbookref07_Same.ldi h_ hp17) (fun _ _ _ _ _ _ h_ => roadbookref07_Same.ldi h_ hq17) (fun _ _ _ _ _ _ _ _ h_ h2_ => roadbookref07_Same.nei h_ h2_) ?_
     intro a6_ hst_
     refine Pre.row_next (n := 128) (A1 := .pointer (some ⟨aE, 0, none⟩)) (A2 := .pointer (some ⟨bC, 0, none⟩)) (B1 := .pointer (some ⟨aE, 18, none⟩)) (B2 := .pointer (some ⟨bC, 18, none⟩)) (X1 := .int .i64 an) (X2 := .int .i64 cn) (e := an != cn) rfl hst_ Z21 Z21 Z21 Z21 Z21 (fun _ _ _ _ _ _ h_ => roadbookref07_Same.fa18 h_) (fun _ _ _ _ _ _ h_ => roadbookref07_Same.fa18 h_) (fun _ _ _ _ _ _ h_ => roadbookref07_Same.ldi h_ hp18) (fun _ _ _ _ _ _ h_ => roadbookref07_Same.ldi h_ hq18) (fun _ _ _ _ _ _ _ _ h_ h2_ => roadbookref07_Same.nei h_ h2_) ?_
     intro a7_ hst_
     refine Pre.row_next (n := 135) (A1 := .pointer (some ⟨aE, 0, none⟩)) (A2 := .pointer (some ⟨bC, 0, none⟩)) (B1 := .pointer (some ⟨aE, 19, none⟩)) (B2 := .pointer (some ⟨bC, 19, none⟩)) (X1 := .string aa) (X2 := .string co) (e := aa.toList != co.toList) rfl hst_ Z21 Z21 Z21 Z21 Z21 (fun _ _ _ _ _ _ h_ => roadbookref07_Same.fa19 h_) (fun _ _ _ _ _ _ h_ => roadbookref07_Same.fa19 h_) (fun _ _ _ _ _ _ h_ => roadbookref07_Same.lds h_ hp19) (fun _ _ _ _ _ _ h_ => roadbookref07_Same.lds h_ hq19) (fun _ _ _ _ _ _ _ _ h_ h2_ => roadbookref07_Same.nes h_ h2_) ?_
     intro a8_ hst_
     refine Pre.row_next (n := 142) (A1 := .pointer (some ⟨aE, 0, none⟩)) (A2 := .pointer (some ⟨bC, 0, none⟩)) (B1 := .pointer (some ⟨aE, 20, none⟩)) (B2 := .pointer (some ⟨bC, 20, none⟩)) (X1 := .string ab) (X2 := .string cp) (e := ab.toList != cp.toList) rfl hst_ Z21 Z21 Z21 Z21 Z21 (fun _ _ _ _ _ _ h_ => roadbookref07_Same.fa20 h_) (fun _ _ _ _ _ _ h_ => roadbookref07_Same.fa20 h_) (fun _ _ _ _ _ _ h_ => roadbookref07_Same.lds h_ hp20) (fun _ _ _ _ _ _ h_ => roadbookref07_Same.lds h_ hq20) (fun _ _ _ _ _ _ _ _ h_ h2_ => roadbookref07_Same.nes h_ h2_) ?_
     intro a9_ hst_
     refine Pre.row_next (n := 149) (A1 := .pointer (some ⟨aE, 0, none⟩)) (A2 := .pointer (some ⟨bC, 0, none⟩)) (B1 := .pointer (some ⟨aE, 22, none⟩)) (B2 := .pointer (some ⟨bC, 22, none⟩)) (X1 := .int .i64 ap) (X2 := .int .i64 cr) (e := ap != cr) rfl hst_ Z21 Z21 Z21 Z21 Z21 (fun _ _ _ _ _ _ h_ => roadbookref07_Same.fa22 h_) (fun _ _ _ _ _ _ h_ => roadbookref07_Same.fa22 h_) (fun _ _ _ _ _ _ h_ => roadbookref07_Same.ldi h_ hp22) (fun _ _ _ _ _ _ h_ => roadbookref07_Same.ldi h_ hq22) (fun _ _ _ _ _ _ _ _ h_ h2_ => roadbookref07_Same.nei h_ h2_) ?_
     intro a10_ hst_
     refine Pre.row_last (n := 156) (A1 := .pointer (some ⟨aE, 0, none⟩)) (A2 := .pointer (some ⟨bC, 0, none⟩)) (B1 := .pointer (some ⟨aE, 23, none⟩)) (B2 := .pointer (some ⟨bC, 23, none⟩)) (X1 := .string aq) (X2 := .string cx) (e := aq.toList != cx.toList) rfl hst_ Z21 Z21 Z21 Z21 Z21 (fun _ _ _ _ _ _ h_ => roadbookref07_Same.fa23 h_) (fun _ _ _ _ _ _ h_ => roadbookref07_Same.fa23 h_) (fun _ _ _ _ _ _ h_ => roadbookref07_Same.lds h_ hp23) (fun _ _ _ _ _ _ h_ => roadbookref07_Same.lds h_ hq23) (fun _ _ _ _ _ _ _ _ h_ h2_ => roadbookref07_Same.nes h_ h2_) ?_
     intro a11_ hst_
     refine wpList_nil ?_
     have e_ := Pre.act_lit hst_.size hst_.defers
     have e2_ : a11_ = ⟨#[a11_.eval (.tmp 0), a11_.eval (.tmp 1), a11_.eval (.tmp 2), a11_.eval (.tmp 3), a11_.eval (.tmp 4), a11_.eval (.tmp 5), a11_.eval (.tmp 6), a11_.eval (.tmp 7), a11_.eval (.tmp 8), a11_.eval (.tmp 9), a11_.eval (.tmp 10), a11_.eval (.tmp 11), a11_.eval (.tmp 12), a11_.eval (.tmp 13), a11_.eval (.tmp 14), a11_.eval (.tmp 15), a11_.eval (.tmp 16), a11_.eval (.tmp 17), a11_.eval (.tmp 18), a11_.eval (.tmp 19), a11_.eval (.tmp 20), a11_.eval (.tmp 21), a11_.eval (.tmp 22), a11_.eval (.tmp 23), a11_.eval (.tmp 24), a11_.eval (.tmp 25), a11_.eval (.tmp 26), a11_.eval (.tmp 27), a11_.eval (.tmp 28), a11_.eval (.tmp 29), a11_.eval (.tmp 30), a11_.eval (.tmp 31), a11_.eval (.tmp 32), a11_.eval (.tmp 33), a11_.eval (.tmp 34), a11_.eval (.tmp 35), a11_.eval (.tmp 36), a11_.eval (.tmp 37), a11_.eval (.tmp 38), a11_.eval (.tmp 39), a11_.eval (.tmp 40), a11_.eval (.tmp 41), a11_.eval (.tmp 42), a11_.eval (.tmp 43), a11_.eval (.tmp 44), a11_.eval (.tmp 45), a11_.eval (.tmp 46), a11_.eval (.tmp 47), a11_.eval (.tmp 48), a11_.eval (.tmp 49), a11_.eval (.tmp 50), a11_.eval (.tmp 51), a11_.eval (.tmp 52), a11_.eval (.tmp 53), a11_.eval (.tmp 54), a11_.eval (.tmp 55), a11_.eval (.tmp 56), a11_.eval (.tmp 57), a11_.eval (.tmp 58), a11_.eval (.tmp 59), a11_.eval (.tmp 60), a11_.eval (.tmp 61), a11_.eval (.tmp 62), a11_.eval (.tmp 63), a11_.eval (.tmp 64), a11_.eval (.tmp 65), a11_.eval (.tmp 66), a11_.eval (.tmp 67), a11_.eval (.tmp 68), a11_.eval (.tmp 69), a11_.eval (.tmp 70), a11_.eval (.tmp 71), a11_.eval (.tmp 72), a11_.eval (.tmp 73), a11_.eval (.tmp 74), a11_.eval (.tmp 75), a11_.eval (.tmp 76), a11_.eval (.tmp 77), a11_.eval (.tmp 78), a11_.eval (.tmp 79), a11_.eval (.tmp 80), a11_.eval (.tmp 81), a11_.eval (.tmp 82), a11_.eval (.tmp 83), a11_.eval (.tmp 84), a11_.eval (.tmp 85), a11_.eval (.tmp 86), a11_.eval (.tmp 87), a11_.eval (.tmp 88), a11_.eval (.tmp 89), a11_.eval (.tmp 90), a11_.eval (.tmp 91), a11_.eval (.tmp 92), a11_.eval (.tmp 93), a11_.eval (.tmp 94), a11_.eval (.tmp 95), a11_.eval (.tmp 96), a11_.eval (.tmp 97), a11_.eval (.tmp 98), a11_.eval (.tmp 99), a11_.eval (.tmp 100), a11_.eval (.tmp 101), a11_.eval (.tmp 102), a11_.eval (.tmp 103), a11_.eval (.tmp 104), a11_.eval (.tmp 105), a11_.eval (.tmp 106), a11_.eval (.tmp 107), a11_.eval (.tmp 108), a11_.eval (.tmp 109), a11_.eval (.tmp 110), a11_.eval (.tmp 111), a11_.eval (.tmp 112), a11_.eval (.tmp 113), a11_.eval (.tmp 114), a11_.eval (.tmp 115), a11_.eval (.tmp 116), a11_.eval (.tmp 117), a11_.eval (.tmp 118), a11_.eval (.tmp 119), a11_.eval (.tmp 120), a11_.eval (.tmp 121), a11_.eval (.tmp 122), a11_.eval (.tmp 123), a11_.eval (.tmp 124), a11_.eval (.tmp 125), a11_.eval (.tmp 126), a11_.eval (.tmp 127), a11_.eval (.tmp 128), a11_.eval (.tmp 129), a11_.eval (.tmp 130), a11_.eval (.tmp 131), a11_.eval (.tmp 132), a11_.eval (.tmp 133), a11_.eval (.tmp 134), a11_.eval (.tmp 135), a11_.eval (.tmp 136), a11_.eval (.tmp 137), a11_.eval (.tmp 138), a11_.eval (.tmp 139), a11_.eval (.tmp 140), a11_.eval (.tmp 141), a11_.eval (.tmp 142), a11_.eval (.tmp 143), a11_.eval (.tmp 144), a11_.eval (.tmp 145), a11_.eval (.tmp 146), a11_.eval (.tmp 147), a11_.eval (.tmp 148), a11_.eval (.tmp 149), a11_.eval (.tmp 150), a11_.eval (.tmp 151), a11_.eval (.tmp 152), a11_.eval (.tmp 153), a11_.eval (.tmp 154), a11_.eval (.tmp 155), a11_.eval (.tmp 156), a11_.eval (.tmp 157), a11_.eval (.tmp 158), a11_.eval (.tmp 159), a11_.eval (.tmp 160), a11_.eval (.tmp 161), a11_.eval (.tmp 162), a11_.eval (.tmp 163), a11_.eval (.tmp 164), a11_.eval (.tmp 165), a11_.eval (.tmp 166), a11_.eval (.tmp 167), a11_.eval (.tmp 168), a11_.eval (.tmp 169), a11_.eval (.tmp 170), a11_.eval (.tmp 171), a11_.eval (.tmp 172), a11_.eval (.tmp 173)], []⟩ := e_.trans rfl
     clear e_
     have k0_ := hst_.kept 0 Z21
     have k1_ := hst_.kept 1 Z21
     have k2_ := hst_.kept 2 Z21
     have k3_ := hst_.kept 3 Z21
     have k4_ := hst_.kept 4 Z21
     rw [k0_, k1_, k2_, k3_, k4_] at e2_
     exact hK_ _ _ (hJ_ _ _ ⟨a11_.eval (.tmp 5), a11_.eval (.tmp 6), a11_.eval (.tmp 7), a11_.eval (.tmp 8), a11_.eval (.tmp 9), a11_.eval (.tmp 10), a11_.eval (.tmp 11), a11_.eval (.tmp 12), a11_.eval (.tmp 13), a11_.eval (.tmp 14), a11_.eval (.tmp 15), a11_.eval (.tmp 16), a11_.eval (.tmp 17), a11_.eval (.tmp 18), a11_.eval (.tmp 19), a11_.eval (.tmp 20), a11_.eval (.tmp 21), a11_.eval (.tmp 22), a11_.eval (.tmp 23), a11_.eval (.tmp 24), a11_.eval (.tmp 25), a11_.eval (.tmp 26), a11_.eval (.tmp 27), a11_.eval (.tmp 28), a11_.eval (.tmp 29), a11_.eval (.tmp 30), a11_.eval (.tmp 31), a11_.eval (.tmp 32), a11_.eval (.tmp 33), a11_.eval (.tmp 34), a11_.eval (.tmp 35), a11_.eval (.tmp 36), a11_.eval (.tmp 37), a11_.eval (.tmp 38), a11_.eval (.tmp 39), a11_.eval (.tmp 40), a11_.eval (.tmp 41), a11_.eval (.tmp 42), a11_.eval (.tmp 43), a11_.eval (.tmp 44), a11_.eval (.tmp 45), a11_.eval (.tmp 46), a11_.eval (.tmp 47), a11_.eval (.tmp 48), a11_.eval (.tmp 49), a11_.eval (.tmp 50), a11_.eval (.tmp 51), a11_.eval (.tmp 52), a11_.eval (.tmp 53), a11_.eval (.tmp 54), a11_.eval (.tmp 55), a11_.eval (.tmp 56), a11_.eval (.tmp 57), a11_.eval (.tmp 58), a11_.eval (.tmp 59), a11_.eval (.tmp 60), a11_.eval (.tmp 61), a11_.eval (.tmp 62), a11_.eval (.tmp 63), a11_.eval (.tmp 64), a11_.eval (.tmp 65), a11_.eval (.tmp 66), a11_.eval (.tmp 67), a11_.eval (.tmp 68), a11_.eval (.tmp 69), a11_.eval (.tmp 70), a11_.eval (.tmp 71), a11_.eval (.tmp 72), a11_.eval (.tmp 73), a11_.eval (.tmp 74), a11_.eval (.tmp 75), a11_.eval (.tmp 76), a11_.eval (.tmp 77), a11_.eval (.tmp 78), a11_.eval (.tmp 79), a11_.eval (.tmp 80), a11_.eval (.tmp 81), a11_.eval (.tmp 82), a11_.eval (.tmp 83), a11_.eval (.tmp 84), a11_.eval (.tmp 85), a11_.eval (.tmp 86), a11_.eval (.tmp 87), a11_.eval (.tmp 88), a11_.eval (.tmp 89), a11_.eval (.tmp 90), a11_.eval (.tmp 91), a11_.eval (.tmp 92), a11_.eval (.tmp 93), a11_.eval (.tmp 94), a11_.eval (.tmp 95), a11_.eval (.tmp 96), a11_.eval (.tmp 97), a11_.eval (.tmp 98), a11_.eval (.tmp 99), a11_.eval (.tmp 100), a11_.eval (.tmp 101), a11_.eval (.tmp 102), a11_.eval (.tmp 103), a11_.eval (.tmp 104), a11_.eval (.tmp 105), a11_.eval (.tmp 106), a11_.eval (.tmp 107), a11_.eval (.tmp 108), a11_.eval (.tmp 109), a11_.eval (.tmp 110), a11_.eval (.tmp 111), a11_.eval (.tmp 112), a11_.eval (.tmp 113), a11_.eval (.tmp 114), a11_.eval (.tmp 115), a11_.eval (.tmp 116), a11_.eval (.tmp 117), a11_.eval (.tmp 118), a11_.eval (.tmp 119), a11_.eval (.tmp 120), a11_.eval (.tmp 121), a11_.eval (.tmp 122), a11_.eval (.tmp 123), a11_.eval (.tmp 124), a11_.eval (.tmp 125), a11_.eval (.tmp 126), a11_.eval (.tmp 127), a11_.eval (.tmp 128), a11_.eval (.tmp 129), a11_.eval (.tmp 130), a11_.eval (.tmp 131), a11_.eval (.tmp 132), a11_.eval (.tmp 133), a11_.eval (.tmp 134), a11_.eval (.tmp 135), a11_.eval (.tmp 136), a11_.eval (.tmp 137), a11_.eval (.tmp 138), a11_.eval (.tmp 139), a11_.eval (.tmp 140), a11_.eval (.tmp 141), a11_.eval (.tmp 142), a11_.eval (.tmp 143), a11_.eval (.tmp 144), a11_.eval (.tmp 145), a11_.eval (.tmp 146), a11_.eval (.tmp 147), a11_.eval (.tmp 148), a11_.eval (.tmp 149), a11_.eval (.tmp 150), a11_.eval (.tmp 151), a11_.eval (.tmp 152), a11_.eval (.tmp 153), a11_.eval (.tmp 154), a11_.eval (.tmp 155), a11_.eval (.tmp 156), a11_.eval (.tmp 157), a11_.eval (.tmp 158), a11_.eval (.tmp 159), a11_.eval (.tmp 160), a11_.eval (.tmp 161), a11_.eval (.tmp 162), a11_.eval (.tmp 163), a11_.eval (.tmp 164), a11_.eval (.tmp 165), a11_.eval (.tmp 166), a11_.eval (.tmp 167), a11_.eval (.tmp 168), a11_.eval (.tmp 169), a11_.eval (.tmp 170), a11_.eval (.tmp 171), a11_.eval (.tmp 172), a11_.eval (.tmp 173), ⟨kj2, ((((((((((((am.toList != cg.toList) || (ah != ch)) || (aj != ci)) || (ak != cj)) || (ae != ck)) || (ag != cl)) || (ai != cm)) || (an != cn)) || (aa.toList != co.toList)) || (ab.toList != cp.toList)) || (ap != cr)) || (aq.toList != cx.toList)), hst_.so, ⟨HJ_⟩, ⟨Nat.le_refl _⟩, ⟨al.out⟩, ⟨cv.out⟩, ⟨HB.out⟩⟩, e2_⟩)
    case rest =>
     clear lO
     try clear c1
     try clear c2
     try clear p2
     try clear c4
     try clear c6
     try clear dW
     try clear ft
     try clear c7
     try clear dT
     try clear hu
     try clear c8
     try clear dz
     try clear c43
     try clear c46
     try clear lN
     obtain ⟨kq, gd, rfl, HA, HJ49, al, cv, HB⟩ := hcut
     cases kq with
     | zero => exact absurd HA.out (by simp [roadbookref07_Same.j1])
     | succ kj49 =>
      have H := HA.out
      clear HA
      simp only [roadbookref07_Same.j1] at H
      by_cases nn : gd = true
      ·subst nn
       replace H := Sq.itT H
       obtain rfl := Option.some.inj H
       go_wp2
       go_ret
       exact ⟨Z6, Z19⟩
      ·replace nn := Bool.eq_false_iff.mpr nn
       subst nn
       replace H := Sq.itF H
       replace H := Option.bind_eq_some_iff.mp H
       obtain ⟨aY, lP, H⟩ := H
       replace H : (if aY = true then ((roadbookref07_subs.f kj49 af cw).bind fun bg => (some bg)) else (some false)) = some r := H
       have oJ := Aside0.mk lP
       clear lP
       by_cases jQ : aY = true
       ·subst jQ
        replace H := Sq.itT H
        replace H := Option.bind_eq_some_iff.mp H
        obtain ⟨bg, kk, H⟩ := H
        replace H : (some bg) = some r := H
        have nz := Aside0.mk kk
        clear kk
        obtain rfl := Option.some.inj H
        have hnb102 := eO.out
        have hnc102 := fs.out
        obtain ⟨-, -, -, -, -, -, -, -, -, -, -, -, -, -, -, -, -, -, -, -, -, hcz103_21, -, -, hcz103_24, -, -, -, -, -, -, -, -, -, -, -, -, -, -, -, -, -, -, -, -, -, -, -, -, -⟩ := cells_25 al.out
        obtain ⟨-, -, -, -, -, -, -, -, -, -, -, -, -, -, -, -, -, -, -, -, -, hcz104_21, -, -, hcz104_24, -, -, -, -, -, -, -, -, -, -, -, -, -, -, -, -, -, -, -, -, -, -, -, -, -⟩ := cells_25 cv.out
        go_wp2_with (first | ((with_reducible refine gate_callee (f := 65) rfl ?_); refine goesL_ (some 166) rfl rfl Try.func65 Z11 rfl #[.slice aP ac.length aN, .slice gf cq.length gg] rfl Z4 ?_; (with_reducible refine (roadbookref07_dests.calls kj49 _ _ ac _ _ cq true _ ?side1 ?side2 ?side3 ?side4 oJ.out).mono ?_); (case side1 => exact Z7); (case side2 => exact aZ.out); (case side3 => exact Z59); (case side4 => exact iW.out); rintro e w' ⟨rfl, ⟨nd, rfl⟩⟩; refine ⟨_, rfl, ?_⟩) | (go_at_call 66; (with_reducible refine (roadbookref07_subs.calls kj49 _ _ af _ _ cw bg _ ?side1 ?side2 ?side3 ?side4 nz.out).mono ?_); (case side1 => exact (by repeat (first | exact (Kd.C_below bZ.out Z19) | (with_reducible refine Kd.C_alloc ?_ _) | (with_reducible refine Kd.C_drewN ?_ _) | (with_reducible refine Kd.C_drew ?_)))); (case side2 => exact aT.out); (case side3 => exact (by repeat (first | exact (Kd.C_below kT.out Z19) | (with_reducible refine Kd.C_alloc ?_ _) | (with_reducible refine Kd.C_drewN ?_ _) | (with_reducible refine Kd.C_drew ?_)))); (case side4 => exact kU.out); rintro e w' ⟨rfl, ⟨nd, rfl⟩⟩))
        go_ret
        exact ⟨Z6, Z19⟩
       ·replace jQ := Bool.eq_false_iff.mpr jQ
        subst jQ
        replace H := Sq.itF H
        obtain rfl := Option.some.inj H
        have hnb105 := eO.out
        have hnc105 := fs.out
        obtain ⟨-, -, -, -, -, -, -, -, -, -, -, -, -, -, -, -, -, -, -, -, -, hcz106_21, -, -, hcz106_24, -, -, -, -, -, -, -, -, -, -, -, -, -, -, -, -, -, -, -, -, -, -, -, -, -⟩ := cells_25 al.out
        obtain ⟨-, -, -, -, -, -, -, -, -, -, -, -, -, -, -, -, -, -, -, -, -, hcz107_21, -, -, hcz107_24, -, -, -, -, -, -, -, -, -, -, -, -, -, -, -, -, -, -, -, -, -, -, -, -, -⟩ := cells_25 cv.out
        go_wp2_with (first | ((with_reducible refine gate_callee (f := 65) rfl ?_); refine goesL_ (some 166) rfl rfl Try.func65 Z11 rfl #[.slice aP ac.length aN, .slice gf cq.length gg] rfl Z4 ?_; (with_reducible refine (roadbookref07_dests.calls kj49 _ _ ac _ _ cq false _ ?side1 ?side2 ?side3 ?side4 oJ.out).mono ?_); (case side1 => exact Z7); (case side2 => exact aZ.out); (case side3 => exact Z59); (case side4 => exact iW.out); rintro e w' ⟨rfl, ⟨nd, rfl⟩⟩; refine ⟨_, rfl, ?_⟩))
        go_ret
        exact ⟨Z6, Z19⟩

end Go.Proofs.Ytccjakjjaemmkaa.PAE
