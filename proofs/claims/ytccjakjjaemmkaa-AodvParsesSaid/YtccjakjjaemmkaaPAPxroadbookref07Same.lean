-- Written by mp.py, a program of this work (wip/tools), out of the translation; Lean checks it.
import Derived.Test.YtccjakjjaemmkaaPAPxZ
import Derived.Test.YtccjakjjaemmkaaPAPxroadbookref07
import Derived.Test.YtccjakjjaemmkaaOr
namespace Go.Proofs.Ytccjakjjaemmkaa.PAP
open Go.RowKit Go.Proofs.YtccjakjjaemmkaaW.PrintWords Go.Proofs.YtccjakjjaemmkaaW.PrintLast Go.Proofs.YtccjakjjaemmkaaW.PrintMore
attribute [local go_sem] max2_int min2_int max_two min_two max_three min_three max_four min_four   -- for this text's walks alone
set_option linter.unusedVariables false
set_option linter.unusedSimpArgs false

/-! ### roadbookref07_Same: function 24 -/
mutual
def roadbookref07_Same.j0 : Nat → Bool → Int → Int → Int → ByteArray → Int → Int → ByteArray → Int → Int → ByteArray → Int → ByteArray → Int → Int → Int → Int → Int → Int → Int → ByteArray → ByteArray → List (S46) → Int → ByteArray → List (S48) → Int → Int → Int → ByteArray → Int → Int → ByteArray → Int → Int → ByteArray → Int → ByteArray → Int → Int → Int → Int → Int → Int → Int → ByteArray → ByteArray → List (S46) → Int → ByteArray → List (S48) → Option (Bool)
 | 0, _, _, _, _, _, _, _, _, _, _, _, _, _, _, _, _, _, _, _, _, _, _, _, _, _, _, _, _, _, _, _, _, _, _, _, _, _, _, _, _, _, _, _, _, _, _, _, _, _, _, _ => none
 | k + 1, uQ, cc, ct, cu, cv, cw, cx, cy, cd, cz, cA, cB, cl, bU, ce, cf, bV, bW, cg, cm, ch, ci, bX, cn, co, bQ, dx, dy, dz, dA, dB, dC, dD, dE, dF, dG, dH, di, dj, dk, dl, dm, dn, dp, dq, dr, dt, cV, du, dv, ev => if uQ = true then (some false) else (if cl.toList = di.toList then (if bU = dj then (if ce = dk then (if cf = dl then (if bV = dm then (if bW = dn then (if cg = dp then (if cm = dq then (if ch.toList = dr.toList then (if ci.toList = dt.toList then (if cn = du then (roadbookref07_Same.j1 k (co.toList != dv.toList) cc ct cu cv cw cx cy cd cz cA cB cl bU ce cf bV bW cg cm ch ci bX cn co bQ dx dy dz dA dB dC dD dE dF dG dH di dj dk dl dm dn dp dq dr dt cV du dv ev) else (roadbookref07_Same.j1 k true cc ct cu cv cw cx cy cd cz cA cB cl bU ce cf bV bW cg cm ch ci bX cn co bQ dx dy dz dA dB dC dD dE dF dG dH di dj dk dl dm dn dp dq dr dt cV du dv ev)) else (roadbookref07_Same.j1 k true cc ct cu cv cw cx cy cd cz cA cB cl bU ce cf bV bW cg cm ch ci bX cn co bQ dx dy dz dA dB dC dD dE dF dG dH di dj dk dl dm dn dp dq dr dt cV du dv ev)) else (roadbookref07_Same.j1 k true cc ct cu cv cw cx cy cd cz cA cB cl bU ce cf bV bW cg cm ch ci bX cn co bQ dx dy dz dA dB dC dD dE dF dG dH di dj dk dl dm dn dp dq dr dt cV du dv ev)) else (roadbookref07_Same.j1 k true cc ct cu cv cw cx cy cd cz cA cB cl bU ce cf bV bW cg cm ch ci bX cn co bQ dx dy dz dA dB dC dD dE dF dG dH di dj dk dl dm dn dp dq dr dt cV du dv ev)) else (roadbookref07_Same.j1 k true cc ct cu cv cw cx cy cd cz cA cB cl bU ce cf bV bW cg cm ch ci bX cn co bQ dx dy dz dA dB dC dD dE dF dG dH di dj dk dl dm dn dp dq dr dt cV du dv ev)) else (roadbookref07_Same.j1 k true cc ct cu cv cw cx cy cd cz cA cB cl bU ce cf bV bW cg cm ch ci bX cn co bQ dx dy dz dA dB dC dD dE dF dG dH di dj dk dl dm dn dp dq dr dt cV du dv ev)) else (roadbookref07_Same.j1 k true cc ct cu cv cw cx cy cd cz cA cB cl bU ce cf bV bW cg cm ch ci bX cn co bQ dx dy dz dA dB dC dD dE dF dG dH di dj dk dl dm dn dp dq dr dt cV du dv ev)) else (roadbookref07_Same.j1 k true cc ct cu cv cw cx cy cd cz cA cB cl bU ce cf bV bW cg cm ch ci bX cn co bQ dx dy dz dA dB dC dD dE dF dG dH di dj dk dl dm dn dp dq dr dt cV du dv ev)) else (roadbookref07_Same.j1 k true cc ct cu cv cw cx cy cd cz cA cB cl bU ce cf bV bW cg cm ch ci bX cn co bQ dx dy dz dA dB dC dD dE dF dG dH di dj dk dl dm dn dp dq dr dt cV du dv ev)) else (roadbookref07_Same.j1 k true cc ct cu cv cw cx cy cd cz cA cB cl bU ce cf bV bW cg cm ch ci bX cn co bQ dx dy dz dA dB dC dD dE dF dG dH di dj dk dl dm dn dp dq dr dt cV du dv ev)) else (roadbookref07_Same.j1 k true cc ct cu cv cw cx cy cd cz cA cB cl bU ce cf bV bW cg cm ch ci bX cn co bQ dx dy dz dA dB dC dD dE dF dG dH di dj dk dl dm dn dp dq dr dt cV du dv ev))
def roadbookref07_Same.j1 : Nat → Bool → Int → Int → Int → ByteArray → Int → Int → ByteArray → Int → Int → ByteArray → Int → ByteArray → Int → Int → Int → Int → Int → Int → Int → ByteArray → ByteArray → List (S46) → Int → ByteArray → List (S48) → Int → Int → Int → ByteArray → Int → Int → ByteArray → Int → Int → ByteArray → Int → ByteArray → Int → Int → Int → Int → Int → Int → Int → ByteArray → ByteArray → List (S46) → Int → ByteArray → List (S48) → Option (Bool)
 | 0, _, _, _, _, _, _, _, _, _, _, _, _, _, _, _, _, _, _, _, _, _, _, _, _, _, _, _, _, _, _, _, _, _, _, _, _, _, _, _, _, _, _, _, _, _, _, _, _, _, _, _ => none
 | k + 1, tv, cc, ct, cu, cv, cw, cx, cy, cd, cz, cA, cB, cl, bU, ce, cf, bV, bW, cg, cm, ch, ci, bX, cn, co, bQ, dx, dy, dz, dA, dB, dC, dD, dE, dF, dG, dH, di, dj, dk, dl, dm, dn, dp, dq, dr, dt, cV, du, dv, ev => if tv = true then (some false) else ((roadbookref07_dests.f k bX cV).bind fun aX => (if aX = true then ((roadbookref07_subs.f k bQ ev).bind fun aV => (some aV)) else (some false)))
end
def roadbookref07_Same.f (k : Nat) (ax : Int) (av : Int) (aw : Int) (ay : ByteArray) (aA : Int) (aH : Int) (aI : ByteArray) (aC : Int) (aD : Int) (aG : ByteArray) (au : Int) (ar : ByteArray) (ak : Int) (aj : Int) (ap : Int) (ah : Int) (ai : Int) (al : Int) (an : Int) (ac : ByteArray) (af : ByteArray) (ae : List (S46)) (ao : Int) (aq : ByteArray) (am : List (S48)) (dZ : Int) (ea : Int) (eb : Int) (ec : ByteArray) (ed : Int) (ee : Int) (ef : ByteArray) (eg : Int) (eh : Int) (ei : ByteArray) (cU : Int) (cI : ByteArray) (cJ : Int) (cK : Int) (cL : Int) (cM : Int) (cN : Int) (cO : Int) (cP : Int) (cQ : ByteArray) (cR : ByteArray) (cS : List (S46)) (cT : Int) (dd : ByteArray) (cY : List (S48)) : Option (Bool) := if ax = dZ then (if av = ea then (if aw = eb then (if ay.toList = ec.toList then (if aA = ed then (if aH = ee then (if aI.toList = ef.toList then (if aC = eg then (if aD = eh then (if aG.toList = ei.toList then (roadbookref07_Same.j0 k (au != cU) ax av aw ay aA aH aI aC aD aG au ar ak aj ap ah ai al an ac af ae ao aq am dZ ea eb ec ed ee ef eg eh ei cU cI cJ cK cL cM cN cO cP cQ cR cS cT dd cY) else (roadbookref07_Same.j0 k true ax av aw ay aA aH aI aC aD aG au ar ak aj ap ah ai al an ac af ae ao aq am dZ ea eb ec ed ee ef eg eh ei cU cI cJ cK cL cM cN cO cP cQ cR cS cT dd cY)) else (roadbookref07_Same.j0 k true ax av aw ay aA aH aI aC aD aG au ar ak aj ap ah ai al an ac af ae ao aq am dZ ea eb ec ed ee ef eg eh ei cU cI cJ cK cL cM cN cO cP cQ cR cS cT dd cY)) else (roadbookref07_Same.j0 k true ax av aw ay aA aH aI aC aD aG au ar ak aj ap ah ai al an ac af ae ao aq am dZ ea eb ec ed ee ef eg eh ei cU cI cJ cK cL cM cN cO cP cQ cR cS cT dd cY)) else (roadbookref07_Same.j0 k true ax av aw ay aA aH aI aC aD aG au ar ak aj ap ah ai al an ac af ae ao aq am dZ ea eb ec ed ee ef eg eh ei cU cI cJ cK cL cM cN cO cP cQ cR cS cT dd cY)) else (roadbookref07_Same.j0 k true ax av aw ay aA aH aI aC aD aG au ar ak aj ap ah ai al an ac af ae ao aq am dZ ea eb ec ed ee ef eg eh ei cU cI cJ cK cL cM cN cO cP cQ cR cS cT dd cY)) else (roadbookref07_Same.j0 k true ax av aw ay aA aH aI aC aD aG au ar ak aj ap ah ai al an ac af ae ao aq am dZ ea eb ec ed ee ef eg eh ei cU cI cJ cK cL cM cN cO cP cQ cR cS cT dd cY)) else (roadbookref07_Same.j0 k true ax av aw ay aA aH aI aC aD aG au ar ak aj ap ah ai al an ac af ae ao aq am dZ ea eb ec ed ee ef eg eh ei cU cI cJ cK cL cM cN cO cP cQ cR cS cT dd cY)) else (roadbookref07_Same.j0 k true ax av aw ay aA aH aI aC aD aG au ar ak aj ap ah ai al an ac af ae ao aq am dZ ea eb ec ed ee ef eg eh ei cU cI cJ cK cL cM cN cO cP cQ cR cS cT dd cY)) else (roadbookref07_Same.j0 k true ax av aw ay aA aH aI aC aD aG au ar ak aj ap ah ai al an ac af ae ao aq am dZ ea eb ec ed ee ef eg eh ei cU cI cJ cK cL cM cN cO cP cQ cR cS cT dd cY)) else (roadbookref07_Same.j0 k true ax av aw ay aA aH aI aC aD aG au ar ak aj ap ah ai al an ac af ae ao aq am dZ ea eb ec ed ee ef eg eh ei cU cI cJ cK cL cM cN cO cP cQ cR cS cT dd cY)
theorem roadbookref07_Same.mono_l : ∀ k, (∀ y0 y1 y2 y3 y4 y5 y6 y7 y8 y9 fG fH fI fJ fK fL fM fN fO fP fQ fR fS fT fU fV ik iW kW mU mV pE pF pG pH pI pJ pK pL pM pN pO pP pQ pR pS pT pU pV pW pX, LeO (roadbookref07_Same.j0 k y0 y1 y2 y3 y4 y5 y6 y7 y8 y9 fG fH fI fJ fK fL fM fN fO fP fQ fR fS fT fU fV ik iW kW mU mV pE pF pG pH pI pJ pK pL pM pN pO pP pQ pR pS pT pU pV pW pX) (roadbookref07_Same.j0 (k + 1) y0 y1 y2 y3 y4 y5 y6 y7 y8 y9 fG fH fI fJ fK fL fM fN fO fP fQ fR fS fT fU fV ik iW kW mU mV pE pF pG pH pI pJ pK pL pM pN pO pP pQ pR pS pT pU pV pW pX)) ∧ (∀ y0 y1 y2 y3 y4 y5 y6 y7 y8 y9 fG fH fI fJ fK fL fM fN fO fP fQ fR fS fT fU fV ik iW kW mU mV pE pF pG pH pI pJ pK pL pM pN pO pP pQ pR pS pT pU pV pW pX, LeO (roadbookref07_Same.j1 k y0 y1 y2 y3 y4 y5 y6 y7 y8 y9 fG fH fI fJ fK fL fM fN fO fP fQ fR fS fT fU fV ik iW kW mU mV pE pF pG pH pI pJ pK pL pM pN pO pP pQ pR pS pT pU pV pW pX) (roadbookref07_Same.j1 (k + 1) y0 y1 y2 y3 y4 y5 y6 y7 y8 y9 fG fH fI fJ fK fL fM fN fO fP fQ fR fS fT fU fV ik iW kW mU mV pE pF pG pH pI pJ pK pL pM pN pO pP pQ pR pS pT pU pV pW pX))
 | 0 => ⟨fun _ _ _ _ _ _ _ _ _ _ _ _ _ _ _ _ _ _ _ _ _ _ _ _ _ _ _ _ _ _ _ _ _ _ _ _ _ _ _ _ _ _ _ _ _ _ _ _ _ _ _ r h => by simp [roadbookref07_Same.j0] at h, fun _ _ _ _ _ _ _ _ _ _ _ _ _ _ _ _ _ _ _ _ _ _ _ _ _ _ _ _ _ _ _ _ _ _ _ _ _ _ _ _ _ _ _ _ _ _ _ _ _ _ _ r h => by simp [roadbookref07_Same.j1] at h⟩
 | k + 1 => by
  obtain ⟨ih0, ih1⟩ := roadbookref07_Same.mono_l k
  refine ⟨?_, ?_⟩
  ·intro y0 y1 y2 y3 y4 y5 y6 y7 y8 y9 fG fH fI fJ fK fL fM fN fO fP fQ fR fS fT fU fV ik iW kW mU mV pE pF pG pH pI pJ pK pL pM pN pO pP pQ pR pS pT pU pV pW pX
   unfold roadbookref07_Same.j0
   repeat' first
   | (with_reducible exact ih0 ..)
   | (with_reducible exact ih1 ..)
   | (with_reducible exact roadbookref07_dests.mono _ _ _)
   | (with_reducible exact roadbookref07_subs.mono _ _ _)
   | (with_reducible exact LeO.refl _)
   | (with_reducible exact LeO.none _)
   | (with_reducible refine LeO.ite ?_ ?_)
   | (with_reducible refine LeO.bind ?_ (fun _ => ?_))
   | exact ih0 ..
   | exact ih1 ..
   | exact roadbookref07_dests.mono _ _ _
   | exact roadbookref07_subs.mono _ _ _
   | exact LeO.none _
   | refine LeO.ite ?_ ?_
   | refine LeO.bind ?_ (fun _ => ?_)
  ·intro y0 y1 y2 y3 y4 y5 y6 y7 y8 y9 fG fH fI fJ fK fL fM fN fO fP fQ fR fS fT fU fV ik iW kW mU mV pE pF pG pH pI pJ pK pL pM pN pO pP pQ pR pS pT pU pV pW pX
   unfold roadbookref07_Same.j1
   repeat' first
   | (with_reducible exact ih0 ..)
   | (with_reducible exact ih1 ..)
   | (with_reducible exact roadbookref07_dests.mono _ _ _)
   | (with_reducible exact roadbookref07_subs.mono _ _ _)
   | (with_reducible exact LeO.refl _)
   | (with_reducible exact LeO.none _)
   | (with_reducible refine LeO.ite ?_ ?_)
   | (with_reducible refine LeO.bind ?_ (fun _ => ?_))
   | exact ih0 ..
   | exact ih1 ..
   | exact roadbookref07_dests.mono _ _ _
   | exact roadbookref07_subs.mono _ _ _
   | exact LeO.none _
   | refine LeO.ite ?_ ?_
   | refine LeO.bind ?_ (fun _ => ?_)
theorem roadbookref07_Same.mono : ∀ a0 a1 a2 a3 a4 a5 a6 a7 a8 a9 gY gZ ha hf hh hj hl hm ht hu hv hA hB hC hD tw tx tz tA tB tC tD tE tF tG tH tI tJ tK tL tM tN tO tP tQ tR tS tT tU tV k, LeO (roadbookref07_Same.f k a0 a1 a2 a3 a4 a5 a6 a7 a8 a9 gY gZ ha hf hh hj hl hm ht hu hv hA hB hC hD tw tx tz tA tB tC tD tE tF tG tH tI tJ tK tL tM tN tO tP tQ tR tS tT tU tV) (roadbookref07_Same.f (k + 1) a0 a1 a2 a3 a4 a5 a6 a7 a8 a9 gY gZ ha hf hh hj hl hm ht hu hv hA hB hC hD tw tx tz tA tB tC tD tE tF tG tH tI tJ tK tL tM tN tO tP tQ tR tS tT tU tV) := by
 intro a0 a1 a2 a3 a4 a5 a6 a7 a8 a9 gY gZ ha hf hh hj hl hm ht hu hv hA hB hC hD tw tx tz tA tB tC tD tE tF tG tH tI tJ tK tL tM tN tO tP tQ tR tS tT tU tV k
 obtain ⟨ih0, ih1⟩ := roadbookref07_Same.mono_l k
 unfold roadbookref07_Same.f
 repeat' first
   | (with_reducible exact ih0 ..)
   | (with_reducible exact ih1 ..)
   | (with_reducible exact roadbookref07_dests.mono _ _ _)
   | (with_reducible exact roadbookref07_subs.mono _ _ _)
   | (with_reducible exact LeO.refl _)
   | (with_reducible exact LeO.none _)
   | (with_reducible refine LeO.ite ?_ ?_)
   | (with_reducible refine LeO.bind ?_ (fun _ => ?_))
   | exact ih0 ..
   | exact ih1 ..
   | exact roadbookref07_dests.mono _ _ _
   | exact roadbookref07_subs.mono _ _ _
   | exact LeO.none _
   | refine LeO.ite ?_ ?_
   | refine LeO.bind ?_ (fun _ => ?_)
section
variable {ρ_ : Operand → Value} {x_ y_ : Operand} {w_ : World} {d_ : Option Tmp} {t_ t2_ : TypeId} {p_ : String} {g_ : Option (Nat × Bool)} {af_ : Array Edge} {gb_ f_ : Nat}
theorem roadbookref07_Same.fa0 (h : ρ_ x_ = .pointer (some ⟨gb_, 0, none⟩)) : (execOp ρ_ { dst := d_, op := .fieldAddr 25 x_ 0, type := t_, pos := p_, after := af_, guard := g_ }).run Try.prog w_ = .ok (.value (.pointer (some ⟨gb_, 0, none⟩))) w_ := by
 have hu_ := Try.underlying25
 simp only [execOp, h]
 go_simp
theorem roadbookref07_Same.fa1 (h : ρ_ x_ = .pointer (some ⟨gb_, 0, none⟩)) : (execOp ρ_ { dst := d_, op := .fieldAddr 25 x_ 1, type := t_, pos := p_, after := af_, guard := g_ }).run Try.prog w_ = .ok (.value (.pointer (some ⟨gb_, 1, none⟩))) w_ := by
 have hu_ := Try.underlying25
 simp only [execOp, h]
 go_simp
theorem roadbookref07_Same.fa2 (h : ρ_ x_ = .pointer (some ⟨gb_, 0, none⟩)) : (execOp ρ_ { dst := d_, op := .fieldAddr 25 x_ 2, type := t_, pos := p_, after := af_, guard := g_ }).run Try.prog w_ = .ok (.value (.pointer (some ⟨gb_, 2, none⟩))) w_ := by
 have hu_ := Try.underlying25
 simp only [execOp, h]
 go_simp
theorem roadbookref07_Same.fa3 (h : ρ_ x_ = .pointer (some ⟨gb_, 0, none⟩)) : (execOp ρ_ { dst := d_, op := .fieldAddr 25 x_ 3, type := t_, pos := p_, after := af_, guard := g_ }).run Try.prog w_ = .ok (.value (.pointer (some ⟨gb_, 3, none⟩))) w_ := by
 have hu_ := Try.underlying25
 simp only [execOp, h]
 go_simp
theorem roadbookref07_Same.fa4 (h : ρ_ x_ = .pointer (some ⟨gb_, 0, none⟩)) : (execOp ρ_ { dst := d_, op := .fieldAddr 25 x_ 4, type := t_, pos := p_, after := af_, guard := g_ }).run Try.prog w_ = .ok (.value (.pointer (some ⟨gb_, 4, none⟩))) w_ := by
 have hu_ := Try.underlying25
 simp only [execOp, h]
 go_simp
theorem roadbookref07_Same.fa5 (h : ρ_ x_ = .pointer (some ⟨gb_, 0, none⟩)) : (execOp ρ_ { dst := d_, op := .fieldAddr 25 x_ 5, type := t_, pos := p_, after := af_, guard := g_ }).run Try.prog w_ = .ok (.value (.pointer (some ⟨gb_, 5, none⟩))) w_ := by
 have hu_ := Try.underlying25
 simp only [execOp, h]
 go_simp
theorem roadbookref07_Same.fa6 (h : ρ_ x_ = .pointer (some ⟨gb_, 0, none⟩)) : (execOp ρ_ { dst := d_, op := .fieldAddr 25 x_ 6, type := t_, pos := p_, after := af_, guard := g_ }).run Try.prog w_ = .ok (.value (.pointer (some ⟨gb_, 6, none⟩))) w_ := by
 have hu_ := Try.underlying25
 simp only [execOp, h]
 go_simp
theorem roadbookref07_Same.fa7 (h : ρ_ x_ = .pointer (some ⟨gb_, 0, none⟩)) : (execOp ρ_ { dst := d_, op := .fieldAddr 25 x_ 7, type := t_, pos := p_, after := af_, guard := g_ }).run Try.prog w_ = .ok (.value (.pointer (some ⟨gb_, 7, none⟩))) w_ := by
 have hu_ := Try.underlying25
 simp only [execOp, h]
 go_simp
theorem roadbookref07_Same.fa8 (h : ρ_ x_ = .pointer (some ⟨gb_, 0, none⟩)) : (execOp ρ_ { dst := d_, op := .fieldAddr 25 x_ 8, type := t_, pos := p_, after := af_, guard := g_ }).run Try.prog w_ = .ok (.value (.pointer (some ⟨gb_, 8, none⟩))) w_ := by
 have hu_ := Try.underlying25
 simp only [execOp, h]
 go_simp
theorem roadbookref07_Same.fa9 (h : ρ_ x_ = .pointer (some ⟨gb_, 0, none⟩)) : (execOp ρ_ { dst := d_, op := .fieldAddr 25 x_ 9, type := t_, pos := p_, after := af_, guard := g_ }).run Try.prog w_ = .ok (.value (.pointer (some ⟨gb_, 9, none⟩))) w_ := by
 have hu_ := Try.underlying25
 simp only [execOp, h]
 go_simp
theorem roadbookref07_Same.fa10 (h : ρ_ x_ = .pointer (some ⟨gb_, 0, none⟩)) : (execOp ρ_ { dst := d_, op := .fieldAddr 25 x_ 10, type := t_, pos := p_, after := af_, guard := g_ }).run Try.prog w_ = .ok (.value (.pointer (some ⟨gb_, 10, none⟩))) w_ := by
 have hu_ := Try.underlying25
 simp only [execOp, h]
 go_simp
theorem roadbookref07_Same.fa11 (h : ρ_ x_ = .pointer (some ⟨gb_, 0, none⟩)) : (execOp ρ_ { dst := d_, op := .fieldAddr 25 x_ 11, type := t_, pos := p_, after := af_, guard := g_ }).run Try.prog w_ = .ok (.value (.pointer (some ⟨gb_, 11, none⟩))) w_ := by
 have hu_ := Try.underlying25
 simp only [execOp, h]
 go_simp
theorem roadbookref07_Same.fa12 (h : ρ_ x_ = .pointer (some ⟨gb_, 0, none⟩)) : (execOp ρ_ { dst := d_, op := .fieldAddr 25 x_ 12, type := t_, pos := p_, after := af_, guard := g_ }).run Try.prog w_ = .ok (.value (.pointer (some ⟨gb_, 12, none⟩))) w_ := by
 have hu_ := Try.underlying25
 simp only [execOp, h]
 go_simp
theorem roadbookref07_Same.fa13 (h : ρ_ x_ = .pointer (some ⟨gb_, 0, none⟩)) : (execOp ρ_ { dst := d_, op := .fieldAddr 25 x_ 13, type := t_, pos := p_, after := af_, guard := g_ }).run Try.prog w_ = .ok (.value (.pointer (some ⟨gb_, 13, none⟩))) w_ := by
 have hu_ := Try.underlying25
 simp only [execOp, h]
 go_simp
theorem roadbookref07_Same.fa14 (h : ρ_ x_ = .pointer (some ⟨gb_, 0, none⟩)) : (execOp ρ_ { dst := d_, op := .fieldAddr 25 x_ 14, type := t_, pos := p_, after := af_, guard := g_ }).run Try.prog w_ = .ok (.value (.pointer (some ⟨gb_, 14, none⟩))) w_ := by
 have hu_ := Try.underlying25
 simp only [execOp, h]
 go_simp
theorem roadbookref07_Same.fa15 (h : ρ_ x_ = .pointer (some ⟨gb_, 0, none⟩)) : (execOp ρ_ { dst := d_, op := .fieldAddr 25 x_ 15, type := t_, pos := p_, after := af_, guard := g_ }).run Try.prog w_ = .ok (.value (.pointer (some ⟨gb_, 15, none⟩))) w_ := by
 have hu_ := Try.underlying25
 simp only [execOp, h]
 go_simp
theorem roadbookref07_Same.fa16 (h : ρ_ x_ = .pointer (some ⟨gb_, 0, none⟩)) : (execOp ρ_ { dst := d_, op := .fieldAddr 25 x_ 16, type := t_, pos := p_, after := af_, guard := g_ }).run Try.prog w_ = .ok (.value (.pointer (some ⟨gb_, 16, none⟩))) w_ := by
 have hu_ := Try.underlying25
 simp only [execOp, h]
 go_simp
theorem roadbookref07_Same.fa17 (h : ρ_ x_ = .pointer (some ⟨gb_, 0, none⟩)) : (execOp ρ_ { dst := d_, op := .fieldAddr 25 x_ 17, type := t_, pos := p_, after := af_, guard := g_ }).run Try.prog w_ = .ok (.value (.pointer (some ⟨gb_, 17, none⟩))) w_ := by
 have hu_ := Try.underlying25
 simp only [execOp, h]
 go_simp
theorem roadbookref07_Same.fa18 (h : ρ_ x_ = .pointer (some ⟨gb_, 0, none⟩)) : (execOp ρ_ { dst := d_, op := .fieldAddr 25 x_ 18, type := t_, pos := p_, after := af_, guard := g_ }).run Try.prog w_ = .ok (.value (.pointer (some ⟨gb_, 18, none⟩))) w_ := by
 have hu_ := Try.underlying25
 simp only [execOp, h]
 go_simp
theorem roadbookref07_Same.fa19 (h : ρ_ x_ = .pointer (some ⟨gb_, 0, none⟩)) : (execOp ρ_ { dst := d_, op := .fieldAddr 25 x_ 19, type := t_, pos := p_, after := af_, guard := g_ }).run Try.prog w_ = .ok (.value (.pointer (some ⟨gb_, 19, none⟩))) w_ := by
 have hu_ := Try.underlying25
 simp only [execOp, h]
 go_simp
theorem roadbookref07_Same.fa20 (h : ρ_ x_ = .pointer (some ⟨gb_, 0, none⟩)) : (execOp ρ_ { dst := d_, op := .fieldAddr 25 x_ 20, type := t_, pos := p_, after := af_, guard := g_ }).run Try.prog w_ = .ok (.value (.pointer (some ⟨gb_, 20, none⟩))) w_ := by
 have hu_ := Try.underlying25
 simp only [execOp, h]
 go_simp
theorem roadbookref07_Same.fa22 (h : ρ_ x_ = .pointer (some ⟨gb_, 0, none⟩)) : (execOp ρ_ { dst := d_, op := .fieldAddr 25 x_ 22, type := t_, pos := p_, after := af_, guard := g_ }).run Try.prog w_ = .ok (.value (.pointer (some ⟨gb_, 22, none⟩))) w_ := by
 have hu_ := Try.underlying25
 simp only [execOp, h]
 go_simp
theorem roadbookref07_Same.fa23 (h : ρ_ x_ = .pointer (some ⟨gb_, 0, none⟩)) : (execOp ρ_ { dst := d_, op := .fieldAddr 25 x_ 23, type := t_, pos := p_, after := af_, guard := g_ }).run Try.prog w_ = .ok (.value (.pointer (some ⟨gb_, 23, none⟩))) w_ := by
 have hu_ := Try.underlying25
 simp only [execOp, h]
 go_simp
theorem roadbookref07_Same.ldi {v_ : Value} (h : ρ_ x_ = .pointer (some ⟨gb_, f_, none⟩)) (hc : w_.cell? ⟨gb_, f_, none⟩ = some v_) : (execOp ρ_ { dst := d_, op := .load 3 x_, type := t_, pos := p_, after := af_, guard := g_ }).run Try.prog w_ = .ok (.value v_) w_ := by
 simp only [execOp, h]
 go_simp
theorem roadbookref07_Same.lds {v_ : Value} (h : ρ_ x_ = .pointer (some ⟨gb_, f_, none⟩)) (hc : w_.cell? ⟨gb_, f_, none⟩ = some v_) : (execOp ρ_ { dst := d_, op := .load 9 x_, type := t_, pos := p_, after := af_, guard := g_ }).run Try.prog w_ = .ok (.value v_) w_ := by
 simp only [execOp, h]
 go_simp
theorem roadbookref07_Same.nei {m_ n_ : Int} (hx : ρ_ x_ = .int .i64 m_) (hy : ρ_ y_ = .int .i64 n_) : (execOp ρ_ { dst := d_, op := .binOp .neq 3 x_ y_ t2_, type := t_, pos := p_, after := af_, guard := g_ }).run Try.prog w_ = .ok (.value (.bool (m_ != n_))) w_ := by
 simp only [execOp, hx, hy]
 go_simp
theorem roadbookref07_Same.nes {m_ n_ : ByteArray} (hx : ρ_ x_ = .string m_) (hy : ρ_ y_ = .string n_) : (execOp ρ_ { dst := d_, op := .binOp .neq 9 x_ y_ t2_, type := t_, pos := p_, after := af_, guard := g_ }).run Try.prog w_ = .ok (.value (.bool (m_.toList != n_.toList))) w_ := by
 simp only [execOp, hx, hy]
 go_simp
 simp only [bne, Bool.not_not]
end
set_option maxHeartbeats 8000000 in
set_option maxRecDepth 100000 in
theorem roadbookref07_Same.calls (k : Nat) (ax : Int) (av : Int) (aw : Int) (ay : ByteArray) (aA : Int) (aH : Int) (aI : ByteArray) (aC : Int) (aD : Int) (aG : ByteArray) (au : Int) (ar : ByteArray) (ak : Int) (aj : Int) (ap : Int) (ah : Int) (ai : Int) (al : Int) (an : Int) (ac : ByteArray) (af : ByteArray) (bs : Option Addr) (bq : Nat) (ae : List (S46)) (ao : Int) (aq : ByteArray) (bn : Option Addr) (bo : Nat) (am : List (S48)) (dZ : Int) (ea : Int) (eb : Int) (ec : ByteArray) (ed : Int) (ee : Int) (ef : ByteArray) (eg : Int) (eh : Int) (ei : ByteArray) (cU : Int) (cI : ByteArray) (cJ : Int) (cK : Int) (cL : Int) (cM : Int) (cN : Int) (cO : Int) (cP : Int) (cQ : ByteArray) (cR : ByteArray) (jm : Option Addr) (jn : Nat) (cS : List (S46)) (cT : Int) (dd : ByteArray) (kM : Option Addr) (kN : Nat) (cY : List (S48)) (r : Bool) (w : World) (cD : Kd.C k46 w bs ae.length ae) (cE : ae.length ≤ bq) (cF : Kd.C k48 w bn am.length am) (cG : am.length ≤ bo) (mZ : Kd.C k46 w jm cS.length cS) (na : cS.length ≤ jn) (nb : Kd.C k48 w kM cY.length cY) (nc : cY.length ≤ kN) (h : roadbookref07_Same.f k ax av aw ay aA aH aI aC aD aG au ar ak aj ap ah ai al an ac af ae ao aq am dZ ea eb ec ed ee ef eg eh ei cU cI cJ cK cL cM cN cO cP cQ cR cS cT dd cY = some r) :
  Calls Try.prog 24 #[.agg #[.int .i64 ax, .int .i64 av, .int .i64 aw, .string ay, .int .i64 aA, .int .i64 aH, .string aI, .int .i64 aC, .int .i64 aD, .string aG, .int .i64 au, .string ar, .int .i64 ak, .int .i64 aj, .int .i64 ap, .int .i64 ah, .int .i64 ai, .int .i64 al, .int .i64 an, .string ac, .string af, .slice bs ae.length bq, .int .i64 ao, .string aq, .slice bn am.length bo], .agg #[.int .i64 dZ, .int .i64 ea, .int .i64 eb, .string ec, .int .i64 ed, .int .i64 ee, .string ef, .int .i64 eg, .int .i64 eh, .string ei, .int .i64 cU, .string cI, .int .i64 cJ, .int .i64 cK, .int .i64 cL, .int .i64 cM, .int .i64 cN, .int .i64 cO, .int .i64 cP, .string cQ, .string cR, .slice jm cS.length jn, .int .i64 cT, .string dd, .slice kM cY.length kN]] w fun e w' => e = .returned (.bool r) ∧ Below w.heap.size w w' := by
 have fn := Try.underlying25
 have eL := Aside0.mk cD
 have bG := Aside0.mk cE
 clear cD cE
 have fb := Aside0.mk cF
 have bA := Aside0.mk cG
 clear cF cG
 have pY := Aside0.mk mZ
 have nf := Aside0.mk na
 clear mZ na
 have pZ := Aside0.mk nb
 have qa := Aside0.mk nc
 clear nb nc
 have HB := Aside0.mk (Below.refl w.heap.size w)
 have H : (if ax = dZ then (if av = ea then (if aw = eb then (if ay.toList = ec.toList then (if aA = ed then (if aH = ee then (if aI.toList = ef.toList then (if aC = eg then (if aD = eh then (if aG.toList = ei.toList then (roadbookref07_Same.j0 k (au != cU) ax av aw ay aA aH aI aC aD aG au ar ak aj ap ah ai al an ac af ae ao aq am dZ ea eb ec ed ee ef eg eh ei cU cI cJ cK cL cM cN cO cP cQ cR cS cT dd cY) else (roadbookref07_Same.j0 k true ax av aw ay aA aH aI aC aD aG au ar ak aj ap ah ai al an ac af ae ao aq am dZ ea eb ec ed ee ef eg eh ei cU cI cJ cK cL cM cN cO cP cQ cR cS cT dd cY)) else (roadbookref07_Same.j0 k true ax av aw ay aA aH aI aC aD aG au ar ak aj ap ah ai al an ac af ae ao aq am dZ ea eb ec ed ee ef eg eh ei cU cI cJ cK cL cM cN cO cP cQ cR cS cT dd cY)) else (roadbookref07_Same.j0 k true ax av aw ay aA aH aI aC aD aG au ar ak aj ap ah ai al an ac af ae ao aq am dZ ea eb ec ed ee ef eg eh ei cU cI cJ cK cL cM cN cO cP cQ cR cS cT dd cY)) else (roadbookref07_Same.j0 k true ax av aw ay aA aH aI aC aD aG au ar ak aj ap ah ai al an ac af ae ao aq am dZ ea eb ec ed ee ef eg eh ei cU cI cJ cK cL cM cN cO cP cQ cR cS cT dd cY)) else (roadbookref07_Same.j0 k true ax av aw ay aA aH aI aC aD aG au ar ak aj ap ah ai al an ac af ae ao aq am dZ ea eb ec ed ee ef eg eh ei cU cI cJ cK cL cM cN cO cP cQ cR cS cT dd cY)) else (roadbookref07_Same.j0 k true ax av aw ay aA aH aI aC aD aG au ar ak aj ap ah ai al an ac af ae ao aq am dZ ea eb ec ed ee ef eg eh ei cU cI cJ cK cL cM cN cO cP cQ cR cS cT dd cY)) else (roadbookref07_Same.j0 k true ax av aw ay aA aH aI aC aD aG au ar ak aj ap ah ai al an ac af ae ao aq am dZ ea eb ec ed ee ef eg eh ei cU cI cJ cK cL cM cN cO cP cQ cR cS cT dd cY)) else (roadbookref07_Same.j0 k true ax av aw ay aA aH aI aC aD aG au ar ak aj ap ah ai al an ac af ae ao aq am dZ ea eb ec ed ee ef eg eh ei cU cI cJ cK cL cM cN cO cP cQ cR cS cT dd cY)) else (roadbookref07_Same.j0 k true ax av aw ay aA aH aI aC aD aG au ar ak aj ap ah ai al an ac af ae ao aq am dZ ea eb ec ed ee ef eg eh ei cU cI cJ cK cL cM cN cO cP cQ cR cS cT dd cY)) else (roadbookref07_Same.j0 k true ax av aw ay aA aH aI aC aD aG au ar ak aj ap ah ai al an ac af ae ao aq am dZ ea eb ec ed ee ef eg eh ei cU cI cJ cK cL cM cN cO cP cQ cR cS cT dd cY)) = some r := h
 clear h
 have gs := Aside0.mk H
 clear H
 go_enter Try.func24, Try.ntmps24
 go_upto_region 1 with (first | ((with_reducible refine gate_dst (N := 2) rfl ?_); refine Sq.box 2 #[.int .i64 ax, .int .i64 av, .int .i64 aw, .string ay, .int .i64 aA, .int .i64 aH, .string aI, .int .i64 aC, .int .i64 aD, .string aG, .int .i64 au, .string ar, .int .i64 ak, .int .i64 aj, .int .i64 ap, .int .i64 ah, .int .i64 ai, .int .i64 al, .int .i64 an, .string ac, .string af, .slice bs ae.length bq, .int .i64 ao, .string aq, .slice bn am.length bo] 25 ?_; intro ab hg w4 hbox hb; have aa := Aside0.mk (hbox); have bR := Aside0.mk (Sq.ge hg Z1); have bf := Aside0.mk (Sq.ge hg Z1); replace HB := Aside0.mk (below_step Z1 hb); clear hb hbox hg) | ((with_reducible refine gate_dst (N := 3) rfl ?_); refine Sq.box 3 #[.int .i64 dZ, .int .i64 ea, .int .i64 eb, .string ec, .int .i64 ed, .int .i64 ee, .string ef, .int .i64 eg, .int .i64 eh, .string ei, .int .i64 cU, .string cI, .int .i64 cJ, .int .i64 cK, .int .i64 cL, .int .i64 cM, .int .i64 cN, .int .i64 cO, .int .i64 cP, .string cQ, .string cR, .slice jm cS.length jn, .int .i64 cT, .string dd, .slice kM cY.length kN] 25 ?_; intro aJ hg w5 hbox hb; have aN := Aside0.mk (hbox); have fw := Aside0.mk (Sq.ge hg Z0); have eC := Aside0.mk (Sq.ge hg Z0); have aW := Aside0.mk (Sq.nl hg (blk_lt (g := ab) Z2)); have bh := Aside0.mk (Sq.ng hg (blk_lt (g := ab) Z2)); replace aa := Aside0.mk (blk_below (g := ab) Z2 hb); replace HB := Aside0.mk (below_step Z0 hb); clear hb hbox hg))
 (try simp only [Act.put, Sq.s1, Sq.s2, Sq.s3])
 go_cut [79] (fun uR wc => ∃ (kq : Nat) (lI : Bool), uR = .bool lI ∧ Aside0 (roadbookref07_Same.j0 kq lI ax av aw ay aA aH aI aC aD aG au ar ak aj ap ah ai al an ac af ae ao aq am dZ ea eb ec ed ee ef eg eh ei cU cI cJ cK cL cM cN cO cP cQ cR cS cT dd cY = some r) ∧ Aside0 (kq ≤ k) ∧ Aside0 (wc.heap[ab]? = some (.cells #[.int .i64 ax, .int .i64 av, .int .i64 aw, .string ay, .int .i64 aA, .int .i64 aH, .string aI, .int .i64 aC, .int .i64 aD, .string aG, .int .i64 au, .string ar, .int .i64 ak, .int .i64 aj, .int .i64 ap, .int .i64 ah, .int .i64 ai, .int .i64 al, .int .i64 an, .string ac, .string af, (.slice bs ae.length bq), .int .i64 ao, .string aq, (.slice bn am.length bo)] 25 (0, 0))) ∧ Aside0 (wc.heap[aJ]? = some (.cells #[.int .i64 dZ, .int .i64 ea, .int .i64 eb, .string ec, .int .i64 ed, .int .i64 ee, .string ef, .int .i64 eg, .int .i64 eh, .string ei, .int .i64 cU, .string cI, .int .i64 cJ, .int .i64 cK, .int .i64 cL, .int .i64 cM, .int .i64 cN, .int .i64 cO, .int .i64 cP, .string cQ, .string cR, (.slice jm cS.length jn), .int .i64 cT, .string dd, (.slice kM cY.length kN)] 25 (0, 0))) ∧ Aside0 (Below w.heap.size w wc))
 case first =>
  rename_i J_ K_ hJ_ hK_
  have HJ_ : roadbookref07_Same.j0 k (((((((((((ax != dZ) || (av != ea)) || (aw != eb)) || (ay.toList != ec.toList)) || (aA != ed)) || (aH != ee)) || (aI.toList != ef.toList)) || (aC != eg)) || (aD != eh)) || (aG.toList != ei.toList)) || (au != cU)) ax av aw ay aA aH aI aC aD aG au ar ak aj ap ah ai al an ac af ae ao aq am dZ ea eb ec ed ee ef eg eh ei cU cI cJ cK cL cM cN cO cP cQ cR cS cT dd cY = some r := by
   have H := gs.out
   by_cases q0 : ax = dZ
   ·rw [if_pos q0] at H
    have d0 : (ax != dZ) = false := bne_eq_false_iff_eq.mpr q0
    by_cases q1 : av = ea
    ·rw [if_pos q1] at H
     have d1 : (av != ea) = false := bne_eq_false_iff_eq.mpr q1
     by_cases q2 : aw = eb
     ·rw [if_pos q2] at H
      have d2 : (aw != eb) = false := bne_eq_false_iff_eq.mpr q2
      by_cases q3 : ay.toList = ec.toList
      ·rw [if_pos q3] at H
       have d3 : (ay.toList != ec.toList) = false := bne_eq_false_iff_eq.mpr q3
       by_cases q4 : aA = ed
       ·rw [if_pos q4] at H
        have d4 : (aA != ed) = false := bne_eq_false_iff_eq.mpr q4
        by_cases q5 : aH = ee
        ·rw [if_pos q5] at H
         have d5 : (aH != ee) = false := bne_eq_false_iff_eq.mpr q5
         by_cases q6 : aI.toList = ef.toList
         ·rw [if_pos q6] at H
          have d6 : (aI.toList != ef.toList) = false := bne_eq_false_iff_eq.mpr q6
          by_cases q7 : aC = eg
          ·rw [if_pos q7] at H
           have d7 : (aC != eg) = false := bne_eq_false_iff_eq.mpr q7
           by_cases q8 : aD = eh
           ·rw [if_pos q8] at H
            have d8 : (aD != eh) = false := bne_eq_false_iff_eq.mpr q8
            by_cases q9 : aG.toList = ei.toList
            ·rw [if_pos q9] at H
             have d9 : (aG.toList != ei.toList) = false := bne_eq_false_iff_eq.mpr q9
             rw [d0, d1, d2, d3, d4, d5, d6, d7, d8, d9]; simp only [Bool.false_or]; exact H
            ·rw [if_neg q9] at H
             have d9 : (aG.toList != ei.toList) = true := bne_iff_ne.mpr q9
             rw [d0, d1, d2, d3, d4, d5, d6, d7, d8, d9]; simp only [Bool.false_or, Bool.true_or, Bool.or_true]; exact H
           ·rw [if_neg q8] at H
            have d8 : (aD != eh) = true := bne_iff_ne.mpr q8
            rw [d0, d1, d2, d3, d4, d5, d6, d7, d8]; simp only [Bool.false_or, Bool.true_or, Bool.or_true]; exact H
          ·rw [if_neg q7] at H
           have d7 : (aC != eg) = true := bne_iff_ne.mpr q7
           rw [d0, d1, d2, d3, d4, d5, d6, d7]; simp only [Bool.false_or, Bool.true_or, Bool.or_true]; exact H
         ·rw [if_neg q6] at H
          have d6 : (aI.toList != ef.toList) = true := bne_iff_ne.mpr q6
          rw [d0, d1, d2, d3, d4, d5, d6]; simp only [Bool.false_or, Bool.true_or, Bool.or_true]; exact H
        ·rw [if_neg q5] at H
         have d5 : (aH != ee) = true := bne_iff_ne.mpr q5
         rw [d0, d1, d2, d3, d4, d5]; simp only [Bool.false_or, Bool.true_or, Bool.or_true]; exact H
       ·rw [if_neg q4] at H
        have d4 : (aA != ed) = true := bne_iff_ne.mpr q4
        rw [d0, d1, d2, d3, d4]; simp only [Bool.false_or, Bool.true_or, Bool.or_true]; exact H
      ·rw [if_neg q3] at H
       have d3 : (ay.toList != ec.toList) = true := bne_iff_ne.mpr q3
       rw [d0, d1, d2, d3]; simp only [Bool.false_or, Bool.true_or, Bool.or_true]; exact H
     ·rw [if_neg q2] at H
      have d2 : (aw != eb) = true := bne_iff_ne.mpr q2
      rw [d0, d1, d2]; simp only [Bool.false_or, Bool.true_or, Bool.or_true]; exact H
    ·rw [if_neg q1] at H
     have d1 : (av != ea) = true := bne_iff_ne.mpr q1
     rw [d0, d1]; simp only [Bool.false_or, Bool.true_or, Bool.or_true]; exact H
   ·rw [if_neg q0] at H
    have d0 : (ax != dZ) = true := bne_iff_ne.mpr q0
    rw [d0]; simp only [Bool.false_or, Bool.true_or, Bool.or_true]; exact H
  obtain ⟨hp0, hp1, hp2, hp3, hp4, hp5, hp6, hp7, hp8, hp9, hp10, -, -, -, -, -, -, -, -, -, -, -, -, -, -, -, -, -, -, -, -, -, -, -, -, -, -, -, -, -, -, -, -, -, -, -, -, -, -, -⟩ := cells_25 aa.out
  obtain ⟨hq0, hq1, hq2, hq3, hq4, hq5, hq6, hq7, hq8, hq9, hq10, -, -, -, -, -, -, -, -, -, -, -, -, -, -, -, -, -, -, -, -, -, -, -, -, -, -, -, -, -, -, -, -, -, -, -, -, -, -, -⟩ := cells_25 aN.out
  refine wp_region_lit ?_
  refine Pre.row_first (p := 2) (q := 3) (n := 5) (N := 174) (lo := 5) (A1 := .pointer (some ⟨ab, 0, none⟩)) (A2 := .pointer (some ⟨aJ, 0, none⟩)) (B1 := .pointer (some ⟨ab, 0, none⟩)) (B2 := .pointer (some ⟨aJ, 0, none⟩)) (X1 := .int .i64 ax) (X2 := .int .i64 dZ) (e := ax != dZ) rfl rfl Z27 rfl rfl Z27 Z27 Z27 (fun _ _ _ _ _ _ h_ => roadbookref07_Same.fa0 h_) (fun _ _ _ _ _ _ h_ => roadbookref07_Same.fa0 h_) (fun _ _ _ _ _ _ h_ => roadbookref07_Same.ldi h_ hp0) (fun _ _ _ _ _ _ h_ => roadbookref07_Same.ldi h_ hq0) (fun _ _ _ _ _ _ _ _ h_ h2_ => roadbookref07_Same.nei h_ h2_) ?_
  intro a0_ hst_
  refine Pre.row_next (n := 11) (A1 := .pointer (some ⟨ab, 0, none⟩)) (A2 := .pointer (some ⟨aJ, 0, none⟩)) (B1 := .pointer (some ⟨ab, 1, none⟩)) (B2 := .pointer (some ⟨aJ, 1, none⟩)) (X1 := .int .i64 av) (X2 := .int .i64 ea) (e := av != ea) rfl hst_ Z27 Z27 Z27 Z27 Z27 (fun _ _ _ _ _ _ h_ => roadbookref07_Same.fa1 h_) (fun _ _ _ _ _ _ h_ => roadbookref07_Same.fa1 h_) (fun _ _ _ _ _ _ h_ => roadbookref07_Same.ldi h_ hp1) (fun _ _ _ _ _ _ h_ => roadbookref07_Same.ldi h_ hq1) (fun _ _ _ _ _ _ _ _ h_ h2_ => roadbookref07_Same.nei h_ h2_) ?_
  intro a1_ hst_
  refine Pre.row_next (n := 18) (A1 := .pointer (some ⟨ab, 0, none⟩)) (A2 := .pointer (some ⟨aJ, 0, none⟩)) (B1 := .pointer (some ⟨ab, 2, none⟩)) (B2 := .pointer (some ⟨aJ, 2, none⟩)) (X1 := .int .i64 aw) (X2 := .int .i64 eb) (e := aw != eb) rfl hst_ Z27 Z27 Z27 Z27 Z27 (fun _ _ _ _ _ _ h_ => roadbookref07_Same.fa2 h_) (fun _ _ _ _ _ _ h_ => roadbookref07_Same.fa2 h_) (fun _ _ _ _ _ _ h_ => roadbookref07_Same.ldi h_ hp2) (fun _ _ _ _ _ _ h_ => roadbookref07_Same.ldi h_ hq2) (fun _ _ _ _ _ _ _ _ h_ h2_ => roadbookref07_Same.nei h_ h2_) ?_
  intro a2_ hst_
  refine Pre.row_next (n := 25) (A1 := .pointer (some ⟨ab, 0, none⟩)) (A2 := .pointer (some ⟨aJ, 0, none⟩)) (B1 := .pointer (some ⟨ab, 3, none⟩)) (B2 := .pointer (some ⟨aJ, 3, none⟩)) (X1 := .string ay) (X2 := .string ec) (e := ay.toList != ec.toList) rfl hst_ Z27 Z27 Z27 Z27 Z27 (fun _ _ _ _ _ _ h_ => roadbookref07_Same.fa3 h_) (fun _ _ _ _ _ _ h_ => roadbookref07_Same.fa3 h_) (fun _ _ _ _ _ _ h_ => roadbookref07_Same.lds h_ hp3) (fun _ _ _ _ _ _ h_ => roadbookref07_Same.lds h_ hq3) (fun _ _ _ _ _ _ _ _ h_ h2_ => roadbookref07_Same.nes h_ h2_) ?_
  intro a3_ hst_
  refine Pre.row_next (n := 32) (A1 := .pointer (some ⟨ab, 0, none⟩)) (A2 := .pointer (some ⟨aJ, 0, none⟩)) (B1 := .pointer (some ⟨ab, 4, none⟩)) (B2 := .pointer (some ⟨aJ, 4, none⟩)) (X1 := .int .i64 aA) (X2 := .int .i64 ed) (e := aA != ed) rfl hst_ Z27 Z27 Z27 Z27 Z27 (fun _ _ _ _ _ _ h_ => roadbookref07_Same.fa4 h_) (fun _ _ _ _ _ _ h_ => roadbookref07_Same.fa4 h_) (fun _ _ _ _ _ _ h_ => roadbookref07_Same.ldi h_ hp4) (fun _ _ _ _ _ _ h_ => roadbookref07_Same.ldi h_ hq4) (fun _ _ _ _ _ _ _ _ h_ h2_ => roadbookref07_Same.nei h_ h2_) ?_
  intro a4_ hst_
  refine Pre.row_next (n := 39) (A1 := .pointer (some ⟨ab, 0, none⟩)) (A2 := .pointer (some ⟨aJ, 0, none⟩)) (B1 := .pointer (some ⟨ab, 5, none⟩)) (B2 := .pointer (some ⟨aJ, 5, none⟩)) (X1 := .int .i64 aH) (X2 := .int .i64 ee) (e := aH != ee) rfl hst_ Z27 Z27 Z27 Z27 Z27 (fun _ _ _ _ _ _ h_ => roadbookref07_Same.fa5 h_) (fun _ _ _ _ _ _ h_ => roadbookref07_Same.fa5 h_) (fun _ _ _ _ _ _ h_ => roadbookref07_Same.ldi h_ hp5) (fun _ _ _ _ _ _ h_ => roadbookref07_Same.ldi h_ hq5) (fun _ _ _ _ _ _ _ _ h_ h2_ => roadbookref07_Same.nei h_ h2_) ?_
  intro a5_ hst_
  refine Pre.row_next (n := 46) (A1 := .pointer (some ⟨ab, 0, none⟩)) (A2 := .pointer (some ⟨aJ, 0, none⟩)) (B1 := .pointer (some ⟨ab, 6, none⟩)) (B2 := .pointer (some ⟨aJ, 6, none⟩)) (X1 := .string aI) (X2 := .string ef) (e := aI.toList != ef.toList) rfl hst_ Z27 Z27 Z27 Z27 Z27 (fun _ _ _ _ _ _ h_ => roadbookref07_Same.fa6 h_) (fun _ _ _ _ _ _ h_ => roadbookref07_Same.fa6 h_) (fun _ _ _ _ _ _ h_ => roadbookref07_Same.lds h_ hp6) (fun _ _ _ _ _ _ h_ => roadbookref07_Same.lds h_ hq6) (fun _ _ _ _ _ _ _ _ h_ h2_ => roadbookref07_Same.nes h_ h2_) ?_
  intro a6_ hst_
  refine Pre.row_next (n := 53) (A1 := .pointer (some ⟨ab, 0, none⟩)) (A2 := .pointer (some ⟨aJ, 0, none⟩)) (B1 := .pointer (some ⟨ab, 7, none⟩)) (B2 := .pointer (some ⟨aJ, 7, none⟩)) (X1 := .int .i64 aC) (X2 := .int .i64 eg) (e := aC != eg) rfl hst_ Z27 Z27 Z27 Z27 Z27 (fun _ _ _ _ _ _ h_ => roadbookref07_Same.fa7 h_) (fun _ _ _ _ _ _ h_ => roadbookref07_Same.fa7 h_) (fun _ _ _ _ _ _ h_ => roadbookref07_Same.ldi h_ hp7) (fun _ _ _ _ _ _ h_ => roadbookref07_Same.ldi h_ hq7) (fun _ _ _ _ _ _ _ _ h_ h2_ => roadbookref07_Same.nei h_ h2_) ?_
  intro a7_ hst_
  refine Pre.row_next (n := 60) (A1 := .pointer (some ⟨ab, 0, none⟩)) (A2 := .pointer (some ⟨aJ, 0, none⟩)) (B1 := .pointer (some ⟨ab, 8, none⟩)) (B2 := .pointer (some ⟨aJ, 8, none⟩)) (X1 := .int .i64 aD) (X2 := .int .i64 eh) (e := aD != eh) rfl hst_ Z27 Z27 Z27 Z27 Z27 (fun _ _ _ _ _ _ h_ => roadbookref07_Same.fa8 h_) (fun _ _ _ _ _ _ h_ => roadbookref07_Same.fa8 h_) (fun _ _ _ _ _ _ h_ => roadbookref07_Same.ldi h_ hp8) (fun _ _ _ _ _ _ h_ => roadbookref07_Same.ldi h_ hq8) (fun _ _ _ _ _ _ _ _ h_ h2_ => roadbookref07_Same.nei h_ h2_) ?_
  intro a8_ hst_
  refine Pre.row_next (n := 67) (A1 := .pointer (some ⟨ab, 0, none⟩)) (A2 := .pointer (some ⟨aJ, 0, none⟩)) (B1 := .pointer (some ⟨ab, 9, none⟩)) (B2 := .pointer (some ⟨aJ, 9, none⟩)) (X1 := .string aG) (X2 := .string ei) (e := aG.toList != ei.toList) rfl hst_ Z27 Z27 Z27 Z27 Z27 (fun _ _ _ _ _ _ h_ => roadbookref07_Same.fa9 h_) (fun _ _ _ _ _ _ h_ => roadbookref07_Same.fa9 h_) (fun _ _ _ _ _ _ h_ => roadbookref07_Same.lds h_ hp9) (fun _ _ _ _ _ _ h_ => roadbookref07_Same.lds h_ hq9) (fun _ _ _ _ _ _ _ _ h_ h2_ => roadbookref07_Same.nes h_ h2_) ?_
  intro a9_ hst_
  refine Pre.row_last (n := 74) (A1 := .pointer (some ⟨ab, 0, none⟩)) (A2 := .pointer (some ⟨aJ, 0, none⟩)) (B1 := .pointer (some ⟨ab, 10, none⟩)) (B2 := .pointer (some ⟨aJ, 10, none⟩)) (X1 := .int .i64 au) (X2 := .int .i64 cU) (e := au != cU) rfl hst_ Z27 Z27 Z27 Z27 Z27 (fun _ _ _ _ _ _ h_ => roadbookref07_Same.fa10 h_) (fun _ _ _ _ _ _ h_ => roadbookref07_Same.fa10 h_) (fun _ _ _ _ _ _ h_ => roadbookref07_Same.ldi h_ hp10) (fun _ _ _ _ _ _ h_ => roadbookref07_Same.ldi h_ hq10) (fun _ _ _ _ _ _ _ _ h_ h2_ => roadbookref07_Same.nei h_ h2_) ?_
  intro a10_ hst_
  refine wpList_nil ?_
  have e_ := Pre.act_lit hst_.size hst_.defers
  have e2_ : a10_ = ⟨#[a10_.eval (.tmp 0), a10_.eval (.tmp 1), a10_.eval (.tmp 2), a10_.eval (.tmp 3), a10_.eval (.tmp 4), a10_.eval (.tmp 5), a10_.eval (.tmp 6), a10_.eval (.tmp 7), a10_.eval (.tmp 8), a10_.eval (.tmp 9), a10_.eval (.tmp 10), a10_.eval (.tmp 11), a10_.eval (.tmp 12), a10_.eval (.tmp 13), a10_.eval (.tmp 14), a10_.eval (.tmp 15), a10_.eval (.tmp 16), a10_.eval (.tmp 17), a10_.eval (.tmp 18), a10_.eval (.tmp 19), a10_.eval (.tmp 20), a10_.eval (.tmp 21), a10_.eval (.tmp 22), a10_.eval (.tmp 23), a10_.eval (.tmp 24), a10_.eval (.tmp 25), a10_.eval (.tmp 26), a10_.eval (.tmp 27), a10_.eval (.tmp 28), a10_.eval (.tmp 29), a10_.eval (.tmp 30), a10_.eval (.tmp 31), a10_.eval (.tmp 32), a10_.eval (.tmp 33), a10_.eval (.tmp 34), a10_.eval (.tmp 35), a10_.eval (.tmp 36), a10_.eval (.tmp 37), a10_.eval (.tmp 38), a10_.eval (.tmp 39), a10_.eval (.tmp 40), a10_.eval (.tmp 41), a10_.eval (.tmp 42), a10_.eval (.tmp 43), a10_.eval (.tmp 44), a10_.eval (.tmp 45), a10_.eval (.tmp 46), a10_.eval (.tmp 47), a10_.eval (.tmp 48), a10_.eval (.tmp 49), a10_.eval (.tmp 50), a10_.eval (.tmp 51), a10_.eval (.tmp 52), a10_.eval (.tmp 53), a10_.eval (.tmp 54), a10_.eval (.tmp 55), a10_.eval (.tmp 56), a10_.eval (.tmp 57), a10_.eval (.tmp 58), a10_.eval (.tmp 59), a10_.eval (.tmp 60), a10_.eval (.tmp 61), a10_.eval (.tmp 62), a10_.eval (.tmp 63), a10_.eval (.tmp 64), a10_.eval (.tmp 65), a10_.eval (.tmp 66), a10_.eval (.tmp 67), a10_.eval (.tmp 68), a10_.eval (.tmp 69), a10_.eval (.tmp 70), a10_.eval (.tmp 71), a10_.eval (.tmp 72), a10_.eval (.tmp 73), a10_.eval (.tmp 74), a10_.eval (.tmp 75), a10_.eval (.tmp 76), a10_.eval (.tmp 77), a10_.eval (.tmp 78), a10_.eval (.tmp 79), a10_.eval (.tmp 80), a10_.eval (.tmp 81), a10_.eval (.tmp 82), a10_.eval (.tmp 83), a10_.eval (.tmp 84), a10_.eval (.tmp 85), a10_.eval (.tmp 86), a10_.eval (.tmp 87), a10_.eval (.tmp 88), a10_.eval (.tmp 89), a10_.eval (.tmp 90), a10_.eval (.tmp 91), a10_.eval (.tmp 92), a10_.eval (.tmp 93), a10_.eval (.tmp 94), a10_.eval (.tmp 95), a10_.eval (.tmp 96), a10_.eval (.tmp 97), a10_.eval (.tmp 98), a10_.eval (.tmp 99), a10_.eval (.tmp 100), a10_.eval (.tmp 101), a10_.eval (.tmp 102), a10_.eval (.tmp 103), a10_.eval (.tmp 104), a10_.eval (.tmp 105), a10_.eval (.tmp 106), a10_.eval (.tmp 107), a10_.eval (.tmp 108), a10_.eval (.tmp 109), a10_.eval (.tmp 110), a10_.eval (.tmp 111), a10_.eval (.tmp 112), a10_.eval (.tmp 113), a10_.eval (.tmp 114), a10_.eval (.tmp 115), a10_.eval (.tmp 116), a10_.eval (.tmp 117), a10_.eval (.tmp 118), a10_.eval (.tmp 119), a10_.eval (.tmp 120), a10_.eval (.tmp 121), a10_.eval (.tmp 122), a10_.eval (.tmp 123), a10_.eval (.tmp 124), a10_.eval (.tmp 125), a10_.eval (.tmp 126), a10_.eval (.tmp 127), a10_.eval (.tmp 128), a10_.eval (.tmp 129), a10_.eval (.tmp 130), a10_.eval (.tmp 131), a10_.eval (.tmp 132), a10_.eval (.tmp 133), a10_.eval (.tmp 134), a10_.eval (.tmp 135), a10_.eval (.tmp 136), a10_.eval (.tmp 137), a10_.eval (.tmp 138), a10_.eval (.tmp 139), a10_.eval (.tmp 140), a10_.eval (.tmp 141), a10_.eval (.tmp 142), a10_.eval (.tmp 143), a10_.eval (.tmp 144), a10_.eval (.tmp 145), a10_.eval (.tmp 146), a10_.eval (.tmp 147), a10_.eval (.tmp 148), a10_.eval (.tmp 149), a10_.eval (.tmp 150), a10_.eval (.tmp 151), a10_.eval (.tmp 152), a10_.eval (.tmp 153), a10_.eval (.tmp 154), a10_.eval (.tmp 155), a10_.eval (.tmp 156), a10_.eval (.tmp 157), a10_.eval (.tmp 158), a10_.eval (.tmp 159), a10_.eval (.tmp 160), a10_.eval (.tmp 161), a10_.eval (.tmp 162), a10_.eval (.tmp 163), a10_.eval (.tmp 164), a10_.eval (.tmp 165), a10_.eval (.tmp 166), a10_.eval (.tmp 167), a10_.eval (.tmp 168), a10_.eval (.tmp 169), a10_.eval (.tmp 170), a10_.eval (.tmp 171), a10_.eval (.tmp 172), a10_.eval (.tmp 173)], []⟩ := e_.trans rfl
  clear e_
  have k0_ := hst_.kept 0 Z27
  have k1_ := hst_.kept 1 Z27
  have k2_ := hst_.kept 2 Z27
  have k3_ := hst_.kept 3 Z27
  have k4_ := hst_.kept 4 Z27
  rw [k0_, k1_, k2_, k3_, k4_] at e2_
  exact hK_ _ _ (hJ_ _ _ ⟨a10_.eval (.tmp 5), a10_.eval (.tmp 6), a10_.eval (.tmp 7), a10_.eval (.tmp 8), a10_.eval (.tmp 9), a10_.eval (.tmp 10), a10_.eval (.tmp 11), a10_.eval (.tmp 12), a10_.eval (.tmp 13), a10_.eval (.tmp 14), a10_.eval (.tmp 15), a10_.eval (.tmp 16), a10_.eval (.tmp 17), a10_.eval (.tmp 18), a10_.eval (.tmp 19), a10_.eval (.tmp 20), a10_.eval (.tmp 21), a10_.eval (.tmp 22), a10_.eval (.tmp 23), a10_.eval (.tmp 24), a10_.eval (.tmp 25), a10_.eval (.tmp 26), a10_.eval (.tmp 27), a10_.eval (.tmp 28), a10_.eval (.tmp 29), a10_.eval (.tmp 30), a10_.eval (.tmp 31), a10_.eval (.tmp 32), a10_.eval (.tmp 33), a10_.eval (.tmp 34), a10_.eval (.tmp 35), a10_.eval (.tmp 36), a10_.eval (.tmp 37), a10_.eval (.tmp 38), a10_.eval (.tmp 39), a10_.eval (.tmp 40), a10_.eval (.tmp 41), a10_.eval (.tmp 42), a10_.eval (.tmp 43), a10_.eval (.tmp 44), a10_.eval (.tmp 45), a10_.eval (.tmp 46), a10_.eval (.tmp 47), a10_.eval (.tmp 48), a10_.eval (.tmp 49), a10_.eval (.tmp 50), a10_.eval (.tmp 51), a10_.eval (.tmp 52), a10_.eval (.tmp 53), a10_.eval (.tmp 54), a10_.eval (.tmp 55), a10_.eval (.tmp 56), a10_.eval (.tmp 57), a10_.eval (.tmp 58), a10_.eval (.tmp 59), a10_.eval (.tmp 60), a10_.eval (.tmp 61), a10_.eval (.tmp 62), a10_.eval (.tmp 63), a10_.eval (.tmp 64), a10_.eval (.tmp 65), a10_.eval (.tmp 66), a10_.eval (.tmp 67), a10_.eval (.tmp 68), a10_.eval (.tmp 69), a10_.eval (.tmp 70), a10_.eval (.tmp 71), a10_.eval (.tmp 72), a10_.eval (.tmp 73), a10_.eval (.tmp 74), a10_.eval (.tmp 75), a10_.eval (.tmp 76), a10_.eval (.tmp 77), a10_.eval (.tmp 78), a10_.eval (.tmp 79), a10_.eval (.tmp 80), a10_.eval (.tmp 81), a10_.eval (.tmp 82), a10_.eval (.tmp 83), a10_.eval (.tmp 84), a10_.eval (.tmp 85), a10_.eval (.tmp 86), a10_.eval (.tmp 87), a10_.eval (.tmp 88), a10_.eval (.tmp 89), a10_.eval (.tmp 90), a10_.eval (.tmp 91), a10_.eval (.tmp 92), a10_.eval (.tmp 93), a10_.eval (.tmp 94), a10_.eval (.tmp 95), a10_.eval (.tmp 96), a10_.eval (.tmp 97), a10_.eval (.tmp 98), a10_.eval (.tmp 99), a10_.eval (.tmp 100), a10_.eval (.tmp 101), a10_.eval (.tmp 102), a10_.eval (.tmp 103), a10_.eval (.tmp 104), a10_.eval (.tmp 105), a10_.eval (.tmp 106), a10_.eval (.tmp 107), a10_.eval (.tmp 108), a10_.eval (.tmp 109), a10_.eval (.tmp 110), a10_.eval (.tmp 111), a10_.eval (.tmp 112), a10_.eval (.tmp 113), a10_.eval (.tmp 114), a10_.eval (.tmp 115), a10_.eval (.tmp 116), a10_.eval (.tmp 117), a10_.eval (.tmp 118), a10_.eval (.tmp 119), a10_.eval (.tmp 120), a10_.eval (.tmp 121), a10_.eval (.tmp 122), a10_.eval (.tmp 123), a10_.eval (.tmp 124), a10_.eval (.tmp 125), a10_.eval (.tmp 126), a10_.eval (.tmp 127), a10_.eval (.tmp 128), a10_.eval (.tmp 129), a10_.eval (.tmp 130), a10_.eval (.tmp 131), a10_.eval (.tmp 132), a10_.eval (.tmp 133), a10_.eval (.tmp 134), a10_.eval (.tmp 135), a10_.eval (.tmp 136), a10_.eval (.tmp 137), a10_.eval (.tmp 138), a10_.eval (.tmp 139), a10_.eval (.tmp 140), a10_.eval (.tmp 141), a10_.eval (.tmp 142), a10_.eval (.tmp 143), a10_.eval (.tmp 144), a10_.eval (.tmp 145), a10_.eval (.tmp 146), a10_.eval (.tmp 147), a10_.eval (.tmp 148), a10_.eval (.tmp 149), a10_.eval (.tmp 150), a10_.eval (.tmp 151), a10_.eval (.tmp 152), a10_.eval (.tmp 153), a10_.eval (.tmp 154), a10_.eval (.tmp 155), a10_.eval (.tmp 156), a10_.eval (.tmp 157), a10_.eval (.tmp 158), a10_.eval (.tmp 159), a10_.eval (.tmp 160), a10_.eval (.tmp 161), a10_.eval (.tmp 162), a10_.eval (.tmp 163), a10_.eval (.tmp 164), a10_.eval (.tmp 165), a10_.eval (.tmp 166), a10_.eval (.tmp 167), a10_.eval (.tmp 168), a10_.eval (.tmp 169), a10_.eval (.tmp 170), a10_.eval (.tmp 171), a10_.eval (.tmp 172), a10_.eval (.tmp 173), ⟨k, (((((((((((ax != dZ) || (av != ea)) || (aw != eb)) || (ay.toList != ec.toList)) || (aA != ed)) || (aH != ee)) || (aI.toList != ef.toList)) || (aC != eg)) || (aD != eh)) || (aG.toList != ei.toList)) || (au != cU)), hst_.so, ⟨HJ_⟩, ⟨Nat.le_refl _⟩, ⟨aa.out⟩, ⟨aN.out⟩, ⟨HB.out⟩⟩, e2_⟩)
 case rest =>
  clear gs
  try clear c1
  try clear c2
  try clear dP
  obtain ⟨kq, lI, rfl, HA, HJ2, aa, aN, HB⟩ := hcut
  cases kq with
  | zero => exact absurd HA.out (by simp [roadbookref07_Same.j0])
  | succ kj2 =>
   have H := HA.out
   clear HA
   simp only [roadbookref07_Same.j0] at H
   by_cases jN : lI = true
   ·subst jN
    replace H := Sq.itT H
    obtain rfl := Option.some.inj H
    go_wp2
    go_ret
    exact ⟨Z5, Z8⟩
   ·replace jN := Bool.eq_false_iff.mpr jN
    subst jN
    replace H := Sq.itF H
    have sp := Aside0.mk H
    clear H
    go_upto_region 3 with (fail)
    go_cut [161] (fun tW wc => ∃ (kq : Nat) (iT : Bool), tW = .bool iT ∧ Aside0 (roadbookref07_Same.j1 kq iT ax av aw ay aA aH aI aC aD aG au ar ak aj ap ah ai al an ac af ae ao aq am dZ ea eb ec ed ee ef eg eh ei cU cI cJ cK cL cM cN cO cP cQ cR cS cT dd cY = some r) ∧ Aside0 (kq ≤ kj2) ∧ Aside0 (wc.heap[ab]? = some (.cells #[.int .i64 ax, .int .i64 av, .int .i64 aw, .string ay, .int .i64 aA, .int .i64 aH, .string aI, .int .i64 aC, .int .i64 aD, .string aG, .int .i64 au, .string ar, .int .i64 ak, .int .i64 aj, .int .i64 ap, .int .i64 ah, .int .i64 ai, .int .i64 al, .int .i64 an, .string ac, .string af, (.slice bs ae.length bq), .int .i64 ao, .string aq, (.slice bn am.length bo)] 25 (0, 0))) ∧ Aside0 (wc.heap[aJ]? = some (.cells #[.int .i64 dZ, .int .i64 ea, .int .i64 eb, .string ec, .int .i64 ed, .int .i64 ee, .string ef, .int .i64 eg, .int .i64 eh, .string ei, .int .i64 cU, .string cI, .int .i64 cJ, .int .i64 cK, .int .i64 cL, .int .i64 cM, .int .i64 cN, .int .i64 cO, .int .i64 cP, .string cQ, .string cR, (.slice jm cS.length jn), .int .i64 cT, .string dd, (.slice kM cY.length kN)] 25 (0, 0))) ∧ Aside0 (Below w.heap.size w wc))
    case first =>
     rename_i J_ K_ hJ_ hK_
     have HJ_ : roadbookref07_Same.j1 kj2 ((((((((((((ar.toList != cI.toList) || (ak != cJ)) || (aj != cK)) || (ap != cL)) || (ah != cM)) || (ai != cN)) || (al != cO)) || (an != cP)) || (ac.toList != cQ.toList)) || (af.toList != cR.toList)) || (ao != cT)) || (aq.toList != dd.toList)) ax av aw ay aA aH aI aC aD aG au ar ak aj ap ah ai al an ac af ae ao aq am dZ ea eb ec ed ee ef eg eh ei cU cI cJ cK cL cM cN cO cP cQ cR cS cT dd cY = some r := by
      have H := sp.out
      by_cases q0 : ar.toList = cI.toList
      ·rw [if_pos q0] at H
       have d0 : (ar.toList != cI.toList) = false := bne_eq_false_iff_eq.mpr q0
       by_cases q1 : ak = cJ
       ·rw [if_pos q1] at H
        have d1 : (ak != cJ) = false := bne_eq_false_iff_eq.mpr q1
        by_cases q2 : aj = cK
        ·rw [if_pos q2] at H
         have d2 : (aj != cK) = false := bne_eq_false_iff_eq.mpr q2
         by_cases q3 : ap = cL
         ·rw [if_pos q3] at H
          have d3 : (ap != cL) = false := bne_eq_false_iff_eq.mpr q3
          by_cases q4 : ah = cM
          ·rw [if_pos q4] at H
           have d4 : (ah != cM) = false := bne_eq_false_iff_eq.mpr q4
           by_cases q5 : ai = cN
           ·rw [if_pos q5] at H
            have d5 : (ai != cN) = false := bne_eq_false_iff_eq.mpr q5
            by_cases q6 : al = cO
            ·rw [if_pos q6] at H
             have d6 : (al != cO) = false := bne_eq_false_iff_eq.mpr q6
             by_cases q7 : an = cP
             ·rw [if_pos q7] at H
              have d7 : (an != cP) = false := bne_eq_false_iff_eq.mpr q7
              by_cases q8 : ac.toList = cQ.toList
              ·rw [if_pos q8] at H
               have d8 : (ac.toList != cQ.toList) = false := bne_eq_false_iff_eq.mpr q8
               by_cases q9 : af.toList = cR.toList
               ·rw [if_pos q9] at H
                have d9 : (af.toList != cR.toList) = false := bne_eq_false_iff_eq.mpr q9
                by_cases q10 : ao = cT
                ·rw [if_pos q10] at H
                 have d10 : (ao != cT) = false := bne_eq_false_iff_eq.mpr q10
                 rw [d0, d1, d2, d3, d4, d5, d6, d7, d8, d9, d10]; simp only [Bool.false_or]; exact H
                ·rw [if_neg q10] at H
                 have d10 : (ao != cT) = true := bne_iff_ne.mpr q10
                 rw [d0, d1, d2, d3, d4, d5, d6, d7, d8, d9, d10]; simp only [Bool.false_or, Bool.true_or, Bool.or_true]; exact H
               ·rw [if_neg q9] at H
                have d9 : (af.toList != cR.toList) = true := bne_iff_ne.mpr q9
                rw [d0, d1, d2, d3, d4, d5, d6, d7, d8, d9]; simp only [Bool.false_or, Bool.true_or, Bool.or_true]; exact H
              ·rw [if_neg q8] at H
               have d8 : (ac.toList != cQ.toList) = true := bne_iff_ne.mpr q8
               rw [d0, d1, d2, d3, d4, d5, d6, d7, d8]; simp only [Bool.false_or, Bool.true_or, Bool.or_true]; exact H
             ·rw [if_neg q7] at H
              have d7 : (an != cP) = true := bne_iff_ne.mpr q7
              rw [d0, d1, d2, d3, d4, d5, d6, d7]; simp only [Bool.false_or, Bool.true_or, Bool.or_true]; exact H
            ·rw [if_neg q6] at H
             have d6 : (al != cO) = true := bne_iff_ne.mpr q6
             rw [d0, d1, d2, d3, d4, d5, d6]; simp only [Bool.false_or, Bool.true_or, Bool.or_true]; exact H
           ·rw [if_neg q5] at H
            have d5 : (ai != cN) = true := bne_iff_ne.mpr q5
            rw [d0, d1, d2, d3, d4, d5]; simp only [Bool.false_or, Bool.true_or, Bool.or_true]; exact H
          ·rw [if_neg q4] at H
           have d4 : (ah != cM) = true := bne_iff_ne.mpr q4
           rw [d0, d1, d2, d3, d4]; simp only [Bool.false_or, Bool.true_or, Bool.or_true]; exact H
         ·rw [if_neg q3] at H
          have d3 : (ap != cL) = true := bne_iff_ne.mpr q3
          rw [d0, d1, d2, d3]; simp only [Bool.false_or, Bool.true_or, Bool.or_true]; exact H
        ·rw [if_neg q2] at H
         have d2 : (aj != cK) = true := bne_iff_ne.mpr q2
         rw [d0, d1, d2]; simp only [Bool.false_or, Bool.true_or, Bool.or_true]; exact H
       ·rw [if_neg q1] at H
        have d1 : (ak != cJ) = true := bne_iff_ne.mpr q1
        rw [d0, d1]; simp only [Bool.false_or, Bool.true_or, Bool.or_true]; exact H
      ·rw [if_neg q0] at H
       have d0 : (ar.toList != cI.toList) = true := bne_iff_ne.mpr q0
       rw [d0]; simp only [Bool.false_or, Bool.true_or, Bool.or_true]; exact H
     obtain ⟨-, -, -, -, -, -, -, -, -, -, -, hp11, hp12, hp13, hp14, hp15, hp16, hp17, hp18, hp19, hp20, -, hp22, hp23, -, -, -, -, -, -, -, -, -, -, -, -, -, -, -, -, -, -, -, -, -, -, -, -, -, -⟩ := cells_25 aa.out
     obtain ⟨-, -, -, -, -, -, -, -, -, -, -, hq11, hq12, hq13, hq14, hq15, hq16, hq17, hq18, hq19, hq20, -, hq22, hq23, -, -, -, -, -, -, -, -, -, -, -, -, -, -, -, -, -, -, -, -, -, -, -, -, -, -⟩ := cells_25 aN.out
     refine wp_region_lit ?_
     refine Pre.row_first (p := 2) (q := 3) (n := 80) (N := 174) (lo := 5) (A1 := .pointer (some ⟨ab, 0, none⟩)) (A2 := .pointer (some ⟨aJ, 0, none⟩)) (B1 := .pointer (some ⟨ab, 11, none⟩)) (B2 := .pointer (some ⟨aJ, 11, none⟩)) (X1 := .string ar) (X2 := .string cI) (e := ar.toList != cI.toList) rfl rfl Z27 rfl rfl Z27 Z27 Z27 (fun _ _ _ _ _ _ h_ => roadbookref07_Same.fa11 h_) (fun _ _ _ _ _ _ h_ => roadbookref07_Same.fa11 h_) (fun _ _ _ _ _ _ h_ => roadbookref07_Same.lds h_ hp11) (fun _ _ _ _ _ _ h_ => roadbookref07_Same.lds h_ hq11) (fun _ _ _ _ _ _ _ _ h_ h2_ => roadbookref07_Same.nes h_ h2_) ?_
     intro a0_ hst_
     refine Pre.row_next (n := 86) (A1 := .pointer (some ⟨ab, 0, none⟩)) (A2 := .pointer (some ⟨aJ, 0, none⟩)) (B1 := .pointer (some ⟨ab, 12, none⟩)) (B2 := .pointer (some ⟨aJ, 12, none⟩)) (X1 := .int .i64 ak) (X2 := .int .i64 cJ) (e := ak != cJ) rfl hst_ Z27 Z27 Z27 Z27 Z27 (fun _ _ _ _ _ _ h_ => roadbookref07_Same.fa12 h_) (fun _ _ _ _ _ _ h_ => roadbookref07_Same.fa12 h_) (fun _ _ _ _ _ _ h_ => roadbookref07_Same.ldi h_ hp12) (fun _ _ _ _ _ _ h_ => roadbookref07_Same.ldi h_ hq12) (fun _ _ _ _ _ _ _ _ h_ h2_ => roadbookref07_Same.nei h_ h2_) ?_
     intro a1_ hst_
     refine Pre.row_next (n := 93) (A1 := .pointer (some ⟨ab, 0, none⟩)) (A2 := .pointer (some ⟨aJ, 0, none⟩)) (B1 := .pointer (some ⟨ab, 13, none⟩)) (B2 := .pointer (some ⟨aJ, 13, none⟩)) (X1 := .int .i64 aj) (X2 := .int .i64 cK) (e := aj != cK) rfl hst_ Z27 Z27 Z27 Z27 Z27 (fun _ _ _ _ _ _ h_ => roadbookref07_Same.fa13 h_) (fun _ _ _ _ _ _ h_ => roadbookref07_Same.fa13 h_) (fun _ _ _ _ _ _ h_ => roadbookref07_Same.ldi h_ hp13) (fun _ _ _ _ _ _ h_ => roadbookref07_Same.ldi h_ hq13) (fun _ _ _ _ _ _ _ _ h_ h2_ => roadbookref07_Same.nei h_ h2_) ?_
     intro a2_ hst_
     refine Pre.row_next (n := 100) (A1 := .pointer (some ⟨ab, 0, none⟩)) (A2 := .pointer (some ⟨aJ, 0, none⟩)) (B1 := .pointer (some ⟨ab, 14, none⟩)) (B2 := .pointer (some ⟨aJ, 14, none⟩)) (X1 := .int .i64 ap) (X2 := .int .i64 cL) (e := ap != cL) rfl hst_ Z27 Z27 Z27 Z27 Z27 (fun _ _ _ _ _ _ h_ => roadbookref07_Same.fa14 h_) (fun _ _ _ _ _ _ h_ => roadbookref07_Same.fa14 h_) (fun _ _ _ _ _ _ h_ => roadbookref07_Same.ldi h_ hp14) (fun _ _ _ _ _ _ h_ => roadbookref07_Same.ldi h_ hq14) (fun _ _ _ _ _ _ _ _ h_ h2_ => roadbookref07_Same.nei h_ h2_) ?_
     intro a3_ hst_
     refine Pre.row_next (n := 107) (A1 := .pointer (some ⟨ab, 0, none⟩)) (A2 := .pointer (some ⟨aJ, 0, none⟩)) (B1 := .pointer (some ⟨ab, 15, none⟩)) (B2 := .pointer (some ⟨aJ, 15, none⟩)) (X1 := .int .i64 ah) (X2 := .int .i64 cM) (e := ah != cM) rfl hst_ Z27 Z27 Z27 Z27 Z27 (fun _ _ _ _ _ _ h_ => roadbookref07_Same.fa15 h_) (fun _ _ _ _ _ _ h_ => roadbookref07_Same.fa15 h_) (fun _ _ _ _ _ _ h_ => roadbookref07_Same.ldi h_ hp15) (fun _ _ _ _ _ _ h_ => roadbookref07_Same.ldi h_ hq15) (fun _ _ _ _ _ _ _ _ h_ h2_ => roadbookref07_Same.nei h_ h2_) ?_
     intro a4_ hst_
     refine Pre.row_next (n := 114) (A1 := .pointer (some ⟨ab, 0, none⟩)) (A2 := .pointer (some ⟨aJ, 0, none⟩)) (B1 := .pointer (some ⟨ab, 16, none⟩)) (B2 := .pointer (some ⟨aJ, 16, none⟩)) (X1 := .int .i64 ai) (X2 := .int .i64 cN) (e := ai != cN) rfl hst_ Z27 Z27 Z27 Z27 Z27 (fun _ _ _ _ _ _ h_ => roadbookref07_Same.fa16 h_) (fun _ _ _ _ _ _ h_ => roadbookref07_Same.fa16 h_) (fun _ _ _ _ _ _ h_ => roadbookref07_Same.ldi h_ hp16) (fun _ _ _ _ _ _ h_ => roadbookref07_Same.ldi h_ hq16) (fun _ _ _ _ _ _ _ _ h_ h2_ => roadbookref07_Same.nei h_ h2_) ?_
     intro a5_ hst_
     refine Pre.row_next (n := 121) (A1 := .pointer (some ⟨ab, 0, none⟩)) (A2 := .pointer (some ⟨aJ, 0, none⟩)) (B1 := .pointer (some ⟨ab, 17, none⟩)) (B2 := .pointer (some ⟨aJ, 17, none⟩)) (X1 := .int .i64 al) (X2 := .int .i64 cO) (e := al != cO) rfl hst_ Z27 Z27 Z27 Z27 Z27 (fun _ _ _ _ _ _ h_ => roadbookref07_Same.fa17 h_) (fun _ _ _ _ _ _ h_ => roadbookref07_Same.fa17 h_) (fun _ _ _ _ _ _ h_ => roadbookref07_Same.ldi h_ hp17) (fun _ _ _ _ _ _ h_ => roadbookref07_Same.ldi h_ hq17) (fun _ _ _ _ _ _ _ _ h_ h2_ => roadbookref07_Same.nei h_ h2_) ?_
     intro a6_ hst_
     refine Pre.row_next (n := 128) (A1 := .pointer (some ⟨ab, 0, none⟩)) (A2 := .pointer (some ⟨aJ, 0, none⟩)) (B1 := .pointer (some ⟨ab, 18, none⟩)) (B2 := .pointer (some ⟨aJ, 18, none⟩)) (X1 := .int .i64 an) (X2 := .int .i64 cP) (e := an != cP) rfl hst_ Z27 Z27 Z27 Z27 Z27 (fun _ _ _ _ _ _ h_ => roadbookref07_Same.fa18 h_) (fun _ _ _ _ _ _ h_ => roadbookref07_Same.fa18 h_) (fun _ _ _ _ _ _ h_ => roadbookref07_Same.ldi h_ hp18) (fun _ _ _ _ _ _ h_ => roadbookref07_Same.ldi h_ hq18) (fun _ _ _ _ _ _ _ _ h_ h2_ => roadbookref07_Same.nei h_ h2_) ?_
     intro a7_ hst_
     refine Pre.row_next (n := 135) (A1 := .pointer (some ⟨ab, 0, none⟩)) (A2 := .pointer (some ⟨aJ, 0, none⟩)) (B1 := .pointer (some ⟨ab, 19, none⟩)) (B2 := .pointer (some ⟨aJ, 19, none⟩)) (X1 := .string ac) (X2 := .string cQ) (e := ac.toList != cQ.toList) rfl hst_ Z27 Z27 Z27 Z27 Z27 (fun _ _ _ _ _ _ h_ => roadbookref07_Same.fa19 h_) (fun _ _ _ _ _ _ h_ => roadbookref07_Same.fa19 h_) (fun _ _ _ _ _ _ h_ => roadbookref07_Same.lds h_ hp19) (fun _ _ _ _ _ _ h_ => roadbookref07_Same.lds h_ hq19) (fun _ _ _ _ _ _ _ _ h_ h2_ => roadbookref07_Same.nes h_ h2_) ?_
     intro a8_ hst_
     refine Pre.row_next (n := 142) (A1 := .pointer (some ⟨ab, 0, none⟩)) (A2 := .pointer (some ⟨aJ, 0, none⟩)) (B1 := .pointer (some ⟨ab, 20, none⟩)) (B2 := .pointer (some ⟨aJ, 20, none⟩)) (X1 := .string af) (X2 := .string cR) (e := af.toList != cR.toList) rfl hst_ Z27 Z27 Z27 Z27 Z27 (fun _ _ _ _ _ _ h_ => roadbookref07_Same.fa20 h_) (fun _ _ _ _ _ _ h_ => roadbookref07_Same.fa20 h_) (fun _ _ _ _ _ _ h_ => roadbookref07_Same.lds h_ hp20) (fun _ _ _ _ _ _ h_ => roadbookref07_Same.lds h_ hq20) (fun _ _ _ _ _ _ _ _ h_ h2_ => roadbookref07_Same.nes h_ h2_) ?_
     intro a9_ hst_
     refine Pre.row_next (n := 149) (A1 := .pointer (some ⟨ab, 0, none⟩)) (A2 := .pointer (some ⟨aJ, 0, none⟩)) (B1 := .pointer (some ⟨ab, 22, none⟩)) (B2 := .pointer (some ⟨aJ, 22, none⟩)) (X1 := .int .i64 ao) (X2 := .int .i64 cT) (e := ao != cT) rfl hst_ Z27 Z27 Z27 Z27 Z27 (fun _ _ _ _ _ _ h_ => roadbookref07_Same.fa22 h_) (fun _ _ _ _ _ _ h_ => roadbookref07_Same.fa22 h_) (fun _ _ _ _ _ _ h_ => roadbookref07_Same.ldi h_ hp22) (fun _ _ _ _ _ _ h_ => roadbookref07_Same.ldi h_ hq22) (fun _ _ _ _ _ _ _ _ h_ h2_ => roadbookref07_Same.nei h_ h2_) ?_
     intro a10_ hst_
     refine Pre.row_last (n := 156) (A1 := .pointer (some ⟨ab, 0, none⟩)) (A2 := .pointer (some ⟨aJ, 0, none⟩)) (B1 := .pointer (some ⟨ab, 23, none⟩)) (B2 := .pointer (some ⟨aJ, 23, none⟩)) (X1 := .string aq) (X2 := .string dd) (e := aq.toList != dd.toList) rfl hst_ Z27 Z27 Z27 Z27 Z27 (fun _ _ _ _ _ _ h_ => roadbookref07_Same.fa23 h_) (fun _ _ _ _ _ _ h_ => roadbookref07_Same.fa23 h_) (fun _ _ _ _ _ _ h_ => roadbookref07_Same.lds h_ hp23) (fun _ _ _ _ _ _ h_ => roadbookref07_Same.lds h_ hq23) (fun _ _ _ _ _ _ _ _ h_ h2_ => roadbookref07_Same.nes h_ h2_) ?_
     intro a11_ hst_
     refine wpList_nil ?_
     have e_ := Pre.act_lit hst_.size hst_.defers
     have e2_ : a11_ = ⟨#[a11_.eval (.tmp 0), a11_.eval (.tmp 1), a11_.eval (.tmp 2), a11_.eval (.tmp 3), a11_.eval (.tmp 4), a11_.eval (.tmp 5), a11_.eval (.tmp 6), a11_.eval (.tmp 7), a11_.eval (.tmp 8), a11_.eval (.tmp 9), a11_.eval (.tmp 10), a11_.eval (.tmp 11), a11_.eval (.tmp 12), a11_.eval (.tmp 13), a11_.eval (.tmp 14), a11_.eval (.tmp 15), a11_.eval (.tmp 16), a11_.eval (.tmp 17), a11_.eval (.tmp 18), a11_.eval (.tmp 19), a11_.eval (.tmp 20), a11_.eval (.tmp 21), a11_.eval (.tmp 22), a11_.eval (.tmp 23), a11_.eval (.tmp 24), a11_.eval (.tmp 25), a11_.eval (.tmp 26), a11_.eval (.tmp 27), a11_.eval (.tmp 28), a11_.eval (.tmp 29), a11_.eval (.tmp 30), a11_.eval (.tmp 31), a11_.eval (.tmp 32), a11_.eval (.tmp 33), a11_.eval (.tmp 34), a11_.eval (.tmp 35), a11_.eval (.tmp 36), a11_.eval (.tmp 37), a11_.eval (.tmp 38), a11_.eval (.tmp 39), a11_.eval (.tmp 40), a11_.eval (.tmp 41), a11_.eval (.tmp 42), a11_.eval (.tmp 43), a11_.eval (.tmp 44), a11_.eval (.tmp 45), a11_.eval (.tmp 46), a11_.eval (.tmp 47), a11_.eval (.tmp 48), a11_.eval (.tmp 49), a11_.eval (.tmp 50), a11_.eval (.tmp 51), a11_.eval (.tmp 52), a11_.eval (.tmp 53), a11_.eval (.tmp 54), a11_.eval (.tmp 55), a11_.eval (.tmp 56), a11_.eval (.tmp 57), a11_.eval (.tmp 58), a11_.eval (.tmp 59), a11_.eval (.tmp 60), a11_.eval (.tmp 61), a11_.eval (.tmp 62), a11_.eval (.tmp 63), a11_.eval (.tmp 64), a11_.eval (.tmp 65), a11_.eval (.tmp 66), a11_.eval (.tmp 67), a11_.eval (.tmp 68), a11_.eval (.tmp 69), a11_.eval (.tmp 70), a11_.eval (.tmp 71), a11_.eval (.tmp 72), a11_.eval (.tmp 73), a11_.eval (.tmp 74), a11_.eval (.tmp 75), a11_.eval (.tmp 76), a11_.eval (.tmp 77), a11_.eval (.tmp 78), a11_.eval (.tmp 79), a11_.eval (.tmp 80), a11_.eval (.tmp 81), a11_.eval (.tmp 82), a11_.eval (.tmp 83), a11_.eval (.tmp 84), a11_.eval (.tmp 85), a11_.eval (.tmp 86), a11_.eval (.tmp 87), a11_.eval (.tmp 88), a11_.eval (.tmp 89), a11_.eval (.tmp 90), a11_.eval (.tmp 91), a11_.eval (.tmp 92), a11_.eval (.tmp 93), a11_.eval (.tmp 94), a11_.eval (.tmp 95), a11_.eval (.tmp 96), a11_.eval (.tmp 97), a11_.eval (.tmp 98), a11_.eval (.tmp 99), a11_.eval (.tmp 100), a11_.eval (.tmp 101), a11_.eval (.tmp 102), a11_.eval (.tmp 103), a11_.eval (.tmp 104), a11_.eval (.tmp 105), a11_.eval (.tmp 106), a11_.eval (.tmp 107), a11_.eval (.tmp 108), a11_.eval (.tmp 109), a11_.eval (.tmp 110), a11_.eval (.tmp 111), a11_.eval (.tmp 112), a11_.eval (.tmp 113), a11_.eval (.tmp 114), a11_.eval (.tmp 115), a11_.eval (.tmp 116), a11_.eval (.tmp 117), a11_.eval (.tmp 118), a11_.eval (.tmp 119), a11_.eval (.tmp 120), a11_.eval (.tmp 121), a11_.eval (.tmp 122), a11_.eval (.tmp 123), a11_.eval (.tmp 124), a11_.eval (.tmp 125), a11_.eval (.tmp 126), a11_.eval (.tmp 127), a11_.eval (.tmp 128), a11_.eval (.tmp 129), a11_.eval (.tmp 130), a11_.eval (.tmp 131), a11_.eval (.tmp 132), a11_.eval (.tmp 133), a11_.eval (.tmp 134), a11_.eval (.tmp 135), a11_.eval (.tmp 136), a11_.eval (.tmp 137), a11_.eval (.tmp 138), a11_.eval (.tmp 139), a11_.eval (.tmp 140), a11_.eval (.tmp 141), a11_.eval (.tmp 142), a11_.eval (.tmp 143), a11_.eval (.tmp 144), a11_.eval (.tmp 145), a11_.eval (.tmp 146), a11_.eval (.tmp 147), a11_.eval (.tmp 148), a11_.eval (.tmp 149), a11_.eval (.tmp 150), a11_.eval (.tmp 151), a11_.eval (.tmp 152), a11_.eval (.tmp 153), a11_.eval (.tmp 154), a11_.eval (.tmp 155), a11_.eval (.tmp 156), a11_.eval (.tmp 157), a11_.eval (.tmp 158), a11_.eval (.tmp 159), a11_.eval (.tmp 160), a11_.eval (.tmp 161), a11_.eval (.tmp 162), a11_.eval (.tmp 163), a11_.eval (.tmp 164), a11_.eval (.tmp 165), a11_.eval (.tmp 166), a11_.eval (.tmp 167), a11_.eval (.tmp 168), a11_.eval (.tmp 169), a11_.eval (.tmp 170), a11_.eval (.tmp 171), a11_.eval (.tmp 172), a11_.eval (.tmp 173)], []⟩ := e_.trans rfl
     clear e_
     have k0_ := hst_.kept 0 Z27
     have k1_ := hst_.kept 1 Z27
     have k2_ := hst_.kept 2 Z27
     have k3_ := hst_.kept 3 Z27
     have k4_ := hst_.kept 4 Z27
     rw [k0_, k1_, k2_, k3_, k4_] at e2_
     exact hK_ _ _ (hJ_ _ _ ⟨a11_.eval (.tmp 5), a11_.eval (.tmp 6), a11_.eval (.tmp 7), a11_.eval (.tmp 8), a11_.eval (.tmp 9), a11_.eval (.tmp 10), a11_.eval (.tmp 11), a11_.eval (.tmp 12), a11_.eval (.tmp 13), a11_.eval (.tmp 14), a11_.eval (.tmp 15), a11_.eval (.tmp 16), a11_.eval (.tmp 17), a11_.eval (.tmp 18), a11_.eval (.tmp 19), a11_.eval (.tmp 20), a11_.eval (.tmp 21), a11_.eval (.tmp 22), a11_.eval (.tmp 23), a11_.eval (.tmp 24), a11_.eval (.tmp 25), a11_.eval (.tmp 26), a11_.eval (.tmp 27), a11_.eval (.tmp 28), a11_.eval (.tmp 29), a11_.eval (.tmp 30), a11_.eval (.tmp 31), a11_.eval (.tmp 32), a11_.eval (.tmp 33), a11_.eval (.tmp 34), a11_.eval (.tmp 35), a11_.eval (.tmp 36), a11_.eval (.tmp 37), a11_.eval (.tmp 38), a11_.eval (.tmp 39), a11_.eval (.tmp 40), a11_.eval (.tmp 41), a11_.eval (.tmp 42), a11_.eval (.tmp 43), a11_.eval (.tmp 44), a11_.eval (.tmp 45), a11_.eval (.tmp 46), a11_.eval (.tmp 47), a11_.eval (.tmp 48), a11_.eval (.tmp 49), a11_.eval (.tmp 50), a11_.eval (.tmp 51), a11_.eval (.tmp 52), a11_.eval (.tmp 53), a11_.eval (.tmp 54), a11_.eval (.tmp 55), a11_.eval (.tmp 56), a11_.eval (.tmp 57), a11_.eval (.tmp 58), a11_.eval (.tmp 59), a11_.eval (.tmp 60), a11_.eval (.tmp 61), a11_.eval (.tmp 62), a11_.eval (.tmp 63), a11_.eval (.tmp 64), a11_.eval (.tmp 65), a11_.eval (.tmp 66), a11_.eval (.tmp 67), a11_.eval (.tmp 68), a11_.eval (.tmp 69), a11_.eval (.tmp 70), a11_.eval (.tmp 71), a11_.eval (.tmp 72), a11_.eval (.tmp 73), a11_.eval (.tmp 74), a11_.eval (.tmp 75), a11_.eval (.tmp 76), a11_.eval (.tmp 77), a11_.eval (.tmp 78), a11_.eval (.tmp 79), a11_.eval (.tmp 80), a11_.eval (.tmp 81), a11_.eval (.tmp 82), a11_.eval (.tmp 83), a11_.eval (.tmp 84), a11_.eval (.tmp 85), a11_.eval (.tmp 86), a11_.eval (.tmp 87), a11_.eval (.tmp 88), a11_.eval (.tmp 89), a11_.eval (.tmp 90), a11_.eval (.tmp 91), a11_.eval (.tmp 92), a11_.eval (.tmp 93), a11_.eval (.tmp 94), a11_.eval (.tmp 95), a11_.eval (.tmp 96), a11_.eval (.tmp 97), a11_.eval (.tmp 98), a11_.eval (.tmp 99), a11_.eval (.tmp 100), a11_.eval (.tmp 101), a11_.eval (.tmp 102), a11_.eval (.tmp 103), a11_.eval (.tmp 104), a11_.eval (.tmp 105), a11_.eval (.tmp 106), a11_.eval (.tmp 107), a11_.eval (.tmp 108), a11_.eval (.tmp 109), a11_.eval (.tmp 110), a11_.eval (.tmp 111), a11_.eval (.tmp 112), a11_.eval (.tmp 113), a11_.eval (.tmp 114), a11_.eval (.tmp 115), a11_.eval (.tmp 116), a11_.eval (.tmp 117), a11_.eval (.tmp 118), a11_.eval (.tmp 119), a11_.eval (.tmp 120), a11_.eval (.tmp 121), a11_.eval (.tmp 122), a11_.eval (.tmp 123), a11_.eval (.tmp 124), a11_.eval (.tmp 125), a11_.eval (.tmp 126), a11_.eval (.tmp 127), a11_.eval (.tmp 128), a11_.eval (.tmp 129), a11_.eval (.tmp 130), a11_.eval (.tmp 131), a11_.eval (.tmp 132), a11_.eval (.tmp 133), a11_.eval (.tmp 134), a11_.eval (.tmp 135), a11_.eval (.tmp 136), a11_.eval (.tmp 137), a11_.eval (.tmp 138), a11_.eval (.tmp 139), a11_.eval (.tmp 140), a11_.eval (.tmp 141), a11_.eval (.tmp 142), a11_.eval (.tmp 143), a11_.eval (.tmp 144), a11_.eval (.tmp 145), a11_.eval (.tmp 146), a11_.eval (.tmp 147), a11_.eval (.tmp 148), a11_.eval (.tmp 149), a11_.eval (.tmp 150), a11_.eval (.tmp 151), a11_.eval (.tmp 152), a11_.eval (.tmp 153), a11_.eval (.tmp 154), a11_.eval (.tmp 155), a11_.eval (.tmp 156), a11_.eval (.tmp 157), a11_.eval (.tmp 158), a11_.eval (.tmp 159), a11_.eval (.tmp 160), a11_.eval (.tmp 161), a11_.eval (.tmp 162), a11_.eval (.tmp 163), a11_.eval (.tmp 164), a11_.eval (.tmp 165), a11_.eval (.tmp 166), a11_.eval (.tmp 167), a11_.eval (.tmp 168), a11_.eval (.tmp 169), a11_.eval (.tmp 170), a11_.eval (.tmp 171), a11_.eval (.tmp 172), a11_.eval (.tmp 173), ⟨kj2, ((((((((((((ar.toList != cI.toList) || (ak != cJ)) || (aj != cK)) || (ap != cL)) || (ah != cM)) || (ai != cN)) || (al != cO)) || (an != cP)) || (ac.toList != cQ.toList)) || (af.toList != cR.toList)) || (ao != cT)) || (aq.toList != dd.toList)), hst_.so, ⟨HJ_⟩, ⟨Nat.le_refl _⟩, ⟨aa.out⟩, ⟨aN.out⟩, ⟨HB.out⟩⟩, e2_⟩)
    case rest =>
     clear sp
     try clear c1
     try clear c2
     try clear p2
     try clear c4
     try clear c6
     try clear ga
     try clear ii
     try clear c7
     try clear fz
     try clear kT
     try clear c8
     try clear dP
     try clear c43
     try clear mc
     try clear jN
     obtain ⟨kq, iT, rfl, HA, HJ49, aa, aN, HB⟩ := hcut
     cases kq with
     | zero => exact absurd HA.out (by simp [roadbookref07_Same.j1])
     | succ kj49 =>
      have H := HA.out
      clear HA
      simp only [roadbookref07_Same.j1] at H
      by_cases sM : iT = true
      ·subst sM
       replace H := Sq.itT H
       obtain rfl := Option.some.inj H
       go_wp2
       go_ret
       exact ⟨Z5, Z8⟩
      ·replace sM := Bool.eq_false_iff.mpr sM
       subst sM
       replace H := Sq.itF H
       replace H := Option.bind_eq_some_iff.mp H
       obtain ⟨aX, sq, H⟩ := H
       replace H : (if aX = true then ((roadbookref07_subs.f kj49 am cY).bind fun aV => (some aV)) else (some false)) = some r := H
       have un := Aside0.mk sq
       clear sq
       by_cases nX : aX = true
       ·subst nX
        replace H := Sq.itT H
        replace H := Option.bind_eq_some_iff.mp H
        obtain ⟨aV, oX, H⟩ := H
        replace H : (some aV) = some r := H
        have tX := Aside0.mk oX
        clear oX
        obtain rfl := Option.some.inj H
        have hnb102 := aW.out
        have hnc102 := bh.out
        obtain ⟨-, -, -, -, -, -, -, -, -, -, -, -, -, -, -, -, -, -, -, -, -, hcz103_21, -, -, hcz103_24, -, -, -, -, -, -, -, -, -, -, -, -, -, -, -, -, -, -, -, -, -, -, -, -, -⟩ := cells_25 aa.out
        obtain ⟨-, -, -, -, -, -, -, -, -, -, -, -, -, -, -, -, -, -, -, -, -, hcz104_21, -, -, hcz104_24, -, -, -, -, -, -, -, -, -, -, -, -, -, -, -, -, -, -, -, -, -, -, -, -, -⟩ := cells_25 aN.out
        go_wp2_with (first | ((with_reducible refine gate_callee (f := 65) rfl ?_); refine goesL_ (some 166) rfl rfl Try.func65 Z14 rfl #[.slice bs ae.length bq, .slice jm cS.length jn] rfl Z4 ?_; (with_reducible refine (roadbookref07_dests.calls kj49 _ _ ae _ _ cS true _ ?side1 ?side2 ?side3 ?side4 un.out).mono ?_); (case side1 => exact Z16); (case side2 => exact bG.out); (case side3 => exact Z104); (case side4 => exact nf.out); rintro e w' ⟨rfl, ⟨nd, rfl⟩⟩; refine ⟨_, rfl, ?_⟩) | (go_at_call 66; (with_reducible refine (roadbookref07_subs.calls kj49 _ _ am _ _ cY aV _ ?side1 ?side2 ?side3 ?side4 tX.out).mono ?_); (case side1 => exact (by repeat (first | exact (Kd.C_below fb.out Z8) | (with_reducible refine Kd.C_alloc ?_ _) | (with_reducible refine Kd.C_drewN ?_ _) | (with_reducible refine Kd.C_drew ?_)))); (case side2 => exact bA.out); (case side3 => exact (by repeat (first | exact (Kd.C_below pZ.out Z8) | (with_reducible refine Kd.C_alloc ?_ _) | (with_reducible refine Kd.C_drewN ?_ _) | (with_reducible refine Kd.C_drew ?_)))); (case side4 => exact qa.out); rintro e w' ⟨rfl, ⟨nd, rfl⟩⟩))
        go_ret
        exact ⟨Z5, Z8⟩
       ·replace nX := Bool.eq_false_iff.mpr nX
        subst nX
        replace H := Sq.itF H
        obtain rfl := Option.some.inj H
        have hnb105 := aW.out
        have hnc105 := bh.out
        obtain ⟨-, -, -, -, -, -, -, -, -, -, -, -, -, -, -, -, -, -, -, -, -, hcz106_21, -, -, hcz106_24, -, -, -, -, -, -, -, -, -, -, -, -, -, -, -, -, -, -, -, -, -, -, -, -, -⟩ := cells_25 aa.out
        obtain ⟨-, -, -, -, -, -, -, -, -, -, -, -, -, -, -, -, -, -, -, -, -, hcz107_21, -, -, hcz107_24, -, -, -, -, -, -, -, -, -, -, -, -, -, -, -, -, -, -, -, -, -, -, -, -, -⟩ := cells_25 aN.out
        go_wp2_with (first | ((with_reducible refine gate_callee (f := 65) rfl ?_); refine goesL_ (some 166) rfl rfl Try.func65 Z14 rfl #[.slice bs ae.length bq, .slice jm cS.length jn] rfl Z4 ?_; (with_reducible refine (roadbookref07_dests.calls kj49 _ _ ae _ _ cS false _ ?side1 ?side2 ?side3 ?side4 un.out).mono ?_); (case side1 => exact Z16); (case side2 => exact bG.out); (case side3 => exact Z104); (case side4 => exact nf.out); rintro e w' ⟨rfl, ⟨nd, rfl⟩⟩; refine ⟨_, rfl, ?_⟩))
        go_ret
        exact ⟨Z5, Z8⟩

end Go.Proofs.Ytccjakjjaemmkaa.PAP
