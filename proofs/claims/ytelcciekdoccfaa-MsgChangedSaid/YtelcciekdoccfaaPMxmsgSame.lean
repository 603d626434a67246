-- Written by mp.py, a program of this work (wip/tools), out of the translation; Lean checks it.
import Derived.Test.YtelcciekdoccfaaPMxZ
import Derived.Test.YtelcciekdoccfaaPMxEq88
import Derived.Test.YtelcciekdoccfaaPMxapiDest
import Derived.Test.YtelcciekdoccfaaPMxapiSub
import Derived.Test.YtelcciekdoccfaaPMxmsgstrip
import Derived.Test.YtelcciekdoccfaaLoad
namespace Go.Proofs.Ytelcciekdoccfaa.PM
open Go.RowKit Go.Proofs.YtelcciekdoccfaaW.PrintWords Go.Proofs.YtelcciekdoccfaaW.PrintLast Go.Proofs.YtelcciekdoccfaaW.PrintMore
attribute [local go_sem] max2_int min2_int max_two min_two max_three min_three max_four min_four   -- for this text's walks alone
set_option linter.unusedVariables false
set_option linter.unusedSimpArgs false

attribute [local go_sem high] eqA88
/-! ### msg_Same: function 50 -/
def msg_Same.f (k : Nat) (aG : Int) (aA : Int) (aB : Int) (az : ByteArray) (aC : Int) (av : Int) (ax : ByteArray) (aw : Int) (aD : Int) (ay : ByteArray) (ap : Int) (an : ByteArray) (ag : Int) (aq : Int) (ai : Int) (ah : Int) (ak : Int) (al : Int) (ao : Int) (aj : ByteArray) (am : ByteArray) (af : List (S61)) (ar : Int) (au : ByteArray) (ab : List (S63)) (bi : Int) (bj : Int) (bk : Int) (bl : ByteArray) (bm : Int) (bn : Int) (bo : ByteArray) (bp : Int) (bq : Int) (br : ByteArray) (bb : Int) (aQ : ByteArray) (aR : Int) (aS : Int) (aT : Int) (aU : Int) (aV : Int) (aW : Int) (aX : Int) (aY : ByteArray) (aZ : ByteArray) (aO : List (S61)) (ba : Int) (bc : ByteArray) (aP : List (S63)) : Option (Bool) := (msg_strip.f aG aA aB az aC av ax aw aD ay ap an ag aq ai ah ak al ao aj am af ar au ab).bind fun bh => ((msg_strip.f bi bj bk bl bm bn bo bp bq br bb aQ aR aS aT aU aV aW aX aY aZ aO ba bc aP).bind fun aN => (if (bh.1 == aN.1 && (bh.2.1 == aN.2.1 && (bh.2.2.1 == aN.2.2.1 && (bh.2.2.2.1 == aN.2.2.2.1 && (bh.2.2.2.2.1 == aN.2.2.2.2.1 && (bh.2.2.2.2.2.1 == aN.2.2.2.2.2.1 && (bh.2.2.2.2.2.2.1 == aN.2.2.2.2.2.2.1 && (bh.2.2.2.2.2.2.2.1 == aN.2.2.2.2.2.2.2.1 && (bh.2.2.2.2.2.2.2.2.1 == aN.2.2.2.2.2.2.2.2.1 && (bh.2.2.2.2.2.2.2.2.2.1 == aN.2.2.2.2.2.2.2.2.2.1 && (bh.2.2.2.2.2.2.2.2.2.2.1 == aN.2.2.2.2.2.2.2.2.2.2.1 && (bh.2.2.2.2.2.2.2.2.2.2.2.1 == aN.2.2.2.2.2.2.2.2.2.2.2.1 && (bh.2.2.2.2.2.2.2.2.2.2.2.2.1 == aN.2.2.2.2.2.2.2.2.2.2.2.2.1 && (bh.2.2.2.2.2.2.2.2.2.2.2.2.2.1 == aN.2.2.2.2.2.2.2.2.2.2.2.2.2.1 && (bh.2.2.2.2.2.2.2.2.2.2.2.2.2.2.1 == aN.2.2.2.2.2.2.2.2.2.2.2.2.2.2.1 && (bh.2.2.2.2.2.2.2.2.2.2.2.2.2.2.2.1 == aN.2.2.2.2.2.2.2.2.2.2.2.2.2.2.2.1 && (bh.2.2.2.2.2.2.2.2.2.2.2.2.2.2.2.2.1.toList == aN.2.2.2.2.2.2.2.2.2.2.2.2.2.2.2.2.1.toList && (bh.2.2.2.2.2.2.2.2.2.2.2.2.2.2.2.2.2.1.toList == aN.2.2.2.2.2.2.2.2.2.2.2.2.2.2.2.2.2.1.toList && (bh.2.2.2.2.2.2.2.2.2.2.2.2.2.2.2.2.2.2.1.toList == aN.2.2.2.2.2.2.2.2.2.2.2.2.2.2.2.2.2.2.1.toList && (bh.2.2.2.2.2.2.2.2.2.2.2.2.2.2.2.2.2.2.2.1.toList == aN.2.2.2.2.2.2.2.2.2.2.2.2.2.2.2.2.2.2.2.1.toList && (bh.2.2.2.2.2.2.2.2.2.2.2.2.2.2.2.2.2.2.2.2.1.toList == aN.2.2.2.2.2.2.2.2.2.2.2.2.2.2.2.2.2.2.2.2.1.toList && (bh.2.2.2.2.2.2.2.2.2.2.2.2.2.2.2.2.2.2.2.2.2.1.toList == aN.2.2.2.2.2.2.2.2.2.2.2.2.2.2.2.2.2.2.2.2.2.1.toList && (bh.2.2.2.2.2.2.2.2.2.2.2.2.2.2.2.2.2.2.2.2.2.2.toList == aN.2.2.2.2.2.2.2.2.2.2.2.2.2.2.2.2.2.2.2.2.2.2.toList))))))))))))))))))))))) = true then ((api_Dest.f k af aO).bind fun ev => (if ev = true then ((api_Sub.f k ab aP).bind fun dB => (some dB)) else (some false))) else (some false)))
theorem msg_Same.mono : ∀ a0 a1 a2 a3 a4 a5 a6 a7 a8 a9 fv fw fx fy fz fA fB fC fD fE fF fG fH fI fJ gg gh gi gj gl gn gp gq gr gs gu gv gw gy gz gA gB gC gD gE gF gG gH gI gJ k, LeO (msg_Same.f k a0 a1 a2 a3 a4 a5 a6 a7 a8 a9 fv fw fx fy fz fA fB fC fD fE fF fG fH fI fJ gg gh gi gj gl gn gp gq gr gs gu gv gw gy gz gA gB gC gD gE gF gG gH gI gJ) (msg_Same.f (k + 1) a0 a1 a2 a3 a4 a5 a6 a7 a8 a9 fv fw fx fy fz fA fB fC fD fE fF fG fH fI fJ gg gh gi gj gl gn gp gq gr gs gu gv gw gy gz gA gB gC gD gE gF gG gH gI gJ) := by
 intro a0 a1 a2 a3 a4 a5 a6 a7 a8 a9 fv fw fx fy fz fA fB fC fD fE fF fG fH fI fJ gg gh gi gj gl gn gp gq gr gs gu gv gw gy gz gA gB gC gD gE gF gG gH gI gJ k
 unfold msg_Same.f
 repeat' first
   | (with_reducible exact api_Dest.mono _ _ _)
   | (with_reducible exact api_Sub.mono _ _ _)
   | (with_reducible exact LeO.refl _)
   | (with_reducible exact LeO.none _)
   | (with_reducible refine LeO.ite ?_ ?_)
   | (with_reducible refine LeO.bind ?_ (fun _ => ?_))
   | exact api_Dest.mono _ _ _
   | exact api_Sub.mono _ _ _
   | exact LeO.none _
   | refine LeO.ite ?_ ?_
   | refine LeO.bind ?_ (fun _ => ?_)
def msg_Same.T1 : Bool × List (List Nat × List Nat) := (true, [([], []), ([0], [0]), ([], []), ([2, 1], [2]), ([1, 3], [1, 3]), ([4, 3], [4]), ([5], [5]), ([6, 5], [5, 6]), ([5], [5]), ([8, 5], [5, 8]), ([7, 9, 5, 5], [5, 7, 9]), ([5, 10], [5, 10]), ([11, 10], [11]), ([12], [12]), ([13, 12], [12, 13]), ([12], [12]), ([15, 12], [12, 15]), ([14, 16, 12, 12], [12, 14, 16]), ([12, 17], [12, 17]), ([18, 17, 0, 1, 2, 3, 4, 5, 6, 7, 8, 9, 10, 11, 12, 13, 14, 15, 16, 17, 18], [18])])
def msg_Same.B1 : List Nat := [0, 1, 0, 7, 15, 31, 63, 127, 63, 319, 1023, 2047, 4095, 8191, 16383, 8191, 40959, 131071, 262143, 524287]
theorem msg_Same.tab1 : rtab .any (opsOf Try.f50 1) = msg_Same.T1 := by kernel_rfl
theorem msg_Same.bits1 : waitsOk msg_Same.T1.2 msg_Same.B1 = true := by kernel_rfl

set_option maxHeartbeats 8000000 in
set_option maxRecDepth 100000 in
theorem msg_Same.calls (k : Nat) (aG : Int) (aA : Int) (aB : Int) (az : ByteArray) (aC : Int) (av : Int) (ax : ByteArray) (aw : Int) (aD : Int) (ay : ByteArray) (ap : Int) (an : ByteArray) (ag : Int) (aq : Int) (ai : Int) (ah : Int) (ak : Int) (al : Int) (ao : Int) (aj : ByteArray) (am : ByteArray) (bf : Option Addr) (bg : Nat) (af : List (S61)) (ar : Int) (au : ByteArray) (aI : Option Addr) (aJ : Nat) (ab : List (S63)) (bi : Int) (bj : Int) (bk : Int) (bl : ByteArray) (bm : Int) (bn : Int) (bo : ByteArray) (bp : Int) (bq : Int) (br : ByteArray) (bb : Int) (aQ : ByteArray) (aR : Int) (aS : Int) (aT : Int) (aU : Int) (aV : Int) (aW : Int) (aX : Int) (aY : ByteArray) (aZ : ByteArray) (cD : Option Addr) (cE : Nat) (aO : List (S61)) (ba : Int) (bc : ByteArray) (cH : Option Addr) (cI : Nat) (aP : List (S63)) (r : Bool) (w : World) (cl : Kd.C k61 w bf af.length af) (cm : af.length ≤ bg) (cn : Kd.C k63 w aI ab.length ab) (co : ab.length ≤ aJ) (dE : Kd.C k61 w cD aO.length aO) (dF : aO.length ≤ cE) (dG : Kd.C k63 w cH aP.length aP) (dH : aP.length ≤ cI) (h : msg_Same.f k aG aA aB az aC av ax aw aD ay ap an ag aq ai ah ak al ao aj am af ar au ab bi bj bk bl bm bn bo bp bq br bb aQ aR aS aT aU aV aW aX aY aZ aO ba bc aP = some r) :
  Calls Try.prog 50 #[.agg #[.int .i64 aG, .int .i64 aA, .int .i64 aB, .string az, .int .i64 aC, .int .i64 av, .string ax, .int .i64 aw, .int .i64 aD, .string ay, .int .i64 ap, .string an, .int .i64 ag, .int .i64 aq, .int .i64 ai, .int .i64 ah, .int .i64 ak, .int .i64 al, .int .i64 ao, .string aj, .string am, .slice bf af.length bg, .int .i64 ar, .string au, .slice aI ab.length aJ], .agg #[.int .i64 bi, .int .i64 bj, .int .i64 bk, .string bl, .int .i64 bm, .int .i64 bn, .string bo, .int .i64 bp, .int .i64 bq, .string br, .int .i64 bb, .string aQ, .int .i64 aR, .int .i64 aS, .int .i64 aT, .int .i64 aU, .int .i64 aV, .int .i64 aW, .int .i64 aX, .string aY, .string aZ, .slice cD aO.length cE, .int .i64 ba, .string bc, .slice cH aP.length cI]] w fun e w' => e = .returned (.bool r) ∧ Below w.heap.size w w' := by
 have fp := Try.underlying58
 have da := Aside0.mk cl
 have cF := Aside0.mk cm
 clear cl cm
 have bW := Aside0.mk cn
 have bU := Aside0.mk co
 clear cn co
 have fK := Aside0.mk dE
 have dg := Aside0.mk dF
 clear dE dF
 have fd := Aside0.mk dG
 have dz := Aside0.mk dH
 clear dG dH
 have HB := Aside0.mk (Below.refl w.heap.size w)
 have H : ((msg_strip.f aG aA aB az aC av ax aw aD ay ap an ag aq ai ah ak al ao aj am af ar au ab).bind fun bh => ((msg_strip.f bi bj bk bl bm bn bo bp bq br bb aQ aR aS aT aU aV aW aX aY aZ aO ba bc aP).bind fun aN => (if (bh.1 == aN.1 && (bh.2.1 == aN.2.1 && (bh.2.2.1 == aN.2.2.1 && (bh.2.2.2.1 == aN.2.2.2.1 && (bh.2.2.2.2.1 == aN.2.2.2.2.1 && (bh.2.2.2.2.2.1 == aN.2.2.2.2.2.1 && (bh.2.2.2.2.2.2.1 == aN.2.2.2.2.2.2.1 && (bh.2.2.2.2.2.2.2.1 == aN.2.2.2.2.2.2.2.1 && (bh.2.2.2.2.2.2.2.2.1 == aN.2.2.2.2.2.2.2.2.1 && (bh.2.2.2.2.2.2.2.2.2.1 == aN.2.2.2.2.2.2.2.2.2.1 && (bh.2.2.2.2.2.2.2.2.2.2.1 == aN.2.2.2.2.2.2.2.2.2.2.1 && (bh.2.2.2.2.2.2.2.2.2.2.2.1 == aN.2.2.2.2.2.2.2.2.2.2.2.1 && (bh.2.2.2.2.2.2.2.2.2.2.2.2.1 == aN.2.2.2.2.2.2.2.2.2.2.2.2.1 && (bh.2.2.2.2.2.2.2.2.2.2.2.2.2.1 == aN.2.2.2.2.2.2.2.2.2.2.2.2.2.1 && (bh.2.2.2.2.2.2.2.2.2.2.2.2.2.2.1 == aN.2.2.2.2.2.2.2.2.2.2.2.2.2.2.1 && (bh.2.2.2.2.2.2.2.2.2.2.2.2.2.2.2.1 == aN.2.2.2.2.2.2.2.2.2.2.2.2.2.2.2.1 && (bh.2.2.2.2.2.2.2.2.2.2.2.2.2.2.2.2.1.toList == aN.2.2.2.2.2.2.2.2.2.2.2.2.2.2.2.2.1.toList && (bh.2.2.2.2.2.2.2.2.2.2.2.2.2.2.2.2.2.1.toList == aN.2.2.2.2.2.2.2.2.2.2.2.2.2.2.2.2.2.1.toList && (bh.2.2.2.2.2.2.2.2.2.2.2.2.2.2.2.2.2.2.1.toList == aN.2.2.2.2.2.2.2.2.2.2.2.2.2.2.2.2.2.2.1.toList && (bh.2.2.2.2.2.2.2.2.2.2.2.2.2.2.2.2.2.2.2.1.toList == aN.2.2.2.2.2.2.2.2.2.2.2.2.2.2.2.2.2.2.2.1.toList && (bh.2.2.2.2.2.2.2.2.2.2.2.2.2.2.2.2.2.2.2.2.1.toList == aN.2.2.2.2.2.2.2.2.2.2.2.2.2.2.2.2.2.2.2.2.1.toList && (bh.2.2.2.2.2.2.2.2.2.2.2.2.2.2.2.2.2.2.2.2.2.1.toList == aN.2.2.2.2.2.2.2.2.2.2.2.2.2.2.2.2.2.2.2.2.2.1.toList && (bh.2.2.2.2.2.2.2.2.2.2.2.2.2.2.2.2.2.2.2.2.2.2.toList == aN.2.2.2.2.2.2.2.2.2.2.2.2.2.2.2.2.2.2.2.2.2.2.toList))))))))))))))))))))))) = true then ((api_Dest.f k af aO).bind fun ev => (if ev = true then ((api_Sub.f k ab aP).bind fun dB => (some dB)) else (some false))) else (some false)))) = some r := h
 clear h
 replace H := Option.bind_eq_some_iff.mp H
 obtain ⟨⟨cC, de, dI, dJ, cK, dK, dL, dM, dN, dO, dP, dQ, dR, dS, dT, dU, dV, dW, dX, dY, dZ, ea, eb⟩, hC, H⟩ := H
 replace H : ((msg_strip.f bi bj bk bl bm bn bo bp bq br bb aQ aR aS aT aU aV aW aX aY aZ aO ba bc aP).bind fun aN => (if (cC == aN.1 && (de == aN.2.1 && (dI == aN.2.2.1 && (dJ == aN.2.2.2.1 && (cK == aN.2.2.2.2.1 && (dK == aN.2.2.2.2.2.1 && (dL == aN.2.2.2.2.2.2.1 && (dM == aN.2.2.2.2.2.2.2.1 && (dN == aN.2.2.2.2.2.2.2.2.1 && (dO == aN.2.2.2.2.2.2.2.2.2.1 && (dP == aN.2.2.2.2.2.2.2.2.2.2.1 && (dQ == aN.2.2.2.2.2.2.2.2.2.2.2.1 && (dR == aN.2.2.2.2.2.2.2.2.2.2.2.2.1 && (dS == aN.2.2.2.2.2.2.2.2.2.2.2.2.2.1 && (dT == aN.2.2.2.2.2.2.2.2.2.2.2.2.2.2.1 && (dU == aN.2.2.2.2.2.2.2.2.2.2.2.2.2.2.2.1 && (dV.toList == aN.2.2.2.2.2.2.2.2.2.2.2.2.2.2.2.2.1.toList && (dW.toList == aN.2.2.2.2.2.2.2.2.2.2.2.2.2.2.2.2.2.1.toList && (dX.toList == aN.2.2.2.2.2.2.2.2.2.2.2.2.2.2.2.2.2.2.1.toList && (dY.toList == aN.2.2.2.2.2.2.2.2.2.2.2.2.2.2.2.2.2.2.2.1.toList && (dZ.toList == aN.2.2.2.2.2.2.2.2.2.2.2.2.2.2.2.2.2.2.2.2.1.toList && (ea.toList == aN.2.2.2.2.2.2.2.2.2.2.2.2.2.2.2.2.2.2.2.2.2.1.toList && (eb.toList == aN.2.2.2.2.2.2.2.2.2.2.2.2.2.2.2.2.2.2.2.2.2.2.toList))))))))))))))))))))))) = true then ((api_Dest.f k af aO).bind fun ev => (if ev = true then ((api_Sub.f k ab aP).bind fun dB => (some dB)) else (some false))) else (some false))) = some r := H
 have A3 := Aside0.mk hC
 clear hC
 replace H := Option.bind_eq_some_iff.mp H
 obtain ⟨⟨ew, ex, ey, ez, eA, eB, eC, eD, eE, eF, eG, eH, eI, eJ, eK, eL, eM, eN, eO, eP, eQ, eR, eS⟩, iL, H⟩ := H
 replace H : (if (cC == ew && (de == ex && (dI == ey && (dJ == ez && (cK == eA && (dK == eB && (dL == eC && (dM == eD && (dN == eE && (dO == eF && (dP == eG && (dQ == eH && (dR == eI && (dS == eJ && (dT == eK && (dU == eL && (dV.toList == eM.toList && (dW.toList == eN.toList && (dX.toList == eO.toList && (dY.toList == eP.toList && (dZ.toList == eQ.toList && (ea.toList == eR.toList && (eb.toList == eS.toList))))))))))))))))))))))) = true then ((api_Dest.f k af aO).bind fun ev => (if ev = true then ((api_Sub.f k ab aP).bind fun dB => (some dB)) else (some false))) else (some false)) = some r := H
 have A4 := Aside0.mk iL
 clear iL
 by_cases c5 : (cC == ew && (de == ex && (dI == ey && (dJ == ez && (cK == eA && (dK == eB && (dL == eC && (dM == eD && (dN == eE && (dO == eF && (dP == eG && (dQ == eH && (dR == eI && (dS == eJ && (dT == eK && (dU == eL && (dV.toList == eM.toList && (dW.toList == eN.toList && (dX.toList == eO.toList && (dY.toList == eP.toList && (dZ.toList == eQ.toList && (ea.toList == eR.toList && (eb.toList == eS.toList))))))))))))))))))))))) = true
 ·rw [if_pos c5] at H
  have ec : (cC == ew && (de == ex && (dI == ey && (dJ == ez && (cK == eA && (dK == eB && (dL == eC && (dM == eD && (dN == eE && (dO == eF && (dP == eG && (dQ == eH && (dR == eI && (dS == eJ && (dT == eK && (dU == eL && (dV.toList == eM.toList && (dW.toList == eN.toList && (dX.toList == eO.toList && (dY.toList == eP.toList && (dZ.toList == eQ.toList && (ea.toList == eR.toList && (eb.toList == eS.toList))))))))))))))))))))))) = true := c5
  have c5p : (cC = ew ∧ de = ex ∧ dI = ey ∧ dJ = ez ∧ cK = eA ∧ dK = eB ∧ dL = eC ∧ dM = eD ∧ dN = eE ∧ dO = eF ∧ dP = eG ∧ dQ = eH ∧ dR = eI ∧ dS = eJ ∧ dT = eK ∧ dU = eL ∧ dV.toList = eM.toList ∧ dW.toList = eN.toList ∧ dX.toList = eO.toList ∧ dY.toList = eP.toList ∧ dZ.toList = eQ.toList ∧ ea.toList = eR.toList ∧ eb.toList = eS.toList) = True := eq_true (by simpa only [Bool.and_eq_true, beq_iff_eq] using ec)
  clear c5
  replace H := Option.bind_eq_some_iff.mp H
  obtain ⟨ev, hI, H⟩ := H
  replace H : (if ev = true then ((api_Sub.f k ab aP).bind fun dB => (some dB)) else (some false)) = some r := H
  have A6 := Aside0.mk hI
  clear hI
  by_cases c7 : ev = true
  ·subst c7
   replace H := Sq.itT H
   replace H := Option.bind_eq_some_iff.mp H
   obtain ⟨dB, iM, H⟩ := H
   replace H : (some dB) = some r := H
   have A8 := Aside0.mk iM
   clear iM
   obtain rfl := Option.some.inj H
   go_enter Try.func50, Try.ntmps50
   try go_wp2_with (first | ((with_reducible refine Pre.gate_load 58 rfl ?_); (try (refine gate_guard Z13 ?_; dsimp only)); refine Pre.load_event rfl rfl rfl Z13 Z6 Try.underlying58 rfl Z5 ?_) | ((with_reducible refine gate_dst (N := 2) rfl ?_); refine box_event ?hg (N := 2) ?hd (cs := #[.int .i64 aG, .int .i64 aA, .int .i64 aB, .string az, .int .i64 aC, .int .i64 av, .string ax, .int .i64 aw, .int .i64 aD, .string ay, .int .i64 ap, .string an, .int .i64 ag, .int .i64 aq, .int .i64 ai, .int .i64 ah, .int .i64 ak, .int .i64 al, .int .i64 ao, .string aj, .string am, .slice bf af.length bg, .int .i64 ar, .string au, .slice aI ab.length aJ]) (t := 58) ?hr ?_; (case hd => rfl); (case hg => rfl); (case hr => first | (go_simp; done) | (go_simp; rfl)); intro aF hg w9 hbox hb; have aH := Aside0.mk (below_step Z0 hb); have aK := Aside0.mk (hbox); have aL := Aside0.mk ((by rw [hg]; exact (below_size Z0) : w.heap.size ≤ aF)); have cQ := Aside0.mk ((by rw [hg]; exact (below_size Z0) : w.heap.size ≤ aF)); replace HB := aH; have ae := aK; have fb := aL; have ed := cQ; clear aH aK aL cQ; clear hb hbox hg) | ((with_reducible refine gate_dst (N := 3) rfl ?_); refine box_event ?hg (N := 3) ?hd (cs := #[.int .i64 bi, .int .i64 bj, .int .i64 bk, .string bl, .int .i64 bm, .int .i64 bn, .string bo, .int .i64 bp, .int .i64 bq, .string br, .int .i64 bb, .string aQ, .int .i64 aR, .int .i64 aS, .int .i64 aT, .int .i64 aU, .int .i64 aV, .int .i64 aW, .int .i64 aX, .string aY, .string aZ, .slice cD aO.length cE, .int .i64 ba, .string bc, .slice cH aP.length cI]) (t := 58) ?hr ?_; (case hd => rfl); (case hg => rfl); (case hr => first | (go_simp; done) | (go_simp; rfl)); intro aE hg il hbox hb; have aH := Aside0.mk (blk_below (g := aF) Z3 hb); have aK := Aside0.mk (below_step Z1 hb); have aL := Aside0.mk (hbox); have cQ := Aside0.mk ((by rw [hg]; exact (below_size Z1) : w.heap.size ≤ aE)); have fe := Aside0.mk ((by rw [hg]; exact (below_size Z1) : w.heap.size ≤ aE)); have ff := Aside0.mk ((by rw [hg]; exact Nat.ne_of_lt (blk_lt (g := aF) Z3) : aF ≠ aE)); have fg := Aside0.mk ((by rw [hg]; exact Nat.ne_of_gt (blk_lt (g := aF) Z3) : aE ≠ aF)); replace ae := aH; replace HB := aK; have ac := aL; have dl := cQ; have dd := fe; have cG := ff; have cJ := fg; clear aH aK aL cQ fe ff fg; clear hb hbox hg))
   have aH := Aside0.mk (blk_drew ae.out)
   have aK := Aside0.mk (blk_drew ac.out)
   have aL := Aside0.mk (below_drew1 HB.out)
   clear ae
   clear ac
   clear HB
   have ae := aH
   have ac := aK
   have HB := aL
   clear aH aK aL
   refine start_ (n := 20) (S := fun w' => w'.heap[aF]? = some (.cells #[.int .i64 aG, .int .i64 aA, .int .i64 aB, .string az, .int .i64 aC, .int .i64 av, .string ax, .int .i64 aw, .int .i64 aD, .string ay, .int .i64 ap, .string an, .int .i64 ag, .int .i64 aq, .int .i64 ai, .int .i64 ah, .int .i64 ak, .int .i64 al, .int .i64 ao, .string aj, .string am, .slice bf af.length bg, .int .i64 ar, .string au, .slice aI ab.length aJ] 58 (0, 0)) ∧ w'.cell? ⟨aF, 21, none⟩ = some (.slice bf af.length bg) ∧ w'.cell? ⟨aF, 24, none⟩ = some (.slice aI ab.length aJ) ∧ w'.heap[aE]? = some (.cells #[.int .i64 bi, .int .i64 bj, .int .i64 bk, .string bl, .int .i64 bm, .int .i64 bn, .string bo, .int .i64 bp, .int .i64 bq, .string br, .int .i64 bb, .string aQ, .int .i64 aR, .int .i64 aS, .int .i64 aT, .int .i64 aU, .int .i64 aV, .int .i64 aW, .int .i64 aX, .string aY, .string aZ, .slice cD aO.length cE, .int .i64 ba, .string bc, .slice cH aP.length cI] 58 (0, 0)) ∧ w'.cell? ⟨aE, 21, none⟩ = some (.slice cD aO.length cE) ∧ w'.cell? ⟨aE, 24, none⟩ = some (.slice cH aP.length cI)) (ds := []) #[false, false, false, false, false, false, false, false, false, false, false, false, false, false, false, false, false, false, false, false] Z5 rfl rfl ⟨ae.out, (blk_cell ae.out 21).trans rfl, (blk_cell ae.out 24).trans rfl, ac.out, (blk_cell ac.out 21).trans rfl, (blk_cell ac.out 24).trans rfl⟩ (fun hHeld => ?_); refine with_tabW msg_Same.tab1 msg_Same.bits1 (fun HT_ HW_ => ?_)
   generalize il.drew = hG at ae ac HB hHeld ⊢
   refine take_ (i := 0) (N := some 5) (v := ?_) (a' := ?_) #[true, false, false, false, false, false, false, false, false, false, false, false, false, false, false, false, false, false, false, false] rfl rfl (take_ofW HT_.out HW_.out Z5) (fun _ _ _ h => h) (Or.inl ⟨Z13, ?_⟩) hHeld ?_ ?_
   rotate_left
   ·rintro w' ⟨s0, s1, s2, s3, s4, s5⟩
    first | (refine Eq.trans (Pre.load_run (ty := 58) rfl Z13 (by with_reducible assumption) Try.underlying58 rfl Z5) ?_; with_reducible rfl) | (go_simp; with_reducible rfl)
   rotate_left
   ·simp only [Act.put, List.setIfInBounds_toArray, List.set_cons_zero, List.set_cons_succ, i64_w, i32_w]
    rfl
   refine take_ (i := 2) (N := some 7) (v := ?_) (a' := ?_) #[true, false, true, false, false, false, false, false, false, false, false, false, false, false, false, false, false, false, false, false] rfl rfl (take_ofW HT_.out HW_.out Z5) (fun _ _ _ h => h) (Or.inl ⟨Z13, ?_⟩) hHeld ?_ ?_
   rotate_left
   ·rintro w' ⟨s0, s1, s2, s3, s4, s5⟩
    first | (refine Eq.trans (Pre.load_run (ty := 58) rfl Z13 (by with_reducible assumption) Try.underlying58 rfl Z5) ?_; with_reducible rfl) | (go_simp; with_reducible rfl)
   rotate_left
   ·simp only [Act.put, List.setIfInBounds_toArray, List.set_cons_zero, List.set_cons_succ, i64_w, i32_w]
    rfl
   refine one_ (i := 1) (N := some 6) #[true, true, true, false, false, false, false, false, false, false, false, false, false, false, false, false, false, false, false, false] rfl rfl (one_of HT_.out Z5) Z15 (fun K hK => ?_)
   refine goes_ Try.func77 Z5 rfl #[.agg #[.int .i64 aG, .int .i64 aA, .int .i64 aB, .string az, .int .i64 aC, .int .i64 av, .string ax, .int .i64 aw, .int .i64 aD, .string ay, .int .i64 ap, .string an, .int .i64 ag, .int .i64 aq, .int .i64 ai, .int .i64 ah, .int .i64 ak, .int .i64 al, .int .i64 ao, .string aj, .string am, .slice bf af.length bg, .int .i64 ar, .string au, .slice aI ab.length aJ]] Z13 rfl rfl Z9 ?_
   with_reducible refine (msg_strip.calls aG aA aB az aC av ax aw aD ay ap an ag aq ai ah ak al ao aj am _ _ af ar au _ _ ab cC de dI dJ cK dK dL dM dN dO dP dQ dR dS dT dU dV dW dX dY dZ ea eb _ ?side1 ?side2 ?side3 ?side4 A3.out).mono ?_
   (case side1 => exact Z12)
   (case side2 => exact cF.out)
   (case side3 => exact Z21)
   (case side4 => exact bU.out)
   rintro e iP ⟨rfl, hb⟩
   refine ⟨_, rfl, ?_⟩
   have aH := Aside0.mk (blk_below (g := aF) Z3 hb)
   have aK := Aside0.mk (blk_below (g := aE) Z19 hb)
   have aL := Aside0.mk (below_step Z4 hb)
   clear ae
   clear ac
   clear HB
   have ae := aH
   have ac := aK
   have HB := aL
   clear aH aK aL
   (try clear hb)
   (try clear hb2)
   (try clear hk)
   (try clear hi)
   refine hK.out _ _ ⟨ae.out, (blk_cell ae.out 21).trans rfl, (blk_cell ae.out 24).trans rfl, ac.out, (blk_cell ac.out 21).trans rfl, (blk_cell ac.out 24).trans rfl⟩ (fun hHeld => ?_)
   clear hK K
   refine norm_ (a' := ?_) ?_ ?_
   rotate_left
   ·show Act.put _ (some 6) _ = _
    simp only [Act.put, List.setIfInBounds_toArray, List.set_cons_zero, List.set_cons_succ, i64_w, i32_w]
    rfl
   refine one_ (i := 3) (N := some 8) #[true, true, true, true, false, false, false, false, false, false, false, false, false, false, false, false, false, false, false, false] rfl rfl (one_of HT_.out Z5) Z15 (fun K hK => ?_)
   refine goes_ Try.func77 Z5 rfl #[.agg #[.int .i64 bi, .int .i64 bj, .int .i64 bk, .string bl, .int .i64 bm, .int .i64 bn, .string bo, .int .i64 bp, .int .i64 bq, .string br, .int .i64 bb, .string aQ, .int .i64 aR, .int .i64 aS, .int .i64 aT, .int .i64 aU, .int .i64 aV, .int .i64 aW, .int .i64 aX, .string aY, .string aZ, .slice cD aO.length cE, .int .i64 ba, .string bc, .slice cH aP.length cI]] Z13 rfl rfl Z9 ?_
   with_reducible refine (msg_strip.calls bi bj bk bl bm bn bo bp bq br bb aQ aR aS aT aU aV aW aX aY aZ _ _ aO ba bc _ _ aP ew ex ey ez eA eB eC eD eE eF eG eH eI eJ eK eL eM eN eO eP eQ eR eS _ ?side1 ?side2 ?side3 ?side4 A4.out).mono ?_
   (case side1 => exact Z16)
   (case side2 => exact dg.out)
   (case side3 => exact Z29)
   (case side4 => exact dz.out)
   rintro e w13 ⟨rfl, hb⟩
   refine ⟨_, rfl, ?_⟩
   have aH := Aside0.mk (blk_below (g := aF) Z3 hb)
   have aK := Aside0.mk (blk_below (g := aE) Z19 hb)
   have aL := Aside0.mk (below_step Z4 hb)
   clear ae
   clear ac
   clear HB
   have ae := aH
   have ac := aK
   have HB := aL
   clear aH aK aL
   (try clear hb)
   (try clear hb2)
   (try clear hk)
   (try clear hi)
   refine hK.out _ _ ⟨ae.out, (blk_cell ae.out 21).trans rfl, (blk_cell ae.out 24).trans rfl, ac.out, (blk_cell ac.out 21).trans rfl, (blk_cell ac.out 24).trans rfl⟩ (fun hHeld => ?_)
   clear hK K
   refine norm_ (a' := ?_) ?_ ?_
   rotate_left
   ·show Act.put _ (some 8) _ = _
    simp only [Act.put, List.setIfInBounds_toArray, List.set_cons_zero, List.set_cons_succ, i64_w, i32_w]
    rfl
   refine pure_ (i := 4) (N := some 9) (v := ?_) (a' := ?_) #[true, true, true, true, true, false, false, false, false, false, false, false, false, false, false, false, false, false, false, false] rfl rfl (any_of HT_.out Z5) (fun _ _ _ h => h) (Or.inl ⟨Z13, ?_⟩) ?_ ?_
   rotate_left
   ·intro w'
    go_simp
    with_reducible rfl
   rotate_left
   ·simp only [Act.put, List.setIfInBounds_toArray, List.set_cons_zero, List.set_cons_succ, i64_w, i32_w]
    rfl
   refine pure_ (i := 5) (N := some 10) (v := ?_) (a' := ?_) #[true, true, true, true, true, true, false, false, false, false, false, false, false, false, false, false, false, false, false, false] rfl rfl (any_of HT_.out Z5) (fun _ _ _ h => h) (Or.inl ⟨Z13, ?_⟩) ?_ ?_
   rotate_left
   ·intro w'
    go_simp
    with_reducible rfl
   rotate_left
   ·simp only [Act.put, List.setIfInBounds_toArray, List.set_cons_zero, List.set_cons_succ, i64_w, i32_w]
    rfl
   refine pure_ (i := 6) (N := some 11) (v := ?_) (a' := ?_) #[true, true, true, true, true, true, true, false, false, false, false, false, false, false, false, false, false, false, false, false] rfl rfl (any_of HT_.out Z5) (fun _ _ _ h => h) (Or.inl ⟨Z13, ?_⟩) ?_ ?_
   rotate_left
   ·intro w'
    go_simp
    with_reducible rfl
   rotate_left
   ·simp only [Act.put, List.setIfInBounds_toArray, List.set_cons_zero, List.set_cons_succ, i64_w, i32_w]
    rfl
   refine pure_ (i := 8) (N := some 13) (v := ?_) (a' := ?_) #[true, true, true, true, true, true, true, false, true, false, false, false, false, false, false, false, false, false, false, false] rfl rfl (any_of HT_.out Z5) (fun _ _ _ h => h) (Or.inl ⟨Z13, ?_⟩) ?_ ?_
   rotate_left
   ·intro w'
    go_simp
    with_reducible rfl
   rotate_left
   ·simp only [Act.put, List.setIfInBounds_toArray, List.set_cons_zero, List.set_cons_succ, i64_w, i32_w]
    rfl
   refine take_ (i := 7) (N := some 12) (v := ?_) (a' := ?_) #[true, true, true, true, true, true, true, true, true, false, false, false, false, false, false, false, false, false, false, false] rfl rfl (take_ofW HT_.out HW_.out Z5) (fun _ _ _ h => h) (Or.inl ⟨Z13, ?_⟩) hHeld ?_ ?_
   rotate_left
   ·rintro w' ⟨s0, s1, s2, s3, s4, s5⟩
    first | (refine Eq.trans (Pre.load_run (ty := 58) rfl Z13 (by with_reducible assumption) Try.underlying58 rfl Z5) ?_; with_reducible rfl) | (go_simp; with_reducible rfl)
   rotate_left
   ·simp only [Act.put, List.setIfInBounds_toArray, List.set_cons_zero, List.set_cons_succ, i64_w, i32_w]
    rfl
   refine take_ (i := 9) (N := some 14) (v := ?_) (a' := ?_) #[true, true, true, true, true, true, true, true, true, true, false, false, false, false, false, false, false, false, false, false] rfl rfl (take_ofW HT_.out HW_.out Z5) (fun _ _ _ h => h) (Or.inl ⟨Z13, ?_⟩) hHeld ?_ ?_
   rotate_left
   ·rintro w' ⟨s0, s1, s2, s3, s4, s5⟩
    first | (refine Eq.trans (Pre.load_run (ty := 58) rfl Z13 (by with_reducible assumption) Try.underlying58 rfl Z5) ?_; with_reducible rfl) | (go_simp; with_reducible rfl)
   rotate_left
   ·simp only [Act.put, List.setIfInBounds_toArray, List.set_cons_zero, List.set_cons_succ, i64_w, i32_w]
    rfl
   refine one_ (i := 10) (N := some 15) #[true, true, true, true, true, true, true, true, true, true, true, false, false, false, false, false, false, false, false, false] rfl rfl (one_of HT_.out Z5) Z15 (fun K hK => ?_)
   refine goes_ Try.func78 Z5 rfl #[.slice bf af.length bg, .slice cD aO.length cE] Z13 rfl rfl Z9 ?_
   with_reducible refine (api_Dest.calls k _ _ af _ _ aO true _ ?side1 ?side2 ?side3 ?side4 A6.out).mono ?_
   (case side1 => exact Z12)
   (case side2 => exact cF.out)
   (case side3 => exact Z16)
   (case side4 => exact dg.out)
   rintro e w' ⟨rfl, ⟨nd, rfl⟩⟩
   refine ⟨_, rfl, ?_⟩
   refine hK.out _ _ ⟨ae.out, (blk_cell ae.out 21).trans rfl, (blk_cell ae.out 24).trans rfl, ac.out, (blk_cell ac.out 21).trans rfl, (blk_cell ac.out 24).trans rfl⟩ (fun hHeld => ?_)
   clear hK K
   refine norm_ (a' := ?_) ?_ ?_
   rotate_left
   ·show Act.put _ (some 15) _ = _
    simp only [Act.put, List.setIfInBounds_toArray, List.set_cons_zero, List.set_cons_succ, i64_w, i32_w]
    rfl
   refine pure_ (i := 11) (N := some 16) (v := ?_) (a' := ?_) #[true, true, true, true, true, true, true, true, true, true, true, true, false, false, false, false, false, false, false, false] rfl rfl (any_of HT_.out Z5) (fun _ _ _ h => h) (Or.inl ⟨Z13, ?_⟩) ?_ ?_
   rotate_left
   ·intro w'
    go_simp
    with_reducible rfl
   rotate_left
   ·simp only [Act.put, List.setIfInBounds_toArray, List.set_cons_zero, List.set_cons_succ, i64_w, i32_w]
    rfl
   refine pure_ (i := 12) (N := some 17) (v := ?_) (a' := ?_) #[true, true, true, true, true, true, true, true, true, true, true, true, true, false, false, false, false, false, false, false] rfl rfl (any_of HT_.out Z5) (fun _ _ _ h => h) (Or.inl ⟨Z13, ?_⟩) ?_ ?_
   rotate_left
   ·intro w'
    go_simp
    with_reducible rfl
   rotate_left
   ·simp only [Act.put, List.setIfInBounds_toArray, List.set_cons_zero, List.set_cons_succ, i64_w, i32_w]
    rfl
   refine pure_ (i := 13) (N := some 18) (v := ?_) (a' := ?_) #[true, true, true, true, true, true, true, true, true, true, true, true, true, true, false, false, false, false, false, false] rfl rfl (any_of HT_.out Z5) (fun _ _ _ h => h) (Or.inl ⟨Z13, ?_⟩) ?_ ?_
   rotate_left
   ·intro w'
    go_simp
    with_reducible rfl
   rotate_left
   ·simp only [Act.put, List.setIfInBounds_toArray, List.set_cons_zero, List.set_cons_succ, i64_w, i32_w]
    rfl
   refine pure_ (i := 15) (N := some 20) (v := ?_) (a' := ?_) #[true, true, true, true, true, true, true, true, true, true, true, true, true, true, false, true, false, false, false, false] rfl rfl (any_of HT_.out Z5) (fun _ _ _ h => h) (Or.inl ⟨Z13, ?_⟩) ?_ ?_
   rotate_left
   ·intro w'
    go_simp
    with_reducible rfl
   rotate_left
   ·simp only [Act.put, List.setIfInBounds_toArray, List.set_cons_zero, List.set_cons_succ, i64_w, i32_w]
    rfl
   refine take_ (i := 14) (N := some 19) (v := ?_) (a' := ?_) #[true, true, true, true, true, true, true, true, true, true, true, true, true, true, true, true, false, false, false, false] rfl rfl (take_ofW HT_.out HW_.out Z5) (fun _ _ _ h => h) (Or.inl ⟨Z13, ?_⟩) hHeld ?_ ?_
   rotate_left
   ·rintro w' ⟨s0, s1, s2, s3, s4, s5⟩
    first | (refine Eq.trans (Pre.load_run (ty := 58) rfl Z13 (by with_reducible assumption) Try.underlying58 rfl Z5) ?_; with_reducible rfl) | (go_simp; with_reducible rfl)
   rotate_left
   ·simp only [Act.put, List.setIfInBounds_toArray, List.set_cons_zero, List.set_cons_succ, i64_w, i32_w]
    rfl
   refine take_ (i := 16) (N := some 21) (v := ?_) (a' := ?_) #[true, true, true, true, true, true, true, true, true, true, true, true, true, true, true, true, true, false, false, false] rfl rfl (take_ofW HT_.out HW_.out Z5) (fun _ _ _ h => h) (Or.inl ⟨Z13, ?_⟩) hHeld ?_ ?_
   rotate_left
   ·rintro w' ⟨s0, s1, s2, s3, s4, s5⟩
    first | (refine Eq.trans (Pre.load_run (ty := 58) rfl Z13 (by with_reducible assumption) Try.underlying58 rfl Z5) ?_; with_reducible rfl) | (go_simp; with_reducible rfl)
   rotate_left
   ·simp only [Act.put, List.setIfInBounds_toArray, List.set_cons_zero, List.set_cons_succ, i64_w, i32_w]
    rfl
   refine one_ (i := 17) (N := some 22) #[true, true, true, true, true, true, true, true, true, true, true, true, true, true, true, true, true, true, false, false] rfl rfl (one_of HT_.out Z5) Z15 (fun K hK => ?_)
   refine goes_ Try.func79 Z5 rfl #[.slice aI ab.length aJ, .slice cH aP.length cI] Z13 rfl rfl Z9 ?_
   with_reducible refine (api_Sub.calls k _ _ ab _ _ aP dB _ ?side1 ?side2 ?side3 ?side4 A8.out).mono ?_
   (case side1 => exact Z35)
   (case side2 => exact bU.out)
   (case side3 => exact Z34)
   (case side4 => exact dz.out)
   rintro e w' ⟨rfl, ⟨nd, rfl⟩⟩
   refine ⟨_, rfl, ?_⟩
   refine hK.out _ _ ⟨ae.out, (blk_cell ae.out 21).trans rfl, (blk_cell ae.out 24).trans rfl, ac.out, (blk_cell ac.out 21).trans rfl, (blk_cell ac.out 24).trans rfl⟩ (fun hHeld => ?_)
   clear hK K
   refine norm_ (a' := ?_) ?_ ?_
   rotate_left
   ·show Act.put _ (some 22) _ = _
    simp only [Act.put, List.setIfInBounds_toArray, List.set_cons_zero, List.set_cons_succ, i64_w, i32_w]
    rfl
   refine pure_ (i := 18) (N := some 23) (v := ?_) (a' := ?_) #[true, true, true, true, true, true, true, true, true, true, true, true, true, true, true, true, true, true, true, false] rfl rfl (any_of HT_.out Z5) (fun _ _ _ h => h) (Or.inl ⟨Z13, ?_⟩) ?_ ?_
   rotate_left
   ·intro w'
    go_simp
    with_reducible rfl
   rotate_left
   ·simp only [Act.put, List.setIfInBounds_toArray, List.set_cons_zero, List.set_cons_succ, i64_w, i32_w]
    rfl
   refine pure_ (i := 19) (N := some 4) (v := ?_) (a' := ?_) #[true, true, true, true, true, true, true, true, true, true, true, true, true, true, true, true, true, true, true, true] rfl rfl (any_of HT_.out Z5) (fun _ _ _ h => h) (Or.inl ⟨Z13, ?_⟩) ?_ ?_
   rotate_left
   ·intro w'
    go_simp
    with_reducible rfl
   rotate_left
   ·simp only [Act.put, List.setIfInBounds_toArray, List.set_cons_zero, List.set_cons_succ, i64_w, i32_w]
    rfl
   refine done_ (done_of HT_.out Z5) ?_
   try go_wp2_with (first | ((with_reducible refine Pre.gate_load 58 rfl ?_); (try (refine gate_guard Z13 ?_; dsimp only)); refine Pre.load_event rfl rfl rfl Z13 Z6 Try.underlying58 rfl Z5 ?_))
   go_ret
   exact ⟨Z8, Z4⟩
  ·replace c7 := Bool.eq_false_iff.mpr c7
   subst c7
   replace H := Sq.itF H
   obtain rfl := Option.some.inj H
   go_enter Try.func50, Try.ntmps50
   try go_wp2_with (first | ((with_reducible refine Pre.gate_load 58 rfl ?_); (try (refine gate_guard Z13 ?_; dsimp only)); refine Pre.load_event rfl rfl rfl Z13 Z6 Try.underlying58 rfl Z5 ?_) | ((with_reducible refine gate_dst (N := 2) rfl ?_); refine box_event ?hg (N := 2) ?hd (cs := #[.int .i64 aG, .int .i64 aA, .int .i64 aB, .string az, .int .i64 aC, .int .i64 av, .string ax, .int .i64 aw, .int .i64 aD, .string ay, .int .i64 ap, .string an, .int .i64 ag, .int .i64 aq, .int .i64 ai, .int .i64 ah, .int .i64 ak, .int .i64 al, .int .i64 ao, .string aj, .string am, .slice bf af.length bg, .int .i64 ar, .string au, .slice aI ab.length aJ]) (t := 58) ?hr ?_; (case hd => rfl); (case hg => rfl); (case hr => first | (go_simp; done) | (go_simp; rfl)); intro aF hg ie hbox hb; have aH := Aside0.mk (below_step Z0 hb); have aK := Aside0.mk (hbox); have aL := Aside0.mk ((by rw [hg]; exact (below_size Z0) : w.heap.size ≤ aF)); have cQ := Aside0.mk ((by rw [hg]; exact (below_size Z0) : w.heap.size ≤ aF)); replace HB := aH; have ae := aK; have fb := aL; have ed := cQ; clear aH aK aL cQ; clear hb hbox hg) | ((with_reducible refine gate_dst (N := 3) rfl ?_); refine box_event ?hg (N := 3) ?hd (cs := #[.int .i64 bi, .int .i64 bj, .int .i64 bk, .string bl, .int .i64 bm, .int .i64 bn, .string bo, .int .i64 bp, .int .i64 bq, .string br, .int .i64 bb, .string aQ, .int .i64 aR, .int .i64 aS, .int .i64 aT, .int .i64 aU, .int .i64 aV, .int .i64 aW, .int .i64 aX, .string aY, .string aZ, .slice cD aO.length cE, .int .i64 ba, .string bc, .slice cH aP.length cI]) (t := 58) ?hr ?_; (case hd => rfl); (case hg => rfl); (case hr => first | (go_simp; done) | (go_simp; rfl)); intro aE hg iQ hbox hb; have aH := Aside0.mk (blk_below (g := aF) Z3 hb); have aK := Aside0.mk (below_step Z1 hb); have aL := Aside0.mk (hbox); have cQ := Aside0.mk ((by rw [hg]; exact (below_size Z1) : w.heap.size ≤ aE)); have fe := Aside0.mk ((by rw [hg]; exact (below_size Z1) : w.heap.size ≤ aE)); have ff := Aside0.mk ((by rw [hg]; exact Nat.ne_of_lt (blk_lt (g := aF) Z3) : aF ≠ aE)); have fg := Aside0.mk ((by rw [hg]; exact Nat.ne_of_gt (blk_lt (g := aF) Z3) : aE ≠ aF)); replace ae := aH; replace HB := aK; have ac := aL; have dl := cQ; have dd := fe; have cG := ff; have cJ := fg; clear aH aK aL cQ fe ff fg; clear hb hbox hg))
   have aH := Aside0.mk (blk_drew ae.out)
   have aK := Aside0.mk (blk_drew ac.out)
   have aL := Aside0.mk (below_drew1 HB.out)
   clear ae
   clear ac
   clear HB
   have ae := aH
   have ac := aK
   have HB := aL
   clear aH aK aL
   refine start_ (n := 20) (S := fun w' => w'.heap[aF]? = some (.cells #[.int .i64 aG, .int .i64 aA, .int .i64 aB, .string az, .int .i64 aC, .int .i64 av, .string ax, .int .i64 aw, .int .i64 aD, .string ay, .int .i64 ap, .string an, .int .i64 ag, .int .i64 aq, .int .i64 ai, .int .i64 ah, .int .i64 ak, .int .i64 al, .int .i64 ao, .string aj, .string am, .slice bf af.length bg, .int .i64 ar, .string au, .slice aI ab.length aJ] 58 (0, 0)) ∧ w'.cell? ⟨aF, 21, none⟩ = some (.slice bf af.length bg) ∧ w'.cell? ⟨aF, 24, none⟩ = some (.slice aI ab.length aJ) ∧ w'.heap[aE]? = some (.cells #[.int .i64 bi, .int .i64 bj, .int .i64 bk, .string bl, .int .i64 bm, .int .i64 bn, .string bo, .int .i64 bp, .int .i64 bq, .string br, .int .i64 bb, .string aQ, .int .i64 aR, .int .i64 aS, .int .i64 aT, .int .i64 aU, .int .i64 aV, .int .i64 aW, .int .i64 aX, .string aY, .string aZ, .slice cD aO.length cE, .int .i64 ba, .string bc, .slice cH aP.length cI] 58 (0, 0)) ∧ w'.cell? ⟨aE, 21, none⟩ = some (.slice cD aO.length cE) ∧ w'.cell? ⟨aE, 24, none⟩ = some (.slice cH aP.length cI)) (ds := []) #[false, false, false, false, false, false, false, false, false, false, false, false, false, false, false, false, false, false, false, false] Z5 rfl rfl ⟨ae.out, (blk_cell ae.out 21).trans rfl, (blk_cell ae.out 24).trans rfl, ac.out, (blk_cell ac.out 21).trans rfl, (blk_cell ac.out 24).trans rfl⟩ (fun hHeld => ?_); refine with_tabW msg_Same.tab1 msg_Same.bits1 (fun HT_ HW_ => ?_)
   generalize iQ.drew = im at ae ac HB hHeld ⊢
   refine take_ (i := 0) (N := some 5) (v := ?_) (a' := ?_) #[true, false, false, false, false, false, false, false, false, false, false, false, false, false, false, false, false, false, false, false] rfl rfl (take_ofW HT_.out HW_.out Z5) (fun _ _ _ h => h) (Or.inl ⟨Z13, ?_⟩) hHeld ?_ ?_
   rotate_left
   ·rintro w' ⟨s0, s1, s2, s3, s4, s5⟩
    first | (refine Eq.trans (Pre.load_run (ty := 58) rfl Z13 (by with_reducible assumption) Try.underlying58 rfl Z5) ?_; with_reducible rfl) | (go_simp; with_reducible rfl)
   rotate_left
   ·simp only [Act.put, List.setIfInBounds_toArray, List.set_cons_zero, List.set_cons_succ, i64_w, i32_w]
    rfl
   refine take_ (i := 2) (N := some 7) (v := ?_) (a' := ?_) #[true, false, true, false, false, false, false, false, false, false, false, false, false, false, false, false, false, false, false, false] rfl rfl (take_ofW HT_.out HW_.out Z5) (fun _ _ _ h => h) (Or.inl ⟨Z13, ?_⟩) hHeld ?_ ?_
   rotate_left
   ·rintro w' ⟨s0, s1, s2, s3, s4, s5⟩
    first | (refine Eq.trans (Pre.load_run (ty := 58) rfl Z13 (by with_reducible assumption) Try.underlying58 rfl Z5) ?_; with_reducible rfl) | (go_simp; with_reducible rfl)
   rotate_left
   ·simp only [Act.put, List.setIfInBounds_toArray, List.set_cons_zero, List.set_cons_succ, i64_w, i32_w]
    rfl
   refine one_ (i := 1) (N := some 6) #[true, true, true, false, false, false, false, false, false, false, false, false, false, false, false, false, false, false, false, false] rfl rfl (one_of HT_.out Z5) Z15 (fun K hK => ?_)
   refine goes_ Try.func77 Z5 rfl #[.agg #[.int .i64 aG, .int .i64 aA, .int .i64 aB, .string az, .int .i64 aC, .int .i64 av, .string ax, .int .i64 aw, .int .i64 aD, .string ay, .int .i64 ap, .string an, .int .i64 ag, .int .i64 aq, .int .i64 ai, .int .i64 ah, .int .i64 ak, .int .i64 al, .int .i64 ao, .string aj, .string am, .slice bf af.length bg, .int .i64 ar, .string au, .slice aI ab.length aJ]] Z13 rfl rfl Z9 ?_
   with_reducible refine (msg_strip.calls aG aA aB az aC av ax aw aD ay ap an ag aq ai ah ak al ao aj am _ _ af ar au _ _ ab cC de dI dJ cK dK dL dM dN dO dP dQ dR dS dT dU dV dW dX dY dZ ea eb _ ?side1 ?side2 ?side3 ?side4 A3.out).mono ?_
   (case side1 => exact Z12)
   (case side2 => exact cF.out)
   (case side3 => exact Z21)
   (case side4 => exact bU.out)
   rintro e w17 ⟨rfl, hb⟩
   refine ⟨_, rfl, ?_⟩
   have aH := Aside0.mk (blk_below (g := aF) Z3 hb)
   have aK := Aside0.mk (blk_below (g := aE) Z19 hb)
   have aL := Aside0.mk (below_step Z4 hb)
   clear ae
   clear ac
   clear HB
   have ae := aH
   have ac := aK
   have HB := aL
   clear aH aK aL
   (try clear hb)
   (try clear hb2)
   (try clear hk)
   (try clear hi)
   refine hK.out _ _ ⟨ae.out, (blk_cell ae.out 21).trans rfl, (blk_cell ae.out 24).trans rfl, ac.out, (blk_cell ac.out 21).trans rfl, (blk_cell ac.out 24).trans rfl⟩ (fun hHeld => ?_)
   clear hK K
   refine norm_ (a' := ?_) ?_ ?_
   rotate_left
   ·show Act.put _ (some 6) _ = _
    simp only [Act.put, List.setIfInBounds_toArray, List.set_cons_zero, List.set_cons_succ, i64_w, i32_w]
    rfl
   refine one_ (i := 3) (N := some 8) #[true, true, true, true, false, false, false, false, false, false, false, false, false, false, false, false, false, false, false, false] rfl rfl (one_of HT_.out Z5) Z15 (fun K hK => ?_)
   refine goes_ Try.func77 Z5 rfl #[.agg #[.int .i64 bi, .int .i64 bj, .int .i64 bk, .string bl, .int .i64 bm, .int .i64 bn, .string bo, .int .i64 bp, .int .i64 bq, .string br, .int .i64 bb, .string aQ, .int .i64 aR, .int .i64 aS, .int .i64 aT, .int .i64 aU, .int .i64 aV, .int .i64 aW, .int .i64 aX, .string aY, .string aZ, .slice cD aO.length cE, .int .i64 ba, .string bc, .slice cH aP.length cI]] Z13 rfl rfl Z9 ?_
   with_reducible refine (msg_strip.calls bi bj bk bl bm bn bo bp bq br bb aQ aR aS aT aU aV aW aX aY aZ _ _ aO ba bc _ _ aP ew ex ey ez eA eB eC eD eE eF eG eH eI eJ eK eL eM eN eO eP eQ eR eS _ ?side1 ?side2 ?side3 ?side4 A4.out).mono ?_
   (case side1 => exact Z16)
   (case side2 => exact dg.out)
   (case side3 => exact Z29)
   (case side4 => exact dz.out)
   rintro e w18 ⟨rfl, hb⟩
   refine ⟨_, rfl, ?_⟩
   have aH := Aside0.mk (blk_below (g := aF) Z3 hb)
   have aK := Aside0.mk (blk_below (g := aE) Z19 hb)
   have aL := Aside0.mk (below_step Z4 hb)
   clear ae
   clear ac
   clear HB
   have ae := aH
   have ac := aK
   have HB := aL
   clear aH aK aL
   (try clear hb)
   (try clear hb2)
   (try clear hk)
   (try clear hi)
   refine hK.out _ _ ⟨ae.out, (blk_cell ae.out 21).trans rfl, (blk_cell ae.out 24).trans rfl, ac.out, (blk_cell ac.out 21).trans rfl, (blk_cell ac.out 24).trans rfl⟩ (fun hHeld => ?_)
   clear hK K
   refine norm_ (a' := ?_) ?_ ?_
   rotate_left
   ·show Act.put _ (some 8) _ = _
    simp only [Act.put, List.setIfInBounds_toArray, List.set_cons_zero, List.set_cons_succ, i64_w, i32_w]
    rfl
   refine pure_ (i := 4) (N := some 9) (v := ?_) (a' := ?_) #[true, true, true, true, true, false, false, false, false, false, false, false, false, false, false, false, false, false, false, false] rfl rfl (any_of HT_.out Z5) (fun _ _ _ h => h) (Or.inl ⟨Z13, ?_⟩) ?_ ?_
   rotate_left
   ·intro w'
    go_simp
    with_reducible rfl
   rotate_left
   ·simp only [Act.put, List.setIfInBounds_toArray, List.set_cons_zero, List.set_cons_succ, i64_w, i32_w]
    rfl
   refine pure_ (i := 5) (N := some 10) (v := ?_) (a' := ?_) #[true, true, true, true, true, true, false, false, false, false, false, false, false, false, false, false, false, false, false, false] rfl rfl (any_of HT_.out Z5) (fun _ _ _ h => h) (Or.inl ⟨Z13, ?_⟩) ?_ ?_
   rotate_left
   ·intro w'
    go_simp
    with_reducible rfl
   rotate_left
   ·simp only [Act.put, List.setIfInBounds_toArray, List.set_cons_zero, List.set_cons_succ, i64_w, i32_w]
    rfl
   refine pure_ (i := 6) (N := some 11) (v := ?_) (a' := ?_) #[true, true, true, true, true, true, true, false, false, false, false, false, false, false, false, false, false, false, false, false] rfl rfl (any_of HT_.out Z5) (fun _ _ _ h => h) (Or.inl ⟨Z13, ?_⟩) ?_ ?_
   rotate_left
   ·intro w'
    go_simp
    with_reducible rfl
   rotate_left
   ·simp only [Act.put, List.setIfInBounds_toArray, List.set_cons_zero, List.set_cons_succ, i64_w, i32_w]
    rfl
   refine pure_ (i := 8) (N := some 13) (v := ?_) (a' := ?_) #[true, true, true, true, true, true, true, false, true, false, false, false, false, false, false, false, false, false, false, false] rfl rfl (any_of HT_.out Z5) (fun _ _ _ h => h) (Or.inl ⟨Z13, ?_⟩) ?_ ?_
   rotate_left
   ·intro w'
    go_simp
    with_reducible rfl
   rotate_left
   ·simp only [Act.put, List.setIfInBounds_toArray, List.set_cons_zero, List.set_cons_succ, i64_w, i32_w]
    rfl
   refine take_ (i := 7) (N := some 12) (v := ?_) (a' := ?_) #[true, true, true, true, true, true, true, true, true, false, false, false, false, false, false, false, false, false, false, false] rfl rfl (take_ofW HT_.out HW_.out Z5) (fun _ _ _ h => h) (Or.inl ⟨Z13, ?_⟩) hHeld ?_ ?_
   rotate_left
   ·rintro w' ⟨s0, s1, s2, s3, s4, s5⟩
    first | (refine Eq.trans (Pre.load_run (ty := 58) rfl Z13 (by with_reducible assumption) Try.underlying58 rfl Z5) ?_; with_reducible rfl) | (go_simp; with_reducible rfl)
   rotate_left
   ·simp only [Act.put, List.setIfInBounds_toArray, List.set_cons_zero, List.set_cons_succ, i64_w, i32_w]
    rfl
   refine take_ (i := 9) (N := some 14) (v := ?_) (a' := ?_) #[true, true, true, true, true, true, true, true, true, true, false, false, false, false, false, false, false, false, false, false] rfl rfl (take_ofW HT_.out HW_.out Z5) (fun _ _ _ h => h) (Or.inl ⟨Z13, ?_⟩) hHeld ?_ ?_
   rotate_left
   ·rintro w' ⟨s0, s1, s2, s3, s4, s5⟩
    first | (refine Eq.trans (Pre.load_run (ty := 58) rfl Z13 (by with_reducible assumption) Try.underlying58 rfl Z5) ?_; with_reducible rfl) | (go_simp; with_reducible rfl)
   rotate_left
   ·simp only [Act.put, List.setIfInBounds_toArray, List.set_cons_zero, List.set_cons_succ, i64_w, i32_w]
    rfl
   refine one_ (i := 10) (N := some 15) #[true, true, true, true, true, true, true, true, true, true, true, false, false, false, false, false, false, false, false, false] rfl rfl (one_of HT_.out Z5) Z15 (fun K hK => ?_)
   refine goes_ Try.func78 Z5 rfl #[.slice bf af.length bg, .slice cD aO.length cE] Z13 rfl rfl Z9 ?_
   with_reducible refine (api_Dest.calls k _ _ af _ _ aO false _ ?side1 ?side2 ?side3 ?side4 A6.out).mono ?_
   (case side1 => exact Z12)
   (case side2 => exact cF.out)
   (case side3 => exact Z16)
   (case side4 => exact dg.out)
   rintro e w' ⟨rfl, ⟨nd, rfl⟩⟩
   refine ⟨_, rfl, ?_⟩
   refine hK.out _ _ ⟨ae.out, (blk_cell ae.out 21).trans rfl, (blk_cell ae.out 24).trans rfl, ac.out, (blk_cell ac.out 21).trans rfl, (blk_cell ac.out 24).trans rfl⟩ (fun hHeld => ?_)
   clear hK K
   refine norm_ (a' := ?_) ?_ ?_
   rotate_left
   ·show Act.put _ (some 15) _ = _
    simp only [Act.put, List.setIfInBounds_toArray, List.set_cons_zero, List.set_cons_succ, i64_w, i32_w]
    rfl
   refine pure_ (i := 11) (N := some 16) (v := ?_) (a' := ?_) #[true, true, true, true, true, true, true, true, true, true, true, true, false, false, false, false, false, false, false, false] rfl rfl (any_of HT_.out Z5) (fun _ _ _ h => h) (Or.inl ⟨Z13, ?_⟩) ?_ ?_
   rotate_left
   ·intro w'
    go_simp
    with_reducible rfl
   rotate_left
   ·simp only [Act.put, List.setIfInBounds_toArray, List.set_cons_zero, List.set_cons_succ, i64_w, i32_w]
    rfl
   refine pure_ (i := 12) (N := some 17) (v := ?_) (a' := ?_) #[true, true, true, true, true, true, true, true, true, true, true, true, true, false, false, false, false, false, false, false] rfl rfl (any_of HT_.out Z5) (fun _ _ _ h => h) (Or.inl ⟨Z13, ?_⟩) ?_ ?_
   rotate_left
   ·intro w'
    go_simp
    with_reducible rfl
   rotate_left
   ·simp only [Act.put, List.setIfInBounds_toArray, List.set_cons_zero, List.set_cons_succ, i64_w, i32_w]
    rfl
   refine pure_ (i := 13) (N := some 18) (v := undef) (a' := ?_) #[true, true, true, true, true, true, true, true, true, true, true, true, true, true, false, false, false, false, false, false] rfl rfl (any_of HT_.out Z5) (fun _ _ _ h => h) (Or.inr ⟨Z13, rfl⟩) ?_ ?_
   rotate_left
   ·simp only [Act.put, List.setIfInBounds_toArray, List.set_cons_zero, List.set_cons_succ, i64_w, i32_w]
    rfl
   refine pure_ (i := 14) (N := some 19) (v := undef) (a' := ?_) #[true, true, true, true, true, true, true, true, true, true, true, true, true, true, true, false, false, false, false, false] rfl rfl (any_of HT_.out Z5) (fun _ _ _ h => h) (Or.inr ⟨Z13, rfl⟩) ?_ ?_
   rotate_left
   ·simp only [Act.put, List.setIfInBounds_toArray, List.set_cons_zero, List.set_cons_succ, i64_w, i32_w]
    rfl
   refine pure_ (i := 15) (N := some 20) (v := undef) (a' := ?_) #[true, true, true, true, true, true, true, true, true, true, true, true, true, true, true, true, false, false, false, false] rfl rfl (any_of HT_.out Z5) (fun _ _ _ h => h) (Or.inr ⟨Z13, rfl⟩) ?_ ?_
   rotate_left
   ·simp only [Act.put, List.setIfInBounds_toArray, List.set_cons_zero, List.set_cons_succ, i64_w, i32_w]
    rfl
   refine pure_ (i := 16) (N := some 21) (v := undef) (a' := ?_) #[true, true, true, true, true, true, true, true, true, true, true, true, true, true, true, true, true, false, false, false] rfl rfl (any_of HT_.out Z5) (fun _ _ _ h => h) (Or.inr ⟨Z13, rfl⟩) ?_ ?_
   rotate_left
   ·simp only [Act.put, List.setIfInBounds_toArray, List.set_cons_zero, List.set_cons_succ, i64_w, i32_w]
    rfl
   refine pure_ (i := 17) (N := some 22) (v := undef) (a' := ?_) #[true, true, true, true, true, true, true, true, true, true, true, true, true, true, true, true, true, true, false, false] rfl rfl (any_of HT_.out Z5) (fun _ _ _ h => h) (Or.inr ⟨Z13, rfl⟩) ?_ ?_
   rotate_left
   ·simp only [Act.put, List.setIfInBounds_toArray, List.set_cons_zero, List.set_cons_succ, i64_w, i32_w]
    rfl
   refine pure_ (i := 18) (N := some 23) (v := ?_) (a' := ?_) #[true, true, true, true, true, true, true, true, true, true, true, true, true, true, true, true, true, true, true, false] rfl rfl (any_of HT_.out Z5) (fun _ _ _ h => h) (Or.inl ⟨Z13, ?_⟩) ?_ ?_
   rotate_left
   ·intro w'
    go_simp
    with_reducible rfl
   rotate_left
   ·simp only [Act.put, List.setIfInBounds_toArray, List.set_cons_zero, List.set_cons_succ, i64_w, i32_w]
    rfl
   refine pure_ (i := 19) (N := some 4) (v := ?_) (a' := ?_) #[true, true, true, true, true, true, true, true, true, true, true, true, true, true, true, true, true, true, true, true] rfl rfl (any_of HT_.out Z5) (fun _ _ _ h => h) (Or.inl ⟨Z13, ?_⟩) ?_ ?_
   rotate_left
   ·intro w'
    go_simp
    with_reducible rfl
   rotate_left
   ·simp only [Act.put, List.setIfInBounds_toArray, List.set_cons_zero, List.set_cons_succ, i64_w, i32_w]
    rfl
   refine done_ (done_of HT_.out Z5) ?_
   try go_wp2_with (first | ((with_reducible refine Pre.gate_load 58 rfl ?_); (try (refine gate_guard Z13 ?_; dsimp only)); refine Pre.load_event rfl rfl rfl Z13 Z6 Try.underlying58 rfl Z5 ?_))
   go_ret
   exact ⟨Z8, Z4⟩
 ·rw [if_neg c5] at H
  have ec : (cC == ew && (de == ex && (dI == ey && (dJ == ez && (cK == eA && (dK == eB && (dL == eC && (dM == eD && (dN == eE && (dO == eF && (dP == eG && (dQ == eH && (dR == eI && (dS == eJ && (dT == eK && (dU == eL && (dV.toList == eM.toList && (dW.toList == eN.toList && (dX.toList == eO.toList && (dY.toList == eP.toList && (dZ.toList == eQ.toList && (ea.toList == eR.toList && (eb.toList == eS.toList))))))))))))))))))))))) = false := by first | exact Bool.eq_false_iff.mpr c5 | simpa using c5
  have c5p : (cC = ew ∧ de = ex ∧ dI = ey ∧ dJ = ez ∧ cK = eA ∧ dK = eB ∧ dL = eC ∧ dM = eD ∧ dN = eE ∧ dO = eF ∧ dP = eG ∧ dQ = eH ∧ dR = eI ∧ dS = eJ ∧ dT = eK ∧ dU = eL ∧ dV.toList = eM.toList ∧ dW.toList = eN.toList ∧ dX.toList = eO.toList ∧ dY.toList = eP.toList ∧ dZ.toList = eQ.toList ∧ ea.toList = eR.toList ∧ eb.toList = eS.toList) = False := eq_false (fun h_ => absurd (ec.symm.trans (show (cC == ew && (de == ex && (dI == ey && (dJ == ez && (cK == eA && (dK == eB && (dL == eC && (dM == eD && (dN == eE && (dO == eF && (dP == eG && (dQ == eH && (dR == eI && (dS == eJ && (dT == eK && (dU == eL && (dV.toList == eM.toList && (dW.toList == eN.toList && (dX.toList == eO.toList && (dY.toList == eP.toList && (dZ.toList == eQ.toList && (ea.toList == eR.toList && (eb.toList == eS.toList))))))))))))))))))))))) = true from by simpa only [Bool.and_eq_true, beq_iff_eq] using h_)) Bool.false_ne_true)
  clear c5
  obtain rfl := Option.some.inj H
  go_enter Try.func50, Try.ntmps50
  try go_wp2_with (first | ((with_reducible refine Pre.gate_load 58 rfl ?_); (try (refine gate_guard Z13 ?_; dsimp only)); refine Pre.load_event rfl rfl rfl Z13 Z6 Try.underlying58 rfl Z5 ?_) | ((with_reducible refine gate_dst (N := 2) rfl ?_); refine box_event ?hg (N := 2) ?hd (cs := #[.int .i64 aG, .int .i64 aA, .int .i64 aB, .string az, .int .i64 aC, .int .i64 av, .string ax, .int .i64 aw, .int .i64 aD, .string ay, .int .i64 ap, .string an, .int .i64 ag, .int .i64 aq, .int .i64 ai, .int .i64 ah, .int .i64 ak, .int .i64 al, .int .i64 ao, .string aj, .string am, .slice bf af.length bg, .int .i64 ar, .string au, .slice aI ab.length aJ]) (t := 58) ?hr ?_; (case hd => rfl); (case hg => rfl); (case hr => first | (go_simp; done) | (go_simp; rfl)); intro aF hg w19 hbox hb; have aH := Aside0.mk (below_step Z0 hb); have aK := Aside0.mk (hbox); have aL := Aside0.mk ((by rw [hg]; exact (below_size Z0) : w.heap.size ≤ aF)); have cQ := Aside0.mk ((by rw [hg]; exact (below_size Z0) : w.heap.size ≤ aF)); replace HB := aH; have ae := aK; have fb := aL; have ed := cQ; clear aH aK aL cQ; clear hb hbox hg) | ((with_reducible refine gate_dst (N := 3) rfl ?_); refine box_event ?hg (N := 3) ?hd (cs := #[.int .i64 bi, .int .i64 bj, .int .i64 bk, .string bl, .int .i64 bm, .int .i64 bn, .string bo, .int .i64 bp, .int .i64 bq, .string br, .int .i64 bb, .string aQ, .int .i64 aR, .int .i64 aS, .int .i64 aT, .int .i64 aU, .int .i64 aV, .int .i64 aW, .int .i64 aX, .string aY, .string aZ, .slice cD aO.length cE, .int .i64 ba, .string bc, .slice cH aP.length cI]) (t := 58) ?hr ?_; (case hd => rfl); (case hg => rfl); (case hr => first | (go_simp; done) | (go_simp; rfl)); intro aE hg iR hbox hb; have aH := Aside0.mk (blk_below (g := aF) Z3 hb); have aK := Aside0.mk (below_step Z1 hb); have aL := Aside0.mk (hbox); have cQ := Aside0.mk ((by rw [hg]; exact (below_size Z1) : w.heap.size ≤ aE)); have fe := Aside0.mk ((by rw [hg]; exact (below_size Z1) : w.heap.size ≤ aE)); have ff := Aside0.mk ((by rw [hg]; exact Nat.ne_of_lt (blk_lt (g := aF) Z3) : aF ≠ aE)); have fg := Aside0.mk ((by rw [hg]; exact Nat.ne_of_gt (blk_lt (g := aF) Z3) : aE ≠ aF)); replace ae := aH; replace HB := aK; have ac := aL; have dl := cQ; have dd := fe; have cG := ff; have cJ := fg; clear aH aK aL cQ fe ff fg; clear hb hbox hg))
  have aH := Aside0.mk (blk_drew ae.out)
  have aK := Aside0.mk (blk_drew ac.out)
  have aL := Aside0.mk (below_drew1 HB.out)
  clear ae
  clear ac
  clear HB
  have ae := aH
  have ac := aK
  have HB := aL
  clear aH aK aL
  refine start_ (n := 20) (S := fun w' => w'.heap[aF]? = some (.cells #[.int .i64 aG, .int .i64 aA, .int .i64 aB, .string az, .int .i64 aC, .int .i64 av, .string ax, .int .i64 aw, .int .i64 aD, .string ay, .int .i64 ap, .string an, .int .i64 ag, .int .i64 aq, .int .i64 ai, .int .i64 ah, .int .i64 ak, .int .i64 al, .int .i64 ao, .string aj, .string am, .slice bf af.length bg, .int .i64 ar, .string au, .slice aI ab.length aJ] 58 (0, 0)) ∧ w'.cell? ⟨aF, 21, none⟩ = some (.slice bf af.length bg) ∧ w'.cell? ⟨aF, 24, none⟩ = some (.slice aI ab.length aJ) ∧ w'.heap[aE]? = some (.cells #[.int .i64 bi, .int .i64 bj, .int .i64 bk, .string bl, .int .i64 bm, .int .i64 bn, .string bo, .int .i64 bp, .int .i64 bq, .string br, .int .i64 bb, .string aQ, .int .i64 aR, .int .i64 aS, .int .i64 aT, .int .i64 aU, .int .i64 aV, .int .i64 aW, .int .i64 aX, .string aY, .string aZ, .slice cD aO.length cE, .int .i64 ba, .string bc, .slice cH aP.length cI] 58 (0, 0)) ∧ w'.cell? ⟨aE, 21, none⟩ = some (.slice cD aO.length cE) ∧ w'.cell? ⟨aE, 24, none⟩ = some (.slice cH aP.length cI)) (ds := []) #[false, false, false, false, false, false, false, false, false, false, false, false, false, false, false, false, false, false, false, false] Z5 rfl rfl ⟨ae.out, (blk_cell ae.out 21).trans rfl, (blk_cell ae.out 24).trans rfl, ac.out, (blk_cell ac.out 21).trans rfl, (blk_cell ac.out 24).trans rfl⟩ (fun hHeld => ?_); refine with_tabW msg_Same.tab1 msg_Same.bits1 (fun HT_ HW_ => ?_)
  generalize iR.drew = w21 at ae ac HB hHeld ⊢
  refine take_ (i := 0) (N := some 5) (v := ?_) (a' := ?_) #[true, false, false, false, false, false, false, false, false, false, false, false, false, false, false, false, false, false, false, false] rfl rfl (take_ofW HT_.out HW_.out Z5) (fun _ _ _ h => h) (Or.inl ⟨Z13, ?_⟩) hHeld ?_ ?_
  rotate_left
  ·rintro w' ⟨s0, s1, s2, s3, s4, s5⟩
   first | (refine Eq.trans (Pre.load_run (ty := 58) rfl Z13 (by with_reducible assumption) Try.underlying58 rfl Z5) ?_; with_reducible rfl) | (go_simp; with_reducible rfl)
  rotate_left
  ·simp only [Act.put, List.setIfInBounds_toArray, List.set_cons_zero, List.set_cons_succ, i64_w, i32_w]
   rfl
  refine take_ (i := 2) (N := some 7) (v := ?_) (a' := ?_) #[true, false, true, false, false, false, false, false, false, false, false, false, false, false, false, false, false, false, false, false] rfl rfl (take_ofW HT_.out HW_.out Z5) (fun _ _ _ h => h) (Or.inl ⟨Z13, ?_⟩) hHeld ?_ ?_
  rotate_left
  ·rintro w' ⟨s0, s1, s2, s3, s4, s5⟩
   first | (refine Eq.trans (Pre.load_run (ty := 58) rfl Z13 (by with_reducible assumption) Try.underlying58 rfl Z5) ?_; with_reducible rfl) | (go_simp; with_reducible rfl)
  rotate_left
  ·simp only [Act.put, List.setIfInBounds_toArray, List.set_cons_zero, List.set_cons_succ, i64_w, i32_w]
   rfl
  refine one_ (i := 1) (N := some 6) #[true, true, true, false, false, false, false, false, false, false, false, false, false, false, false, false, false, false, false, false] rfl rfl (one_of HT_.out Z5) Z15 (fun K hK => ?_)
  refine goes_ Try.func77 Z5 rfl #[.agg #[.int .i64 aG, .int .i64 aA, .int .i64 aB, .string az, .int .i64 aC, .int .i64 av, .string ax, .int .i64 aw, .int .i64 aD, .string ay, .int .i64 ap, .string an, .int .i64 ag, .int .i64 aq, .int .i64 ai, .int .i64 ah, .int .i64 ak, .int .i64 al, .int .i64 ao, .string aj, .string am, .slice bf af.length bg, .int .i64 ar, .string au, .slice aI ab.length aJ]] Z13 rfl rfl Z9 ?_
  with_reducible refine (msg_strip.calls aG aA aB az aC av ax aw aD ay ap an ag aq ai ah ak al ao aj am _ _ af ar au _ _ ab cC de dI dJ cK dK dL dM dN dO dP dQ dR dS dT dU dV dW dX dY dZ ea eb _ ?side1 ?side2 ?side3 ?side4 A3.out).mono ?_
  (case side1 => exact Z12)
  (case side2 => exact cF.out)
  (case side3 => exact Z21)
  (case side4 => exact bU.out)
  rintro e w22 ⟨rfl, hb⟩
  refine ⟨_, rfl, ?_⟩
  have aH := Aside0.mk (blk_below (g := aF) Z3 hb)
  have aK := Aside0.mk (blk_below (g := aE) Z19 hb)
  have aL := Aside0.mk (below_step Z4 hb)
  clear ae
  clear ac
  clear HB
  have ae := aH
  have ac := aK
  have HB := aL
  clear aH aK aL
  (try clear hb)
  (try clear hb2)
  (try clear hk)
  (try clear hi)
  refine hK.out _ _ ⟨ae.out, (blk_cell ae.out 21).trans rfl, (blk_cell ae.out 24).trans rfl, ac.out, (blk_cell ac.out 21).trans rfl, (blk_cell ac.out 24).trans rfl⟩ (fun hHeld => ?_)
  clear hK K
  refine norm_ (a' := ?_) ?_ ?_
  rotate_left
  ·show Act.put _ (some 6) _ = _
   simp only [Act.put, List.setIfInBounds_toArray, List.set_cons_zero, List.set_cons_succ, i64_w, i32_w]
   rfl
  refine one_ (i := 3) (N := some 8) #[true, true, true, true, false, false, false, false, false, false, false, false, false, false, false, false, false, false, false, false] rfl rfl (one_of HT_.out Z5) Z15 (fun K hK => ?_)
  refine goes_ Try.func77 Z5 rfl #[.agg #[.int .i64 bi, .int .i64 bj, .int .i64 bk, .string bl, .int .i64 bm, .int .i64 bn, .string bo, .int .i64 bp, .int .i64 bq, .string br, .int .i64 bb, .string aQ, .int .i64 aR, .int .i64 aS, .int .i64 aT, .int .i64 aU, .int .i64 aV, .int .i64 aW, .int .i64 aX, .string aY, .string aZ, .slice cD aO.length cE, .int .i64 ba, .string bc, .slice cH aP.length cI]] Z13 rfl rfl Z9 ?_
  with_reducible refine (msg_strip.calls bi bj bk bl bm bn bo bp bq br bb aQ aR aS aT aU aV aW aX aY aZ _ _ aO ba bc _ _ aP ew ex ey ez eA eB eC eD eE eF eG eH eI eJ eK eL eM eN eO eP eQ eR eS _ ?side1 ?side2 ?side3 ?side4 A4.out).mono ?_
  (case side1 => exact Z16)
  (case side2 => exact dg.out)
  (case side3 => exact Z29)
  (case side4 => exact dz.out)
  rintro e w23 ⟨rfl, hb⟩
  refine ⟨_, rfl, ?_⟩
  have aH := Aside0.mk (blk_below (g := aF) Z3 hb)
  have aK := Aside0.mk (blk_below (g := aE) Z19 hb)
  have aL := Aside0.mk (below_step Z4 hb)
  clear ae
  clear ac
  clear HB
  have ae := aH
  have ac := aK
  have HB := aL
  clear aH aK aL
  (try clear hb)
  (try clear hb2)
  (try clear hk)
  (try clear hi)
  refine hK.out _ _ ⟨ae.out, (blk_cell ae.out 21).trans rfl, (blk_cell ae.out 24).trans rfl, ac.out, (blk_cell ac.out 21).trans rfl, (blk_cell ac.out 24).trans rfl⟩ (fun hHeld => ?_)
  clear hK K
  refine norm_ (a' := ?_) ?_ ?_
  rotate_left
  ·show Act.put _ (some 8) _ = _
   simp only [Act.put, List.setIfInBounds_toArray, List.set_cons_zero, List.set_cons_succ, i64_w, i32_w]
   rfl
  refine pure_ (i := 4) (N := some 9) (v := ?_) (a' := ?_) #[true, true, true, true, true, false, false, false, false, false, false, false, false, false, false, false, false, false, false, false] rfl rfl (any_of HT_.out Z5) (fun _ _ _ h => h) (Or.inl ⟨Z13, ?_⟩) ?_ ?_
  rotate_left
  ·intro w'
   go_simp
   with_reducible rfl
  rotate_left
  ·simp only [Act.put, List.setIfInBounds_toArray, List.set_cons_zero, List.set_cons_succ, i64_w, i32_w]
   rfl
  refine pure_ (i := 5) (N := some 10) (v := ?_) (a' := ?_) #[true, true, true, true, true, true, false, false, false, false, false, false, false, false, false, false, false, false, false, false] rfl rfl (any_of HT_.out Z5) (fun _ _ _ h => h) (Or.inl ⟨Z13, ?_⟩) ?_ ?_
  rotate_left
  ·intro w'
   go_simp
   with_reducible rfl
  rotate_left
  ·simp only [Act.put, List.setIfInBounds_toArray, List.set_cons_zero, List.set_cons_succ, i64_w, i32_w]
   rfl
  refine pure_ (i := 6) (N := some 11) (v := undef) (a' := ?_) #[true, true, true, true, true, true, true, false, false, false, false, false, false, false, false, false, false, false, false, false] rfl rfl (any_of HT_.out Z5) (fun _ _ _ h => h) (Or.inr ⟨Z13, rfl⟩) ?_ ?_
  rotate_left
  ·simp only [Act.put, List.setIfInBounds_toArray, List.set_cons_zero, List.set_cons_succ, i64_w, i32_w]
   rfl
  refine pure_ (i := 7) (N := some 12) (v := undef) (a' := ?_) #[true, true, true, true, true, true, true, true, false, false, false, false, false, false, false, false, false, false, false, false] rfl rfl (any_of HT_.out Z5) (fun _ _ _ h => h) (Or.inr ⟨Z13, rfl⟩) ?_ ?_
  rotate_left
  ·simp only [Act.put, List.setIfInBounds_toArray, List.set_cons_zero, List.set_cons_succ, i64_w, i32_w]
   rfl
  refine pure_ (i := 8) (N := some 13) (v := undef) (a' := ?_) #[true, true, true, true, true, true, true, true, true, false, false, false, false, false, false, false, false, false, false, false] rfl rfl (any_of HT_.out Z5) (fun _ _ _ h => h) (Or.inr ⟨Z13, rfl⟩) ?_ ?_
  rotate_left
  ·simp only [Act.put, List.setIfInBounds_toArray, List.set_cons_zero, List.set_cons_succ, i64_w, i32_w]
   rfl
  refine pure_ (i := 9) (N := some 14) (v := undef) (a' := ?_) #[true, true, true, true, true, true, true, true, true, true, false, false, false, false, false, false, false, false, false, false] rfl rfl (any_of HT_.out Z5) (fun _ _ _ h => h) (Or.inr ⟨Z13, rfl⟩) ?_ ?_
  rotate_left
  ·simp only [Act.put, List.setIfInBounds_toArray, List.set_cons_zero, List.set_cons_succ, i64_w, i32_w]
   rfl
  refine pure_ (i := 10) (N := some 15) (v := undef) (a' := ?_) #[true, true, true, true, true, true, true, true, true, true, true, false, false, false, false, false, false, false, false, false] rfl rfl (any_of HT_.out Z5) (fun _ _ _ h => h) (Or.inr ⟨Z13, rfl⟩) ?_ ?_
  rotate_left
  ·simp only [Act.put, List.setIfInBounds_toArray, List.set_cons_zero, List.set_cons_succ, i64_w, i32_w]
   rfl
  refine pure_ (i := 11) (N := some 16) (v := ?_) (a' := ?_) #[true, true, true, true, true, true, true, true, true, true, true, true, false, false, false, false, false, false, false, false] rfl rfl (any_of HT_.out Z5) (fun _ _ _ h => h) (Or.inl ⟨Z13, ?_⟩) ?_ ?_
  rotate_left
  ·intro w'
   go_simp
   with_reducible rfl
  rotate_left
  ·simp only [Act.put, List.setIfInBounds_toArray, List.set_cons_zero, List.set_cons_succ, i64_w, i32_w]
   rfl
  refine pure_ (i := 12) (N := some 17) (v := ?_) (a' := ?_) #[true, true, true, true, true, true, true, true, true, true, true, true, true, false, false, false, false, false, false, false] rfl rfl (any_of HT_.out Z5) (fun _ _ _ h => h) (Or.inl ⟨Z13, ?_⟩) ?_ ?_
  rotate_left
  ·intro w'
   go_simp
   with_reducible rfl
  rotate_left
  ·simp only [Act.put, List.setIfInBounds_toArray, List.set_cons_zero, List.set_cons_succ, i64_w, i32_w]
   rfl
  refine pure_ (i := 13) (N := some 18) (v := undef) (a' := ?_) #[true, true, true, true, true, true, true, true, true, true, true, true, true, true, false, false, false, false, false, false] rfl rfl (any_of HT_.out Z5) (fun _ _ _ h => h) (Or.inr ⟨Z13, rfl⟩) ?_ ?_
  rotate_left
  ·simp only [Act.put, List.setIfInBounds_toArray, List.set_cons_zero, List.set_cons_succ, i64_w, i32_w]
   rfl
  refine pure_ (i := 14) (N := some 19) (v := undef) (a' := ?_) #[true, true, true, true, true, true, true, true, true, true, true, true, true, true, true, false, false, false, false, false] rfl rfl (any_of HT_.out Z5) (fun _ _ _ h => h) (Or.inr ⟨Z13, rfl⟩) ?_ ?_
  rotate_left
  ·simp only [Act.put, List.setIfInBounds_toArray, List.set_cons_zero, List.set_cons_succ, i64_w, i32_w]
   rfl
  refine pure_ (i := 15) (N := some 20) (v := undef) (a' := ?_) #[true, true, true, true, true, true, true, true, true, true, true, true, true, true, true, true, false, false, false, false] rfl rfl (any_of HT_.out Z5) (fun _ _ _ h => h) (Or.inr ⟨Z13, rfl⟩) ?_ ?_
  rotate_left
  ·simp only [Act.put, List.setIfInBounds_toArray, List.set_cons_zero, List.set_cons_succ, i64_w, i32_w]
   rfl
  refine pure_ (i := 16) (N := some 21) (v := undef) (a' := ?_) #[true, true, true, true, true, true, true, true, true, true, true, true, true, true, true, true, true, false, false, false] rfl rfl (any_of HT_.out Z5) (fun _ _ _ h => h) (Or.inr ⟨Z13, rfl⟩) ?_ ?_
  rotate_left
  ·simp only [Act.put, List.setIfInBounds_toArray, List.set_cons_zero, List.set_cons_succ, i64_w, i32_w]
   rfl
  refine pure_ (i := 17) (N := some 22) (v := undef) (a' := ?_) #[true, true, true, true, true, true, true, true, true, true, true, true, true, true, true, true, true, true, false, false] rfl rfl (any_of HT_.out Z5) (fun _ _ _ h => h) (Or.inr ⟨Z13, rfl⟩) ?_ ?_
  rotate_left
  ·simp only [Act.put, List.setIfInBounds_toArray, List.set_cons_zero, List.set_cons_succ, i64_w, i32_w]
   rfl
  refine pure_ (i := 18) (N := some 23) (v := ?_) (a' := ?_) #[true, true, true, true, true, true, true, true, true, true, true, true, true, true, true, true, true, true, true, false] rfl rfl (any_of HT_.out Z5) (fun _ _ _ h => h) (Or.inl ⟨Z13, ?_⟩) ?_ ?_
  rotate_left
  ·intro w'
   go_simp
   with_reducible rfl
  rotate_left
  ·simp only [Act.put, List.setIfInBounds_toArray, List.set_cons_zero, List.set_cons_succ, i64_w, i32_w]
   rfl
  refine pure_ (i := 19) (N := some 4) (v := ?_) (a' := ?_) #[true, true, true, true, true, true, true, true, true, true, true, true, true, true, true, true, true, true, true, true] rfl rfl (any_of HT_.out Z5) (fun _ _ _ h => h) (Or.inl ⟨Z13, ?_⟩) ?_ ?_
  rotate_left
  ·intro w'
   go_simp
   with_reducible rfl
  rotate_left
  ·simp only [Act.put, List.setIfInBounds_toArray, List.set_cons_zero, List.set_cons_succ, i64_w, i32_w]
   rfl
  refine done_ (done_of HT_.out Z5) ?_
  try go_wp2_with (first | ((with_reducible refine Pre.gate_load 58 rfl ?_); (try (refine gate_guard Z13 ?_; dsimp only)); refine Pre.load_event rfl rfl rfl Z13 Z6 Try.underlying58 rfl Z5 ?_))
  go_ret
  exact ⟨Z8, Z4⟩

end Go.Proofs.Ytelcciekdoccfaa.PM
