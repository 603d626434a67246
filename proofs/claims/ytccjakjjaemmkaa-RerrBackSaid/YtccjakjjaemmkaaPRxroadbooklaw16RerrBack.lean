-- Written by mp.py, a program of this work (wip/tools), out of the translation; Lean checks it.
import Derived.Test.YtccjakjjaemmkaaPRxZ
import Derived.Test.YtccjakjjaemmkaaPRxrerr
import Derived.Test.YtccjakjjaemmkaaPRxrerrGet
import Derived.Test.YtccjakjjaemmkaaPRxrerrRight
import Derived.Test.YtccjakjjaemmkaaPRxroadbooklaw16
import Derived.Test.YtccjakjjaemmkaaPRxroadbookref07
import Derived.Test.YtccjakjjaemmkaaPRxroadbookref07Same
namespace Go.Proofs.Ytccjakjjaemmkaa.PR
open Go.RowKit Go.Proofs.YtccjakjjaemmkaaW.PrintWords Go.Proofs.YtccjakjjaemmkaaW.PrintLast Go.Proofs.YtccjakjjaemmkaaW.PrintMore
attribute [local go_sem] max2_int min2_int max_two min_two max_three min_three max_four min_four   -- for this text's walks alone
set_option linter.unusedVariables false
set_option linter.unusedSimpArgs false

/-! ### roadbooklaw16_RerrBack: function 8 -/
mutual
def roadbooklaw16_RerrBack.j0 : Nat → ByteArray → Bool → Int → Int → Int → ByteArray → Int → Int → ByteArray → Int → Int → ByteArray → Int → ByteArray → Int → Int → Int → Int → Int → Int → Int → ByteArray → ByteArray → List (S46) → Int → ByteArray → List (S48) → Option (Bool)
 | 0, _, _, _, _, _, _, _, _, _, _, _, _, _, _, _, _, _, _, _, _, _, _, _, _, _, _, _ => none
 | k + 1, x1, oE, bw, bM, bN, bO, bP, bQ, bR, bx, bS, bT, bU, bI, bA, bF, bC, bv, bB, bG, bJ, bD, bE, bq, bK, bL, bu => if oE = true then ((roadbooklaw16_awake.f k).bind fun bf => (some bf)) else ((rerr_Put.f k bw bM bN bO bP bQ bR bx bS bT bU bI bA bF bC bv bB bG bJ bD bE bq bK bL bu).bind fun cp => ((rerr_Right.f k bw bM bN bO bP bQ bR bx bS bT bU bI bA bF bC bv bB bG bJ bD bE bq bK bL bu).bind fun bm => (if (cp.2 != bm) = true then (roadbooklaw16_RerrBack.j1 k x1 cp.1 cp.2 true bw bM bN bO bP bQ bR bx bS bT bU bI bA bF bC bv bB bG bJ bD bE bq bK bL bu) else (if cp.2 = true then (roadbooklaw16_RerrBack.j1 k x1 cp.1 cp.2 false bw bM bN bO bP bQ bR bx bS bT bU bI bA bF bC bv bB bG bJ bD bE bq bK bL bu) else (roadbooklaw16_RerrBack.j1 k x1 cp.1 cp.2 (cp.1.toList != ([] : List UInt8)) bw bM bN bO bP bQ bR bx bS bT bU bI bA bF bC bv bB bG bJ bD bE bq bK bL bu)))))
def roadbooklaw16_RerrBack.j1 : Nat → ByteArray → ByteArray → Bool → Bool → Int → Int → Int → ByteArray → Int → Int → ByteArray → Int → Int → ByteArray → Int → ByteArray → Int → Int → Int → Int → Int → Int → Int → ByteArray → ByteArray → List (S46) → Int → ByteArray → List (S48) → Option (Bool)
 | 0, _, _, _, _, _, _, _, _, _, _, _, _, _, _, _, _, _, _, _, _, _, _, _, _, _, _, _, _, _ => none
 | k + 1, x1, x5, x6, tj, bw, bM, bN, bO, bP, bQ, bR, bx, bS, bT, bU, bI, bA, bF, bC, bv, bB, bG, bJ, bD, bE, bq, bK, bL, bu => if tj = true then (some false) else (if x6 = true then ((rerr_Get.f k x5).bind fun bn => (if bn.2.2.2.2.2.2.2.2.2.2.2.2.2.2.2.2.2.2.2.2.2.2.2.2.2.2 = 0 then (if bn.2.2.2.2.2.2.2.2.2.2.2.2.2.2.2.2.2.2.2.2.2.2.2.2.2.1 = 0 then ((roadbookref07_Same.f k bw bM bN bO bP bQ bR bx bS bT bU bI bA bF bC bv bB bG bJ bD bE bq bK bL bu bn.1 bn.2.1 bn.2.2.1 bn.2.2.2.1 bn.2.2.2.2.1 bn.2.2.2.2.2.1 bn.2.2.2.2.2.2.1 bn.2.2.2.2.2.2.2.1 bn.2.2.2.2.2.2.2.2.1 bn.2.2.2.2.2.2.2.2.2.1 bn.2.2.2.2.2.2.2.2.2.2.1 bn.2.2.2.2.2.2.2.2.2.2.2.1 bn.2.2.2.2.2.2.2.2.2.2.2.2.1 bn.2.2.2.2.2.2.2.2.2.2.2.2.2.1 bn.2.2.2.2.2.2.2.2.2.2.2.2.2.2.1 bn.2.2.2.2.2.2.2.2.2.2.2.2.2.2.2.1 bn.2.2.2.2.2.2.2.2.2.2.2.2.2.2.2.2.1 bn.2.2.2.2.2.2.2.2.2.2.2.2.2.2.2.2.2.1 bn.2.2.2.2.2.2.2.2.2.2.2.2.2.2.2.2.2.2.1 bn.2.2.2.2.2.2.2.2.2.2.2.2.2.2.2.2.2.2.2.1 bn.2.2.2.2.2.2.2.2.2.2.2.2.2.2.2.2.2.2.2.2.1 bn.2.2.2.2.2.2.2.2.2.2.2.2.2.2.2.2.2.2.2.2.2.1 bn.2.2.2.2.2.2.2.2.2.2.2.2.2.2.2.2.2.2.2.2.2.2.1 bn.2.2.2.2.2.2.2.2.2.2.2.2.2.2.2.2.2.2.2.2.2.2.2.1 bn.2.2.2.2.2.2.2.2.2.2.2.2.2.2.2.2.2.2.2.2.2.2.2.2.1).bind fun gC => (roadbooklaw16_RerrBack.j2 k x1 (!gC))) else (roadbooklaw16_RerrBack.j2 k x1 true)) else (roadbooklaw16_RerrBack.j2 k x1 true))) else (roadbooklaw16_RerrBack.j3 k x1))
def roadbooklaw16_RerrBack.j3 : Nat → ByteArray → Option (Bool)
 | 0, _ => none
 | k + 1, x1 => if (x1.size : Int) = 0 then (roadbooklaw16_RerrBack.j4 k x1 true) else (if 0 < (x1.size : Int) then (roadbooklaw16_RerrBack.j4 k x1 (!((bt x1 0) == 3))) else (none))
def roadbooklaw16_RerrBack.j4 : Nat → ByteArray → Bool → Option (Bool)
 | 0, _, _ => none
 | k + 1, x1, vz => if vz = true then ((roadbooklaw16_awake.f k).bind fun gp => (some gp)) else ((rerr_Get.f k x1).bind fun aY => (if aY.2.2.2.2.2.2.2.2.2.2.2.2.2.2.2.2.2.2.2.2.2.2.2.2.2.2 = 0 then ((rerr_Put.f k aY.1 aY.2.1 aY.2.2.1 aY.2.2.2.1 aY.2.2.2.2.1 aY.2.2.2.2.2.1 aY.2.2.2.2.2.2.1 aY.2.2.2.2.2.2.2.1 aY.2.2.2.2.2.2.2.2.1 aY.2.2.2.2.2.2.2.2.2.1 aY.2.2.2.2.2.2.2.2.2.2.1 aY.2.2.2.2.2.2.2.2.2.2.2.1 aY.2.2.2.2.2.2.2.2.2.2.2.2.1 aY.2.2.2.2.2.2.2.2.2.2.2.2.2.1 aY.2.2.2.2.2.2.2.2.2.2.2.2.2.2.1 aY.2.2.2.2.2.2.2.2.2.2.2.2.2.2.2.1 aY.2.2.2.2.2.2.2.2.2.2.2.2.2.2.2.2.1 aY.2.2.2.2.2.2.2.2.2.2.2.2.2.2.2.2.2.1 aY.2.2.2.2.2.2.2.2.2.2.2.2.2.2.2.2.2.2.1 aY.2.2.2.2.2.2.2.2.2.2.2.2.2.2.2.2.2.2.2.1 aY.2.2.2.2.2.2.2.2.2.2.2.2.2.2.2.2.2.2.2.2.1 aY.2.2.2.2.2.2.2.2.2.2.2.2.2.2.2.2.2.2.2.2.2.1 aY.2.2.2.2.2.2.2.2.2.2.2.2.2.2.2.2.2.2.2.2.2.2.1 aY.2.2.2.2.2.2.2.2.2.2.2.2.2.2.2.2.2.2.2.2.2.2.2.1 aY.2.2.2.2.2.2.2.2.2.2.2.2.2.2.2.2.2.2.2.2.2.2.2.2.1).bind fun hQ => ((roadbooklaw16_awake.f k).bind fun hR => (if hR = true then (if hQ.2 = true then (if hQ.1.toList = x1.toList then (if aY.2.2.2.2.2.2.2.2.2.2.2.2.2.2.2.2.2.2.2.2.2.2.2.2.2.1 = 0 then ((rerr_Right.f k aY.1 aY.2.1 aY.2.2.1 aY.2.2.2.1 aY.2.2.2.2.1 aY.2.2.2.2.2.1 aY.2.2.2.2.2.2.1 aY.2.2.2.2.2.2.2.1 aY.2.2.2.2.2.2.2.2.1 aY.2.2.2.2.2.2.2.2.2.1 aY.2.2.2.2.2.2.2.2.2.2.1 aY.2.2.2.2.2.2.2.2.2.2.2.1 aY.2.2.2.2.2.2.2.2.2.2.2.2.1 aY.2.2.2.2.2.2.2.2.2.2.2.2.2.1 aY.2.2.2.2.2.2.2.2.2.2.2.2.2.2.1 aY.2.2.2.2.2.2.2.2.2.2.2.2.2.2.2.1 aY.2.2.2.2.2.2.2.2.2.2.2.2.2.2.2.2.1 aY.2.2.2.2.2.2.2.2.2.2.2.2.2.2.2.2.2.1 aY.2.2.2.2.2.2.2.2.2.2.2.2.2.2.2.2.2.2.1 aY.2.2.2.2.2.2.2.2.2.2.2.2.2.2.2.2.2.2.2.1 aY.2.2.2.2.2.2.2.2.2.2.2.2.2.2.2.2.2.2.2.2.1 aY.2.2.2.2.2.2.2.2.2.2.2.2.2.2.2.2.2.2.2.2.2.1 aY.2.2.2.2.2.2.2.2.2.2.2.2.2.2.2.2.2.2.2.2.2.2.1 aY.2.2.2.2.2.2.2.2.2.2.2.2.2.2.2.2.2.2.2.2.2.2.2.1 aY.2.2.2.2.2.2.2.2.2.2.2.2.2.2.2.2.2.2.2.2.2.2.2.2.1).bind fun he => (some he)) else (some false)) else (some false)) else (some false)) else (some false)))) else ((roadbooklaw16_awake.f k).bind fun iQ => (if iQ = true then (if aY.2.2.2.2.2.2.2.2.2.2.2.2.2.2.2.2.2.2.2.2.2.2.2.2.2.1 ≥ 0 then (if aY.2.2.2.2.2.2.2.2.2.2.2.2.2.2.2.2.2.2.2.2.2.2.2.2.2.1 ≤ (x1.size : Int) then ((roadbookref07_Same.f k aY.1 aY.2.1 aY.2.2.1 aY.2.2.2.1 aY.2.2.2.2.1 aY.2.2.2.2.2.1 aY.2.2.2.2.2.2.1 aY.2.2.2.2.2.2.2.1 aY.2.2.2.2.2.2.2.2.1 aY.2.2.2.2.2.2.2.2.2.1 aY.2.2.2.2.2.2.2.2.2.2.1 aY.2.2.2.2.2.2.2.2.2.2.2.1 aY.2.2.2.2.2.2.2.2.2.2.2.2.1 aY.2.2.2.2.2.2.2.2.2.2.2.2.2.1 aY.2.2.2.2.2.2.2.2.2.2.2.2.2.2.1 aY.2.2.2.2.2.2.2.2.2.2.2.2.2.2.2.1 aY.2.2.2.2.2.2.2.2.2.2.2.2.2.2.2.2.1 aY.2.2.2.2.2.2.2.2.2.2.2.2.2.2.2.2.2.1 aY.2.2.2.2.2.2.2.2.2.2.2.2.2.2.2.2.2.2.1 aY.2.2.2.2.2.2.2.2.2.2.2.2.2.2.2.2.2.2.2.1 aY.2.2.2.2.2.2.2.2.2.2.2.2.2.2.2.2.2.2.2.2.1 aY.2.2.2.2.2.2.2.2.2.2.2.2.2.2.2.2.2.2.2.2.2.1 aY.2.2.2.2.2.2.2.2.2.2.2.2.2.2.2.2.2.2.2.2.2.2.1 aY.2.2.2.2.2.2.2.2.2.2.2.2.2.2.2.2.2.2.2.2.2.2.2.1 aY.2.2.2.2.2.2.2.2.2.2.2.2.2.2.2.2.2.2.2.2.2.2.2.2.1 0 0 0 (⟨#[]⟩ : ByteArray) 0 0 (⟨#[]⟩ : ByteArray) 0 0 (⟨#[]⟩ : ByteArray) 0 (⟨#[]⟩ : ByteArray) 0 0 0 0 0 0 0 (⟨#[]⟩ : ByteArray) (⟨#[]⟩ : ByteArray) ([] : List (S46)) 0 (⟨#[]⟩ : ByteArray) ([] : List (S48))).bind fun hS => (some hS)) else (some false)) else (some false)) else (some false)))))
def roadbooklaw16_RerrBack.j2 : Nat → ByteArray → Bool → Option (Bool)
 | 0, _, _ => none
 | k + 1, x1, tk => if tk = true then (some false) else (roadbooklaw16_RerrBack.j3 k x1)
end
def roadbooklaw16_RerrBack.f (k : Nat) (av : Int) (au : Int) (aw : Int) (ay : ByteArray) (aD : Int) (az : Int) (aA : ByteArray) (ax : Int) (aE : Int) (aC : ByteArray) (ap : Int) (an : ByteArray) (aj : Int) (am : Int) (ak : Int) (ah : Int) (ai : Int) (al : Int) (ao : Int) (ac : ByteArray) (af : ByteArray) (ae : List (S46)) (aq : Int) (ar : ByteArray) (ag : List (S48)) (a1 : ByteArray) : Option (Bool) := (roadbookref07_Few.f k av au aw ay aD az aA ax aE aC ap an aj am ak ah ai al ao ac af ae aq ar ag).bind fun ba => (if ba = true then (roadbooklaw16_RerrBack.j0 k a1 (decide ((a1.size : Int) > 3000)) av au aw ay aD az aA ax aE aC ap an aj am ak ah ai al ao ac af ae aq ar ag) else (roadbooklaw16_RerrBack.j0 k a1 true av au aw ay aD az aA ax aE aC ap an aj am ak ah ai al ao ac af ae aq ar ag))
theorem roadbooklaw16_RerrBack.mono_l : ∀ k, (∀ y0 y1 y2 y3 y4 y5 y6 y7 y8 y9 fi fj fk fl fm fn fo fp fq fr fs ft fu fv fw fx hH, LeO (roadbooklaw16_RerrBack.j0 k y0 y1 y2 y3 y4 y5 y6 y7 y8 y9 fi fj fk fl fm fn fo fp fq fr fs ft fu fv fw fx hH) (roadbooklaw16_RerrBack.j0 (k + 1) y0 y1 y2 y3 y4 y5 y6 y7 y8 y9 fi fj fk fl fm fn fo fp fq fr fs ft fu fv fw fx hH)) ∧ (∀ y0 y1 y2 y3 y4 y5 y6 y7 y8 y9 fi fj fk fl fm fn fo fp fq fr fs ft fu fv fw fx hH jk kj, LeO (roadbooklaw16_RerrBack.j1 k y0 y1 y2 y3 y4 y5 y6 y7 y8 y9 fi fj fk fl fm fn fo fp fq fr fs ft fu fv fw fx hH jk kj) (roadbooklaw16_RerrBack.j1 (k + 1) y0 y1 y2 y3 y4 y5 y6 y7 y8 y9 fi fj fk fl fm fn fo fp fq fr fs ft fu fv fw fx hH jk kj)) ∧ (∀ y0, LeO (roadbooklaw16_RerrBack.j3 k y0) (roadbooklaw16_RerrBack.j3 (k + 1) y0)) ∧ (∀ y0 y1, LeO (roadbooklaw16_RerrBack.j4 k y0 y1) (roadbooklaw16_RerrBack.j4 (k + 1) y0 y1)) ∧ (∀ y0 y1, LeO (roadbooklaw16_RerrBack.j2 k y0 y1) (roadbooklaw16_RerrBack.j2 (k + 1) y0 y1))
 | 0 => ⟨fun _ _ _ _ _ _ _ _ _ _ _ _ _ _ _ _ _ _ _ _ _ _ _ _ _ _ _ r h => by simp [roadbooklaw16_RerrBack.j0] at h, fun _ _ _ _ _ _ _ _ _ _ _ _ _ _ _ _ _ _ _ _ _ _ _ _ _ _ _ _ _ r h => by simp [roadbooklaw16_RerrBack.j1] at h, fun _ r h => by simp [roadbooklaw16_RerrBack.j3] at h, fun _ _ r h => by simp [roadbooklaw16_RerrBack.j4] at h, fun _ _ r h => by simp [roadbooklaw16_RerrBack.j2] at h⟩
 | k + 1 => by
  obtain ⟨ih0, ih1, ih2, ih3, ih4⟩ := roadbooklaw16_RerrBack.mono_l k
  refine ⟨?_, ?_, ?_, ?_, ?_⟩
  ·intro y0 y1 y2 y3 y4 y5 y6 y7 y8 y9 fi fj fk fl fm fn fo fp fq fr fs ft fu fv fw fx hH
   unfold roadbooklaw16_RerrBack.j0
   repeat' first
   | (with_reducible exact ih0 ..)
   | (with_reducible exact ih1 ..)
   | (with_reducible exact ih2 _)
   | (with_reducible exact ih3 _ _)
   | (with_reducible exact ih4 _ _)
   | (with_reducible exact rerr_Get.mono _ _)
   | (with_reducible exact rerr_Put.mono _ _ _ _ _ _ _ _ _ _ _ _ _ _ _ _ _ _ _ _ _ _ _ _ _ _)
   | (with_reducible exact rerr_Right.mono _ _ _ _ _ _ _ _ _ _ _ _ _ _ _ _ _ _ _ _ _ _ _ _ _ _)
   | (with_reducible exact roadbooklaw16_awake.mono _)
   | (with_reducible exact roadbookref07_Few.mono _ _ _ _ _ _ _ _ _ _ _ _ _ _ _ _ _ _ _ _ _ _ _ _ _ _)
   | (with_reducible exact roadbookref07_Same.mono _ _ _ _ _ _ _ _ _ _ _ _ _ _ _ _ _ _ _ _ _ _ _ _ _ _ _ _ _ _ _ _ _ _ _ _ _ _ _ _ _ _ _ _ _ _ _ _ _ _ _)
   | (with_reducible exact LeO.refl _)
   | (with_reducible exact LeO.none _)
   | (with_reducible refine LeO.ite ?_ ?_)
   | (with_reducible refine LeO.bind ?_ (fun _ => ?_))
   | exact ih0 ..
   | exact ih1 ..
   | exact ih2 _
   | exact ih3 _ _
   | exact ih4 _ _
   | exact rerr_Get.mono _ _
   | exact rerr_Put.mono _ _ _ _ _ _ _ _ _ _ _ _ _ _ _ _ _ _ _ _ _ _ _ _ _ _
   | exact rerr_Right.mono _ _ _ _ _ _ _ _ _ _ _ _ _ _ _ _ _ _ _ _ _ _ _ _ _ _
   | exact roadbooklaw16_awake.mono _
   | exact roadbookref07_Few.mono _ _ _ _ _ _ _ _ _ _ _ _ _ _ _ _ _ _ _ _ _ _ _ _ _ _
   | exact roadbookref07_Same.mono _ _ _ _ _ _ _ _ _ _ _ _ _ _ _ _ _ _ _ _ _ _ _ _ _ _ _ _ _ _ _ _ _ _ _ _ _ _ _ _ _ _ _ _ _ _ _ _ _ _ _
   | exact LeO.none _
   | refine LeO.ite ?_ ?_
   | refine LeO.bind ?_ (fun _ => ?_)
  ·intro y0 y1 y2 y3 y4 y5 y6 y7 y8 y9 fi fj fk fl fm fn fo fp fq fr fs ft fu fv fw fx hH jk kj
   unfold roadbooklaw16_RerrBack.j1
   repeat' first
   | (with_reducible exact ih0 ..)
   | (with_reducible exact ih1 ..)
   | (with_reducible exact ih2 _)
   | (with_reducible exact ih3 _ _)
   | (with_reducible exact ih4 _ _)
   | (with_reducible exact rerr_Get.mono _ _)
   | (with_reducible exact rerr_Put.mono _ _ _ _ _ _ _ _ _ _ _ _ _ _ _ _ _ _ _ _ _ _ _ _ _ _)
   | (with_reducible exact rerr_Right.mono _ _ _ _ _ _ _ _ _ _ _ _ _ _ _ _ _ _ _ _ _ _ _ _ _ _)
   | (with_reducible exact roadbooklaw16_awake.mono _)
   | (with_reducible exact roadbookref07_Few.mono _ _ _ _ _ _ _ _ _ _ _ _ _ _ _ _ _ _ _ _ _ _ _ _ _ _)
   | (with_reducible exact roadbookref07_Same.mono _ _ _ _ _ _ _ _ _ _ _ _ _ _ _ _ _ _ _ _ _ _ _ _ _ _ _ _ _ _ _ _ _ _ _ _ _ _ _ _ _ _ _ _ _ _ _ _ _ _ _)
   | (with_reducible exact LeO.refl _)
   | (with_reducible exact LeO.none _)
   | (with_reducible refine LeO.ite ?_ ?_)
   | (with_reducible refine LeO.bind ?_ (fun _ => ?_))
   | exact ih0 ..
   | exact ih1 ..
   | exact ih2 _
   | exact ih3 _ _
   | exact ih4 _ _
   | exact rerr_Get.mono _ _
   | exact rerr_Put.mono _ _ _ _ _ _ _ _ _ _ _ _ _ _ _ _ _ _ _ _ _ _ _ _ _ _
   | exact rerr_Right.mono _ _ _ _ _ _ _ _ _ _ _ _ _ _ _ _ _ _ _ _ _ _ _ _ _ _
   | exact roadbooklaw16_awake.mono _
   | exact roadbookref07_Few.mono _ _ _ _ _ _ _ _ _ _ _ _ _ _ _ _ _ _ _ _ _ _ _ _ _ _
   | exact roadbookref07_Same.mono _ _ _ _ _ _ _ _ _ _ _ _ _ _ _ _ _ _ _ _ _ _ _ _ _ _ _ _ _ _ _ _ _ _ _ _ _ _ _ _ _ _ _ _ _ _ _ _ _ _ _
   | exact LeO.none _
   | refine LeO.ite ?_ ?_
   | refine LeO.bind ?_ (fun _ => ?_)
  ·intro y0
   unfold roadbooklaw16_RerrBack.j3
   repeat' first
   | (with_reducible exact ih0 ..)
   | (with_reducible exact ih1 ..)
   | (with_reducible exact ih2 _)
   | (with_reducible exact ih3 _ _)
   | (with_reducible exact ih4 _ _)
   | (with_reducible exact rerr_Get.mono _ _)
   | (with_reducible exact rerr_Put.mono _ _ _ _ _ _ _ _ _ _ _ _ _ _ _ _ _ _ _ _ _ _ _ _ _ _)
   | (with_reducible exact rerr_Right.mono _ _ _ _ _ _ _ _ _ _ _ _ _ _ _ _ _ _ _ _ _ _ _ _ _ _)
   | (with_reducible exact roadbooklaw16_awake.mono _)
   | (with_reducible exact roadbookref07_Few.mono _ _ _ _ _ _ _ _ _ _ _ _ _ _ _ _ _ _ _ _ _ _ _ _ _ _)
   | (with_reducible exact roadbookref07_Same.mono _ _ _ _ _ _ _ _ _ _ _ _ _ _ _ _ _ _ _ _ _ _ _ _ _ _ _ _ _ _ _ _ _ _ _ _ _ _ _ _ _ _ _ _ _ _ _ _ _ _ _)
   | (with_reducible exact LeO.refl _)
   | (with_reducible exact LeO.none _)
   | (with_reducible refine LeO.ite ?_ ?_)
   | (with_reducible refine LeO.bind ?_ (fun _ => ?_))
   | exact ih0 ..
   | exact ih1 ..
   | exact ih2 _
   | exact ih3 _ _
   | exact ih4 _ _
   | exact rerr_Get.mono _ _
   | exact rerr_Put.mono _ _ _ _ _ _ _ _ _ _ _ _ _ _ _ _ _ _ _ _ _ _ _ _ _ _
   | exact rerr_Right.mono _ _ _ _ _ _ _ _ _ _ _ _ _ _ _ _ _ _ _ _ _ _ _ _ _ _
   | exact roadbooklaw16_awake.mono _
   | exact roadbookref07_Few.mono _ _ _ _ _ _ _ _ _ _ _ _ _ _ _ _ _ _ _ _ _ _ _ _ _ _
   | exact roadbookref07_Same.mono _ _ _ _ _ _ _ _ _ _ _ _ _ _ _ _ _ _ _ _ _ _ _ _ _ _ _ _ _ _ _ _ _ _ _ _ _ _ _ _ _ _ _ _ _ _ _ _ _ _ _
   | exact LeO.none _
   | refine LeO.ite ?_ ?_
   | refine LeO.bind ?_ (fun _ => ?_)
  ·intro y0 y1
   unfold roadbooklaw16_RerrBack.j4
   repeat' first
   | (with_reducible exact ih0 ..)
   | (with_reducible exact ih1 ..)
   | (with_reducible exact ih2 _)
   | (with_reducible exact ih3 _ _)
   | (with_reducible exact ih4 _ _)
   | (with_reducible exact rerr_Get.mono _ _)
   | (with_reducible exact rerr_Put.mono _ _ _ _ _ _ _ _ _ _ _ _ _ _ _ _ _ _ _ _ _ _ _ _ _ _)
   | (with_reducible exact rerr_Right.mono _ _ _ _ _ _ _ _ _ _ _ _ _ _ _ _ _ _ _ _ _ _ _ _ _ _)
   | (with_reducible exact roadbooklaw16_awake.mono _)
   | (with_reducible exact roadbookref07_Few.mono _ _ _ _ _ _ _ _ _ _ _ _ _ _ _ _ _ _ _ _ _ _ _ _ _ _)
   | (with_reducible exact roadbookref07_Same.mono _ _ _ _ _ _ _ _ _ _ _ _ _ _ _ _ _ _ _ _ _ _ _ _ _ _ _ _ _ _ _ _ _ _ _ _ _ _ _ _ _ _ _ _ _ _ _ _ _ _ _)
   | (with_reducible exact LeO.refl _)
   | (with_reducible exact LeO.none _)
   | (with_reducible refine LeO.ite ?_ ?_)
   | (with_reducible refine LeO.bind ?_ (fun _ => ?_))
   | exact ih0 ..
   | exact ih1 ..
   | exact ih2 _
   | exact ih3 _ _
   | exact ih4 _ _
   | exact rerr_Get.mono _ _
   | exact rerr_Put.mono _ _ _ _ _ _ _ _ _ _ _ _ _ _ _ _ _ _ _ _ _ _ _ _ _ _
   | exact rerr_Right.mono _ _ _ _ _ _ _ _ _ _ _ _ _ _ _ _ _ _ _ _ _ _ _ _ _ _
   | exact roadbooklaw16_awake.mono _
   | exact roadbookref07_Few.mono _ _ _ _ _ _ _ _ _ _ _ _ _ _ _ _ _ _ _ _ _ _ _ _ _ _
   | exact roadbookref07_Same.mono _ _ _ _ _ _ _ _ _ _ _ _ _ _ _ _ _ _ _ _ _ _ _ _ _ _ _ _ _ _ _ _ _ _ _ _ _ _ _ _ _ _ _ _ _ _ _ _ _ _ _
   | exact LeO.none _
   | refine LeO.ite ?_ ?_
   | refine LeO.bind ?_ (fun _ => ?_)
  ·intro y0 y1
   unfold roadbooklaw16_RerrBack.j2
   repeat' first
   | (with_reducible exact ih0 ..)
   | (with_reducible exact ih1 ..)
   | (with_reducible exact ih2 _)
   | (with_reducible exact ih3 _ _)
   | (with_reducible exact ih4 _ _)
   | (with_reducible exact rerr_Get.mono _ _)
   | (with_reducible exact rerr_Put.mono _ _ _ _ _ _ _ _ _ _ _ _ _ _ _ _ _ _ _ _ _ _ _ _ _ _)
   | (with_reducible exact rerr_Right.mono _ _ _ _ _ _ _ _ _ _ _ _ _ _ _ _ _ _ _ _ _ _ _ _ _ _)
   | (with_reducible exact roadbooklaw16_awake.mono _)
   | (with_reducible exact roadbookref07_Few.mono _ _ _ _ _ _ _ _ _ _ _ _ _ _ _ _ _ _ _ _ _ _ _ _ _ _)
   | (with_reducible exact roadbookref07_Same.mono _ _ _ _ _ _ _ _ _ _ _ _ _ _ _ _ _ _ _ _ _ _ _ _ _ _ _ _ _ _ _ _ _ _ _ _ _ _ _ _ _ _ _ _ _ _ _ _ _ _ _)
   | (with_reducible exact LeO.refl _)
   | (with_reducible exact LeO.none _)
   | (with_reducible refine LeO.ite ?_ ?_)
   | (with_reducible refine LeO.bind ?_ (fun _ => ?_))
   | exact ih0 ..
   | exact ih1 ..
   | exact ih2 _
   | exact ih3 _ _
   | exact ih4 _ _
   | exact rerr_Get.mono _ _
   | exact rerr_Put.mono _ _ _ _ _ _ _ _ _ _ _ _ _ _ _ _ _ _ _ _ _ _ _ _ _ _
   | exact rerr_Right.mono _ _ _ _ _ _ _ _ _ _ _ _ _ _ _ _ _ _ _ _ _ _ _ _ _ _
   | exact roadbooklaw16_awake.mono _
   | exact roadbookref07_Few.mono _ _ _ _ _ _ _ _ _ _ _ _ _ _ _ _ _ _ _ _ _ _ _ _ _ _
   | exact roadbookref07_Same.mono _ _ _ _ _ _ _ _ _ _ _ _ _ _ _ _ _ _ _ _ _ _ _ _ _ _ _ _ _ _ _ _ _ _ _ _ _ _ _ _ _ _ _ _ _ _ _ _ _ _ _
   | exact LeO.none _
   | refine LeO.ite ?_ ?_
   | refine LeO.bind ?_ (fun _ => ?_)
theorem roadbooklaw16_RerrBack.mono : ∀ a0 a1 a2 a3 a4 a5 a6 a7 a8 a9 fJ fK fL fM fN fO fP fQ fR fS fT fU fV fW fX mK k, LeO (roadbooklaw16_RerrBack.f k a0 a1 a2 a3 a4 a5 a6 a7 a8 a9 fJ fK fL fM fN fO fP fQ fR fS fT fU fV fW fX mK) (roadbooklaw16_RerrBack.f (k + 1) a0 a1 a2 a3 a4 a5 a6 a7 a8 a9 fJ fK fL fM fN fO fP fQ fR fS fT fU fV fW fX mK) := by
 intro a0 a1 a2 a3 a4 a5 a6 a7 a8 a9 fJ fK fL fM fN fO fP fQ fR fS fT fU fV fW fX mK k
 obtain ⟨ih0, ih1, ih2, ih3, ih4⟩ := roadbooklaw16_RerrBack.mono_l k
 unfold roadbooklaw16_RerrBack.f
 repeat' first
   | (with_reducible exact ih0 ..)
   | (with_reducible exact ih1 ..)
   | (with_reducible exact ih2 _)
   | (with_reducible exact ih3 _ _)
   | (with_reducible exact ih4 _ _)
   | (with_reducible exact rerr_Get.mono _ _)
   | (with_reducible exact rerr_Put.mono _ _ _ _ _ _ _ _ _ _ _ _ _ _ _ _ _ _ _ _ _ _ _ _ _ _)
   | (with_reducible exact rerr_Right.mono _ _ _ _ _ _ _ _ _ _ _ _ _ _ _ _ _ _ _ _ _ _ _ _ _ _)
   | (with_reducible exact roadbooklaw16_awake.mono _)
   | (with_reducible exact roadbookref07_Few.mono _ _ _ _ _ _ _ _ _ _ _ _ _ _ _ _ _ _ _ _ _ _ _ _ _ _)
   | (with_reducible exact roadbookref07_Same.mono _ _ _ _ _ _ _ _ _ _ _ _ _ _ _ _ _ _ _ _ _ _ _ _ _ _ _ _ _ _ _ _ _ _ _ _ _ _ _ _ _ _ _ _ _ _ _ _ _ _ _)
   | (with_reducible exact LeO.refl _)
   | (with_reducible exact LeO.none _)
   | (with_reducible refine LeO.ite ?_ ?_)
   | (with_reducible refine LeO.bind ?_ (fun _ => ?_))
   | exact ih0 ..
   | exact ih1 ..
   | exact ih2 _
   | exact ih3 _ _
   | exact ih4 _ _
   | exact rerr_Get.mono _ _
   | exact rerr_Put.mono _ _ _ _ _ _ _ _ _ _ _ _ _ _ _ _ _ _ _ _ _ _ _ _ _ _
   | exact rerr_Right.mono _ _ _ _ _ _ _ _ _ _ _ _ _ _ _ _ _ _ _ _ _ _ _ _ _ _
   | exact roadbooklaw16_awake.mono _
   | exact roadbookref07_Few.mono _ _ _ _ _ _ _ _ _ _ _ _ _ _ _ _ _ _ _ _ _ _ _ _ _ _
   | exact roadbookref07_Same.mono _ _ _ _ _ _ _ _ _ _ _ _ _ _ _ _ _ _ _ _ _ _ _ _ _ _ _ _ _ _ _ _ _ _ _ _ _ _ _ _ _ _ _ _ _ _ _ _ _ _ _
   | exact LeO.none _
   | refine LeO.ite ?_ ?_
   | refine LeO.bind ?_ (fun _ => ?_)

set_option maxHeartbeats 8000000 in
set_option maxRecDepth 100000 in
theorem roadbooklaw16_RerrBack.calls (k : Nat) (av : Int) (au : Int) (aw : Int) (ay : ByteArray) (aD : Int) (az : Int) (aA : ByteArray) (ax : Int) (aE : Int) (aC : ByteArray) (ap : Int) (an : ByteArray) (aj : Int) (am : Int) (ak : Int) (ah : Int) (ai : Int) (al : Int) (ao : Int) (ac : ByteArray) (af : ByteArray) (aT : Option Addr) (aN : Nat) (ae : List (S46)) (aq : Int) (ar : ByteArray) (aJ : Option Addr) (aK : Nat) (ag : List (S48)) (a1 : ByteArray) (r : Bool) (w : World) (bY : Kd.C k46 w aT ae.length ae) (bZ : ae.length ≤ aN) (ca : Kd.C k48 w aJ ag.length ag) (cb : ag.length ≤ aK) (hr_ : Aside0 (r = true)) (h : roadbooklaw16_RerrBack.f k av au aw ay aD az aA ax aE aC ap an aj am ak ah ai al ao ac af ae aq ar ag a1 = some r) :
  Calls Try.prog 8 #[.agg #[.int .i64 av, .int .i64 au, .int .i64 aw, .string ay, .int .i64 aD, .int .i64 az, .string aA, .int .i64 ax, .int .i64 aE, .string aC, .int .i64 ap, .string an, .int .i64 aj, .int .i64 am, .int .i64 ak, .int .i64 ah, .int .i64 ai, .int .i64 al, .int .i64 ao, .string ac, .string af, .slice aT ae.length aN, .int .i64 aq, .string ar, .slice aJ ag.length aK], .string a1] w fun e w' => e = .returned (.bool r) ∧ Below w.heap.size w w' := by
 have gB := Try.underlying25
 have cT := Aside0.mk bY
 have bl := Aside0.mk bZ
 clear bY bZ
 have cP := Aside0.mk ca
 have bg := Aside0.mk cb
 clear ca cb
 have HB := Aside0.mk (Below.refl w.heap.size w)
 have H : ((roadbookref07_Few.f k av au aw ay aD az aA ax aE aC ap an aj am ak ah ai al ao ac af ae aq ar ag).bind fun ba => (if ba = true then (roadbooklaw16_RerrBack.j0 k a1 (decide ((a1.size : Int) > 3000)) av au aw ay aD az aA ax aE aC ap an aj am ak ah ai al ao ac af ae aq ar ag) else (roadbooklaw16_RerrBack.j0 k a1 true av au aw ay aD az aA ax aE aC ap an aj am ak ah ai al ao ac af ae aq ar ag))) = some r := h
 clear h
 have gl := Aside0.mk H
 clear H
 go_enter Try.func8, Try.ntmps8
 go_upto_region 1 with (first | ((with_reducible refine Pre.gate_load 25 rfl ?_); (try (refine gate_guard Z13 ?_; dsimp only)); refine Pre.load_event rfl rfl rfl Z13 Z4 Try.underlying25 rfl Z6 ?_) | ((with_reducible refine gate_dst (N := 2) rfl ?_); (try (refine gate_guard Z13 ?_; dsimp only)); refine box_event ?hg (N := 2) ?hd (cs := #[.int .i64 av, .int .i64 au, .int .i64 aw, .string ay, .int .i64 aD, .int .i64 az, .string aA, .int .i64 ax, .int .i64 aE, .string aC, .int .i64 ap, .string an, .int .i64 aj, .int .i64 am, .int .i64 ak, .int .i64 ah, .int .i64 ai, .int .i64 al, .int .i64 ao, .string ac, .string af, .slice aT ae.length aN, .int .i64 aq, .string ar, .slice aJ ag.length aK]) (t := 25) ?hr ?_; (case hd => rfl); (case hg => rfl); (case hr => first | (go_simp; done) | (go_simp; rfl)); intro aa hg w4 hbox hb; have aG := Aside0.mk (below_step Z3 hb); have aH := Aside0.mk (hbox); have aI := Aside0.mk ((by rw [hg]; exact (below_size Z3) : w.heap.size ≤ aa)); have aZ := Aside0.mk ((by rw [hg]; exact (below_size Z3) : w.heap.size ≤ aa)); replace HB := aG; have ab := aH; have cl := aI; have bs := aZ; clear aG aH aI aZ; clear hb hbox hg))
 (try simp only [Act.put, List.setIfInBounds_toArray, List.set_cons_zero, List.set_cons_succ])
 go_cut [22] (fun kF wc => ∃ (kq : Nat) (iz : Bool), kF = .bool iz ∧ Aside0 (roadbooklaw16_RerrBack.j0 kq a1 iz av au aw ay aD az aA ax aE aC ap an aj am ak ah ai al ao ac af ae aq ar ag = some r) ∧ Aside0 (kq ≤ k) ∧ Aside0 (wc.heap[aa]? = some (.cells #[.int .i64 av, .int .i64 au, .int .i64 aw, .string ay, .int .i64 aD, .int .i64 az, .string aA, .int .i64 ax, .int .i64 aE, .string aC, .int .i64 ap, .string an, .int .i64 aj, .int .i64 am, .int .i64 ak, .int .i64 ah, .int .i64 ai, .int .i64 al, .int .i64 ao, .string ac, .string af, (.slice aT ae.length aN), .int .i64 aq, .string ar, (.slice aJ ag.length aK)] 25 (0, 0))) ∧ Aside0 (Below w.heap.size w wc))
 case first =>
  have H := gl.out
  clear gl
  replace H := Option.bind_eq_some_iff.mp H
  obtain ⟨ba, jp, H⟩ := H
  replace H : (if ba = true then (roadbooklaw16_RerrBack.j0 k a1 (decide ((a1.size : Int) > 3000)) av au aw ay aD az aA ax aE aC ap an aj am ak ah ai al ao ac af ae aq ar ag) else (roadbooklaw16_RerrBack.j0 k a1 true av au aw ay aD az aA ax aE aC ap an aj am ak ah ai al ao ac af ae aq ar ag)) = some r := H
  have A5 := Aside0.mk jp
  clear jp
  by_cases c6 : ba = true
  ·subst c6
   replace H := Sq.itT H
   have H' := Aside0.mk H
   clear H
   have jy := cells_25 ab.out
   go_wp2_with (first | ((with_reducible refine Pre.gate_load 25 rfl ?_); (try (refine gate_guard Z13 ?_; dsimp only)); refine Pre.load_event rfl rfl rfl Z13 Z4 Try.underlying25 rfl Z6 ?_) | ((with_reducible refine gate_callee (f := 16) rfl ?_); refine goesL_ (some 16) rfl rfl Try.func16 Z6 rfl #[.agg #[.int .i64 av, .int .i64 au, .int .i64 aw, .string ay, .int .i64 aD, .int .i64 az, .string aA, .int .i64 ax, .int .i64 aE, .string aC, .int .i64 ap, .string an, .int .i64 aj, .int .i64 am, .int .i64 ak, .int .i64 ah, .int .i64 ai, .int .i64 al, .int .i64 ao, .string ac, .string af, .slice aT ae.length aN, .int .i64 aq, .string ar, .slice aJ ag.length aK]] rfl Z5 ?_; (with_reducible refine (roadbookref07_Few.calls k av au aw ay aD az aA ax aE aC ap an aj am ak ah ai al ao ac af _ _ ae aq ar _ _ ag true _ ?side1 ?side2 ?side3 ?side4 A5.out).mono ?_); (case side1 => exact Z8); (case side2 => exact bl.out); (case side3 => exact Z7); (case side4 => exact bg.out); rintro e w8 ⟨rfl, hb⟩; refine ⟨_, rfl, ?_⟩; have aG := Aside0.mk (blk_below (g := aa) Z1 hb); have aH := Aside0.mk (below_step Z0 hb); replace ab := aG; replace HB := aH; clear aG aH; (try clear hb); (try clear hb2); (try clear hk); (try clear hi)))
   go_meet
   case rel => exact ⟨_, (decide ((a1.size : Int) > 3000)), Z14, H', ⟨Z41⟩, ⟨Z1⟩, ⟨Z0⟩⟩
  ·replace c6 := Bool.eq_false_iff.mpr c6
   subst c6
   replace H := Sq.itF H
   have H' := Aside0.mk H
   clear H
   have iV := cells_25 ab.out
   go_wp2_with (first | ((with_reducible refine Pre.gate_load 25 rfl ?_); (try (refine gate_guard Z13 ?_; dsimp only)); refine Pre.load_event rfl rfl rfl Z13 Z4 Try.underlying25 rfl Z6 ?_) | ((with_reducible refine gate_callee (f := 16) rfl ?_); refine goesL_ (some 16) rfl rfl Try.func16 Z6 rfl #[.agg #[.int .i64 av, .int .i64 au, .int .i64 aw, .string ay, .int .i64 aD, .int .i64 az, .string aA, .int .i64 ax, .int .i64 aE, .string aC, .int .i64 ap, .string an, .int .i64 aj, .int .i64 am, .int .i64 ak, .int .i64 ah, .int .i64 ai, .int .i64 al, .int .i64 ao, .string ac, .string af, .slice aT ae.length aN, .int .i64 aq, .string ar, .slice aJ ag.length aK]] rfl Z5 ?_; (with_reducible refine (roadbookref07_Few.calls k av au aw ay aD az aA ax aE aC ap an aj am ak ah ai al ao ac af _ _ ae aq ar _ _ ag false _ ?side1 ?side2 ?side3 ?side4 A5.out).mono ?_); (case side1 => exact Z8); (case side2 => exact bl.out); (case side3 => exact Z7); (case side4 => exact bg.out); rintro e sg ⟨rfl, hb⟩; refine ⟨_, rfl, ?_⟩; have aG := Aside0.mk (blk_below (g := aa) Z1 hb); have aH := Aside0.mk (below_step Z0 hb); replace ab := aG; replace HB := aH; clear aG aH; (try clear hb); (try clear hb2); (try clear hk); (try clear hi)))
   go_meet
   case rel => exact ⟨_, (true), Z14, H', ⟨Z41⟩, ⟨Z1⟩, ⟨Z0⟩⟩
 case rest =>
  clear gl
  try clear c8
  obtain ⟨kq, iz, rfl, HA, pD, ab, HB⟩ := hcut
  cases kq with
  | zero => exact absurd HA.out (by simp [roadbooklaw16_RerrBack.j0])
  | succ kj2 =>
   have H := HA.out
   clear HA
   simp only [roadbooklaw16_RerrBack.j0] at H
   by_cases cU : iz = true
   ·subst cU
    replace H := Sq.itT H
    replace H := Option.bind_eq_some_iff.mp H
    obtain ⟨bf, hN, H⟩ := H
    replace H : (some bf) = some r := H
    have ln := Aside0.mk hN
    clear hN
    obtain rfl := Option.some.inj H
    go_wp2_with (first | ((with_reducible refine Pre.gate_load 25 rfl ?_); (try (refine gate_guard Z13 ?_; dsimp only)); refine Pre.load_event rfl rfl rfl Z13 Z4 Try.underlying25 rfl Z6 ?_) | ((with_reducible refine gate_callee (f := 25) rfl ?_); refine goesL_ (some 23) rfl rfl Try.func25 Z6 rfl #[] rfl Z5 ?_; (with_reducible refine (roadbooklaw16_awake.calls kj2  bf _ (Aside0.mk Z89) ln.out).mono ?_); rintro e lb ⟨rfl, hb⟩; refine ⟨_, rfl, ?_⟩; have aG := Aside0.mk (blk_below (g := aa) Z1 hb); have aH := Aside0.mk (below_step Z0 hb); replace ab := aG; replace HB := aH; clear aG aH; (try clear hb); (try clear hb2); (try clear hk); (try clear hi)))
    go_ret
    exact ⟨Z9, Z0⟩
   ·replace cU := Bool.eq_false_iff.mpr cU
    subst cU
    replace H := Sq.itF H
    replace H := Option.bind_eq_some_iff.mp H
    obtain ⟨⟨bc, bk⟩, iu, H⟩ := H
    replace H : ((rerr_Right.f kj2 av au aw ay aD az aA ax aE aC ap an aj am ak ah ai al ao ac af ae aq ar ag).bind fun bm => (if (bk != bm) = true then (roadbooklaw16_RerrBack.j1 kj2 a1 bc bk true av au aw ay aD az aA ax aE aC ap an aj am ak ah ai al ao ac af ae aq ar ag) else (if bk = true then (roadbooklaw16_RerrBack.j1 kj2 a1 bc bk false av au aw ay aD az aA ax aE aC ap an aj am ak ah ai al ao ac af ae aq ar ag) else (roadbooklaw16_RerrBack.j1 kj2 a1 bc bk (bc.toList != ([] : List UInt8)) av au aw ay aD az aA ax aE aC ap an aj am ak ah ai al ao ac af ae aq ar ag)))) = some r := H
    have mJ := Aside0.mk iu
    clear iu
    have kL := Aside0.mk H
    clear H
    have ir := cells_25 ab.out
    go_upto_region 4 with (first | ((with_reducible refine Pre.gate_load 25 rfl ?_); (try (refine gate_guard Z13 ?_; dsimp only)); refine Pre.load_event rfl rfl rfl Z13 Z4 Try.underlying25 rfl Z6 ?_) | ((with_reducible refine gate_callee (f := 26) rfl ?_); refine goesL_ (some 26) rfl rfl Try.func26 Z6 rfl #[.agg #[.int .i64 av, .int .i64 au, .int .i64 aw, .string ay, .int .i64 aD, .int .i64 az, .string aA, .int .i64 ax, .int .i64 aE, .string aC, .int .i64 ap, .string an, .int .i64 aj, .int .i64 am, .int .i64 ak, .int .i64 ah, .int .i64 ai, .int .i64 al, .int .i64 ao, .string ac, .string af, .slice aT ae.length aN, .int .i64 aq, .string ar, .slice aJ ag.length aK]] rfl Z5 ?_; (with_reducible refine (rerr_Put.calls kj2 av au aw ay aD az aA ax aE aC ap an aj am ak ah ai al ao ac af _ _ ae aq ar _ _ ag bc bk _ ?side1 ?side2 ?side3 ?side4 mJ.out).mono ?_); (case side1 => exact Z8); (case side2 => exact bl.out); (case side3 => exact Z7); (case side4 => exact bg.out); rintro e kz ⟨rfl, hb⟩; refine ⟨_, rfl, ?_⟩; have aG := Aside0.mk (blk_below (g := aa) Z1 hb); have aH := Aside0.mk (below_step Z0 hb); replace ab := aG; replace HB := aH; clear aG aH; (try clear hb); (try clear hb2); (try clear hk); (try clear hi)))
    (try simp only [Act.put, List.setIfInBounds_toArray, List.set_cons_zero, List.set_cons_succ])
    go_cut [40] (fun tl wc => ∃ (kq : Nat) (hA : Bool), tl = .bool hA ∧ Aside0 (roadbooklaw16_RerrBack.j1 kq a1 bc bk hA av au aw ay aD az aA ax aE aC ap an aj am ak ah ai al ao ac af ae aq ar ag = some r) ∧ Aside0 (kq ≤ kj2) ∧ Aside0 (wc.heap[aa]? = some (.cells #[.int .i64 av, .int .i64 au, .int .i64 aw, .string ay, .int .i64 aD, .int .i64 az, .string aA, .int .i64 ax, .int .i64 aE, .string aC, .int .i64 ap, .string an, .int .i64 aj, .int .i64 am, .int .i64 ak, .int .i64 ah, .int .i64 ai, .int .i64 al, .int .i64 ao, .string ac, .string af, (.slice aT ae.length aN), .int .i64 aq, .string ar, (.slice aJ ag.length aK)] 25 (0, 0))) ∧ Aside0 (Below w.heap.size w wc))
    case first =>
     have H := kL.out
     clear kL
     replace H := Option.bind_eq_some_iff.mp H
     obtain ⟨bm, jP, H⟩ := H
     replace H : (if (bk != bm) = true then (roadbooklaw16_RerrBack.j1 kj2 a1 bc bk true av au aw ay aD az aA ax aE aC ap an aj am ak ah ai al ao ac af ae aq ar ag) else (if bk = true then (roadbooklaw16_RerrBack.j1 kj2 a1 bc bk false av au aw ay aD az aA ax aE aC ap an aj am ak ah ai al ao ac af ae aq ar ag) else (roadbooklaw16_RerrBack.j1 kj2 a1 bc bk (bc.toList != ([] : List UInt8)) av au aw ay aD az aA ax aE aC ap an aj am ak ah ai al ao ac af ae aq ar ag))) = some r := H
     have ma := Aside0.mk jP
     clear jP
     by_cases fe : (bk != bm) = true
     ·rw [if_pos fe] at H
      have eV : (bk != bm) = true := fe
      (try (have ic : decide (bk = bm) = false := by simpa using fe))
      (try (have ja : (bk == bm) = false := by simpa using fe))
      (try (have lz : ¬ (bk = bm) := by simpa using fe))
      clear fe
      (first | rw [eV] | (simp only [i64_w, i32_w]; rw [eV]) | skip)
      have H' := Aside0.mk H
      clear H
      have iR := cells_25 ab.out
      go_wp2_with (first | ((with_reducible refine Pre.gate_load 25 rfl ?_); (try (refine gate_guard Z13 ?_; dsimp only)); refine Pre.load_event rfl rfl rfl Z13 Z4 Try.underlying25 rfl Z6 ?_) | ((with_reducible refine gate_callee (f := 28) rfl ?_); refine goesL_ (some 31) rfl rfl Try.func28 Z6 rfl #[.agg #[.int .i64 av, .int .i64 au, .int .i64 aw, .string ay, .int .i64 aD, .int .i64 az, .string aA, .int .i64 ax, .int .i64 aE, .string aC, .int .i64 ap, .string an, .int .i64 aj, .int .i64 am, .int .i64 ak, .int .i64 ah, .int .i64 ai, .int .i64 al, .int .i64 ao, .string ac, .string af, .slice aT ae.length aN, .int .i64 aq, .string ar, .slice aJ ag.length aK]] rfl Z5 ?_; (with_reducible refine (rerr_Right.calls kj2 av au aw ay aD az aA ax aE aC ap an aj am ak ah ai al ao ac af _ _ ae aq ar _ _ ag bm _ ?side1 ?side2 ?side3 ?side4 ma.out).mono ?_); (case side1 => exact Z8); (case side2 => exact bl.out); (case side3 => exact Z7); (case side4 => exact bg.out); rintro e mi ⟨rfl, hb⟩; refine ⟨_, rfl, ?_⟩; have aG := Aside0.mk (blk_below (g := aa) Z1 hb); have aH := Aside0.mk (below_step Z0 hb); replace ab := aG; replace HB := aH; clear aG aH; (try clear hb); (try clear hb2); (try clear hk); (try clear hi)))
      go_meet
      case rel => exact ⟨_, (true), Z14, H', ⟨Z102⟩, ⟨Z1⟩, ⟨Z0⟩⟩
     ·rw [if_neg fe] at H
      have eV : (bk != bm) = false := by first | exact Bool.eq_false_iff.mpr fe | simpa using fe
      (try (have ic : decide (bk = bm) = true := by simpa using fe))
      (try (have ja : (bk == bm) = true := by simpa using fe))
      clear fe
      (first | rw [eV] | (simp only [i64_w, i32_w]; rw [eV]) | skip)
      by_cases iC : bk = true
      ·subst iC
       replace H := Sq.itT H
       have H' := Aside0.mk H
       clear H
       have jO := cells_25 ab.out
       go_wp2_with (first | ((with_reducible refine Pre.gate_load 25 rfl ?_); (try (refine gate_guard Z13 ?_; dsimp only)); refine Pre.load_event rfl rfl rfl Z13 Z4 Try.underlying25 rfl Z6 ?_) | ((with_reducible refine gate_callee (f := 28) rfl ?_); refine goesL_ (some 31) rfl rfl Try.func28 Z6 rfl #[.agg #[.int .i64 av, .int .i64 au, .int .i64 aw, .string ay, .int .i64 aD, .int .i64 az, .string aA, .int .i64 ax, .int .i64 aE, .string aC, .int .i64 ap, .string an, .int .i64 aj, .int .i64 am, .int .i64 ak, .int .i64 ah, .int .i64 ai, .int .i64 al, .int .i64 ao, .string ac, .string af, .slice aT ae.length aN, .int .i64 aq, .string ar, .slice aJ ag.length aK]] rfl Z5 ?_; (with_reducible refine (rerr_Right.calls kj2 av au aw ay aD az aA ax aE aC ap an aj am ak ah ai al ao ac af _ _ ae aq ar _ _ ag bm _ ?side1 ?side2 ?side3 ?side4 ma.out).mono ?_); (case side1 => exact Z8); (case side2 => exact bl.out); (case side3 => exact Z7); (case side4 => exact bg.out); rintro e ed ⟨rfl, hb⟩; refine ⟨_, rfl, ?_⟩; have aG := Aside0.mk (blk_below (g := aa) Z1 hb); have aH := Aside0.mk (below_step Z0 hb); replace ab := aG; replace HB := aH; clear aG aH; (try clear hb); (try clear hb2); (try clear hk); (try clear hi)))
       go_meet
       case rel => exact ⟨_, (false), Z14, H', ⟨Z102⟩, ⟨Z1⟩, ⟨Z0⟩⟩
      ·replace iC := Bool.eq_false_iff.mpr iC
       subst iC
       replace H := Sq.itF H
       have H' := Aside0.mk H
       clear H
       have iv := cells_25 ab.out
       go_wp2_with (first | ((with_reducible refine Pre.gate_load 25 rfl ?_); (try (refine gate_guard Z13 ?_; dsimp only)); refine Pre.load_event rfl rfl rfl Z13 Z4 Try.underlying25 rfl Z6 ?_) | ((with_reducible refine gate_callee (f := 28) rfl ?_); refine goesL_ (some 31) rfl rfl Try.func28 Z6 rfl #[.agg #[.int .i64 av, .int .i64 au, .int .i64 aw, .string ay, .int .i64 aD, .int .i64 az, .string aA, .int .i64 ax, .int .i64 aE, .string aC, .int .i64 ap, .string an, .int .i64 aj, .int .i64 am, .int .i64 ak, .int .i64 ah, .int .i64 ai, .int .i64 al, .int .i64 ao, .string ac, .string af, .slice aT ae.length aN, .int .i64 aq, .string ar, .slice aJ ag.length aK]] rfl Z5 ?_; (with_reducible refine (rerr_Right.calls kj2 av au aw ay aD az aA ax aE aC ap an aj am ak ah ai al ao ac af _ _ ae aq ar _ _ ag bm _ ?side1 ?side2 ?side3 ?side4 ma.out).mono ?_); (case side1 => exact Z8); (case side2 => exact bl.out); (case side3 => exact Z7); (case side4 => exact bg.out); rintro e gD ⟨rfl, hb⟩; refine ⟨_, rfl, ?_⟩; have aG := Aside0.mk (blk_below (g := aa) Z1 hb); have aH := Aside0.mk (below_step Z0 hb); replace ab := aG; replace HB := aH; clear aG aH; (try clear hb); (try clear hb2); (try clear hk); (try clear hi)))
       go_meet
       case rel => exact ⟨_, ((bc.toList != ([] : List UInt8))), Z119, H', ⟨Z102⟩, ⟨Z1⟩, ⟨Z0⟩⟩
    case rest =>
     clear kL
     try clear c1
     try clear c2
     try clear p2
     try clear c6
     try clear c8
     try clear cU
     try clear ej
     try clear kf
     try clear jG
     try clear ir
     try clear jy
     try clear iV
     obtain ⟨kq, hA, rfl, HA, oF, ab, HB⟩ := hcut
     cases kq with
     | zero => exact absurd HA.out (by simp [roadbooklaw16_RerrBack.j1])
     | succ kj14 =>
      have H := HA.out
      clear HA
      simp only [roadbooklaw16_RerrBack.j1] at H
      by_cases iD : hA = true
      ·subst iD
       replace H := Sq.itT H
       exact absurd (Option.some.inj H) Z30
      ·replace iD := Bool.eq_false_iff.mpr iD
       subst iD
       replace H := Sq.itF H
       have kM := Aside0.mk H
       clear H
       go_upto_if 41 with (first | ((with_reducible refine Pre.gate_load 25 rfl ?_); (try (refine gate_guard Z13 ?_; dsimp only)); refine Pre.load_event rfl rfl rfl Z13 Z4 Try.underlying25 rfl Z6 ?_))
       go_cut [] (fun wc => ∃ (kq : Nat), Aside0 (roadbooklaw16_RerrBack.j3 kq a1 = some r) ∧ Aside0 (kq ≤ kj14) ∧ Aside0 (wc.heap[aa]? = some (.cells #[.int .i64 av, .int .i64 au, .int .i64 aw, .string ay, .int .i64 aD, .int .i64 az, .string aA, .int .i64 ax, .int .i64 aE, .string aC, .int .i64 ap, .string an, .int .i64 aj, .int .i64 am, .int .i64 ak, .int .i64 ah, .int .i64 ai, .int .i64 al, .int .i64 ao, .string ac, .string af, (.slice aT ae.length aN), .int .i64 aq, .string ar, (.slice aJ ag.length aK)] 25 (0, 0))) ∧ Aside0 (Below w.heap.size w wc))
       case first =>
        have H := kM.out
        clear kM
        by_cases jr : bk = true
        ·subst jr
         replace H := Sq.itT H
         replace H := Option.bind_eq_some_iff.mp H
         obtain ⟨⟨bp, aQ, aV, bi, cy, cF, cD, cj, cm, ce, cq, cg, co, ck, cu, ch, cG, ik, eH, cN, cr, cz, cE, fh, cA, dE, eJ⟩, jJ, H⟩ := H
         replace H : (if eJ = 0 then (if dE = 0 then ((roadbookref07_Same.f kj14 av au aw ay aD az aA ax aE aC ap an aj am ak ah ai al ao ac af ae aq ar ag bp aQ aV bi cy cF cD cj cm ce cq cg co ck cu ch cG ik eH cN cr cz cE fh cA).bind fun gC => (roadbooklaw16_RerrBack.j2 kj14 a1 (!gC))) else (roadbooklaw16_RerrBack.j2 kj14 a1 true)) else (roadbooklaw16_RerrBack.j2 kj14 a1 true)) = some r := H
         have ky := Aside0.mk jJ
         clear jJ
         have kN := Aside0.mk H
         clear H
         go_upto_region 8 with (first | ((with_reducible refine Pre.gate_load 25 rfl ?_); (try (refine gate_guard Z13 ?_; dsimp only)); refine Pre.load_event rfl rfl rfl Z13 Z4 Try.underlying25 rfl Z6 ?_) | ((with_reducible refine gate_callee (f := 30) rfl ?_); refine goesL_ (some 44) rfl rfl Try.func30 Z6 rfl #[.string bc] rfl Z5 ?_; (with_reducible refine (rerr_Get.calls kj14 bc bp aQ aV bi cy cF cD cj cm ce cq cg co ck cu ch cG ik eH cN cr cz cE fh cA dE eJ _ ky.out).mono ?_); rintro e gX ⟨nA, tm, rfl, ho0, ho1, hb⟩; refine ⟨_, rfl, ?_⟩; have aG := Aside0.mk (Kd.R_lower ho0 (below_size Z0)); have aH := Aside0.mk (Kd.R_lower ho1 (below_size Z0)); have aI := Aside0.mk (blk_below (g := aa) Z1 hb); have aZ := Aside0.mk (below_step Z0 hb); have cw := aG; have gR := aH; replace ab := aI; replace HB := aZ; clear aG aH aI aZ; (try clear hb); (try clear hb2); (try clear hk); (try clear hi); (try clear ho0); (try clear ho1)) | ((with_reducible refine gate_dst (N := 7) rfl ?_); (try (refine gate_guard Z13 ?_; dsimp only)); refine box_event ?hg (N := 7) ?hd (cs := #[.int .i64 0, .int .i64 0, .int .i64 0, .string ⟨#[]⟩, .int .i64 0, .int .i64 0, .string ⟨#[]⟩, .int .i64 0, .int .i64 0, .string ⟨#[]⟩, .int .i64 0, .string ⟨#[]⟩, .int .i64 0, .int .i64 0, .int .i64 0, .int .i64 0, .int .i64 0, .int .i64 0, .int .i64 0, .string ⟨#[]⟩, .string ⟨#[]⟩, .slice none 0 0, .int .i64 0, .string ⟨#[]⟩, .slice none 0 0]) (t := 25) ?hr ?_; (case hd => rfl); (case hg => rfl); (case hr => first | (go_simp; done) | (go_simp; rfl)); intro de hg iH hbox hb; have aG := Aside0.mk (Kd.R_below Z25 hb); have aH := Aside0.mk (Kd.R_below Z50 hb); have aI := Aside0.mk (blk_below (g := aa) Z1 hb); have aZ := Aside0.mk (below_step Z0 hb); have bH := Aside0.mk (hbox); have cx := Aside0.mk ((by rw [hg]; exact (below_size Z0) : w.heap.size ≤ de)); have du := Aside0.mk ((by rw [hg]; exact (below_size Z0) : w.heap.size ≤ de)); have gE := Aside0.mk ((by rw [hg]; exact Nat.ne_of_lt (blk_lt (g := aa) Z1) : aa ≠ de)); have hC := Aside0.mk ((by rw [hg]; exact Nat.ne_of_gt (blk_lt (g := aa) Z1) : de ≠ aa)); replace cw := aG; replace gR := aH; replace ab := aI; replace HB := aZ; have cM := bH; have nZ := cx; have jK := du; have dW := gE; have fH := hC; clear aG aH aI aZ bH cx du gE hC; clear hb hbox hg; have qy := fH.out; have qz := dW.out; have jj := cells_25 cM.out; obtain ⟨jU, jV, eo36⟩ := Kd.R_slice cw.out; subst eo36; obtain ⟨jd, je, eo37⟩ := Kd.R_slice gR.out; subst eo37) | ((with_reducible refine Pre.gate_store 25 rfl ?_); refine Pre.store_abs (cur := #[.int .i64 0, .int .i64 0, .int .i64 0, .string ⟨#[]⟩, .int .i64 0, .int .i64 0, .string ⟨#[]⟩, .int .i64 0, .int .i64 0, .string ⟨#[]⟩, .int .i64 0, .string ⟨#[]⟩, .int .i64 0, .int .i64 0, .int .i64 0, .int .i64 0, .int .i64 0, .int .i64 0, .int .i64 0, .string ⟨#[]⟩, .string ⟨#[]⟩, .slice none 0 0, .int .i64 0, .string ⟨#[]⟩, .slice none 0 0]) (e := 25) rfl rfl rfl Z13 Z13 Z35 Z6 Z13 Z13 ?_; intro kY hbS_ sS_; have aG : Aside0 (Kd.R k46 46 kY w.heap.size (fun _ => True) (.slice jU cz.length jV) cz) := ⟨Kd.R_mono (Pre.R_sets sS_ (Kd.R_types cw.out cM.out Z32) (fun _ hk => hk.2)) (fun _ hk => trivial)⟩; have aH : Aside0 (Kd.R k48 48 kY w.heap.size (fun _ => True) (.slice jd cA.length je) cA) := ⟨Kd.R_mono (Pre.R_sets sS_ (Kd.R_types gR.out cM.out Z32) (fun _ hk => hk.2)) (fun _ hk => trivial)⟩; have aI : Aside0 (kY.heap[aa]? = some (.cells #[.int .i64 av, .int .i64 au, .int .i64 aw, .string ay, .int .i64 aD, .int .i64 az, .string aA, .int .i64 ax, .int .i64 aE, .string aC, .int .i64 ap, .string an, .int .i64 aj, .int .i64 am, .int .i64 ak, .int .i64 ah, .int .i64 ai, .int .i64 al, .int .i64 ao, .string ac, .string af, .slice aT ae.length aN, .int .i64 aq, .string ar, .slice aJ ag.length aK] 25 (0, 0))) := ⟨sS_.blk Z1 dW.out⟩; have aZ : Aside0 (kY.heap[de]? = some (.cells #[.int .i64 bp, .int .i64 aQ, .int .i64 aV, .string bi, .int .i64 cy, .int .i64 cF, .string cD, .int .i64 cj, .int .i64 cm, .string ce, .int .i64 cq, .string cg, .int .i64 co, .int .i64 ck, .int .i64 cu, .int .i64 ch, .int .i64 cG, .int .i64 ik, .int .i64 eH, .string cN, .string cr, .slice jU cz.length jV, .int .i64 cE, .string fh, .slice jd cA.length je] 25 (0, 0))) := ⟨hbS_⟩; have bH : Aside0 (Below w.heap.size w kY) := ⟨sS_.below Z22 jK.out⟩; clear hbS_ sS_; replace cw := aG; replace gR := aH; replace ab := aI; replace cM := aZ; replace HB := bH; clear aG aH aI aZ bH))
         (try simp only [Act.put, List.setIfInBounds_toArray, List.set_cons_zero, List.set_cons_succ])
         go_cut [59] (fun tn wc => ∃ (kq : Nat) (hB : Bool), tn = .bool hB ∧ Aside0 (roadbooklaw16_RerrBack.j2 kq a1 hB = some r) ∧ Aside0 (kq ≤ kj14) ∧ Aside0 (Kd.R k46 46 wc w.heap.size (fun _ => True) (.slice jU cz.length jV) cz) ∧ Aside0 (Kd.R k48 48 wc w.heap.size (fun _ => True) (.slice jd cA.length je) cA) ∧ Aside0 (wc.heap[aa]? = some (.cells #[.int .i64 av, .int .i64 au, .int .i64 aw, .string ay, .int .i64 aD, .int .i64 az, .string aA, .int .i64 ax, .int .i64 aE, .string aC, .int .i64 ap, .string an, .int .i64 aj, .int .i64 am, .int .i64 ak, .int .i64 ah, .int .i64 ai, .int .i64 al, .int .i64 ao, .string ac, .string af, (.slice aT ae.length aN), .int .i64 aq, .string ar, (.slice aJ ag.length aK)] 25 (0, 0))) ∧ Aside0 (wc.heap[de]? = some (.cells #[.int .i64 bp, .int .i64 aQ, .int .i64 aV, .string bi, .int .i64 cy, .int .i64 cF, .string cD, .int .i64 cj, .int .i64 cm, .string ce, .int .i64 cq, .string cg, .int .i64 co, .int .i64 ck, .int .i64 cu, .int .i64 ch, .int .i64 cG, .int .i64 ik, .int .i64 eH, .string cN, .string cr, (.slice jU cz.length jV), .int .i64 cE, .string fh, (.slice jd cA.length je)] 25 (0, 0))) ∧ Aside0 (Below w.heap.size w wc))
         case first =>
          have H := kN.out
          clear kN
          by_cases kO : eJ = 0
          ·rw [if_pos kO] at H
           have hT : (eJ == 0) = true := beq_iff_eq.mpr kO
           have mj : (eJ != 0) = false := bne_eq_false_iff_eq.mpr kO
           clear kO
           (first | rw [hT] | (simp only [i64_w, i32_w]; rw [hT]) | skip)
           by_cases jw : dE = 0
           ·rw [if_pos jw] at H
            have lj : (dE == 0) = true := beq_iff_eq.mpr jw
            have lk : (dE != 0) = false := bne_eq_false_iff_eq.mpr jw
            clear jw
            replace H := Option.bind_eq_some_iff.mp H
            obtain ⟨gC, ml, H⟩ := H
            replace H : (roadbooklaw16_RerrBack.j2 kj14 a1 (!gC)) = some r := H
            have tp := Aside0.mk ml
            clear ml
            have H' := Aside0.mk H
            clear H
            have qA := dW.out
            have qB := fH.out
            have oG := cells_25 ab.out
            have qC := cells_25 cM.out
            go_wp2_with (first | ((with_reducible refine Pre.gate_load 25 rfl ?_); (try (refine gate_guard Z13 ?_; dsimp only)); refine Pre.load_event rfl rfl rfl Z13 Z4 Try.underlying25 rfl Z6 ?_) | (go_at_call 24; (with_reducible refine (roadbookref07_Same.calls kj14 av au aw ay aD az aA ax aE aC ap an aj am ak ah ai al ao ac af _ _ ae aq ar _ _ ag bp aQ aV bi cy cF cD cj cm ce cq cg co ck cu ch cG ik eH cN cr _ _ cz cE fh _ _ cA gC _ ?side1 ?side2 ?side3 ?side4 ?side5 ?side6 ?side7 ?side8 tp.out).mono ?_); (case side1 => exact Z8); (case side2 => exact bl.out); (case side3 => exact Z7); (case side4 => exact bg.out); (case side5 => exact Z70); (case side6 => exact (Kd.R_reads' cw.out).2.1); (case side7 => exact Z109); (case side8 => exact (Kd.R_reads' gR.out).2.1); rintro e sf ⟨rfl, hb⟩; have aG := Aside0.mk (Kd.R_below Z25 hb); have aH := Aside0.mk (Kd.R_below Z50 hb); have aI := Aside0.mk (blk_below (g := aa) Z1 hb); have aZ := Aside0.mk (blk_below (g := de) Z35 hb); have bH := Aside0.mk (below_step Z22 hb); replace cw := aG; replace gR := aH; replace ab := aI; replace cM := aZ; replace HB := bH; clear aG aH aI aZ bH; (try clear hb); (try clear hb2); (try clear hk); (try clear hi)))
            go_meet
            case rel => exact ⟨_, (!gC), Z14, H', ⟨Z83⟩, ⟨Z25⟩, ⟨Z50⟩, ⟨Z1⟩, ⟨Z35⟩, ⟨Z22⟩⟩
           ·rw [if_neg jw] at H
            have lj : (dE == 0) = false := beq_eq_false_iff_ne.mpr jw
            have lk : (dE != 0) = true := bne_iff_ne.mpr jw
            have H' := Aside0.mk H
            clear H
            go_wp2_with (first | ((with_reducible refine Pre.gate_load 25 rfl ?_); (try (refine gate_guard Z13 ?_; dsimp only)); refine Pre.load_event rfl rfl rfl Z13 Z4 Try.underlying25 rfl Z6 ?_))
            go_meet
            case rel => exact ⟨_, (true), Z14, H', ⟨Z83⟩, ⟨Z25⟩, ⟨Z50⟩, ⟨Z1⟩, ⟨Z35⟩, ⟨Z22⟩⟩
          ·rw [if_neg kO] at H
           have hT : (eJ == 0) = false := beq_eq_false_iff_ne.mpr kO
           have mj : (eJ != 0) = true := bne_iff_ne.mpr kO
           (first | rw [hT] | (simp only [i64_w, i32_w]; rw [hT]) | skip)
           have H' := Aside0.mk H
           clear H
           go_wp2_with (first | ((with_reducible refine Pre.gate_load 25 rfl ?_); (try (refine gate_guard Z13 ?_; dsimp only)); refine Pre.load_event rfl rfl rfl Z13 Z4 Try.underlying25 rfl Z6 ?_))
           go_meet
           case rel => exact ⟨_, (true), Z14, H', ⟨Z83⟩, ⟨Z25⟩, ⟨Z50⟩, ⟨Z1⟩, ⟨Z35⟩, ⟨Z22⟩⟩
         case rest =>
          clear kN
          try clear c1
          try clear c2
          try clear p2
          try clear c3
          try clear c6
          try clear c8
          try clear cU
          try clear ej
          try clear fe
          try clear eV
          try clear ic
          try clear ja
          try clear iC
          try clear kf
          try clear jG
          try clear iD
          try clear nB
          try clear jr
          try clear la
          try clear jf
          try clear ir
          try clear iR
          try clear jO
          try clear iv
          try clear jj
          try clear jy
          try clear iV
          try clear p2
          obtain ⟨kq, hB, rfl, HA, rh, HO_139021, HO_139024, ab, cM, HB⟩ := hcut
          cases kq with
          | zero => exact absurd HA.out (by simp [roadbooklaw16_RerrBack.j2])
          | succ kj30 =>
           have H := HA.out
           clear HA
           simp only [roadbooklaw16_RerrBack.j2] at H
           by_cases kg : hB = true
           ·subst kg
            replace H := Sq.itT H
            exact absurd (Option.some.inj H) Z30
           ·replace kg := Bool.eq_false_iff.mpr kg
            subst kg
            replace H := Sq.itF H
            have H' := Aside0.mk H
            clear H
            go_wp2_with (first | ((with_reducible refine Pre.gate_load 25 rfl ?_); (try (refine gate_guard Z13 ?_; dsimp only)); refine Pre.load_event rfl rfl rfl Z13 Z4 Try.underlying25 rfl Z6 ?_))
            go_meet
            case rel => exact ⟨_, H', ⟨Z121⟩, ⟨Z1⟩, ⟨Z22⟩⟩
        ·replace jr := Bool.eq_false_iff.mpr jr
         subst jr
         replace H := Sq.itF H
         have H' := Aside0.mk H
         clear H
         go_wp2_with (first | ((with_reducible refine Pre.gate_load 25 rfl ?_); (try (refine gate_guard Z13 ?_; dsimp only)); refine Pre.load_event rfl rfl rfl Z13 Z4 Try.underlying25 rfl Z6 ?_))
         go_meet
         case rel => exact ⟨_, H', ⟨Z83⟩, ⟨Z1⟩, ⟨Z0⟩⟩
       case rest =>
        clear kM
        try clear c2
        try clear iD
        try clear iV
        obtain ⟨kq, HA, ri, ab, HB⟩ := hcut
        cases kq with
        | zero => exact absurd HA.out (by simp [roadbooklaw16_RerrBack.j3])
        | succ kj27 =>
         have H := HA.out
         clear HA
         simp only [roadbooklaw16_RerrBack.j3] at H
         have kP := Aside0.mk H
         clear H
         go_upto_region 10 with (first | ((with_reducible refine Pre.gate_load 25 rfl ?_); (try (refine gate_guard Z13 ?_; dsimp only)); refine Pre.load_event rfl rfl rfl Z13 Z4 Try.underlying25 rfl Z6 ?_))
         go_cut [68] (fun vA wc => ∃ (kq : Nat) (iW : Bool), vA = .bool iW ∧ Aside0 (roadbooklaw16_RerrBack.j4 kq a1 iW = some r) ∧ Aside0 (kq ≤ kj27) ∧ Aside0 (wc.heap[aa]? = some (.cells #[.int .i64 av, .int .i64 au, .int .i64 aw, .string ay, .int .i64 aD, .int .i64 az, .string aA, .int .i64 ax, .int .i64 aE, .string aC, .int .i64 ap, .string an, .int .i64 aj, .int .i64 am, .int .i64 ak, .int .i64 ah, .int .i64 ai, .int .i64 al, .int .i64 ao, .string ac, .string af, (.slice aT ae.length aN), .int .i64 aq, .string ar, (.slice aJ ag.length aK)] 25 (0, 0))) ∧ Aside0 (Below w.heap.size w wc))
         case first =>
          have H := kP.out
          clear kP
          by_cases jN : (a1.size : Int) = 0
          ·rw [if_pos jN] at H
           have hF : ((a1.size : Int) == 0) = true := beq_iff_eq.mpr jN
           have ll : ((a1.size : Int) != 0) = false := bne_eq_false_iff_eq.mpr jN
           clear jN
           (first | rw [hF] | (simp only [i64_w, i32_w]; rw [hF]) | skip)
           have H' := Aside0.mk H
           clear H
           go_wp2_with (first | ((with_reducible refine Pre.gate_load 25 rfl ?_); (try (refine gate_guard Z13 ?_; dsimp only)); refine Pre.load_event rfl rfl rfl Z13 Z4 Try.underlying25 rfl Z6 ?_))
           go_meet
           case rel => exact ⟨_, (true), Z14, H', ⟨Z97⟩, ⟨Z1⟩, ⟨Z0⟩⟩
          ·rw [if_neg jN] at H
           have hF : ((a1.size : Int) == 0) = false := beq_eq_false_iff_ne.mpr jN
           have ll : ((a1.size : Int) != 0) = true := bne_iff_ne.mpr jN
           (first | rw [hF] | (simp only [i64_w, i32_w]; rw [hF]) | skip)
           by_cases jo : 0 < (a1.size : Int)
           ·rw [if_pos jo] at H
            have lX : decide (0 < (a1.size : Int)) = true := decide_eq_true jo
            have lY : decide (0 < a1.size) = true := decide_eq_true Z55
            clear jo
            have H' := Aside0.mk H
            clear H
            have p50 : 0 ≤ (0 : Int) := Z55
            have q50 : 0 < a1.size := (by have : (0 : Int) < (a1.size : Int) := of_decide_eq_true Z10; omega)
            have hx50 : ∀ h : 0 < a1.size, ((a1[0]'h).toNat : Int) = bt a1 0 := bt_at a1 0
            clear p50
            have qi50 : (0 < (a1.size : Int)) = True := eq_true (of_decide_eq_true Z10)
            replace q50 := eq_true q50
            go_wp2_with (first | ((with_reducible refine Pre.gate_load 25 rfl ?_); (try (refine gate_guard Z13 ?_; dsimp only)); refine Pre.load_event rfl rfl rfl Z13 Z4 Try.underlying25 rfl Z6 ?_))
            go_meet
            case rel => exact ⟨_, (!((bt a1 0) == 3)), Z14, H', ⟨Z97⟩, ⟨Z1⟩, ⟨Z0⟩⟩
           ·rw [if_neg jo] at H
            exact absurd H Z73
         case rest =>
          clear kP
          try clear c2
          try clear p2
          try clear iD
          try clear jr
          try clear iV
          obtain ⟨kq, iW, rfl, HA, tq, ab, HB⟩ := hcut
          cases kq with
          | zero => exact absurd HA.out (by simp [roadbooklaw16_RerrBack.j4])
          | succ kj46 =>
           have H := HA.out
           clear HA
           simp only [roadbooklaw16_RerrBack.j4] at H
           by_cases kE : iW = true
           ·subst kE
            replace H := Sq.itT H
            replace H := Option.bind_eq_some_iff.mp H
            obtain ⟨gp, oH, H⟩ := H
            replace H : (some gp) = some r := H
            have vB := Aside0.mk oH
            clear oH
            obtain rfl := Option.some.inj H
            go_wp2_with (first | ((with_reducible refine Pre.gate_load 25 rfl ?_); (try (refine gate_guard Z13 ?_; dsimp only)); refine Pre.load_event rfl rfl rfl Z13 Z4 Try.underlying25 rfl Z6 ?_) | ((with_reducible refine gate_callee (f := 25) rfl ?_); refine goesL_ (some 69) rfl rfl Try.func25 Z6 rfl #[] rfl Z5 ?_; (with_reducible refine (roadbooklaw16_awake.calls kj46  gp _ (Aside0.mk Z89) vB.out).mono ?_); rintro e wz ⟨rfl, hb⟩; refine ⟨_, rfl, ?_⟩; have aG := Aside0.mk (blk_below (g := aa) Z1 hb); have aH := Aside0.mk (below_step Z0 hb); replace ab := aG; replace HB := aH; clear aG aH; (try clear hb); (try clear hb2); (try clear hk); (try clear hi)))
            go_ret
            exact ⟨Z9, Z0⟩
           ·replace kE := Bool.eq_false_iff.mpr kE
            subst kE
            replace H := Sq.itF H
            replace H := Option.bind_eq_some_iff.mp H
            obtain ⟨⟨dg, dh, dz, di, dj, dk, dl, dG, cQ, dm, dn, dp, dq, cZ, cR, eF, eG, dr, dd, cO, es, dA, fc, db, cB, dH, hU⟩, mm, H⟩ := H
            replace H : (if hU = 0 then ((rerr_Put.f kj46 dg dh dz di dj dk dl dG cQ dm dn dp dq cZ cR eF eG dr dd cO es dA fc db cB).bind fun hQ => ((roadbooklaw16_awake.f kj46).bind fun hR => (if hR = true then (if hQ.2 = true then (if hQ.1.toList = a1.toList then (if dH = 0 then ((rerr_Right.f kj46 dg dh dz di dj dk dl dG cQ dm dn dp dq cZ cR eF eG dr dd cO es dA fc db cB).bind fun he => (some he)) else (some false)) else (some false)) else (some false)) else (some false)))) else ((roadbooklaw16_awake.f kj46).bind fun iQ => (if iQ = true then (if dH ≥ 0 then (if dH ≤ (a1.size : Int) then ((roadbookref07_Same.f kj46 dg dh dz di dj dk dl dG cQ dm dn dp dq cZ cR eF eG dr dd cO es dA fc db cB 0 0 0 (⟨#[]⟩ : ByteArray) 0 0 (⟨#[]⟩ : ByteArray) 0 0 (⟨#[]⟩ : ByteArray) 0 (⟨#[]⟩ : ByteArray) 0 0 0 0 0 0 0 (⟨#[]⟩ : ByteArray) (⟨#[]⟩ : ByteArray) ([] : List (S46)) 0 (⟨#[]⟩ : ByteArray) ([] : List (S48))).bind fun hS => (some hS)) else (some false)) else (some false)) else (some false)))) = some r := H
            have rj := Aside0.mk mm
            clear mm
            by_cases mL : hU = 0
            ·rw [if_pos mL] at H
             have oI : (hU == 0) = true := beq_iff_eq.mpr mL
             have oJ : (hU != 0) = false := bne_eq_false_iff_eq.mpr mL
             clear mL
             replace H := Option.bind_eq_some_iff.mp H
             obtain ⟨⟨hV, kQ⟩, mn, H⟩ := H
             replace H : ((roadbooklaw16_awake.f kj46).bind fun hR => (if hR = true then (if kQ = true then (if hV.toList = a1.toList then (if dH = 0 then ((rerr_Right.f kj46 dg dh dz di dj dk dl dG cQ dm dn dp dq cZ cR eF eG dr dd cO es dA fc db cB).bind fun he => (some he)) else (some false)) else (some false)) else (some false)) else (some false))) = some r := H
             have sh := Aside0.mk mn
             clear mn
             replace H := Option.bind_eq_some_iff.mp H
             obtain ⟨hR, oK, H⟩ := H
             replace H : (if hR = true then (if kQ = true then (if hV.toList = a1.toList then (if dH = 0 then ((rerr_Right.f kj46 dg dh dz di dj dk dl dG cQ dm dn dp dq cZ cR eF eG dr dd cO es dA fc db cB).bind fun he => (some he)) else (some false)) else (some false)) else (some false)) else (some false)) = some r := H
             have vC := Aside0.mk oK
             clear oK
             by_cases pN : hR = true
             ·subst pN
              replace H := Sq.itT H
              by_cases pO : kQ = true
              ·subst pO
               replace H := Sq.itT H
               by_cases lA : hV.toList = a1.toList
               ·rw [if_pos lA] at H
                have oL : (hV.toList == a1.toList) = true := beq_iff_eq.mpr lA
                have oM : (hV.toList != a1.toList) = false := bne_eq_false_iff_eq.mpr lA
                clear lA
                by_cases lB : dH = 0
                ·rw [if_pos lB] at H
                 have oN : (dH == 0) = true := beq_iff_eq.mpr lB
                 have oO : (dH != 0) = false := bne_eq_false_iff_eq.mpr lB
                 clear lB
                 replace H := Option.bind_eq_some_iff.mp H
                 obtain ⟨he, oP, H⟩ := H
                 replace H : (some he) = some r := H
                 have vD := Aside0.mk oP
                 clear oP
                 obtain rfl := Option.some.inj H
                 go_wp2_with (first | ((with_reducible refine Pre.gate_load 25 rfl ?_); (try (refine gate_guard Z13 ?_; dsimp only)); refine Pre.load_event rfl rfl rfl Z13 Z4 Try.underlying25 rfl Z6 ?_) | ((with_reducible refine gate_callee (f := 30) rfl ?_); refine goesL_ (some 72) rfl rfl Try.func30 Z6 rfl #[.string a1] rfl Z5 ?_; (with_reducible refine (rerr_Get.calls kj46 a1 dg dh dz di dj dk dl dG cQ dm dn dp dq cZ cR eF eG dr dd cO es dA fc db cB dH hU _ rj.out).mono ?_); rintro e wZ ⟨oQ, oR, rfl, ho0, ho1, hb⟩; refine ⟨_, rfl, ?_⟩; have aG := Aside0.mk (Kd.R_lower ho0 (below_size Z0)); have aH := Aside0.mk (Kd.R_lower ho1 (below_size Z0)); have aI := Aside0.mk (blk_below (g := aa) Z1 hb); have aZ := Aside0.mk (below_step Z0 hb); have cK := aG; have cL := aH; replace ab := aI; replace HB := aZ; clear aG aH aI aZ; (try clear hb); (try clear hb2); (try clear hk); (try clear hi); (try clear ho0); (try clear ho1)) | ((with_reducible refine gate_dst (N := 10) rfl ?_); (try (refine gate_guard Z13 ?_; dsimp only)); refine box_event ?hg (N := 10) ?hd (cs := #[.int .i64 0, .int .i64 0, .int .i64 0, .string ⟨#[]⟩, .int .i64 0, .int .i64 0, .string ⟨#[]⟩, .int .i64 0, .int .i64 0, .string ⟨#[]⟩, .int .i64 0, .string ⟨#[]⟩, .int .i64 0, .int .i64 0, .int .i64 0, .int .i64 0, .int .i64 0, .int .i64 0, .int .i64 0, .string ⟨#[]⟩, .string ⟨#[]⟩, .slice none 0 0, .int .i64 0, .string ⟨#[]⟩, .slice none 0 0]) (t := 25) ?hr ?_; (case hd => rfl); (case hg => rfl); (case hr => first | (go_simp; done) | (go_simp; rfl)); intro cY hg si hbox hb; have aG := Aside0.mk (Kd.R_below Z40 hb); have aH := Aside0.mk (Kd.R_below Z39 hb); have aI := Aside0.mk (blk_below (g := aa) Z1 hb); have aZ := Aside0.mk (below_step Z0 hb); have bH := Aside0.mk (hbox); have cx := Aside0.mk ((by rw [hg]; exact (below_size Z0) : w.heap.size ≤ cY)); have du := Aside0.mk ((by rw [hg]; exact (below_size Z0) : w.heap.size ≤ cY)); have gE := Aside0.mk ((by rw [hg]; exact Nat.ne_of_lt (blk_lt (g := aa) Z1) : aa ≠ cY)); have hC := Aside0.mk ((by rw [hg]; exact Nat.ne_of_gt (blk_lt (g := aa) Z1) : cY ≠ aa)); replace cK := aG; replace cL := aH; replace ab := aI; replace HB := aZ; have cJ := bH; have mo := cx; have jb := du; have dI := gE; have fY := hC; clear aG aH aI aZ bH cx du gE hC; clear hb hbox hg; have tr := fY.out; have ts := dI.out; have qD := cells_25 cJ.out; obtain ⟨mM, mN, eo67⟩ := Kd.R_slice cK.out; subst eo67; obtain ⟨mO, mP, eo68⟩ := Kd.R_slice cL.out; subst eo68) | ((with_reducible refine Pre.gate_store 25 rfl ?_); refine Pre.store_abs (cur := #[.int .i64 0, .int .i64 0, .int .i64 0, .string ⟨#[]⟩, .int .i64 0, .int .i64 0, .string ⟨#[]⟩, .int .i64 0, .int .i64 0, .string ⟨#[]⟩, .int .i64 0, .string ⟨#[]⟩, .int .i64 0, .int .i64 0, .int .i64 0, .int .i64 0, .int .i64 0, .int .i64 0, .int .i64 0, .string ⟨#[]⟩, .string ⟨#[]⟩, .slice none 0 0, .int .i64 0, .string ⟨#[]⟩, .slice none 0 0]) (e := 25) rfl rfl rfl Z13 Z13 Z34 Z6 Z13 Z13 ?_; intro nS hbS_ sS_; have aG : Aside0 (Kd.R k46 46 nS w.heap.size (fun _ => True) (.slice mM dA.length mN) dA) := ⟨Kd.R_mono (Pre.R_sets sS_ (Kd.R_types cK.out cJ.out Z32) (fun _ hk => hk.2)) (fun _ hk => trivial)⟩; have aH : Aside0 (Kd.R k48 48 nS w.heap.size (fun _ => True) (.slice mO cB.length mP) cB) := ⟨Kd.R_mono (Pre.R_sets sS_ (Kd.R_types cL.out cJ.out Z32) (fun _ hk => hk.2)) (fun _ hk => trivial)⟩; have aI : Aside0 (nS.heap[aa]? = some (.cells #[.int .i64 av, .int .i64 au, .int .i64 aw, .string ay, .int .i64 aD, .int .i64 az, .string aA, .int .i64 ax, .int .i64 aE, .string aC, .int .i64 ap, .string an, .int .i64 aj, .int .i64 am, .int .i64 ak, .int .i64 ah, .int .i64 ai, .int .i64 al, .int .i64 ao, .string ac, .string af, .slice aT ae.length aN, .int .i64 aq, .string ar, .slice aJ ag.length aK] 25 (0, 0))) := ⟨sS_.blk Z1 dI.out⟩; have aZ : Aside0 (nS.heap[cY]? = some (.cells #[.int .i64 dg, .int .i64 dh, .int .i64 dz, .string di, .int .i64 dj, .int .i64 dk, .string dl, .int .i64 dG, .int .i64 cQ, .string dm, .int .i64 dn, .string dp, .int .i64 dq, .int .i64 cZ, .int .i64 cR, .int .i64 eF, .int .i64 eG, .int .i64 dr, .int .i64 dd, .string cO, .string es, .slice mM dA.length mN, .int .i64 fc, .string db, .slice mO cB.length mP] 25 (0, 0))) := ⟨hbS_⟩; have bH : Aside0 (Below w.heap.size w nS) := ⟨sS_.below Z21 jb.out⟩; clear hbS_ sS_; replace cK := aG; replace cL := aH; replace ab := aI; replace cJ := aZ; replace HB := bH; clear aG aH aI aZ bH; have qs := cells_25 cJ.out) | ((with_reducible refine gate_callee (f := 26) rfl ?_); refine goesL_ (some 96) rfl rfl Try.func26 Z6 rfl #[.agg #[.int .i64 dg, .int .i64 dh, .int .i64 dz, .string di, .int .i64 dj, .int .i64 dk, .string dl, .int .i64 dG, .int .i64 cQ, .string dm, .int .i64 dn, .string dp, .int .i64 dq, .int .i64 cZ, .int .i64 cR, .int .i64 eF, .int .i64 eG, .int .i64 dr, .int .i64 dd, .string cO, .string es, .slice mM dA.length mN, .int .i64 fc, .string db, .slice mO cB.length mP]] rfl Z5 ?_; (with_reducible refine (rerr_Put.calls kj46 dg dh dz di dj dk dl dG cQ dm dn dp dq cZ cR eF eG dr dd cO es _ _ dA fc db _ _ cB hV true _ ?side1 ?side2 ?side3 ?side4 sh.out).mono ?_); (case side1 => exact Z53); (case side2 => exact (Kd.R_reads' cK.out).2.1); (case side3 => exact Z52); (case side4 => exact (Kd.R_reads' cL.out).2.1); rintro e rk ⟨rfl, hb⟩; refine ⟨_, rfl, ?_⟩; have aG := Aside0.mk (Kd.R_below Z40 hb); have aH := Aside0.mk (Kd.R_below Z39 hb); have aI := Aside0.mk (blk_below (g := aa) Z1 hb); have aZ := Aside0.mk (blk_below (g := cY) Z34 hb); have bH := Aside0.mk (below_step Z21 hb); replace cK := aG; replace cL := aH; replace ab := aI; replace cJ := aZ; replace HB := bH; clear aG aH aI aZ bH; (try clear hb); (try clear hb2); (try clear hk); (try clear hi)) | ((with_reducible refine gate_callee (f := 25) rfl ?_); refine goesL_ (some 99) rfl rfl Try.func25 Z6 rfl #[] rfl Z5 ?_; (with_reducible refine (roadbooklaw16_awake.calls kj46  true _ (Aside0.mk Z89) vC.out).mono ?_); rintro e vq ⟨rfl, hb⟩; refine ⟨_, rfl, ?_⟩; have aG := Aside0.mk (Kd.R_below Z40 hb); have aH := Aside0.mk (Kd.R_below Z39 hb); have aI := Aside0.mk (blk_below (g := aa) Z1 hb); have aZ := Aside0.mk (blk_below (g := cY) Z34 hb); have bH := Aside0.mk (below_step Z21 hb); replace cK := aG; replace cL := aH; replace ab := aI; replace cJ := aZ; replace HB := bH; clear aG aH aI aZ bH; (try clear hb); (try clear hb2); (try clear hk); (try clear hi); have om := cells_25 cJ.out) | (go_at_call 28; (with_reducible refine (rerr_Right.calls kj46 dg dh dz di dj dk dl dG cQ dm dn dp dq cZ cR eF eG dr dd cO es _ _ dA fc db _ _ cB he _ ?side1 ?side2 ?side3 ?side4 vD.out).mono ?_); (case side1 => exact Z53); (case side2 => exact (Kd.R_reads' cK.out).2.1); (case side3 => exact Z52); (case side4 => exact (Kd.R_reads' cL.out).2.1); rintro e wA ⟨rfl, hb⟩; have aG := Aside0.mk (Kd.R_below Z40 hb); have aH := Aside0.mk (Kd.R_below Z39 hb); have aI := Aside0.mk (blk_below (g := aa) Z1 hb); have aZ := Aside0.mk (blk_below (g := cY) Z34 hb); have bH := Aside0.mk (below_step Z21 hb); replace cK := aG; replace cL := aH; replace ab := aI; replace cJ := aZ; replace HB := bH; clear aG aH aI aZ bH; (try clear hb); (try clear hb2); (try clear hk); (try clear hi)))
                 go_ret
                 exact ⟨Z9, Z21⟩
                ·rw [if_neg lB] at H
                 have oN : (dH == 0) = false := beq_eq_false_iff_ne.mpr lB
                 have oO : (dH != 0) = true := bne_iff_ne.mpr lB
                 exact absurd (Option.some.inj H) Z30
               ·rw [if_neg lA] at H
                have oL : (hV.toList == a1.toList) = false := beq_eq_false_iff_ne.mpr lA
                have oM : (hV.toList != a1.toList) = true := bne_iff_ne.mpr lA
                exact absurd (Option.some.inj H) Z30
              ·replace pO := Bool.eq_false_iff.mpr pO
               subst pO
               replace H := Sq.itF H
               exact absurd (Option.some.inj H) Z30
             ·replace pN := Bool.eq_false_iff.mpr pN
              subst pN
              replace H := Sq.itF H
              exact absurd (Option.some.inj H) Z30
            ·rw [if_neg mL] at H
             have oI : (hU == 0) = false := beq_eq_false_iff_ne.mpr mL
             have oJ : (hU != 0) = true := bne_iff_ne.mpr mL
             replace H := Option.bind_eq_some_iff.mp H
             obtain ⟨iQ, oS, H⟩ := H
             replace H : (if iQ = true then (if dH ≥ 0 then (if dH ≤ (a1.size : Int) then ((roadbookref07_Same.f kj46 dg dh dz di dj dk dl dG cQ dm dn dp dq cZ cR eF eG dr dd cO es dA fc db cB 0 0 0 (⟨#[]⟩ : ByteArray) 0 0 (⟨#[]⟩ : ByteArray) 0 0 (⟨#[]⟩ : ByteArray) 0 (⟨#[]⟩ : ByteArray) 0 0 0 0 0 0 0 (⟨#[]⟩ : ByteArray) (⟨#[]⟩ : ByteArray) ([] : List (S46)) 0 (⟨#[]⟩ : ByteArray) ([] : List (S48))).bind fun hS => (some hS)) else (some false)) else (some false)) else (some false)) = some r := H
             have vE := Aside0.mk oS
             clear oS
             by_cases pP : iQ = true
             ·subst pP
              replace H := Sq.itT H
              by_cases nE : dH ≥ 0
              ·rw [if_pos nE] at H
               have oT : decide (0 ≤ dH) = true := decide_eq_true nE
               clear nE
               by_cases lS : dH ≤ (a1.size : Int)
               ·rw [if_pos lS] at H
                have oU : decide (dH ≤ (a1.size : Int)) = true := decide_eq_true lS
                clear lS
                replace H := Option.bind_eq_some_iff.mp H
                obtain ⟨hS, oV, H⟩ := H
                replace H : (some hS) = some r := H
                have vF := Aside0.mk oV
                clear oV
                obtain rfl := Option.some.inj H
                go_wp2_with (first | ((with_reducible refine Pre.gate_load 25 rfl ?_); (try (refine gate_guard Z13 ?_; dsimp only)); refine Pre.load_event rfl rfl rfl Z13 Z4 Try.underlying25 rfl Z6 ?_) | ((with_reducible refine gate_callee (f := 30) rfl ?_); refine goesL_ (some 72) rfl rfl Try.func30 Z6 rfl #[.string a1] rfl Z5 ?_; (with_reducible refine (rerr_Get.calls kj46 a1 dg dh dz di dj dk dl dG cQ dm dn dp dq cZ cR eF eG dr dd cO es dA fc db cB dH hU _ rj.out).mono ?_); rintro e vh ⟨oQ, oR, rfl, ho0, ho1, hb⟩; refine ⟨_, rfl, ?_⟩; have aG := Aside0.mk (Kd.R_lower ho0 (below_size Z0)); have aH := Aside0.mk (Kd.R_lower ho1 (below_size Z0)); have aI := Aside0.mk (blk_below (g := aa) Z1 hb); have aZ := Aside0.mk (below_step Z0 hb); have cK := aG; have cL := aH; replace ab := aI; replace HB := aZ; clear aG aH aI aZ; (try clear hb); (try clear hb2); (try clear hk); (try clear hi); (try clear ho0); (try clear ho1)) | ((with_reducible refine gate_dst (N := 10) rfl ?_); (try (refine gate_guard Z13 ?_; dsimp only)); refine box_event ?hg (N := 10) ?hd (cs := #[.int .i64 0, .int .i64 0, .int .i64 0, .string ⟨#[]⟩, .int .i64 0, .int .i64 0, .string ⟨#[]⟩, .int .i64 0, .int .i64 0, .string ⟨#[]⟩, .int .i64 0, .string ⟨#[]⟩, .int .i64 0, .int .i64 0, .int .i64 0, .int .i64 0, .int .i64 0, .int .i64 0, .int .i64 0, .string ⟨#[]⟩, .string ⟨#[]⟩, .slice none 0 0, .int .i64 0, .string ⟨#[]⟩, .slice none 0 0]) (t := 25) ?hr ?_; (case hd => rfl); (case hg => rfl); (case hr => first | (go_simp; done) | (go_simp; rfl)); intro cY hg vi hbox hb; have aG := Aside0.mk (Kd.R_below Z40 hb); have aH := Aside0.mk (Kd.R_below Z39 hb); have aI := Aside0.mk (blk_below (g := aa) Z1 hb); have aZ := Aside0.mk (below_step Z0 hb); have bH := Aside0.mk (hbox); have cx := Aside0.mk ((by rw [hg]; exact (below_size Z0) : w.heap.size ≤ cY)); have du := Aside0.mk ((by rw [hg]; exact (below_size Z0) : w.heap.size ≤ cY)); have gE := Aside0.mk ((by rw [hg]; exact Nat.ne_of_lt (blk_lt (g := aa) Z1) : aa ≠ cY)); have hC := Aside0.mk ((by rw [hg]; exact Nat.ne_of_gt (blk_lt (g := aa) Z1) : cY ≠ aa)); replace cK := aG; replace cL := aH; replace ab := aI; replace HB := aZ; have cJ := bH; have mo := cx; have jb := du; have dI := gE; have fY := hC; clear aG aH aI aZ bH cx du gE hC; clear hb hbox hg; have tt := fY.out; have tu := dI.out; have qh := cells_25 cJ.out; obtain ⟨oW, oX, eo84⟩ := Kd.R_slice cK.out; subst eo84; obtain ⟨oY, oZ, eo85⟩ := Kd.R_slice cL.out; subst eo85) | ((with_reducible refine Pre.gate_store 25 rfl ?_); refine Pre.store_abs (cur := #[.int .i64 0, .int .i64 0, .int .i64 0, .string ⟨#[]⟩, .int .i64 0, .int .i64 0, .string ⟨#[]⟩, .int .i64 0, .int .i64 0, .string ⟨#[]⟩, .int .i64 0, .string ⟨#[]⟩, .int .i64 0, .int .i64 0, .int .i64 0, .int .i64 0, .int .i64 0, .int .i64 0, .int .i64 0, .string ⟨#[]⟩, .string ⟨#[]⟩, .slice none 0 0, .int .i64 0, .string ⟨#[]⟩, .slice none 0 0]) (e := 25) rfl rfl rfl Z13 Z13 Z34 Z6 Z13 Z13 ?_; intro nQ hbS_ sS_; have aG : Aside0 (Kd.R k46 46 nQ w.heap.size (fun _ => True) (.slice oW dA.length oX) dA) := ⟨Kd.R_mono (Pre.R_sets sS_ (Kd.R_types cK.out cJ.out Z32) (fun _ hk => hk.2)) (fun _ hk => trivial)⟩; have aH : Aside0 (Kd.R k48 48 nQ w.heap.size (fun _ => True) (.slice oY cB.length oZ) cB) := ⟨Kd.R_mono (Pre.R_sets sS_ (Kd.R_types cL.out cJ.out Z32) (fun _ hk => hk.2)) (fun _ hk => trivial)⟩; have aI : Aside0 (nQ.heap[aa]? = some (.cells #[.int .i64 av, .int .i64 au, .int .i64 aw, .string ay, .int .i64 aD, .int .i64 az, .string aA, .int .i64 ax, .int .i64 aE, .string aC, .int .i64 ap, .string an, .int .i64 aj, .int .i64 am, .int .i64 ak, .int .i64 ah, .int .i64 ai, .int .i64 al, .int .i64 ao, .string ac, .string af, .slice aT ae.length aN, .int .i64 aq, .string ar, .slice aJ ag.length aK] 25 (0, 0))) := ⟨sS_.blk Z1 dI.out⟩; have aZ : Aside0 (nQ.heap[cY]? = some (.cells #[.int .i64 dg, .int .i64 dh, .int .i64 dz, .string di, .int .i64 dj, .int .i64 dk, .string dl, .int .i64 dG, .int .i64 cQ, .string dm, .int .i64 dn, .string dp, .int .i64 dq, .int .i64 cZ, .int .i64 cR, .int .i64 eF, .int .i64 eG, .int .i64 dr, .int .i64 dd, .string cO, .string es, .slice oW dA.length oX, .int .i64 fc, .string db, .slice oY cB.length oZ] 25 (0, 0))) := ⟨hbS_⟩; have bH : Aside0 (Below w.heap.size w nQ) := ⟨sS_.below Z21 jb.out⟩; clear hbS_ sS_; replace cK := aG; replace cL := aH; replace ab := aI; replace cJ := aZ; replace HB := bH; clear aG aH aI aZ bH) | ((with_reducible refine gate_callee (f := 25) rfl ?_); refine goesL_ (some 78) rfl rfl Try.func25 Z6 rfl #[] rfl Z5 ?_; (with_reducible refine (roadbooklaw16_awake.calls kj46  true _ (Aside0.mk Z89) vE.out).mono ?_); rintro e pG ⟨rfl, hb⟩; refine ⟨_, rfl, ?_⟩; have aG := Aside0.mk (Kd.R_below Z40 hb); have aH := Aside0.mk (Kd.R_below Z39 hb); have aI := Aside0.mk (blk_below (g := aa) Z1 hb); have aZ := Aside0.mk (blk_below (g := cY) Z34 hb); have bH := Aside0.mk (below_step Z21 hb); replace cK := aG; replace cL := aH; replace ab := aI; replace cJ := aZ; replace HB := bH; clear aG aH aI aZ bH; (try clear hb); (try clear hb2); (try clear hk); (try clear hi); have qi := cells_25 cJ.out) | (go_at_call 24; (refine (roadbookref07_Same.calls kj46 dg dh dz di dj dk dl dG cQ dm dn dp dq cZ cR eF eG dr dd cO es _ _ dA fc db _ _ cB 0 0 0 (⟨#[]⟩ : ByteArray) 0 0 (⟨#[]⟩ : ByteArray) 0 0 (⟨#[]⟩ : ByteArray) 0 (⟨#[]⟩ : ByteArray) 0 0 0 0 0 0 0 (⟨#[]⟩ : ByteArray) (⟨#[]⟩ : ByteArray) _ _ ([] : List (S46)) 0 (⟨#[]⟩ : ByteArray) _ _ ([] : List (S48)) hS _ ?side1 ?side2 ?side3 ?side4 ?side5 ?side6 ?side7 ?side8 vF.out).mono ?_); (case side1 => exact Z53); (case side2 => exact (Kd.R_reads' cK.out).2.1); (case side3 => exact Z52); (case side4 => exact (Kd.R_reads' cL.out).2.1); (case side5 => exact Kd.C_nil _ _); (case side6 => exact Nat.le_refl _); (case side7 => exact Kd.C_nil _ _); (case side8 => exact Nat.le_refl _); rintro e rZ ⟨rfl, hb⟩; have aG := Aside0.mk (Kd.R_below Z40 hb); have aH := Aside0.mk (Kd.R_below Z39 hb); have aI := Aside0.mk (blk_below (g := aa) Z1 hb); have aZ := Aside0.mk (blk_below (g := cY) Z34 hb); have bH := Aside0.mk (below_step Z21 hb); replace cK := aG; replace cL := aH; replace ab := aI; replace cJ := aZ; replace HB := bH; clear aG aH aI aZ bH; (try clear hb); (try clear hb2); (try clear hk); (try clear hi)))
                go_ret
                exact ⟨Z9, Z21⟩
               ·rw [if_neg lS] at H
                have oU : decide (dH ≤ (a1.size : Int)) = false := decide_eq_false lS
                clear lS
                exact absurd (Option.some.inj H) Z30
              ·rw [if_neg nE] at H
               have oT : decide (0 ≤ dH) = false := decide_eq_false nE
               clear nE
               exact absurd (Option.some.inj H) Z30
             ·replace pP := Bool.eq_false_iff.mpr pP
              subst pP
              replace H := Sq.itF H
              exact absurd (Option.some.inj H) Z30

end Go.Proofs.Ytccjakjjaemmkaa.PR
