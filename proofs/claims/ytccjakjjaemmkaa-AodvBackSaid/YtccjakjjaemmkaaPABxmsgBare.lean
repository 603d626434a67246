-- Written by mp.py, a program of this work (wip/tools), out of the translation; Lean checks it.
import Derived.Test.YtccjakjjaemmkaaPABxZ
import Derived.Test.YtccjakjjaemmkaaPABxoctet
import Derived.Test.YtccjakjjaemmkaaBuild
import Derived.Test.YtccjakjjaemmkaaStore
namespace Go.Proofs.Ytccjakjjaemmkaa.PAB
open Go.RowKit Go.Proofs.YtccjakjjaemmkaaW.PrintWords Go.Proofs.YtccjakjjaemmkaaW.PrintLast Go.Proofs.YtccjakjjaemmkaaW.PrintMore
attribute [local go_sem] max2_int min2_int max_two min_two max_three min_three max_four min_four   -- for this text's walks alone
set_option linter.unusedVariables false
set_option linter.unusedSimpArgs false

/-! ### msg_Bare: function 53 -/
def msg_Bare.z (k : Int) (p0 : Int) (p1 : Int) (p2 : Int) (p3 : Int) (p4 : Int) (p5 : Int) (p6 : Int) (p7 : Int) (p8 : Int) (p9 : Int) (p10 : Int) (p11 : Int) (p12 : Int) (p13 : Int) (p14 : Int) (p15 : Int) (p16 : ByteArray) (p17 : ByteArray) (p18 : ByteArray) (p19 : ByteArray) (p20 : ByteArray) (p21 : ByteArray) (p22 : ByteArray) : Bool := (p0 == k && (p1 == 0 && (p2 == 0 && (p3 == 0 && (p4 == 0 && (p5 == 0 && (p6 == 0 && (p7 == 0 && (p8 == 0 && (p9 == 0 && (p10 == 0 && (p11 == 0 && (p12 == 0 && (p13 == 0 && (p14 == 0 && (p15 == 0 && (p16.toList == (⟨#[]⟩ : ByteArray).toList && (p17.toList == (⟨#[]⟩ : ByteArray).toList && (p18.toList == (⟨#[]⟩ : ByteArray).toList && (p19.toList == (⟨#[]⟩ : ByteArray).toList && (p20.toList == (⟨#[]⟩ : ByteArray).toList && (p21.toList == (⟨#[]⟩ : ByteArray).toList && (p22.toList == (⟨#[]⟩ : ByteArray).toList)))))))))))))))))))))))
def msg_Bare.b (ax : Int) (av : Int) (aw : Int) (ay : ByteArray) (az : Int) (aH : Int) (aE : ByteArray) (aA : Int) (aD : Int) (aC : ByteArray) (au : Int) (an : ByteArray) (al : Int) (ak : Int) (ar : Int) (af : Int) (ai : Int) (am : Int) (ao : Int) (aa : ByteArray) (ac : ByteArray) (ab : List S46) (ap : Int) (aq : ByteArray) (ah : List S48) : Bool := if ax = 1 then (msg_Bare.z 1 1 0 0 0 aH 0 0 0 al ak ar af ai am ao ap (⟨#[]⟩ : ByteArray) (⟨#[]⟩ : ByteArray) (⟨#[]⟩ : ByteArray) an aa ac aq && ((ab.length : Int) == 0)) && ((ah.length : Int) == 0) else if ax = 2 then (msg_Bare.z 2 2 0 aw az aH 0 0 0 al ak ar af ai am ao ap ay (⟨#[]⟩ : ByteArray) (⟨#[]⟩ : ByteArray) an aa ac aq && ((ab.length : Int) == 0)) && ((ah.length : Int) == 0) else if ax = 3 then (msg_Bare.z 3 3 av aw az aH aA aD au 0 0 ar 0 0 0 ao ap ay aE aC an (⟨#[]⟩ : ByteArray) (⟨#[]⟩ : ByteArray) aq && ((ab.length : Int) == 0)) && true else if ax = 4 then (msg_Bare.z 4 4 av aw az aH 0 aD au 0 ak 0 0 0 am ao ap ay aE aC an (⟨#[]⟩ : ByteArray) (⟨#[]⟩ : ByteArray) aq && ((ab.length : Int) == 0)) && true else if ax = 5 then (msg_Bare.z 5 5 av aw az aH aA aD au al ak ar 0 ai am ao ap ay aE aC an aa ac aq && true) && true else if ax = 6 then (msg_Bare.z 6 6 av aw az aH aA aD au al ak ar af ai am ao ap ay aE aC an aa ac aq && ((ab.length : Int) == 0)) && true else if ax = 7 then (msg_Bare.z 7 7 av aw az aH aA aD au al ak 0 af ai 0 ao ap ay aE aC an aa ac aq && ((ab.length : Int) == 0)) && true else if ax = 8 then (msg_Bare.z 8 8 av aw az aH aA aD au al ak ar af ai 0 ao ap ay aE aC an aa ac aq && ((ab.length : Int) == 0)) && true else if ax = 9 then (msg_Bare.z 9 9 av aw az aH aA aD au 0 ak 0 0 ai am ao ap ay aE aC an aa ac aq && ((ab.length : Int) == 0)) && true else if ax = 10 then (msg_Bare.z 10 10 av aw az 0 aA aD au al ak 0 af ai am 0 ap ay aE aC an (⟨#[]⟩ : ByteArray) ac aq && ((ab.length : Int) == 0)) && true else if ax = 11 then (msg_Bare.z 11 11 av aw az 0 0 aD 0 0 ak 0 af ai am ao ap ay (⟨#[]⟩ : ByteArray) (⟨#[]⟩ : ByteArray) (⟨#[]⟩ : ByteArray) aa ac aq && ((ab.length : Int) == 0)) && true else if ax = 12 then (msg_Bare.z 12 12 av aw az 0 0 aD au al ak ar af ai am ao ap ay (⟨#[]⟩ : ByteArray) aC an aa ac aq && ((ab.length : Int) == 0)) && true else if ax = 13 then (msg_Bare.z 13 13 av aw az 0 0 aD au 0 ak ar af 0 am ao ap ay (⟨#[]⟩ : ByteArray) aC (⟨#[]⟩ : ByteArray) aa ac aq && ((ab.length : Int) == 0)) && true else if ax = 14 then (msg_Bare.z 14 14 av aw az aH aA aD au al ak ar af ai am ao 0 ay aE aC an aa ac (⟨#[]⟩ : ByteArray) && ((ab.length : Int) == 0)) && ((ah.length : Int) == 0) else false
def msg_Bare.f (ax : Int) (av : Int) (aw : Int) (ay : ByteArray) (az : Int) (aH : Int) (aE : ByteArray) (aA : Int) (aD : Int) (aC : ByteArray) (au : Int) (an : ByteArray) (al : Int) (ak : Int) (ar : Int) (af : Int) (ai : Int) (am : Int) (ao : Int) (aa : ByteArray) (ac : ByteArray) (ab : List S46) (ap : Int) (aq : ByteArray) (ah : List S48) : Option Bool := some (msg_Bare.b ax av aw ay az aH aE aA aD aC au an al ak ar af ai am ao aa ac ab ap aq ah)
theorem msg_Bare.b1 (av : Int) (aw : Int) (ay : ByteArray) (az : Int) (aH : Int) (aE : ByteArray) (aA : Int) (aD : Int) (aC : ByteArray) (au : Int) (an : ByteArray) (al : Int) (ak : Int) (ar : Int) (af : Int) (ai : Int) (am : Int) (ao : Int) (aa : ByteArray) (ac : ByteArray) (ab : List S46) (ap : Int) (aq : ByteArray) (ah : List S48) : msg_Bare.b 1 av aw ay az aH aE aA aD aC au an al ak ar af ai am ao aa ac ab ap aq ah = ((msg_Bare.z 1 1 0 0 0 aH 0 0 0 al ak ar af ai am ao ap (⟨#[]⟩ : ByteArray) (⟨#[]⟩ : ByteArray) (⟨#[]⟩ : ByteArray) an aa ac aq && ((ab.length : Int) == 0)) && ((ah.length : Int) == 0)) := by
 unfold msg_Bare.b
 simp (config := {decide := true}) only [if_true, if_false]
theorem msg_Bare.b2 (av : Int) (aw : Int) (ay : ByteArray) (az : Int) (aH : Int) (aE : ByteArray) (aA : Int) (aD : Int) (aC : ByteArray) (au : Int) (an : ByteArray) (al : Int) (ak : Int) (ar : Int) (af : Int) (ai : Int) (am : Int) (ao : Int) (aa : ByteArray) (ac : ByteArray) (ab : List S46) (ap : Int) (aq : ByteArray) (ah : List S48) : msg_Bare.b 2 av aw ay az aH aE aA aD aC au an al ak ar af ai am ao aa ac ab ap aq ah = ((msg_Bare.z 2 2 0 aw az aH 0 0 0 al ak ar af ai am ao ap ay (⟨#[]⟩ : ByteArray) (⟨#[]⟩ : ByteArray) an aa ac aq && ((ab.length : Int) == 0)) && ((ah.length : Int) == 0)) := by
 unfold msg_Bare.b
 simp (config := {decide := true}) only [if_true, if_false]
theorem msg_Bare.b3 (av : Int) (aw : Int) (ay : ByteArray) (az : Int) (aH : Int) (aE : ByteArray) (aA : Int) (aD : Int) (aC : ByteArray) (au : Int) (an : ByteArray) (al : Int) (ak : Int) (ar : Int) (af : Int) (ai : Int) (am : Int) (ao : Int) (aa : ByteArray) (ac : ByteArray) (ab : List S46) (ap : Int) (aq : ByteArray) (ah : List S48) : msg_Bare.b 3 av aw ay az aH aE aA aD aC au an al ak ar af ai am ao aa ac ab ap aq ah = ((msg_Bare.z 3 3 av aw az aH aA aD au 0 0 ar 0 0 0 ao ap ay aE aC an (⟨#[]⟩ : ByteArray) (⟨#[]⟩ : ByteArray) aq && ((ab.length : Int) == 0)) && true) := by
 unfold msg_Bare.b
 simp (config := {decide := true}) only [if_true, if_false]
theorem msg_Bare.b4 (av : Int) (aw : Int) (ay : ByteArray) (az : Int) (aH : Int) (aE : ByteArray) (aA : Int) (aD : Int) (aC : ByteArray) (au : Int) (an : ByteArray) (al : Int) (ak : Int) (ar : Int) (af : Int) (ai : Int) (am : Int) (ao : Int) (aa : ByteArray) (ac : ByteArray) (ab : List S46) (ap : Int) (aq : ByteArray) (ah : List S48) : msg_Bare.b 4 av aw ay az aH aE aA aD aC au an al ak ar af ai am ao aa ac ab ap aq ah = ((msg_Bare.z 4 4 av aw az aH 0 aD au 0 ak 0 0 0 am ao ap ay aE aC an (⟨#[]⟩ : ByteArray) (⟨#[]⟩ : ByteArray) aq && ((ab.length : Int) == 0)) && true) := by
 unfold msg_Bare.b
 simp (config := {decide := true}) only [if_true, if_false]
theorem msg_Bare.b5 (av : Int) (aw : Int) (ay : ByteArray) (az : Int) (aH : Int) (aE : ByteArray) (aA : Int) (aD : Int) (aC : ByteArray) (au : Int) (an : ByteArray) (al : Int) (ak : Int) (ar : Int) (af : Int) (ai : Int) (am : Int) (ao : Int) (aa : ByteArray) (ac : ByteArray) (ab : List S46) (ap : Int) (aq : ByteArray) (ah : List S48) : msg_Bare.b 5 av aw ay az aH aE aA aD aC au an al ak ar af ai am ao aa ac ab ap aq ah = ((msg_Bare.z 5 5 av aw az aH aA aD au al ak ar 0 ai am ao ap ay aE aC an aa ac aq && true) && true) := by
 unfold msg_Bare.b
 simp (config := {decide := true}) only [if_true, if_false]
theorem msg_Bare.b6 (av : Int) (aw : Int) (ay : ByteArray) (az : Int) (aH : Int) (aE : ByteArray) (aA : Int) (aD : Int) (aC : ByteArray) (au : Int) (an : ByteArray) (al : Int) (ak : Int) (ar : Int) (af : Int) (ai : Int) (am : Int) (ao : Int) (aa : ByteArray) (ac : ByteArray) (ab : List S46) (ap : Int) (aq : ByteArray) (ah : List S48) : msg_Bare.b 6 av aw ay az aH aE aA aD aC au an al ak ar af ai am ao aa ac ab ap aq ah = ((msg_Bare.z 6 6 av aw az aH aA aD au al ak ar af ai am ao ap ay aE aC an aa ac aq && ((ab.length : Int) == 0)) && true) := by
 unfold msg_Bare.b
 simp (config := {decide := true}) only [if_true, if_false]
theorem msg_Bare.b7 (av : Int) (aw : Int) (ay : ByteArray) (az : Int) (aH : Int) (aE : ByteArray) (aA : Int) (aD : Int) (aC : ByteArray) (au : Int) (an : ByteArray) (al : Int) (ak : Int) (ar : Int) (af : Int) (ai : Int) (am : Int) (ao : Int) (aa : ByteArray) (ac : ByteArray) (ab : List S46) (ap : Int) (aq : ByteArray) (ah : List S48) : msg_Bare.b 7 av aw ay az aH aE aA aD aC au an al ak ar af ai am ao aa ac ab ap aq ah = ((msg_Bare.z 7 7 av aw az aH aA aD au al ak 0 af ai 0 ao ap ay aE aC an aa ac aq && ((ab.length : Int) == 0)) && true) := by
 unfold msg_Bare.b
 simp (config := {decide := true}) only [if_true, if_false]
theorem msg_Bare.b8 (av : Int) (aw : Int) (ay : ByteArray) (az : Int) (aH : Int) (aE : ByteArray) (aA : Int) (aD : Int) (aC : ByteArray) (au : Int) (an : ByteArray) (al : Int) (ak : Int) (ar : Int) (af : Int) (ai : Int) (am : Int) (ao : Int) (aa : ByteArray) (ac : ByteArray) (ab : List S46) (ap : Int) (aq : ByteArray) (ah : List S48) : msg_Bare.b 8 av aw ay az aH aE aA aD aC au an al ak ar af ai am ao aa ac ab ap aq ah = ((msg_Bare.z 8 8 av aw az aH aA aD au al ak ar af ai 0 ao ap ay aE aC an aa ac aq && ((ab.length : Int) == 0)) && true) := by
 unfold msg_Bare.b
 simp (config := {decide := true}) only [if_true, if_false]
theorem msg_Bare.b9 (av : Int) (aw : Int) (ay : ByteArray) (az : Int) (aH : Int) (aE : ByteArray) (aA : Int) (aD : Int) (aC : ByteArray) (au : Int) (an : ByteArray) (al : Int) (ak : Int) (ar : Int) (af : Int) (ai : Int) (am : Int) (ao : Int) (aa : ByteArray) (ac : ByteArray) (ab : List S46) (ap : Int) (aq : ByteArray) (ah : List S48) : msg_Bare.b 9 av aw ay az aH aE aA aD aC au an al ak ar af ai am ao aa ac ab ap aq ah = ((msg_Bare.z 9 9 av aw az aH aA aD au 0 ak 0 0 ai am ao ap ay aE aC an aa ac aq && ((ab.length : Int) == 0)) && true) := by
 unfold msg_Bare.b
 simp (config := {decide := true}) only [if_true, if_false]
theorem msg_Bare.b10 (av : Int) (aw : Int) (ay : ByteArray) (az : Int) (aH : Int) (aE : ByteArray) (aA : Int) (aD : Int) (aC : ByteArray) (au : Int) (an : ByteArray) (al : Int) (ak : Int) (ar : Int) (af : Int) (ai : Int) (am : Int) (ao : Int) (aa : ByteArray) (ac : ByteArray) (ab : List S46) (ap : Int) (aq : ByteArray) (ah : List S48) : msg_Bare.b 10 av aw ay az aH aE aA aD aC au an al ak ar af ai am ao aa ac ab ap aq ah = ((msg_Bare.z 10 10 av aw az 0 aA aD au al ak 0 af ai am 0 ap ay aE aC an (⟨#[]⟩ : ByteArray) ac aq && ((ab.length : Int) == 0)) && true) := by
 unfold msg_Bare.b
 simp (config := {decide := true}) only [if_true, if_false]
theorem msg_Bare.b11 (av : Int) (aw : Int) (ay : ByteArray) (az : Int) (aH : Int) (aE : ByteArray) (aA : Int) (aD : Int) (aC : ByteArray) (au : Int) (an : ByteArray) (al : Int) (ak : Int) (ar : Int) (af : Int) (ai : Int) (am : Int) (ao : Int) (aa : ByteArray) (ac : ByteArray) (ab : List S46) (ap : Int) (aq : ByteArray) (ah : List S48) : msg_Bare.b 11 av aw ay az aH aE aA aD aC au an al ak ar af ai am ao aa ac ab ap aq ah = ((msg_Bare.z 11 11 av aw az 0 0 aD 0 0 ak 0 af ai am ao ap ay (⟨#[]⟩ : ByteArray) (⟨#[]⟩ : ByteArray) (⟨#[]⟩ : ByteArray) aa ac aq && ((ab.length : Int) == 0)) && true) := by
 unfold msg_Bare.b
 simp (config := {decide := true}) only [if_true, if_false]
theorem msg_Bare.b12 (av : Int) (aw : Int) (ay : ByteArray) (az : Int) (aH : Int) (aE : ByteArray) (aA : Int) (aD : Int) (aC : ByteArray) (au : Int) (an : ByteArray) (al : Int) (ak : Int) (ar : Int) (af : Int) (ai : Int) (am : Int) (ao : Int) (aa : ByteArray) (ac : ByteArray) (ab : List S46) (ap : Int) (aq : ByteArray) (ah : List S48) : msg_Bare.b 12 av aw ay az aH aE aA aD aC au an al ak ar af ai am ao aa ac ab ap aq ah = ((msg_Bare.z 12 12 av aw az 0 0 aD au al ak ar af ai am ao ap ay (⟨#[]⟩ : ByteArray) aC an aa ac aq && ((ab.length : Int) == 0)) && true) := by
 unfold msg_Bare.b
 simp (config := {decide := true}) only [if_true, if_false]
theorem msg_Bare.b13 (av : Int) (aw : Int) (ay : ByteArray) (az : Int) (aH : Int) (aE : ByteArray) (aA : Int) (aD : Int) (aC : ByteArray) (au : Int) (an : ByteArray) (al : Int) (ak : Int) (ar : Int) (af : Int) (ai : Int) (am : Int) (ao : Int) (aa : ByteArray) (ac : ByteArray) (ab : List S46) (ap : Int) (aq : ByteArray) (ah : List S48) : msg_Bare.b 13 av aw ay az aH aE aA aD aC au an al ak ar af ai am ao aa ac ab ap aq ah = ((msg_Bare.z 13 13 av aw az 0 0 aD au 0 ak ar af 0 am ao ap ay (⟨#[]⟩ : ByteArray) aC (⟨#[]⟩ : ByteArray) aa ac aq && ((ab.length : Int) == 0)) && true) := by
 unfold msg_Bare.b
 simp (config := {decide := true}) only [if_true, if_false]
theorem msg_Bare.b14 (av : Int) (aw : Int) (ay : ByteArray) (az : Int) (aH : Int) (aE : ByteArray) (aA : Int) (aD : Int) (aC : ByteArray) (au : Int) (an : ByteArray) (al : Int) (ak : Int) (ar : Int) (af : Int) (ai : Int) (am : Int) (ao : Int) (aa : ByteArray) (ac : ByteArray) (ab : List S46) (ap : Int) (aq : ByteArray) (ah : List S48) : msg_Bare.b 14 av aw ay az aH aE aA aD aC au an al ak ar af ai am ao aa ac ab ap aq ah = ((msg_Bare.z 14 14 av aw az aH aA aD au al ak ar af ai am ao 0 ay aE aC an aa ac (⟨#[]⟩ : ByteArray) && ((ab.length : Int) == 0)) && ((ah.length : Int) == 0)) := by
 unfold msg_Bare.b
 simp (config := {decide := true}) only [if_true, if_false]
theorem msg_Bare.bno (ax : Int) (av : Int) (aw : Int) (ay : ByteArray) (az : Int) (aH : Int) (aE : ByteArray) (aA : Int) (aD : Int) (aC : ByteArray) (au : Int) (an : ByteArray) (al : Int) (ak : Int) (ar : Int) (af : Int) (ai : Int) (am : Int) (ao : Int) (aa : ByteArray) (ac : ByteArray) (ab : List S46) (ap : Int) (aq : ByteArray) (ah : List S48) (h : ¬ (1 ≤ ax ∧ ax ≤ 14)) : msg_Bare.b ax av aw ay az aH aE aA aD aC au an al ak ar af ai am ao aa ac ab ap aq ah = false := by
 unfold msg_Bare.b
 rw [if_neg Z40]
 rw [if_neg Z40]
 rw [if_neg Z40]
 rw [if_neg Z40]
 rw [if_neg Z40]
 rw [if_neg Z40]
 rw [if_neg Z40]
 rw [if_neg Z40]
 rw [if_neg Z40]
 rw [if_neg Z40]
 rw [if_neg Z40]
 rw [if_neg Z40]
 rw [if_neg Z40]
 rw [if_neg Z40]
theorem msg_Bare.eqz (d : Nat) (w : World) (k : Int) (p0 : Int) (p1 : Int) (p2 : Int) (p3 : Int) (p4 : Int) (p5 : Int) (p6 : Int) (p7 : Int) (p8 : Int) (p9 : Int) (p10 : Int) (p11 : Int) (p12 : Int) (p13 : Int) (p14 : Int) (p15 : Int) (p16 : ByteArray) (p17 : ByteArray) (p18 : ByteArray) (p19 : ByteArray) (p20 : ByteArray) (p21 : ByteArray) (p22 : ByteArray) :
  (Op.equalIn (d + 2) 71 (.agg #[.int .i64 p0, .int .i64 p1, .int .i64 p2, .int .i64 p3, .int .i64 p4, .int .i64 p5, .int .i64 p6, .int .i64 p7, .int .i64 p8, .int .i64 p9, .int .i64 p10, .int .i64 p11, .int .i64 p12, .int .i64 p13, .int .i64 p14, .int .i64 p15, .string p16, .string p17, .string p18, .string p19, .string p20, .string p21, .string p22]) (.agg #[.int .i64 k, .int .i64 0, .int .i64 0, .int .i64 0, .int .i64 0, .int .i64 0, .int .i64 0, .int .i64 0, .int .i64 0, .int .i64 0, .int .i64 0, .int .i64 0, .int .i64 0, .int .i64 0, .int .i64 0, .int .i64 0, .string ⟨#[]⟩, .string ⟨#[]⟩, .string ⟨#[]⟩, .string ⟨#[]⟩, .string ⟨#[]⟩, .string ⟨#[]⟩, .string ⟨#[]⟩])).run Try.prog w = .ok (msg_Bare.z k p0 p1 p2 p3 p4 p5 p6 p7 p8 p9 p10 p11 p12 p13 p14 p15 p16 p17 p18 p19 p20 p21 p22) w := by
 unfold msg_Bare.z
 refine eqA_of Try.underlying71 Z14 ?_
 refine eqf_cons Z23 Z51 Z51 Z91 ?_
 refine eqf_cons Z23 Z51 Z51 Z91 ?_
 refine eqf_cons Z23 Z51 Z51 Z91 ?_
 refine eqf_cons Z23 Z51 Z51 Z91 ?_
 refine eqf_cons Z23 Z51 Z51 Z91 ?_
 refine eqf_cons Z23 Z51 Z51 Z91 ?_
 refine eqf_cons Z23 Z51 Z51 Z91 ?_
 refine eqf_cons Z23 Z51 Z51 Z91 ?_
 refine eqf_cons Z23 Z51 Z51 Z91 ?_
 refine eqf_cons Z23 Z51 Z51 Z91 ?_
 refine eqf_cons Z23 Z51 Z51 Z91 ?_
 refine eqf_cons Z23 Z51 Z51 Z91 ?_
 refine eqf_cons Z23 Z51 Z51 Z91 ?_
 refine eqf_cons Z23 Z51 Z51 Z91 ?_
 refine eqf_cons Z23 Z51 Z51 Z91 ?_
 refine eqf_cons Z23 Z51 Z51 Z91 ?_
 refine eqf_cons Z23 Z51 Z51 Z91 ?_
 refine eqf_cons Z23 Z51 Z51 Z91 ?_
 refine eqf_cons Z23 Z51 Z51 Z91 ?_
 refine eqf_cons Z23 Z51 Z51 Z91 ?_
 refine eqf_cons Z23 Z51 Z51 Z91 ?_
 refine eqf_cons Z23 Z51 Z51 Z91 ?_
 exact eqf_last Z23 Z51 Z51 Z91
set_option maxRecDepth 100000 in
theorem msg_Bare.bd (v : Int) : Try.prog.built 71 [(0, .int .i64 v)] = some #[.int .i64 v, .int .i64 0, .int .i64 0, .int .i64 0, .int .i64 0, .int .i64 0, .int .i64 0, .int .i64 0, .int .i64 0, .int .i64 0, .int .i64 0, .int .i64 0, .int .i64 0, .int .i64 0, .int .i64 0, .int .i64 0, .string ⟨#[]⟩, .string ⟨#[]⟩, .string ⟨#[]⟩, .string ⟨#[]⟩, .string ⟨#[]⟩, .string ⟨#[]⟩, .string ⟨#[]⟩] := by kernel_rfl
set_option maxHeartbeats 8000000 in
set_option maxRecDepth 100000 in
theorem msg_Bare.calls (ax : Int) (av : Int) (aw : Int) (ay : ByteArray) (az : Int) (aH : Int) (aE : ByteArray) (aA : Int) (aD : Int) (aC : ByteArray) (au : Int) (an : ByteArray) (al : Int) (ak : Int) (ar : Int) (af : Int) (ai : Int) (am : Int) (ao : Int) (aa : ByteArray) (ac : ByteArray) (bg : Option Addr) (bb : Nat) (ab : List S46) (ap : Int) (aq : ByteArray) (aZ : Option Addr) (ba : Nat) (ah : List S48) (r : Bool) (w : World) (cf : Kd.C k46 w bg ab.length ab) (cg : ab.length ≤ bb) (ch : Kd.C k48 w aZ ah.length ah) (ci : ah.length ≤ ba) (h : msg_Bare.f ax av aw ay az aH aE aA aD aC au an al ak ar af ai am ao aa ac ab ap aq ah = some r) :
  Calls Try.prog 53 #[.agg #[.int .i64 ax, .int .i64 av, .int .i64 aw, .string ay, .int .i64 az, .int .i64 aH, .string aE, .int .i64 aA, .int .i64 aD, .string aC, .int .i64 au, .string an, .int .i64 al, .int .i64 ak, .int .i64 ar, .int .i64 af, .int .i64 ai, .int .i64 am, .int .i64 ao, .string aa, .string ac, .slice bg ab.length bb, .int .i64 ap, .string aq, .slice aZ ah.length ba]] w fun e w' => e = .returned (.bool r) ∧ Below w.heap.size w w' := by
 have fi := Try.underlying25
 have sk := Try.underlying71
 have ed := Aside0.mk cf
 have bM := Aside0.mk cg
 clear cf cg
 have er := Aside0.mk ch
 have br := Aside0.mk ci
 clear ch ci
 have HB := Aside0.mk (Below.refl w.heap.size w)
 have fH := Aside0.mk (Option.some.inj h)
 clear h
 have A2 : Aside0 (msg_strip.f ax av aw ay az aH aE aA aD aC au an al ak ar af ai am ao aa ac ab ap aq ah = some (ax, av, aw, az, aH, aA, aD, au, al, ak, ar, af, ai, am, ao, ap, ay, aE, aC, an, aa, ac, aq)) := ⟨rfl⟩
 go_enter Try.func53, Try.ntmps53
 go_upto_block 0 with (first | ((with_reducible refine Pre.gate_store 71 rfl ?_); refine Pre.store_abs rfl rfl rfl Z23 Z23 (by (with_reducible repeat (first | refine blk_drewN ?_ _ | refine blk_drew ?_ | refine blk_alloc ?_ _)); exact BKx.out) Z14 Z23 Z23 ?_; intro wS hbS sS; have bY := Aside0.mk (sS.blk Z76 NBmx.out); have ca := Aside0.mk (sS.below Z64 GEx.out); have cZ := Aside0.mk hbS; clear BKm HB BKx hbS sS; have BKm := bY; have HB := ca; have BKx := cZ; clear bY ca cZ; have hcm21 := (blk_cell BKm.out 21).trans rfl; have hcm0 := (blk_cell BKm.out 0).trans rfl) | ((with_reducible refine Pre.gate_load 25 rfl ?_); refine Pre.load_event rfl rfl rfl Z23 Z70 Try.underlying25 rfl Z14 ?_) | ((with_reducible refine gate_dst (N := 1) rfl ?_); refine Sq.box 1 #[.int .i64 ax, .int .i64 av, .int .i64 aw, .string ay, .int .i64 az, .int .i64 aH, .string aE, .int .i64 aA, .int .i64 aD, .string aC, .int .i64 au, .string an, .int .i64 al, .int .i64 ak, .int .i64 ar, .int .i64 af, .int .i64 ai, .int .i64 am, .int .i64 ao, .string aa, .string ac, .slice bg ab.length bb, .int .i64 ap, .string aq, .slice aZ ah.length ba] 25 ?_; intro gm hg w4 hbox hb; have bY := Aside0.mk (below_step Z1 hb); have ca := Aside0.mk hbox; have GEm := Aside0.mk (Sq.ge hg Z1); replace HB := bY; have BKm := ca; clear bY ca; clear hb hbox hg) | ((with_reducible refine gate_callee (f := 73) rfl ?_); refine goesL_ (some 7) rfl rfl Try.func73 Z14 rfl #[.agg #[.int .i64 ax, .int .i64 av, .int .i64 aw, .string ay, .int .i64 az, .int .i64 aH, .string aE, .int .i64 aA, .int .i64 aD, .string aC, .int .i64 au, .string an, .int .i64 al, .int .i64 ak, .int .i64 ar, .int .i64 af, .int .i64 ai, .int .i64 am, .int .i64 ao, .string aa, .string ac, .slice bg ab.length bb, .int .i64 ap, .string aq, .slice aZ ah.length ba]] rfl (by (try simp only [List.map_toArray, List.map_cons, List.map_nil]); first | done | rfl) ?_; (with_reducible refine (msg_strip.calls ax av aw ay az aH aE aA aD aC au an al ak ar af ai am ao aa ac _ _ ab ap aq _ _ ah ax av aw az aH aA aD au al ak ar af ai am ao ap ay aE aC an aa ac aq _ ?side1 ?side2 ?side3 ?side4 A2.out).mono ?_); (case side1 => exact Z10); (case side2 => exact bM.out); (case side3 => exact Z7); (case side4 => exact br.out); rintro e w6 ⟨rfl, hb⟩; refine ⟨_, rfl, ?_⟩; replace BKm := Aside0.mk (blk_below (g := gm) Z76 hb); replace HB := Aside0.mk (below_step Z64 hb); clear hb) | ((with_reducible refine gate_dst (N := 3) rfl ?_); refine Sq.box 3 #[.int .i64 0, .int .i64 0, .int .i64 0, .int .i64 0, .int .i64 0, .int .i64 0, .int .i64 0, .int .i64 0, .int .i64 0, .int .i64 0, .int .i64 0, .int .i64 0, .int .i64 0, .int .i64 0, .int .i64 0, .int .i64 0, .string ⟨#[]⟩, .string ⟨#[]⟩, .string ⟨#[]⟩, .string ⟨#[]⟩, .string ⟨#[]⟩, .string ⟨#[]⟩, .string ⟨#[]⟩] 71 ?_; intro gx hg w7 hbox hb; have bY := Aside0.mk (blk_below (g := gm) Z76 hb); have ca := Aside0.mk (below_step Z64 hb); have cZ := Aside0.mk hbox; have GEx := Aside0.mk (Sq.ge hg Z64); have NBmx := Aside0.mk (Sq.nl hg (blk_lt (g := gm) Z76)); replace BKm := bY; replace HB := ca; have BKx := cZ; clear bY ca cZ; clear hb hbox hg; have hnb := NBmx.out; have hnc := NBmx.out.symm; (try clear hb)))
 (try simp only [Act.put, Sq.s1, Sq.s2, Sq.s3])
 go_cut [4, 5] (fun v4 v5 wc => ∃ (b4 b5 : Bool) (p0 : Int) (p1 : Int) (p2 : Int) (p3 : Int) (p4 : Int) (p5 : Int) (p6 : Int) (p7 : Int) (p8 : Int) (p9 : Int) (p10 : Int) (p11 : Int) (p12 : Int) (p13 : Int) (p14 : Int) (p15 : Int) (p16 : ByteArray) (p17 : ByteArray) (p18 : ByteArray) (p19 : ByteArray) (p20 : ByteArray) (p21 : ByteArray) (p22 : ByteArray), v4 = .bool b4 ∧ v5 = .bool b5 ∧ Aside0 (((msg_Bare.z ax p0 p1 p2 p3 p4 p5 p6 p7 p8 p9 p10 p11 p12 p13 p14 p15 p16 p17 p18 p19 p20 p21 p22 && b4) && b5) = r) ∧ Aside0 (wc.heap[gm]? = some (.cells #[.int .i64 ax, .int .i64 av, .int .i64 aw, .string ay, .int .i64 az, .int .i64 aH, .string aE, .int .i64 aA, .int .i64 aD, .string aC, .int .i64 au, .string an, .int .i64 al, .int .i64 ak, .int .i64 ar, .int .i64 af, .int .i64 ai, .int .i64 am, .int .i64 ao, .string aa, .string ac, .slice bg ab.length bb, .int .i64 ap, .string aq, .slice aZ ah.length ba] 25 (0, 0))) ∧ Aside0 (wc.heap[gx]? = some (.cells #[.int .i64 p0, .int .i64 p1, .int .i64 p2, .int .i64 p3, .int .i64 p4, .int .i64 p5, .int .i64 p6, .int .i64 p7, .int .i64 p8, .int .i64 p9, .int .i64 p10, .int .i64 p11, .int .i64 p12, .int .i64 p13, .int .i64 p14, .int .i64 p15, .string p16, .string p17, .string p18, .string p19, .string p20, .string p21, .string p22] 71 (0, 0))) ∧ Aside0 (Below w.heap.size w wc))
 case first =>
  by_cases c1 : ax = 1
  ·subst c1
   have HRES : Aside0 (((msg_Bare.z 1 1 0 0 0 aH 0 0 0 al ak ar af ai am ao ap (⟨#[]⟩ : ByteArray) (⟨#[]⟩ : ByteArray) (⟨#[]⟩ : ByteArray) an aa ac aq && ((ab.length : Int) == 0)) && ((ah.length : Int) == 0)) = r) := ⟨(msg_Bare.b1 av aw ay az aH aE aA aD aC au an al ak ar af ai am ao aa ac ab ap aq ah).symm.trans fH.out⟩
   clear fH A2
   have hcx1 := (blk_cell BKx.out 1).trans rfl
   have hfx1 := blk_frozen BKx.out 1
   have hcx2 := (blk_cell BKx.out 2).trans rfl
   have hfx2 := blk_frozen BKx.out 2
   have hcx3 := (blk_cell BKx.out 3).trans rfl
   have hfx3 := blk_frozen BKx.out 3
   have hcx5 := (blk_cell BKx.out 5).trans rfl
   have hfx5 := blk_frozen BKx.out 5
   have hcx6 := (blk_cell BKx.out 6).trans rfl
   have hfx6 := blk_frozen BKx.out 6
   have hcx7 := (blk_cell BKx.out 7).trans rfl
   have hfx7 := blk_frozen BKx.out 7
   have hcx16 := (blk_cell BKx.out 16).trans rfl
   have hfx16 := blk_frozen BKx.out 16
   have hcx17 := (blk_cell BKx.out 17).trans rfl
   have hfx17 := blk_frozen BKx.out 17
   have hcx18 := (blk_cell BKx.out 18).trans rfl
   have hfx18 := blk_frozen BKx.out 18
   have hcm24 := (blk_cell BKm.out 24).trans rfl
   go_wp2
   go_meet
   case rel => exact ⟨((ab.length : Int) == 0), ((ah.length : Int) == 0), 1, 0, 0, 0, aH, 0, 0, 0, al, ak, ar, af, ai, am, ao, ap, (⟨#[]⟩ : ByteArray), (⟨#[]⟩ : ByteArray), (⟨#[]⟩ : ByteArray), an, aa, ac, aq, rfl, rfl, HRES, ⟨(blk_far (blk_far (blk_far (blk_far (blk_far (blk_far (blk_far (blk_far (blk_far BKm.out NBmx.out _) NBmx.out _) NBmx.out _) NBmx.out _) NBmx.out _) NBmx.out _) NBmx.out _) NBmx.out _) NBmx.out _)⟩, ⟨Pre.heap_norm (blk_set (blk_set (blk_set (blk_set (blk_set (blk_set (blk_set (blk_set (blk_set BKx.out 1 _) 6 _) 17 _) 5 _) 18 _) 7 _) 2 _) 16 _) 3 _) Z73⟩, ⟨(below_set (below_set (below_set (below_set (below_set (below_set (below_set (below_set (below_set HB.out GEx.out) GEx.out) GEx.out) GEx.out) GEx.out) GEx.out) GEx.out) GEx.out) GEx.out)⟩⟩
  ·by_cases c2 : ax = 2
   ·subst c2
    have HRES : Aside0 (((msg_Bare.z 2 2 0 aw az aH 0 0 0 al ak ar af ai am ao ap ay (⟨#[]⟩ : ByteArray) (⟨#[]⟩ : ByteArray) an aa ac aq && ((ab.length : Int) == 0)) && ((ah.length : Int) == 0)) = r) := ⟨(msg_Bare.b2 av aw ay az aH aE aA aD aC au an al ak ar af ai am ao aa ac ab ap aq ah).symm.trans fH.out⟩
    clear fH A2
    have hcx1 := (blk_cell BKx.out 1).trans rfl
    have hfx1 := blk_frozen BKx.out 1
    have hcx5 := (blk_cell BKx.out 5).trans rfl
    have hfx5 := blk_frozen BKx.out 5
    have hcx6 := (blk_cell BKx.out 6).trans rfl
    have hfx6 := blk_frozen BKx.out 6
    have hcx7 := (blk_cell BKx.out 7).trans rfl
    have hfx7 := blk_frozen BKx.out 7
    have hcx17 := (blk_cell BKx.out 17).trans rfl
    have hfx17 := blk_frozen BKx.out 17
    have hcx18 := (blk_cell BKx.out 18).trans rfl
    have hfx18 := blk_frozen BKx.out 18
    have hcm24 := (blk_cell BKm.out 24).trans rfl
    go_wp2
    go_meet
    case rel => exact ⟨((ab.length : Int) == 0), ((ah.length : Int) == 0), 2, 0, aw, az, aH, 0, 0, 0, al, ak, ar, af, ai, am, ao, ap, ay, (⟨#[]⟩ : ByteArray), (⟨#[]⟩ : ByteArray), an, aa, ac, aq, rfl, rfl, HRES, ⟨(blk_far (blk_far (blk_far (blk_far (blk_far (blk_far BKm.out NBmx.out _) NBmx.out _) NBmx.out _) NBmx.out _) NBmx.out _) NBmx.out _)⟩, ⟨Pre.heap_norm (blk_set (blk_set (blk_set (blk_set (blk_set (blk_set BKx.out 1 _) 6 _) 17 _) 5 _) 18 _) 7 _) Z73⟩, ⟨(below_set (below_set (below_set (below_set (below_set (below_set HB.out GEx.out) GEx.out) GEx.out) GEx.out) GEx.out) GEx.out)⟩⟩
   ·by_cases c3 : ax = 3
    ·subst c3
     have HRES : Aside0 (((msg_Bare.z 3 3 av aw az aH aA aD au 0 0 ar 0 0 0 ao ap ay aE aC an (⟨#[]⟩ : ByteArray) (⟨#[]⟩ : ByteArray) aq && ((ab.length : Int) == 0)) && true) = r) := ⟨(msg_Bare.b3 av aw ay az aH aE aA aD aC au an al ak ar af ai am ao aa ac ab ap aq ah).symm.trans fH.out⟩
     clear fH A2
     have hcx8 := (blk_cell BKx.out 8).trans rfl
     have hfx8 := blk_frozen BKx.out 8
     have hcx9 := (blk_cell BKx.out 9).trans rfl
     have hfx9 := blk_frozen BKx.out 9
     have hcx11 := (blk_cell BKx.out 11).trans rfl
     have hfx11 := blk_frozen BKx.out 11
     have hcx12 := (blk_cell BKx.out 12).trans rfl
     have hfx12 := blk_frozen BKx.out 12
     have hcx13 := (blk_cell BKx.out 13).trans rfl
     have hfx13 := blk_frozen BKx.out 13
     have hcx20 := (blk_cell BKx.out 20).trans rfl
     have hfx20 := blk_frozen BKx.out 20
     have hcx21 := (blk_cell BKx.out 21).trans rfl
     have hfx21 := blk_frozen BKx.out 21
     go_wp2
     go_meet
     case rel => exact ⟨((ab.length : Int) == 0), true, 3, av, aw, az, aH, aA, aD, au, 0, 0, ar, 0, 0, 0, ao, ap, ay, aE, aC, an, (⟨#[]⟩ : ByteArray), (⟨#[]⟩ : ByteArray), aq, rfl, rfl, HRES, ⟨(blk_far (blk_far (blk_far (blk_far (blk_far (blk_far (blk_far BKm.out NBmx.out _) NBmx.out _) NBmx.out _) NBmx.out _) NBmx.out _) NBmx.out _) NBmx.out _)⟩, ⟨Pre.heap_norm (blk_set (blk_set (blk_set (blk_set (blk_set (blk_set (blk_set BKx.out 11 _) 12 _) 13 _) 20 _) 8 _) 21 _) 9 _) Z73⟩, ⟨(below_set (below_set (below_set (below_set (below_set (below_set (below_set HB.out GEx.out) GEx.out) GEx.out) GEx.out) GEx.out) GEx.out) GEx.out)⟩⟩
    ·by_cases c4 : ax = 4
     ·subst c4
      have HRES : Aside0 (((msg_Bare.z 4 4 av aw az aH 0 aD au 0 ak 0 0 0 am ao ap ay aE aC an (⟨#[]⟩ : ByteArray) (⟨#[]⟩ : ByteArray) aq && ((ab.length : Int) == 0)) && true) = r) := ⟨(msg_Bare.b4 av aw ay az aH aE aA aD aC au an al ak ar af ai am ao aa ac ab ap aq ah).symm.trans fH.out⟩
      clear fH A2
      have hcx5 := (blk_cell BKx.out 5).trans rfl
      have hfx5 := blk_frozen BKx.out 5
      have hcx8 := (blk_cell BKx.out 8).trans rfl
      have hfx8 := blk_frozen BKx.out 8
      have hcx10 := (blk_cell BKx.out 10).trans rfl
      have hfx10 := blk_frozen BKx.out 10
      have hcx11 := (blk_cell BKx.out 11).trans rfl
      have hfx11 := blk_frozen BKx.out 11
      have hcx12 := (blk_cell BKx.out 12).trans rfl
      have hfx12 := blk_frozen BKx.out 12
      have hcx20 := (blk_cell BKx.out 20).trans rfl
      have hfx20 := blk_frozen BKx.out 20
      have hcx21 := (blk_cell BKx.out 21).trans rfl
      have hfx21 := blk_frozen BKx.out 21
      go_wp2
      go_meet
      case rel => exact ⟨((ab.length : Int) == 0), true, 4, av, aw, az, aH, 0, aD, au, 0, ak, 0, 0, 0, am, ao, ap, ay, aE, aC, an, (⟨#[]⟩ : ByteArray), (⟨#[]⟩ : ByteArray), aq, rfl, rfl, HRES, ⟨(blk_far (blk_far (blk_far (blk_far (blk_far (blk_far (blk_far BKm.out NBmx.out _) NBmx.out _) NBmx.out _) NBmx.out _) NBmx.out _) NBmx.out _) NBmx.out _)⟩, ⟨Pre.heap_norm (blk_set (blk_set (blk_set (blk_set (blk_set (blk_set (blk_set BKx.out 11 _) 5 _) 12 _) 20 _) 8 _) 21 _) 10 _) Z73⟩, ⟨(below_set (below_set (below_set (below_set (below_set (below_set (below_set HB.out GEx.out) GEx.out) GEx.out) GEx.out) GEx.out) GEx.out) GEx.out)⟩⟩
     ·by_cases c5 : ax = 5
      ·subst c5
       have HRES : Aside0 (((msg_Bare.z 5 5 av aw az aH aA aD au al ak ar 0 ai am ao ap ay aE aC an aa ac aq && true) && true) = r) := ⟨(msg_Bare.b5 av aw ay az aH aE aA aD aC au an al ak ar af ai am ao aa ac ab ap aq ah).symm.trans fH.out⟩
       clear fH A2
       have hcx11 := (blk_cell BKx.out 11).trans rfl
       have hfx11 := blk_frozen BKx.out 11
       go_wp2
       go_meet
       case rel => exact ⟨true, true, 5, av, aw, az, aH, aA, aD, au, al, ak, ar, 0, ai, am, ao, ap, ay, aE, aC, an, aa, ac, aq, rfl, rfl, HRES, ⟨(blk_far BKm.out NBmx.out _)⟩, ⟨Pre.heap_norm (blk_set BKx.out 11 _) Z73⟩, ⟨(below_set HB.out GEx.out)⟩⟩
      ·by_cases c6 : ax = 6
       ·subst c6
        have HRES : Aside0 (((msg_Bare.z 6 6 av aw az aH aA aD au al ak ar af ai am ao ap ay aE aC an aa ac aq && ((ab.length : Int) == 0)) && true) = r) := ⟨(msg_Bare.b6 av aw ay az aH aE aA aD aC au an al ak ar af ai am ao aa ac ab ap aq ah).symm.trans fH.out⟩
        clear fH A2
        go_wp2
        go_meet
        case rel => exact ⟨((ab.length : Int) == 0), true, 6, av, aw, az, aH, aA, aD, au, al, ak, ar, af, ai, am, ao, ap, ay, aE, aC, an, aa, ac, aq, rfl, rfl, HRES, BKm, BKx, HB⟩
       ·by_cases c7 : ax = 7
        ·subst c7
         have HRES : Aside0 (((msg_Bare.z 7 7 av aw az aH aA aD au al ak 0 af ai 0 ao ap ay aE aC an aa ac aq && ((ab.length : Int) == 0)) && true) = r) := ⟨(msg_Bare.b7 av aw ay az aH aE aA aD aC au an al ak ar af ai am ao aa ac ab ap aq ah).symm.trans fH.out⟩
         clear fH A2
         have hcx10 := (blk_cell BKx.out 10).trans rfl
         have hfx10 := blk_frozen BKx.out 10
         have hcx13 := (blk_cell BKx.out 13).trans rfl
         have hfx13 := blk_frozen BKx.out 13
         go_wp2
         go_meet
         case rel => exact ⟨((ab.length : Int) == 0), true, 7, av, aw, az, aH, aA, aD, au, al, ak, 0, af, ai, 0, ao, ap, ay, aE, aC, an, aa, ac, aq, rfl, rfl, HRES, ⟨(blk_far (blk_far BKm.out NBmx.out _) NBmx.out _)⟩, ⟨Pre.heap_norm (blk_set (blk_set BKx.out 13 _) 10 _) Z73⟩, ⟨(below_set (below_set HB.out GEx.out) GEx.out)⟩⟩
        ·by_cases c8 : ax = 8
         ·subst c8
          have HRES : Aside0 (((msg_Bare.z 8 8 av aw az aH aA aD au al ak ar af ai 0 ao ap ay aE aC an aa ac aq && ((ab.length : Int) == 0)) && true) = r) := ⟨(msg_Bare.b8 av aw ay az aH aE aA aD aC au an al ak ar af ai am ao aa ac ab ap aq ah).symm.trans fH.out⟩
          clear fH A2
          have hcx13 := (blk_cell BKx.out 13).trans rfl
          have hfx13 := blk_frozen BKx.out 13
          go_wp2
          go_meet
          case rel => exact ⟨((ab.length : Int) == 0), true, 8, av, aw, az, aH, aA, aD, au, al, ak, ar, af, ai, 0, ao, ap, ay, aE, aC, an, aa, ac, aq, rfl, rfl, HRES, ⟨(blk_far BKm.out NBmx.out _)⟩, ⟨Pre.heap_norm (blk_set BKx.out 13 _) Z73⟩, ⟨(below_set HB.out GEx.out)⟩⟩
         ·by_cases c9 : ax = 9
          ·subst c9
           have HRES : Aside0 (((msg_Bare.z 9 9 av aw az aH aA aD au 0 ak 0 0 ai am ao ap ay aE aC an aa ac aq && ((ab.length : Int) == 0)) && true) = r) := ⟨(msg_Bare.b9 av aw ay az aH aE aA aD aC au an al ak ar af ai am ao aa ac ab ap aq ah).symm.trans fH.out⟩
           clear fH A2
           have hcx8 := (blk_cell BKx.out 8).trans rfl
           have hfx8 := blk_frozen BKx.out 8
           have hcx10 := (blk_cell BKx.out 10).trans rfl
           have hfx10 := blk_frozen BKx.out 10
           have hcx11 := (blk_cell BKx.out 11).trans rfl
           have hfx11 := blk_frozen BKx.out 11
           go_wp2
           go_meet
           case rel => exact ⟨((ab.length : Int) == 0), true, 9, av, aw, az, aH, aA, aD, au, 0, ak, 0, 0, ai, am, ao, ap, ay, aE, aC, an, aa, ac, aq, rfl, rfl, HRES, ⟨(blk_far (blk_far (blk_far BKm.out NBmx.out _) NBmx.out _) NBmx.out _)⟩, ⟨Pre.heap_norm (blk_set (blk_set (blk_set BKx.out 11 _) 8 _) 10 _) Z73⟩, ⟨(below_set (below_set (below_set HB.out GEx.out) GEx.out) GEx.out)⟩⟩
          ·by_cases ey : ax = 10
           ·subst ey
            have HRES : Aside0 (((msg_Bare.z 10 10 av aw az 0 aA aD au al ak 0 af ai am 0 ap ay aE aC an (⟨#[]⟩ : ByteArray) ac aq && ((ab.length : Int) == 0)) && true) = r) := ⟨(msg_Bare.b10 av aw ay az aH aE aA aD aC au an al ak ar af ai am ao aa ac ab ap aq ah).symm.trans fH.out⟩
            clear fH A2
            have hcx4 := (blk_cell BKx.out 4).trans rfl
            have hfx4 := blk_frozen BKx.out 4
            have hcx10 := (blk_cell BKx.out 10).trans rfl
            have hfx10 := blk_frozen BKx.out 10
            have hcx14 := (blk_cell BKx.out 14).trans rfl
            have hfx14 := blk_frozen BKx.out 14
            have hcx20 := (blk_cell BKx.out 20).trans rfl
            have hfx20 := blk_frozen BKx.out 20
            go_wp2
            go_meet
            case rel => exact ⟨((ab.length : Int) == 0), true, 10, av, aw, az, 0, aA, aD, au, al, ak, 0, af, ai, am, 0, ap, ay, aE, aC, an, (⟨#[]⟩ : ByteArray), ac, aq, rfl, rfl, HRES, ⟨(blk_far (blk_far (blk_far (blk_far BKm.out NBmx.out _) NBmx.out _) NBmx.out _) NBmx.out _)⟩, ⟨Pre.heap_norm (blk_set (blk_set (blk_set (blk_set BKx.out 4 _) 14 _) 10 _) 20 _) Z73⟩, ⟨(below_set (below_set (below_set (below_set HB.out GEx.out) GEx.out) GEx.out) GEx.out)⟩⟩
           ·by_cases ee : ax = 11
            ·subst ee
             have HRES : Aside0 (((msg_Bare.z 11 11 av aw az 0 0 aD 0 0 ak 0 af ai am ao ap ay (⟨#[]⟩ : ByteArray) (⟨#[]⟩ : ByteArray) (⟨#[]⟩ : ByteArray) aa ac aq && ((ab.length : Int) == 0)) && true) = r) := ⟨(msg_Bare.b11 av aw ay az aH aE aA aD aC au an al ak ar af ai am ao aa ac ab ap aq ah).symm.trans fH.out⟩
             clear fH A2
             have hcx4 := (blk_cell BKx.out 4).trans rfl
             have hfx4 := blk_frozen BKx.out 4
             have hcx5 := (blk_cell BKx.out 5).trans rfl
             have hfx5 := blk_frozen BKx.out 5
             have hcx7 := (blk_cell BKx.out 7).trans rfl
             have hfx7 := blk_frozen BKx.out 7
             have hcx8 := (blk_cell BKx.out 8).trans rfl
             have hfx8 := blk_frozen BKx.out 8
             have hcx10 := (blk_cell BKx.out 10).trans rfl
             have hfx10 := blk_frozen BKx.out 10
             have hcx17 := (blk_cell BKx.out 17).trans rfl
             have hfx17 := blk_frozen BKx.out 17
             have hcx18 := (blk_cell BKx.out 18).trans rfl
             have hfx18 := blk_frozen BKx.out 18
             have hcx19 := (blk_cell BKx.out 19).trans rfl
             have hfx19 := blk_frozen BKx.out 19
             go_wp2
             go_meet
             case rel => exact ⟨((ab.length : Int) == 0), true, 11, av, aw, az, 0, 0, aD, 0, 0, ak, 0, af, ai, am, ao, ap, ay, (⟨#[]⟩ : ByteArray), (⟨#[]⟩ : ByteArray), (⟨#[]⟩ : ByteArray), aa, ac, aq, rfl, rfl, HRES, ⟨(blk_far (blk_far (blk_far (blk_far (blk_far (blk_far (blk_far (blk_far BKm.out NBmx.out _) NBmx.out _) NBmx.out _) NBmx.out _) NBmx.out _) NBmx.out _) NBmx.out _) NBmx.out _)⟩, ⟨Pre.heap_norm (blk_set (blk_set (blk_set (blk_set (blk_set (blk_set (blk_set (blk_set BKx.out 4 _) 17 _) 5 _) 10 _) 8 _) 7 _) 19 _) 18 _) Z73⟩, ⟨(below_set (below_set (below_set (below_set (below_set (below_set (below_set (below_set HB.out GEx.out) GEx.out) GEx.out) GEx.out) GEx.out) GEx.out) GEx.out) GEx.out)⟩⟩
            ·by_cases fR : ax = 12
             ·subst fR
              have HRES : Aside0 (((msg_Bare.z 12 12 av aw az 0 0 aD au al ak ar af ai am ao ap ay (⟨#[]⟩ : ByteArray) aC an aa ac aq && ((ab.length : Int) == 0)) && true) = r) := ⟨(msg_Bare.b12 av aw ay az aH aE aA aD aC au an al ak ar af ai am ao aa ac ab ap aq ah).symm.trans fH.out⟩
              clear fH A2
              have hcx4 := (blk_cell BKx.out 4).trans rfl
              have hfx4 := blk_frozen BKx.out 4
              have hcx5 := (blk_cell BKx.out 5).trans rfl
              have hfx5 := blk_frozen BKx.out 5
              have hcx17 := (blk_cell BKx.out 17).trans rfl
              have hfx17 := blk_frozen BKx.out 17
              go_wp2
              go_meet
              case rel => exact ⟨((ab.length : Int) == 0), true, 12, av, aw, az, 0, 0, aD, au, al, ak, ar, af, ai, am, ao, ap, ay, (⟨#[]⟩ : ByteArray), aC, an, aa, ac, aq, rfl, rfl, HRES, ⟨(blk_far (blk_far (blk_far BKm.out NBmx.out _) NBmx.out _) NBmx.out _)⟩, ⟨Pre.heap_norm (blk_set (blk_set (blk_set BKx.out 4 _) 17 _) 5 _) Z73⟩, ⟨(below_set (below_set (below_set HB.out GEx.out) GEx.out) GEx.out)⟩⟩
             ·by_cases eU : ax = 13
              ·subst eU
               have HRES : Aside0 (((msg_Bare.z 13 13 av aw az 0 0 aD au 0 ak ar af 0 am ao ap ay (⟨#[]⟩ : ByteArray) aC (⟨#[]⟩ : ByteArray) aa ac aq && ((ab.length : Int) == 0)) && true) = r) := ⟨(msg_Bare.b13 av aw ay az aH aE aA aD aC au an al ak ar af ai am ao aa ac ab ap aq ah).symm.trans fH.out⟩
               clear fH A2
               have hcx4 := (blk_cell BKx.out 4).trans rfl
               have hfx4 := blk_frozen BKx.out 4
               have hcx5 := (blk_cell BKx.out 5).trans rfl
               have hfx5 := blk_frozen BKx.out 5
               have hcx8 := (blk_cell BKx.out 8).trans rfl
               have hfx8 := blk_frozen BKx.out 8
               have hcx12 := (blk_cell BKx.out 12).trans rfl
               have hfx12 := blk_frozen BKx.out 12
               have hcx17 := (blk_cell BKx.out 17).trans rfl
               have hfx17 := blk_frozen BKx.out 17
               have hcx19 := (blk_cell BKx.out 19).trans rfl
               have hfx19 := blk_frozen BKx.out 19
               go_wp2
               go_meet
               case rel => exact ⟨((ab.length : Int) == 0), true, 13, av, aw, az, 0, 0, aD, au, 0, ak, ar, af, 0, am, ao, ap, ay, (⟨#[]⟩ : ByteArray), aC, (⟨#[]⟩ : ByteArray), aa, ac, aq, rfl, rfl, HRES, ⟨(blk_far (blk_far (blk_far (blk_far (blk_far (blk_far BKm.out NBmx.out _) NBmx.out _) NBmx.out _) NBmx.out _) NBmx.out _) NBmx.out _)⟩, ⟨Pre.heap_norm (blk_set (blk_set (blk_set (blk_set (blk_set (blk_set BKx.out 4 _) 17 _) 5 _) 8 _) 12 _) 19 _) Z73⟩, ⟨(below_set (below_set (below_set (below_set (below_set (below_set HB.out GEx.out) GEx.out) GEx.out) GEx.out) GEx.out) GEx.out)⟩⟩
              ·by_cases hH : ax = 14
               ·subst hH
                have HRES : Aside0 (((msg_Bare.z 14 14 av aw az aH aA aD au al ak ar af ai am ao 0 ay aE aC an aa ac (⟨#[]⟩ : ByteArray) && ((ab.length : Int) == 0)) && ((ah.length : Int) == 0)) = r) := ⟨(msg_Bare.b14 av aw ay az aH aE aA aD aC au an al ak ar af ai am ao aa ac ab ap aq ah).symm.trans fH.out⟩
                clear fH A2
                have hcx15 := (blk_cell BKx.out 15).trans rfl
                have hfx15 := blk_frozen BKx.out 15
                have hcx22 := (blk_cell BKx.out 22).trans rfl
                have hfx22 := blk_frozen BKx.out 22
                have hcm24 := (blk_cell BKm.out 24).trans rfl
                go_wp2
                go_meet
                case rel => exact ⟨((ab.length : Int) == 0), ((ah.length : Int) == 0), 14, av, aw, az, aH, aA, aD, au, al, ak, ar, af, ai, am, ao, 0, ay, aE, aC, an, aa, ac, (⟨#[]⟩ : ByteArray), rfl, rfl, HRES, ⟨(blk_far (blk_far BKm.out NBmx.out _) NBmx.out _)⟩, ⟨Pre.heap_norm (blk_set (blk_set BKx.out 15 _) 22 _) Z73⟩, ⟨(below_set (below_set HB.out GEx.out) GEx.out)⟩⟩
               ·obtain rfl : r = false := fH.out.symm.trans (msg_Bare.bno ax av aw ay az aH aE aA aD aC au an al ak ar af ai am ao aa ac ab ap aq ah Z40)
                have d1 : (ax == 1) = false := beq_eq_false_iff_ne.mpr c1
                have d2 : (ax == 2) = false := beq_eq_false_iff_ne.mpr c2
                have d3 : (ax == 3) = false := beq_eq_false_iff_ne.mpr c3
                have d4 : (ax == 4) = false := beq_eq_false_iff_ne.mpr c4
                have d5 : (ax == 5) = false := beq_eq_false_iff_ne.mpr c5
                have d6 : (ax == 6) = false := beq_eq_false_iff_ne.mpr c6
                have d7 : (ax == 7) = false := beq_eq_false_iff_ne.mpr c7
                have d8 : (ax == 8) = false := beq_eq_false_iff_ne.mpr c8
                have d9 : (ax == 9) = false := beq_eq_false_iff_ne.mpr c9
                have d10 : (ax == 10) = false := beq_eq_false_iff_ne.mpr ey
                have d11 : (ax == 11) = false := beq_eq_false_iff_ne.mpr ee
                have d12 : (ax == 12) = false := beq_eq_false_iff_ne.mpr fR
                have d13 : (ax == 13) = false := beq_eq_false_iff_ne.mpr eU
                have d14 : (ax == 14) = false := beq_eq_false_iff_ne.mpr hH
                clear c1 c2 c3 c4 c5 c6 c7 c8 c9 ey ee fR eU hH fH
                go_wp2
                go_ret
                exact ⟨rfl, Z95⟩
 case rest =>
  clear hcm0 hcm21 fH A2 BKm BKx HB
  obtain ⟨b4, b5, p0, p1, p2, p3, p4, p5, p6, p7, p8, p9, p10, p11, p12, p13, p14, p15, p16, p17, p18, p19, p20, p21, p22, rfl, rfl, HRES, BKm, BKx, HB⟩ := hcut
  have hcm0 := (blk_cell BKm.out 0).trans rfl
  have hE := fun (d : Nat) (w : World) => msg_Bare.eqz d w ax p0 p1 p2 p3 p4 p5 p6 p7 p8 p9 p10 p11 p12 p13 p14 p15 p16 p17 p18 p19 p20 p21 p22
  generalize msg_Bare.z ax p0 p1 p2 p3 p4 p5 p6 p7 p8 p9 p10 p11 p12 p13 p14 p15 p16 p17 p18 p19 p20 p21 p22 = bz at HRES hE
  cases bz <;> cases b4 <;> cases b5
  all_goals
   obtain rfl := HRES.out
   clear HRES
   go_wp2_with (first | ((with_reducible refine Pre.gate_load 71 rfl ?_); refine Pre.load_event rfl rfl rfl Z23 Z70 Try.underlying71 rfl Z14 ?_) | ((with_reducible refine gate_dst (N := 108) rfl ?_); refine Pre.build_event 108 71 [(0, .tmp 107)] rfl rfl rfl (msg_Bare.bd _) ?_))
   go_ret
   exact ⟨rfl, Z95⟩

end Go.Proofs.Ytccjakjjaemmkaa.PAB
