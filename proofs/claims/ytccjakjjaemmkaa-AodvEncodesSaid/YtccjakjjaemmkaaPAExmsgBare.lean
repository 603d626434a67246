-- Written by mp.py, a program of this work (wip/tools), out of the translation; Lean checks it.
import Derived.Test.YtccjakjjaemmkaaPAExZ
import Derived.Test.YtccjakjjaemmkaaPAExoctet
import Derived.Test.YtccjakjjaemmkaaBuild
import Derived.Test.YtccjakjjaemmkaaStore
namespace Go.Proofs.Ytccjakjjaemmkaa.PAE
open Go.RowKit Go.Proofs.YtccjakjjaemmkaaW.PrintWords Go.Proofs.YtccjakjjaemmkaaW.PrintLast Go.Proofs.YtccjakjjaemmkaaW.PrintMore
attribute [local go_sem] max2_int min2_int max_two min_two max_three min_three max_four min_four   -- for this text's walks alone
set_option linter.unusedVariables false
set_option linter.unusedSimpArgs false

/-! ### msg_Bare: function 53 -/
def msg_Bare.z (k : Int) (p0 : Int) (p1 : Int) (p2 : Int) (p3 : Int) (p4 : Int) (p5 : Int) (p6 : Int) (p7 : Int) (p8 : Int) (p9 : Int) (p10 : Int) (p11 : Int) (p12 : Int) (p13 : Int) (p14 : Int) (p15 : Int) (p16 : ByteArray) (p17 : ByteArray) (p18 : ByteArray) (p19 : ByteArray) (p20 : ByteArray) (p21 : ByteArray) (p22 : ByteArray) : Bool := (p0 == k && (p1 == 0 && (p2 == 0 && (p3 == 0 && (p4 == 0 && (p5 == 0 && (p6 == 0 && (p7 == 0 && (p8 == 0 && (p9 == 0 && (p10 == 0 && (p11 == 0 && (p12 == 0 && (p13 == 0 && (p14 == 0 && (p15 == 0 && (p16.toList == (⟨#[]⟩ : ByteArray).toList && (p17.toList == (⟨#[]⟩ : ByteArray).toList && (p18.toList == (⟨#[]⟩ : ByteArray).toList && (p19.toList == (⟨#[]⟩ : ByteArray).toList && (p20.toList == (⟨#[]⟩ : ByteArray).toList && (p21.toList == (⟨#[]⟩ : ByteArray).toList && (p22.toList == (⟨#[]⟩ : ByteArray).toList)))))))))))))))))))))))
def msg_Bare.b (aD : Int) (aw : Int) (ax : Int) (au : ByteArray) (aA : Int) (ay : Int) (av : ByteArray) (ar : Int) (aC : Int) (az : ByteArray) (ao : Int) (am : ByteArray) (ah : Int) (aj : Int) (ak : Int) (ae : Int) (ag : Int) (ai : Int) (an : Int) (aa : ByteArray) (ab : ByteArray) (ac : List S46) (ap : Int) (aq : ByteArray) (af : List S48) : Bool := if aD = 1 then (msg_Bare.z 1 1 0 0 0 ay 0 0 0 ah aj ak ae ag ai an ap (⟨#[]⟩ : ByteArray) (⟨#[]⟩ : ByteArray) (⟨#[]⟩ : ByteArray) am aa ab aq && ((ac.length : Int) == 0)) && ((af.length : Int) == 0) else if aD = 2 then (msg_Bare.z 2 2 0 ax aA ay 0 0 0 ah aj ak ae ag ai an ap au (⟨#[]⟩ : ByteArray) (⟨#[]⟩ : ByteArray) am aa ab aq && ((ac.length : Int) == 0)) && ((af.length : Int) == 0) else if aD = 3 then (msg_Bare.z 3 3 aw ax aA ay ar aC ao 0 0 ak 0 0 0 an ap au av az am (⟨#[]⟩ : ByteArray) (⟨#[]⟩ : ByteArray) aq && ((ac.length : Int) == 0)) && true else if aD = 4 then (msg_Bare.z 4 4 aw ax aA ay 0 aC ao 0 aj 0 0 0 ai an ap au av az am (⟨#[]⟩ : ByteArray) (⟨#[]⟩ : ByteArray) aq && ((ac.length : Int) == 0)) && true else if aD = 5 then (msg_Bare.z 5 5 aw ax aA ay ar aC ao ah aj ak 0 ag ai an ap au av az am aa ab aq && true) && true else if aD = 6 then (msg_Bare.z 6 6 aw ax aA ay ar aC ao ah aj ak ae ag ai an ap au av az am aa ab aq && ((ac.length : Int) == 0)) && true else if aD = 7 then (msg_Bare.z 7 7 aw ax aA ay ar aC ao ah aj 0 ae ag 0 an ap au av az am aa ab aq && ((ac.length : Int) == 0)) && true else if aD = 8 then (msg_Bare.z 8 8 aw ax aA ay ar aC ao ah aj ak ae ag 0 an ap au av az am aa ab aq && ((ac.length : Int) == 0)) && true else if aD = 9 then (msg_Bare.z 9 9 aw ax aA ay ar aC ao 0 aj 0 0 ag ai an ap au av az am aa ab aq && ((ac.length : Int) == 0)) && true else if aD = 10 then (msg_Bare.z 10 10 aw ax aA 0 ar aC ao ah aj 0 ae ag ai 0 ap au av az am (⟨#[]⟩ : ByteArray) ab aq && ((ac.length : Int) == 0)) && true else if aD = 11 then (msg_Bare.z 11 11 aw ax aA 0 0 aC 0 0 aj 0 ae ag ai an ap au (⟨#[]⟩ : ByteArray) (⟨#[]⟩ : ByteArray) (⟨#[]⟩ : ByteArray) aa ab aq && ((ac.length : Int) == 0)) && true else if aD = 12 then (msg_Bare.z 12 12 aw ax aA 0 0 aC ao ah aj ak ae ag ai an ap au (⟨#[]⟩ : ByteArray) az am aa ab aq && ((ac.length : Int) == 0)) && true else if aD = 13 then (msg_Bare.z 13 13 aw ax aA 0 0 aC ao 0 aj ak ae 0 ai an ap au (⟨#[]⟩ : ByteArray) az (⟨#[]⟩ : ByteArray) aa ab aq && ((ac.length : Int) == 0)) && true else if aD = 14 then (msg_Bare.z 14 14 aw ax aA ay ar aC ao ah aj ak ae ag ai an 0 au av az am aa ab (⟨#[]⟩ : ByteArray) && ((ac.length : Int) == 0)) && ((af.length : Int) == 0) else false
def msg_Bare.f (aD : Int) (aw : Int) (ax : Int) (au : ByteArray) (aA : Int) (ay : Int) (av : ByteArray) (ar : Int) (aC : Int) (az : ByteArray) (ao : Int) (am : ByteArray) (ah : Int) (aj : Int) (ak : Int) (ae : Int) (ag : Int) (ai : Int) (an : Int) (aa : ByteArray) (ab : ByteArray) (ac : List S46) (ap : Int) (aq : ByteArray) (af : List S48) : Option Bool := some (msg_Bare.b aD aw ax au aA ay av ar aC az ao am ah aj ak ae ag ai an aa ab ac ap aq af)
theorem msg_Bare.b1 (aw : Int) (ax : Int) (au : ByteArray) (aA : Int) (ay : Int) (av : ByteArray) (ar : Int) (aC : Int) (az : ByteArray) (ao : Int) (am : ByteArray) (ah : Int) (aj : Int) (ak : Int) (ae : Int) (ag : Int) (ai : Int) (an : Int) (aa : ByteArray) (ab : ByteArray) (ac : List S46) (ap : Int) (aq : ByteArray) (af : List S48) : msg_Bare.b 1 aw ax au aA ay av ar aC az ao am ah aj ak ae ag ai an aa ab ac ap aq af = ((msg_Bare.z 1 1 0 0 0 ay 0 0 0 ah aj ak ae ag ai an ap (⟨#[]⟩ : ByteArray) (⟨#[]⟩ : ByteArray) (⟨#[]⟩ : ByteArray) am aa ab aq && ((ac.length : Int) == 0)) && ((af.length : Int) == 0)) := by
 unfold msg_Bare.b
 simp (config := {decide := true}) only [if_true, if_false]
theorem msg_Bare.b2 (aw : Int) (ax : Int) (au : ByteArray) (aA : Int) (ay : Int) (av : ByteArray) (ar : Int) (aC : Int) (az : ByteArray) (ao : Int) (am : ByteArray) (ah : Int) (aj : Int) (ak : Int) (ae : Int) (ag : Int) (ai : Int) (an : Int) (aa : ByteArray) (ab : ByteArray) (ac : List S46) (ap : Int) (aq : ByteArray) (af : List S48) : msg_Bare.b 2 aw ax au aA ay av ar aC az ao am ah aj ak ae ag ai an aa ab ac ap aq af = ((msg_Bare.z 2 2 0 ax aA ay 0 0 0 ah aj ak ae ag ai an ap au (⟨#[]⟩ : ByteArray) (⟨#[]⟩ : ByteArray) am aa ab aq && ((ac.length : Int) == 0)) && ((af.length : Int) == 0)) := by
 unfold msg_Bare.b
 simp (config := {decide := true}) only [if_true, if_false]
theorem msg_Bare.b3 (aw : Int) (ax : Int) (au : ByteArray) (aA : Int) (ay : Int) (av : ByteArray) (ar : Int) (aC : Int) (az : ByteArray) (ao : Int) (am : ByteArray) (ah : Int) (aj : Int) (ak : Int) (ae : Int) (ag : Int) (ai : Int) (an : Int) (aa : ByteArray) (ab : ByteArray) (ac : List S46) (ap : Int) (aq : ByteArray) (af : List S48) : msg_Bare.b 3 aw ax au aA ay av ar aC az ao am ah aj ak ae ag ai an aa ab ac ap aq af = ((msg_Bare.z 3 3 aw ax aA ay ar aC ao 0 0 ak 0 0 0 an ap au av az am (⟨#[]⟩ : ByteArray) (⟨#[]⟩ : ByteArray) aq && ((ac.length : Int) == 0)) && true) := by
 unfold msg_Bare.b
 simp (config := {decide := true}) only [if_true, if_false]
theorem msg_Bare.b4 (aw : Int) (ax : Int) (au : ByteArray) (aA : Int) (ay : Int) (av : ByteArray) (ar : Int) (aC : Int) (az : ByteArray) (ao : Int) (am : ByteArray) (ah : Int) (aj : Int) (ak : Int) (ae : Int) (ag : Int) (ai : Int) (an : Int) (aa : ByteArray) (ab : ByteArray) (ac : List S46) (ap : Int) (aq : ByteArray) (af : List S48) : msg_Bare.b 4 aw ax au aA ay av ar aC az ao am ah aj ak ae ag ai an aa ab ac ap aq af = ((msg_Bare.z 4 4 aw ax aA ay 0 aC ao 0 aj 0 0 0 ai an ap au av az am (⟨#[]⟩ : ByteArray) (⟨#[]⟩ : ByteArray) aq && ((ac.length : Int) == 0)) && true) := by
 unfold msg_Bare.b
 simp (config := {decide := true}) only [if_true, if_false]
theorem msg_Bare.b5 (aw : Int) (ax : Int) (au : ByteArray) (aA : Int) (ay : Int) (av : ByteArray) (ar : Int) (aC : Int) (az : ByteArray) (ao : Int) (am : ByteArray) (ah : Int) (aj : Int) (ak : Int) (ae : Int) (ag : Int) (ai : Int) (an : Int) (aa : ByteArray) (ab : ByteArray) (ac : List S46) (ap : Int) (aq : ByteArray) (af : List S48) : msg_Bare.b 5 aw ax au aA ay av ar aC az ao am ah aj ak ae ag ai an aa ab ac ap aq af = ((msg_Bare.z 5 5 aw ax aA ay ar aC ao ah aj ak 0 ag ai an ap au av az am aa ab aq && true) && true) := by
 unfold msg_Bare.b
 simp (config := {decide := true}) only [if_true, if_false]
theorem msg_Bare.b6 (aw : Int) (ax : Int) (au : ByteArray) (aA : Int) (ay : Int) (av : ByteArray) (ar : Int) (aC : Int) (az : ByteArray) (ao : Int) (am : ByteArray) (ah : Int) (aj : Int) (ak : Int) (ae : Int) (ag : Int) (ai : Int) (an : Int) (aa : ByteArray) (ab : ByteArray) (ac : List S46) (ap : Int) (aq : ByteArray) (af : List S48) : msg_Bare.b 6 aw ax au aA ay av ar aC az ao am ah aj ak ae ag ai an aa ab ac ap aq af = ((msg_Bare.z 6 6 aw ax aA ay ar aC ao ah aj ak ae ag ai an ap au av az am aa ab aq && ((ac.length : Int) == 0)) && true) := by
 unfold msg_Bare.b
 simp (config := {decide := true}) only [if_true, if_false]
theorem msg_Bare.b7 (aw : Int) (ax : Int) (au : ByteArray) (aA : Int) (ay : Int) (av : ByteArray) (ar : Int) (aC : Int) (az : ByteArray) (ao : Int) (am : ByteArray) (ah : Int) (aj : Int) (ak : Int) (ae : Int) (ag : Int) (ai : Int) (an : Int) (aa : ByteArray) (ab : ByteArray) (ac : List S46) (ap : Int) (aq : ByteArray) (af : List S48) : msg_Bare.b 7 aw ax au aA ay av ar aC az ao am ah aj ak ae ag ai an aa ab ac ap aq af = ((msg_Bare.z 7 7 aw ax aA ay ar aC ao ah aj 0 ae ag 0 an ap au av az am aa ab aq && ((ac.length : Int) == 0)) && true) := by
 unfold msg_Bare.b
 simp (config := {decide := true}) only [if_true, if_false]
theorem msg_Bare.b8 (aw : Int) (ax : Int) (au : ByteArray) (aA : Int) (ay : Int) (av : ByteArray) (ar : Int) (aC : Int) (az : ByteArray) (ao : Int) (am : ByteArray) (ah : Int) (aj : Int) (ak : Int) (ae : Int) (ag : Int) (ai : Int) (an : Int) (aa : ByteArray) (ab : ByteArray) (ac : List S46) (ap : Int) (aq : ByteArray) (af : List S48) : msg_Bare.b 8 aw ax au aA ay av ar aC az ao am ah aj ak ae ag ai an aa ab ac ap aq af = ((msg_Bare.z 8 8 aw ax aA ay ar aC ao ah aj ak ae ag 0 an ap au av az am aa ab aq && ((ac.length : Int) == 0)) && true) := by
 unfold msg_Bare.b
 simp (config := {decide := true}) only [if_true, if_false]
theorem msg_Bare.b9 (aw : Int) (ax : Int) (au : ByteArray) (aA : Int) (ay : Int) (av : ByteArray) (ar : Int) (aC : Int) (az : ByteArray) (ao : Int) (am : ByteArray) (ah : Int) (aj : Int) (ak : Int) (ae : Int) (ag : Int) (ai : Int) (an : Int) (aa : ByteArray) (ab : ByteArray) (ac : List S46) (ap : Int) (aq : ByteArray) (af : List S48) : msg_Bare.b 9 aw ax au aA ay av ar aC az ao am ah aj ak ae ag ai an aa ab ac ap aq af = ((msg_Bare.z 9 9 aw ax aA ay ar aC ao 0 aj 0 0 ag ai an ap au av az am aa ab aq && ((ac.length : Int) == 0)) && true) := by
 unfold msg_Bare.b
 simp (config := {decide := true}) only [if_true, if_false]
theorem msg_Bare.b10 (aw : Int) (ax : Int) (au : ByteArray) (aA : Int) (ay : Int) (av : ByteArray) (ar : Int) (aC : Int) (az : ByteArray) (ao : Int) (am : ByteArray) (ah : Int) (aj : Int) (ak : Int) (ae : Int) (ag : Int) (ai : Int) (an : Int) (aa : ByteArray) (ab : ByteArray) (ac : List S46) (ap : Int) (aq : ByteArray) (af : List S48) : msg_Bare.b 10 aw ax au aA ay av ar aC az ao am ah aj ak ae ag ai an aa ab ac ap aq af = ((msg_Bare.z 10 10 aw ax aA 0 ar aC ao ah aj 0 ae ag ai 0 ap au av az am (⟨#[]⟩ : ByteArray) ab aq && ((ac.length : Int) == 0)) && true) := by
 unfold msg_Bare.b
 simp (config := {decide := true}) only [if_true, if_false]
theorem msg_Bare.b11 (aw : Int) (ax : Int) (au : ByteArray) (aA : Int) (ay : Int) (av : ByteArray) (ar : Int) (aC : Int) (az : ByteArray) (ao : Int) (am : ByteArray) (ah : Int) (aj : Int) (ak : Int) (ae : Int) (ag : Int) (ai : Int) (an : Int) (aa : ByteArray) (ab : ByteArray) (ac : List S46) (ap : Int) (aq : ByteArray) (af : List S48) : msg_Bare.b 11 aw ax au aA ay av ar aC az ao am ah aj ak ae ag ai an aa ab ac ap aq af = ((msg_Bare.z 11 11 aw ax aA 0 0 aC 0 0 aj 0 ae ag ai an ap au (⟨#[]⟩ : ByteArray) (⟨#[]⟩ : ByteArray) (⟨#[]⟩ : ByteArray) aa ab aq && ((ac.length : Int) == 0)) && true) := by
 unfold msg_Bare.b
 simp (config := {decide := true}) only [if_true, if_false]
theorem msg_Bare.b12 (aw : Int) (ax : Int) (au : ByteArray) (aA : Int) (ay : Int) (av : ByteArray) (ar : Int) (aC : Int) (az : ByteArray) (ao : Int) (am : ByteArray) (ah : Int) (aj : Int) (ak : Int) (ae : Int) (ag : Int) (ai : Int) (an : Int) (aa : ByteArray) (ab : ByteArray) (ac : List S46) (ap : Int) (aq : ByteArray) (af : List S48) : msg_Bare.b 12 aw ax au aA ay av ar aC az ao am ah aj ak ae ag ai an aa ab ac ap aq af = ((msg_Bare.z 12 12 aw ax aA 0 0 aC ao ah aj ak ae ag ai an ap au (⟨#[]⟩ : ByteArray) az am aa ab aq && ((ac.length : Int) == 0)) && true) := by
 unfold msg_Bare.b
 simp (config := {decide := true}) only [if_true, if_false]
theorem msg_Bare.b13 (aw : Int) (ax : Int) (au : ByteArray) (aA : Int) (ay : Int) (av : ByteArray) (ar : Int) (aC : Int) (az : ByteArray) (ao : Int) (am : ByteArray) (ah : Int) (aj : Int) (ak : Int) (ae : Int) (ag : Int) (ai : Int) (an : Int) (aa : ByteArray) (ab : ByteArray) (ac : List S46) (ap : Int) (aq : ByteArray) (af : List S48) : msg_Bare.b 13 aw ax au aA ay av ar aC az ao am ah aj ak ae ag ai an aa ab ac ap aq af = ((msg_Bare.z 13 13 aw ax aA 0 0 aC ao 0 aj ak ae 0 ai an ap au (⟨#[]⟩ : ByteArray) az (⟨#[]⟩ : ByteArray) aa ab aq && ((ac.length : Int) == 0)) && true) := by
 unfold msg_Bare.b
 simp (config := {decide := true}) only [if_true, if_false]
theorem msg_Bare.b14 (aw : Int) (ax : Int) (au : ByteArray) (aA : Int) (ay : Int) (av : ByteArray) (ar : Int) (aC : Int) (az : ByteArray) (ao : Int) (am : ByteArray) (ah : Int) (aj : Int) (ak : Int) (ae : Int) (ag : Int) (ai : Int) (an : Int) (aa : ByteArray) (ab : ByteArray) (ac : List S46) (ap : Int) (aq : ByteArray) (af : List S48) : msg_Bare.b 14 aw ax au aA ay av ar aC az ao am ah aj ak ae ag ai an aa ab ac ap aq af = ((msg_Bare.z 14 14 aw ax aA ay ar aC ao ah aj ak ae ag ai an 0 au av az am aa ab (⟨#[]⟩ : ByteArray) && ((ac.length : Int) == 0)) && ((af.length : Int) == 0)) := by
 unfold msg_Bare.b
 simp (config := {decide := true}) only [if_true, if_false]
theorem msg_Bare.bno (aD : Int) (aw : Int) (ax : Int) (au : ByteArray) (aA : Int) (ay : Int) (av : ByteArray) (ar : Int) (aC : Int) (az : ByteArray) (ao : Int) (am : ByteArray) (ah : Int) (aj : Int) (ak : Int) (ae : Int) (ag : Int) (ai : Int) (an : Int) (aa : ByteArray) (ab : ByteArray) (ac : List S46) (ap : Int) (aq : ByteArray) (af : List S48) (h : ¬ (1 ≤ aD ∧ aD ≤ 14)) : msg_Bare.b aD aw ax au aA ay av ar aC az ao am ah aj ak ae ag ai an aa ab ac ap aq af = false := by
 unfold msg_Bare.b
 rw [if_neg Z29]
 rw [if_neg Z29]
 rw [if_neg Z29]
 rw [if_neg Z29]
 rw [if_neg Z29]
 rw [if_neg Z29]
 rw [if_neg Z29]
 rw [if_neg Z29]
 rw [if_neg Z29]
 rw [if_neg Z29]
 rw [if_neg Z29]
 rw [if_neg Z29]
 rw [if_neg Z29]
 rw [if_neg Z29]
theorem msg_Bare.eqz (d : Nat) (w : World) (k : Int) (p0 : Int) (p1 : Int) (p2 : Int) (p3 : Int) (p4 : Int) (p5 : Int) (p6 : Int) (p7 : Int) (p8 : Int) (p9 : Int) (p10 : Int) (p11 : Int) (p12 : Int) (p13 : Int) (p14 : Int) (p15 : Int) (p16 : ByteArray) (p17 : ByteArray) (p18 : ByteArray) (p19 : ByteArray) (p20 : ByteArray) (p21 : ByteArray) (p22 : ByteArray) :
  (Op.equalIn (d + 2) 71 (.agg #[.int .i64 p0, .int .i64 p1, .int .i64 p2, .int .i64 p3, .int .i64 p4, .int .i64 p5, .int .i64 p6, .int .i64 p7, .int .i64 p8, .int .i64 p9, .int .i64 p10, .int .i64 p11, .int .i64 p12, .int .i64 p13, .int .i64 p14, .int .i64 p15, .string p16, .string p17, .string p18, .string p19, .string p20, .string p21, .string p22]) (.agg #[.int .i64 k, .int .i64 0, .int .i64 0, .int .i64 0, .int .i64 0, .int .i64 0, .int .i64 0, .int .i64 0, .int .i64 0, .int .i64 0, .int .i64 0, .int .i64 0, .int .i64 0, .int .i64 0, .int .i64 0, .int .i64 0, .string ⟨#[]⟩, .string ⟨#[]⟩, .string ⟨#[]⟩, .string ⟨#[]⟩, .string ⟨#[]⟩, .string ⟨#[]⟩, .string ⟨#[]⟩])).run Try.prog w = .ok (msg_Bare.z k p0 p1 p2 p3 p4 p5 p6 p7 p8 p9 p10 p11 p12 p13 p14 p15 p16 p17 p18 p19 p20 p21 p22) w := by
 unfold msg_Bare.z
 refine eqA_of Try.underlying71 Z11 ?_
 refine eqf_cons Z14 Z30 Z30 Z54 ?_
 refine eqf_cons Z14 Z30 Z30 Z54 ?_
 refine eqf_cons Z14 Z30 Z30 Z54 ?_
 refine eqf_cons Z14 Z30 Z30 Z54 ?_
 refine eqf_cons Z14 Z30 Z30 Z54 ?_
 refine eqf_cons Z14 Z30 Z30 Z54 ?_
 refine eqf_cons Z14 Z30 Z30 Z54 ?_
 refine eqf_cons Z14 Z30 Z30 Z54 ?_
 refine eqf_cons Z14 Z30 Z30 Z54 ?_
 refine eqf_cons Z14 Z30 Z30 Z54 ?_
 refine eqf_cons Z14 Z30 Z30 Z54 ?_
 refine eqf_cons Z14 Z30 Z30 Z54 ?_
 refine eqf_cons Z14 Z30 Z30 Z54 ?_
 refine eqf_cons Z14 Z30 Z30 Z54 ?_
 refine eqf_cons Z14 Z30 Z30 Z54 ?_
 refine eqf_cons Z14 Z30 Z30 Z54 ?_
 refine eqf_cons Z14 Z30 Z30 Z54 ?_
 refine eqf_cons Z14 Z30 Z30 Z54 ?_
 refine eqf_cons Z14 Z30 Z30 Z54 ?_
 refine eqf_cons Z14 Z30 Z30 Z54 ?_
 refine eqf_cons Z14 Z30 Z30 Z54 ?_
 refine eqf_cons Z14 Z30 Z30 Z54 ?_
 exact eqf_last Z14 Z30 Z30 Z54
set_option maxRecDepth 100000 in
theorem msg_Bare.bd (v : Int) : Try.prog.built 71 [(0, .int .i64 v)] = some #[.int .i64 v, .int .i64 0, .int .i64 0, .int .i64 0, .int .i64 0, .int .i64 0, .int .i64 0, .int .i64 0, .int .i64 0, .int .i64 0, .int .i64 0, .int .i64 0, .int .i64 0, .int .i64 0, .int .i64 0, .int .i64 0, .string ⟨#[]⟩, .string ⟨#[]⟩, .string ⟨#[]⟩, .string ⟨#[]⟩, .string ⟨#[]⟩, .string ⟨#[]⟩, .string ⟨#[]⟩] := by kernel_rfl
set_option maxHeartbeats 8000000 in
set_option maxRecDepth 100000 in
theorem msg_Bare.calls (aD : Int) (aw : Int) (ax : Int) (au : ByteArray) (aA : Int) (ay : Int) (av : ByteArray) (ar : Int) (aC : Int) (az : ByteArray) (ao : Int) (am : ByteArray) (ah : Int) (aj : Int) (ak : Int) (ae : Int) (ag : Int) (ai : Int) (an : Int) (aa : ByteArray) (ab : ByteArray) (aP : Option Addr) (aN : Nat) (ac : List S46) (ap : Int) (aq : ByteArray) (aJ : Option Addr) (aK : Nat) (af : List S48) (r : Bool) (w : World) (bk : Kd.C k46 w aP ac.length ac) (bl : ac.length ≤ aN) (bm : Kd.C k48 w aJ af.length af) (bn : af.length ≤ aK) (h : msg_Bare.f aD aw ax au aA ay av ar aC az ao am ah aj ak ae ag ai an aa ab ac ap aq af = some r) :
  Calls Try.prog 53 #[.agg #[.int .i64 aD, .int .i64 aw, .int .i64 ax, .string au, .int .i64 aA, .int .i64 ay, .string av, .int .i64 ar, .int .i64 aC, .string az, .int .i64 ao, .string am, .int .i64 ah, .int .i64 aj, .int .i64 ak, .int .i64 ae, .int .i64 ag, .int .i64 ai, .int .i64 an, .string aa, .string ab, .slice aP ac.length aN, .int .i64 ap, .string aq, .slice aJ af.length aK]] w fun e w' => e = .returned (.bool r) ∧ Below w.heap.size w w' := by
 have dM := Try.underlying25
 have nX := Try.underlying71
 have cc := Aside0.mk bk
 have aZ := Aside0.mk bl
 clear bk bl
 have bZ := Aside0.mk bm
 have aT := Aside0.mk bn
 clear bm bn
 have HB := Aside0.mk (Below.refl w.heap.size w)
 have dh := Aside0.mk (Option.some.inj h)
 clear h
 have A2 : Aside0 (msg_strip.f aD aw ax au aA ay av ar aC az ao am ah aj ak ae ag ai an aa ab ac ap aq af = some (aD, aw, ax, aA, ay, ar, aC, ao, ah, aj, ak, ae, ag, ai, an, ap, au, av, az, am, aa, ab, aq)) := ⟨rfl⟩
 go_enter Try.func53, Try.ntmps53
 go_upto_block 0 with (first | ((with_reducible refine Pre.gate_store 71 rfl ?_); refine Pre.store_abs rfl rfl rfl Z14 Z14 Z37 Z11 Z14 Z14 ?_; intro wS hbS sS; have bi := Aside0.mk (sS.blk Z23 NBmx.out); have bp := Aside0.mk (sS.below Z17 GEx.out); have bT := Aside0.mk hbS; clear BKm HB BKx hbS sS; have BKm := bi; have HB := bp; have BKx := bT; clear bi bp bT; have hcm21 := (blk_cell BKm.out 21).trans rfl; have hcm0 := (blk_cell BKm.out 0).trans rfl) | ((with_reducible refine Pre.gate_load 25 rfl ?_); refine Pre.load_event rfl rfl rfl Z14 Z39 Try.underlying25 rfl Z11 ?_) | ((with_reducible refine gate_dst (N := 1) rfl ?_); refine Sq.box 1 #[.int .i64 aD, .int .i64 aw, .int .i64 ax, .string au, .int .i64 aA, .int .i64 ay, .string av, .int .i64 ar, .int .i64 aC, .string az, .int .i64 ao, .string am, .int .i64 ah, .int .i64 aj, .int .i64 ak, .int .i64 ae, .int .i64 ag, .int .i64 ai, .int .i64 an, .string aa, .string ab, .slice aP ac.length aN, .int .i64 ap, .string aq, .slice aJ af.length aK] 25 ?_; intro gm hg w4 hbox hb; have bi := Aside0.mk (below_step Z2 hb); have bp := Aside0.mk hbox; have GEm := Aside0.mk (Sq.ge hg Z2); replace HB := bi; have BKm := bp; clear bi bp; clear hb hbox hg) | ((with_reducible refine gate_callee (f := 73) rfl ?_); refine goesL_ (some 7) rfl rfl Try.func73 Z11 rfl #[.agg #[.int .i64 aD, .int .i64 aw, .int .i64 ax, .string au, .int .i64 aA, .int .i64 ay, .string av, .int .i64 ar, .int .i64 aC, .string az, .int .i64 ao, .string am, .int .i64 ah, .int .i64 aj, .int .i64 ak, .int .i64 ae, .int .i64 ag, .int .i64 ai, .int .i64 an, .string aa, .string ab, .slice aP ac.length aN, .int .i64 ap, .string aq, .slice aJ af.length aK]] rfl (by (try simp only [List.map_toArray, List.map_cons, List.map_nil]); first | done | rfl) ?_; (with_reducible refine (msg_strip.calls aD aw ax au aA ay av ar aC az ao am ah aj ak ae ag ai an aa ab _ _ ac ap aq _ _ af aD aw ax aA ay ar aC ao ah aj ak ae ag ai an ap au av az am aa ab aq _ ?side1 ?side2 ?side3 ?side4 A2.out).mono ?_); (case side1 => exact Z7); (case side2 => exact aZ.out); (case side3 => exact Z5); (case side4 => exact aT.out); rintro e w6 ⟨rfl, hb⟩; refine ⟨_, rfl, ?_⟩; replace BKm := Aside0.mk (blk_below (g := gm) Z23 hb); replace HB := Aside0.mk (below_step Z17 hb); clear hb) | ((with_reducible refine gate_dst (N := 3) rfl ?_); refine Sq.box 3 #[.int .i64 0, .int .i64 0, .int .i64 0, .int .i64 0, .int .i64 0, .int .i64 0, .int .i64 0, .int .i64 0, .int .i64 0, .int .i64 0, .int .i64 0, .int .i64 0, .int .i64 0, .int .i64 0, .int .i64 0, .int .i64 0, .string ⟨#[]⟩, .string ⟨#[]⟩, .string ⟨#[]⟩, .string ⟨#[]⟩, .string ⟨#[]⟩, .string ⟨#[]⟩, .string ⟨#[]⟩] 71 ?_; intro gx hg w7 hbox hb; have bi := Aside0.mk (blk_below (g := gm) Z23 hb); have bp := Aside0.mk (below_step Z17 hb); have bT := Aside0.mk hbox; have GEx := Aside0.mk (Sq.ge hg Z17); have NBmx := Aside0.mk (Sq.nl hg (blk_lt (g := gm) Z23)); replace BKm := bi; replace HB := bp; have BKx := bT; clear bi bp bT; clear hb hbox hg; have hnb := NBmx.out; have hnc := NBmx.out.symm; (try clear hb)))
 (try simp only [Act.put, Sq.s1, Sq.s2, Sq.s3])
 go_cut [4, 5] (fun v4 v5 wc => ∃ (b4 b5 : Bool) (p0 : Int) (p1 : Int) (p2 : Int) (p3 : Int) (p4 : Int) (p5 : Int) (p6 : Int) (p7 : Int) (p8 : Int) (p9 : Int) (p10 : Int) (p11 : Int) (p12 : Int) (p13 : Int) (p14 : Int) (p15 : Int) (p16 : ByteArray) (p17 : ByteArray) (p18 : ByteArray) (p19 : ByteArray) (p20 : ByteArray) (p21 : ByteArray) (p22 : ByteArray), v4 = .bool b4 ∧ v5 = .bool b5 ∧ Aside0 (((msg_Bare.z aD p0 p1 p2 p3 p4 p5 p6 p7 p8 p9 p10 p11 p12 p13 p14 p15 p16 p17 p18 p19 p20 p21 p22 && b4) && b5) = r) ∧ Aside0 (wc.heap[gm]? = some (.cells #[.int .i64 aD, .int .i64 aw, .int .i64 ax, .string au, .int .i64 aA, .int .i64 ay, .string av, .int .i64 ar, .int .i64 aC, .string az, .int .i64 ao, .string am, .int .i64 ah, .int .i64 aj, .int .i64 ak, .int .i64 ae, .int .i64 ag, .int .i64 ai, .int .i64 an, .string aa, .string ab, .slice aP ac.length aN, .int .i64 ap, .string aq, .slice aJ af.length aK] 25 (0, 0))) ∧ Aside0 (wc.heap[gx]? = some (.cells #[.int .i64 p0, .int .i64 p1, .int .i64 p2, .int .i64 p3, .int .i64 p4, .int .i64 p5, .int .i64 p6, .int .i64 p7, .int .i64 p8, .int .i64 p9, .int .i64 p10, .int .i64 p11, .int .i64 p12, .int .i64 p13, .int .i64 p14, .int .i64 p15, .string p16, .string p17, .string p18, .string p19, .string p20, .string p21, .string p22] 71 (0, 0))) ∧ Aside0 (Below w.heap.size w wc))
 case first =>
  by_cases c1 : aD = 1
  ·subst c1
   have HRES : Aside0 (((msg_Bare.z 1 1 0 0 0 ay 0 0 0 ah aj ak ae ag ai an ap (⟨#[]⟩ : ByteArray) (⟨#[]⟩ : ByteArray) (⟨#[]⟩ : ByteArray) am aa ab aq && ((ac.length : Int) == 0)) && ((af.length : Int) == 0)) = r) := ⟨(msg_Bare.b1 aw ax au aA ay av ar aC az ao am ah aj ak ae ag ai an aa ab ac ap aq af).symm.trans dh.out⟩
   clear dh A2
   have hcx1 := (blk_cell BKx.out 1).trans rfl
   have hfx1 := blk_frozen BKx.out 1
   have hcx2 := (blk_cell BKx.out 2).trans rfl
   have hfx2 := blk_frozen BKx.out 2
   have hcx3 := (blk_cell BKx.out 3).trans rfl
   have hfx3 := blk_frozen BKx.out 3
   have hcx5 := (blk_cell BKx.out 5).trans rfl
   have hfx5 := blk_frozen BKx.out 5
   have hcx6 := (blk_cell BKx.out 6).trans rfl
   have hfx6 := blk_frozen BKx.out 6
   have hcx7 := (blk_cell BKx.out 7).trans rfl
   have hfx7 := blk_frozen BKx.out 7
   have hcx16 := (blk_cell BKx.out 16).trans rfl
   have hfx16 := blk_frozen BKx.out 16
   have hcx17 := (blk_cell BKx.out 17).trans rfl
   have hfx17 := blk_frozen BKx.out 17
   have hcx18 := (blk_cell BKx.out 18).trans rfl
   have hfx18 := blk_frozen BKx.out 18
   have hcm24 := (blk_cell BKm.out 24).trans rfl
   go_wp2
   go_meet
   case rel => exact ⟨((ac.length : Int) == 0), ((af.length : Int) == 0), 1, 0, 0, 0, ay, 0, 0, 0, ah, aj, ak, ae, ag, ai, an, ap, (⟨#[]⟩ : ByteArray), (⟨#[]⟩ : ByteArray), (⟨#[]⟩ : ByteArray), am, aa, ab, aq, rfl, rfl, HRES, ⟨(blk_far (blk_far (blk_far (blk_far (blk_far (blk_far (blk_far (blk_far (blk_far BKm.out NBmx.out _) NBmx.out _) NBmx.out _) NBmx.out _) NBmx.out _) NBmx.out _) NBmx.out _) NBmx.out _) NBmx.out _)⟩, ⟨Pre.heap_norm (blk_set (blk_set (blk_set (blk_set (blk_set (blk_set (blk_set (blk_set (blk_set BKx.out 1 _) 6 _) 17 _) 5 _) 18 _) 7 _) 2 _) 16 _) 3 _) Z41⟩, ⟨(below_set (below_set (below_set (below_set (below_set (below_set (below_set (below_set (below_set HB.out GEx.out) GEx.out) GEx.out) GEx.out) GEx.out) GEx.out) GEx.out) GEx.out) GEx.out)⟩⟩
  ·by_cases c2 : aD = 2
   ·subst c2
    have HRES : Aside0 (((msg_Bare.z 2 2 0 ax aA ay 0 0 0 ah aj ak ae ag ai an ap au (⟨#[]⟩ : ByteArray) (⟨#[]⟩ : ByteArray) am aa ab aq && ((ac.length : Int) == 0)) && ((af.length : Int) == 0)) = r) := ⟨(msg_Bare.b2 aw ax au aA ay av ar aC az ao am ah aj ak ae ag ai an aa ab ac ap aq af).symm.trans dh.out⟩
    clear dh A2
    have hcx1 := (blk_cell BKx.out 1).trans rfl
    have hfx1 := blk_frozen BKx.out 1
    have hcx5 := (blk_cell BKx.out 5).trans rfl
    have hfx5 := blk_frozen BKx.out 5
    have hcx6 := (blk_cell BKx.out 6).trans rfl
    have hfx6 := blk_frozen BKx.out 6
    have hcx7 := (blk_cell BKx.out 7).trans rfl
    have hfx7 := blk_frozen BKx.out 7
    have hcx17 := (blk_cell BKx.out 17).trans rfl
    have hfx17 := blk_frozen BKx.out 17
    have hcx18 := (blk_cell BKx.out 18).trans rfl
    have hfx18 := blk_frozen BKx.out 18
    have hcm24 := (blk_cell BKm.out 24).trans rfl
    go_wp2
    go_meet
    case rel => exact ⟨((ac.length : Int) == 0), ((af.length : Int) == 0), 2, 0, ax, aA, ay, 0, 0, 0, ah, aj, ak, ae, ag, ai, an, ap, au, (⟨#[]⟩ : ByteArray), (⟨#[]⟩ : ByteArray), am, aa, ab, aq, rfl, rfl, HRES, ⟨(blk_far (blk_far (blk_far (blk_far (blk_far (blk_far BKm.out NBmx.out _) NBmx.out _) NBmx.out _) NBmx.out _) NBmx.out _) NBmx.out _)⟩, ⟨Pre.heap_norm (blk_set (blk_set (blk_set (blk_set (blk_set (blk_set BKx.out 1 _) 6 _) 17 _) 5 _) 18 _) 7 _) Z41⟩, ⟨(below_set (below_set (below_set (below_set (below_set (below_set HB.out GEx.out) GEx.out) GEx.out) GEx.out) GEx.out) GEx.out)⟩⟩
   ·by_cases c3 : aD = 3
    ·subst c3
     have HRES : Aside0 (((msg_Bare.z 3 3 aw ax aA ay ar aC ao 0 0 ak 0 0 0 an ap au av az am (⟨#[]⟩ : ByteArray) (⟨#[]⟩ : ByteArray) aq && ((ac.length : Int) == 0)) && true) = r) := ⟨(msg_Bare.b3 aw ax au aA ay av ar aC az ao am ah aj ak ae ag ai an aa ab ac ap aq af).symm.trans dh.out⟩
     clear dh A2
     have hcx8 := (blk_cell BKx.out 8).trans rfl
     have hfx8 := blk_frozen BKx.out 8
     have hcx9 := (blk_cell BKx.out 9).trans rfl
     have hfx9 := blk_frozen BKx.out 9
     have hcx11 := (blk_cell BKx.out 11).trans rfl
     have hfx11 := blk_frozen BKx.out 11
     have hcx12 := (blk_cell BKx.out 12).trans rfl
     have hfx12 := blk_frozen BKx.out 12
     have hcx13 := (blk_cell BKx.out 13).trans rfl
     have hfx13 := blk_frozen BKx.out 13
     have hcx20 := (blk_cell BKx.out 20).trans rfl
     have hfx20 := blk_frozen BKx.out 20
     have hcx21 := (blk_cell BKx.out 21).trans rfl
     have hfx21 := blk_frozen BKx.out 21
     go_wp2
     go_meet
     case rel => exact ⟨((ac.length : Int) == 0), true, 3, aw, ax, aA, ay, ar, aC, ao, 0, 0, ak, 0, 0, 0, an, ap, au, av, az, am, (⟨#[]⟩ : ByteArray), (⟨#[]⟩ : ByteArray), aq, rfl, rfl, HRES, ⟨(blk_far (blk_far (blk_far (blk_far (blk_far (blk_far (blk_far BKm.out NBmx.out _) NBmx.out _) NBmx.out _) NBmx.out _) NBmx.out _) NBmx.out _) NBmx.out _)⟩, ⟨Pre.heap_norm (blk_set (blk_set (blk_set (blk_set (blk_set (blk_set (blk_set BKx.out 11 _) 12 _) 13 _) 20 _) 8 _) 21 _) 9 _) Z41⟩, ⟨(below_set (below_set (below_set (below_set (below_set (below_set (below_set HB.out GEx.out) GEx.out) GEx.out) GEx.out) GEx.out) GEx.out) GEx.out)⟩⟩
    ·by_cases c4 : aD = 4
     ·subst c4
      have HRES : Aside0 (((msg_Bare.z 4 4 aw ax aA ay 0 aC ao 0 aj 0 0 0 ai an ap au av az am (⟨#[]⟩ : ByteArray) (⟨#[]⟩ : ByteArray) aq && ((ac.length : Int) == 0)) && true) = r) := ⟨(msg_Bare.b4 aw ax au aA ay av ar aC az ao am ah aj ak ae ag ai an aa ab ac ap aq af).symm.trans dh.out⟩
      clear dh A2
      have hcx5 := (blk_cell BKx.out 5).trans rfl
      have hfx5 := blk_frozen BKx.out 5
      have hcx8 := (blk_cell BKx.out 8).trans rfl
      have hfx8 := blk_frozen BKx.out 8
      have hcx10 := (blk_cell BKx.out 10).trans rfl
      have hfx10 := blk_frozen BKx.out 10
      have hcx11 := (blk_cell BKx.out 11).trans rfl
      have hfx11 := blk_frozen BKx.out 11
      have hcx12 := (blk_cell BKx.out 12).trans rfl
      have hfx12 := blk_frozen BKx.out 12
      have hcx20 := (blk_cell BKx.out 20).trans rfl
      have hfx20 := blk_frozen BKx.out 20
      have hcx21 := (blk_cell BKx.out 21).trans rfl
      have hfx21 := blk_frozen BKx.out 21
      go_wp2
      go_meet
      case rel => exact ⟨((ac.length : Int) == 0), true, 4, aw, ax, aA, ay, 0, aC, ao, 0, aj, 0, 0, 0, ai, an, ap, au, av, az, am, (⟨#[]⟩ : ByteArray), (⟨#[]⟩ : ByteArray), aq, rfl, rfl, HRES, ⟨(blk_far (blk_far (blk_far (blk_far (blk_far (blk_far (blk_far BKm.out NBmx.out _) NBmx.out _) NBmx.out _) NBmx.out _) NBmx.out _) NBmx.out _) NBmx.out _)⟩, ⟨Pre.heap_norm (blk_set (blk_set (blk_set (blk_set (blk_set (blk_set (blk_set BKx.out 11 _) 5 _) 12 _) 20 _) 8 _) 21 _) 10 _) Z41⟩, ⟨(below_set (below_set (below_set (below_set (below_set (below_set (below_set HB.out GEx.out) GEx.out) GEx.out) GEx.out) GEx.out) GEx.out) GEx.out)⟩⟩
     ·by_cases c5 : aD = 5
      ·subst c5
       have HRES : Aside0 (((msg_Bare.z 5 5 aw ax aA ay ar aC ao ah aj ak 0 ag ai an ap au av az am aa ab aq && true) && true) = r) := ⟨(msg_Bare.b5 aw ax au aA ay av ar aC az ao am ah aj ak ae ag ai an aa ab ac ap aq af).symm.trans dh.out⟩
       clear dh A2
       have hcx11 := (blk_cell BKx.out 11).trans rfl
       have hfx11 := blk_frozen BKx.out 11
       go_wp2
       go_meet
       case rel => exact ⟨true, true, 5, aw, ax, aA, ay, ar, aC, ao, ah, aj, ak, 0, ag, ai, an, ap, au, av, az, am, aa, ab, aq, rfl, rfl, HRES, ⟨(blk_far BKm.out NBmx.out _)⟩, ⟨Pre.heap_norm (blk_set BKx.out 11 _) Z41⟩, ⟨(below_set HB.out GEx.out)⟩⟩
      ·by_cases c6 : aD = 6
       ·subst c6
        have HRES : Aside0 (((msg_Bare.z 6 6 aw ax aA ay ar aC ao ah aj ak ae ag ai an ap au av az am aa ab aq && ((ac.length : Int) == 0)) && true) = r) := ⟨(msg_Bare.b6 aw ax au aA ay av ar aC az ao am ah aj ak ae ag ai an aa ab ac ap aq af).symm.trans dh.out⟩
        clear dh A2
        go_wp2
        go_meet
        case rel => exact ⟨((ac.length : Int) == 0), true, 6, aw, ax, aA, ay, ar, aC, ao, ah, aj, ak, ae, ag, ai, an, ap, au, av, az, am, aa, ab, aq, rfl, rfl, HRES, BKm, BKx, HB⟩
       ·by_cases c7 : aD = 7
        ·subst c7
         have HRES : Aside0 (((msg_Bare.z 7 7 aw ax aA ay ar aC ao ah aj 0 ae ag 0 an ap au av az am aa ab aq && ((ac.length : Int) == 0)) && true) = r) := ⟨(msg_Bare.b7 aw ax au aA ay av ar aC az ao am ah aj ak ae ag ai an aa ab ac ap aq af).symm.trans dh.out⟩
         clear dh A2
         have hcx10 := (blk_cell BKx.out 10).trans rfl
         have hfx10 := blk_frozen BKx.out 10
         have hcx13 := (blk_cell BKx.out 13).trans rfl
         have hfx13 := blk_frozen BKx.out 13
         go_wp2
         go_meet
         case rel => exact ⟨((ac.length : Int) == 0), true, 7, aw, ax, aA, ay, ar, aC, ao, ah, aj, 0, ae, ag, 0, an, ap, au, av, az, am, aa, ab, aq, rfl, rfl, HRES, ⟨(blk_far (blk_far BKm.out NBmx.out _) NBmx.out _)⟩, ⟨Pre.heap_norm (blk_set (blk_set BKx.out 13 _) 10 _) Z41⟩, ⟨(below_set (below_set HB.out GEx.out) GEx.out)⟩⟩
        ·by_cases c8 : aD = 8
         ·subst c8
          have HRES : Aside0 (((msg_Bare.z 8 8 aw ax aA ay ar aC ao ah aj ak ae ag 0 an ap au av az am aa ab aq && ((ac.length : Int) == 0)) && true) = r) := ⟨(msg_Bare.b8 aw ax au aA ay av ar aC az ao am ah aj ak ae ag ai an aa ab ac ap aq af).symm.trans dh.out⟩
          clear dh A2
          have hcx13 := (blk_cell BKx.out 13).trans rfl
          have hfx13 := blk_frozen BKx.out 13
          go_wp2
          go_meet
          case rel => exact ⟨((ac.length : Int) == 0), true, 8, aw, ax, aA, ay, ar, aC, ao, ah, aj, ak, ae, ag, 0, an, ap, au, av, az, am, aa, ab, aq, rfl, rfl, HRES, ⟨(blk_far BKm.out NBmx.out _)⟩, ⟨Pre.heap_norm (blk_set BKx.out 13 _) Z41⟩, ⟨(below_set HB.out GEx.out)⟩⟩
         ·by_cases c9 : aD = 9
          ·subst c9
           have HRES : Aside0 (((msg_Bare.z 9 9 aw ax aA ay ar aC ao 0 aj 0 0 ag ai an ap au av az am aa ab aq && ((ac.length : Int) == 0)) && true) = r) := ⟨(msg_Bare.b9 aw ax au aA ay av ar aC az ao am ah aj ak ae ag ai an aa ab ac ap aq af).symm.trans dh.out⟩
           clear dh A2
           have hcx8 := (blk_cell BKx.out 8).trans rfl
           have hfx8 := blk_frozen BKx.out 8
           have hcx10 := (blk_cell BKx.out 10).trans rfl
           have hfx10 := blk_frozen BKx.out 10
           have hcx11 := (blk_cell BKx.out 11).trans rfl
           have hfx11 := blk_frozen BKx.out 11
           go_wp2
           go_meet
           case rel => exact ⟨((ac.length : Int) == 0), true, 9, aw, ax, aA, ay, ar, aC, ao, 0, aj, 0, 0, ag, ai, an, ap, au, av, az, am, aa, ab, aq, rfl, rfl, HRES, ⟨(blk_far (blk_far (blk_far BKm.out NBmx.out _) NBmx.out _) NBmx.out _)⟩, ⟨Pre.heap_norm (blk_set (blk_set (blk_set BKx.out 11 _) 8 _) 10 _) Z41⟩, ⟨(below_set (below_set (below_set HB.out GEx.out) GEx.out) GEx.out)⟩⟩
          ·by_cases dv : aD = 10
           ·subst dv
            have HRES : Aside0 (((msg_Bare.z 10 10 aw ax aA 0 ar aC ao ah aj 0 ae ag ai 0 ap au av az am (⟨#[]⟩ : ByteArray) ab aq && ((ac.length : Int) == 0)) && true) = r) := ⟨(msg_Bare.b10 aw ax au aA ay av ar aC az ao am ah aj ak ae ag ai an aa ab ac ap aq af).symm.trans dh.out⟩
            clear dh A2
            have hcx4 := (blk_cell BKx.out 4).trans rfl
            have hfx4 := blk_frozen BKx.out 4
            have hcx10 := (blk_cell BKx.out 10).trans rfl
            have hfx10 := blk_frozen BKx.out 10
            have hcx14 := (blk_cell BKx.out 14).trans rfl
            have hfx14 := blk_frozen BKx.out 14
            have hcx20 := (blk_cell BKx.out 20).trans rfl
            have hfx20 := blk_frozen BKx.out 20
            go_wp2
            go_meet
            case rel => exact ⟨((ac.length : Int) == 0), true, 10, aw, ax, aA, 0, ar, aC, ao, ah, aj, 0, ae, ag, ai, 0, ap, au, av, az, am, (⟨#[]⟩ : ByteArray), ab, aq, rfl, rfl, HRES, ⟨(blk_far (blk_far (blk_far (blk_far BKm.out NBmx.out _) NBmx.out _) NBmx.out _) NBmx.out _)⟩, ⟨Pre.heap_norm (blk_set (blk_set (blk_set (blk_set BKx.out 4 _) 14 _) 10 _) 20 _) Z41⟩, ⟨(below_set (below_set (below_set (below_set HB.out GEx.out) GEx.out) GEx.out) GEx.out)⟩⟩
           ·by_cases dC : aD = 11
            ·subst dC
             have HRES : Aside0 (((msg_Bare.z 11 11 aw ax aA 0 0 aC 0 0 aj 0 ae ag ai an ap au (⟨#[]⟩ : ByteArray) (⟨#[]⟩ : ByteArray) (⟨#[]⟩ : ByteArray) aa ab aq && ((ac.length : Int) == 0)) && true) = r) := ⟨(msg_Bare.b11 aw ax au aA ay av ar aC az ao am ah aj ak ae ag ai an aa ab ac ap aq af).symm.trans dh.out⟩
             clear dh A2
             have hcx4 := (blk_cell BKx.out 4).trans rfl
             have hfx4 := blk_frozen BKx.out 4
             have hcx5 := (blk_cell BKx.out 5).trans rfl
             have hfx5 := blk_frozen BKx.out 5
             have hcx7 := (blk_cell BKx.out 7).trans rfl
             have hfx7 := blk_frozen BKx.out 7
             have hcx8 := (blk_cell BKx.out 8).trans rfl
             have hfx8 := blk_frozen BKx.out 8
             have hcx10 := (blk_cell BKx.out 10).trans rfl
             have hfx10 := blk_frozen BKx.out 10
             have hcx17 := (blk_cell BKx.out 17).trans rfl
             have hfx17 := blk_frozen BKx.out 17
             have hcx18 := (blk_cell BKx.out 18).trans rfl
             have hfx18 := blk_frozen BKx.out 18
             have hcx19 := (blk_cell BKx.out 19).trans rfl
             have hfx19 := blk_frozen BKx.out 19
             go_wp2
             go_meet
             case rel => exact ⟨((ac.length : Int) == 0), true, 11, aw, ax, aA, 0, 0, aC, 0, 0, aj, 0, ae, ag, ai, an, ap, au, (⟨#[]⟩ : ByteArray), (⟨#[]⟩ : ByteArray), (⟨#[]⟩ : ByteArray), aa, ab, aq, rfl, rfl, HRES, ⟨(blk_far (blk_far (blk_far (blk_far (blk_far (blk_far (blk_far (blk_far BKm.out NBmx.out _) NBmx.out _) NBmx.out _) NBmx.out _) NBmx.out _) NBmx.out _) NBmx.out _) NBmx.out _)⟩, ⟨Pre.heap_norm (blk_set (blk_set (blk_set (blk_set (blk_set (blk_set (blk_set (blk_set BKx.out 4 _) 17 _) 5 _) 10 _) 8 _) 7 _) 19 _) 18 _) Z41⟩, ⟨(below_set (below_set (below_set (below_set (below_set (below_set (below_set (below_set HB.out GEx.out) GEx.out) GEx.out) GEx.out) GEx.out) GEx.out) GEx.out) GEx.out)⟩⟩
            ·by_cases dP : aD = 12
             ·subst dP
              have HRES : Aside0 (((msg_Bare.z 12 12 aw ax aA 0 0 aC ao ah aj ak ae ag ai an ap au (⟨#[]⟩ : ByteArray) az am aa ab aq && ((ac.length : Int) == 0)) && true) = r) := ⟨(msg_Bare.b12 aw ax au aA ay av ar aC az ao am ah aj ak ae ag ai an aa ab ac ap aq af).symm.trans dh.out⟩
              clear dh A2
              have hcx4 := (blk_cell BKx.out 4).trans rfl
              have hfx4 := blk_frozen BKx.out 4
              have hcx5 := (blk_cell BKx.out 5).trans rfl
              have hfx5 := blk_frozen BKx.out 5
              have hcx17 := (blk_cell BKx.out 17).trans rfl
              have hfx17 := blk_frozen BKx.out 17
              go_wp2
              go_meet
              case rel => exact ⟨((ac.length : Int) == 0), true, 12, aw, ax, aA, 0, 0, aC, ao, ah, aj, ak, ae, ag, ai, an, ap, au, (⟨#[]⟩ : ByteArray), az, am, aa, ab, aq, rfl, rfl, HRES, ⟨(blk_far (blk_far (blk_far BKm.out NBmx.out _) NBmx.out _) NBmx.out _)⟩, ⟨Pre.heap_norm (blk_set (blk_set (blk_set BKx.out 4 _) 17 _) 5 _) Z41⟩, ⟨(below_set (below_set (below_set HB.out GEx.out) GEx.out) GEx.out)⟩⟩
             ·by_cases dB : aD = 13
              ·subst dB
               have HRES : Aside0 (((msg_Bare.z 13 13 aw ax aA 0 0 aC ao 0 aj ak ae 0 ai an ap au (⟨#[]⟩ : ByteArray) az (⟨#[]⟩ : ByteArray) aa ab aq && ((ac.length : Int) == 0)) && true) = r) := ⟨(msg_Bare.b13 aw ax au aA ay av ar aC az ao am ah aj ak ae ag ai an aa ab ac ap aq af).symm.trans dh.out⟩
               clear dh A2
               have hcx4 := (blk_cell BKx.out 4).trans rfl
               have hfx4 := blk_frozen BKx.out 4
               have hcx5 := (blk_cell BKx.out 5).trans rfl
               have hfx5 := blk_frozen BKx.out 5
               have hcx8 := (blk_cell BKx.out 8).trans rfl
               have hfx8 := blk_frozen BKx.out 8
               have hcx12 := (blk_cell BKx.out 12).trans rfl
               have hfx12 := blk_frozen BKx.out 12
               have hcx17 := (blk_cell BKx.out 17).trans rfl
               have hfx17 := blk_frozen BKx.out 17
               have hcx19 := (blk_cell BKx.out 19).trans rfl
               have hfx19 := blk_frozen BKx.out 19
               go_wp2
               go_meet
               case rel => exact ⟨((ac.length : Int) == 0), true, 13, aw, ax, aA, 0, 0, aC, ao, 0, aj, ak, ae, 0, ai, an, ap, au, (⟨#[]⟩ : ByteArray), az, (⟨#[]⟩ : ByteArray), aa, ab, aq, rfl, rfl, HRES, ⟨(blk_far (blk_far (blk_far (blk_far (blk_far (blk_far BKm.out NBmx.out _) NBmx.out _) NBmx.out _) NBmx.out _) NBmx.out _) NBmx.out _)⟩, ⟨Pre.heap_norm (blk_set (blk_set (blk_set (blk_set (blk_set (blk_set BKx.out 4 _) 17 _) 5 _) 8 _) 12 _) 19 _) Z41⟩, ⟨(below_set (below_set (below_set (below_set (below_set (below_set HB.out GEx.out) GEx.out) GEx.out) GEx.out) GEx.out) GEx.out)⟩⟩
              ·by_cases dQ : aD = 14
               ·subst dQ
                have HRES : Aside0 (((msg_Bare.z 14 14 aw ax aA ay ar aC ao ah aj ak ae ag ai an 0 au av az am aa ab (⟨#[]⟩ : ByteArray) && ((ac.length : Int) == 0)) && ((af.length : Int) == 0)) = r) := ⟨(msg_Bare.b14 aw ax au aA ay av ar aC az ao am ah aj ak ae ag ai an aa ab ac ap aq af).symm.trans dh.out⟩
                clear dh A2
                have hcx15 := (blk_cell BKx.out 15).trans rfl
                have hfx15 := blk_frozen BKx.out 15
                have hcx22 := (blk_cell BKx.out 22).trans rfl
                have hfx22 := blk_frozen BKx.out 22
                have hcm24 := (blk_cell BKm.out 24).trans rfl
                go_wp2
                go_meet
                case rel => exact ⟨((ac.length : Int) == 0), ((af.length : Int) == 0), 14, aw, ax, aA, ay, ar, aC, ao, ah, aj, ak, ae, ag, ai, an, 0, au, av, az, am, aa, ab, (⟨#[]⟩ : ByteArray), rfl, rfl, HRES, ⟨(blk_far (blk_far BKm.out NBmx.out _) NBmx.out _)⟩, ⟨Pre.heap_norm (blk_set (blk_set BKx.out 15 _) 22 _) Z41⟩, ⟨(below_set (below_set HB.out GEx.out) GEx.out)⟩⟩
               ·obtain rfl : r = false := dh.out.symm.trans (msg_Bare.bno aD aw ax au aA ay av ar aC az ao am ah aj ak ae ag ai an aa ab ac ap aq af Z29)
                have d1 : (aD == 1) = false := beq_eq_false_iff_ne.mpr c1
                have d2 : (aD == 2) = false := beq_eq_false_iff_ne.mpr c2
                have d3 : (aD == 3) = false := beq_eq_false_iff_ne.mpr c3
                have d4 : (aD == 4) = false := beq_eq_false_iff_ne.mpr c4
                have d5 : (aD == 5) = false := beq_eq_false_iff_ne.mpr c5
                have d6 : (aD == 6) = false := beq_eq_false_iff_ne.mpr c6
                have d7 : (aD == 7) = false := beq_eq_false_iff_ne.mpr c7
                have d8 : (aD == 8) = false := beq_eq_false_iff_ne.mpr c8
                have d9 : (aD == 9) = false := beq_eq_false_iff_ne.mpr c9
                have d10 : (aD == 10) = false := beq_eq_false_iff_ne.mpr dv
                have d11 : (aD == 11) = false := beq_eq_false_iff_ne.mpr dC
                have d12 : (aD == 12) = false := beq_eq_false_iff_ne.mpr dP
                have d13 : (aD == 13) = false := beq_eq_false_iff_ne.mpr dB
                have d14 : (aD == 14) = false := beq_eq_false_iff_ne.mpr dQ
                clear c1 c2 c3 c4 c5 c6 c7 c8 c9 dv dC dP dB dQ dh
                go_wp2
                go_ret
                exact ⟨rfl, Z28⟩
 case rest =>
  clear hcm0 hcm21 dh A2 BKm BKx HB
  obtain ⟨b4, b5, p0, p1, p2, p3, p4, p5, p6, p7, p8, p9, p10, p11, p12, p13, p14, p15, p16, p17, p18, p19, p20, p21, p22, rfl, rfl, HRES, BKm, BKx, HB⟩ := hcut
  have hcm0 := (blk_cell BKm.out 0).trans rfl
  have hE := fun (d : Nat) (w : World) => msg_Bare.eqz d w aD p0 p1 p2 p3 p4 p5 p6 p7 p8 p9 p10 p11 p12 p13 p14 p15 p16 p17 p18 p19 p20 p21 p22
  generalize msg_Bare.z aD p0 p1 p2 p3 p4 p5 p6 p7 p8 p9 p10 p11 p12 p13 p14 p15 p16 p17 p18 p19 p20 p21 p22 = bz at HRES hE
  cases bz <;> cases b4 <;> cases b5
  all_goals
   obtain rfl := HRES.out
   clear HRES
   go_wp2_with (first | ((with_reducible refine Pre.gate_load 71 rfl ?_); refine Pre.load_event rfl rfl rfl Z14 Z39 Try.underlying71 rfl Z11 ?_) | ((with_reducible refine gate_dst (N := 108) rfl ?_); refine Pre.build_event 108 71 [(0, .tmp 107)] rfl rfl rfl (msg_Bare.bd _) ?_))
   go_ret
   exact ⟨rfl, Z28⟩

end Go.Proofs.Ytccjakjjaemmkaa.PAE
