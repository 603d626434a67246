-- Written by mp.py, a program of this work (wip/tools), out of the translation; Lean checks it.
import Derived.Test.YtccjakjjaemmkaaPRxZ
import Derived.Test.YtccjakjjaemmkaaPRxmsg
import Derived.Test.YtccjakjjaemmkaaBuild
import Derived.Test.YtccjakjjaemmkaaStore
namespace Go.Proofs.Ytccjakjjaemmkaa.PR
open Go.RowKit Go.Proofs.YtccjakjjaemmkaaW.PrintWords Go.Proofs.YtccjakjjaemmkaaW.PrintLast Go.Proofs.YtccjakjjaemmkaaW.PrintMore
attribute [local go_sem] max2_int min2_int max_two min_two max_three min_three max_four min_four   -- for this text's walks alone
set_option linter.unusedVariables false
set_option linter.unusedSimpArgs false

/-! ### msg_Bare: function 53 -/
def msg_Bare.z (k : Int) (p0 : Int) (p1 : Int) (p2 : Int) (p3 : Int) (p4 : Int) (p5 : Int) (p6 : Int) (p7 : Int) (p8 : Int) (p9 : Int) (p10 : Int) (p11 : Int) (p12 : Int) (p13 : Int) (p14 : Int) (p15 : Int) (p16 : ByteArray) (p17 : ByteArray) (p18 : ByteArray) (p19 : ByteArray) (p20 : ByteArray) (p21 : ByteArray) (p22 : ByteArray) : Bool := (p0 == k && (p1 == 0 && (p2 == 0 && (p3 == 0 && (p4 == 0 && (p5 == 0 && (p6 == 0 && (p7 == 0 && (p8 == 0 && (p9 == 0 && (p10 == 0 && (p11 == 0 && (p12 == 0 && (p13 == 0 && (p14 == 0 && (p15 == 0 && (p16.toList == (⟨#[]⟩ : ByteArray).toList && (p17.toList == (⟨#[]⟩ : ByteArray).toList && (p18.toList == (⟨#[]⟩ : ByteArray).toList && (p19.toList == (⟨#[]⟩ : ByteArray).toList && (p20.toList == (⟨#[]⟩ : ByteArray).toList && (p21.toList == (⟨#[]⟩ : ByteArray).toList && (p22.toList == (⟨#[]⟩ : ByteArray).toList)))))))))))))))))))))))
def msg_Bare.b (av : Int) (au : Int) (aw : Int) (ay : ByteArray) (aD : Int) (az : Int) (aA : ByteArray) (ax : Int) (aE : Int) (aC : ByteArray) (ap : Int) (an : ByteArray) (aj : Int) (am : Int) (ak : Int) (ah : Int) (ai : Int) (al : Int) (ao : Int) (ac : ByteArray) (af : ByteArray) (ae : List S46) (aq : Int) (ar : ByteArray) (ag : List S48) : Bool := if av = 1 then (msg_Bare.z 1 1 0 0 0 az 0 0 0 aj am ak ah ai al ao aq (⟨#[]⟩ : ByteArray) (⟨#[]⟩ : ByteArray) (⟨#[]⟩ : ByteArray) an ac af ar && ((ae.length : Int) == 0)) && ((ag.length : Int) == 0) else if av = 2 then (msg_Bare.z 2 2 0 aw aD az 0 0 0 aj am ak ah ai al ao aq ay (⟨#[]⟩ : ByteArray) (⟨#[]⟩ : ByteArray) an ac af ar && ((ae.length : Int) == 0)) && ((ag.length : Int) == 0) else if av = 3 then (msg_Bare.z 3 3 au aw aD az ax aE ap 0 0 ak 0 0 0 ao aq ay aA aC an (⟨#[]⟩ : ByteArray) (⟨#[]⟩ : ByteArray) ar && ((ae.length : Int) == 0)) && true else if av = 4 then (msg_Bare.z 4 4 au aw aD az 0 aE ap 0 am 0 0 0 al ao aq ay aA aC an (⟨#[]⟩ : ByteArray) (⟨#[]⟩ : ByteArray) ar && ((ae.length : Int) == 0)) && true else if av = 5 then (msg_Bare.z 5 5 au aw aD az ax aE ap aj am ak 0 ai al ao aq ay aA aC an ac af ar && true) && true else if av = 6 then (msg_Bare.z 6 6 au aw aD az ax aE ap aj am ak ah ai al ao aq ay aA aC an ac af ar && ((ae.length : Int) == 0)) && true else if av = 7 then (msg_Bare.z 7 7 au aw aD az ax aE ap aj am 0 ah ai 0 ao aq ay aA aC an ac af ar && ((ae.length : Int) == 0)) && true else if av = 8 then (msg_Bare.z 8 8 au aw aD az ax aE ap aj am ak ah ai 0 ao aq ay aA aC an ac af ar && ((ae.length : Int) == 0)) && true else if av = 9 then (msg_Bare.z 9 9 au aw aD az ax aE ap 0 am 0 0 ai al ao aq ay aA aC an ac af ar && ((ae.length : Int) == 0)) && true else if av = 10 then (msg_Bare.z 10 10 au aw aD 0 ax aE ap aj am 0 ah ai al 0 aq ay aA aC an (⟨#[]⟩ : ByteArray) af ar && ((ae.length : Int) == 0)) && true else if av = 11 then (msg_Bare.z 11 11 au aw aD 0 0 aE 0 0 am 0 ah ai al ao aq ay (⟨#[]⟩ : ByteArray) (⟨#[]⟩ : ByteArray) (⟨#[]⟩ : ByteArray) ac af ar && ((ae.length : Int) == 0)) && true else if av = 12 then (msg_Bare.z 12 12 au aw aD 0 0 aE ap aj am ak ah ai al ao aq ay (⟨#[]⟩ : ByteArray) aC an ac af ar && ((ae.length : Int) == 0)) && true else if av = 13 then (msg_Bare.z 13 13 au aw aD 0 0 aE ap 0 am ak ah 0 al ao aq ay (⟨#[]⟩ : ByteArray) aC (⟨#[]⟩ : ByteArray) ac af ar && ((ae.length : Int) == 0)) && true else if av = 14 then (msg_Bare.z 14 14 au aw aD az ax aE ap aj am ak ah ai al ao 0 ay aA aC an ac af (⟨#[]⟩ : ByteArray) && ((ae.length : Int) == 0)) && ((ag.length : Int) == 0) else false
def msg_Bare.f (av : Int) (au : Int) (aw : Int) (ay : ByteArray) (aD : Int) (az : Int) (aA : ByteArray) (ax : Int) (aE : Int) (aC : ByteArray) (ap : Int) (an : ByteArray) (aj : Int) (am : Int) (ak : Int) (ah : Int) (ai : Int) (al : Int) (ao : Int) (ac : ByteArray) (af : ByteArray) (ae : List S46) (aq : Int) (ar : ByteArray) (ag : List S48) : Option Bool := some (msg_Bare.b av au aw ay aD az aA ax aE aC ap an aj am ak ah ai al ao ac af ae aq ar ag)
theorem msg_Bare.b1 (au : Int) (aw : Int) (ay : ByteArray) (aD : Int) (az : Int) (aA : ByteArray) (ax : Int) (aE : Int) (aC : ByteArray) (ap : Int) (an : ByteArray) (aj : Int) (am : Int) (ak : Int) (ah : Int) (ai : Int) (al : Int) (ao : Int) (ac : ByteArray) (af : ByteArray) (ae : List S46) (aq : Int) (ar : ByteArray) (ag : List S48) : msg_Bare.b 1 au aw ay aD az aA ax aE aC ap an aj am ak ah ai al ao ac af ae aq ar ag = ((msg_Bare.z 1 1 0 0 0 az 0 0 0 aj am ak ah ai al ao aq (⟨#[]⟩ : ByteArray) (⟨#[]⟩ : ByteArray) (⟨#[]⟩ : ByteArray) an ac af ar && ((ae.length : Int) == 0)) && ((ag.length : Int) == 0)) := by
 unfold msg_Bare.b
 simp (config := {decide := true}) only [if_true, if_false]
theorem msg_Bare.b2 (au : Int) (aw : Int) (ay : ByteArray) (aD : Int) (az : Int) (aA : ByteArray) (ax : Int) (aE : Int) (aC : ByteArray) (ap : Int) (an : ByteArray) (aj : Int) (am : Int) (ak : Int) (ah : Int) (ai : Int) (al : Int) (ao : Int) (ac : ByteArray) (af : ByteArray) (ae : List S46) (aq : Int) (ar : ByteArray) (ag : List S48) : msg_Bare.b 2 au aw ay aD az aA ax aE aC ap an aj am ak ah ai al ao ac af ae aq ar ag = ((msg_Bare.z 2 2 0 aw aD az 0 0 0 aj am ak ah ai al ao aq ay (⟨#[]⟩ : ByteArray) (⟨#[]⟩ : ByteArray) an ac af ar && ((ae.length : Int) == 0)) && ((ag.length : Int) == 0)) := by
 unfold msg_Bare.b
 simp (config := {decide := true}) only [if_true, if_false]
theorem msg_Bare.b3 (au : Int) (aw : Int) (ay : ByteArray) (aD : Int) (az : Int) (aA : ByteArray) (ax : Int) (aE : Int) (aC : ByteArray) (ap : Int) (an : ByteArray) (aj : Int) (am : Int) (ak : Int) (ah : Int) (ai : Int) (al : Int) (ao : Int) (ac : ByteArray) (af : ByteArray) (ae : List S46) (aq : Int) (ar : ByteArray) (ag : List S48) : msg_Bare.b 3 au aw ay aD az aA ax aE aC ap an aj am ak ah ai al ao ac af ae aq ar ag = ((msg_Bare.z 3 3 au aw aD az ax aE ap 0 0 ak 0 0 0 ao aq ay aA aC an (⟨#[]⟩ : ByteArray) (⟨#[]⟩ : ByteArray) ar && ((ae.length : Int) == 0)) && true) := by
 unfold msg_Bare.b
 simp (config := {decide := true}) only [if_true, if_false]
theorem msg_Bare.b4 (au : Int) (aw : Int) (ay : ByteArray) (aD : Int) (az : Int) (aA : ByteArray) (ax : Int) (aE : Int) (aC : ByteArray) (ap : Int) (an : ByteArray) (aj : Int) (am : Int) (ak : Int) (ah : Int) (ai : Int) (al : Int) (ao : Int) (ac : ByteArray) (af : ByteArray) (ae : List S46) (aq : Int) (ar : ByteArray) (ag : List S48) : msg_Bare.b 4 au aw ay aD az aA ax aE aC ap an aj am ak ah ai al ao ac af ae aq ar ag = ((msg_Bare.z 4 4 au aw aD az 0 aE ap 0 am 0 0 0 al ao aq ay aA aC an (⟨#[]⟩ : ByteArray) (⟨#[]⟩ : ByteArray) ar && ((ae.length : Int) == 0)) && true) := by
 unfold msg_Bare.b
 simp (config := {decide := true}) only [if_true, if_false]
theorem msg_Bare.b5 (au : Int) (aw : Int) (ay : ByteArray) (aD : Int) (az : Int) (aA : ByteArray) (ax : Int) (aE : Int) (aC : ByteArray) (ap : Int) (an : ByteArray) (aj : Int) (am : Int) (ak : Int) (ah : Int) (ai : Int) (al : Int) (ao : Int) (ac : ByteArray) (af : ByteArray) (ae : List S46) (aq : Int) (ar : ByteArray) (ag : List S48) : msg_Bare.b 5 au aw ay aD az aA ax aE aC ap an aj am ak ah ai al ao ac af ae aq ar ag = ((msg_Bare.z 5 5 au aw aD az ax aE ap aj am ak 0 ai al ao aq ay aA aC an ac af ar && true) && true) := by
 unfold msg_Bare.b
 simp (config := {decide := true}) only [if_true, if_false]
theorem msg_Bare.b6 (au : Int) (aw : Int) (ay : ByteArray) (aD : Int) (az : Int) (aA : ByteArray) (ax : Int) (aE : Int) (aC : ByteArray) (ap : Int) (an : ByteArray) (aj : Int) (am : Int) (ak : Int) (ah : Int) (ai : Int) (al : Int) (ao : Int) (ac : ByteArray) (af : ByteArray) (ae : List S46) (aq : Int) (ar : ByteArray) (ag : List S48) : msg_Bare.b 6 au aw ay aD az aA ax aE aC ap an aj am ak ah ai al ao ac af ae aq ar ag = ((msg_Bare.z 6 6 au aw aD az ax aE ap aj am ak ah ai al ao aq ay aA aC an ac af ar && ((ae.length : Int) == 0)) && true) := by
 unfold msg_Bare.b
 simp (config := {decide := true}) only [if_true, if_false]
theorem msg_Bare.b7 (au : Int) (aw : Int) (ay : ByteArray) (aD : Int) (az : Int) (aA : ByteArray) (ax : Int) (aE : Int) (aC : ByteArray) (ap : Int) (an : ByteArray) (aj : Int) (am : Int) (ak : Int) (ah : Int) (ai : Int) (al : Int) (ao : Int) (ac : ByteArray) (af : ByteArray) (ae : List S46) (aq : Int) (ar : ByteArray) (ag : List S48) : msg_Bare.b 7 au aw ay aD az aA ax aE aC ap an aj am ak ah ai al ao ac af ae aq ar ag = ((msg_Bare.z 7 7 au aw aD az ax aE ap aj am 0 ah ai 0 ao aq ay aA aC an ac af ar && ((ae.length : Int) == 0)) && true) := by
 unfold msg_Bare.b
 simp (config := {decide := true}) only [if_true, if_false]
theorem msg_Bare.b8 (au : Int) (aw : Int) (ay : ByteArray) (aD : Int) (az : Int) (aA : ByteArray) (ax : Int) (aE : Int) (aC : ByteArray) (ap : Int) (an : ByteArray) (aj : Int) (am : Int) (ak : Int) (ah : Int) (ai : Int) (al : Int) (ao : Int) (ac : ByteArray) (af : ByteArray) (ae : List S46) (aq : Int) (ar : ByteArray) (ag : List S48) : msg_Bare.b 8 au aw ay aD az aA ax aE aC ap an aj am ak ah ai al ao ac af ae aq ar ag = ((msg_Bare.z 8 8 au aw aD az ax aE ap aj am ak ah ai 0 ao aq ay aA aC an ac af ar && ((ae.length : Int) == 0)) && true) := by
 unfold msg_Bare.b
 simp (config := {decide := true}) only [if_true, if_false]
theorem msg_Bare.b9 (au : Int) (aw : Int) (ay : ByteArray) (aD : Int) (az : Int) (aA : ByteArray) (ax : Int) (aE : Int) (aC : ByteArray) (ap : Int) (an : ByteArray) (aj : Int) (am : Int) (ak : Int) (ah : Int) (ai : Int) (al : Int) (ao : Int) (ac : ByteArray) (af : ByteArray) (ae : List S46) (aq : Int) (ar : ByteArray) (ag : List S48) : msg_Bare.b 9 au aw ay aD az aA ax aE aC ap an aj am ak ah ai al ao ac af ae aq ar ag = ((msg_Bare.z 9 9 au aw aD az ax aE ap 0 am 0 0 ai al ao aq ay aA aC an ac af ar && ((ae.length : Int) == 0)) && true) := by
 unfold msg_Bare.b
 simp (config := {decide := true}) only [if_true, if_false]
theorem msg_Bare.b10 (au : Int) (aw : Int) (ay : ByteArray) (aD : Int) (az : Int) (aA : ByteArray) (ax : Int) (aE : Int) (aC : ByteArray) (ap : Int) (an : ByteArray) (aj : Int) (am : Int) (ak : Int) (ah : Int) (ai : Int) (al : Int) (ao : Int) (ac : ByteArray) (af : ByteArray) (ae : List S46) (aq : Int) (ar : ByteArray) (ag : List S48) : msg_Bare.b 10 au aw ay aD az aA ax aE aC ap an aj am ak ah ai al ao ac af ae aq ar ag = ((msg_Bare.z 10 10 au aw aD 0 ax aE ap aj am 0 ah ai al 0 aq ay aA aC an (⟨#[]⟩ : ByteArray) af ar && ((ae.length : Int) == 0)) && true) := by
 unfold msg_Bare.b
 simp (config := {decide := true}) only [if_true, if_false]
theorem msg_Bare.b11 (au : Int) (aw : Int) (ay : ByteArray) (aD : Int) (az : Int) (aA : ByteArray) (ax : Int) (aE : Int) (aC : ByteArray) (ap : Int) (an : ByteArray) (aj : Int) (am : Int) (ak : Int) (ah : Int) (ai : Int) (al : Int) (ao : Int) (ac : ByteArray) (af : ByteArray) (ae : List S46) (aq : Int) (ar : ByteArray) (ag : List S48) : msg_Bare.b 11 au aw ay aD az aA ax aE aC ap an aj am ak ah ai al ao ac af ae aq ar ag = ((msg_Bare.z 11 11 au aw aD 0 0 aE 0 0 am 0 ah ai al ao aq ay (⟨#[]⟩ : ByteArray) (⟨#[]⟩ : ByteArray) (⟨#[]⟩ : ByteArray) ac af ar && ((ae.length : Int) == 0)) && true) := by
 unfold msg_Bare.b
 simp (config := {decide := true}) only [if_true, if_false]
theorem msg_Bare.b12 (au : Int) (aw : Int) (ay : ByteArray) (aD : Int) (az : Int) (aA : ByteArray) (ax : Int) (aE : Int) (aC : ByteArray) (ap : Int) (an : ByteArray) (aj : Int) (am : Int) (ak : Int) (ah : Int) (ai : Int) (al : Int) (ao : Int) (ac : ByteArray) (af : ByteArray) (ae : List S46) (aq : Int) (ar : ByteArray) (ag : List S48) : msg_Bare.b 12 au aw ay aD az aA ax aE aC ap an aj am ak ah ai al ao ac af ae aq ar ag = ((msg_Bare.z 12 12 au aw aD 0 0 aE ap aj am ak ah ai al ao aq ay (⟨#[]⟩ : ByteArray) aC an ac af ar && ((ae.length : Int) == 0)) && true) := by
 unfold msg_Bare.b
 simp (config := {decide := true}) only [if_true, if_false]
theorem msg_Bare.b13 (au : Int) (aw : Int) (ay : ByteArray) (aD : Int) (az : Int) (aA : ByteArray) (ax : Int) (aE : Int) (aC : ByteArray) (ap : Int) (an : ByteArray) (aj : Int) (am : Int) (ak : Int) (ah : Int) (ai : Int) (al : Int) (ao : Int) (ac : ByteArray) (af : ByteArray) (ae : List S46) (aq : Int) (ar : ByteArray) (ag : List S48) : msg_Bare.b 13 au aw ay aD az aA ax aE aC ap an aj am ak ah ai al ao ac af ae aq ar ag = ((msg_Bare.z 13 13 au aw aD 0 0 aE ap 0 am ak ah 0 al ao aq ay (⟨#[]⟩ : ByteArray) aC (⟨#[]⟩ : ByteArray) ac af ar && ((ae.length : Int) == 0)) && true) := by
 unfold msg_Bare.b
 simp (config := {decide := true}) only [if_true, if_false]
theorem msg_Bare.b14 (au : Int) (aw : Int) (ay : ByteArray) (aD : Int) (az : Int) (aA : ByteArray) (ax : Int) (aE : Int) (aC : ByteArray) (ap : Int) (an : ByteArray) (aj : Int) (am : Int) (ak : Int) (ah : Int) (ai : Int) (al : Int) (ao : Int) (ac : ByteArray) (af : ByteArray) (ae : List S46) (aq : Int) (ar : ByteArray) (ag : List S48) : msg_Bare.b 14 au aw ay aD az aA ax aE aC ap an aj am ak ah ai al ao ac af ae aq ar ag = ((msg_Bare.z 14 14 au aw aD az ax aE ap aj am ak ah ai al ao 0 ay aA aC an ac af (⟨#[]⟩ : ByteArray) && ((ae.length : Int) == 0)) && ((ag.length : Int) == 0)) := by
 unfold msg_Bare.b
 simp (config := {decide := true}) only [if_true, if_false]
theorem msg_Bare.bno (av : Int) (au : Int) (aw : Int) (ay : ByteArray) (aD : Int) (az : Int) (aA : ByteArray) (ax : Int) (aE : Int) (aC : ByteArray) (ap : Int) (an : ByteArray) (aj : Int) (am : Int) (ak : Int) (ah : Int) (ai : Int) (al : Int) (ao : Int) (ac : ByteArray) (af : ByteArray) (ae : List S46) (aq : Int) (ar : ByteArray) (ag : List S48) (h : ¬ (1 ≤ av ∧ av ≤ 14)) : msg_Bare.b av au aw ay aD az aA ax aE aC ap an aj am ak ah ai al ao ac af ae aq ar ag = false := by
 unfold msg_Bare.b
 rw [if_neg Z55]
 rw [if_neg Z55]
 rw [if_neg Z55]
 rw [if_neg Z55]
 rw [if_neg Z55]
 rw [if_neg Z55]
 rw [if_neg Z55]
 rw [if_neg Z55]
 rw [if_neg Z55]
 rw [if_neg Z55]
 rw [if_neg Z55]
 rw [if_neg Z55]
 rw [if_neg Z55]
 rw [if_neg Z55]
theorem msg_Bare.eqz (d : Nat) (w : World) (k : Int) (p0 : Int) (p1 : Int) (p2 : Int) (p3 : Int) (p4 : Int) (p5 : Int) (p6 : Int) (p7 : Int) (p8 : Int) (p9 : Int) (p10 : Int) (p11 : Int) (p12 : Int) (p13 : Int) (p14 : Int) (p15 : Int) (p16 : ByteArray) (p17 : ByteArray) (p18 : ByteArray) (p19 : ByteArray) (p20 : ByteArray) (p21 : ByteArray) (p22 : ByteArray) :
  (Op.equalIn (d + 2) 71 (.agg #[.int .i64 p0, .int .i64 p1, .int .i64 p2, .int .i64 p3, .int .i64 p4, .int .i64 p5, .int .i64 p6, .int .i64 p7, .int .i64 p8, .int .i64 p9, .int .i64 p10, .int .i64 p11, .int .i64 p12, .int .i64 p13, .int .i64 p14, .int .i64 p15, .string p16, .string p17, .string p18, .string p19, .string p20, .string p21, .string p22]) (.agg #[.int .i64 k, .int .i64 0, .int .i64 0, .int .i64 0, .int .i64 0, .int .i64 0, .int .i64 0, .int .i64 0, .int .i64 0, .int .i64 0, .int .i64 0, .int .i64 0, .int .i64 0, .int .i64 0, .int .i64 0, .int .i64 0, .string ⟨#[]⟩, .string ⟨#[]⟩, .string ⟨#[]⟩, .string ⟨#[]⟩, .string ⟨#[]⟩, .string ⟨#[]⟩, .string ⟨#[]⟩])).run Try.prog w = .ok (msg_Bare.z k p0 p1 p2 p3 p4 p5 p6 p7 p8 p9 p10 p11 p12 p13 p14 p15 p16 p17 p18 p19 p20 p21 p22) w := by
 unfold msg_Bare.z
 refine eqA_of Try.underlying71 Z6 ?_
 refine eqf_cons Z13 Z90 Z90 Z118 ?_
 refine eqf_cons Z13 Z90 Z90 Z118 ?_
 refine eqf_cons Z13 Z90 Z90 Z118 ?_
 refine eqf_cons Z13 Z90 Z90 Z118 ?_
 refine eqf_cons Z13 Z90 Z90 Z118 ?_
 refine eqf_cons Z13 Z90 Z90 Z118 ?_
 refine eqf_cons Z13 Z90 Z90 Z118 ?_
 refine eqf_cons Z13 Z90 Z90 Z118 ?_
 refine eqf_cons Z13 Z90 Z90 Z118 ?_
 refine eqf_cons Z13 Z90 Z90 Z118 ?_
 refine eqf_cons Z13 Z90 Z90 Z118 ?_
 refine eqf_cons Z13 Z90 Z90 Z118 ?_
 refine eqf_cons Z13 Z90 Z90 Z118 ?_
 refine eqf_cons Z13 Z90 Z90 Z118 ?_
 refine eqf_cons Z13 Z90 Z90 Z118 ?_
 refine eqf_cons Z13 Z90 Z90 Z118 ?_
 refine eqf_cons Z13 Z90 Z90 Z118 ?_
 refine eqf_cons Z13 Z90 Z90 Z118 ?_
 refine eqf_cons Z13 Z90 Z90 Z118 ?_
 refine eqf_cons Z13 Z90 Z90 Z118 ?_
 refine eqf_cons Z13 Z90 Z90 Z118 ?_
 refine eqf_cons Z13 Z90 Z90 Z118 ?_
 exact eqf_last Z13 Z90 Z90 Z118
set_option maxRecDepth 100000 in
theorem msg_Bare.bd (v : Int) : Try.prog.built 71 [(0, .int .i64 v)] = some #[.int .i64 v, .int .i64 0, .int .i64 0, .int .i64 0, .int .i64 0, .int .i64 0, .int .i64 0, .int .i64 0, .int .i64 0, .int .i64 0, .int .i64 0, .int .i64 0, .int .i64 0, .int .i64 0, .int .i64 0, .int .i64 0, .string ⟨#[]⟩, .string ⟨#[]⟩, .string ⟨#[]⟩, .string ⟨#[]⟩, .string ⟨#[]⟩, .string ⟨#[]⟩, .string ⟨#[]⟩] := by kernel_rfl
set_option maxHeartbeats 8000000 in
set_option maxRecDepth 100000 in
theorem msg_Bare.calls (av : Int) (au : Int) (aw : Int) (ay : ByteArray) (aD : Int) (az : Int) (aA : ByteArray) (ax : Int) (aE : Int) (aC : ByteArray) (ap : Int) (an : ByteArray) (aj : Int) (am : Int) (ak : Int) (ah : Int) (ai : Int) (al : Int) (ao : Int) (ac : ByteArray) (af : ByteArray) (aT : Option Addr) (aN : Nat) (ae : List S46) (aq : Int) (ar : ByteArray) (aJ : Option Addr) (aK : Nat) (ag : List S48) (r : Bool) (w : World) (bY : Kd.C k46 w aT ae.length ae) (bZ : ae.length ≤ aN) (ca : Kd.C k48 w aJ ag.length ag) (cb : ag.length ≤ aK) (h : msg_Bare.f av au aw ay aD az aA ax aE aC ap an aj am ak ah ai al ao ac af ae aq ar ag = some r) :
  Calls Try.prog 53 #[.agg #[.int .i64 av, .int .i64 au, .int .i64 aw, .string ay, .int .i64 aD, .int .i64 az, .string aA, .int .i64 ax, .int .i64 aE, .string aC, .int .i64 ap, .string an, .int .i64 aj, .int .i64 am, .int .i64 ak, .int .i64 ah, .int .i64 ai, .int .i64 al, .int .i64 ao, .string ac, .string af, .slice aT ae.length aN, .int .i64 aq, .string ar, .slice aJ ag.length aK]] w fun e w' => e = .returned (.bool r) ∧ Below w.heap.size w w' := by
 have gB := Try.underlying25
 have vu := Try.underlying71
 have cT := Aside0.mk bY
 have bl := Aside0.mk bZ
 clear bY bZ
 have cP := Aside0.mk ca
 have bg := Aside0.mk cb
 clear ca cb
 have HB := Aside0.mk (Below.refl w.heap.size w)
 have gl := Aside0.mk (Option.some.inj h)
 clear h
 have A2 : Aside0 (msg_strip.f av au aw ay aD az aA ax aE aC ap an aj am ak ah ai al ao ac af ae aq ar ag = some (av, au, aw, aD, az, ax, aE, ap, aj, am, ak, ah, ai, al, ao, aq, ay, aA, aC, an, ac, af, ar)) := ⟨rfl⟩
 go_enter Try.func53, Try.ntmps53
 go_upto_block 0 with (first | ((with_reducible refine Pre.gate_store 71 rfl ?_); refine Pre.store_abs rfl rfl rfl Z13 Z13 Z99 Z6 Z13 Z13 ?_; intro wS hbS sS; have aG := Aside0.mk (sS.blk Z62 NBmx.out); have aH := Aside0.mk (sS.below Z51 GEx.out); have aI := Aside0.mk hbS; clear BKm HB BKx hbS sS; have BKm := aG; have HB := aH; have BKx := aI; clear aG aH aI; have hcm21 := (blk_cell BKm.out 21).trans rfl; have hcm0 := (blk_cell BKm.out 0).trans rfl) | ((with_reducible refine Pre.gate_load 25 rfl ?_); refine Pre.load_event rfl rfl rfl Z13 Z100 Try.underlying25 rfl Z6 ?_) | ((with_reducible refine gate_dst (N := 1) rfl ?_); refine box_event ?hg (N := 1) ?hd (cs := #[.int .i64 av, .int .i64 au, .int .i64 aw, .string ay, .int .i64 aD, .int .i64 az, .string aA, .int .i64 ax, .int .i64 aE, .string aC, .int .i64 ap, .string an, .int .i64 aj, .int .i64 am, .int .i64 ak, .int .i64 ah, .int .i64 ai, .int .i64 al, .int .i64 ao, .string ac, .string af, .slice aT ae.length aN, .int .i64 aq, .string ar, .slice aJ ag.length aK]) (t := 25) ?hr ?_; (case hd => rfl); (case hg => rfl); (case hr => first | (go_simp; done) | (go_simp; rfl)); intro gm hg w4 hbox hb; have aG := Aside0.mk (below_step Z3 hb); have aH := Aside0.mk hbox; have GEm := Aside0.mk ((by rw [hg]; exact (below_size Z3) : w.heap.size ≤ gm)); replace HB := aG; have BKm := aH; clear aG aH; clear hb hbox hg) | ((with_reducible refine gate_callee (f := 73) rfl ?_); refine goesL_ (some 7) rfl rfl Try.func73 Z6 rfl #[.agg #[.int .i64 av, .int .i64 au, .int .i64 aw, .string ay, .int .i64 aD, .int .i64 az, .string aA, .int .i64 ax, .int .i64 aE, .string aC, .int .i64 ap, .string an, .int .i64 aj, .int .i64 am, .int .i64 ak, .int .i64 ah, .int .i64 ai, .int .i64 al, .int .i64 ao, .string ac, .string af, .slice aT ae.length aN, .int .i64 aq, .string ar, .slice aJ ag.length aK]] rfl (by (try simp only [List.map_toArray, List.map_cons, List.map_nil]); first | done | rfl) ?_; (with_reducible refine (msg_strip.calls av au aw ay aD az aA ax aE aC ap an aj am ak ah ai al ao ac af _ _ ae aq ar _ _ ag av au aw aD az ax aE ap aj am ak ah ai al ao aq ay aA aC an ac af ar _ ?side1 ?side2 ?side3 ?side4 A2.out).mono ?_); (case side1 => exact Z8); (case side2 => exact bl.out); (case side3 => exact Z7); (case side4 => exact bg.out); rintro e w6 ⟨rfl, hb⟩; refine ⟨_, rfl, ?_⟩; have aG := Aside0.mk (blk_below (g := gm) Z62 hb); have aH := Aside0.mk (below_step Z51 hb); replace BKm := aG; replace HB := aH; clear aG aH; (try clear hb)) | ((with_reducible refine gate_dst (N := 3) rfl ?_); refine box_event ?hg (N := 3) ?hd (cs := #[.int .i64 0, .int .i64 0, .int .i64 0, .int .i64 0, .int .i64 0, .int .i64 0, .int .i64 0, .int .i64 0, .int .i64 0, .int .i64 0, .int .i64 0, .int .i64 0, .int .i64 0, .int .i64 0, .int .i64 0, .int .i64 0, .string ⟨#[]⟩, .string ⟨#[]⟩, .string ⟨#[]⟩, .string ⟨#[]⟩, .string ⟨#[]⟩, .string ⟨#[]⟩, .string ⟨#[]⟩]) (t := 71) ?hr ?_; (case hd => rfl); (case hg => rfl); (case hr => first | (go_simp; done) | (go_simp; rfl)); intro gx hg w7 hbox hb; have aG := Aside0.mk (blk_below (g := gm) Z62 hb); have aH := Aside0.mk (below_step Z51 hb); have aI := Aside0.mk hbox; have GEx := Aside0.mk ((by rw [hg]; exact (below_size Z51) : w.heap.size ≤ gx)); have NBmx := Aside0.mk ((by rw [hg]; exact Nat.ne_of_lt (blk_lt (g := gm) Z62) : gm ≠ gx)); replace BKm := aG; replace HB := aH; have BKx := aI; clear aG aH aI; clear hb hbox hg; have hnb := NBmx.out; have hnc := NBmx.out.symm; (try clear hb)))
 (try simp only [Act.put, List.setIfInBounds_toArray, List.set_cons_zero, List.set_cons_succ])
 go_cut [4, 5] (fun v4 v5 wc => ∃ (b4 b5 : Bool) (p0 : Int) (p1 : Int) (p2 : Int) (p3 : Int) (p4 : Int) (p5 : Int) (p6 : Int) (p7 : Int) (p8 : Int) (p9 : Int) (p10 : Int) (p11 : Int) (p12 : Int) (p13 : Int) (p14 : Int) (p15 : Int) (p16 : ByteArray) (p17 : ByteArray) (p18 : ByteArray) (p19 : ByteArray) (p20 : ByteArray) (p21 : ByteArray) (p22 : ByteArray), v4 = .bool b4 ∧ v5 = .bool b5 ∧ Aside0 (((msg_Bare.z av p0 p1 p2 p3 p4 p5 p6 p7 p8 p9 p10 p11 p12 p13 p14 p15 p16 p17 p18 p19 p20 p21 p22 && b4) && b5) = r) ∧ Aside0 (wc.heap[gm]? = some (.cells #[.int .i64 av, .int .i64 au, .int .i64 aw, .string ay, .int .i64 aD, .int .i64 az, .string aA, .int .i64 ax, .int .i64 aE, .string aC, .int .i64 ap, .string an, .int .i64 aj, .int .i64 am, .int .i64 ak, .int .i64 ah, .int .i64 ai, .int .i64 al, .int .i64 ao, .string ac, .string af, .slice aT ae.length aN, .int .i64 aq, .string ar, .slice aJ ag.length aK] 25 (0, 0))) ∧ Aside0 (wc.heap[gx]? = some (.cells #[.int .i64 p0, .int .i64 p1, .int .i64 p2, .int .i64 p3, .int .i64 p4, .int .i64 p5, .int .i64 p6, .int .i64 p7, .int .i64 p8, .int .i64 p9, .int .i64 p10, .int .i64 p11, .int .i64 p12, .int .i64 p13, .int .i64 p14, .int .i64 p15, .string p16, .string p17, .string p18, .string p19, .string p20, .string p21, .string p22] 71 (0, 0))) ∧ Aside0 (Below w.heap.size w wc))
 case first =>
  by_cases c1 : av = 1
  ·subst c1
   have HRES : Aside0 (((msg_Bare.z 1 1 0 0 0 az 0 0 0 aj am ak ah ai al ao aq (⟨#[]⟩ : ByteArray) (⟨#[]⟩ : ByteArray) (⟨#[]⟩ : ByteArray) an ac af ar && ((ae.length : Int) == 0)) && ((ag.length : Int) == 0)) = r) := ⟨(msg_Bare.b1 au aw ay aD az aA ax aE aC ap an aj am ak ah ai al ao ac af ae aq ar ag).symm.trans gl.out⟩
   clear gl A2
   have hcx1 := (blk_cell BKx.out 1).trans rfl
   have hfx1 := blk_frozen BKx.out 1
   have hcx2 := (blk_cell BKx.out 2).trans rfl
   have hfx2 := blk_frozen BKx.out 2
   have hcx3 := (blk_cell BKx.out 3).trans rfl
   have hfx3 := blk_frozen BKx.out 3
   have hcx5 := (blk_cell BKx.out 5).trans rfl
   have hfx5 := blk_frozen BKx.out 5
   have hcx6 := (blk_cell BKx.out 6).trans rfl
   have hfx6 := blk_frozen BKx.out 6
   have hcx7 := (blk_cell BKx.out 7).trans rfl
   have hfx7 := blk_frozen BKx.out 7
   have hcx16 := (blk_cell BKx.out 16).trans rfl
   have hfx16 := blk_frozen BKx.out 16
   have hcx17 := (blk_cell BKx.out 17).trans rfl
   have hfx17 := blk_frozen BKx.out 17
   have hcx18 := (blk_cell BKx.out 18).trans rfl
   have hfx18 := blk_frozen BKx.out 18
   have hcm24 := (blk_cell BKm.out 24).trans rfl
   go_wp2
   go_meet
   case rel => exact ⟨((ae.length : Int) == 0), ((ag.length : Int) == 0), 1, 0, 0, 0, az, 0, 0, 0, aj, am, ak, ah, ai, al, ao, aq, (⟨#[]⟩ : ByteArray), (⟨#[]⟩ : ByteArray), (⟨#[]⟩ : ByteArray), an, ac, af, ar, rfl, rfl, HRES, ⟨(blk_far (blk_far (blk_far (blk_far (blk_far (blk_far (blk_far (blk_far (blk_far BKm.out NBmx.out _) NBmx.out _) NBmx.out _) NBmx.out _) NBmx.out _) NBmx.out _) NBmx.out _) NBmx.out _) NBmx.out _)⟩, ⟨Pre.heap_norm (blk_set (blk_set (blk_set (blk_set (blk_set (blk_set (blk_set (blk_set (blk_set BKx.out 1 _) 6 _) 17 _) 5 _) 18 _) 7 _) 2 _) 16 _) 3 _) Z64⟩, ⟨(below_set (below_set (below_set (below_set (below_set (below_set (below_set (below_set (below_set HB.out GEx.out) GEx.out) GEx.out) GEx.out) GEx.out) GEx.out) GEx.out) GEx.out) GEx.out)⟩⟩
  ·by_cases c2 : av = 2
   ·subst c2
    have HRES : Aside0 (((msg_Bare.z 2 2 0 aw aD az 0 0 0 aj am ak ah ai al ao aq ay (⟨#[]⟩ : ByteArray) (⟨#[]⟩ : ByteArray) an ac af ar && ((ae.length : Int) == 0)) && ((ag.length : Int) == 0)) = r) := ⟨(msg_Bare.b2 au aw ay aD az aA ax aE aC ap an aj am ak ah ai al ao ac af ae aq ar ag).symm.trans gl.out⟩
    clear gl A2
    have hcx1 := (blk_cell BKx.out 1).trans rfl
    have hfx1 := blk_frozen BKx.out 1
    have hcx5 := (blk_cell BKx.out 5).trans rfl
    have hfx5 := blk_frozen BKx.out 5
    have hcx6 := (blk_cell BKx.out 6).trans rfl
    have hfx6 := blk_frozen BKx.out 6
    have hcx7 := (blk_cell BKx.out 7).trans rfl
    have hfx7 := blk_frozen BKx.out 7
    have hcx17 := (blk_cell BKx.out 17).trans rfl
    have hfx17 := blk_frozen BKx.out 17
    have hcx18 := (blk_cell BKx.out 18).trans rfl
    have hfx18 := blk_frozen BKx.out 18
    have hcm24 := (blk_cell BKm.out 24).trans rfl
    go_wp2
    go_meet
    case rel => exact ⟨((ae.length : Int) == 0), ((ag.length : Int) == 0), 2, 0, aw, aD, az, 0, 0, 0, aj, am, ak, ah, ai, al, ao, aq, ay, (⟨#[]⟩ : ByteArray), (⟨#[]⟩ : ByteArray), an, ac, af, ar, rfl, rfl, HRES, ⟨(blk_far (blk_far (blk_far (blk_far (blk_far (blk_far BKm.out NBmx.out _) NBmx.out _) NBmx.out _) NBmx.out _) NBmx.out _) NBmx.out _)⟩, ⟨Pre.heap_norm (blk_set (blk_set (blk_set (blk_set (blk_set (blk_set BKx.out 1 _) 6 _) 17 _) 5 _) 18 _) 7 _) Z64⟩, ⟨(below_set (below_set (below_set (below_set (below_set (below_set HB.out GEx.out) GEx.out) GEx.out) GEx.out) GEx.out) GEx.out)⟩⟩
   ·by_cases c3 : av = 3
    ·subst c3
     have HRES : Aside0 (((msg_Bare.z 3 3 au aw aD az ax aE ap 0 0 ak 0 0 0 ao aq ay aA aC an (⟨#[]⟩ : ByteArray) (⟨#[]⟩ : ByteArray) ar && ((ae.length : Int) == 0)) && true) = r) := ⟨(msg_Bare.b3 au aw ay aD az aA ax aE aC ap an aj am ak ah ai al ao ac af ae aq ar ag).symm.trans gl.out⟩
     clear gl A2
     have hcx8 := (blk_cell BKx.out 8).trans rfl
     have hfx8 := blk_frozen BKx.out 8
     have hcx9 := (blk_cell BKx.out 9).trans rfl
     have hfx9 := blk_frozen BKx.out 9
     have hcx11 := (blk_cell BKx.out 11).trans rfl
     have hfx11 := blk_frozen BKx.out 11
     have hcx12 := (blk_cell BKx.out 12).trans rfl
     have hfx12 := blk_frozen BKx.out 12
     have hcx13 := (blk_cell BKx.out 13).trans rfl
     have hfx13 := blk_frozen BKx.out 13
     have hcx20 := (blk_cell BKx.out 20).trans rfl
     have hfx20 := blk_frozen BKx.out 20
     have hcx21 := (blk_cell BKx.out 21).trans rfl
     have hfx21 := blk_frozen BKx.out 21
     go_wp2
     go_meet
     case rel => exact ⟨((ae.length : Int) == 0), true, 3, au, aw, aD, az, ax, aE, ap, 0, 0, ak, 0, 0, 0, ao, aq, ay, aA, aC, an, (⟨#[]⟩ : ByteArray), (⟨#[]⟩ : ByteArray), ar, rfl, rfl, HRES, ⟨(blk_far (blk_far (blk_far (blk_far (blk_far (blk_far (blk_far BKm.out NBmx.out _) NBmx.out _) NBmx.out _) NBmx.out _) NBmx.out _) NBmx.out _) NBmx.out _)⟩, ⟨Pre.heap_norm (blk_set (blk_set (blk_set (blk_set (blk_set (blk_set (blk_set BKx.out 11 _) 12 _) 13 _) 20 _) 8 _) 21 _) 9 _) Z64⟩, ⟨(below_set (below_set (below_set (below_set (below_set (below_set (below_set HB.out GEx.out) GEx.out) GEx.out) GEx.out) GEx.out) GEx.out) GEx.out)⟩⟩
    ·by_cases c4 : av = 4
     ·subst c4
      have HRES : Aside0 (((msg_Bare.z 4 4 au aw aD az 0 aE ap 0 am 0 0 0 al ao aq ay aA aC an (⟨#[]⟩ : ByteArray) (⟨#[]⟩ : ByteArray) ar && ((ae.length : Int) == 0)) && true) = r) := ⟨(msg_Bare.b4 au aw ay aD az aA ax aE aC ap an aj am ak ah ai al ao ac af ae aq ar ag).symm.trans gl.out⟩
      clear gl A2
      have hcx5 := (blk_cell BKx.out 5).trans rfl
      have hfx5 := blk_frozen BKx.out 5
      have hcx8 := (blk_cell BKx.out 8).trans rfl
      have hfx8 := blk_frozen BKx.out 8
      have hcx10 := (blk_cell BKx.out 10).trans rfl
      have hfx10 := blk_frozen BKx.out 10
      have hcx11 := (blk_cell BKx.out 11).trans rfl
      have hfx11 := blk_frozen BKx.out 11
      have hcx12 := (blk_cell BKx.out 12).trans rfl
      have hfx12 := blk_frozen BKx.out 12
      have hcx20 := (blk_cell BKx.out 20).trans rfl
      have hfx20 := blk_frozen BKx.out 20
      have hcx21 := (blk_cell BKx.out 21).trans rfl
      have hfx21 := blk_frozen BKx.out 21
      go_wp2
      go_meet
      case rel => exact ⟨((ae.length : Int) == 0), true, 4, au, aw, aD, az, 0, aE, ap, 0, am, 0, 0, 0, al, ao, aq, ay, aA, aC, an, (⟨#[]⟩ : ByteArray), (⟨#[]⟩ : ByteArray), ar, rfl, rfl, HRES, ⟨(blk_far (blk_far (blk_far (blk_far (blk_far (blk_far (blk_far BKm.out NBmx.out _) NBmx.out _) NBmx.out _) NBmx.out _) NBmx.out _) NBmx.out _) NBmx.out _)⟩, ⟨Pre.heap_norm (blk_set (blk_set (blk_set (blk_set (blk_set (blk_set (blk_set BKx.out 11 _) 5 _) 12 _) 20 _) 8 _) 21 _) 10 _) Z64⟩, ⟨(below_set (below_set (below_set (below_set (below_set (below_set (below_set HB.out GEx.out) GEx.out) GEx.out) GEx.out) GEx.out) GEx.out) GEx.out)⟩⟩
     ·by_cases c5 : av = 5
      ·subst c5
       have HRES : Aside0 (((msg_Bare.z 5 5 au aw aD az ax aE ap aj am ak 0 ai al ao aq ay aA aC an ac af ar && true) && true) = r) := ⟨(msg_Bare.b5 au aw ay aD az aA ax aE aC ap an aj am ak ah ai al ao ac af ae aq ar ag).symm.trans gl.out⟩
       clear gl A2
       have hcx11 := (blk_cell BKx.out 11).trans rfl
       have hfx11 := blk_frozen BKx.out 11
       go_wp2
       go_meet
       case rel => exact ⟨true, true, 5, au, aw, aD, az, ax, aE, ap, aj, am, ak, 0, ai, al, ao, aq, ay, aA, aC, an, ac, af, ar, rfl, rfl, HRES, ⟨(blk_far BKm.out NBmx.out _)⟩, ⟨Pre.heap_norm (blk_set BKx.out 11 _) Z64⟩, ⟨(below_set HB.out GEx.out)⟩⟩
      ·by_cases c6 : av = 6
       ·subst c6
        have HRES : Aside0 (((msg_Bare.z 6 6 au aw aD az ax aE ap aj am ak ah ai al ao aq ay aA aC an ac af ar && ((ae.length : Int) == 0)) && true) = r) := ⟨(msg_Bare.b6 au aw ay aD az aA ax aE aC ap an aj am ak ah ai al ao ac af ae aq ar ag).symm.trans gl.out⟩
        clear gl A2
        go_wp2
        go_meet
        case rel => exact ⟨((ae.length : Int) == 0), true, 6, au, aw, aD, az, ax, aE, ap, aj, am, ak, ah, ai, al, ao, aq, ay, aA, aC, an, ac, af, ar, rfl, rfl, HRES, BKm, BKx, HB⟩
       ·by_cases c7 : av = 7
        ·subst c7
         have HRES : Aside0 (((msg_Bare.z 7 7 au aw aD az ax aE ap aj am 0 ah ai 0 ao aq ay aA aC an ac af ar && ((ae.length : Int) == 0)) && true) = r) := ⟨(msg_Bare.b7 au aw ay aD az aA ax aE aC ap an aj am ak ah ai al ao ac af ae aq ar ag).symm.trans gl.out⟩
         clear gl A2
         have hcx10 := (blk_cell BKx.out 10).trans rfl
         have hfx10 := blk_frozen BKx.out 10
         have hcx13 := (blk_cell BKx.out 13).trans rfl
         have hfx13 := blk_frozen BKx.out 13
         go_wp2
         go_meet
         case rel => exact ⟨((ae.length : Int) == 0), true, 7, au, aw, aD, az, ax, aE, ap, aj, am, 0, ah, ai, 0, ao, aq, ay, aA, aC, an, ac, af, ar, rfl, rfl, HRES, ⟨(blk_far (blk_far BKm.out NBmx.out _) NBmx.out _)⟩, ⟨Pre.heap_norm (blk_set (blk_set BKx.out 13 _) 10 _) Z64⟩, ⟨(below_set (below_set HB.out GEx.out) GEx.out)⟩⟩
        ·by_cases c8 : av = 8
         ·subst c8
          have HRES : Aside0 (((msg_Bare.z 8 8 au aw aD az ax aE ap aj am ak ah ai 0 ao aq ay aA aC an ac af ar && ((ae.length : Int) == 0)) && true) = r) := ⟨(msg_Bare.b8 au aw ay aD az aA ax aE aC ap an aj am ak ah ai al ao ac af ae aq ar ag).symm.trans gl.out⟩
          clear gl A2
          have hcx13 := (blk_cell BKx.out 13).trans rfl
          have hfx13 := blk_frozen BKx.out 13
          go_wp2
          go_meet
          case rel => exact ⟨((ae.length : Int) == 0), true, 8, au, aw, aD, az, ax, aE, ap, aj, am, ak, ah, ai, 0, ao, aq, ay, aA, aC, an, ac, af, ar, rfl, rfl, HRES, ⟨(blk_far BKm.out NBmx.out _)⟩, ⟨Pre.heap_norm (blk_set BKx.out 13 _) Z64⟩, ⟨(below_set HB.out GEx.out)⟩⟩
         ·by_cases c9 : av = 9
          ·subst c9
           have HRES : Aside0 (((msg_Bare.z 9 9 au aw aD az ax aE ap 0 am 0 0 ai al ao aq ay aA aC an ac af ar && ((ae.length : Int) == 0)) && true) = r) := ⟨(msg_Bare.b9 au aw ay aD az aA ax aE aC ap an aj am ak ah ai al ao ac af ae aq ar ag).symm.trans gl.out⟩
           clear gl A2
           have hcx8 := (blk_cell BKx.out 8).trans rfl
           have hfx8 := blk_frozen BKx.out 8
           have hcx10 := (blk_cell BKx.out 10).trans rfl
           have hfx10 := blk_frozen BKx.out 10
           have hcx11 := (blk_cell BKx.out 11).trans rfl
           have hfx11 := blk_frozen BKx.out 11
           go_wp2
           go_meet
           case rel => exact ⟨((ae.length : Int) == 0), true, 9, au, aw, aD, az, ax, aE, ap, 0, am, 0, 0, ai, al, ao, aq, ay, aA, aC, an, ac, af, ar, rfl, rfl, HRES, ⟨(blk_far (blk_far (blk_far BKm.out NBmx.out _) NBmx.out _) NBmx.out _)⟩, ⟨Pre.heap_norm (blk_set (blk_set (blk_set BKx.out 11 _) 8 _) 10 _) Z64⟩, ⟨(below_set (below_set (below_set HB.out GEx.out) GEx.out) GEx.out)⟩⟩
          ·by_cases cX : av = 10
           ·subst cX
            have HRES : Aside0 (((msg_Bare.z 10 10 au aw aD 0 ax aE ap aj am 0 ah ai al 0 aq ay aA aC an (⟨#[]⟩ : ByteArray) af ar && ((ae.length : Int) == 0)) && true) = r) := ⟨(msg_Bare.b10 au aw ay aD az aA ax aE aC ap an aj am ak ah ai al ao ac af ae aq ar ag).symm.trans gl.out⟩
            clear gl A2
            have hcx4 := (blk_cell BKx.out 4).trans rfl
            have hfx4 := blk_frozen BKx.out 4
            have hcx10 := (blk_cell BKx.out 10).trans rfl
            have hfx10 := blk_frozen BKx.out 10
            have hcx14 := (blk_cell BKx.out 14).trans rfl
            have hfx14 := blk_frozen BKx.out 14
            have hcx20 := (blk_cell BKx.out 20).trans rfl
            have hfx20 := blk_frozen BKx.out 20
            go_wp2
            go_meet
            case rel => exact ⟨((ae.length : Int) == 0), true, 10, au, aw, aD, 0, ax, aE, ap, aj, am, 0, ah, ai, al, 0, aq, ay, aA, aC, an, (⟨#[]⟩ : ByteArray), af, ar, rfl, rfl, HRES, ⟨(blk_far (blk_far (blk_far (blk_far BKm.out NBmx.out _) NBmx.out _) NBmx.out _) NBmx.out _)⟩, ⟨Pre.heap_norm (blk_set (blk_set (blk_set (blk_set BKx.out 4 _) 14 _) 10 _) 20 _) Z64⟩, ⟨(below_set (below_set (below_set (below_set HB.out GEx.out) GEx.out) GEx.out) GEx.out)⟩⟩
           ·by_cases cU : av = 11
            ·subst cU
             have HRES : Aside0 (((msg_Bare.z 11 11 au aw aD 0 0 aE 0 0 am 0 ah ai al ao aq ay (⟨#[]⟩ : ByteArray) (⟨#[]⟩ : ByteArray) (⟨#[]⟩ : ByteArray) ac af ar && ((ae.length : Int) == 0)) && true) = r) := ⟨(msg_Bare.b11 au aw ay aD az aA ax aE aC ap an aj am ak ah ai al ao ac af ae aq ar ag).symm.trans gl.out⟩
             clear gl A2
             have hcx4 := (blk_cell BKx.out 4).trans rfl
             have hfx4 := blk_frozen BKx.out 4
             have hcx5 := (blk_cell BKx.out 5).trans rfl
             have hfx5 := blk_frozen BKx.out 5
             have hcx7 := (blk_cell BKx.out 7).trans rfl
             have hfx7 := blk_frozen BKx.out 7
             have hcx8 := (blk_cell BKx.out 8).trans rfl
             have hfx8 := blk_frozen BKx.out 8
             have hcx10 := (blk_cell BKx.out 10).trans rfl
             have hfx10 := blk_frozen BKx.out 10
             have hcx17 := (blk_cell BKx.out 17).trans rfl
             have hfx17 := blk_frozen BKx.out 17
             have hcx18 := (blk_cell BKx.out 18).trans rfl
             have hfx18 := blk_frozen BKx.out 18
             have hcx19 := (blk_cell BKx.out 19).trans rfl
             have hfx19 := blk_frozen BKx.out 19
             go_wp2
             go_meet
             case rel => exact ⟨((ae.length : Int) == 0), true, 11, au, aw, aD, 0, 0, aE, 0, 0, am, 0, ah, ai, al, ao, aq, ay, (⟨#[]⟩ : ByteArray), (⟨#[]⟩ : ByteArray), (⟨#[]⟩ : ByteArray), ac, af, ar, rfl, rfl, HRES, ⟨(blk_far (blk_far (blk_far (blk_far (blk_far (blk_far (blk_far (blk_far BKm.out NBmx.out _) NBmx.out _) NBmx.out _) NBmx.out _) NBmx.out _) NBmx.out _) NBmx.out _) NBmx.out _)⟩, ⟨Pre.heap_norm (blk_set (blk_set (blk_set (blk_set (blk_set (blk_set (blk_set (blk_set BKx.out 4 _) 17 _) 5 _) 10 _) 8 _) 7 _) 19 _) 18 _) Z64⟩, ⟨(below_set (below_set (below_set (below_set (below_set (below_set (below_set (below_set HB.out GEx.out) GEx.out) GEx.out) GEx.out) GEx.out) GEx.out) GEx.out) GEx.out)⟩⟩
            ·by_cases hf : av = 12
             ·subst hf
              have HRES : Aside0 (((msg_Bare.z 12 12 au aw aD 0 0 aE ap aj am ak ah ai al ao aq ay (⟨#[]⟩ : ByteArray) aC an ac af ar && ((ae.length : Int) == 0)) && true) = r) := ⟨(msg_Bare.b12 au aw ay aD az aA ax aE aC ap an aj am ak ah ai al ao ac af ae aq ar ag).symm.trans gl.out⟩
              clear gl A2
              have hcx4 := (blk_cell BKx.out 4).trans rfl
              have hfx4 := blk_frozen BKx.out 4
              have hcx5 := (blk_cell BKx.out 5).trans rfl
              have hfx5 := blk_frozen BKx.out 5
              have hcx17 := (blk_cell BKx.out 17).trans rfl
              have hfx17 := blk_frozen BKx.out 17
              go_wp2
              go_meet
              case rel => exact ⟨((ae.length : Int) == 0), true, 12, au, aw, aD, 0, 0, aE, ap, aj, am, ak, ah, ai, al, ao, aq, ay, (⟨#[]⟩ : ByteArray), aC, an, ac, af, ar, rfl, rfl, HRES, ⟨(blk_far (blk_far (blk_far BKm.out NBmx.out _) NBmx.out _) NBmx.out _)⟩, ⟨Pre.heap_norm (blk_set (blk_set (blk_set BKx.out 4 _) 17 _) 5 _) Z64⟩, ⟨(below_set (below_set (below_set HB.out GEx.out) GEx.out) GEx.out)⟩⟩
             ·by_cases dB : av = 13
              ·subst dB
               have HRES : Aside0 (((msg_Bare.z 13 13 au aw aD 0 0 aE ap 0 am ak ah 0 al ao aq ay (⟨#[]⟩ : ByteArray) aC (⟨#[]⟩ : ByteArray) ac af ar && ((ae.length : Int) == 0)) && true) = r) := ⟨(msg_Bare.b13 au aw ay aD az aA ax aE aC ap an aj am ak ah ai al ao ac af ae aq ar ag).symm.trans gl.out⟩
               clear gl A2
               have hcx4 := (blk_cell BKx.out 4).trans rfl
               have hfx4 := blk_frozen BKx.out 4
               have hcx5 := (blk_cell BKx.out 5).trans rfl
               have hfx5 := blk_frozen BKx.out 5
               have hcx8 := (blk_cell BKx.out 8).trans rfl
               have hfx8 := blk_frozen BKx.out 8
               have hcx12 := (blk_cell BKx.out 12).trans rfl
               have hfx12 := blk_frozen BKx.out 12
               have hcx17 := (blk_cell BKx.out 17).trans rfl
               have hfx17 := blk_frozen BKx.out 17
               have hcx19 := (blk_cell BKx.out 19).trans rfl
               have hfx19 := blk_frozen BKx.out 19
               go_wp2
               go_meet
               case rel => exact ⟨((ae.length : Int) == 0), true, 13, au, aw, aD, 0, 0, aE, ap, 0, am, ak, ah, 0, al, ao, aq, ay, (⟨#[]⟩ : ByteArray), aC, (⟨#[]⟩ : ByteArray), ac, af, ar, rfl, rfl, HRES, ⟨(blk_far (blk_far (blk_far (blk_far (blk_far (blk_far BKm.out NBmx.out _) NBmx.out _) NBmx.out _) NBmx.out _) NBmx.out _) NBmx.out _)⟩, ⟨Pre.heap_norm (blk_set (blk_set (blk_set (blk_set (blk_set (blk_set BKx.out 4 _) 17 _) 5 _) 8 _) 12 _) 19 _) Z64⟩, ⟨(below_set (below_set (below_set (below_set (below_set (below_set HB.out GEx.out) GEx.out) GEx.out) GEx.out) GEx.out) GEx.out)⟩⟩
              ·by_cases gW : av = 14
               ·subst gW
                have HRES : Aside0 (((msg_Bare.z 14 14 au aw aD az ax aE ap aj am ak ah ai al ao 0 ay aA aC an ac af (⟨#[]⟩ : ByteArray) && ((ae.length : Int) == 0)) && ((ag.length : Int) == 0)) = r) := ⟨(msg_Bare.b14 au aw ay aD az aA ax aE aC ap an aj am ak ah ai al ao ac af ae aq ar ag).symm.trans gl.out⟩
                clear gl A2
                have hcx15 := (blk_cell BKx.out 15).trans rfl
                have hfx15 := blk_frozen BKx.out 15
                have hcx22 := (blk_cell BKx.out 22).trans rfl
                have hfx22 := blk_frozen BKx.out 22
                have hcm24 := (blk_cell BKm.out 24).trans rfl
                go_wp2
                go_meet
                case rel => exact ⟨((ae.length : Int) == 0), ((ag.length : Int) == 0), 14, au, aw, aD, az, ax, aE, ap, aj, am, ak, ah, ai, al, ao, 0, ay, aA, aC, an, ac, af, (⟨#[]⟩ : ByteArray), rfl, rfl, HRES, ⟨(blk_far (blk_far BKm.out NBmx.out _) NBmx.out _)⟩, ⟨Pre.heap_norm (blk_set (blk_set BKx.out 15 _) 22 _) Z64⟩, ⟨(below_set (below_set HB.out GEx.out) GEx.out)⟩⟩
               ·obtain rfl : r = false := gl.out.symm.trans (msg_Bare.bno av au aw ay aD az aA ax aE aC ap an aj am ak ah ai al ao ac af ae aq ar ag Z55)
                have d1 : (av == 1) = false := beq_eq_false_iff_ne.mpr c1
                have d2 : (av == 2) = false := beq_eq_false_iff_ne.mpr c2
                have d3 : (av == 3) = false := beq_eq_false_iff_ne.mpr c3
                have d4 : (av == 4) = false := beq_eq_false_iff_ne.mpr c4
                have d5 : (av == 5) = false := beq_eq_false_iff_ne.mpr c5
                have d6 : (av == 6) = false := beq_eq_false_iff_ne.mpr c6
                have d7 : (av == 7) = false := beq_eq_false_iff_ne.mpr c7
                have d8 : (av == 8) = false := beq_eq_false_iff_ne.mpr c8
                have d9 : (av == 9) = false := beq_eq_false_iff_ne.mpr c9
                have d10 : (av == 10) = false := beq_eq_false_iff_ne.mpr cX
                have d11 : (av == 11) = false := beq_eq_false_iff_ne.mpr cU
                have d12 : (av == 12) = false := beq_eq_false_iff_ne.mpr hf
                have d13 : (av == 13) = false := beq_eq_false_iff_ne.mpr dB
                have d14 : (av == 14) = false := beq_eq_false_iff_ne.mpr gW
                clear c1 c2 c3 c4 c5 c6 c7 c8 c9 cX cU hf dB gW gl
                go_wp2
                go_ret
                exact ⟨rfl, Z84⟩
 case rest =>
  clear hcm0 hcm21 gl A2 BKm BKx HB
  obtain ⟨b4, b5, p0, p1, p2, p3, p4, p5, p6, p7, p8, p9, p10, p11, p12, p13, p14, p15, p16, p17, p18, p19, p20, p21, p22, rfl, rfl, HRES, BKm, BKx, HB⟩ := hcut
  have hcm0 := (blk_cell BKm.out 0).trans rfl
  have hE := fun (d : Nat) (w : World) => msg_Bare.eqz d w av p0 p1 p2 p3 p4 p5 p6 p7 p8 p9 p10 p11 p12 p13 p14 p15 p16 p17 p18 p19 p20 p21 p22
  generalize msg_Bare.z av p0 p1 p2 p3 p4 p5 p6 p7 p8 p9 p10 p11 p12 p13 p14 p15 p16 p17 p18 p19 p20 p21 p22 = bz at HRES hE
  cases bz <;> cases b4 <;> cases b5
  all_goals
   obtain rfl := HRES.out
   clear HRES
   go_wp2_with (first | ((with_reducible refine Pre.gate_load 71 rfl ?_); refine Pre.load_event rfl rfl rfl Z13 Z100 Try.underlying71 rfl Z6 ?_) | ((with_reducible refine gate_dst (N := 108) rfl ?_); refine Pre.build_event 108 71 [(0, .tmp 107)] rfl rfl rfl (msg_Bare.bd _) ?_))
   go_ret
   exact ⟨rfl, Z84⟩

end Go.Proofs.Ytccjakjjaemmkaa.PR
