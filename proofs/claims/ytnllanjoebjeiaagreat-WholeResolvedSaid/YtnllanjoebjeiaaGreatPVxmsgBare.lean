-- Written by mp.py, a program of this work (wip/tools), out of the translation; Lean checks it.
import Derived.Test.YtnllanjoebjeiaaGreatPVxZ
import Derived.Test.YtnllanjoebjeiaaGreatPVxmsg
import Derived.Test.YtnllanjoebjeiaaGreatStore
namespace Go.Proofs.YtnllanjoebjeiaaGreat.PV
open Go.RowKit Go.Proofs.YtnllanjoebjeiaaGreatW.PrintWords Go.Proofs.YtnllanjoebjeiaaGreatW.PrintLast Go.Proofs.YtnllanjoebjeiaaGreatW.PrintMore
attribute [local go_sem] max2_int min2_int max_two min_two max_three min_three max_four min_four   -- for this text's walks alone
set_option linter.unusedVariables false
set_option linter.unusedSimpArgs false

/-! ### msg_Bare: function 65 -/
def msg_Bare.z (k : Int) (p0 : Int) (p1 : Int) (p2 : Int) (p3 : Int) (p4 : Int) (p5 : Int) (p6 : Int) (p7 : Int) (p8 : Int) (p9 : Int) (p10 : Int) (p11 : Int) (p12 : Int) (p13 : Int) (p14 : Int) (p15 : Int) (p16 : ByteArray) (p17 : ByteArray) (p18 : ByteArray) (p19 : ByteArray) (p20 : ByteArray) (p21 : ByteArray) (p22 : ByteArray) : Bool := (p0 == k && (p1 == 0 && (p2 == 0 && (p3 == 0 && (p4 == 0 && (p5 == 0 && (p6 == 0 && (p7 == 0 && (p8 == 0 && (p9 == 0 && (p10 == 0 && (p11 == 0 && (p12 == 0 && (p13 == 0 && (p14 == 0 && (p15 == 0 && (p16.toList == (⟨#[]⟩ : ByteArray).toList && (p17.toList == (⟨#[]⟩ : ByteArray).toList && (p18.toList == (⟨#[]⟩ : ByteArray).toList && (p19.toList == (⟨#[]⟩ : ByteArray).toList && (p20.toList == (⟨#[]⟩ : ByteArray).toList && (p21.toList == (⟨#[]⟩ : ByteArray).toList && (p22.toList == (⟨#[]⟩ : ByteArray).toList)))))))))))))))))))))))
def msg_Bare.b (ar : Int) (aC : Int) (az : Int) (ay : ByteArray) (aA : Int) (au : Int) (aw : ByteArray) (av : Int) (aD : Int) (ax : ByteArray) (am : Int) (ag : ByteArray) (ac : Int) (aq : Int) (ab : Int) (ao : Int) (ak : Int) (ai : Int) (ae : Int) (ah : ByteArray) (ap : ByteArray) (aa : List S78) (aj : Int) (al : ByteArray) (af : List S80) : Bool := if ar = 1 then (msg_Bare.z 1 1 0 0 0 au 0 0 0 ac aq ab ao ak ai ae aj (⟨#[]⟩ : ByteArray) (⟨#[]⟩ : ByteArray) (⟨#[]⟩ : ByteArray) ag ah ap al && ((aa.length : Int) == 0)) && ((af.length : Int) == 0) else if ar = 2 then (msg_Bare.z 2 2 0 az aA au 0 0 0 ac aq ab ao ak ai ae aj ay (⟨#[]⟩ : ByteArray) (⟨#[]⟩ : ByteArray) ag ah ap al && ((aa.length : Int) == 0)) && ((af.length : Int) == 0) else if ar = 3 then (msg_Bare.z 3 3 aC az aA au av aD am 0 0 ab 0 0 0 ae aj ay aw ax ag (⟨#[]⟩ : ByteArray) (⟨#[]⟩ : ByteArray) al && ((aa.length : Int) == 0)) && true else if ar = 4 then (msg_Bare.z 4 4 aC az aA au 0 aD am 0 aq 0 0 0 ai ae aj ay aw ax ag (⟨#[]⟩ : ByteArray) (⟨#[]⟩ : ByteArray) al && ((aa.length : Int) == 0)) && true else if ar = 5 then (msg_Bare.z 5 5 aC az aA au av aD am ac aq ab 0 ak ai ae aj ay aw ax ag ah ap al && true) && true else if ar = 6 then (msg_Bare.z 6 6 aC az aA au av aD am ac aq ab ao ak ai ae aj ay aw ax ag ah ap al && ((aa.length : Int) == 0)) && true else if ar = 7 then (msg_Bare.z 7 7 aC az aA au av aD am ac aq 0 ao ak 0 ae aj ay aw ax ag ah ap al && ((aa.length : Int) == 0)) && true else if ar = 8 then (msg_Bare.z 8 8 aC az aA au av aD am ac aq ab ao ak 0 ae aj ay aw ax ag ah ap al && ((aa.length : Int) == 0)) && true else if ar = 9 then (msg_Bare.z 9 9 aC az aA au av aD am 0 aq 0 0 ak ai ae aj ay aw ax ag ah ap al && ((aa.length : Int) == 0)) && true else if ar = 10 then (msg_Bare.z 10 10 aC az aA 0 av aD am ac aq 0 ao ak ai 0 aj ay aw ax ag (⟨#[]⟩ : ByteArray) ap al && ((aa.length : Int) == 0)) && true else if ar = 11 then (msg_Bare.z 11 11 aC az aA 0 0 aD 0 0 aq 0 ao ak ai ae aj ay (⟨#[]⟩ : ByteArray) (⟨#[]⟩ : ByteArray) (⟨#[]⟩ : ByteArray) ah ap al && ((aa.length : Int) == 0)) && true else if ar = 12 then (msg_Bare.z 12 12 aC az aA 0 0 aD am ac aq ab ao ak ai ae aj ay (⟨#[]⟩ : ByteArray) ax ag ah ap al && ((aa.length : Int) == 0)) && true else if ar = 13 then (msg_Bare.z 13 13 aC az aA 0 0 aD am 0 aq ab ao 0 ai ae aj ay (⟨#[]⟩ : ByteArray) ax (⟨#[]⟩ : ByteArray) ah ap al && ((aa.length : Int) == 0)) && true else if ar = 14 then (msg_Bare.z 14 14 aC az aA au av aD am ac aq ab ao ak ai ae 0 ay aw ax ag ah ap (⟨#[]⟩ : ByteArray) && ((aa.length : Int) == 0)) && ((af.length : Int) == 0) else false
def msg_Bare.f (ar : Int) (aC : Int) (az : Int) (ay : ByteArray) (aA : Int) (au : Int) (aw : ByteArray) (av : Int) (aD : Int) (ax : ByteArray) (am : Int) (ag : ByteArray) (ac : Int) (aq : Int) (ab : Int) (ao : Int) (ak : Int) (ai : Int) (ae : Int) (ah : ByteArray) (ap : ByteArray) (aa : List S78) (aj : Int) (al : ByteArray) (af : List S80) : Option Bool := some (msg_Bare.b ar aC az ay aA au aw av aD ax am ag ac aq ab ao ak ai ae ah ap aa aj al af)
theorem msg_Bare.b1 (aC : Int) (az : Int) (ay : ByteArray) (aA : Int) (au : Int) (aw : ByteArray) (av : Int) (aD : Int) (ax : ByteArray) (am : Int) (ag : ByteArray) (ac : Int) (aq : Int) (ab : Int) (ao : Int) (ak : Int) (ai : Int) (ae : Int) (ah : ByteArray) (ap : ByteArray) (aa : List S78) (aj : Int) (al : ByteArray) (af : List S80) : msg_Bare.b 1 aC az ay aA au aw av aD ax am ag ac aq ab ao ak ai ae ah ap aa aj al af = ((msg_Bare.z 1 1 0 0 0 au 0 0 0 ac aq ab ao ak ai ae aj (⟨#[]⟩ : ByteArray) (⟨#[]⟩ : ByteArray) (⟨#[]⟩ : ByteArray) ag ah ap al && ((aa.length : Int) == 0)) && ((af.length : Int) == 0)) := by
 unfold msg_Bare.b
 simp (config := {decide := true}) only [if_true, if_false]
theorem msg_Bare.b2 (aC : Int) (az : Int) (ay : ByteArray) (aA : Int) (au : Int) (aw : ByteArray) (av : Int) (aD : Int) (ax : ByteArray) (am : Int) (ag : ByteArray) (ac : Int) (aq : Int) (ab : Int) (ao : Int) (ak : Int) (ai : Int) (ae : Int) (ah : ByteArray) (ap : ByteArray) (aa : List S78) (aj : Int) (al : ByteArray) (af : List S80) : msg_Bare.b 2 aC az ay aA au aw av aD ax am ag ac aq ab ao ak ai ae ah ap aa aj al af = ((msg_Bare.z 2 2 0 az aA au 0 0 0 ac aq ab ao ak ai ae aj ay (⟨#[]⟩ : ByteArray) (⟨#[]⟩ : ByteArray) ag ah ap al && ((aa.length : Int) == 0)) && ((af.length : Int) == 0)) := by
 unfold msg_Bare.b
 simp (config := {decide := true}) only [if_true, if_false]
theorem msg_Bare.b3 (aC : Int) (az : Int) (ay : ByteArray) (aA : Int) (au : Int) (aw : ByteArray) (av : Int) (aD : Int) (ax : ByteArray) (am : Int) (ag : ByteArray) (ac : Int) (aq : Int) (ab : Int) (ao : Int) (ak : Int) (ai : Int) (ae : Int) (ah : ByteArray) (ap : ByteArray) (aa : List S78) (aj : Int) (al : ByteArray) (af : List S80) : msg_Bare.b 3 aC az ay aA au aw av aD ax am ag ac aq ab ao ak ai ae ah ap aa aj al af = ((msg_Bare.z 3 3 aC az aA au av aD am 0 0 ab 0 0 0 ae aj ay aw ax ag (⟨#[]⟩ : ByteArray) (⟨#[]⟩ : ByteArray) al && ((aa.length : Int) == 0)) && true) := by
 unfold msg_Bare.b
 simp (config := {decide := true}) only [if_true, if_false]
theorem msg_Bare.b4 (aC : Int) (az : Int) (ay : ByteArray) (aA : Int) (au : Int) (aw : ByteArray) (av : Int) (aD : Int) (ax : ByteArray) (am : Int) (ag : ByteArray) (ac : Int) (aq : Int) (ab : Int) (ao : Int) (ak : Int) (ai : Int) (ae : Int) (ah : ByteArray) (ap : ByteArray) (aa : List S78) (aj : Int) (al : ByteArray) (af : List S80) : msg_Bare.b 4 aC az ay aA au aw av aD ax am ag ac aq ab ao ak ai ae ah ap aa aj al af = ((msg_Bare.z 4 4 aC az aA au 0 aD am 0 aq 0 0 0 ai ae aj ay aw ax ag (⟨#[]⟩ : ByteArray) (⟨#[]⟩ : ByteArray) al && ((aa.length : Int) == 0)) && true) := by
 unfold msg_Bare.b
 simp (config := {decide := true}) only [if_true, if_false]
theorem msg_Bare.b5 (aC : Int) (az : Int) (ay : ByteArray) (aA : Int) (au : Int) (aw : ByteArray) (av : Int) (aD : Int) (ax : ByteArray) (am : Int) (ag : ByteArray) (ac : Int) (aq : Int) (ab : Int) (ao : Int) (ak : Int) (ai : Int) (ae : Int) (ah : ByteArray) (ap : ByteArray) (aa : List S78) (aj : Int) (al : ByteArray) (af : List S80) : msg_Bare.b 5 aC az ay aA au aw av aD ax am ag ac aq ab ao ak ai ae ah ap aa aj al af = ((msg_Bare.z 5 5 aC az aA au av aD am ac aq ab 0 ak ai ae aj ay aw ax ag ah ap al && true) && true) := by
 unfold msg_Bare.b
 simp (config := {decide := true}) only [if_true, if_false]
theorem msg_Bare.b6 (aC : Int) (az : Int) (ay : ByteArray) (aA : Int) (au : Int) (aw : ByteArray) (av : Int) (aD : Int) (ax : ByteArray) (am : Int) (ag : ByteArray) (ac : Int) (aq : Int) (ab : Int) (ao : Int) (ak : Int) (ai : Int) (ae : Int) (ah : ByteArray) (ap : ByteArray) (aa : List S78) (aj : Int) (al : ByteArray) (af : List S80) : msg_Bare.b 6 aC az ay aA au aw av aD ax am ag ac aq ab ao ak ai ae ah ap aa aj al af = ((msg_Bare.z 6 6 aC az aA au av aD am ac aq ab ao ak ai ae aj ay aw ax ag ah ap al && ((aa.length : Int) == 0)) && true) := by
 unfold msg_Bare.b
 simp (config := {decide := true}) only [if_true, if_false]
theorem msg_Bare.b7 (aC : Int) (az : Int) (ay : ByteArray) (aA : Int) (au : Int) (aw : ByteArray) (av : Int) (aD : Int) (ax : ByteArray) (am : Int) (ag : ByteArray) (ac : Int) (aq : Int) (ab : Int) (ao : Int) (ak : Int) (ai : Int) (ae : Int) (ah : ByteArray) (ap : ByteArray) (aa : List S78) (aj : Int) (al : ByteArray) (af : List S80) : msg_Bare.b 7 aC az ay aA au aw av aD ax am ag ac aq ab ao ak ai ae ah ap aa aj al af = ((msg_Bare.z 7 7 aC az aA au av aD am ac aq 0 ao ak 0 ae aj ay aw ax ag ah ap al && ((aa.length : Int) == 0)) && true) := by
 unfold msg_Bare.b
 simp (config := {decide := true}) only [if_true, if_false]
theorem msg_Bare.b8 (aC : Int) (az : Int) (ay : ByteArray) (aA : Int) (au : Int) (aw : ByteArray) (av : Int) (aD : Int) (ax : ByteArray) (am : Int) (ag : ByteArray) (ac : Int) (aq : Int) (ab : Int) (ao : Int) (ak : Int) (ai : Int) (ae : Int) (ah : ByteArray) (ap : ByteArray) (aa : List S78) (aj : Int) (al : ByteArray) (af : List S80) : msg_Bare.b 8 aC az ay aA au aw av aD ax am ag ac aq ab ao ak ai ae ah ap aa aj al af = ((msg_Bare.z 8 8 aC az aA au av aD am ac aq ab ao ak 0 ae aj ay aw ax ag ah ap al && ((aa.length : Int) == 0)) && true) := by
 unfold msg_Bare.b
 simp (config := {decide := true}) only [if_true, if_false]
theorem msg_Bare.b9 (aC : Int) (az : Int) (ay : ByteArray) (aA : Int) (au : Int) (aw : ByteArray) (av : Int) (aD : Int) (ax : ByteArray) (am : Int) (ag : ByteArray) (ac : Int) (aq : Int) (ab : Int) (ao : Int) (ak : Int) (ai : Int) (ae : Int) (ah : ByteArray) (ap : ByteArray) (aa : List S78) (aj : Int) (al : ByteArray) (af : List S80) : msg_Bare.b 9 aC az ay aA au aw av aD ax am ag ac aq ab ao ak ai ae ah ap aa aj al af = ((msg_Bare.z 9 9 aC az aA au av aD am 0 aq 0 0 ak ai ae aj ay aw ax ag ah ap al && ((aa.length : Int) == 0)) && true) := by
 unfold msg_Bare.b
 simp (config := {decide := true}) only [if_true, if_false]
theorem msg_Bare.b10 (aC : Int) (az : Int) (ay : ByteArray) (aA : Int) (au : Int) (aw : ByteArray) (av : Int) (aD : Int) (ax : ByteArray) (am : Int) (ag : ByteArray) (ac : Int) (aq : Int) (ab : Int) (ao : Int) (ak : Int) (ai : Int) (ae : Int) (ah : ByteArray) (ap : ByteArray) (aa : List S78) (aj : Int) (al : ByteArray) (af : List S80) : msg_Bare.b 10 aC az ay aA au aw av aD ax am ag ac aq ab ao ak ai ae ah ap aa aj al af = ((msg_Bare.z 10 10 aC az aA 0 av aD am ac aq 0 ao ak ai 0 aj ay aw ax ag (⟨#[]⟩ : ByteArray) ap al && ((aa.length : Int) == 0)) && true) := by
 unfold msg_Bare.b
 simp (config := {decide := true}) only [if_true, if_false]
theorem msg_Bare.b11 (aC : Int) (az : Int) (ay : ByteArray) (aA : Int) (au : Int) (aw : ByteArray) (av : Int) (aD : Int) (ax : ByteArray) (am : Int) (ag : ByteArray) (ac : Int) (aq : Int) (ab : Int) (ao : Int) (ak : Int) (ai : Int) (ae : Int) (ah : ByteArray) (ap : ByteArray) (aa : List S78) (aj : Int) (al : ByteArray) (af : List S80) : msg_Bare.b 11 aC az ay aA au aw av aD ax am ag ac aq ab ao ak ai ae ah ap aa aj al af = ((msg_Bare.z 11 11 aC az aA 0 0 aD 0 0 aq 0 ao ak ai ae aj ay (⟨#[]⟩ : ByteArray) (⟨#[]⟩ : ByteArray) (⟨#[]⟩ : ByteArray) ah ap al && ((aa.length : Int) == 0)) && true) := by
 unfold msg_Bare.b
 simp (config := {decide := true}) only [if_true, if_false]
theorem msg_Bare.b12 (aC : Int) (az : Int) (ay : ByteArray) (aA : Int) (au : Int) (aw : ByteArray) (av : Int) (aD : Int) (ax : ByteArray) (am : Int) (ag : ByteArray) (ac : Int) (aq : Int) (ab : Int) (ao : Int) (ak : Int) (ai : Int) (ae : Int) (ah : ByteArray) (ap : ByteArray) (aa : List S78) (aj : Int) (al : ByteArray) (af : List S80) : msg_Bare.b 12 aC az ay aA au aw av aD ax am ag ac aq ab ao ak ai ae ah ap aa aj al af = ((msg_Bare.z 12 12 aC az aA 0 0 aD am ac aq ab ao ak ai ae aj ay (⟨#[]⟩ : ByteArray) ax ag ah ap al && ((aa.length : Int) == 0)) && true) := by
 unfold msg_Bare.b
 simp (config := {decide := true}) only [if_true, if_false]
theorem msg_Bare.b13 (aC : Int) (az : Int) (ay : ByteArray) (aA : Int) (au : Int) (aw : ByteArray) (av : Int) (aD : Int) (ax : ByteArray) (am : Int) (ag : ByteArray) (ac : Int) (aq : Int) (ab : Int) (ao : Int) (ak : Int) (ai : Int) (ae : Int) (ah : ByteArray) (ap : ByteArray) (aa : List S78) (aj : Int) (al : ByteArray) (af : List S80) : msg_Bare.b 13 aC az ay aA au aw av aD ax am ag ac aq ab ao ak ai ae ah ap aa aj al af = ((msg_Bare.z 13 13 aC az aA 0 0 aD am 0 aq ab ao 0 ai ae aj ay (⟨#[]⟩ : ByteArray) ax (⟨#[]⟩ : ByteArray) ah ap al && ((aa.length : Int) == 0)) && true) := by
 unfold msg_Bare.b
 simp (config := {decide := true}) only [if_true, if_false]
theorem msg_Bare.b14 (aC : Int) (az : Int) (ay : ByteArray) (aA : Int) (au : Int) (aw : ByteArray) (av : Int) (aD : Int) (ax : ByteArray) (am : Int) (ag : ByteArray) (ac : Int) (aq : Int) (ab : Int) (ao : Int) (ak : Int) (ai : Int) (ae : Int) (ah : ByteArray) (ap : ByteArray) (aa : List S78) (aj : Int) (al : ByteArray) (af : List S80) : msg_Bare.b 14 aC az ay aA au aw av aD ax am ag ac aq ab ao ak ai ae ah ap aa aj al af = ((msg_Bare.z 14 14 aC az aA au av aD am ac aq ab ao ak ai ae 0 ay aw ax ag ah ap (⟨#[]⟩ : ByteArray) && ((aa.length : Int) == 0)) && ((af.length : Int) == 0)) := by
 unfold msg_Bare.b
 simp (config := {decide := true}) only [if_true, if_false]
theorem msg_Bare.bno (ar : Int) (aC : Int) (az : Int) (ay : ByteArray) (aA : Int) (au : Int) (aw : ByteArray) (av : Int) (aD : Int) (ax : ByteArray) (am : Int) (ag : ByteArray) (ac : Int) (aq : Int) (ab : Int) (ao : Int) (ak : Int) (ai : Int) (ae : Int) (ah : ByteArray) (ap : ByteArray) (aa : List S78) (aj : Int) (al : ByteArray) (af : List S80) (h : ¬ (1 ≤ ar ∧ ar ≤ 14)) : msg_Bare.b ar aC az ay aA au aw av aD ax am ag ac aq ab ao ak ai ae ah ap aa aj al af = false := by
 unfold msg_Bare.b
 rw [if_neg Z23]
 rw [if_neg Z23]
 rw [if_neg Z23]
 rw [if_neg Z23]
 rw [if_neg Z23]
 rw [if_neg Z23]
 rw [if_neg Z23]
 rw [if_neg Z23]
 rw [if_neg Z23]
 rw [if_neg Z23]
 rw [if_neg Z23]
 rw [if_neg Z23]
 rw [if_neg Z23]
 rw [if_neg Z23]
theorem msg_Bare.eqz (d : Nat) (w : World) (k : Int) (p0 : Int) (p1 : Int) (p2 : Int) (p3 : Int) (p4 : Int) (p5 : Int) (p6 : Int) (p7 : Int) (p8 : Int) (p9 : Int) (p10 : Int) (p11 : Int) (p12 : Int) (p13 : Int) (p14 : Int) (p15 : Int) (p16 : ByteArray) (p17 : ByteArray) (p18 : ByteArray) (p19 : ByteArray) (p20 : ByteArray) (p21 : ByteArray) (p22 : ByteArray) :
  (Op.equalIn (d + 2) 140 (.agg #[.int .i64 p0, .int .i64 p1, .int .i64 p2, .int .i64 p3, .int .i64 p4, .int .i64 p5, .int .i64 p6, .int .i64 p7, .int .i64 p8, .int .i64 p9, .int .i64 p10, .int .i64 p11, .int .i64 p12, .int .i64 p13, .int .i64 p14, .int .i64 p15, .string p16, .string p17, .string p18, .string p19, .string p20, .string p21, .string p22]) (.agg #[.int .i64 k, .int .i64 0, .int .i64 0, .int .i64 0, .int .i64 0, .int .i64 0, .int .i64 0, .int .i64 0, .int .i64 0, .int .i64 0, .int .i64 0, .int .i64 0, .int .i64 0, .int .i64 0, .int .i64 0, .int .i64 0, .string ⟨#[]⟩, .string ⟨#[]⟩, .string ⟨#[]⟩, .string ⟨#[]⟩, .string ⟨#[]⟩, .string ⟨#[]⟩, .string ⟨#[]⟩])).run Tryz.prog w = .ok (msg_Bare.z k p0 p1 p2 p3 p4 p5 p6 p7 p8 p9 p10 p11 p12 p13 p14 p15 p16 p17 p18 p19 p20 p21 p22) w := by
 unfold msg_Bare.z
 refine eqA_of Tryz.underlying140 Z12 ?_
 refine eqf_cons Z16 Z18 Z18 Z39 ?_
 refine eqf_cons Z16 Z18 Z18 Z39 ?_
 refine eqf_cons Z16 Z18 Z18 Z39 ?_
 refine eqf_cons Z16 Z18 Z18 Z39 ?_
 refine eqf_cons Z16 Z18 Z18 Z39 ?_
 refine eqf_cons Z16 Z18 Z18 Z39 ?_
 refine eqf_cons Z16 Z18 Z18 Z39 ?_
 refine eqf_cons Z16 Z18 Z18 Z39 ?_
 refine eqf_cons Z16 Z18 Z18 Z39 ?_
 refine eqf_cons Z16 Z18 Z18 Z39 ?_
 refine eqf_cons Z16 Z18 Z18 Z39 ?_
 refine eqf_cons Z16 Z18 Z18 Z39 ?_
 refine eqf_cons Z16 Z18 Z18 Z39 ?_
 refine eqf_cons Z16 Z18 Z18 Z39 ?_
 refine eqf_cons Z16 Z18 Z18 Z39 ?_
 refine eqf_cons Z16 Z18 Z18 Z39 ?_
 refine eqf_cons Z16 Z18 Z18 Z39 ?_
 refine eqf_cons Z16 Z18 Z18 Z39 ?_
 refine eqf_cons Z16 Z18 Z18 Z39 ?_
 refine eqf_cons Z16 Z18 Z18 Z39 ?_
 refine eqf_cons Z16 Z18 Z18 Z39 ?_
 refine eqf_cons Z16 Z18 Z18 Z39 ?_
 exact eqf_last Z16 Z18 Z18 Z39
set_option maxRecDepth 100000 in
theorem msg_Bare.bd (v : Int) : Tryz.prog.built 140 [(0, .int .i64 v)] = some #[.int .i64 v, .int .i64 0, .int .i64 0, .int .i64 0, .int .i64 0, .int .i64 0, .int .i64 0, .int .i64 0, .int .i64 0, .int .i64 0, .int .i64 0, .int .i64 0, .int .i64 0, .int .i64 0, .int .i64 0, .int .i64 0, .string ⟨#[]⟩, .string ⟨#[]⟩, .string ⟨#[]⟩, .string ⟨#[]⟩, .string ⟨#[]⟩, .string ⟨#[]⟩, .string ⟨#[]⟩] := by kernel_rfl
set_option maxHeartbeats 8000000 in
set_option maxRecDepth 100000 in
theorem msg_Bare.calls (ar : Int) (aC : Int) (az : Int) (ay : ByteArray) (aA : Int) (au : Int) (aw : ByteArray) (av : Int) (aD : Int) (ax : ByteArray) (am : Int) (ag : ByteArray) (ac : Int) (aq : Int) (ab : Int) (ao : Int) (ak : Int) (ai : Int) (ae : Int) (ah : ByteArray) (ap : ByteArray) (aJ : Option Addr) (aK : Nat) (aa : List S78) (aj : Int) (al : ByteArray) (aH : Option Addr) (aI : Nat) (af : List S80) (r : Bool) (w : World) (bD : Kd.C k78 w aJ aa.length aa) (bE : aa.length ≤ aK) (bF : Kd.C k80 w aH af.length af) (bG : af.length ≤ aI) (h : msg_Bare.f ar aC az ay aA au aw av aD ax am ag ac aq ab ao ak ai ae ah ap aa aj al af = some r) :
  Calls Tryz.prog 65 #[.agg #[.int .i64 ar, .int .i64 aC, .int .i64 az, .string ay, .int .i64 aA, .int .i64 au, .string aw, .int .i64 av, .int .i64 aD, .string ax, .int .i64 am, .string ag, .int .i64 ac, .int .i64 aq, .int .i64 ab, .int .i64 ao, .int .i64 ak, .int .i64 ai, .int .i64 ae, .string ah, .string ap, .slice aJ aa.length aK, .int .i64 aj, .string al, .slice aH af.length aI]] w fun e w' => e = .returned (.bool r) ∧ Below w.heap.size w w' := by
 have hu25 := Tryz.underlying32
 have hu71 := Tryz.underlying140
 have bY := Aside0.mk bD
 have bH := Aside0.mk bE
 clear bD bE
 have bZ := Aside0.mk bF
 have aT := Aside0.mk bG
 clear bF bG
 have HB := Aside0.mk (Below.refl w.heap.size w)
 have cI := Aside0.mk (Option.some.inj h)
 clear h
 have A2 : Aside0 (msg_strip.f ar aC az ay aA au aw av aD ax am ag ac aq ab ao ak ai ae ah ap aa aj al af = some (ar, aC, az, aA, au, av, aD, am, ac, aq, ab, ao, ak, ai, ae, aj, ay, aw, ax, ag, ah, ap, al)) := ⟨rfl⟩
 go_enter Tryz.func65, Tryz.ntmps65
 go_upto_block 0 with (first | ((with_reducible refine Pre.gate_store 140 rfl ?_); refine Pre.store_abs rfl rfl rfl Z16 Z16 (by (with_reducible repeat (first | refine blk_drewN ?_ _ | refine blk_drew ?_ | refine blk_alloc ?_ _)); exact BKx.out) Z12 Z16 Z16 ?_; intro wS hbS sS; have bL := Aside0.mk (sS.blk Z30 NBmx.out); have bM := Aside0.mk (sS.below Z25 GEx.out); have cf := Aside0.mk hbS; clear BKm HB BKx hbS sS; have BKm := bL; have HB := bM; have BKx := cf; clear bL bM cf; have hcm21 := (blk_cell BKm.out 21).trans rfl; have hcm0 := (blk_cell BKm.out 0).trans rfl) | ((with_reducible refine Pre.gate_load 32 rfl ?_); refine Pre.load_event rfl rfl rfl Z16 Z29 Tryz.underlying32 rfl Z12 ?_) | ((with_reducible refine gate_dst (N := 1) rfl ?_); refine Sq.box 1 #[.int .i64 ar, .int .i64 aC, .int .i64 az, .string ay, .int .i64 aA, .int .i64 au, .string aw, .int .i64 av, .int .i64 aD, .string ax, .int .i64 am, .string ag, .int .i64 ac, .int .i64 aq, .int .i64 ab, .int .i64 ao, .int .i64 ak, .int .i64 ai, .int .i64 ae, .string ah, .string ap, .slice aJ aa.length aK, .int .i64 aj, .string al, .slice aH af.length aI] 32 ?_; intro gm hg w4 hbox hb; have bL := Aside0.mk (below_step Z2 hb); have bM := Aside0.mk hbox; have GEm := Aside0.mk (Sq.ge hg Z2); replace HB := bL; have BKm := bM; clear bL bM; clear hb hbox hg) | ((with_reducible refine gate_callee (f := 127) rfl ?_); refine goesL_ (some 7) rfl rfl Tryz.func127 Z12 rfl #[.agg #[.int .i64 ar, .int .i64 aC, .int .i64 az, .string ay, .int .i64 aA, .int .i64 au, .string aw, .int .i64 av, .int .i64 aD, .string ax, .int .i64 am, .string ag, .int .i64 ac, .int .i64 aq, .int .i64 ab, .int .i64 ao, .int .i64 ak, .int .i64 ai, .int .i64 ae, .string ah, .string ap, .slice aJ aa.length aK, .int .i64 aj, .string al, .slice aH af.length aI]] rfl (by (try simp only [List.map_toArray, List.map_cons, List.map_nil]); first | done | rfl) ?_; (with_reducible refine (msg_strip.calls ar aC az ay aA au aw av aD ax am ag ac aq ab ao ak ai ae ah ap _ _ aa aj al _ _ af ar aC az aA au av aD am ac aq ab ao ak ai ae aj ay aw ax ag ah ap al _ ?side1 ?side2 ?side3 ?side4 A2.out).mono ?_); (case side1 => exact Z9); (case side2 => exact bH.out); (case side3 => exact Z6); (case side4 => exact aT.out); rintro e w6 ⟨rfl, hb⟩; refine ⟨_, rfl, ?_⟩; replace BKm := Aside0.mk (blk_below (g := gm) Z30 hb); replace HB := Aside0.mk (below_step Z25 hb); clear hb) | ((with_reducible refine gate_dst (N := 3) rfl ?_); refine Sq.box 3 #[.int .i64 0, .int .i64 0, .int .i64 0, .int .i64 0, .int .i64 0, .int .i64 0, .int .i64 0, .int .i64 0, .int .i64 0, .int .i64 0, .int .i64 0, .int .i64 0, .int .i64 0, .int .i64 0, .int .i64 0, .int .i64 0, .string ⟨#[]⟩, .string ⟨#[]⟩, .string ⟨#[]⟩, .string ⟨#[]⟩, .string ⟨#[]⟩, .string ⟨#[]⟩, .string ⟨#[]⟩] 140 ?_; intro gx hg w7 hbox hb; have bL := Aside0.mk (blk_below (g := gm) Z30 hb); have bM := Aside0.mk (below_step Z25 hb); have cf := Aside0.mk hbox; have GEx := Aside0.mk (Sq.ge hg Z25); have NBmx := Aside0.mk (Sq.nl hg (blk_lt (g := gm) Z30)); replace BKm := bL; replace HB := bM; have BKx := cf; clear bL bM cf; clear hb hbox hg; have hnb := NBmx.out; have hnc := NBmx.out.symm; (try clear hb)))
 (try simp only [Act.put, Sq.s1, Sq.s2, Sq.s3])
 go_cut [4, 5] (fun v4 v5 wc => ∃ (b4 b5 : Bool) (p0 : Int) (p1 : Int) (p2 : Int) (p3 : Int) (p4 : Int) (p5 : Int) (p6 : Int) (p7 : Int) (p8 : Int) (p9 : Int) (p10 : Int) (p11 : Int) (p12 : Int) (p13 : Int) (p14 : Int) (p15 : Int) (p16 : ByteArray) (p17 : ByteArray) (p18 : ByteArray) (p19 : ByteArray) (p20 : ByteArray) (p21 : ByteArray) (p22 : ByteArray), v4 = .bool b4 ∧ v5 = .bool b5 ∧ Aside0 (((msg_Bare.z ar p0 p1 p2 p3 p4 p5 p6 p7 p8 p9 p10 p11 p12 p13 p14 p15 p16 p17 p18 p19 p20 p21 p22 && b4) && b5) = r) ∧ Aside0 (wc.heap[gm]? = some (.cells #[.int .i64 ar, .int .i64 aC, .int .i64 az, .string ay, .int .i64 aA, .int .i64 au, .string aw, .int .i64 av, .int .i64 aD, .string ax, .int .i64 am, .string ag, .int .i64 ac, .int .i64 aq, .int .i64 ab, .int .i64 ao, .int .i64 ak, .int .i64 ai, .int .i64 ae, .string ah, .string ap, .slice aJ aa.length aK, .int .i64 aj, .string al, .slice aH af.length aI] 32 (0, 0))) ∧ Aside0 (wc.heap[gx]? = some (.cells #[.int .i64 p0, .int .i64 p1, .int .i64 p2, .int .i64 p3, .int .i64 p4, .int .i64 p5, .int .i64 p6, .int .i64 p7, .int .i64 p8, .int .i64 p9, .int .i64 p10, .int .i64 p11, .int .i64 p12, .int .i64 p13, .int .i64 p14, .int .i64 p15, .string p16, .string p17, .string p18, .string p19, .string p20, .string p21, .string p22] 140 (0, 0))) ∧ Aside0 (Below w.heap.size w wc))
 case first =>
  by_cases c1 : ar = 1
  ·subst c1
   have HRES : Aside0 (((msg_Bare.z 1 1 0 0 0 au 0 0 0 ac aq ab ao ak ai ae aj (⟨#[]⟩ : ByteArray) (⟨#[]⟩ : ByteArray) (⟨#[]⟩ : ByteArray) ag ah ap al && ((aa.length : Int) == 0)) && ((af.length : Int) == 0)) = r) := ⟨(msg_Bare.b1 aC az ay aA au aw av aD ax am ag ac aq ab ao ak ai ae ah ap aa aj al af).symm.trans cI.out⟩
   clear cI A2
   have hcx1 := (blk_cell BKx.out 1).trans rfl
   have hfx1 := blk_frozen BKx.out 1
   have hcx2 := (blk_cell BKx.out 2).trans rfl
   have hfx2 := blk_frozen BKx.out 2
   have hcx3 := (blk_cell BKx.out 3).trans rfl
   have hfx3 := blk_frozen BKx.out 3
   have hcx5 := (blk_cell BKx.out 5).trans rfl
   have hfx5 := blk_frozen BKx.out 5
   have hcx6 := (blk_cell BKx.out 6).trans rfl
   have hfx6 := blk_frozen BKx.out 6
   have hcx7 := (blk_cell BKx.out 7).trans rfl
   have hfx7 := blk_frozen BKx.out 7
   have hcx16 := (blk_cell BKx.out 16).trans rfl
   have hfx16 := blk_frozen BKx.out 16
   have hcx17 := (blk_cell BKx.out 17).trans rfl
   have hfx17 := blk_frozen BKx.out 17
   have hcx18 := (blk_cell BKx.out 18).trans rfl
   have hfx18 := blk_frozen BKx.out 18
   have hcm24 := (blk_cell BKm.out 24).trans rfl
   go_wp2
   go_meet
   case rel => exact ⟨((aa.length : Int) == 0), ((af.length : Int) == 0), 1, 0, 0, 0, au, 0, 0, 0, ac, aq, ab, ao, ak, ai, ae, aj, (⟨#[]⟩ : ByteArray), (⟨#[]⟩ : ByteArray), (⟨#[]⟩ : ByteArray), ag, ah, ap, al, rfl, rfl, HRES, ⟨(blk_far (blk_far (blk_far (blk_far (blk_far (blk_far (blk_far (blk_far (blk_far BKm.out NBmx.out _) NBmx.out _) NBmx.out _) NBmx.out _) NBmx.out _) NBmx.out _) NBmx.out _) NBmx.out _) NBmx.out _)⟩, ⟨Pre.heap_norm (blk_set (blk_set (blk_set (blk_set (blk_set (blk_set (blk_set (blk_set (blk_set BKx.out 1 _) 6 _) 17 _) 5 _) 18 _) 7 _) 2 _) 16 _) 3 _) Z36⟩, ⟨(below_set (below_set (below_set (below_set (below_set (below_set (below_set (below_set (below_set HB.out GEx.out) GEx.out) GEx.out) GEx.out) GEx.out) GEx.out) GEx.out) GEx.out) GEx.out)⟩⟩
  ·by_cases c2 : ar = 2
   ·subst c2
    have HRES : Aside0 (((msg_Bare.z 2 2 0 az aA au 0 0 0 ac aq ab ao ak ai ae aj ay (⟨#[]⟩ : ByteArray) (⟨#[]⟩ : ByteArray) ag ah ap al && ((aa.length : Int) == 0)) && ((af.length : Int) == 0)) = r) := ⟨(msg_Bare.b2 aC az ay aA au aw av aD ax am ag ac aq ab ao ak ai ae ah ap aa aj al af).symm.trans cI.out⟩
    clear cI A2
    have hcx1 := (blk_cell BKx.out 1).trans rfl
    have hfx1 := blk_frozen BKx.out 1
    have hcx5 := (blk_cell BKx.out 5).trans rfl
    have hfx5 := blk_frozen BKx.out 5
    have hcx6 := (blk_cell BKx.out 6).trans rfl
    have hfx6 := blk_frozen BKx.out 6
    have hcx7 := (blk_cell BKx.out 7).trans rfl
    have hfx7 := blk_frozen BKx.out 7
    have hcx17 := (blk_cell BKx.out 17).trans rfl
    have hfx17 := blk_frozen BKx.out 17
    have hcx18 := (blk_cell BKx.out 18).trans rfl
    have hfx18 := blk_frozen BKx.out 18
    have hcm24 := (blk_cell BKm.out 24).trans rfl
    go_wp2
    go_meet
    case rel => exact ⟨((aa.length : Int) == 0), ((af.length : Int) == 0), 2, 0, az, aA, au, 0, 0, 0, ac, aq, ab, ao, ak, ai, ae, aj, ay, (⟨#[]⟩ : ByteArray), (⟨#[]⟩ : ByteArray), ag, ah, ap, al, rfl, rfl, HRES, ⟨(blk_far (blk_far (blk_far (blk_far (blk_far (blk_far BKm.out NBmx.out _) NBmx.out _) NBmx.out _) NBmx.out _) NBmx.out _) NBmx.out _)⟩, ⟨Pre.heap_norm (blk_set (blk_set (blk_set (blk_set (blk_set (blk_set BKx.out 1 _) 6 _) 17 _) 5 _) 18 _) 7 _) Z36⟩, ⟨(below_set (below_set (below_set (below_set (below_set (below_set HB.out GEx.out) GEx.out) GEx.out) GEx.out) GEx.out) GEx.out)⟩⟩
   ·by_cases c3 : ar = 3
    ·subst c3
     have HRES : Aside0 (((msg_Bare.z 3 3 aC az aA au av aD am 0 0 ab 0 0 0 ae aj ay aw ax ag (⟨#[]⟩ : ByteArray) (⟨#[]⟩ : ByteArray) al && ((aa.length : Int) == 0)) && true) = r) := ⟨(msg_Bare.b3 aC az ay aA au aw av aD ax am ag ac aq ab ao ak ai ae ah ap aa aj al af).symm.trans cI.out⟩
     clear cI A2
     have hcx8 := (blk_cell BKx.out 8).trans rfl
     have hfx8 := blk_frozen BKx.out 8
     have hcx9 := (blk_cell BKx.out 9).trans rfl
     have hfx9 := blk_frozen BKx.out 9
     have hcx11 := (blk_cell BKx.out 11).trans rfl
     have hfx11 := blk_frozen BKx.out 11
     have hcx12 := (blk_cell BKx.out 12).trans rfl
     have hfx12 := blk_frozen BKx.out 12
     have hcx13 := (blk_cell BKx.out 13).trans rfl
     have hfx13 := blk_frozen BKx.out 13
     have hcx20 := (blk_cell BKx.out 20).trans rfl
     have hfx20 := blk_frozen BKx.out 20
     have hcx21 := (blk_cell BKx.out 21).trans rfl
     have hfx21 := blk_frozen BKx.out 21
     go_wp2
     go_meet
     case rel => exact ⟨((aa.length : Int) == 0), true, 3, aC, az, aA, au, av, aD, am, 0, 0, ab, 0, 0, 0, ae, aj, ay, aw, ax, ag, (⟨#[]⟩ : ByteArray), (⟨#[]⟩ : ByteArray), al, rfl, rfl, HRES, ⟨(blk_far (blk_far (blk_far (blk_far (blk_far (blk_far (blk_far BKm.out NBmx.out _) NBmx.out _) NBmx.out _) NBmx.out _) NBmx.out _) NBmx.out _) NBmx.out _)⟩, ⟨Pre.heap_norm (blk_set (blk_set (blk_set (blk_set (blk_set (blk_set (blk_set BKx.out 11 _) 12 _) 13 _) 20 _) 8 _) 21 _) 9 _) Z36⟩, ⟨(below_set (below_set (below_set (below_set (below_set (below_set (below_set HB.out GEx.out) GEx.out) GEx.out) GEx.out) GEx.out) GEx.out) GEx.out)⟩⟩
    ·by_cases c4 : ar = 4
     ·subst c4
      have HRES : Aside0 (((msg_Bare.z 4 4 aC az aA au 0 aD am 0 aq 0 0 0 ai ae aj ay aw ax ag (⟨#[]⟩ : ByteArray) (⟨#[]⟩ : ByteArray) al && ((aa.length : Int) == 0)) && true) = r) := ⟨(msg_Bare.b4 aC az ay aA au aw av aD ax am ag ac aq ab ao ak ai ae ah ap aa aj al af).symm.trans cI.out⟩
      clear cI A2
      have hcx5 := (blk_cell BKx.out 5).trans rfl
      have hfx5 := blk_frozen BKx.out 5
      have hcx8 := (blk_cell BKx.out 8).trans rfl
      have hfx8 := blk_frozen BKx.out 8
      have hcx10 := (blk_cell BKx.out 10).trans rfl
      have hfx10 := blk_frozen BKx.out 10
      have hcx11 := (blk_cell BKx.out 11).trans rfl
      have hfx11 := blk_frozen BKx.out 11
      have hcx12 := (blk_cell BKx.out 12).trans rfl
      have hfx12 := blk_frozen BKx.out 12
      have hcx20 := (blk_cell BKx.out 20).trans rfl
      have hfx20 := blk_frozen BKx.out 20
      have hcx21 := (blk_cell BKx.out 21).trans rfl
      have hfx21 := blk_frozen BKx.out 21
      go_wp2
      go_meet
      case rel => exact ⟨((aa.length : Int) == 0), true, 4, aC, az, aA, au, 0, aD, am, 0, aq, 0, 0, 0, ai, ae, aj, ay, aw, ax, ag, (⟨#[]⟩ : ByteArray), (⟨#[]⟩ : ByteArray), al, rfl, rfl, HRES, ⟨(blk_far (blk_far (blk_far (blk_far (blk_far (blk_far (blk_far BKm.out NBmx.out _) NBmx.out _) NBmx.out _) NBmx.out _) NBmx.out _) NBmx.out _) NBmx.out _)⟩, ⟨Pre.heap_norm (blk_set (blk_set (blk_set (blk_set (blk_set (blk_set (blk_set BKx.out 11 _) 5 _) 12 _) 20 _) 8 _) 21 _) 10 _) Z36⟩, ⟨(below_set (below_set (below_set (below_set (below_set (below_set (below_set HB.out GEx.out) GEx.out) GEx.out) GEx.out) GEx.out) GEx.out) GEx.out)⟩⟩
     ·by_cases c5 : ar = 5
      ·subst c5
       have HRES : Aside0 (((msg_Bare.z 5 5 aC az aA au av aD am ac aq ab 0 ak ai ae aj ay aw ax ag ah ap al && true) && true) = r) := ⟨(msg_Bare.b5 aC az ay aA au aw av aD ax am ag ac aq ab ao ak ai ae ah ap aa aj al af).symm.trans cI.out⟩
       clear cI A2
       have hcx11 := (blk_cell BKx.out 11).trans rfl
       have hfx11 := blk_frozen BKx.out 11
       go_wp2
       go_meet
       case rel => exact ⟨true, true, 5, aC, az, aA, au, av, aD, am, ac, aq, ab, 0, ak, ai, ae, aj, ay, aw, ax, ag, ah, ap, al, rfl, rfl, HRES, ⟨(blk_far BKm.out NBmx.out _)⟩, ⟨Pre.heap_norm (blk_set BKx.out 11 _) Z36⟩, ⟨(below_set HB.out GEx.out)⟩⟩
      ·by_cases c6 : ar = 6
       ·subst c6
        have HRES : Aside0 (((msg_Bare.z 6 6 aC az aA au av aD am ac aq ab ao ak ai ae aj ay aw ax ag ah ap al && ((aa.length : Int) == 0)) && true) = r) := ⟨(msg_Bare.b6 aC az ay aA au aw av aD ax am ag ac aq ab ao ak ai ae ah ap aa aj al af).symm.trans cI.out⟩
        clear cI A2
        go_wp2
        go_meet
        case rel => exact ⟨((aa.length : Int) == 0), true, 6, aC, az, aA, au, av, aD, am, ac, aq, ab, ao, ak, ai, ae, aj, ay, aw, ax, ag, ah, ap, al, rfl, rfl, HRES, BKm, BKx, HB⟩
       ·by_cases c7 : ar = 7
        ·subst c7
         have HRES : Aside0 (((msg_Bare.z 7 7 aC az aA au av aD am ac aq 0 ao ak 0 ae aj ay aw ax ag ah ap al && ((aa.length : Int) == 0)) && true) = r) := ⟨(msg_Bare.b7 aC az ay aA au aw av aD ax am ag ac aq ab ao ak ai ae ah ap aa aj al af).symm.trans cI.out⟩
         clear cI A2
         have hcx10 := (blk_cell BKx.out 10).trans rfl
         have hfx10 := blk_frozen BKx.out 10
         have hcx13 := (blk_cell BKx.out 13).trans rfl
         have hfx13 := blk_frozen BKx.out 13
         go_wp2
         go_meet
         case rel => exact ⟨((aa.length : Int) == 0), true, 7, aC, az, aA, au, av, aD, am, ac, aq, 0, ao, ak, 0, ae, aj, ay, aw, ax, ag, ah, ap, al, rfl, rfl, HRES, ⟨(blk_far (blk_far BKm.out NBmx.out _) NBmx.out _)⟩, ⟨Pre.heap_norm (blk_set (blk_set BKx.out 13 _) 10 _) Z36⟩, ⟨(below_set (below_set HB.out GEx.out) GEx.out)⟩⟩
        ·by_cases c8 : ar = 8
         ·subst c8
          have HRES : Aside0 (((msg_Bare.z 8 8 aC az aA au av aD am ac aq ab ao ak 0 ae aj ay aw ax ag ah ap al && ((aa.length : Int) == 0)) && true) = r) := ⟨(msg_Bare.b8 aC az ay aA au aw av aD ax am ag ac aq ab ao ak ai ae ah ap aa aj al af).symm.trans cI.out⟩
          clear cI A2
          have hcx13 := (blk_cell BKx.out 13).trans rfl
          have hfx13 := blk_frozen BKx.out 13
          go_wp2
          go_meet
          case rel => exact ⟨((aa.length : Int) == 0), true, 8, aC, az, aA, au, av, aD, am, ac, aq, ab, ao, ak, 0, ae, aj, ay, aw, ax, ag, ah, ap, al, rfl, rfl, HRES, ⟨(blk_far BKm.out NBmx.out _)⟩, ⟨Pre.heap_norm (blk_set BKx.out 13 _) Z36⟩, ⟨(below_set HB.out GEx.out)⟩⟩
         ·by_cases c9 : ar = 9
          ·subst c9
           have HRES : Aside0 (((msg_Bare.z 9 9 aC az aA au av aD am 0 aq 0 0 ak ai ae aj ay aw ax ag ah ap al && ((aa.length : Int) == 0)) && true) = r) := ⟨(msg_Bare.b9 aC az ay aA au aw av aD ax am ag ac aq ab ao ak ai ae ah ap aa aj al af).symm.trans cI.out⟩
           clear cI A2
           have hcx8 := (blk_cell BKx.out 8).trans rfl
           have hfx8 := blk_frozen BKx.out 8
           have hcx10 := (blk_cell BKx.out 10).trans rfl
           have hfx10 := blk_frozen BKx.out 10
           have hcx11 := (blk_cell BKx.out 11).trans rfl
           have hfx11 := blk_frozen BKx.out 11
           go_wp2
           go_meet
           case rel => exact ⟨((aa.length : Int) == 0), true, 9, aC, az, aA, au, av, aD, am, 0, aq, 0, 0, ak, ai, ae, aj, ay, aw, ax, ag, ah, ap, al, rfl, rfl, HRES, ⟨(blk_far (blk_far (blk_far BKm.out NBmx.out _) NBmx.out _) NBmx.out _)⟩, ⟨Pre.heap_norm (blk_set (blk_set (blk_set BKx.out 11 _) 8 _) 10 _) Z36⟩, ⟨(below_set (below_set (below_set HB.out GEx.out) GEx.out) GEx.out)⟩⟩
          ·by_cases bW : ar = 10
           ·subst bW
            have HRES : Aside0 (((msg_Bare.z 10 10 aC az aA 0 av aD am ac aq 0 ao ak ai 0 aj ay aw ax ag (⟨#[]⟩ : ByteArray) ap al && ((aa.length : Int) == 0)) && true) = r) := ⟨(msg_Bare.b10 aC az ay aA au aw av aD ax am ag ac aq ab ao ak ai ae ah ap aa aj al af).symm.trans cI.out⟩
            clear cI A2
            have hcx4 := (blk_cell BKx.out 4).trans rfl
            have hfx4 := blk_frozen BKx.out 4
            have hcx10 := (blk_cell BKx.out 10).trans rfl
            have hfx10 := blk_frozen BKx.out 10
            have hcx14 := (blk_cell BKx.out 14).trans rfl
            have hfx14 := blk_frozen BKx.out 14
            have hcx20 := (blk_cell BKx.out 20).trans rfl
            have hfx20 := blk_frozen BKx.out 20
            go_wp2
            go_meet
            case rel => exact ⟨((aa.length : Int) == 0), true, 10, aC, az, aA, 0, av, aD, am, ac, aq, 0, ao, ak, ai, 0, aj, ay, aw, ax, ag, (⟨#[]⟩ : ByteArray), ap, al, rfl, rfl, HRES, ⟨(blk_far (blk_far (blk_far (blk_far BKm.out NBmx.out _) NBmx.out _) NBmx.out _) NBmx.out _)⟩, ⟨Pre.heap_norm (blk_set (blk_set (blk_set (blk_set BKx.out 4 _) 14 _) 10 _) 20 _) Z36⟩, ⟨(below_set (below_set (below_set (below_set HB.out GEx.out) GEx.out) GEx.out) GEx.out)⟩⟩
           ·by_cases cS : ar = 11
            ·subst cS
             have HRES : Aside0 (((msg_Bare.z 11 11 aC az aA 0 0 aD 0 0 aq 0 ao ak ai ae aj ay (⟨#[]⟩ : ByteArray) (⟨#[]⟩ : ByteArray) (⟨#[]⟩ : ByteArray) ah ap al && ((aa.length : Int) == 0)) && true) = r) := ⟨(msg_Bare.b11 aC az ay aA au aw av aD ax am ag ac aq ab ao ak ai ae ah ap aa aj al af).symm.trans cI.out⟩
             clear cI A2
             have hcx4 := (blk_cell BKx.out 4).trans rfl
             have hfx4 := blk_frozen BKx.out 4
             have hcx5 := (blk_cell BKx.out 5).trans rfl
             have hfx5 := blk_frozen BKx.out 5
             have hcx7 := (blk_cell BKx.out 7).trans rfl
             have hfx7 := blk_frozen BKx.out 7
             have hcx8 := (blk_cell BKx.out 8).trans rfl
             have hfx8 := blk_frozen BKx.out 8
             have hcx10 := (blk_cell BKx.out 10).trans rfl
             have hfx10 := blk_frozen BKx.out 10
             have hcx17 := (blk_cell BKx.out 17).trans rfl
             have hfx17 := blk_frozen BKx.out 17
             have hcx18 := (blk_cell BKx.out 18).trans rfl
             have hfx18 := blk_frozen BKx.out 18
             have hcx19 := (blk_cell BKx.out 19).trans rfl
             have hfx19 := blk_frozen BKx.out 19
             go_wp2
             go_meet
             case rel => exact ⟨((aa.length : Int) == 0), true, 11, aC, az, aA, 0, 0, aD, 0, 0, aq, 0, ao, ak, ai, ae, aj, ay, (⟨#[]⟩ : ByteArray), (⟨#[]⟩ : ByteArray), (⟨#[]⟩ : ByteArray), ah, ap, al, rfl, rfl, HRES, ⟨(blk_far (blk_far (blk_far (blk_far (blk_far (blk_far (blk_far (blk_far BKm.out NBmx.out _) NBmx.out _) NBmx.out _) NBmx.out _) NBmx.out _) NBmx.out _) NBmx.out _) NBmx.out _)⟩, ⟨Pre.heap_norm (blk_set (blk_set (blk_set (blk_set (blk_set (blk_set (blk_set (blk_set BKx.out 4 _) 17 _) 5 _) 10 _) 8 _) 7 _) 19 _) 18 _) Z36⟩, ⟨(below_set (below_set (below_set (below_set (below_set (below_set (below_set (below_set HB.out GEx.out) GEx.out) GEx.out) GEx.out) GEx.out) GEx.out) GEx.out) GEx.out)⟩⟩
            ·by_cases da : ar = 12
             ·subst da
              have HRES : Aside0 (((msg_Bare.z 12 12 aC az aA 0 0 aD am ac aq ab ao ak ai ae aj ay (⟨#[]⟩ : ByteArray) ax ag ah ap al && ((aa.length : Int) == 0)) && true) = r) := ⟨(msg_Bare.b12 aC az ay aA au aw av aD ax am ag ac aq ab ao ak ai ae ah ap aa aj al af).symm.trans cI.out⟩
              clear cI A2
              have hcx4 := (blk_cell BKx.out 4).trans rfl
              have hfx4 := blk_frozen BKx.out 4
              have hcx5 := (blk_cell BKx.out 5).trans rfl
              have hfx5 := blk_frozen BKx.out 5
              have hcx17 := (blk_cell BKx.out 17).trans rfl
              have hfx17 := blk_frozen BKx.out 17
              go_wp2
              go_meet
              case rel => exact ⟨((aa.length : Int) == 0), true, 12, aC, az, aA, 0, 0, aD, am, ac, aq, ab, ao, ak, ai, ae, aj, ay, (⟨#[]⟩ : ByteArray), ax, ag, ah, ap, al, rfl, rfl, HRES, ⟨(blk_far (blk_far (blk_far BKm.out NBmx.out _) NBmx.out _) NBmx.out _)⟩, ⟨Pre.heap_norm (blk_set (blk_set (blk_set BKx.out 4 _) 17 _) 5 _) Z36⟩, ⟨(below_set (below_set (below_set HB.out GEx.out) GEx.out) GEx.out)⟩⟩
             ·by_cases eN : ar = 13
              ·subst eN
               have HRES : Aside0 (((msg_Bare.z 13 13 aC az aA 0 0 aD am 0 aq ab ao 0 ai ae aj ay (⟨#[]⟩ : ByteArray) ax (⟨#[]⟩ : ByteArray) ah ap al && ((aa.length : Int) == 0)) && true) = r) := ⟨(msg_Bare.b13 aC az ay aA au aw av aD ax am ag ac aq ab ao ak ai ae ah ap aa aj al af).symm.trans cI.out⟩
               clear cI A2
               have hcx4 := (blk_cell BKx.out 4).trans rfl
               have hfx4 := blk_frozen BKx.out 4
               have hcx5 := (blk_cell BKx.out 5).trans rfl
               have hfx5 := blk_frozen BKx.out 5
               have hcx8 := (blk_cell BKx.out 8).trans rfl
               have hfx8 := blk_frozen BKx.out 8
               have hcx12 := (blk_cell BKx.out 12).trans rfl
               have hfx12 := blk_frozen BKx.out 12
               have hcx17 := (blk_cell BKx.out 17).trans rfl
               have hfx17 := blk_frozen BKx.out 17
               have hcx19 := (blk_cell BKx.out 19).trans rfl
               have hfx19 := blk_frozen BKx.out 19
               go_wp2
               go_meet
               case rel => exact ⟨((aa.length : Int) == 0), true, 13, aC, az, aA, 0, 0, aD, am, 0, aq, ab, ao, 0, ai, ae, aj, ay, (⟨#[]⟩ : ByteArray), ax, (⟨#[]⟩ : ByteArray), ah, ap, al, rfl, rfl, HRES, ⟨(blk_far (blk_far (blk_far (blk_far (blk_far (blk_far BKm.out NBmx.out _) NBmx.out _) NBmx.out _) NBmx.out _) NBmx.out _) NBmx.out _)⟩, ⟨Pre.heap_norm (blk_set (blk_set (blk_set (blk_set (blk_set (blk_set BKx.out 4 _) 17 _) 5 _) 8 _) 12 _) 19 _) Z36⟩, ⟨(below_set (below_set (below_set (below_set (below_set (below_set HB.out GEx.out) GEx.out) GEx.out) GEx.out) GEx.out) GEx.out)⟩⟩
              ·by_cases cV : ar = 14
               ·subst cV
                have HRES : Aside0 (((msg_Bare.z 14 14 aC az aA au av aD am ac aq ab ao ak ai ae 0 ay aw ax ag ah ap (⟨#[]⟩ : ByteArray) && ((aa.length : Int) == 0)) && ((af.length : Int) == 0)) = r) := ⟨(msg_Bare.b14 aC az ay aA au aw av aD ax am ag ac aq ab ao ak ai ae ah ap aa aj al af).symm.trans cI.out⟩
                clear cI A2
                have hcx15 := (blk_cell BKx.out 15).trans rfl
                have hfx15 := blk_frozen BKx.out 15
                have hcx22 := (blk_cell BKx.out 22).trans rfl
                have hfx22 := blk_frozen BKx.out 22
                have hcm24 := (blk_cell BKm.out 24).trans rfl
                go_wp2
                go_meet
                case rel => exact ⟨((aa.length : Int) == 0), ((af.length : Int) == 0), 14, aC, az, aA, au, av, aD, am, ac, aq, ab, ao, ak, ai, ae, 0, ay, aw, ax, ag, ah, ap, (⟨#[]⟩ : ByteArray), rfl, rfl, HRES, ⟨(blk_far (blk_far BKm.out NBmx.out _) NBmx.out _)⟩, ⟨Pre.heap_norm (blk_set (blk_set BKx.out 15 _) 22 _) Z36⟩, ⟨(below_set (below_set HB.out GEx.out) GEx.out)⟩⟩
               ·obtain rfl : r = false := cI.out.symm.trans (msg_Bare.bno ar aC az ay aA au aw av aD ax am ag ac aq ab ao ak ai ae ah ap aa aj al af Z23)
                have d1 : (ar == 1) = false := beq_eq_false_iff_ne.mpr c1
                have d2 : (ar == 2) = false := beq_eq_false_iff_ne.mpr c2
                have d3 : (ar == 3) = false := beq_eq_false_iff_ne.mpr c3
                have d4 : (ar == 4) = false := beq_eq_false_iff_ne.mpr c4
                have d5 : (ar == 5) = false := beq_eq_false_iff_ne.mpr c5
                have d6 : (ar == 6) = false := beq_eq_false_iff_ne.mpr c6
                have d7 : (ar == 7) = false := beq_eq_false_iff_ne.mpr c7
                have d8 : (ar == 8) = false := beq_eq_false_iff_ne.mpr c8
                have d9 : (ar == 9) = false := beq_eq_false_iff_ne.mpr c9
                have d10 : (ar == 10) = false := beq_eq_false_iff_ne.mpr bW
                have d11 : (ar == 11) = false := beq_eq_false_iff_ne.mpr cS
                have d12 : (ar == 12) = false := beq_eq_false_iff_ne.mpr da
                have d13 : (ar == 13) = false := beq_eq_false_iff_ne.mpr eN
                have d14 : (ar == 14) = false := beq_eq_false_iff_ne.mpr cV
                clear c1 c2 c3 c4 c5 c6 c7 c8 c9 bW cS da eN cV cI
                go_wp2
                go_ret
                exact ⟨rfl, Z42⟩
 case rest =>
  clear hcm0 hcm21 cI A2 BKm BKx HB
  obtain ⟨b4, b5, p0, p1, p2, p3, p4, p5, p6, p7, p8, p9, p10, p11, p12, p13, p14, p15, p16, p17, p18, p19, p20, p21, p22, rfl, rfl, HRES, BKm, BKx, HB⟩ := hcut
  have hcm0 := (blk_cell BKm.out 0).trans rfl
  have hE := fun (d : Nat) (w : World) => msg_Bare.eqz d w ar p0 p1 p2 p3 p4 p5 p6 p7 p8 p9 p10 p11 p12 p13 p14 p15 p16 p17 p18 p19 p20 p21 p22
  generalize msg_Bare.z ar p0 p1 p2 p3 p4 p5 p6 p7 p8 p9 p10 p11 p12 p13 p14 p15 p16 p17 p18 p19 p20 p21 p22 = bz at HRES hE
  cases bz <;> cases b4 <;> cases b5
  all_goals
   obtain rfl := HRES.out
   clear HRES
   go_wp2_with (first | ((with_reducible refine Pre.gate_load 140 rfl ?_); refine Pre.load_event rfl rfl rfl Z16 Z29 Tryz.underlying140 rfl Z12 ?_) | ((with_reducible refine gate_dst (N := 108) rfl ?_); refine Pre.build_event 108 140 [(0, .tmp 107)] rfl rfl rfl (msg_Bare.bd _) ?_))
   go_ret
   exact ⟨rfl, Z42⟩

end Go.Proofs.YtnllanjoebjeiaaGreat.PV
