-- Written by mp.py, a program of this work (wip/tools), out of the translation; Lean checks it.
import Derived.Test.YtelcciekdoccfaaPMxZ
import Derived.Test.YtelcciekdoccfaaPMxmsgstrip
import Derived.Test.YtelcciekdoccfaaBuild
import Derived.Test.YtelcciekdoccfaaStore
namespace Go.Proofs.Ytelcciekdoccfaa.PM
open Go.RowKit Go.Proofs.YtelcciekdoccfaaW.PrintWords Go.Proofs.YtelcciekdoccfaaW.PrintLast Go.Proofs.YtelcciekdoccfaaW.PrintMore
attribute [local go_sem] max2_int min2_int max_two min_two max_three min_three max_four min_four   -- for this text's walks alone
set_option linter.unusedVariables false
set_option linter.unusedSimpArgs false

/-! ### msg_Bare: function 51 -/
def msg_Bare.z (k : Int) (p0 : Int) (p1 : Int) (p2 : Int) (p3 : Int) (p4 : Int) (p5 : Int) (p6 : Int) (p7 : Int) (p8 : Int) (p9 : Int) (p10 : Int) (p11 : Int) (p12 : Int) (p13 : Int) (p14 : Int) (p15 : Int) (p16 : ByteArray) (p17 : ByteArray) (p18 : ByteArray) (p19 : ByteArray) (p20 : ByteArray) (p21 : ByteArray) (p22 : ByteArray) : Bool := (p0 == k && (p1 == 0 && (p2 == 0 && (p3 == 0 && (p4 == 0 && (p5 == 0 && (p6 == 0 && (p7 == 0 && (p8 == 0 && (p9 == 0 && (p10 == 0 && (p11 == 0 && (p12 == 0 && (p13 == 0 && (p14 == 0 && (p15 == 0 && (p16.toList == (⟨#[]⟩ : ByteArray).toList && (p17.toList == (⟨#[]⟩ : ByteArray).toList && (p18.toList == (⟨#[]⟩ : ByteArray).toList && (p19.toList == (⟨#[]⟩ : ByteArray).toList && (p20.toList == (⟨#[]⟩ : ByteArray).toList && (p21.toList == (⟨#[]⟩ : ByteArray).toList && (p22.toList == (⟨#[]⟩ : ByteArray).toList)))))))))))))))))))))))
def msg_Bare.b (aG : Int) (aA : Int) (aB : Int) (az : ByteArray) (aC : Int) (av : Int) (ax : ByteArray) (aw : Int) (aD : Int) (ay : ByteArray) (ap : Int) (an : ByteArray) (ag : Int) (aq : Int) (ai : Int) (ah : Int) (ak : Int) (al : Int) (ao : Int) (aj : ByteArray) (am : ByteArray) (af : List S61) (ar : Int) (au : ByteArray) (ab : List S63) : Bool := if aG = 1 then (msg_Bare.z 1 1 0 0 0 av 0 0 0 ag aq ai ah ak al ao ar (⟨#[]⟩ : ByteArray) (⟨#[]⟩ : ByteArray) (⟨#[]⟩ : ByteArray) an aj am au && ((af.length : Int) == 0)) && ((ab.length : Int) == 0) else if aG = 2 then (msg_Bare.z 2 2 0 aB aC av 0 0 0 ag aq ai ah ak al ao ar az (⟨#[]⟩ : ByteArray) (⟨#[]⟩ : ByteArray) an aj am au && ((af.length : Int) == 0)) && ((ab.length : Int) == 0) else if aG = 3 then (msg_Bare.z 3 3 aA aB aC av aw aD ap 0 0 ai 0 0 0 ao ar az ax ay an (⟨#[]⟩ : ByteArray) (⟨#[]⟩ : ByteArray) au && ((af.length : Int) == 0)) && true else if aG = 4 then (msg_Bare.z 4 4 aA aB aC av 0 aD ap 0 aq 0 0 0 al ao ar az ax ay an (⟨#[]⟩ : ByteArray) (⟨#[]⟩ : ByteArray) au && ((af.length : Int) == 0)) && true else if aG = 5 then (msg_Bare.z 5 5 aA aB aC av aw aD ap ag aq ai 0 ak al ao ar az ax ay an aj am au && true) && true else if aG = 6 then (msg_Bare.z 6 6 aA aB aC av aw aD ap ag aq ai ah ak al ao ar az ax ay an aj am au && ((af.length : Int) == 0)) && true else if aG = 7 then (msg_Bare.z 7 7 aA aB aC av aw aD ap ag aq 0 ah ak 0 ao ar az ax ay an aj am au && ((af.length : Int) == 0)) && true else if aG = 8 then (msg_Bare.z 8 8 aA aB aC av aw aD ap ag aq ai ah ak 0 ao ar az ax ay an aj am au && ((af.length : Int) == 0)) && true else if aG = 9 then (msg_Bare.z 9 9 aA aB aC av aw aD ap 0 aq 0 0 ak al ao ar az ax ay an aj am au && ((af.length : Int) == 0)) && true else if aG = 10 then (msg_Bare.z 10 10 aA aB aC 0 aw aD ap ag aq 0 ah ak al 0 ar az ax ay an (⟨#[]⟩ : ByteArray) am au && ((af.length : Int) == 0)) && true else if aG = 11 then (msg_Bare.z 11 11 aA aB aC 0 0 aD 0 0 aq 0 ah ak al ao ar az (⟨#[]⟩ : ByteArray) (⟨#[]⟩ : ByteArray) (⟨#[]⟩ : ByteArray) aj am au && ((af.length : Int) == 0)) && true else if aG = 12 then (msg_Bare.z 12 12 aA aB aC 0 0 aD ap ag aq ai ah ak al ao ar az (⟨#[]⟩ : ByteArray) ay an aj am au && ((af.length : Int) == 0)) && true else if aG = 13 then (msg_Bare.z 13 13 aA aB aC 0 0 aD ap 0 aq ai ah 0 al ao ar az (⟨#[]⟩ : ByteArray) ay (⟨#[]⟩ : ByteArray) aj am au && ((af.length : Int) == 0)) && true else if aG = 14 then (msg_Bare.z 14 14 aA aB aC av aw aD ap ag aq ai ah ak al ao 0 az ax ay an aj am (⟨#[]⟩ : ByteArray) && ((af.length : Int) == 0)) && ((ab.length : Int) == 0) else false
def msg_Bare.f (aG : Int) (aA : Int) (aB : Int) (az : ByteArray) (aC : Int) (av : Int) (ax : ByteArray) (aw : Int) (aD : Int) (ay : ByteArray) (ap : Int) (an : ByteArray) (ag : Int) (aq : Int) (ai : Int) (ah : Int) (ak : Int) (al : Int) (ao : Int) (aj : ByteArray) (am : ByteArray) (af : List S61) (ar : Int) (au : ByteArray) (ab : List S63) : Option Bool := some (msg_Bare.b aG aA aB az aC av ax aw aD ay ap an ag aq ai ah ak al ao aj am af ar au ab)
theorem msg_Bare.b1 (aA : Int) (aB : Int) (az : ByteArray) (aC : Int) (av : Int) (ax : ByteArray) (aw : Int) (aD : Int) (ay : ByteArray) (ap : Int) (an : ByteArray) (ag : Int) (aq : Int) (ai : Int) (ah : Int) (ak : Int) (al : Int) (ao : Int) (aj : ByteArray) (am : ByteArray) (af : List S61) (ar : Int) (au : ByteArray) (ab : List S63) : msg_Bare.b 1 aA aB az aC av ax aw aD ay ap an ag aq ai ah ak al ao aj am af ar au ab = ((msg_Bare.z 1 1 0 0 0 av 0 0 0 ag aq ai ah ak al ao ar (⟨#[]⟩ : ByteArray) (⟨#[]⟩ : ByteArray) (⟨#[]⟩ : ByteArray) an aj am au && ((af.length : Int) == 0)) && ((ab.length : Int) == 0)) := by
 unfold msg_Bare.b
 simp (config := {decide := true}) only [if_true, if_false]
theorem msg_Bare.b2 (aA : Int) (aB : Int) (az : ByteArray) (aC : Int) (av : Int) (ax : ByteArray) (aw : Int) (aD : Int) (ay : ByteArray) (ap : Int) (an : ByteArray) (ag : Int) (aq : Int) (ai : Int) (ah : Int) (ak : Int) (al : Int) (ao : Int) (aj : ByteArray) (am : ByteArray) (af : List S61) (ar : Int) (au : ByteArray) (ab : List S63) : msg_Bare.b 2 aA aB az aC av ax aw aD ay ap an ag aq ai ah ak al ao aj am af ar au ab = ((msg_Bare.z 2 2 0 aB aC av 0 0 0 ag aq ai ah ak al ao ar az (⟨#[]⟩ : ByteArray) (⟨#[]⟩ : ByteArray) an aj am au && ((af.length : Int) == 0)) && ((ab.length : Int) == 0)) := by
 unfold msg_Bare.b
 simp (config := {decide := true}) only [if_true, if_false]
theorem msg_Bare.b3 (aA : Int) (aB : Int) (az : ByteArray) (aC : Int) (av : Int) (ax : ByteArray) (aw : Int) (aD : Int) (ay : ByteArray) (ap : Int) (an : ByteArray) (ag : Int) (aq : Int) (ai : Int) (ah : Int) (ak : Int) (al : Int) (ao : Int) (aj : ByteArray) (am : ByteArray) (af : List S61) (ar : Int) (au : ByteArray) (ab : List S63) : msg_Bare.b 3 aA aB az aC av ax aw aD ay ap an ag aq ai ah ak al ao aj am af ar au ab = ((msg_Bare.z 3 3 aA aB aC av aw aD ap 0 0 ai 0 0 0 ao ar az ax ay an (⟨#[]⟩ : ByteArray) (⟨#[]⟩ : ByteArray) au && ((af.length : Int) == 0)) && true) := by
 unfold msg_Bare.b
 simp (config := {decide := true}) only [if_true, if_false]
theorem msg_Bare.b4 (aA : Int) (aB : Int) (az : ByteArray) (aC : Int) (av : Int) (ax : ByteArray) (aw : Int) (aD : Int) (ay : ByteArray) (ap : Int) (an : ByteArray) (ag : Int) (aq : Int) (ai : Int) (ah : Int) (ak : Int) (al : Int) (ao : Int) (aj : ByteArray) (am : ByteArray) (af : List S61) (ar : Int) (au : ByteArray) (ab : List S63) : msg_Bare.b 4 aA aB az aC av ax aw aD ay ap an ag aq ai ah ak al ao aj am af ar au ab = ((msg_Bare.z 4 4 aA aB aC av 0 aD ap 0 aq 0 0 0 al ao ar az ax ay an (⟨#[]⟩ : ByteArray) (⟨#[]⟩ : ByteArray) au && ((af.length : Int) == 0)) && true) := by
 unfold msg_Bare.b
 simp (config := {decide := true}) only [if_true, if_false]
theorem msg_Bare.b5 (aA : Int) (aB : Int) (az : ByteArray) (aC : Int) (av : Int) (ax : ByteArray) (aw : Int) (aD : Int) (ay : ByteArray) (ap : Int) (an : ByteArray) (ag : Int) (aq : Int) (ai : Int) (ah : Int) (ak : Int) (al : Int) (ao : Int) (aj : ByteArray) (am : ByteArray) (af : List S61) (ar : Int) (au : ByteArray) (ab : List S63) : msg_Bare.b 5 aA aB az aC av ax aw aD ay ap an ag aq ai ah ak al ao aj am af ar au ab = ((msg_Bare.z 5 5 aA aB aC av aw aD ap ag aq ai 0 ak al ao ar az ax ay an aj am au && true) && true) := by
 unfold msg_Bare.b
 simp (config := {decide := true}) only [if_true, if_false]
theorem msg_Bare.b6 (aA : Int) (aB : Int) (az : ByteArray) (aC : Int) (av : Int) (ax : ByteArray) (aw : Int) (aD : Int) (ay : ByteArray) (ap : Int) (an : ByteArray) (ag : Int) (aq : Int) (ai : Int) (ah : Int) (ak : Int) (al : Int) (ao : Int) (aj : ByteArray) (am : ByteArray) (af : List S61) (ar : Int) (au : ByteArray) (ab : List S63) : msg_Bare.b 6 aA aB az aC av ax aw aD ay ap an ag aq ai ah ak al ao aj am af ar au ab = ((msg_Bare.z 6 6 aA aB aC av aw aD ap ag aq ai ah ak al ao ar az ax ay an aj am au && ((af.length : Int) == 0)) && true) := by
 unfold msg_Bare.b
 simp (config := {decide := true}) only [if_true, if_false]
theorem msg_Bare.b7 (aA : Int) (aB : Int) (az : ByteArray) (aC : Int) (av : Int) (ax : ByteArray) (aw : Int) (aD : Int) (ay : ByteArray) (ap : Int) (an : ByteArray) (ag : Int) (aq : Int) (ai : Int) (ah : Int) (ak : Int) (al : Int) (ao : Int) (aj : ByteArray) (am : ByteArray) (af : List S61) (ar : Int) (au : ByteArray) (ab : List S63) : msg_Bare.b 7 aA aB az aC av ax aw aD ay ap an ag aq ai ah ak al ao aj am af ar au ab = ((msg_Bare.z 7 7 aA aB aC av aw aD ap ag aq 0 ah ak 0 ao ar az ax ay an aj am au && ((af.length : Int) == 0)) && true) := by
 unfold msg_Bare.b
 simp (config := {decide := true}) only [if_true, if_false]
theorem msg_Bare.b8 (aA : Int) (aB : Int) (az : ByteArray) (aC : Int) (av : Int) (ax : ByteArray) (aw : Int) (aD : Int) (ay : ByteArray) (ap : Int) (an : ByteArray) (ag : Int) (aq : Int) (ai : Int) (ah : Int) (ak : Int) (al : Int) (ao : Int) (aj : ByteArray) (am : ByteArray) (af : List S61) (ar : Int) (au : ByteArray) (ab : List S63) : msg_Bare.b 8 aA aB az aC av ax aw aD ay ap an ag aq ai ah ak al ao aj am af ar au ab = ((msg_Bare.z 8 8 aA aB aC av aw aD ap ag aq ai ah ak 0 ao ar az ax ay an aj am au && ((af.length : Int) == 0)) && true) := by
 unfold msg_Bare.b
 simp (config := {decide := true}) only [if_true, if_false]
theorem msg_Bare.b9 (aA : Int) (aB : Int) (az : ByteArray) (aC : Int) (av : Int) (ax : ByteArray) (aw : Int) (aD : Int) (ay : ByteArray) (ap : Int) (an : ByteArray) (ag : Int) (aq : Int) (ai : Int) (ah : Int) (ak : Int) (al : Int) (ao : Int) (aj : ByteArray) (am : ByteArray) (af : List S61) (ar : Int) (au : ByteArray) (ab : List S63) : msg_Bare.b 9 aA aB az aC av ax aw aD ay ap an ag aq ai ah ak al ao aj am af ar au ab = ((msg_Bare.z 9 9 aA aB aC av aw aD ap 0 aq 0 0 ak al ao ar az ax ay an aj am au && ((af.length : Int) == 0)) && true) := by
 unfold msg_Bare.b
 simp (config := {decide := true}) only [if_true, if_false]
theorem msg_Bare.b10 (aA : Int) (aB : Int) (az : ByteArray) (aC : Int) (av : Int) (ax : ByteArray) (aw : Int) (aD : Int) (ay : ByteArray) (ap : Int) (an : ByteArray) (ag : Int) (aq : Int) (ai : Int) (ah : Int) (ak : Int) (al : Int) (ao : Int) (aj : ByteArray) (am : ByteArray) (af : List S61) (ar : Int) (au : ByteArray) (ab : List S63) : msg_Bare.b 10 aA aB az aC av ax aw aD ay ap an ag aq ai ah ak al ao aj am af ar au ab = ((msg_Bare.z 10 10 aA aB aC 0 aw aD ap ag aq 0 ah ak al 0 ar az ax ay an (⟨#[]⟩ : ByteArray) am au && ((af.length : Int) == 0)) && true) := by
 unfold msg_Bare.b
 simp (config := {decide := true}) only [if_true, if_false]
theorem msg_Bare.b11 (aA : Int) (aB : Int) (az : ByteArray) (aC : Int) (av : Int) (ax : ByteArray) (aw : Int) (aD : Int) (ay : ByteArray) (ap : Int) (an : ByteArray) (ag : Int) (aq : Int) (ai : Int) (ah : Int) (ak : Int) (al : Int) (ao : Int) (aj : ByteArray) (am : ByteArray) (af : List S61) (ar : Int) (au : ByteArray) (ab : List S63) : msg_Bare.b 11 aA aB az aC av ax aw aD ay ap an ag aq ai ah ak al ao aj am af ar au ab = ((msg_Bare.z 11 11 aA aB aC 0 0 aD 0 0 aq 0 ah ak al ao ar az (⟨#[]⟩ : ByteArray) (⟨#[]⟩ : ByteArray) (⟨#[]⟩ : ByteArray) aj am au && ((af.length : Int) == 0)) && true) := by
 unfold msg_Bare.b
 simp (config := {decide := true}) only [if_true, if_false]
theorem msg_Bare.b12 (aA : Int) (aB : Int) (az : ByteArray) (aC : Int) (av : Int) (ax : ByteArray) (aw : Int) (aD : Int) (ay : ByteArray) (ap : Int) (an : ByteArray) (ag : Int) (aq : Int) (ai : Int) (ah : Int) (ak : Int) (al : Int) (ao : Int) (aj : ByteArray) (am : ByteArray) (af : List S61) (ar : Int) (au : ByteArray) (ab : List S63) : msg_Bare.b 12 aA aB az aC av ax aw aD ay ap an ag aq ai ah ak al ao aj am af ar au ab = ((msg_Bare.z 12 12 aA aB aC 0 0 aD ap ag aq ai ah ak al ao ar az (⟨#[]⟩ : ByteArray) ay an aj am au && ((af.length : Int) == 0)) && true) := by
 unfold msg_Bare.b
 simp (config := {decide := true}) only [if_true, if_false]
theorem msg_Bare.b13 (aA : Int) (aB : Int) (az : ByteArray) (aC : Int) (av : Int) (ax : ByteArray) (aw : Int) (aD : Int) (ay : ByteArray) (ap : Int) (an : ByteArray) (ag : Int) (aq : Int) (ai : Int) (ah : Int) (ak : Int) (al : Int) (ao : Int) (aj : ByteArray) (am : ByteArray) (af : List S61) (ar : Int) (au : ByteArray) (ab : List S63) : msg_Bare.b 13 aA aB az aC av ax aw aD ay ap an ag aq ai ah ak al ao aj am af ar au ab = ((msg_Bare.z 13 13 aA aB aC 0 0 aD ap 0 aq ai ah 0 al ao ar az (⟨#[]⟩ : ByteArray) ay (⟨#[]⟩ : ByteArray) aj am au && ((af.length : Int) == 0)) && true) := by
 unfold msg_Bare.b
 simp (config := {decide := true}) only [if_true, if_false]
theorem msg_Bare.b14 (aA : Int) (aB : Int) (az : ByteArray) (aC : Int) (av : Int) (ax : ByteArray) (aw : Int) (aD : Int) (ay : ByteArray) (ap : Int) (an : ByteArray) (ag : Int) (aq : Int) (ai : Int) (ah : Int) (ak : Int) (al : Int) (ao : Int) (aj : ByteArray) (am : ByteArray) (af : List S61) (ar : Int) (au : ByteArray) (ab : List S63) : msg_Bare.b 14 aA aB az aC av ax aw aD ay ap an ag aq ai ah ak al ao aj am af ar au ab = ((msg_Bare.z 14 14 aA aB aC av aw aD ap ag aq ai ah ak al ao 0 az ax ay an aj am (⟨#[]⟩ : ByteArray) && ((af.length : Int) == 0)) && ((ab.length : Int) == 0)) := by
 unfold msg_Bare.b
 simp (config := {decide := true}) only [if_true, if_false]
theorem msg_Bare.bno (aG : Int) (aA : Int) (aB : Int) (az : ByteArray) (aC : Int) (av : Int) (ax : ByteArray) (aw : Int) (aD : Int) (ay : ByteArray) (ap : Int) (an : ByteArray) (ag : Int) (aq : Int) (ai : Int) (ah : Int) (ak : Int) (al : Int) (ao : Int) (aj : ByteArray) (am : ByteArray) (af : List S61) (ar : Int) (au : ByteArray) (ab : List S63) (h : ¬ (1 ≤ aG ∧ aG ≤ 14)) : msg_Bare.b aG aA aB az aC av ax aw aD ay ap an ag aq ai ah ak al ao aj am af ar au ab = false := by
 unfold msg_Bare.b
 rw [if_neg Z27]
 rw [if_neg Z27]
 rw [if_neg Z27]
 rw [if_neg Z27]
 rw [if_neg Z27]
 rw [if_neg Z27]
 rw [if_neg Z27]
 rw [if_neg Z27]
 rw [if_neg Z27]
 rw [if_neg Z27]
 rw [if_neg Z27]
 rw [if_neg Z27]
 rw [if_neg Z27]
 rw [if_neg Z27]
theorem msg_Bare.eqz (d : Nat) (w : World) (k : Int) (p0 : Int) (p1 : Int) (p2 : Int) (p3 : Int) (p4 : Int) (p5 : Int) (p6 : Int) (p7 : Int) (p8 : Int) (p9 : Int) (p10 : Int) (p11 : Int) (p12 : Int) (p13 : Int) (p14 : Int) (p15 : Int) (p16 : ByteArray) (p17 : ByteArray) (p18 : ByteArray) (p19 : ByteArray) (p20 : ByteArray) (p21 : ByteArray) (p22 : ByteArray) :
  (Op.equalIn (d + 2) 88 (.agg #[.int .i64 p0, .int .i64 p1, .int .i64 p2, .int .i64 p3, .int .i64 p4, .int .i64 p5, .int .i64 p6, .int .i64 p7, .int .i64 p8, .int .i64 p9, .int .i64 p10, .int .i64 p11, .int .i64 p12, .int .i64 p13, .int .i64 p14, .int .i64 p15, .string p16, .string p17, .string p18, .string p19, .string p20, .string p21, .string p22]) (.agg #[.int .i64 k, .int .i64 0, .int .i64 0, .int .i64 0, .int .i64 0, .int .i64 0, .int .i64 0, .int .i64 0, .int .i64 0, .int .i64 0, .int .i64 0, .int .i64 0, .int .i64 0, .int .i64 0, .int .i64 0, .int .i64 0, .string ⟨#[]⟩, .string ⟨#[]⟩, .string ⟨#[]⟩, .string ⟨#[]⟩, .string ⟨#[]⟩, .string ⟨#[]⟩, .string ⟨#[]⟩])).run Try.prog w = .ok (msg_Bare.z k p0 p1 p2 p3 p4 p5 p6 p7 p8 p9 p10 p11 p12 p13 p14 p15 p16 p17 p18 p19 p20 p21 p22) w := by
 unfold msg_Bare.z
 refine eqA_of Try.underlying88 Z5 ?_
 refine eqf_cons Z13 Z14 Z14 Z28 ?_
 refine eqf_cons Z13 Z14 Z14 Z28 ?_
 refine eqf_cons Z13 Z14 Z14 Z28 ?_
 refine eqf_cons Z13 Z14 Z14 Z28 ?_
 refine eqf_cons Z13 Z14 Z14 Z28 ?_
 refine eqf_cons Z13 Z14 Z14 Z28 ?_
 refine eqf_cons Z13 Z14 Z14 Z28 ?_
 refine eqf_cons Z13 Z14 Z14 Z28 ?_
 refine eqf_cons Z13 Z14 Z14 Z28 ?_
 refine eqf_cons Z13 Z14 Z14 Z28 ?_
 refine eqf_cons Z13 Z14 Z14 Z28 ?_
 refine eqf_cons Z13 Z14 Z14 Z28 ?_
 refine eqf_cons Z13 Z14 Z14 Z28 ?_
 refine eqf_cons Z13 Z14 Z14 Z28 ?_
 refine eqf_cons Z13 Z14 Z14 Z28 ?_
 refine eqf_cons Z13 Z14 Z14 Z28 ?_
 refine eqf_cons Z13 Z14 Z14 Z28 ?_
 refine eqf_cons Z13 Z14 Z14 Z28 ?_
 refine eqf_cons Z13 Z14 Z14 Z28 ?_
 refine eqf_cons Z13 Z14 Z14 Z28 ?_
 refine eqf_cons Z13 Z14 Z14 Z28 ?_
 refine eqf_cons Z13 Z14 Z14 Z28 ?_
 exact eqf_last Z13 Z14 Z14 Z28
set_option maxRecDepth 100000 in
theorem msg_Bare.bd (v : Int) : Try.prog.built 88 [(0, .int .i64 v)] = some #[.int .i64 v, .int .i64 0, .int .i64 0, .int .i64 0, .int .i64 0, .int .i64 0, .int .i64 0, .int .i64 0, .int .i64 0, .int .i64 0, .int .i64 0, .int .i64 0, .int .i64 0, .int .i64 0, .int .i64 0, .int .i64 0, .string ⟨#[]⟩, .string ⟨#[]⟩, .string ⟨#[]⟩, .string ⟨#[]⟩, .string ⟨#[]⟩, .string ⟨#[]⟩, .string ⟨#[]⟩] := by kernel_rfl
set_option maxHeartbeats 8000000 in
set_option maxRecDepth 100000 in
theorem msg_Bare.calls (aG : Int) (aA : Int) (aB : Int) (az : ByteArray) (aC : Int) (av : Int) (ax : ByteArray) (aw : Int) (aD : Int) (ay : ByteArray) (ap : Int) (an : ByteArray) (ag : Int) (aq : Int) (ai : Int) (ah : Int) (ak : Int) (al : Int) (ao : Int) (aj : ByteArray) (am : ByteArray) (bf : Option Addr) (bg : Nat) (af : List S61) (ar : Int) (au : ByteArray) (aI : Option Addr) (aJ : Nat) (ab : List S63) (r : Bool) (w : World) (cl : Kd.C k61 w bf af.length af) (cm : af.length ≤ bg) (cn : Kd.C k63 w aI ab.length ab) (co : ab.length ≤ aJ) (h : msg_Bare.f aG aA aB az aC av ax aw aD ay ap an ag aq ai ah ak al ao aj am af ar au ab = some r) :
  Calls Try.prog 51 #[.agg #[.int .i64 aG, .int .i64 aA, .int .i64 aB, .string az, .int .i64 aC, .int .i64 av, .string ax, .int .i64 aw, .int .i64 aD, .string ay, .int .i64 ap, .string an, .int .i64 ag, .int .i64 aq, .int .i64 ai, .int .i64 ah, .int .i64 ak, .int .i64 al, .int .i64 ao, .string aj, .string am, .slice bf af.length bg, .int .i64 ar, .string au, .slice aI ab.length aJ]] w fun e w' => e = .returned (.bool r) ∧ Below w.heap.size w w' := by
 have iu := Try.underlying58
 have hu71 := Try.underlying88
 have da := Aside0.mk cl
 have cF := Aside0.mk cm
 clear cl cm
 have bW := Aside0.mk cn
 have bU := Aside0.mk co
 clear cn co
 have HB := Aside0.mk (Below.refl w.heap.size w)
 have cB := Aside0.mk (Option.some.inj h)
 clear h
 have A2 : Aside0 (msg_strip.f aG aA aB az aC av ax aw aD ay ap an ag aq ai ah ak al ao aj am af ar au ab = some (aG, aA, aB, aC, av, aw, aD, ap, ag, aq, ai, ah, ak, al, ao, ar, az, ax, ay, an, aj, am, au)) := ⟨rfl⟩
 go_enter Try.func51, Try.ntmps51
 go_upto_block 0 with (first | ((with_reducible refine Pre.gate_store 88 rfl ?_); refine Pre.store_abs rfl rfl rfl Z13 Z13 Z25 Z5 Z13 Z13 ?_; intro wS hbS sS; have aH := Aside0.mk (sS.blk Z17 NBmx.out); have aK := Aside0.mk (sS.below Z11 GEx.out); have aL := Aside0.mk hbS; clear BKm HB BKx hbS sS; have BKm := aH; have HB := aK; have BKx := aL; clear aH aK aL; have hcm21 := (blk_cell BKm.out 21).trans rfl; have hcm0 := (blk_cell BKm.out 0).trans rfl) | ((with_reducible refine Pre.gate_load 58 rfl ?_); refine Pre.load_event rfl rfl rfl Z13 Z26 Try.underlying58 rfl Z5 ?_) | ((with_reducible refine gate_dst (N := 1) rfl ?_); refine box_event ?hg (N := 1) ?hd (cs := #[.int .i64 aG, .int .i64 aA, .int .i64 aB, .string az, .int .i64 aC, .int .i64 av, .string ax, .int .i64 aw, .int .i64 aD, .string ay, .int .i64 ap, .string an, .int .i64 ag, .int .i64 aq, .int .i64 ai, .int .i64 ah, .int .i64 ak, .int .i64 al, .int .i64 ao, .string aj, .string am, .slice bf af.length bg, .int .i64 ar, .string au, .slice aI ab.length aJ]) (t := 58) ?hr ?_; (case hd => rfl); (case hg => rfl); (case hr => first | (go_simp; done) | (go_simp; rfl)); intro gm hg w4 hbox hb; have aH := Aside0.mk (below_step Z0 hb); have aK := Aside0.mk hbox; have GEm := Aside0.mk ((by rw [hg]; exact (below_size Z0) : w.heap.size ≤ gm)); replace HB := aH; have BKm := aK; clear aH aK; clear hb hbox hg) | ((with_reducible refine gate_callee (f := 77) rfl ?_); refine goesL_ (some 7) rfl rfl Try.func77 Z5 rfl #[.agg #[.int .i64 aG, .int .i64 aA, .int .i64 aB, .string az, .int .i64 aC, .int .i64 av, .string ax, .int .i64 aw, .int .i64 aD, .string ay, .int .i64 ap, .string an, .int .i64 ag, .int .i64 aq, .int .i64 ai, .int .i64 ah, .int .i64 ak, .int .i64 al, .int .i64 ao, .string aj, .string am, .slice bf af.length bg, .int .i64 ar, .string au, .slice aI ab.length aJ]] rfl (by (try simp only [List.map_toArray, List.map_cons, List.map_nil]); first | done | rfl) ?_; (with_reducible refine (msg_strip.calls aG aA aB az aC av ax aw aD ay ap an ag aq ai ah ak al ao aj am _ _ af ar au _ _ ab aG aA aB aC av aw aD ap ag aq ai ah ak al ao ar az ax ay an aj am au _ ?side1 ?side2 ?side3 ?side4 A2.out).mono ?_); (case side1 => exact Z12); (case side2 => exact cF.out); (case side3 => exact Z21); (case side4 => exact bU.out); rintro e w6 ⟨rfl, hb⟩; refine ⟨_, rfl, ?_⟩; have aH := Aside0.mk (blk_below (g := gm) Z17 hb); have aK := Aside0.mk (below_step Z11 hb); replace BKm := aH; replace HB := aK; clear aH aK; (try clear hb)) | ((with_reducible refine gate_dst (N := 3) rfl ?_); refine box_event ?hg (N := 3) ?hd (cs := #[.int .i64 0, .int .i64 0, .int .i64 0, .int .i64 0, .int .i64 0, .int .i64 0, .int .i64 0, .int .i64 0, .int .i64 0, .int .i64 0, .int .i64 0, .int .i64 0, .int .i64 0, .int .i64 0, .int .i64 0, .int .i64 0, .string ⟨#[]⟩, .string ⟨#[]⟩, .string ⟨#[]⟩, .string ⟨#[]⟩, .string ⟨#[]⟩, .string ⟨#[]⟩, .string ⟨#[]⟩]) (t := 88) ?hr ?_; (case hd => rfl); (case hg => rfl); (case hr => first | (go_simp; done) | (go_simp; rfl)); intro gx hg w7 hbox hb; have aH := Aside0.mk (blk_below (g := gm) Z17 hb); have aK := Aside0.mk (below_step Z11 hb); have aL := Aside0.mk hbox; have GEx := Aside0.mk ((by rw [hg]; exact (below_size Z11) : w.heap.size ≤ gx)); have NBmx := Aside0.mk ((by rw [hg]; exact Nat.ne_of_lt (blk_lt (g := gm) Z17) : gm ≠ gx)); replace BKm := aH; replace HB := aK; have BKx := aL; clear aH aK aL; clear hb hbox hg; have hnb := NBmx.out; have hnc := NBmx.out.symm; (try clear hb)))
 (try simp only [Act.put, List.setIfInBounds_toArray, List.set_cons_zero, List.set_cons_succ])
 go_cut [4, 5] (fun v4 v5 wc => ∃ (b4 b5 : Bool) (p0 : Int) (p1 : Int) (p2 : Int) (p3 : Int) (p4 : Int) (p5 : Int) (p6 : Int) (p7 : Int) (p8 : Int) (p9 : Int) (p10 : Int) (p11 : Int) (p12 : Int) (p13 : Int) (p14 : Int) (p15 : Int) (p16 : ByteArray) (p17 : ByteArray) (p18 : ByteArray) (p19 : ByteArray) (p20 : ByteArray) (p21 : ByteArray) (p22 : ByteArray), v4 = .bool b4 ∧ v5 = .bool b5 ∧ Aside0 (((msg_Bare.z aG p0 p1 p2 p3 p4 p5 p6 p7 p8 p9 p10 p11 p12 p13 p14 p15 p16 p17 p18 p19 p20 p21 p22 && b4) && b5) = r) ∧ Aside0 (wc.heap[gm]? = some (.cells #[.int .i64 aG, .int .i64 aA, .int .i64 aB, .string az, .int .i64 aC, .int .i64 av, .string ax, .int .i64 aw, .int .i64 aD, .string ay, .int .i64 ap, .string an, .int .i64 ag, .int .i64 aq, .int .i64 ai, .int .i64 ah, .int .i64 ak, .int .i64 al, .int .i64 ao, .string aj, .string am, .slice bf af.length bg, .int .i64 ar, .string au, .slice aI ab.length aJ] 58 (0, 0))) ∧ Aside0 (wc.heap[gx]? = some (.cells #[.int .i64 p0, .int .i64 p1, .int .i64 p2, .int .i64 p3, .int .i64 p4, .int .i64 p5, .int .i64 p6, .int .i64 p7, .int .i64 p8, .int .i64 p9, .int .i64 p10, .int .i64 p11, .int .i64 p12, .int .i64 p13, .int .i64 p14, .int .i64 p15, .string p16, .string p17, .string p18, .string p19, .string p20, .string p21, .string p22] 88 (0, 0))) ∧ Aside0 (Below w.heap.size w wc))
 case first =>
  by_cases c1 : aG = 1
  ·subst c1
   have HRES : Aside0 (((msg_Bare.z 1 1 0 0 0 av 0 0 0 ag aq ai ah ak al ao ar (⟨#[]⟩ : ByteArray) (⟨#[]⟩ : ByteArray) (⟨#[]⟩ : ByteArray) an aj am au && ((af.length : Int) == 0)) && ((ab.length : Int) == 0)) = r) := ⟨(msg_Bare.b1 aA aB az aC av ax aw aD ay ap an ag aq ai ah ak al ao aj am af ar au ab).symm.trans cB.out⟩
   clear cB A2
   have hcx1 := (blk_cell BKx.out 1).trans rfl
   have hfx1 := blk_frozen BKx.out 1
   have hcx2 := (blk_cell BKx.out 2).trans rfl
   have hfx2 := blk_frozen BKx.out 2
   have hcx3 := (blk_cell BKx.out 3).trans rfl
   have hfx3 := blk_frozen BKx.out 3
   have hcx5 := (blk_cell BKx.out 5).trans rfl
   have hfx5 := blk_frozen BKx.out 5
   have hcx6 := (blk_cell BKx.out 6).trans rfl
   have hfx6 := blk_frozen BKx.out 6
   have hcx7 := (blk_cell BKx.out 7).trans rfl
   have hfx7 := blk_frozen BKx.out 7
   have hcx16 := (blk_cell BKx.out 16).trans rfl
   have hfx16 := blk_frozen BKx.out 16
   have hcx17 := (blk_cell BKx.out 17).trans rfl
   have hfx17 := blk_frozen BKx.out 17
   have hcx18 := (blk_cell BKx.out 18).trans rfl
   have hfx18 := blk_frozen BKx.out 18
   have hcm24 := (blk_cell BKm.out 24).trans rfl
   go_wp2
   go_meet
   case rel => exact ⟨((af.length : Int) == 0), ((ab.length : Int) == 0), 1, 0, 0, 0, av, 0, 0, 0, ag, aq, ai, ah, ak, al, ao, ar, (⟨#[]⟩ : ByteArray), (⟨#[]⟩ : ByteArray), (⟨#[]⟩ : ByteArray), an, aj, am, au, rfl, rfl, HRES, ⟨(blk_far (blk_far (blk_far (blk_far (blk_far (blk_far (blk_far (blk_far (blk_far BKm.out NBmx.out _) NBmx.out _) NBmx.out _) NBmx.out _) NBmx.out _) NBmx.out _) NBmx.out _) NBmx.out _) NBmx.out _)⟩, ⟨Pre.heap_norm (blk_set (blk_set (blk_set (blk_set (blk_set (blk_set (blk_set (blk_set (blk_set BKx.out 1 _) 6 _) 17 _) 5 _) 18 _) 7 _) 2 _) 16 _) 3 _) Z18⟩, ⟨(below_set (below_set (below_set (below_set (below_set (below_set (below_set (below_set (below_set HB.out GEx.out) GEx.out) GEx.out) GEx.out) GEx.out) GEx.out) GEx.out) GEx.out) GEx.out)⟩⟩
  ·by_cases c2 : aG = 2
   ·subst c2
    have HRES : Aside0 (((msg_Bare.z 2 2 0 aB aC av 0 0 0 ag aq ai ah ak al ao ar az (⟨#[]⟩ : ByteArray) (⟨#[]⟩ : ByteArray) an aj am au && ((af.length : Int) == 0)) && ((ab.length : Int) == 0)) = r) := ⟨(msg_Bare.b2 aA aB az aC av ax aw aD ay ap an ag aq ai ah ak al ao aj am af ar au ab).symm.trans cB.out⟩
    clear cB A2
    have hcx1 := (blk_cell BKx.out 1).trans rfl
    have hfx1 := blk_frozen BKx.out 1
    have hcx5 := (blk_cell BKx.out 5).trans rfl
    have hfx5 := blk_frozen BKx.out 5
    have hcx6 := (blk_cell BKx.out 6).trans rfl
    have hfx6 := blk_frozen BKx.out 6
    have hcx7 := (blk_cell BKx.out 7).trans rfl
    have hfx7 := blk_frozen BKx.out 7
    have hcx17 := (blk_cell BKx.out 17).trans rfl
    have hfx17 := blk_frozen BKx.out 17
    have hcx18 := (blk_cell BKx.out 18).trans rfl
    have hfx18 := blk_frozen BKx.out 18
    have hcm24 := (blk_cell BKm.out 24).trans rfl
    go_wp2
    go_meet
    case rel => exact ⟨((af.length : Int) == 0), ((ab.length : Int) == 0), 2, 0, aB, aC, av, 0, 0, 0, ag, aq, ai, ah, ak, al, ao, ar, az, (⟨#[]⟩ : ByteArray), (⟨#[]⟩ : ByteArray), an, aj, am, au, rfl, rfl, HRES, ⟨(blk_far (blk_far (blk_far (blk_far (blk_far (blk_far BKm.out NBmx.out _) NBmx.out _) NBmx.out _) NBmx.out _) NBmx.out _) NBmx.out _)⟩, ⟨Pre.heap_norm (blk_set (blk_set (blk_set (blk_set (blk_set (blk_set BKx.out 1 _) 6 _) 17 _) 5 _) 18 _) 7 _) Z18⟩, ⟨(below_set (below_set (below_set (below_set (below_set (below_set HB.out GEx.out) GEx.out) GEx.out) GEx.out) GEx.out) GEx.out)⟩⟩
   ·by_cases c3 : aG = 3
    ·subst c3
     have HRES : Aside0 (((msg_Bare.z 3 3 aA aB aC av aw aD ap 0 0 ai 0 0 0 ao ar az ax ay an (⟨#[]⟩ : ByteArray) (⟨#[]⟩ : ByteArray) au && ((af.length : Int) == 0)) && true) = r) := ⟨(msg_Bare.b3 aA aB az aC av ax aw aD ay ap an ag aq ai ah ak al ao aj am af ar au ab).symm.trans cB.out⟩
     clear cB A2
     have hcx8 := (blk_cell BKx.out 8).trans rfl
     have hfx8 := blk_frozen BKx.out 8
     have hcx9 := (blk_cell BKx.out 9).trans rfl
     have hfx9 := blk_frozen BKx.out 9
     have hcx11 := (blk_cell BKx.out 11).trans rfl
     have hfx11 := blk_frozen BKx.out 11
     have hcx12 := (blk_cell BKx.out 12).trans rfl
     have hfx12 := blk_frozen BKx.out 12
     have hcx13 := (blk_cell BKx.out 13).trans rfl
     have hfx13 := blk_frozen BKx.out 13
     have hcx20 := (blk_cell BKx.out 20).trans rfl
     have hfx20 := blk_frozen BKx.out 20
     have hcx21 := (blk_cell BKx.out 21).trans rfl
     have hfx21 := blk_frozen BKx.out 21
     go_wp2
     go_meet
     case rel => exact ⟨((af.length : Int) == 0), true, 3, aA, aB, aC, av, aw, aD, ap, 0, 0, ai, 0, 0, 0, ao, ar, az, ax, ay, an, (⟨#[]⟩ : ByteArray), (⟨#[]⟩ : ByteArray), au, rfl, rfl, HRES, ⟨(blk_far (blk_far (blk_far (blk_far (blk_far (blk_far (blk_far BKm.out NBmx.out _) NBmx.out _) NBmx.out _) NBmx.out _) NBmx.out _) NBmx.out _) NBmx.out _)⟩, ⟨Pre.heap_norm (blk_set (blk_set (blk_set (blk_set (blk_set (blk_set (blk_set BKx.out 11 _) 12 _) 13 _) 20 _) 8 _) 21 _) 9 _) Z18⟩, ⟨(below_set (below_set (below_set (below_set (below_set (below_set (below_set HB.out GEx.out) GEx.out) GEx.out) GEx.out) GEx.out) GEx.out) GEx.out)⟩⟩
    ·by_cases c4 : aG = 4
     ·subst c4
      have HRES : Aside0 (((msg_Bare.z 4 4 aA aB aC av 0 aD ap 0 aq 0 0 0 al ao ar az ax ay an (⟨#[]⟩ : ByteArray) (⟨#[]⟩ : ByteArray) au && ((af.length : Int) == 0)) && true) = r) := ⟨(msg_Bare.b4 aA aB az aC av ax aw aD ay ap an ag aq ai ah ak al ao aj am af ar au ab).symm.trans cB.out⟩
      clear cB A2
      have hcx5 := (blk_cell BKx.out 5).trans rfl
      have hfx5 := blk_frozen BKx.out 5
      have hcx8 := (blk_cell BKx.out 8).trans rfl
      have hfx8 := blk_frozen BKx.out 8
      have hcx10 := (blk_cell BKx.out 10).trans rfl
      have hfx10 := blk_frozen BKx.out 10
      have hcx11 := (blk_cell BKx.out 11).trans rfl
      have hfx11 := blk_frozen BKx.out 11
      have hcx12 := (blk_cell BKx.out 12).trans rfl
      have hfx12 := blk_frozen BKx.out 12
      have hcx20 := (blk_cell BKx.out 20).trans rfl
      have hfx20 := blk_frozen BKx.out 20
      have hcx21 := (blk_cell BKx.out 21).trans rfl
      have hfx21 := blk_frozen BKx.out 21
      go_wp2
      go_meet
      case rel => exact ⟨((af.length : Int) == 0), true, 4, aA, aB, aC, av, 0, aD, ap, 0, aq, 0, 0, 0, al, ao, ar, az, ax, ay, an, (⟨#[]⟩ : ByteArray), (⟨#[]⟩ : ByteArray), au, rfl, rfl, HRES, ⟨(blk_far (blk_far (blk_far (blk_far (blk_far (blk_far (blk_far BKm.out NBmx.out _) NBmx.out _) NBmx.out _) NBmx.out _) NBmx.out _) NBmx.out _) NBmx.out _)⟩, ⟨Pre.heap_norm (blk_set (blk_set (blk_set (blk_set (blk_set (blk_set (blk_set BKx.out 11 _) 5 _) 12 _) 20 _) 8 _) 21 _) 10 _) Z18⟩, ⟨(below_set (below_set (below_set (below_set (below_set (below_set (below_set HB.out GEx.out) GEx.out) GEx.out) GEx.out) GEx.out) GEx.out) GEx.out)⟩⟩
     ·by_cases c5 : aG = 5
      ·subst c5
       have HRES : Aside0 (((msg_Bare.z 5 5 aA aB aC av aw aD ap ag aq ai 0 ak al ao ar az ax ay an aj am au && true) && true) = r) := ⟨(msg_Bare.b5 aA aB az aC av ax aw aD ay ap an ag aq ai ah ak al ao aj am af ar au ab).symm.trans cB.out⟩
       clear cB A2
       have hcx11 := (blk_cell BKx.out 11).trans rfl
       have hfx11 := blk_frozen BKx.out 11
       go_wp2
       go_meet
       case rel => exact ⟨true, true, 5, aA, aB, aC, av, aw, aD, ap, ag, aq, ai, 0, ak, al, ao, ar, az, ax, ay, an, aj, am, au, rfl, rfl, HRES, ⟨(blk_far BKm.out NBmx.out _)⟩, ⟨Pre.heap_norm (blk_set BKx.out 11 _) Z18⟩, ⟨(below_set HB.out GEx.out)⟩⟩
      ·by_cases c6 : aG = 6
       ·subst c6
        have HRES : Aside0 (((msg_Bare.z 6 6 aA aB aC av aw aD ap ag aq ai ah ak al ao ar az ax ay an aj am au && ((af.length : Int) == 0)) && true) = r) := ⟨(msg_Bare.b6 aA aB az aC av ax aw aD ay ap an ag aq ai ah ak al ao aj am af ar au ab).symm.trans cB.out⟩
        clear cB A2
        go_wp2
        go_meet
        case rel => exact ⟨((af.length : Int) == 0), true, 6, aA, aB, aC, av, aw, aD, ap, ag, aq, ai, ah, ak, al, ao, ar, az, ax, ay, an, aj, am, au, rfl, rfl, HRES, BKm, BKx, HB⟩
       ·by_cases c7 : aG = 7
        ·subst c7
         have HRES : Aside0 (((msg_Bare.z 7 7 aA aB aC av aw aD ap ag aq 0 ah ak 0 ao ar az ax ay an aj am au && ((af.length : Int) == 0)) && true) = r) := ⟨(msg_Bare.b7 aA aB az aC av ax aw aD ay ap an ag aq ai ah ak al ao aj am af ar au ab).symm.trans cB.out⟩
         clear cB A2
         have hcx10 := (blk_cell BKx.out 10).trans rfl
         have hfx10 := blk_frozen BKx.out 10
         have hcx13 := (blk_cell BKx.out 13).trans rfl
         have hfx13 := blk_frozen BKx.out 13
         go_wp2
         go_meet
         case rel => exact ⟨((af.length : Int) == 0), true, 7, aA, aB, aC, av, aw, aD, ap, ag, aq, 0, ah, ak, 0, ao, ar, az, ax, ay, an, aj, am, au, rfl, rfl, HRES, ⟨(blk_far (blk_far BKm.out NBmx.out _) NBmx.out _)⟩, ⟨Pre.heap_norm (blk_set (blk_set BKx.out 13 _) 10 _) Z18⟩, ⟨(below_set (below_set HB.out GEx.out) GEx.out)⟩⟩
        ·by_cases c8 : aG = 8
         ·subst c8
          have HRES : Aside0 (((msg_Bare.z 8 8 aA aB aC av aw aD ap ag aq ai ah ak 0 ao ar az ax ay an aj am au && ((af.length : Int) == 0)) && true) = r) := ⟨(msg_Bare.b8 aA aB az aC av ax aw aD ay ap an ag aq ai ah ak al ao aj am af ar au ab).symm.trans cB.out⟩
          clear cB A2
          have hcx13 := (blk_cell BKx.out 13).trans rfl
          have hfx13 := blk_frozen BKx.out 13
          go_wp2
          go_meet
          case rel => exact ⟨((af.length : Int) == 0), true, 8, aA, aB, aC, av, aw, aD, ap, ag, aq, ai, ah, ak, 0, ao, ar, az, ax, ay, an, aj, am, au, rfl, rfl, HRES, ⟨(blk_far BKm.out NBmx.out _)⟩, ⟨Pre.heap_norm (blk_set BKx.out 13 _) Z18⟩, ⟨(below_set HB.out GEx.out)⟩⟩
         ·by_cases c9 : aG = 9
          ·subst c9
           have HRES : Aside0 (((msg_Bare.z 9 9 aA aB aC av aw aD ap 0 aq 0 0 ak al ao ar az ax ay an aj am au && ((af.length : Int) == 0)) && true) = r) := ⟨(msg_Bare.b9 aA aB az aC av ax aw aD ay ap an ag aq ai ah ak al ao aj am af ar au ab).symm.trans cB.out⟩
           clear cB A2
           have hcx8 := (blk_cell BKx.out 8).trans rfl
           have hfx8 := blk_frozen BKx.out 8
           have hcx10 := (blk_cell BKx.out 10).trans rfl
           have hfx10 := blk_frozen BKx.out 10
           have hcx11 := (blk_cell BKx.out 11).trans rfl
           have hfx11 := blk_frozen BKx.out 11
           go_wp2
           go_meet
           case rel => exact ⟨((af.length : Int) == 0), true, 9, aA, aB, aC, av, aw, aD, ap, 0, aq, 0, 0, ak, al, ao, ar, az, ax, ay, an, aj, am, au, rfl, rfl, HRES, ⟨(blk_far (blk_far (blk_far BKm.out NBmx.out _) NBmx.out _) NBmx.out _)⟩, ⟨Pre.heap_norm (blk_set (blk_set (blk_set BKx.out 11 _) 8 _) 10 _) Z18⟩, ⟨(below_set (below_set (below_set HB.out GEx.out) GEx.out) GEx.out)⟩⟩
          ·by_cases dx : aG = 10
           ·subst dx
            have HRES : Aside0 (((msg_Bare.z 10 10 aA aB aC 0 aw aD ap ag aq 0 ah ak al 0 ar az ax ay an (⟨#[]⟩ : ByteArray) am au && ((af.length : Int) == 0)) && true) = r) := ⟨(msg_Bare.b10 aA aB az aC av ax aw aD ay ap an ag aq ai ah ak al ao aj am af ar au ab).symm.trans cB.out⟩
            clear cB A2
            have hcx4 := (blk_cell BKx.out 4).trans rfl
            have hfx4 := blk_frozen BKx.out 4
            have hcx10 := (blk_cell BKx.out 10).trans rfl
            have hfx10 := blk_frozen BKx.out 10
            have hcx14 := (blk_cell BKx.out 14).trans rfl
            have hfx14 := blk_frozen BKx.out 14
            have hcx20 := (blk_cell BKx.out 20).trans rfl
            have hfx20 := blk_frozen BKx.out 20
            go_wp2
            go_meet
            case rel => exact ⟨((af.length : Int) == 0), true, 10, aA, aB, aC, 0, aw, aD, ap, ag, aq, 0, ah, ak, al, 0, ar, az, ax, ay, an, (⟨#[]⟩ : ByteArray), am, au, rfl, rfl, HRES, ⟨(blk_far (blk_far (blk_far (blk_far BKm.out NBmx.out _) NBmx.out _) NBmx.out _) NBmx.out _)⟩, ⟨Pre.heap_norm (blk_set (blk_set (blk_set (blk_set BKx.out 4 _) 14 _) 10 _) 20 _) Z18⟩, ⟨(below_set (below_set (below_set (below_set HB.out GEx.out) GEx.out) GEx.out) GEx.out)⟩⟩
           ·by_cases fq : aG = 11
            ·subst fq
             have HRES : Aside0 (((msg_Bare.z 11 11 aA aB aC 0 0 aD 0 0 aq 0 ah ak al ao ar az (⟨#[]⟩ : ByteArray) (⟨#[]⟩ : ByteArray) (⟨#[]⟩ : ByteArray) aj am au && ((af.length : Int) == 0)) && true) = r) := ⟨(msg_Bare.b11 aA aB az aC av ax aw aD ay ap an ag aq ai ah ak al ao aj am af ar au ab).symm.trans cB.out⟩
             clear cB A2
             have hcx4 := (blk_cell BKx.out 4).trans rfl
             have hfx4 := blk_frozen BKx.out 4
             have hcx5 := (blk_cell BKx.out 5).trans rfl
             have hfx5 := blk_frozen BKx.out 5
             have hcx7 := (blk_cell BKx.out 7).trans rfl
             have hfx7 := blk_frozen BKx.out 7
             have hcx8 := (blk_cell BKx.out 8).trans rfl
             have hfx8 := blk_frozen BKx.out 8
             have hcx10 := (blk_cell BKx.out 10).trans rfl
             have hfx10 := blk_frozen BKx.out 10
             have hcx17 := (blk_cell BKx.out 17).trans rfl
             have hfx17 := blk_frozen BKx.out 17
             have hcx18 := (blk_cell BKx.out 18).trans rfl
             have hfx18 := blk_frozen BKx.out 18
             have hcx19 := (blk_cell BKx.out 19).trans rfl
             have hfx19 := blk_frozen BKx.out 19
             go_wp2
             go_meet
             case rel => exact ⟨((af.length : Int) == 0), true, 11, aA, aB, aC, 0, 0, aD, 0, 0, aq, 0, ah, ak, al, ao, ar, az, (⟨#[]⟩ : ByteArray), (⟨#[]⟩ : ByteArray), (⟨#[]⟩ : ByteArray), aj, am, au, rfl, rfl, HRES, ⟨(blk_far (blk_far (blk_far (blk_far (blk_far (blk_far (blk_far (blk_far BKm.out NBmx.out _) NBmx.out _) NBmx.out _) NBmx.out _) NBmx.out _) NBmx.out _) NBmx.out _) NBmx.out _)⟩, ⟨Pre.heap_norm (blk_set (blk_set (blk_set (blk_set (blk_set (blk_set (blk_set (blk_set BKx.out 4 _) 17 _) 5 _) 10 _) 8 _) 7 _) 19 _) 18 _) Z18⟩, ⟨(below_set (below_set (below_set (below_set (below_set (below_set (below_set (below_set HB.out GEx.out) GEx.out) GEx.out) GEx.out) GEx.out) GEx.out) GEx.out) GEx.out)⟩⟩
            ·by_cases eU : aG = 12
             ·subst eU
              have HRES : Aside0 (((msg_Bare.z 12 12 aA aB aC 0 0 aD ap ag aq ai ah ak al ao ar az (⟨#[]⟩ : ByteArray) ay an aj am au && ((af.length : Int) == 0)) && true) = r) := ⟨(msg_Bare.b12 aA aB az aC av ax aw aD ay ap an ag aq ai ah ak al ao aj am af ar au ab).symm.trans cB.out⟩
              clear cB A2
              have hcx4 := (blk_cell BKx.out 4).trans rfl
              have hfx4 := blk_frozen BKx.out 4
              have hcx5 := (blk_cell BKx.out 5).trans rfl
              have hfx5 := blk_frozen BKx.out 5
              have hcx17 := (blk_cell BKx.out 17).trans rfl
              have hfx17 := blk_frozen BKx.out 17
              go_wp2
              go_meet
              case rel => exact ⟨((af.length : Int) == 0), true, 12, aA, aB, aC, 0, 0, aD, ap, ag, aq, ai, ah, ak, al, ao, ar, az, (⟨#[]⟩ : ByteArray), ay, an, aj, am, au, rfl, rfl, HRES, ⟨(blk_far (blk_far (blk_far BKm.out NBmx.out _) NBmx.out _) NBmx.out _)⟩, ⟨Pre.heap_norm (blk_set (blk_set (blk_set BKx.out 4 _) 17 _) 5 _) Z18⟩, ⟨(below_set (below_set (below_set HB.out GEx.out) GEx.out) GEx.out)⟩⟩
             ·by_cases eV : aG = 13
              ·subst eV
               have HRES : Aside0 (((msg_Bare.z 13 13 aA aB aC 0 0 aD ap 0 aq ai ah 0 al ao ar az (⟨#[]⟩ : ByteArray) ay (⟨#[]⟩ : ByteArray) aj am au && ((af.length : Int) == 0)) && true) = r) := ⟨(msg_Bare.b13 aA aB az aC av ax aw aD ay ap an ag aq ai ah ak al ao aj am af ar au ab).symm.trans cB.out⟩
               clear cB A2
               have hcx4 := (blk_cell BKx.out 4).trans rfl
               have hfx4 := blk_frozen BKx.out 4
               have hcx5 := (blk_cell BKx.out 5).trans rfl
               have hfx5 := blk_frozen BKx.out 5
               have hcx8 := (blk_cell BKx.out 8).trans rfl
               have hfx8 := blk_frozen BKx.out 8
               have hcx12 := (blk_cell BKx.out 12).trans rfl
               have hfx12 := blk_frozen BKx.out 12
               have hcx17 := (blk_cell BKx.out 17).trans rfl
               have hfx17 := blk_frozen BKx.out 17
               have hcx19 := (blk_cell BKx.out 19).trans rfl
               have hfx19 := blk_frozen BKx.out 19
               go_wp2
               go_meet
               case rel => exact ⟨((af.length : Int) == 0), true, 13, aA, aB, aC, 0, 0, aD, ap, 0, aq, ai, ah, 0, al, ao, ar, az, (⟨#[]⟩ : ByteArray), ay, (⟨#[]⟩ : ByteArray), aj, am, au, rfl, rfl, HRES, ⟨(blk_far (blk_far (blk_far (blk_far (blk_far (blk_far BKm.out NBmx.out _) NBmx.out _) NBmx.out _) NBmx.out _) NBmx.out _) NBmx.out _)⟩, ⟨Pre.heap_norm (blk_set (blk_set (blk_set (blk_set (blk_set (blk_set BKx.out 4 _) 17 _) 5 _) 8 _) 12 _) 19 _) Z18⟩, ⟨(below_set (below_set (below_set (below_set (below_set (below_set HB.out GEx.out) GEx.out) GEx.out) GEx.out) GEx.out) GEx.out)⟩⟩
              ·by_cases fr : aG = 14
               ·subst fr
                have HRES : Aside0 (((msg_Bare.z 14 14 aA aB aC av aw aD ap ag aq ai ah ak al ao 0 az ax ay an aj am (⟨#[]⟩ : ByteArray) && ((af.length : Int) == 0)) && ((ab.length : Int) == 0)) = r) := ⟨(msg_Bare.b14 aA aB az aC av ax aw aD ay ap an ag aq ai ah ak al ao aj am af ar au ab).symm.trans cB.out⟩
                clear cB A2
                have hcx15 := (blk_cell BKx.out 15).trans rfl
                have hfx15 := blk_frozen BKx.out 15
                have hcx22 := (blk_cell BKx.out 22).trans rfl
                have hfx22 := blk_frozen BKx.out 22
                have hcm24 := (blk_cell BKm.out 24).trans rfl
                go_wp2
                go_meet
                case rel => exact ⟨((af.length : Int) == 0), ((ab.length : Int) == 0), 14, aA, aB, aC, av, aw, aD, ap, ag, aq, ai, ah, ak, al, ao, 0, az, ax, ay, an, aj, am, (⟨#[]⟩ : ByteArray), rfl, rfl, HRES, ⟨(blk_far (blk_far BKm.out NBmx.out _) NBmx.out _)⟩, ⟨Pre.heap_norm (blk_set (blk_set BKx.out 15 _) 22 _) Z18⟩, ⟨(below_set (below_set HB.out GEx.out) GEx.out)⟩⟩
               ·obtain rfl : r = false := cB.out.symm.trans (msg_Bare.bno aG aA aB az aC av ax aw aD ay ap an ag aq ai ah ak al ao aj am af ar au ab Z27)
                have d1 : (aG == 1) = false := beq_eq_false_iff_ne.mpr c1
                have d2 : (aG == 2) = false := beq_eq_false_iff_ne.mpr c2
                have d3 : (aG == 3) = false := beq_eq_false_iff_ne.mpr c3
                have d4 : (aG == 4) = false := beq_eq_false_iff_ne.mpr c4
                have d5 : (aG == 5) = false := beq_eq_false_iff_ne.mpr c5
                have d6 : (aG == 6) = false := beq_eq_false_iff_ne.mpr c6
                have d7 : (aG == 7) = false := beq_eq_false_iff_ne.mpr c7
                have d8 : (aG == 8) = false := beq_eq_false_iff_ne.mpr c8
                have d9 : (aG == 9) = false := beq_eq_false_iff_ne.mpr c9
                have d10 : (aG == 10) = false := beq_eq_false_iff_ne.mpr dx
                have d11 : (aG == 11) = false := beq_eq_false_iff_ne.mpr fq
                have d12 : (aG == 12) = false := beq_eq_false_iff_ne.mpr eU
                have d13 : (aG == 13) = false := beq_eq_false_iff_ne.mpr eV
                have d14 : (aG == 14) = false := beq_eq_false_iff_ne.mpr fr
                clear c1 c2 c3 c4 c5 c6 c7 c8 c9 dx fq eU eV fr cB
                go_wp2
                go_ret
                exact ⟨rfl, Z20⟩
 case rest =>
  clear hcm0 hcm21 cB A2 BKm BKx HB
  obtain ⟨b4, b5, p0, p1, p2, p3, p4, p5, p6, p7, p8, p9, p10, p11, p12, p13, p14, p15, p16, p17, p18, p19, p20, p21, p22, rfl, rfl, HRES, BKm, BKx, HB⟩ := hcut
  have hcm0 := (blk_cell BKm.out 0).trans rfl
  have hE := fun (d : Nat) (w : World) => msg_Bare.eqz d w aG p0 p1 p2 p3 p4 p5 p6 p7 p8 p9 p10 p11 p12 p13 p14 p15 p16 p17 p18 p19 p20 p21 p22
  generalize msg_Bare.z aG p0 p1 p2 p3 p4 p5 p6 p7 p8 p9 p10 p11 p12 p13 p14 p15 p16 p17 p18 p19 p20 p21 p22 = bz at HRES hE
  cases bz <;> cases b4 <;> cases b5
  all_goals
   obtain rfl := HRES.out
   clear HRES
   go_wp2_with (first | ((with_reducible refine Pre.gate_load 88 rfl ?_); refine Pre.load_event rfl rfl rfl Z13 Z26 Try.underlying88 rfl Z5 ?_) | ((with_reducible refine gate_dst (N := 108) rfl ?_); refine Pre.build_event 108 88 [(0, .tmp 107)] rfl rfl rfl (msg_Bare.bd _) ?_))
   go_ret
   exact ⟨rfl, Z20⟩

end Go.Proofs.Ytelcciekdoccfaa.PM
