-- Written by mp.py, a program of this work (wip/tools), out of the translation; Lean checks it.
import Derived.Test.YtccjakjjaemmkaaPRx0
import Derived.Test.YtccjakjjaemmkaaPRxmsg
import Derived.Test.YtccjakjjaemmkaaBuild
import Derived.Test.YtccjakjjaemmkaaStore
namespace Go.Proofs.Ytccjakjjaemmkaa.PR
open Go.RowKit Go.Proofs.YtccjakjjaemmkaaW.PrintWords Go.Proofs.YtccjakjjaemmkaaW.PrintLast Go.Proofs.YtccjakjjaemmkaaW.PrintMore
attribute [local go_sem] max2_int min2_int max_two min_two max_three min_three max_four min_four   -- for this text's walks alone
set_option linter.unusedVariables false
set_option linter.unusedSimpArgs false

/-! ### msg_Bare: function 53 -/
def msg_Bare.z (k : Int) (p0 : Int) (p1 : Int) (p2 : Int) (p3 : Int) (p4 : Int) (p5 : Int) (p6 : Int) (p7 : Int) (p8 : Int) (p9 : Int) (p10 : Int) (p11 : Int) (p12 : Int) (p13 : Int) (p14 : Int) (p15 : Int) (p16 : ByteArray) (p17 : ByteArray) (p18 : ByteArray) (p19 : ByteArray) (p20 : ByteArray) (p21 : ByteArray) (p22 : ByteArray) : Bool := (p0 == k && (p1 == 0 && (p2 == 0 && (p3 == 0 && (p4 == 0 && (p5 == 0 && (p6 == 0 && (p7 == 0 && (p8 == 0 && (p9 == 0 && (p10 == 0 && (p11 == 0 && (p12 == 0 && (p13 == 0 && (p14 == 0 && (p15 == 0 && (p16.toList == (⟨#[]⟩ : ByteArray).toList && (p17.toList == (⟨#[]⟩ : ByteArray).toList && (p18.toList == (⟨#[]⟩ : ByteArray).toList && (p19.toList == (⟨#[]⟩ : ByteArray).toList && (p20.toList == (⟨#[]⟩ : ByteArray).toList && (p21.toList == (⟨#[]⟩ : ByteArray).toList && (p22.toList == (⟨#[]⟩ : ByteArray).toList)))))))))))))))))))))))
def msg_Bare.b (a0_0 : Int) (a0_1 : Int) (a0_2 : Int) (a0_3 : ByteArray) (a0_4 : Int) (a0_5 : Int) (a0_6 : ByteArray) (a0_7 : Int) (a0_8 : Int) (a0_9 : ByteArray) (a0_10 : Int) (a0_11 : ByteArray) (a0_12 : Int) (a0_13 : Int) (a0_14 : Int) (a0_15 : Int) (a0_16 : Int) (a0_17 : Int) (a0_18 : Int) (a0_19 : ByteArray) (a0_20 : ByteArray) (l0_21 : List S46) (a0_22 : Int) (a0_23 : ByteArray) (l0_24 : List S48) : Bool := if a0_0 = 1 then (msg_Bare.z 1 1 0 0 0 a0_5 0 0 0 a0_12 a0_13 a0_14 a0_15 a0_16 a0_17 a0_18 a0_22 (⟨#[]⟩ : ByteArray) (⟨#[]⟩ : ByteArray) (⟨#[]⟩ : ByteArray) a0_11 a0_19 a0_20 a0_23 && ((l0_21.length : Int) == 0)) && ((l0_24.length : Int) == 0) else if a0_0 = 2 then (msg_Bare.z 2 2 0 a0_2 a0_4 a0_5 0 0 0 a0_12 a0_13 a0_14 a0_15 a0_16 a0_17 a0_18 a0_22 a0_3 (⟨#[]⟩ : ByteArray) (⟨#[]⟩ : ByteArray) a0_11 a0_19 a0_20 a0_23 && ((l0_21.length : Int) == 0)) && ((l0_24.length : Int) == 0) else if a0_0 = 3 then (msg_Bare.z 3 3 a0_1 a0_2 a0_4 a0_5 a0_7 a0_8 a0_10 0 0 a0_14 0 0 0 a0_18 a0_22 a0_3 a0_6 a0_9 a0_11 (⟨#[]⟩ : ByteArray) (⟨#[]⟩ : ByteArray) a0_23 && ((l0_21.length : Int) == 0)) && true else if a0_0 = 4 then (msg_Bare.z 4 4 a0_1 a0_2 a0_4 a0_5 0 a0_8 a0_10 0 a0_13 0 0 0 a0_17 a0_18 a0_22 a0_3 a0_6 a0_9 a0_11 (⟨#[]⟩ : ByteArray) (⟨#[]⟩ : ByteArray) a0_23 && ((l0_21.length : Int) == 0)) && true else if a0_0 = 5 then (msg_Bare.z 5 5 a0_1 a0_2 a0_4 a0_5 a0_7 a0_8 a0_10 a0_12 a0_13 a0_14 0 a0_16 a0_17 a0_18 a0_22 a0_3 a0_6 a0_9 a0_11 a0_19 a0_20 a0_23 && true) && true else if a0_0 = 6 then (msg_Bare.z 6 6 a0_1 a0_2 a0_4 a0_5 a0_7 a0_8 a0_10 a0_12 a0_13 a0_14 a0_15 a0_16 a0_17 a0_18 a0_22 a0_3 a0_6 a0_9 a0_11 a0_19 a0_20 a0_23 && ((l0_21.length : Int) == 0)) && true else if a0_0 = 7 then (msg_Bare.z 7 7 a0_1 a0_2 a0_4 a0_5 a0_7 a0_8 a0_10 a0_12 a0_13 0 a0_15 a0_16 0 a0_18 a0_22 a0_3 a0_6 a0_9 a0_11 a0_19 a0_20 a0_23 && ((l0_21.length : Int) == 0)) && true else if a0_0 = 8 then (msg_Bare.z 8 8 a0_1 a0_2 a0_4 a0_5 a0_7 a0_8 a0_10 a0_12 a0_13 a0_14 a0_15 a0_16 0 a0_18 a0_22 a0_3 a0_6 a0_9 a0_11 a0_19 a0_20 a0_23 && ((l0_21.length : Int) == 0)) && true else if a0_0 = 9 then (msg_Bare.z 9 9 a0_1 a0_2 a0_4 a0_5 a0_7 a0_8 a0_10 0 a0_13 0 0 a0_16 a0_17 a0_18 a0_22 a0_3 a0_6 a0_9 a0_11 a0_19 a0_20 a0_23 && ((l0_21.length : Int) == 0)) && true else if a0_0 = 10 then (msg_Bare.z 10 10 a0_1 a0_2 a0_4 0 a0_7 a0_8 a0_10 a0_12 a0_13 0 a0_15 a0_16 a0_17 0 a0_22 a0_3 a0_6 a0_9 a0_11 (⟨#[]⟩ : ByteArray) a0_20 a0_23 && ((l0_21.length : Int) == 0)) && true else if a0_0 = 11 then (msg_Bare.z 11 11 a0_1 a0_2 a0_4 0 0 a0_8 0 0 a0_13 0 a0_15 a0_16 a0_17 a0_18 a0_22 a0_3 (⟨#[]⟩ : ByteArray) (⟨#[]⟩ : ByteArray) (⟨#[]⟩ : ByteArray) a0_19 a0_20 a0_23 && ((l0_21.length : Int) == 0)) && true else if a0_0 = 12 then (msg_Bare.z 12 12 a0_1 a0_2 a0_4 0 0 a0_8 a0_10 a0_12 a0_13 a0_14 a0_15 a0_16 a0_17 a0_18 a0_22 a0_3 (⟨#[]⟩ : ByteArray) a0_9 a0_11 a0_19 a0_20 a0_23 && ((l0_21.length : Int) == 0)) && true else if a0_0 = 13 then (msg_Bare.z 13 13 a0_1 a0_2 a0_4 0 0 a0_8 a0_10 0 a0_13 a0_14 a0_15 0 a0_17 a0_18 a0_22 a0_3 (⟨#[]⟩ : ByteArray) a0_9 (⟨#[]⟩ : ByteArray) a0_19 a0_20 a0_23 && ((l0_21.length : Int) == 0)) && true else if a0_0 = 14 then (msg_Bare.z 14 14 a0_1 a0_2 a0_4 a0_5 a0_7 a0_8 a0_10 a0_12 a0_13 a0_14 a0_15 a0_16 a0_17 a0_18 0 a0_3 a0_6 a0_9 a0_11 a0_19 a0_20 (⟨#[]⟩ : ByteArray) && ((l0_21.length : Int) == 0)) && ((l0_24.length : Int) == 0) else false
def msg_Bare.f (a0_0 : Int) (a0_1 : Int) (a0_2 : Int) (a0_3 : ByteArray) (a0_4 : Int) (a0_5 : Int) (a0_6 : ByteArray) (a0_7 : Int) (a0_8 : Int) (a0_9 : ByteArray) (a0_10 : Int) (a0_11 : ByteArray) (a0_12 : Int) (a0_13 : Int) (a0_14 : Int) (a0_15 : Int) (a0_16 : Int) (a0_17 : Int) (a0_18 : Int) (a0_19 : ByteArray) (a0_20 : ByteArray) (l0_21 : List S46) (a0_22 : Int) (a0_23 : ByteArray) (l0_24 : List S48) : Option Bool := some (msg_Bare.b a0_0 a0_1 a0_2 a0_3 a0_4 a0_5 a0_6 a0_7 a0_8 a0_9 a0_10 a0_11 a0_12 a0_13 a0_14 a0_15 a0_16 a0_17 a0_18 a0_19 a0_20 l0_21 a0_22 a0_23 l0_24)
theorem msg_Bare.b1 (a0_1 : Int) (a0_2 : Int) (a0_3 : ByteArray) (a0_4 : Int) (a0_5 : Int) (a0_6 : ByteArray) (a0_7 : Int) (a0_8 : Int) (a0_9 : ByteArray) (a0_10 : Int) (a0_11 : ByteArray) (a0_12 : Int) (a0_13 : Int) (a0_14 : Int) (a0_15 : Int) (a0_16 : Int) (a0_17 : Int) (a0_18 : Int) (a0_19 : ByteArray) (a0_20 : ByteArray) (l0_21 : List S46) (a0_22 : Int) (a0_23 : ByteArray) (l0_24 : List S48) : msg_Bare.b 1 a0_1 a0_2 a0_3 a0_4 a0_5 a0_6 a0_7 a0_8 a0_9 a0_10 a0_11 a0_12 a0_13 a0_14 a0_15 a0_16 a0_17 a0_18 a0_19 a0_20 l0_21 a0_22 a0_23 l0_24 = ((msg_Bare.z 1 1 0 0 0 a0_5 0 0 0 a0_12 a0_13 a0_14 a0_15 a0_16 a0_17 a0_18 a0_22 (⟨#[]⟩ : ByteArray) (⟨#[]⟩ : ByteArray) (⟨#[]⟩ : ByteArray) a0_11 a0_19 a0_20 a0_23 && ((l0_21.length : Int) == 0)) && ((l0_24.length : Int) == 0)) := by
  unfold msg_Bare.b
  simp (config := {decide := true}) only [if_true, if_false]
theorem msg_Bare.b2 (a0_1 : Int) (a0_2 : Int) (a0_3 : ByteArray) (a0_4 : Int) (a0_5 : Int) (a0_6 : ByteArray) (a0_7 : Int) (a0_8 : Int) (a0_9 : ByteArray) (a0_10 : Int) (a0_11 : ByteArray) (a0_12 : Int) (a0_13 : Int) (a0_14 : Int) (a0_15 : Int) (a0_16 : Int) (a0_17 : Int) (a0_18 : Int) (a0_19 : ByteArray) (a0_20 : ByteArray) (l0_21 : List S46) (a0_22 : Int) (a0_23 : ByteArray) (l0_24 : List S48) : msg_Bare.b 2 a0_1 a0_2 a0_3 a0_4 a0_5 a0_6 a0_7 a0_8 a0_9 a0_10 a0_11 a0_12 a0_13 a0_14 a0_15 a0_16 a0_17 a0_18 a0_19 a0_20 l0_21 a0_22 a0_23 l0_24 = ((msg_Bare.z 2 2 0 a0_2 a0_4 a0_5 0 0 0 a0_12 a0_13 a0_14 a0_15 a0_16 a0_17 a0_18 a0_22 a0_3 (⟨#[]⟩ : ByteArray) (⟨#[]⟩ : ByteArray) a0_11 a0_19 a0_20 a0_23 && ((l0_21.length : Int) == 0)) && ((l0_24.length : Int) == 0)) := by
  unfold msg_Bare.b
  simp (config := {decide := true}) only [if_true, if_false]
theorem msg_Bare.b3 (a0_1 : Int) (a0_2 : Int) (a0_3 : ByteArray) (a0_4 : Int) (a0_5 : Int) (a0_6 : ByteArray) (a0_7 : Int) (a0_8 : Int) (a0_9 : ByteArray) (a0_10 : Int) (a0_11 : ByteArray) (a0_12 : Int) (a0_13 : Int) (a0_14 : Int) (a0_15 : Int) (a0_16 : Int) (a0_17 : Int) (a0_18 : Int) (a0_19 : ByteArray) (a0_20 : ByteArray) (l0_21 : List S46) (a0_22 : Int) (a0_23 : ByteArray) (l0_24 : List S48) : msg_Bare.b 3 a0_1 a0_2 a0_3 a0_4 a0_5 a0_6 a0_7 a0_8 a0_9 a0_10 a0_11 a0_12 a0_13 a0_14 a0_15 a0_16 a0_17 a0_18 a0_19 a0_20 l0_21 a0_22 a0_23 l0_24 = ((msg_Bare.z 3 3 a0_1 a0_2 a0_4 a0_5 a0_7 a0_8 a0_10 0 0 a0_14 0 0 0 a0_18 a0_22 a0_3 a0_6 a0_9 a0_11 (⟨#[]⟩ : ByteArray) (⟨#[]⟩ : ByteArray) a0_23 && ((l0_21.length : Int) == 0)) && true) := by
  unfold msg_Bare.b
  simp (config := {decide := true}) only [if_true, if_false]
theorem msg_Bare.b4 (a0_1 : Int) (a0_2 : Int) (a0_3 : ByteArray) (a0_4 : Int) (a0_5 : Int) (a0_6 : ByteArray) (a0_7 : Int) (a0_8 : Int) (a0_9 : ByteArray) (a0_10 : Int) (a0_11 : ByteArray) (a0_12 : Int) (a0_13 : Int) (a0_14 : Int) (a0_15 : Int) (a0_16 : Int) (a0_17 : Int) (a0_18 : Int) (a0_19 : ByteArray) (a0_20 : ByteArray) (l0_21 : List S46) (a0_22 : Int) (a0_23 : ByteArray) (l0_24 : List S48) : msg_Bare.b 4 a0_1 a0_2 a0_3 a0_4 a0_5 a0_6 a0_7 a0_8 a0_9 a0_10 a0_11 a0_12 a0_13 a0_14 a0_15 a0_16 a0_17 a0_18 a0_19 a0_20 l0_21 a0_22 a0_23 l0_24 = ((msg_Bare.z 4 4 a0_1 a0_2 a0_4 a0_5 0 a0_8 a0_10 0 a0_13 0 0 0 a0_17 a0_18 a0_22 a0_3 a0_6 a0_9 a0_11 (⟨#[]⟩ : ByteArray) (⟨#[]⟩ : ByteArray) a0_23 && ((l0_21.length : Int) == 0)) && true) := by
  unfold msg_Bare.b
  simp (config := {decide := true}) only [if_true, if_false]
theorem msg_Bare.b5 (a0_1 : Int) (a0_2 : Int) (a0_3 : ByteArray) (a0_4 : Int) (a0_5 : Int) (a0_6 : ByteArray) (a0_7 : Int) (a0_8 : Int) (a0_9 : ByteArray) (a0_10 : Int) (a0_11 : ByteArray) (a0_12 : Int) (a0_13 : Int) (a0_14 : Int) (a0_15 : Int) (a0_16 : Int) (a0_17 : Int) (a0_18 : Int) (a0_19 : ByteArray) (a0_20 : ByteArray) (l0_21 : List S46) (a0_22 : Int) (a0_23 : ByteArray) (l0_24 : List S48) : msg_Bare.b 5 a0_1 a0_2 a0_3 a0_4 a0_5 a0_6 a0_7 a0_8 a0_9 a0_10 a0_11 a0_12 a0_13 a0_14 a0_15 a0_16 a0_17 a0_18 a0_19 a0_20 l0_21 a0_22 a0_23 l0_24 = ((msg_Bare.z 5 5 a0_1 a0_2 a0_4 a0_5 a0_7 a0_8 a0_10 a0_12 a0_13 a0_14 0 a0_16 a0_17 a0_18 a0_22 a0_3 a0_6 a0_9 a0_11 a0_19 a0_20 a0_23 && true) && true) := by
  unfold msg_Bare.b
  simp (config := {decide := true}) only [if_true, if_false]
theorem msg_Bare.b6 (a0_1 : Int) (a0_2 : Int) (a0_3 : ByteArray) (a0_4 : Int) (a0_5 : Int) (a0_6 : ByteArray) (a0_7 : Int) (a0_8 : Int) (a0_9 : ByteArray) (a0_10 : Int) (a0_11 : ByteArray) (a0_12 : Int) (a0_13 : Int) (a0_14 : Int) (a0_15 : Int) (a0_16 : Int) (a0_17 : Int) (a0_18 : Int) (a0_19 : ByteArray) (a0_20 : ByteArray) (l0_21 : List S46) (a0_22 : Int) (a0_23 : ByteArray) (l0_24 : List S48) : msg_Bare.b 6 a0_1 a0_2 a0_3 a0_4 a0_5 a0_6 a0_7 a0_8 a0_9 a0_10 a0_11 a0_12 a0_13 a0_14 a0_15 a0_16 a0_17 a0_18 a0_19 a0_20 l0_21 a0_22 a0_23 l0_24 = ((msg_Bare.z 6 6 a0_1 a0_2 a0_4 a0_5 a0_7 a0_8 a0_10 a0_12 a0_13 a0_14 a0_15 a0_16 a0_17 a0_18 a0_22 a0_3 a0_6 a0_9 a0_11 a0_19 a0_20 a0_23 && ((l0_21.length : Int) == 0)) && true) := by
  unfold msg_Bare.b
  simp (config := {decide := true}) only [if_true, if_false]
theorem msg_Bare.b7 (a0_1 : Int) (a0_2 : Int) (a0_3 : ByteArray) (a0_4 : Int) (a0_5 : Int) (a0_6 : ByteArray) (a0_7 : Int) (a0_8 : Int) (a0_9 : ByteArray) (a0_10 : Int) (a0_11 : ByteArray) (a0_12 : Int) (a0_13 : Int) (a0_14 : Int) (a0_15 : Int) (a0_16 : Int) (a0_17 : Int) (a0_18 : Int) (a0_19 : ByteArray) (a0_20 : ByteArray) (l0_21 : List S46) (a0_22 : Int) (a0_23 : ByteArray) (l0_24 : List S48) : msg_Bare.b 7 a0_1 a0_2 a0_3 a0_4 a0_5 a0_6 a0_7 a0_8 a0_9 a0_10 a0_11 a0_12 a0_13 a0_14 a0_15 a0_16 a0_17 a0_18 a0_19 a0_20 l0_21 a0_22 a0_23 l0_24 = ((msg_Bare.z 7 7 a0_1 a0_2 a0_4 a0_5 a0_7 a0_8 a0_10 a0_12 a0_13 0 a0_15 a0_16 0 a0_18 a0_22 a0_3 a0_6 a0_9 a0_11 a0_19 a0_20 a0_23 && ((l0_21.length : Int) == 0)) && true) := by
  unfold msg_Bare.b
  simp (config := {decide := true}) only [if_true, if_false]
theorem msg_Bare.b8 (a0_1 : Int) (a0_2 : Int) (a0_3 : ByteArray) (a0_4 : Int) (a0_5 : Int) (a0_6 : ByteArray) (a0_7 : Int) (a0_8 : Int) (a0_9 : ByteArray) (a0_10 : Int) (a0_11 : ByteArray) (a0_12 : Int) (a0_13 : Int) (a0_14 : Int) (a0_15 : Int) (a0_16 : Int) (a0_17 : Int) (a0_18 : Int) (a0_19 : ByteArray) (a0_20 : ByteArray) (l0_21 : List S46) (a0_22 : Int) (a0_23 : ByteArray) (l0_24 : List S48) : msg_Bare.b 8 a0_1 a0_2 a0_3 a0_4 a0_5 a0_6 a0_7 a0_8 a0_9 a0_10 a0_11 a0_12 a0_13 a0_14 a0_15 a0_16 a0_17 a0_18 a0_19 a0_20 l0_21 a0_22 a0_23 l0_24 = ((msg_Bare.z 8 8 a0_1 a0_2 a0_4 a0_5 a0_7 a0_8 a0_10 a0_12 a0_13 a0_14 a0_15 a0_16 0 a0_18 a0_22 a0_3 a0_6 a0_9 a0_11 a0_19 a0_20 a0_23 && ((l0_21.length : Int) == 0)) && true) := by
  unfold msg_Bare.b
  simp (config := {decide := true}) only [if_true, if_false]
theorem msg_Bare.b9 (a0_1 : Int) (a0_2 : Int) (a0_3 : ByteArray) (a0_4 : Int) (a0_5 : Int) (a0_6 : ByteArray) (a0_7 : Int) (a0_8 : Int) (a0_9 : ByteArray) (a0_10 : Int) (a0_11 : ByteArray) (a0_12 : Int) (a0_13 : Int) (a0_14 : Int) (a0_15 : Int) (a0_16 : Int) (a0_17 : Int) (a0_18 : Int) (a0_19 : ByteArray) (a0_20 : ByteArray) (l0_21 : List S46) (a0_22 : Int) (a0_23 : ByteArray) (l0_24 : List S48) : msg_Bare.b 9 a0_1 a0_2 a0_3 a0_4 a0_5 a0_6 a0_7 a0_8 a0_9 a0_10 a0_11 a0_12 a0_13 a0_14 a0_15 a0_16 a0_17 a0_18 a0_19 a0_20 l0_21 a0_22 a0_23 l0_24 = ((msg_Bare.z 9 9 a0_1 a0_2 a0_4 a0_5 a0_7 a0_8 a0_10 0 a0_13 0 0 a0_16 a0_17 a0_18 a0_22 a0_3 a0_6 a0_9 a0_11 a0_19 a0_20 a0_23 && ((l0_21.length : Int) == 0)) && true) := by
  unfold msg_Bare.b
  simp (config := {decide := true}) only [if_true, if_false]
theorem msg_Bare.b10 (a0_1 : Int) (a0_2 : Int) (a0_3 : ByteArray) (a0_4 : Int) (a0_5 : Int) (a0_6 : ByteArray) (a0_7 : Int) (a0_8 : Int) (a0_9 : ByteArray) (a0_10 : Int) (a0_11 : ByteArray) (a0_12 : Int) (a0_13 : Int) (a0_14 : Int) (a0_15 : Int) (a0_16 : Int) (a0_17 : Int) (a0_18 : Int) (a0_19 : ByteArray) (a0_20 : ByteArray) (l0_21 : List S46) (a0_22 : Int) (a0_23 : ByteArray) (l0_24 : List S48) : msg_Bare.b 10 a0_1 a0_2 a0_3 a0_4 a0_5 a0_6 a0_7 a0_8 a0_9 a0_10 a0_11 a0_12 a0_13 a0_14 a0_15 a0_16 a0_17 a0_18 a0_19 a0_20 l0_21 a0_22 a0_23 l0_24 = ((msg_Bare.z 10 10 a0_1 a0_2 a0_4 0 a0_7 a0_8 a0_10 a0_12 a0_13 0 a0_15 a0_16 a0_17 0 a0_22 a0_3 a0_6 a0_9 a0_11 (⟨#[]⟩ : ByteArray) a0_20 a0_23 && ((l0_21.length : Int) == 0)) && true) := by
  unfold msg_Bare.b
  simp (config := {decide := true}) only [if_true, if_false]
theorem msg_Bare.b11 (a0_1 : Int) (a0_2 : Int) (a0_3 : ByteArray) (a0_4 : Int) (a0_5 : Int) (a0_6 : ByteArray) (a0_7 : Int) (a0_8 : Int) (a0_9 : ByteArray) (a0_10 : Int) (a0_11 : ByteArray) (a0_12 : Int) (a0_13 : Int) (a0_14 : Int) (a0_15 : Int) (a0_16 : Int) (a0_17 : Int) (a0_18 : Int) (a0_19 : ByteArray) (a0_20 : ByteArray) (l0_21 : List S46) (a0_22 : Int) (a0_23 : ByteArray) (l0_24 : List S48) : msg_Bare.b 11 a0_1 a0_2 a0_3 a0_4 a0_5 a0_6 a0_7 a0_8 a0_9 a0_10 a0_11 a0_12 a0_13 a0_14 a0_15 a0_16 a0_17 a0_18 a0_19 a0_20 l0_21 a0_22 a0_23 l0_24 = ((msg_Bare.z 11 11 a0_1 a0_2 a0_4 0 0 a0_8 0 0 a0_13 0 a0_15 a0_16 a0_17 a0_18 a0_22 a0_3 (⟨#[]⟩ : ByteArray) (⟨#[]⟩ : ByteArray) (⟨#[]⟩ : ByteArray) a0_19 a0_20 a0_23 && ((l0_21.length : Int) == 0)) && true) := by
  unfold msg_Bare.b
  simp (config := {decide := true}) only [if_true, if_false]
theorem msg_Bare.b12 (a0_1 : Int) (a0_2 : Int) (a0_3 : ByteArray) (a0_4 : Int) (a0_5 : Int) (a0_6 : ByteArray) (a0_7 : Int) (a0_8 : Int) (a0_9 : ByteArray) (a0_10 : Int) (a0_11 : ByteArray) (a0_12 : Int) (a0_13 : Int) (a0_14 : Int) (a0_15 : Int) (a0_16 : Int) (a0_17 : Int) (a0_18 : Int) (a0_19 : ByteArray) (a0_20 : ByteArray) (l0_21 : List S46) (a0_22 : Int) (a0_23 : ByteArray) (l0_24 : List S48) : msg_Bare.b 12 a0_1 a0_2 a0_3 a0_4 a0_5 a0_6 a0_7 a0_8 a0_9 a0_10 a0_11 a0_12 a0_13 a0_14 a0_15 a0_16 a0_17 a0_18 a0_19 a0_20 l0_21 a0_22 a0_23 l0_24 = ((msg_Bare.z 12 12 a0_1 a0_2 a0_4 0 0 a0_8 a0_10 a0_12 a0_13 a0_14 a0_15 a0_16 a0_17 a0_18 a0_22 a0_3 (⟨#[]⟩ : ByteArray) a0_9 a0_11 a0_19 a0_20 a0_23 && ((l0_21.length : Int) == 0)) && true) := by
  unfold msg_Bare.b
  simp (config := {decide := true}) only [if_true, if_false]
theorem msg_Bare.b13 (a0_1 : Int) (a0_2 : Int) (a0_3 : ByteArray) (a0_4 : Int) (a0_5 : Int) (a0_6 : ByteArray) (a0_7 : Int) (a0_8 : Int) (a0_9 : ByteArray) (a0_10 : Int) (a0_11 : ByteArray) (a0_12 : Int) (a0_13 : Int) (a0_14 : Int) (a0_15 : Int) (a0_16 : Int) (a0_17 : Int) (a0_18 : Int) (a0_19 : ByteArray) (a0_20 : ByteArray) (l0_21 : List S46) (a0_22 : Int) (a0_23 : ByteArray) (l0_24 : List S48) : msg_Bare.b 13 a0_1 a0_2 a0_3 a0_4 a0_5 a0_6 a0_7 a0_8 a0_9 a0_10 a0_11 a0_12 a0_13 a0_14 a0_15 a0_16 a0_17 a0_18 a0_19 a0_20 l0_21 a0_22 a0_23 l0_24 = ((msg_Bare.z 13 13 a0_1 a0_2 a0_4 0 0 a0_8 a0_10 0 a0_13 a0_14 a0_15 0 a0_17 a0_18 a0_22 a0_3 (⟨#[]⟩ : ByteArray) a0_9 (⟨#[]⟩ : ByteArray) a0_19 a0_20 a0_23 && ((l0_21.length : Int) == 0)) && true) := by
  unfold msg_Bare.b
  simp (config := {decide := true}) only [if_true, if_false]
theorem msg_Bare.b14 (a0_1 : Int) (a0_2 : Int) (a0_3 : ByteArray) (a0_4 : Int) (a0_5 : Int) (a0_6 : ByteArray) (a0_7 : Int) (a0_8 : Int) (a0_9 : ByteArray) (a0_10 : Int) (a0_11 : ByteArray) (a0_12 : Int) (a0_13 : Int) (a0_14 : Int) (a0_15 : Int) (a0_16 : Int) (a0_17 : Int) (a0_18 : Int) (a0_19 : ByteArray) (a0_20 : ByteArray) (l0_21 : List S46) (a0_22 : Int) (a0_23 : ByteArray) (l0_24 : List S48) : msg_Bare.b 14 a0_1 a0_2 a0_3 a0_4 a0_5 a0_6 a0_7 a0_8 a0_9 a0_10 a0_11 a0_12 a0_13 a0_14 a0_15 a0_16 a0_17 a0_18 a0_19 a0_20 l0_21 a0_22 a0_23 l0_24 = ((msg_Bare.z 14 14 a0_1 a0_2 a0_4 a0_5 a0_7 a0_8 a0_10 a0_12 a0_13 a0_14 a0_15 a0_16 a0_17 a0_18 0 a0_3 a0_6 a0_9 a0_11 a0_19 a0_20 (⟨#[]⟩ : ByteArray) && ((l0_21.length : Int) == 0)) && ((l0_24.length : Int) == 0)) := by
  unfold msg_Bare.b
  simp (config := {decide := true}) only [if_true, if_false]
theorem msg_Bare.bno (a0_0 : Int) (a0_1 : Int) (a0_2 : Int) (a0_3 : ByteArray) (a0_4 : Int) (a0_5 : Int) (a0_6 : ByteArray) (a0_7 : Int) (a0_8 : Int) (a0_9 : ByteArray) (a0_10 : Int) (a0_11 : ByteArray) (a0_12 : Int) (a0_13 : Int) (a0_14 : Int) (a0_15 : Int) (a0_16 : Int) (a0_17 : Int) (a0_18 : Int) (a0_19 : ByteArray) (a0_20 : ByteArray) (l0_21 : List S46) (a0_22 : Int) (a0_23 : ByteArray) (l0_24 : List S48) (h : ¬ (1 ≤ a0_0 ∧ a0_0 ≤ 14)) : msg_Bare.b a0_0 a0_1 a0_2 a0_3 a0_4 a0_5 a0_6 a0_7 a0_8 a0_9 a0_10 a0_11 a0_12 a0_13 a0_14 a0_15 a0_16 a0_17 a0_18 a0_19 a0_20 l0_21 a0_22 a0_23 l0_24 = false := by
  unfold msg_Bare.b
  rw [if_neg (by omega)]
  rw [if_neg (by omega)]
  rw [if_neg (by omega)]
  rw [if_neg (by omega)]
  rw [if_neg (by omega)]
  rw [if_neg (by omega)]
  rw [if_neg (by omega)]
  rw [if_neg (by omega)]
  rw [if_neg (by omega)]
  rw [if_neg (by omega)]
  rw [if_neg (by omega)]
  rw [if_neg (by omega)]
  rw [if_neg (by omega)]
  rw [if_neg (by omega)]
theorem msg_Bare.eqz (d : Nat) (w : World) (k : Int) (p0 : Int) (p1 : Int) (p2 : Int) (p3 : Int) (p4 : Int) (p5 : Int) (p6 : Int) (p7 : Int) (p8 : Int) (p9 : Int) (p10 : Int) (p11 : Int) (p12 : Int) (p13 : Int) (p14 : Int) (p15 : Int) (p16 : ByteArray) (p17 : ByteArray) (p18 : ByteArray) (p19 : ByteArray) (p20 : ByteArray) (p21 : ByteArray) (p22 : ByteArray) :
    (Op.equalIn (d + 2) 71 (.agg #[.int .i64 p0, .int .i64 p1, .int .i64 p2, .int .i64 p3, .int .i64 p4, .int .i64 p5, .int .i64 p6, .int .i64 p7, .int .i64 p8, .int .i64 p9, .int .i64 p10, .int .i64 p11, .int .i64 p12, .int .i64 p13, .int .i64 p14, .int .i64 p15, .string p16, .string p17, .string p18, .string p19, .string p20, .string p21, .string p22]) (.agg #[.int .i64 k, .int .i64 0, .int .i64 0, .int .i64 0, .int .i64 0, .int .i64 0, .int .i64 0, .int .i64 0, .int .i64 0, .int .i64 0, .int .i64 0, .int .i64 0, .int .i64 0, .int .i64 0, .int .i64 0, .int .i64 0, .string (⟨#[]⟩ : ByteArray), .string (⟨#[]⟩ : ByteArray), .string (⟨#[]⟩ : ByteArray), .string (⟨#[]⟩ : ByteArray), .string (⟨#[]⟩ : ByteArray), .string (⟨#[]⟩ : ByteArray), .string (⟨#[]⟩ : ByteArray)])).run Try.prog w = .ok (msg_Bare.z k p0 p1 p2 p3 p4 p5 p6 p7 p8 p9 p10 p11 p12 p13 p14 p15 p16 p17 p18 p19 p20 p21 p22) w := by
  unfold msg_Bare.z
  refine eqA_of Try.underlying71 (by kernel_rfl) ?_
  refine eqf_cons (by rfl) (by go_simp; rfl) (by go_simp; rfl) (by go_simp) ?_
  refine eqf_cons (by rfl) (by go_simp; rfl) (by go_simp; rfl) (by go_simp) ?_
  refine eqf_cons (by rfl) (by go_simp; rfl) (by go_simp; rfl) (by go_simp) ?_
  refine eqf_cons (by rfl) (by go_simp; rfl) (by go_simp; rfl) (by go_simp) ?_
  refine eqf_cons (by rfl) (by go_simp; rfl) (by go_simp; rfl) (by go_simp) ?_
  refine eqf_cons (by rfl) (by go_simp; rfl) (by go_simp; rfl) (by go_simp) ?_
  refine eqf_cons (by rfl) (by go_simp; rfl) (by go_simp; rfl) (by go_simp) ?_
  refine eqf_cons (by rfl) (by go_simp; rfl) (by go_simp; rfl) (by go_simp) ?_
  refine eqf_cons (by rfl) (by go_simp; rfl) (by go_simp; rfl) (by go_simp) ?_
  refine eqf_cons (by rfl) (by go_simp; rfl) (by go_simp; rfl) (by go_simp) ?_
  refine eqf_cons (by rfl) (by go_simp; rfl) (by go_simp; rfl) (by go_simp) ?_
  refine eqf_cons (by rfl) (by go_simp; rfl) (by go_simp; rfl) (by go_simp) ?_
  refine eqf_cons (by rfl) (by go_simp; rfl) (by go_simp; rfl) (by go_simp) ?_
  refine eqf_cons (by rfl) (by go_simp; rfl) (by go_simp; rfl) (by go_simp) ?_
  refine eqf_cons (by rfl) (by go_simp; rfl) (by go_simp; rfl) (by go_simp) ?_
  refine eqf_cons (by rfl) (by go_simp; rfl) (by go_simp; rfl) (by go_simp) ?_
  refine eqf_cons (by rfl) (by go_simp; rfl) (by go_simp; rfl) (by go_simp) ?_
  refine eqf_cons (by rfl) (by go_simp; rfl) (by go_simp; rfl) (by go_simp) ?_
  refine eqf_cons (by rfl) (by go_simp; rfl) (by go_simp; rfl) (by go_simp) ?_
  refine eqf_cons (by rfl) (by go_simp; rfl) (by go_simp; rfl) (by go_simp) ?_
  refine eqf_cons (by rfl) (by go_simp; rfl) (by go_simp; rfl) (by go_simp) ?_
  refine eqf_cons (by rfl) (by go_simp; rfl) (by go_simp; rfl) (by go_simp) ?_
  exact eqf_last (by rfl) (by go_simp; rfl) (by go_simp; rfl) (by go_simp)
set_option maxRecDepth 100000 in
theorem msg_Bare.bd (v : Int) : Try.prog.built 71 [(0, .int .i64 v)] = some #[.int .i64 v, .int .i64 0, .int .i64 0, .int .i64 0, .int .i64 0, .int .i64 0, .int .i64 0, .int .i64 0, .int .i64 0, .int .i64 0, .int .i64 0, .int .i64 0, .int .i64 0, .int .i64 0, .int .i64 0, .int .i64 0, .string (⟨#[]⟩ : ByteArray), .string (⟨#[]⟩ : ByteArray), .string (⟨#[]⟩ : ByteArray), .string (⟨#[]⟩ : ByteArray), .string (⟨#[]⟩ : ByteArray), .string (⟨#[]⟩ : ByteArray), .string (⟨#[]⟩ : ByteArray)] := by kernel_rfl
set_option maxHeartbeats 8000000 in
set_option maxRecDepth 100000 in
theorem msg_Bare.calls (a0_0 : Int) (a0_1 : Int) (a0_2 : Int) (a0_3 : ByteArray) (a0_4 : Int) (a0_5 : Int) (a0_6 : ByteArray) (a0_7 : Int) (a0_8 : Int) (a0_9 : ByteArray) (a0_10 : Int) (a0_11 : ByteArray) (a0_12 : Int) (a0_13 : Int) (a0_14 : Int) (a0_15 : Int) (a0_16 : Int) (a0_17 : Int) (a0_18 : Int) (a0_19 : ByteArray) (a0_20 : ByteArray) (A0_21 : Option Addr) (c0_21 : Nat) (l0_21 : List S46) (a0_22 : Int) (a0_23 : ByteArray) (A0_24 : Option Addr) (c0_24 : Nat) (l0_24 : List S48) (r : Bool) (w : World) (hr0_21 : Kd.C k46 w A0_21 l0_21.length l0_21) (hc0_21 : l0_21.length ≤ c0_21) (hr0_24 : Kd.C k48 w A0_24 l0_24.length l0_24) (hc0_24 : l0_24.length ≤ c0_24) (h : msg_Bare.f a0_0 a0_1 a0_2 a0_3 a0_4 a0_5 a0_6 a0_7 a0_8 a0_9 a0_10 a0_11 a0_12 a0_13 a0_14 a0_15 a0_16 a0_17 a0_18 a0_19 a0_20 l0_21 a0_22 a0_23 l0_24 = some r) :
    Calls Try.prog 53 #[.agg #[.int .i64 a0_0, .int .i64 a0_1, .int .i64 a0_2, .string a0_3, .int .i64 a0_4, .int .i64 a0_5, .string a0_6, .int .i64 a0_7, .int .i64 a0_8, .string a0_9, .int .i64 a0_10, .string a0_11, .int .i64 a0_12, .int .i64 a0_13, .int .i64 a0_14, .int .i64 a0_15, .int .i64 a0_16, .int .i64 a0_17, .int .i64 a0_18, .string a0_19, .string a0_20, .slice A0_21 l0_21.length c0_21, .int .i64 a0_22, .string a0_23, .slice A0_24 l0_24.length c0_24]] w fun e w' => e = .returned (.bool r) ∧ Below w.heap.size w w' := by
  have hu25 := Try.underlying25
  have hu71 := Try.underlying71
  have HR0_21 := Aside0.mk hr0_21
  have HC0_21 := Aside0.mk hc0_21
  clear hr0_21 hc0_21
  have HR0_24 := Aside0.mk hr0_24
  have HC0_24 := Aside0.mk hc0_24
  clear hr0_24 hc0_24
  have HB := Aside0.mk (Below.refl w.heap.size w)
  have HC3 := Aside0.mk (Option.some.inj h)
  clear h
  have A2 : Aside0 (msg_strip.f a0_0 a0_1 a0_2 a0_3 a0_4 a0_5 a0_6 a0_7 a0_8 a0_9 a0_10 a0_11 a0_12 a0_13 a0_14 a0_15 a0_16 a0_17 a0_18 a0_19 a0_20 l0_21 a0_22 a0_23 l0_24 = some (a0_0, a0_1, a0_2, a0_4, a0_5, a0_7, a0_8, a0_10, a0_12, a0_13, a0_14, a0_15, a0_16, a0_17, a0_18, a0_22, a0_3, a0_6, a0_9, a0_11, a0_19, a0_20, a0_23)) := ⟨rfl⟩
  go_enter Try.func53, Try.ntmps53
  go_upto_block 0 with (first | ((with_reducible refine Go.Proofs.Ytccjakjjaemmkaa.Pre.gate_store 71 rfl ?_); refine Go.Proofs.Ytccjakjjaemmkaa.Pre.store_abs rfl rfl rfl (by rfl) (by rfl) (by (with_reducible repeat (first | refine blk_drewN ?_ _ | refine blk_drew ?_ | refine blk_alloc ?_ _)); exact BKx.out) (by kernel_rfl) (by rfl) (by rfl) ?_; intro wS hbS sS; have n0_ := Aside0.mk (sS.blk (by (with_reducible repeat (first | refine blk_drewN ?_ _ | refine blk_drew ?_ | refine blk_alloc ?_ _)); exact BKm.out) NBmx.out); have n1_ := Aside0.mk (sS.below (by repeat (first | (with_reducible first | exact HB.out | apply below_alloc | apply pw_below_drewN | apply below_drew1 | refine below_set ?_ GEm.out) | exact HB.out)) GEx.out); have n2_ := Aside0.mk hbS; clear BKm HB BKx hbS sS; have BKm := n0_; have HB := n1_; have BKx := n2_; clear n0_ n1_ n2_; have hcm21 := (blk_cell BKm.out 21).trans rfl; have hcm0 := (blk_cell BKm.out 0).trans rfl) | ((with_reducible refine Go.Proofs.Ytccjakjjaemmkaa.Pre.gate_load 25 rfl ?_); refine Go.Proofs.Ytccjakjjaemmkaa.Pre.load_event rfl rfl rfl (by rfl) (by first | ((with_reducible repeat (first | refine blk_drewN ?_ _ | refine blk_drew ?_ | refine blk_alloc ?_ _)); (with_reducible first | exact BKm.out | exact BKx.out)) | (apply Go.Proofs.Ytccjakjjaemmkaa.Pre.heap_norm; ((with_reducible repeat (first | refine blk_drewN ?_ _ | refine blk_drew ?_ | refine blk_alloc ?_ _ | apply Go.Proofs.Ytccjakjjaemmkaa.Pre.blk_set_)); (with_reducible first | exact BKm.out | exact BKx.out)); (simp only [List.setIfInBounds_toArray, List.set_cons_zero, List.set_cons_succ]; rfl))) Try.underlying25 rfl (by kernel_rfl) ?_) | ((with_reducible refine gate_dst (N := 1) rfl ?_); refine box_event ?hg (N := 1) ?hd (cs := #[.int .i64 a0_0, .int .i64 a0_1, .int .i64 a0_2, .string a0_3, .int .i64 a0_4, .int .i64 a0_5, .string a0_6, .int .i64 a0_7, .int .i64 a0_8, .string a0_9, .int .i64 a0_10, .string a0_11, .int .i64 a0_12, .int .i64 a0_13, .int .i64 a0_14, .int .i64 a0_15, .int .i64 a0_16, .int .i64 a0_17, .int .i64 a0_18, .string a0_19, .string a0_20, .slice A0_21 l0_21.length c0_21, .int .i64 a0_22, .string a0_23, .slice A0_24 l0_24.length c0_24]) (t := 25) ?hr ?_; (case hd => rfl); (case hg => rfl); (case hr => first | (go_simp; done) | (go_simp; rfl)); intro gm hg w4 hbox hb; have n0_ := Aside0.mk (below_step (by repeat (first | (with_reducible first | exact HB.out | apply below_alloc | apply pw_below_drewN | apply below_drew1) | exact HB.out)) hb); have n1_ := Aside0.mk hbox; have GEm := Aside0.mk ((by rw [hg]; exact (below_size (by repeat (first | (with_reducible first | exact HB.out | apply below_alloc | apply pw_below_drewN | apply below_drew1) | exact HB.out))) : w.heap.size ≤ gm)); clear HB; have HB := n0_; have BKm := n1_; clear n0_ n1_; clear hb hbox hg) | ((with_reducible refine gate_callee (f := 73) rfl ?_); refine goesL_ (some 7) rfl rfl Try.func73 (by kernel_rfl) rfl #[.agg #[.int .i64 a0_0, .int .i64 a0_1, .int .i64 a0_2, .string a0_3, .int .i64 a0_4, .int .i64 a0_5, .string a0_6, .int .i64 a0_7, .int .i64 a0_8, .string a0_9, .int .i64 a0_10, .string a0_11, .int .i64 a0_12, .int .i64 a0_13, .int .i64 a0_14, .int .i64 a0_15, .int .i64 a0_16, .int .i64 a0_17, .int .i64 a0_18, .string a0_19, .string a0_20, .slice A0_21 l0_21.length c0_21, .int .i64 a0_22, .string a0_23, .slice A0_24 l0_24.length c0_24]] rfl (by (try simp only [List.map_toArray, List.map_cons, List.map_nil]); first | done | rfl) ?_; (with_reducible refine (msg_strip.calls a0_0 a0_1 a0_2 a0_3 a0_4 a0_5 a0_6 a0_7 a0_8 a0_9 a0_10 a0_11 a0_12 a0_13 a0_14 a0_15 a0_16 a0_17 a0_18 a0_19 a0_20 _ _ l0_21 a0_22 a0_23 _ _ l0_24 a0_0 a0_1 a0_2 a0_4 a0_5 a0_7 a0_8 a0_10 a0_12 a0_13 a0_14 a0_15 a0_16 a0_17 a0_18 a0_22 a0_3 a0_6 a0_9 a0_11 a0_19 a0_20 a0_23 _ ?side1 ?side2 ?side3 ?side4 A2.out).mono ?_); (case side1 => repeat (first | exact (Kd.C_below HR0_21.out HB.out) | (with_reducible refine Kd.C_alloc ?_ _) | (with_reducible refine Kd.C_drewN ?_ _) | (with_reducible refine Kd.C_drew ?_))); (case side2 => exact HC0_21.out); (case side3 => repeat (first | exact (Kd.C_below HR0_24.out HB.out) | (with_reducible refine Kd.C_alloc ?_ _) | (with_reducible refine Kd.C_drewN ?_ _) | (with_reducible refine Kd.C_drew ?_))); (case side4 => exact HC0_24.out); rintro e w6 ⟨rfl, hb⟩; refine ⟨_, rfl, ?_⟩; have n0_ := Aside0.mk (blk_below (g := gm) (by (with_reducible repeat (first | refine blk_drewN ?_ _ | refine blk_drew ?_ | refine blk_alloc ?_ _)); exact BKm.out) hb); have n1_ := Aside0.mk (below_step (by repeat (first | (with_reducible first | exact HB.out | apply below_alloc | apply pw_below_drewN | apply below_drew1 | refine below_set ?_ GEm.out) | exact HB.out)) hb); clear BKm; clear HB; have BKm := n0_; have HB := n1_; clear n0_ n1_; (try clear hb)) | ((with_reducible refine gate_dst (N := 3) rfl ?_); refine box_event ?hg (N := 3) ?hd (cs := #[.int .i64 0, .int .i64 0, .int .i64 0, .int .i64 0, .int .i64 0, .int .i64 0, .int .i64 0, .int .i64 0, .int .i64 0, .int .i64 0, .int .i64 0, .int .i64 0, .int .i64 0, .int .i64 0, .int .i64 0, .int .i64 0, .string (⟨#[]⟩ : ByteArray), .string (⟨#[]⟩ : ByteArray), .string (⟨#[]⟩ : ByteArray), .string (⟨#[]⟩ : ByteArray), .string (⟨#[]⟩ : ByteArray), .string (⟨#[]⟩ : ByteArray), .string (⟨#[]⟩ : ByteArray)]) (t := 71) ?hr ?_; (case hd => rfl); (case hg => rfl); (case hr => first | (go_simp; done) | (go_simp; rfl)); intro gx hg w7 hbox hb; have n0_ := Aside0.mk (blk_below (g := gm) (by (with_reducible repeat (first | refine blk_drewN ?_ _ | refine blk_drew ?_ | refine blk_alloc ?_ _)); exact BKm.out) hb); have n1_ := Aside0.mk (below_step (by repeat (first | (with_reducible first | exact HB.out | apply below_alloc | apply pw_below_drewN | apply below_drew1 | refine below_set ?_ GEm.out) | exact HB.out)) hb); have n2_ := Aside0.mk hbox; have GEx := Aside0.mk ((by rw [hg]; exact (below_size (by repeat (first | (with_reducible first | exact HB.out | apply below_alloc | apply pw_below_drewN | apply below_drew1 | refine below_set ?_ GEm.out) | exact HB.out))) : w.heap.size ≤ gx)); have NBmx := Aside0.mk ((by rw [hg]; exact Nat.ne_of_lt (blk_lt (g := gm) (by (with_reducible repeat (first | refine blk_drewN ?_ _ | refine blk_drew ?_ | refine blk_alloc ?_ _)); exact BKm.out)) : gm ≠ gx)); clear BKm; clear HB; have BKm := n0_; have HB := n1_; have BKx := n2_; clear n0_ n1_ n2_; clear hb hbox hg; have hnb := NBmx.out; have hnc := NBmx.out.symm; (try clear hb)))
  (try simp only [Act.put, List.setIfInBounds_toArray, List.set_cons_zero, List.set_cons_succ])
  go_cut [4, 5] (fun v4 v5 wc => ∃ (b4 b5 : Bool) (p0 : Int) (p1 : Int) (p2 : Int) (p3 : Int) (p4 : Int) (p5 : Int) (p6 : Int) (p7 : Int) (p8 : Int) (p9 : Int) (p10 : Int) (p11 : Int) (p12 : Int) (p13 : Int) (p14 : Int) (p15 : Int) (p16 : ByteArray) (p17 : ByteArray) (p18 : ByteArray) (p19 : ByteArray) (p20 : ByteArray) (p21 : ByteArray) (p22 : ByteArray), v4 = .bool b4 ∧ v5 = .bool b5 ∧ Aside0 (((msg_Bare.z a0_0 p0 p1 p2 p3 p4 p5 p6 p7 p8 p9 p10 p11 p12 p13 p14 p15 p16 p17 p18 p19 p20 p21 p22 && b4) && b5) = r) ∧ Aside0 (wc.heap[gm]? = some (.cells #[.int .i64 a0_0, .int .i64 a0_1, .int .i64 a0_2, .string a0_3, .int .i64 a0_4, .int .i64 a0_5, .string a0_6, .int .i64 a0_7, .int .i64 a0_8, .string a0_9, .int .i64 a0_10, .string a0_11, .int .i64 a0_12, .int .i64 a0_13, .int .i64 a0_14, .int .i64 a0_15, .int .i64 a0_16, .int .i64 a0_17, .int .i64 a0_18, .string a0_19, .string a0_20, .slice A0_21 l0_21.length c0_21, .int .i64 a0_22, .string a0_23, .slice A0_24 l0_24.length c0_24] 25 (0, 0))) ∧ Aside0 (wc.heap[gx]? = some (.cells #[.int .i64 p0, .int .i64 p1, .int .i64 p2, .int .i64 p3, .int .i64 p4, .int .i64 p5, .int .i64 p6, .int .i64 p7, .int .i64 p8, .int .i64 p9, .int .i64 p10, .int .i64 p11, .int .i64 p12, .int .i64 p13, .int .i64 p14, .int .i64 p15, .string p16, .string p17, .string p18, .string p19, .string p20, .string p21, .string p22] 71 (0, 0))) ∧ Aside0 (Below w.heap.size w wc))
  case first =>
    by_cases c1 : a0_0 = 1
    · subst c1
      have HRES : Aside0 (((msg_Bare.z 1 1 0 0 0 a0_5 0 0 0 a0_12 a0_13 a0_14 a0_15 a0_16 a0_17 a0_18 a0_22 (⟨#[]⟩ : ByteArray) (⟨#[]⟩ : ByteArray) (⟨#[]⟩ : ByteArray) a0_11 a0_19 a0_20 a0_23 && ((l0_21.length : Int) == 0)) && ((l0_24.length : Int) == 0)) = r) := ⟨(msg_Bare.b1 a0_1 a0_2 a0_3 a0_4 a0_5 a0_6 a0_7 a0_8 a0_9 a0_10 a0_11 a0_12 a0_13 a0_14 a0_15 a0_16 a0_17 a0_18 a0_19 a0_20 l0_21 a0_22 a0_23 l0_24).symm.trans HC3.out⟩
      clear HC3 A2
      have hcx1 := (blk_cell BKx.out 1).trans rfl
      have hfx1 := blk_frozen BKx.out 1
      have hcx2 := (blk_cell BKx.out 2).trans rfl
      have hfx2 := blk_frozen BKx.out 2
      have hcx3 := (blk_cell BKx.out 3).trans rfl
      have hfx3 := blk_frozen BKx.out 3
      have hcx5 := (blk_cell BKx.out 5).trans rfl
      have hfx5 := blk_frozen BKx.out 5
      have hcx6 := (blk_cell BKx.out 6).trans rfl
      have hfx6 := blk_frozen BKx.out 6
      have hcx7 := (blk_cell BKx.out 7).trans rfl
      have hfx7 := blk_frozen BKx.out 7
      have hcx16 := (blk_cell BKx.out 16).trans rfl
      have hfx16 := blk_frozen BKx.out 16
      have hcx17 := (blk_cell BKx.out 17).trans rfl
      have hfx17 := blk_frozen BKx.out 17
      have hcx18 := (blk_cell BKx.out 18).trans rfl
      have hfx18 := blk_frozen BKx.out 18
      have hcm24 := (blk_cell BKm.out 24).trans rfl
      go_wp2
      go_meet
      case rel => exact ⟨((l0_21.length : Int) == 0), ((l0_24.length : Int) == 0), 1, 0, 0, 0, a0_5, 0, 0, 0, a0_12, a0_13, a0_14, a0_15, a0_16, a0_17, a0_18, a0_22, (⟨#[]⟩ : ByteArray), (⟨#[]⟩ : ByteArray), (⟨#[]⟩ : ByteArray), a0_11, a0_19, a0_20, a0_23, rfl, rfl, HRES, ⟨(blk_far (blk_far (blk_far (blk_far (blk_far (blk_far (blk_far (blk_far (blk_far BKm.out NBmx.out _) NBmx.out _) NBmx.out _) NBmx.out _) NBmx.out _) NBmx.out _) NBmx.out _) NBmx.out _) NBmx.out _)⟩, ⟨Go.Proofs.Ytccjakjjaemmkaa.Pre.heap_norm (blk_set (blk_set (blk_set (blk_set (blk_set (blk_set (blk_set (blk_set (blk_set BKx.out 1 _) 6 _) 17 _) 5 _) 18 _) 7 _) 2 _) 16 _) 3 _) (by simp only [List.setIfInBounds_toArray, List.set_cons_zero, List.set_cons_succ])⟩, ⟨(below_set (below_set (below_set (below_set (below_set (below_set (below_set (below_set (below_set HB.out GEx.out) GEx.out) GEx.out) GEx.out) GEx.out) GEx.out) GEx.out) GEx.out) GEx.out)⟩⟩
    · by_cases c2 : a0_0 = 2
      · subst c2
        have HRES : Aside0 (((msg_Bare.z 2 2 0 a0_2 a0_4 a0_5 0 0 0 a0_12 a0_13 a0_14 a0_15 a0_16 a0_17 a0_18 a0_22 a0_3 (⟨#[]⟩ : ByteArray) (⟨#[]⟩ : ByteArray) a0_11 a0_19 a0_20 a0_23 && ((l0_21.length : Int) == 0)) && ((l0_24.length : Int) == 0)) = r) := ⟨(msg_Bare.b2 a0_1 a0_2 a0_3 a0_4 a0_5 a0_6 a0_7 a0_8 a0_9 a0_10 a0_11 a0_12 a0_13 a0_14 a0_15 a0_16 a0_17 a0_18 a0_19 a0_20 l0_21 a0_22 a0_23 l0_24).symm.trans HC3.out⟩
        clear HC3 A2
        have hcx1 := (blk_cell BKx.out 1).trans rfl
        have hfx1 := blk_frozen BKx.out 1
        have hcx5 := (blk_cell BKx.out 5).trans rfl
        have hfx5 := blk_frozen BKx.out 5
        have hcx6 := (blk_cell BKx.out 6).trans rfl
        have hfx6 := blk_frozen BKx.out 6
        have hcx7 := (blk_cell BKx.out 7).trans rfl
        have hfx7 := blk_frozen BKx.out 7
        have hcx17 := (blk_cell BKx.out 17).trans rfl
        have hfx17 := blk_frozen BKx.out 17
        have hcx18 := (blk_cell BKx.out 18).trans rfl
        have hfx18 := blk_frozen BKx.out 18
        have hcm24 := (blk_cell BKm.out 24).trans rfl
        go_wp2
        go_meet
        case rel => exact ⟨((l0_21.length : Int) == 0), ((l0_24.length : Int) == 0), 2, 0, a0_2, a0_4, a0_5, 0, 0, 0, a0_12, a0_13, a0_14, a0_15, a0_16, a0_17, a0_18, a0_22, a0_3, (⟨#[]⟩ : ByteArray), (⟨#[]⟩ : ByteArray), a0_11, a0_19, a0_20, a0_23, rfl, rfl, HRES, ⟨(blk_far (blk_far (blk_far (blk_far (blk_far (blk_far BKm.out NBmx.out _) NBmx.out _) NBmx.out _) NBmx.out _) NBmx.out _) NBmx.out _)⟩, ⟨Go.Proofs.Ytccjakjjaemmkaa.Pre.heap_norm (blk_set (blk_set (blk_set (blk_set (blk_set (blk_set BKx.out 1 _) 6 _) 17 _) 5 _) 18 _) 7 _) (by simp only [List.setIfInBounds_toArray, List.set_cons_zero, List.set_cons_succ])⟩, ⟨(below_set (below_set (below_set (below_set (below_set (below_set HB.out GEx.out) GEx.out) GEx.out) GEx.out) GEx.out) GEx.out)⟩⟩
      · by_cases c3 : a0_0 = 3
        · subst c3
          have HRES : Aside0 (((msg_Bare.z 3 3 a0_1 a0_2 a0_4 a0_5 a0_7 a0_8 a0_10 0 0 a0_14 0 0 0 a0_18 a0_22 a0_3 a0_6 a0_9 a0_11 (⟨#[]⟩ : ByteArray) (⟨#[]⟩ : ByteArray) a0_23 && ((l0_21.length : Int) == 0)) && true) = r) := ⟨(msg_Bare.b3 a0_1 a0_2 a0_3 a0_4 a0_5 a0_6 a0_7 a0_8 a0_9 a0_10 a0_11 a0_12 a0_13 a0_14 a0_15 a0_16 a0_17 a0_18 a0_19 a0_20 l0_21 a0_22 a0_23 l0_24).symm.trans HC3.out⟩
          clear HC3 A2
          have hcx8 := (blk_cell BKx.out 8).trans rfl
          have hfx8 := blk_frozen BKx.out 8
          have hcx9 := (blk_cell BKx.out 9).trans rfl
          have hfx9 := blk_frozen BKx.out 9
          have hcx11 := (blk_cell BKx.out 11).trans rfl
          have hfx11 := blk_frozen BKx.out 11
          have hcx12 := (blk_cell BKx.out 12).trans rfl
          have hfx12 := blk_frozen BKx.out 12
          have hcx13 := (blk_cell BKx.out 13).trans rfl
          have hfx13 := blk_frozen BKx.out 13
          have hcx20 := (blk_cell BKx.out 20).trans rfl
          have hfx20 := blk_frozen BKx.out 20
          have hcx21 := (blk_cell BKx.out 21).trans rfl
          have hfx21 := blk_frozen BKx.out 21
          go_wp2
          go_meet
          case rel => exact ⟨((l0_21.length : Int) == 0), true, 3, a0_1, a0_2, a0_4, a0_5, a0_7, a0_8, a0_10, 0, 0, a0_14, 0, 0, 0, a0_18, a0_22, a0_3, a0_6, a0_9, a0_11, (⟨#[]⟩ : ByteArray), (⟨#[]⟩ : ByteArray), a0_23, rfl, rfl, HRES, ⟨(blk_far (blk_far (blk_far (blk_far (blk_far (blk_far (blk_far BKm.out NBmx.out _) NBmx.out _) NBmx.out _) NBmx.out _) NBmx.out _) NBmx.out _) NBmx.out _)⟩, ⟨Go.Proofs.Ytccjakjjaemmkaa.Pre.heap_norm (blk_set (blk_set (blk_set (blk_set (blk_set (blk_set (blk_set BKx.out 11 _) 12 _) 13 _) 20 _) 8 _) 21 _) 9 _) (by simp only [List.setIfInBounds_toArray, List.set_cons_zero, List.set_cons_succ])⟩, ⟨(below_set (below_set (below_set (below_set (below_set (below_set (below_set HB.out GEx.out) GEx.out) GEx.out) GEx.out) GEx.out) GEx.out) GEx.out)⟩⟩
        · by_cases c4 : a0_0 = 4
          · subst c4
            have HRES : Aside0 (((msg_Bare.z 4 4 a0_1 a0_2 a0_4 a0_5 0 a0_8 a0_10 0 a0_13 0 0 0 a0_17 a0_18 a0_22 a0_3 a0_6 a0_9 a0_11 (⟨#[]⟩ : ByteArray) (⟨#[]⟩ : ByteArray) a0_23 && ((l0_21.length : Int) == 0)) && true) = r) := ⟨(msg_Bare.b4 a0_1 a0_2 a0_3 a0_4 a0_5 a0_6 a0_7 a0_8 a0_9 a0_10 a0_11 a0_12 a0_13 a0_14 a0_15 a0_16 a0_17 a0_18 a0_19 a0_20 l0_21 a0_22 a0_23 l0_24).symm.trans HC3.out⟩
            clear HC3 A2
            have hcx5 := (blk_cell BKx.out 5).trans rfl
            have hfx5 := blk_frozen BKx.out 5
            have hcx8 := (blk_cell BKx.out 8).trans rfl
            have hfx8 := blk_frozen BKx.out 8
            have hcx10 := (blk_cell BKx.out 10).trans rfl
            have hfx10 := blk_frozen BKx.out 10
            have hcx11 := (blk_cell BKx.out 11).trans rfl
            have hfx11 := blk_frozen BKx.out 11
            have hcx12 := (blk_cell BKx.out 12).trans rfl
            have hfx12 := blk_frozen BKx.out 12
            have hcx20 := (blk_cell BKx.out 20).trans rfl
            have hfx20 := blk_frozen BKx.out 20
            have hcx21 := (blk_cell BKx.out 21).trans rfl
            have hfx21 := blk_frozen BKx.out 21
            go_wp2
            go_meet
            case rel => exact ⟨((l0_21.length : Int) == 0), true, 4, a0_1, a0_2, a0_4, a0_5, 0, a0_8, a0_10, 0, a0_13, 0, 0, 0, a0_17, a0_18, a0_22, a0_3, a0_6, a0_9, a0_11, (⟨#[]⟩ : ByteArray), (⟨#[]⟩ : ByteArray), a0_23, rfl, rfl, HRES, ⟨(blk_far (blk_far (blk_far (blk_far (blk_far (blk_far (blk_far BKm.out NBmx.out _) NBmx.out _) NBmx.out _) NBmx.out _) NBmx.out _) NBmx.out _) NBmx.out _)⟩, ⟨Go.Proofs.Ytccjakjjaemmkaa.Pre.heap_norm (blk_set (blk_set (blk_set (blk_set (blk_set (blk_set (blk_set BKx.out 11 _) 5 _) 12 _) 20 _) 8 _) 21 _) 10 _) (by simp only [List.setIfInBounds_toArray, List.set_cons_zero, List.set_cons_succ])⟩, ⟨(below_set (below_set (below_set (below_set (below_set (below_set (below_set HB.out GEx.out) GEx.out) GEx.out) GEx.out) GEx.out) GEx.out) GEx.out)⟩⟩
          · by_cases c5 : a0_0 = 5
            · subst c5
              have HRES : Aside0 (((msg_Bare.z 5 5 a0_1 a0_2 a0_4 a0_5 a0_7 a0_8 a0_10 a0_12 a0_13 a0_14 0 a0_16 a0_17 a0_18 a0_22 a0_3 a0_6 a0_9 a0_11 a0_19 a0_20 a0_23 && true) && true) = r) := ⟨(msg_Bare.b5 a0_1 a0_2 a0_3 a0_4 a0_5 a0_6 a0_7 a0_8 a0_9 a0_10 a0_11 a0_12 a0_13 a0_14 a0_15 a0_16 a0_17 a0_18 a0_19 a0_20 l0_21 a0_22 a0_23 l0_24).symm.trans HC3.out⟩
              clear HC3 A2
              have hcx11 := (blk_cell BKx.out 11).trans rfl
              have hfx11 := blk_frozen BKx.out 11
              go_wp2
              go_meet
              case rel => exact ⟨true, true, 5, a0_1, a0_2, a0_4, a0_5, a0_7, a0_8, a0_10, a0_12, a0_13, a0_14, 0, a0_16, a0_17, a0_18, a0_22, a0_3, a0_6, a0_9, a0_11, a0_19, a0_20, a0_23, rfl, rfl, HRES, ⟨(blk_far BKm.out NBmx.out _)⟩, ⟨Go.Proofs.Ytccjakjjaemmkaa.Pre.heap_norm (blk_set BKx.out 11 _) (by simp only [List.setIfInBounds_toArray, List.set_cons_zero, List.set_cons_succ])⟩, ⟨(below_set HB.out GEx.out)⟩⟩
            · by_cases c6 : a0_0 = 6
              · subst c6
                have HRES : Aside0 (((msg_Bare.z 6 6 a0_1 a0_2 a0_4 a0_5 a0_7 a0_8 a0_10 a0_12 a0_13 a0_14 a0_15 a0_16 a0_17 a0_18 a0_22 a0_3 a0_6 a0_9 a0_11 a0_19 a0_20 a0_23 && ((l0_21.length : Int) == 0)) && true) = r) := ⟨(msg_Bare.b6 a0_1 a0_2 a0_3 a0_4 a0_5 a0_6 a0_7 a0_8 a0_9 a0_10 a0_11 a0_12 a0_13 a0_14 a0_15 a0_16 a0_17 a0_18 a0_19 a0_20 l0_21 a0_22 a0_23 l0_24).symm.trans HC3.out⟩
                clear HC3 A2
                go_wp2
                go_meet
                case rel => exact ⟨((l0_21.length : Int) == 0), true, 6, a0_1, a0_2, a0_4, a0_5, a0_7, a0_8, a0_10, a0_12, a0_13, a0_14, a0_15, a0_16, a0_17, a0_18, a0_22, a0_3, a0_6, a0_9, a0_11, a0_19, a0_20, a0_23, rfl, rfl, HRES, BKm, BKx, HB⟩
              · by_cases c7 : a0_0 = 7
                · subst c7
                  have HRES : Aside0 (((msg_Bare.z 7 7 a0_1 a0_2 a0_4 a0_5 a0_7 a0_8 a0_10 a0_12 a0_13 0 a0_15 a0_16 0 a0_18 a0_22 a0_3 a0_6 a0_9 a0_11 a0_19 a0_20 a0_23 && ((l0_21.length : Int) == 0)) && true) = r) := ⟨(msg_Bare.b7 a0_1 a0_2 a0_3 a0_4 a0_5 a0_6 a0_7 a0_8 a0_9 a0_10 a0_11 a0_12 a0_13 a0_14 a0_15 a0_16 a0_17 a0_18 a0_19 a0_20 l0_21 a0_22 a0_23 l0_24).symm.trans HC3.out⟩
                  clear HC3 A2
                  have hcx10 := (blk_cell BKx.out 10).trans rfl
                  have hfx10 := blk_frozen BKx.out 10
                  have hcx13 := (blk_cell BKx.out 13).trans rfl
                  have hfx13 := blk_frozen BKx.out 13
                  go_wp2
                  go_meet
                  case rel => exact ⟨((l0_21.length : Int) == 0), true, 7, a0_1, a0_2, a0_4, a0_5, a0_7, a0_8, a0_10, a0_12, a0_13, 0, a0_15, a0_16, 0, a0_18, a0_22, a0_3, a0_6, a0_9, a0_11, a0_19, a0_20, a0_23, rfl, rfl, HRES, ⟨(blk_far (blk_far BKm.out NBmx.out _) NBmx.out _)⟩, ⟨Go.Proofs.Ytccjakjjaemmkaa.Pre.heap_norm (blk_set (blk_set BKx.out 13 _) 10 _) (by simp only [List.setIfInBounds_toArray, List.set_cons_zero, List.set_cons_succ])⟩, ⟨(below_set (below_set HB.out GEx.out) GEx.out)⟩⟩
                · by_cases c8 : a0_0 = 8
                  · subst c8
                    have HRES : Aside0 (((msg_Bare.z 8 8 a0_1 a0_2 a0_4 a0_5 a0_7 a0_8 a0_10 a0_12 a0_13 a0_14 a0_15 a0_16 0 a0_18 a0_22 a0_3 a0_6 a0_9 a0_11 a0_19 a0_20 a0_23 && ((l0_21.length : Int) == 0)) && true) = r) := ⟨(msg_Bare.b8 a0_1 a0_2 a0_3 a0_4 a0_5 a0_6 a0_7 a0_8 a0_9 a0_10 a0_11 a0_12 a0_13 a0_14 a0_15 a0_16 a0_17 a0_18 a0_19 a0_20 l0_21 a0_22 a0_23 l0_24).symm.trans HC3.out⟩
                    clear HC3 A2
                    have hcx13 := (blk_cell BKx.out 13).trans rfl
                    have hfx13 := blk_frozen BKx.out 13
                    go_wp2
                    go_meet
                    case rel => exact ⟨((l0_21.length : Int) == 0), true, 8, a0_1, a0_2, a0_4, a0_5, a0_7, a0_8, a0_10, a0_12, a0_13, a0_14, a0_15, a0_16, 0, a0_18, a0_22, a0_3, a0_6, a0_9, a0_11, a0_19, a0_20, a0_23, rfl, rfl, HRES, ⟨(blk_far BKm.out NBmx.out _)⟩, ⟨Go.Proofs.Ytccjakjjaemmkaa.Pre.heap_norm (blk_set BKx.out 13 _) (by simp only [List.setIfInBounds_toArray, List.set_cons_zero, List.set_cons_succ])⟩, ⟨(below_set HB.out GEx.out)⟩⟩
                  · by_cases c9 : a0_0 = 9
                    · subst c9
                      have HRES : Aside0 (((msg_Bare.z 9 9 a0_1 a0_2 a0_4 a0_5 a0_7 a0_8 a0_10 0 a0_13 0 0 a0_16 a0_17 a0_18 a0_22 a0_3 a0_6 a0_9 a0_11 a0_19 a0_20 a0_23 && ((l0_21.length : Int) == 0)) && true) = r) := ⟨(msg_Bare.b9 a0_1 a0_2 a0_3 a0_4 a0_5 a0_6 a0_7 a0_8 a0_9 a0_10 a0_11 a0_12 a0_13 a0_14 a0_15 a0_16 a0_17 a0_18 a0_19 a0_20 l0_21 a0_22 a0_23 l0_24).symm.trans HC3.out⟩
                      clear HC3 A2
                      have hcx8 := (blk_cell BKx.out 8).trans rfl
                      have hfx8 := blk_frozen BKx.out 8
                      have hcx10 := (blk_cell BKx.out 10).trans rfl
                      have hfx10 := blk_frozen BKx.out 10
                      have hcx11 := (blk_cell BKx.out 11).trans rfl
                      have hfx11 := blk_frozen BKx.out 11
                      go_wp2
                      go_meet
                      case rel => exact ⟨((l0_21.length : Int) == 0), true, 9, a0_1, a0_2, a0_4, a0_5, a0_7, a0_8, a0_10, 0, a0_13, 0, 0, a0_16, a0_17, a0_18, a0_22, a0_3, a0_6, a0_9, a0_11, a0_19, a0_20, a0_23, rfl, rfl, HRES, ⟨(blk_far (blk_far (blk_far BKm.out NBmx.out _) NBmx.out _) NBmx.out _)⟩, ⟨Go.Proofs.Ytccjakjjaemmkaa.Pre.heap_norm (blk_set (blk_set (blk_set BKx.out 11 _) 8 _) 10 _) (by simp only [List.setIfInBounds_toArray, List.set_cons_zero, List.set_cons_succ])⟩, ⟨(below_set (below_set (below_set HB.out GEx.out) GEx.out) GEx.out)⟩⟩
                    · by_cases c10 : a0_0 = 10
                      · subst c10
                        have HRES : Aside0 (((msg_Bare.z 10 10 a0_1 a0_2 a0_4 0 a0_7 a0_8 a0_10 a0_12 a0_13 0 a0_15 a0_16 a0_17 0 a0_22 a0_3 a0_6 a0_9 a0_11 (⟨#[]⟩ : ByteArray) a0_20 a0_23 && ((l0_21.length : Int) == 0)) && true) = r) := ⟨(msg_Bare.b10 a0_1 a0_2 a0_3 a0_4 a0_5 a0_6 a0_7 a0_8 a0_9 a0_10 a0_11 a0_12 a0_13 a0_14 a0_15 a0_16 a0_17 a0_18 a0_19 a0_20 l0_21 a0_22 a0_23 l0_24).symm.trans HC3.out⟩
                        clear HC3 A2
                        have hcx4 := (blk_cell BKx.out 4).trans rfl
                        have hfx4 := blk_frozen BKx.out 4
                        have hcx10 := (blk_cell BKx.out 10).trans rfl
                        have hfx10 := blk_frozen BKx.out 10
                        have hcx14 := (blk_cell BKx.out 14).trans rfl
                        have hfx14 := blk_frozen BKx.out 14
                        have hcx20 := (blk_cell BKx.out 20).trans rfl
                        have hfx20 := blk_frozen BKx.out 20
                        go_wp2
                        go_meet
                        case rel => exact ⟨((l0_21.length : Int) == 0), true, 10, a0_1, a0_2, a0_4, 0, a0_7, a0_8, a0_10, a0_12, a0_13, 0, a0_15, a0_16, a0_17, 0, a0_22, a0_3, a0_6, a0_9, a0_11, (⟨#[]⟩ : ByteArray), a0_20, a0_23, rfl, rfl, HRES, ⟨(blk_far (blk_far (blk_far (blk_far BKm.out NBmx.out _) NBmx.out _) NBmx.out _) NBmx.out _)⟩, ⟨Go.Proofs.Ytccjakjjaemmkaa.Pre.heap_norm (blk_set (blk_set (blk_set (blk_set BKx.out 4 _) 14 _) 10 _) 20 _) (by simp only [List.setIfInBounds_toArray, List.set_cons_zero, List.set_cons_succ])⟩, ⟨(below_set (below_set (below_set (below_set HB.out GEx.out) GEx.out) GEx.out) GEx.out)⟩⟩
                      · by_cases c11 : a0_0 = 11
                        · subst c11
                          have HRES : Aside0 (((msg_Bare.z 11 11 a0_1 a0_2 a0_4 0 0 a0_8 0 0 a0_13 0 a0_15 a0_16 a0_17 a0_18 a0_22 a0_3 (⟨#[]⟩ : ByteArray) (⟨#[]⟩ : ByteArray) (⟨#[]⟩ : ByteArray) a0_19 a0_20 a0_23 && ((l0_21.length : Int) == 0)) && true) = r) := ⟨(msg_Bare.b11 a0_1 a0_2 a0_3 a0_4 a0_5 a0_6 a0_7 a0_8 a0_9 a0_10 a0_11 a0_12 a0_13 a0_14 a0_15 a0_16 a0_17 a0_18 a0_19 a0_20 l0_21 a0_22 a0_23 l0_24).symm.trans HC3.out⟩
                          clear HC3 A2
                          have hcx4 := (blk_cell BKx.out 4).trans rfl
                          have hfx4 := blk_frozen BKx.out 4
                          have hcx5 := (blk_cell BKx.out 5).trans rfl
                          have hfx5 := blk_frozen BKx.out 5
                          have hcx7 := (blk_cell BKx.out 7).trans rfl
                          have hfx7 := blk_frozen BKx.out 7
                          have hcx8 := (blk_cell BKx.out 8).trans rfl
                          have hfx8 := blk_frozen BKx.out 8
                          have hcx10 := (blk_cell BKx.out 10).trans rfl
                          have hfx10 := blk_frozen BKx.out 10
                          have hcx17 := (blk_cell BKx.out 17).trans rfl
                          have hfx17 := blk_frozen BKx.out 17
                          have hcx18 := (blk_cell BKx.out 18).trans rfl
                          have hfx18 := blk_frozen BKx.out 18
                          have hcx19 := (blk_cell BKx.out 19).trans rfl
                          have hfx19 := blk_frozen BKx.out 19
                          go_wp2
                          go_meet
                          case rel => exact ⟨((l0_21.length : Int) == 0), true, 11, a0_1, a0_2, a0_4, 0, 0, a0_8, 0, 0, a0_13, 0, a0_15, a0_16, a0_17, a0_18, a0_22, a0_3, (⟨#[]⟩ : ByteArray), (⟨#[]⟩ : ByteArray), (⟨#[]⟩ : ByteArray), a0_19, a0_20, a0_23, rfl, rfl, HRES, ⟨(blk_far (blk_far (blk_far (blk_far (blk_far (blk_far (blk_far (blk_far BKm.out NBmx.out _) NBmx.out _) NBmx.out _) NBmx.out _) NBmx.out _) NBmx.out _) NBmx.out _) NBmx.out _)⟩, ⟨Go.Proofs.Ytccjakjjaemmkaa.Pre.heap_norm (blk_set (blk_set (blk_set (blk_set (blk_set (blk_set (blk_set (blk_set BKx.out 4 _) 17 _) 5 _) 10 _) 8 _) 7 _) 19 _) 18 _) (by simp only [List.setIfInBounds_toArray, List.set_cons_zero, List.set_cons_succ])⟩, ⟨(below_set (below_set (below_set (below_set (below_set (below_set (below_set (below_set HB.out GEx.out) GEx.out) GEx.out) GEx.out) GEx.out) GEx.out) GEx.out) GEx.out)⟩⟩
                        · by_cases c12 : a0_0 = 12
                          · subst c12
                            have HRES : Aside0 (((msg_Bare.z 12 12 a0_1 a0_2 a0_4 0 0 a0_8 a0_10 a0_12 a0_13 a0_14 a0_15 a0_16 a0_17 a0_18 a0_22 a0_3 (⟨#[]⟩ : ByteArray) a0_9 a0_11 a0_19 a0_20 a0_23 && ((l0_21.length : Int) == 0)) && true) = r) := ⟨(msg_Bare.b12 a0_1 a0_2 a0_3 a0_4 a0_5 a0_6 a0_7 a0_8 a0_9 a0_10 a0_11 a0_12 a0_13 a0_14 a0_15 a0_16 a0_17 a0_18 a0_19 a0_20 l0_21 a0_22 a0_23 l0_24).symm.trans HC3.out⟩
                            clear HC3 A2
                            have hcx4 := (blk_cell BKx.out 4).trans rfl
                            have hfx4 := blk_frozen BKx.out 4
                            have hcx5 := (blk_cell BKx.out 5).trans rfl
                            have hfx5 := blk_frozen BKx.out 5
                            have hcx17 := (blk_cell BKx.out 17).trans rfl
                            have hfx17 := blk_frozen BKx.out 17
                            go_wp2
                            go_meet
                            case rel => exact ⟨((l0_21.length : Int) == 0), true, 12, a0_1, a0_2, a0_4, 0, 0, a0_8, a0_10, a0_12, a0_13, a0_14, a0_15, a0_16, a0_17, a0_18, a0_22, a0_3, (⟨#[]⟩ : ByteArray), a0_9, a0_11, a0_19, a0_20, a0_23, rfl, rfl, HRES, ⟨(blk_far (blk_far (blk_far BKm.out NBmx.out _) NBmx.out _) NBmx.out _)⟩, ⟨Go.Proofs.Ytccjakjjaemmkaa.Pre.heap_norm (blk_set (blk_set (blk_set BKx.out 4 _) 17 _) 5 _) (by simp only [List.setIfInBounds_toArray, List.set_cons_zero, List.set_cons_succ])⟩, ⟨(below_set (below_set (below_set HB.out GEx.out) GEx.out) GEx.out)⟩⟩
                          · by_cases c13 : a0_0 = 13
                            · subst c13
                              have HRES : Aside0 (((msg_Bare.z 13 13 a0_1 a0_2 a0_4 0 0 a0_8 a0_10 0 a0_13 a0_14 a0_15 0 a0_17 a0_18 a0_22 a0_3 (⟨#[]⟩ : ByteArray) a0_9 (⟨#[]⟩ : ByteArray) a0_19 a0_20 a0_23 && ((l0_21.length : Int) == 0)) && true) = r) := ⟨(msg_Bare.b13 a0_1 a0_2 a0_3 a0_4 a0_5 a0_6 a0_7 a0_8 a0_9 a0_10 a0_11 a0_12 a0_13 a0_14 a0_15 a0_16 a0_17 a0_18 a0_19 a0_20 l0_21 a0_22 a0_23 l0_24).symm.trans HC3.out⟩
                              clear HC3 A2
                              have hcx4 := (blk_cell BKx.out 4).trans rfl
                              have hfx4 := blk_frozen BKx.out 4
                              have hcx5 := (blk_cell BKx.out 5).trans rfl
                              have hfx5 := blk_frozen BKx.out 5
                              have hcx8 := (blk_cell BKx.out 8).trans rfl
                              have hfx8 := blk_frozen BKx.out 8
                              have hcx12 := (blk_cell BKx.out 12).trans rfl
                              have hfx12 := blk_frozen BKx.out 12
                              have hcx17 := (blk_cell BKx.out 17).trans rfl
                              have hfx17 := blk_frozen BKx.out 17
                              have hcx19 := (blk_cell BKx.out 19).trans rfl
                              have hfx19 := blk_frozen BKx.out 19
                              go_wp2
                              go_meet
                              case rel => exact ⟨((l0_21.length : Int) == 0), true, 13, a0_1, a0_2, a0_4, 0, 0, a0_8, a0_10, 0, a0_13, a0_14, a0_15, 0, a0_17, a0_18, a0_22, a0_3, (⟨#[]⟩ : ByteArray), a0_9, (⟨#[]⟩ : ByteArray), a0_19, a0_20, a0_23, rfl, rfl, HRES, ⟨(blk_far (blk_far (blk_far (blk_far (blk_far (blk_far BKm.out NBmx.out _) NBmx.out _) NBmx.out _) NBmx.out _) NBmx.out _) NBmx.out _)⟩, ⟨Go.Proofs.Ytccjakjjaemmkaa.Pre.heap_norm (blk_set (blk_set (blk_set (blk_set (blk_set (blk_set BKx.out 4 _) 17 _) 5 _) 8 _) 12 _) 19 _) (by simp only [List.setIfInBounds_toArray, List.set_cons_zero, List.set_cons_succ])⟩, ⟨(below_set (below_set (below_set (below_set (below_set (below_set HB.out GEx.out) GEx.out) GEx.out) GEx.out) GEx.out) GEx.out)⟩⟩
                            · by_cases c14 : a0_0 = 14
                              · subst c14
                                have HRES : Aside0 (((msg_Bare.z 14 14 a0_1 a0_2 a0_4 a0_5 a0_7 a0_8 a0_10 a0_12 a0_13 a0_14 a0_15 a0_16 a0_17 a0_18 0 a0_3 a0_6 a0_9 a0_11 a0_19 a0_20 (⟨#[]⟩ : ByteArray) && ((l0_21.length : Int) == 0)) && ((l0_24.length : Int) == 0)) = r) := ⟨(msg_Bare.b14 a0_1 a0_2 a0_3 a0_4 a0_5 a0_6 a0_7 a0_8 a0_9 a0_10 a0_11 a0_12 a0_13 a0_14 a0_15 a0_16 a0_17 a0_18 a0_19 a0_20 l0_21 a0_22 a0_23 l0_24).symm.trans HC3.out⟩
                                clear HC3 A2
                                have hcx15 := (blk_cell BKx.out 15).trans rfl
                                have hfx15 := blk_frozen BKx.out 15
                                have hcx22 := (blk_cell BKx.out 22).trans rfl
                                have hfx22 := blk_frozen BKx.out 22
                                have hcm24 := (blk_cell BKm.out 24).trans rfl
                                go_wp2
                                go_meet
                                case rel => exact ⟨((l0_21.length : Int) == 0), ((l0_24.length : Int) == 0), 14, a0_1, a0_2, a0_4, a0_5, a0_7, a0_8, a0_10, a0_12, a0_13, a0_14, a0_15, a0_16, a0_17, a0_18, 0, a0_3, a0_6, a0_9, a0_11, a0_19, a0_20, (⟨#[]⟩ : ByteArray), rfl, rfl, HRES, ⟨(blk_far (blk_far BKm.out NBmx.out _) NBmx.out _)⟩, ⟨Go.Proofs.Ytccjakjjaemmkaa.Pre.heap_norm (blk_set (blk_set BKx.out 15 _) 22 _) (by simp only [List.setIfInBounds_toArray, List.set_cons_zero, List.set_cons_succ])⟩, ⟨(below_set (below_set HB.out GEx.out) GEx.out)⟩⟩
                              · obtain rfl : r = false := HC3.out.symm.trans (msg_Bare.bno a0_0 a0_1 a0_2 a0_3 a0_4 a0_5 a0_6 a0_7 a0_8 a0_9 a0_10 a0_11 a0_12 a0_13 a0_14 a0_15 a0_16 a0_17 a0_18 a0_19 a0_20 l0_21 a0_22 a0_23 l0_24 (by omega))
                                have d1 : (a0_0 == 1) = false := beq_eq_false_iff_ne.mpr c1
                                have d2 : (a0_0 == 2) = false := beq_eq_false_iff_ne.mpr c2
                                have d3 : (a0_0 == 3) = false := beq_eq_false_iff_ne.mpr c3
                                have d4 : (a0_0 == 4) = false := beq_eq_false_iff_ne.mpr c4
                                have d5 : (a0_0 == 5) = false := beq_eq_false_iff_ne.mpr c5
                                have d6 : (a0_0 == 6) = false := beq_eq_false_iff_ne.mpr c6
                                have d7 : (a0_0 == 7) = false := beq_eq_false_iff_ne.mpr c7
                                have d8 : (a0_0 == 8) = false := beq_eq_false_iff_ne.mpr c8
                                have d9 : (a0_0 == 9) = false := beq_eq_false_iff_ne.mpr c9
                                have d10 : (a0_0 == 10) = false := beq_eq_false_iff_ne.mpr c10
                                have d11 : (a0_0 == 11) = false := beq_eq_false_iff_ne.mpr c11
                                have d12 : (a0_0 == 12) = false := beq_eq_false_iff_ne.mpr c12
                                have d13 : (a0_0 == 13) = false := beq_eq_false_iff_ne.mpr c13
                                have d14 : (a0_0 == 14) = false := beq_eq_false_iff_ne.mpr c14
                                clear c1 c2 c3 c4 c5 c6 c7 c8 c9 c10 c11 c12 c13 c14 HC3
                                go_wp2
                                go_ret
                                exact ⟨rfl, (by repeat (first | (with_reducible first | exact HB.out | apply below_alloc | apply pw_below_drewN | apply below_drew1 | refine below_set ?_ GEm.out | refine below_set ?_ GEx.out) | exact HB.out))⟩
  case rest =>
    clear hcm0 hcm21 HC3 A2 BKm BKx HB
    obtain ⟨b4, b5, p0, p1, p2, p3, p4, p5, p6, p7, p8, p9, p10, p11, p12, p13, p14, p15, p16, p17, p18, p19, p20, p21, p22, rfl, rfl, HRES, BKm, BKx, HB⟩ := hcut
    have hcm0 := (blk_cell BKm.out 0).trans rfl
    have hE := fun (d : Nat) (w : World) => msg_Bare.eqz d w a0_0 p0 p1 p2 p3 p4 p5 p6 p7 p8 p9 p10 p11 p12 p13 p14 p15 p16 p17 p18 p19 p20 p21 p22
    generalize msg_Bare.z a0_0 p0 p1 p2 p3 p4 p5 p6 p7 p8 p9 p10 p11 p12 p13 p14 p15 p16 p17 p18 p19 p20 p21 p22 = bz at HRES hE
    cases bz <;> cases b4 <;> cases b5
    all_goals
      obtain rfl := HRES.out
      clear HRES
      go_wp2_with (first | ((with_reducible refine Go.Proofs.Ytccjakjjaemmkaa.Pre.gate_load 71 rfl ?_); refine Go.Proofs.Ytccjakjjaemmkaa.Pre.load_event rfl rfl rfl (by rfl) (by first | ((with_reducible repeat (first | refine blk_drewN ?_ _ | refine blk_drew ?_ | refine blk_alloc ?_ _)); (with_reducible first | exact BKm.out | exact BKx.out)) | (apply Go.Proofs.Ytccjakjjaemmkaa.Pre.heap_norm; ((with_reducible repeat (first | refine blk_drewN ?_ _ | refine blk_drew ?_ | refine blk_alloc ?_ _ | apply Go.Proofs.Ytccjakjjaemmkaa.Pre.blk_set_)); (with_reducible first | exact BKm.out | exact BKx.out)); (simp only [List.setIfInBounds_toArray, List.set_cons_zero, List.set_cons_succ]; rfl))) Try.underlying71 rfl (by kernel_rfl) ?_) | ((with_reducible refine gate_dst (N := 108) rfl ?_); refine Go.Proofs.Ytccjakjjaemmkaa.Pre.build_event 108 71 [(0, .tmp 107)] rfl rfl rfl (msg_Bare.bd _) ?_))
      go_ret
      exact ⟨rfl, (by repeat (first | (with_reducible first | exact HB.out | apply below_alloc | apply pw_below_drewN | apply below_drew1 | refine below_set ?_ GEm.out | refine below_set ?_ GEx.out) | exact HB.out))⟩

end Go.Proofs.Ytccjakjjaemmkaa.PR
