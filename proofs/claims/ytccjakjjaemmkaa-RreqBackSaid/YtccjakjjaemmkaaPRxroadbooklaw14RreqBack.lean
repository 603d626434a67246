-- Written by mp.py, a program of this work (wip/tools), out of the translation; Lean checks it.
import Derived.Test.YtccjakjjaemmkaaPRx0
import Derived.Test.YtccjakjjaemmkaaPRxroadbooklaw14
import Derived.Test.YtccjakjjaemmkaaPRxroadbookref07
import Derived.Test.YtccjakjjaemmkaaPRxroadbookref07Same
import Derived.Test.YtccjakjjaemmkaaPRxrreq
import Derived.Test.YtccjakjjaemmkaaPRxrreqGet
import Derived.Test.YtccjakjjaemmkaaPRxrreqRight
namespace Go.Proofs.Ytccjakjjaemmkaa.PR
open Go.RowKit Go.Proofs.YtccjakjjaemmkaaW.PrintWords Go.Proofs.YtccjakjjaemmkaaW.PrintLast Go.Proofs.YtccjakjjaemmkaaW.PrintMore
attribute [local go_sem] max2_int min2_int max_two min_two max_three min_three max_four min_four   -- for this text's walks alone
set_option linter.unusedVariables false
set_option linter.unusedSimpArgs false

/-! ### roadbooklaw14_RreqBack: function 5 -/
mutual
def roadbooklaw14_RreqBack.j0 : Nat → ByteArray → Bool → Int → Int → Int → ByteArray → Int → Int → ByteArray → Int → Int → ByteArray → Int → ByteArray → Int → Int → Int → Int → Int → Int → Int → ByteArray → ByteArray → List (S46) → Int → ByteArray → List (S48) → Option (Bool)
  | 0, _, _, _, _, _, _, _, _, _, _, _, _, _, _, _, _, _, _, _, _, _, _, _, _, _, _, _ => none
  | k + 1, x1, x22, x102000, x102001, x102002, x102003, x102004, x102005, x102006, x102007, x102008, x102009, x102010, x102011, x102012, x102013, x102014, x102015, x102016, x102017, x102018, x102019, x102020, x102021, x102022, x102023, x102024 => if x22 = true then ((roadbooklaw14_awake.f k).bind fun t103 => (some t103)) else ((rreq_Put.f k x102000 x102001 x102002 x102003 x102004 x102005 x102006 x102007 x102008 x102009 x102010 x102011 x102012 x102013 x102014 x102015 x102016 x102017 x102018 x102019 x102020 x102021 x102022 x102023 x102024).bind fun bt104 => ((rreq_Right.f k x102000 x102001 x102002 x102003 x102004 x102005 x102006 x102007 x102008 x102009 x102010 x102011 x102012 x102013 x102014 x102015 x102016 x102017 x102018 x102019 x102020 x102021 x102022 x102023 x102024).bind fun t106 => (if (bt104.2 != t106) = true then (roadbooklaw14_RreqBack.j1 k x1 bt104.1 bt104.2 true x102000 x102001 x102002 x102003 x102004 x102005 x102006 x102007 x102008 x102009 x102010 x102011 x102012 x102013 x102014 x102015 x102016 x102017 x102018 x102019 x102020 x102021 x102022 x102023 x102024) else (if bt104.2 = true then (roadbooklaw14_RreqBack.j1 k x1 bt104.1 bt104.2 false x102000 x102001 x102002 x102003 x102004 x102005 x102006 x102007 x102008 x102009 x102010 x102011 x102012 x102013 x102014 x102015 x102016 x102017 x102018 x102019 x102020 x102021 x102022 x102023 x102024) else (roadbooklaw14_RreqBack.j1 k x1 bt104.1 bt104.2 (bt104.1.toList != ([] : List UInt8)) x102000 x102001 x102002 x102003 x102004 x102005 x102006 x102007 x102008 x102009 x102010 x102011 x102012 x102013 x102014 x102015 x102016 x102017 x102018 x102019 x102020 x102021 x102022 x102023 x102024)))))
def roadbooklaw14_RreqBack.j1 : Nat → ByteArray → ByteArray → Bool → Bool → Int → Int → Int → ByteArray → Int → Int → ByteArray → Int → Int → ByteArray → Int → ByteArray → Int → Int → Int → Int → Int → Int → Int → ByteArray → ByteArray → List (S46) → Int → ByteArray → List (S48) → Option (Bool)
  | 0, _, _, _, _, _, _, _, _, _, _, _, _, _, _, _, _, _, _, _, _, _, _, _, _, _, _, _, _, _ => none
  | k + 1, x1, x5, x6, x40, x102000, x102001, x102002, x102003, x102004, x102005, x102006, x102007, x102008, x102009, x102010, x102011, x102012, x102013, x102014, x102015, x102016, x102017, x102018, x102019, x102020, x102021, x102022, x102023, x102024 => if x40 = true then (some false) else (if x6 = true then ((rreq_Get.f k x5).bind fun bt107 => (if bt107.2.2.2.2.2.2.2.2.2.2.2.2.2.2.2.2.2.2.2.2.2.2.2.2.2.2 = 0 then (if bt107.2.2.2.2.2.2.2.2.2.2.2.2.2.2.2.2.2.2.2.2.2.2.2.2.2.1 = 0 then ((roadbookref07_Same.f k x102000 x102001 x102002 x102003 x102004 x102005 x102006 x102007 x102008 x102009 x102010 x102011 x102012 x102013 x102014 x102015 x102016 x102017 x102018 x102019 x102020 x102021 x102022 x102023 x102024 bt107.1 bt107.2.1 bt107.2.2.1 bt107.2.2.2.1 bt107.2.2.2.2.1 bt107.2.2.2.2.2.1 bt107.2.2.2.2.2.2.1 bt107.2.2.2.2.2.2.2.1 bt107.2.2.2.2.2.2.2.2.1 bt107.2.2.2.2.2.2.2.2.2.1 bt107.2.2.2.2.2.2.2.2.2.2.1 bt107.2.2.2.2.2.2.2.2.2.2.2.1 bt107.2.2.2.2.2.2.2.2.2.2.2.2.1 bt107.2.2.2.2.2.2.2.2.2.2.2.2.2.1 bt107.2.2.2.2.2.2.2.2.2.2.2.2.2.2.1 bt107.2.2.2.2.2.2.2.2.2.2.2.2.2.2.2.1 bt107.2.2.2.2.2.2.2.2.2.2.2.2.2.2.2.2.1 bt107.2.2.2.2.2.2.2.2.2.2.2.2.2.2.2.2.2.1 bt107.2.2.2.2.2.2.2.2.2.2.2.2.2.2.2.2.2.2.1 bt107.2.2.2.2.2.2.2.2.2.2.2.2.2.2.2.2.2.2.2.1 bt107.2.2.2.2.2.2.2.2.2.2.2.2.2.2.2.2.2.2.2.2.1 bt107.2.2.2.2.2.2.2.2.2.2.2.2.2.2.2.2.2.2.2.2.2.1 bt107.2.2.2.2.2.2.2.2.2.2.2.2.2.2.2.2.2.2.2.2.2.2.1 bt107.2.2.2.2.2.2.2.2.2.2.2.2.2.2.2.2.2.2.2.2.2.2.2.1 bt107.2.2.2.2.2.2.2.2.2.2.2.2.2.2.2.2.2.2.2.2.2.2.2.2.1).bind fun t139 => (roadbooklaw14_RreqBack.j2 k x1 (!t139))) else (roadbooklaw14_RreqBack.j2 k x1 true)) else (roadbooklaw14_RreqBack.j2 k x1 true))) else (roadbooklaw14_RreqBack.j3 k x1))
def roadbooklaw14_RreqBack.j3 : Nat → ByteArray → Option (Bool)
  | 0, _ => none
  | k + 1, x1 => if (x1.size : Int) = 0 then (roadbooklaw14_RreqBack.j4 k x1 true) else (if 0 < (x1.size : Int) then (roadbooklaw14_RreqBack.j4 k x1 (!((bt x1 0) == 1))) else (none))
def roadbooklaw14_RreqBack.j4 : Nat → ByteArray → Bool → Option (Bool)
  | 0, _, _ => none
  | k + 1, x1, x68 => if x68 = true then ((roadbooklaw14_awake.f k).bind fun t140 => (some t140)) else ((rreq_Get.f k x1).bind fun bt141 => (if bt141.2.2.2.2.2.2.2.2.2.2.2.2.2.2.2.2.2.2.2.2.2.2.2.2.2.2 = 0 then ((rreq_Put.f k bt141.1 bt141.2.1 bt141.2.2.1 bt141.2.2.2.1 bt141.2.2.2.2.1 bt141.2.2.2.2.2.1 bt141.2.2.2.2.2.2.1 bt141.2.2.2.2.2.2.2.1 bt141.2.2.2.2.2.2.2.2.1 bt141.2.2.2.2.2.2.2.2.2.1 bt141.2.2.2.2.2.2.2.2.2.2.1 bt141.2.2.2.2.2.2.2.2.2.2.2.1 bt141.2.2.2.2.2.2.2.2.2.2.2.2.1 bt141.2.2.2.2.2.2.2.2.2.2.2.2.2.1 bt141.2.2.2.2.2.2.2.2.2.2.2.2.2.2.1 bt141.2.2.2.2.2.2.2.2.2.2.2.2.2.2.2.1 bt141.2.2.2.2.2.2.2.2.2.2.2.2.2.2.2.2.1 bt141.2.2.2.2.2.2.2.2.2.2.2.2.2.2.2.2.2.1 bt141.2.2.2.2.2.2.2.2.2.2.2.2.2.2.2.2.2.2.1 bt141.2.2.2.2.2.2.2.2.2.2.2.2.2.2.2.2.2.2.2.1 bt141.2.2.2.2.2.2.2.2.2.2.2.2.2.2.2.2.2.2.2.2.1 bt141.2.2.2.2.2.2.2.2.2.2.2.2.2.2.2.2.2.2.2.2.2.1 bt141.2.2.2.2.2.2.2.2.2.2.2.2.2.2.2.2.2.2.2.2.2.2.1 bt141.2.2.2.2.2.2.2.2.2.2.2.2.2.2.2.2.2.2.2.2.2.2.2.1 bt141.2.2.2.2.2.2.2.2.2.2.2.2.2.2.2.2.2.2.2.2.2.2.2.2.1).bind fun bt175 => ((roadbooklaw14_awake.f k).bind fun t177 => (if t177 = true then (if bt175.2 = true then (if bt175.1.toList = x1.toList then (if bt141.2.2.2.2.2.2.2.2.2.2.2.2.2.2.2.2.2.2.2.2.2.2.2.2.2.1 = 0 then ((rreq_Right.f k bt141.1 bt141.2.1 bt141.2.2.1 bt141.2.2.2.1 bt141.2.2.2.2.1 bt141.2.2.2.2.2.1 bt141.2.2.2.2.2.2.1 bt141.2.2.2.2.2.2.2.1 bt141.2.2.2.2.2.2.2.2.1 bt141.2.2.2.2.2.2.2.2.2.1 bt141.2.2.2.2.2.2.2.2.2.2.1 bt141.2.2.2.2.2.2.2.2.2.2.2.1 bt141.2.2.2.2.2.2.2.2.2.2.2.2.1 bt141.2.2.2.2.2.2.2.2.2.2.2.2.2.1 bt141.2.2.2.2.2.2.2.2.2.2.2.2.2.2.1 bt141.2.2.2.2.2.2.2.2.2.2.2.2.2.2.2.1 bt141.2.2.2.2.2.2.2.2.2.2.2.2.2.2.2.2.1 bt141.2.2.2.2.2.2.2.2.2.2.2.2.2.2.2.2.2.1 bt141.2.2.2.2.2.2.2.2.2.2.2.2.2.2.2.2.2.2.1 bt141.2.2.2.2.2.2.2.2.2.2.2.2.2.2.2.2.2.2.2.1 bt141.2.2.2.2.2.2.2.2.2.2.2.2.2.2.2.2.2.2.2.2.1 bt141.2.2.2.2.2.2.2.2.2.2.2.2.2.2.2.2.2.2.2.2.2.1 bt141.2.2.2.2.2.2.2.2.2.2.2.2.2.2.2.2.2.2.2.2.2.2.1 bt141.2.2.2.2.2.2.2.2.2.2.2.2.2.2.2.2.2.2.2.2.2.2.2.1 bt141.2.2.2.2.2.2.2.2.2.2.2.2.2.2.2.2.2.2.2.2.2.2.2.2.1).bind fun t178 => (some t178)) else (some false)) else (some false)) else (some false)) else (some false)))) else ((roadbooklaw14_awake.f k).bind fun t173 => (if t173 = true then (if bt141.2.2.2.2.2.2.2.2.2.2.2.2.2.2.2.2.2.2.2.2.2.2.2.2.2.1 ≥ 0 then (if bt141.2.2.2.2.2.2.2.2.2.2.2.2.2.2.2.2.2.2.2.2.2.2.2.2.2.1 ≤ (x1.size : Int) then ((roadbookref07_Same.f k bt141.1 bt141.2.1 bt141.2.2.1 bt141.2.2.2.1 bt141.2.2.2.2.1 bt141.2.2.2.2.2.1 bt141.2.2.2.2.2.2.1 bt141.2.2.2.2.2.2.2.1 bt141.2.2.2.2.2.2.2.2.1 bt141.2.2.2.2.2.2.2.2.2.1 bt141.2.2.2.2.2.2.2.2.2.2.1 bt141.2.2.2.2.2.2.2.2.2.2.2.1 bt141.2.2.2.2.2.2.2.2.2.2.2.2.1 bt141.2.2.2.2.2.2.2.2.2.2.2.2.2.1 bt141.2.2.2.2.2.2.2.2.2.2.2.2.2.2.1 bt141.2.2.2.2.2.2.2.2.2.2.2.2.2.2.2.1 bt141.2.2.2.2.2.2.2.2.2.2.2.2.2.2.2.2.1 bt141.2.2.2.2.2.2.2.2.2.2.2.2.2.2.2.2.2.1 bt141.2.2.2.2.2.2.2.2.2.2.2.2.2.2.2.2.2.2.1 bt141.2.2.2.2.2.2.2.2.2.2.2.2.2.2.2.2.2.2.2.1 bt141.2.2.2.2.2.2.2.2.2.2.2.2.2.2.2.2.2.2.2.2.1 bt141.2.2.2.2.2.2.2.2.2.2.2.2.2.2.2.2.2.2.2.2.2.1 bt141.2.2.2.2.2.2.2.2.2.2.2.2.2.2.2.2.2.2.2.2.2.2.1 bt141.2.2.2.2.2.2.2.2.2.2.2.2.2.2.2.2.2.2.2.2.2.2.2.1 bt141.2.2.2.2.2.2.2.2.2.2.2.2.2.2.2.2.2.2.2.2.2.2.2.2.1 0 0 0 (⟨#[]⟩ : ByteArray) 0 0 (⟨#[]⟩ : ByteArray) 0 0 (⟨#[]⟩ : ByteArray) 0 (⟨#[]⟩ : ByteArray) 0 0 0 0 0 0 0 (⟨#[]⟩ : ByteArray) (⟨#[]⟩ : ByteArray) ([] : List (S46)) 0 (⟨#[]⟩ : ByteArray) ([] : List (S48))).bind fun t174 => (some t174)) else (some false)) else (some false)) else (some false)))))
def roadbooklaw14_RreqBack.j2 : Nat → ByteArray → Bool → Option (Bool)
  | 0, _, _ => none
  | k + 1, x1, x59 => if x59 = true then (some false) else (roadbooklaw14_RreqBack.j3 k x1)
end
def roadbooklaw14_RreqBack.f (k : Nat) (a0_0 : Int) (a0_1 : Int) (a0_2 : Int) (a0_3 : ByteArray) (a0_4 : Int) (a0_5 : Int) (a0_6 : ByteArray) (a0_7 : Int) (a0_8 : Int) (a0_9 : ByteArray) (a0_10 : Int) (a0_11 : ByteArray) (a0_12 : Int) (a0_13 : Int) (a0_14 : Int) (a0_15 : Int) (a0_16 : Int) (a0_17 : Int) (a0_18 : Int) (a0_19 : ByteArray) (a0_20 : ByteArray) (l0_21 : List (S46)) (a0_22 : Int) (a0_23 : ByteArray) (l0_24 : List (S48)) (a1 : ByteArray) : Option (Bool) := (roadbookref07_Few.f k a0_0 a0_1 a0_2 a0_3 a0_4 a0_5 a0_6 a0_7 a0_8 a0_9 a0_10 a0_11 a0_12 a0_13 a0_14 a0_15 a0_16 a0_17 a0_18 a0_19 a0_20 l0_21 a0_22 a0_23 l0_24).bind fun t102 => (if t102 = true then (roadbooklaw14_RreqBack.j0 k a1 (decide ((a1.size : Int) > 3000)) a0_0 a0_1 a0_2 a0_3 a0_4 a0_5 a0_6 a0_7 a0_8 a0_9 a0_10 a0_11 a0_12 a0_13 a0_14 a0_15 a0_16 a0_17 a0_18 a0_19 a0_20 l0_21 a0_22 a0_23 l0_24) else (roadbooklaw14_RreqBack.j0 k a1 true a0_0 a0_1 a0_2 a0_3 a0_4 a0_5 a0_6 a0_7 a0_8 a0_9 a0_10 a0_11 a0_12 a0_13 a0_14 a0_15 a0_16 a0_17 a0_18 a0_19 a0_20 l0_21 a0_22 a0_23 l0_24))
theorem roadbooklaw14_RreqBack.mono_l : ∀ k, (∀ y0 y1 y2 y3 y4 y5 y6 y7 y8 y9 y10 y11 y12 y13 y14 y15 y16 y17 y18 y19 y20 y21 y22 y23 y24 y25 y26, LeO (roadbooklaw14_RreqBack.j0 k y0 y1 y2 y3 y4 y5 y6 y7 y8 y9 y10 y11 y12 y13 y14 y15 y16 y17 y18 y19 y20 y21 y22 y23 y24 y25 y26) (roadbooklaw14_RreqBack.j0 (k + 1) y0 y1 y2 y3 y4 y5 y6 y7 y8 y9 y10 y11 y12 y13 y14 y15 y16 y17 y18 y19 y20 y21 y22 y23 y24 y25 y26)) ∧ (∀ y0 y1 y2 y3 y4 y5 y6 y7 y8 y9 y10 y11 y12 y13 y14 y15 y16 y17 y18 y19 y20 y21 y22 y23 y24 y25 y26 y27 y28, LeO (roadbooklaw14_RreqBack.j1 k y0 y1 y2 y3 y4 y5 y6 y7 y8 y9 y10 y11 y12 y13 y14 y15 y16 y17 y18 y19 y20 y21 y22 y23 y24 y25 y26 y27 y28) (roadbooklaw14_RreqBack.j1 (k + 1) y0 y1 y2 y3 y4 y5 y6 y7 y8 y9 y10 y11 y12 y13 y14 y15 y16 y17 y18 y19 y20 y21 y22 y23 y24 y25 y26 y27 y28)) ∧ (∀ y0, LeO (roadbooklaw14_RreqBack.j3 k y0) (roadbooklaw14_RreqBack.j3 (k + 1) y0)) ∧ (∀ y0 y1, LeO (roadbooklaw14_RreqBack.j4 k y0 y1) (roadbooklaw14_RreqBack.j4 (k + 1) y0 y1)) ∧ (∀ y0 y1, LeO (roadbooklaw14_RreqBack.j2 k y0 y1) (roadbooklaw14_RreqBack.j2 (k + 1) y0 y1))
  | 0 => ⟨fun _ _ _ _ _ _ _ _ _ _ _ _ _ _ _ _ _ _ _ _ _ _ _ _ _ _ _ r h => by simp [roadbooklaw14_RreqBack.j0] at h, fun _ _ _ _ _ _ _ _ _ _ _ _ _ _ _ _ _ _ _ _ _ _ _ _ _ _ _ _ _ r h => by simp [roadbooklaw14_RreqBack.j1] at h, fun _ r h => by simp [roadbooklaw14_RreqBack.j3] at h, fun _ _ r h => by simp [roadbooklaw14_RreqBack.j4] at h, fun _ _ r h => by simp [roadbooklaw14_RreqBack.j2] at h⟩
  | k + 1 => by
    obtain ⟨ih0, ih1, ih2, ih3, ih4⟩ := roadbooklaw14_RreqBack.mono_l k
    refine ⟨?_, ?_, ?_, ?_, ?_⟩
    · intro y0 y1 y2 y3 y4 y5 y6 y7 y8 y9 y10 y11 y12 y13 y14 y15 y16 y17 y18 y19 y20 y21 y22 y23 y24 y25 y26
      unfold roadbooklaw14_RreqBack.j0
      repeat' first
      | (with_reducible exact ih0 _ _ _ _ _ _ _ _ _ _ _ _ _ _ _ _ _ _ _ _ _ _ _ _ _ _ _)
      | (with_reducible exact ih1 _ _ _ _ _ _ _ _ _ _ _ _ _ _ _ _ _ _ _ _ _ _ _ _ _ _ _ _ _)
      | (with_reducible exact ih2 _)
      | (with_reducible exact ih3 _ _)
      | (with_reducible exact ih4 _ _)
      | (with_reducible exact roadbooklaw14_awake.mono _)
      | (with_reducible exact roadbookref07_Few.mono _ _ _ _ _ _ _ _ _ _ _ _ _ _ _ _ _ _ _ _ _ _ _ _ _ _)
      | (with_reducible exact roadbookref07_Same.mono _ _ _ _ _ _ _ _ _ _ _ _ _ _ _ _ _ _ _ _ _ _ _ _ _ _ _ _ _ _ _ _ _ _ _ _ _ _ _ _ _ _ _ _ _ _ _ _ _ _ _)
      | (with_reducible exact rreq_Get.mono _ _)
      | (with_reducible exact rreq_Put.mono _ _ _ _ _ _ _ _ _ _ _ _ _ _ _ _ _ _ _ _ _ _ _ _ _ _)
      | (with_reducible exact rreq_Right.mono _ _ _ _ _ _ _ _ _ _ _ _ _ _ _ _ _ _ _ _ _ _ _ _ _ _)
      | (with_reducible exact LeO.refl _)
      | (with_reducible exact LeO.none _)
      | (with_reducible refine LeO.ite ?_ ?_)
      | (with_reducible refine LeO.bind ?_ (fun _ => ?_))
      | exact ih0 _ _ _ _ _ _ _ _ _ _ _ _ _ _ _ _ _ _ _ _ _ _ _ _ _ _ _
      | exact ih1 _ _ _ _ _ _ _ _ _ _ _ _ _ _ _ _ _ _ _ _ _ _ _ _ _ _ _ _ _
      | exact ih2 _
      | exact ih3 _ _
      | exact ih4 _ _
      | exact roadbooklaw14_awake.mono _
      | exact roadbookref07_Few.mono _ _ _ _ _ _ _ _ _ _ _ _ _ _ _ _ _ _ _ _ _ _ _ _ _ _
      | exact roadbookref07_Same.mono _ _ _ _ _ _ _ _ _ _ _ _ _ _ _ _ _ _ _ _ _ _ _ _ _ _ _ _ _ _ _ _ _ _ _ _ _ _ _ _ _ _ _ _ _ _ _ _ _ _ _
      | exact rreq_Get.mono _ _
      | exact rreq_Put.mono _ _ _ _ _ _ _ _ _ _ _ _ _ _ _ _ _ _ _ _ _ _ _ _ _ _
      | exact rreq_Right.mono _ _ _ _ _ _ _ _ _ _ _ _ _ _ _ _ _ _ _ _ _ _ _ _ _ _
      | exact LeO.none _
      | refine LeO.ite ?_ ?_
      | refine LeO.bind ?_ (fun _ => ?_)
    · intro y0 y1 y2 y3 y4 y5 y6 y7 y8 y9 y10 y11 y12 y13 y14 y15 y16 y17 y18 y19 y20 y21 y22 y23 y24 y25 y26 y27 y28
      unfold roadbooklaw14_RreqBack.j1
      repeat' first
      | (with_reducible exact ih0 _ _ _ _ _ _ _ _ _ _ _ _ _ _ _ _ _ _ _ _ _ _ _ _ _ _ _)
      | (with_reducible exact ih1 _ _ _ _ _ _ _ _ _ _ _ _ _ _ _ _ _ _ _ _ _ _ _ _ _ _ _ _ _)
      | (with_reducible exact ih2 _)
      | (with_reducible exact ih3 _ _)
      | (with_reducible exact ih4 _ _)
      | (with_reducible exact roadbooklaw14_awake.mono _)
      | (with_reducible exact roadbookref07_Few.mono _ _ _ _ _ _ _ _ _ _ _ _ _ _ _ _ _ _ _ _ _ _ _ _ _ _)
      | (with_reducible exact roadbookref07_Same.mono _ _ _ _ _ _ _ _ _ _ _ _ _ _ _ _ _ _ _ _ _ _ _ _ _ _ _ _ _ _ _ _ _ _ _ _ _ _ _ _ _ _ _ _ _ _ _ _ _ _ _)
      | (with_reducible exact rreq_Get.mono _ _)
      | (with_reducible exact rreq_Put.mono _ _ _ _ _ _ _ _ _ _ _ _ _ _ _ _ _ _ _ _ _ _ _ _ _ _)
      | (with_reducible exact rreq_Right.mono _ _ _ _ _ _ _ _ _ _ _ _ _ _ _ _ _ _ _ _ _ _ _ _ _ _)
      | (with_reducible exact LeO.refl _)
      | (with_reducible exact LeO.none _)
      | (with_reducible refine LeO.ite ?_ ?_)
      | (with_reducible refine LeO.bind ?_ (fun _ => ?_))
      | exact ih0 _ _ _ _ _ _ _ _ _ _ _ _ _ _ _ _ _ _ _ _ _ _ _ _ _ _ _
      | exact ih1 _ _ _ _ _ _ _ _ _ _ _ _ _ _ _ _ _ _ _ _ _ _ _ _ _ _ _ _ _
      | exact ih2 _
      | exact ih3 _ _
      | exact ih4 _ _
      | exact roadbooklaw14_awake.mono _
      | exact roadbookref07_Few.mono _ _ _ _ _ _ _ _ _ _ _ _ _ _ _ _ _ _ _ _ _ _ _ _ _ _
      | exact roadbookref07_Same.mono _ _ _ _ _ _ _ _ _ _ _ _ _ _ _ _ _ _ _ _ _ _ _ _ _ _ _ _ _ _ _ _ _ _ _ _ _ _ _ _ _ _ _ _ _ _ _ _ _ _ _
      | exact rreq_Get.mono _ _
      | exact rreq_Put.mono _ _ _ _ _ _ _ _ _ _ _ _ _ _ _ _ _ _ _ _ _ _ _ _ _ _
      | exact rreq_Right.mono _ _ _ _ _ _ _ _ _ _ _ _ _ _ _ _ _ _ _ _ _ _ _ _ _ _
      | exact LeO.none _
      | refine LeO.ite ?_ ?_
      | refine LeO.bind ?_ (fun _ => ?_)
    · intro y0
      unfold roadbooklaw14_RreqBack.j3
      repeat' first
      | (with_reducible exact ih0 _ _ _ _ _ _ _ _ _ _ _ _ _ _ _ _ _ _ _ _ _ _ _ _ _ _ _)
      | (with_reducible exact ih1 _ _ _ _ _ _ _ _ _ _ _ _ _ _ _ _ _ _ _ _ _ _ _ _ _ _ _ _ _)
      | (with_reducible exact ih2 _)
      | (with_reducible exact ih3 _ _)
      | (with_reducible exact ih4 _ _)
      | (with_reducible exact roadbooklaw14_awake.mono _)
      | (with_reducible exact roadbookref07_Few.mono _ _ _ _ _ _ _ _ _ _ _ _ _ _ _ _ _ _ _ _ _ _ _ _ _ _)
      | (with_reducible exact roadbookref07_Same.mono _ _ _ _ _ _ _ _ _ _ _ _ _ _ _ _ _ _ _ _ _ _ _ _ _ _ _ _ _ _ _ _ _ _ _ _ _ _ _ _ _ _ _ _ _ _ _ _ _ _ _)
      | (with_reducible exact rreq_Get.mono _ _)
      | (with_reducible exact rreq_Put.mono _ _ _ _ _ _ _ _ _ _ _ _ _ _ _ _ _ _ _ _ _ _ _ _ _ _)
      | (with_reducible exact rreq_Right.mono _ _ _ _ _ _ _ _ _ _ _ _ _ _ _ _ _ _ _ _ _ _ _ _ _ _)
      | (with_reducible exact LeO.refl _)
      | (with_reducible exact LeO.none _)
      | (with_reducible refine LeO.ite ?_ ?_)
      | (with_reducible refine LeO.bind ?_ (fun _ => ?_))
      | exact ih0 _ _ _ _ _ _ _ _ _ _ _ _ _ _ _ _ _ _ _ _ _ _ _ _ _ _ _
      | exact ih1 _ _ _ _ _ _ _ _ _ _ _ _ _ _ _ _ _ _ _ _ _ _ _ _ _ _ _ _ _
      | exact ih2 _
      | exact ih3 _ _
      | exact ih4 _ _
      | exact roadbooklaw14_awake.mono _
      | exact roadbookref07_Few.mono _ _ _ _ _ _ _ _ _ _ _ _ _ _ _ _ _ _ _ _ _ _ _ _ _ _
      | exact roadbookref07_Same.mono _ _ _ _ _ _ _ _ _ _ _ _ _ _ _ _ _ _ _ _ _ _ _ _ _ _ _ _ _ _ _ _ _ _ _ _ _ _ _ _ _ _ _ _ _ _ _ _ _ _ _
      | exact rreq_Get.mono _ _
      | exact rreq_Put.mono _ _ _ _ _ _ _ _ _ _ _ _ _ _ _ _ _ _ _ _ _ _ _ _ _ _
      | exact rreq_Right.mono _ _ _ _ _ _ _ _ _ _ _ _ _ _ _ _ _ _ _ _ _ _ _ _ _ _
      | exact LeO.none _
      | refine LeO.ite ?_ ?_
      | refine LeO.bind ?_ (fun _ => ?_)
    · intro y0 y1
      unfold roadbooklaw14_RreqBack.j4
      repeat' first
      | (with_reducible exact ih0 _ _ _ _ _ _ _ _ _ _ _ _ _ _ _ _ _ _ _ _ _ _ _ _ _ _ _)
      | (with_reducible exact ih1 _ _ _ _ _ _ _ _ _ _ _ _ _ _ _ _ _ _ _ _ _ _ _ _ _ _ _ _ _)
      | (with_reducible exact ih2 _)
      | (with_reducible exact ih3 _ _)
      | (with_reducible exact ih4 _ _)
      | (with_reducible exact roadbooklaw14_awake.mono _)
      | (with_reducible exact roadbookref07_Few.mono _ _ _ _ _ _ _ _ _ _ _ _ _ _ _ _ _ _ _ _ _ _ _ _ _ _)
      | (with_reducible exact roadbookref07_Same.mono _ _ _ _ _ _ _ _ _ _ _ _ _ _ _ _ _ _ _ _ _ _ _ _ _ _ _ _ _ _ _ _ _ _ _ _ _ _ _ _ _ _ _ _ _ _ _ _ _ _ _)
      | (with_reducible exact rreq_Get.mono _ _)
      | (with_reducible exact rreq_Put.mono _ _ _ _ _ _ _ _ _ _ _ _ _ _ _ _ _ _ _ _ _ _ _ _ _ _)
      | (with_reducible exact rreq_Right.mono _ _ _ _ _ _ _ _ _ _ _ _ _ _ _ _ _ _ _ _ _ _ _ _ _ _)
      | (with_reducible exact LeO.refl _)
      | (with_reducible exact LeO.none _)
      | (with_reducible refine LeO.ite ?_ ?_)
      | (with_reducible refine LeO.bind ?_ (fun _ => ?_))
      | exact ih0 _ _ _ _ _ _ _ _ _ _ _ _ _ _ _ _ _ _ _ _ _ _ _ _ _ _ _
      | exact ih1 _ _ _ _ _ _ _ _ _ _ _ _ _ _ _ _ _ _ _ _ _ _ _ _ _ _ _ _ _
      | exact ih2 _
      | exact ih3 _ _
      | exact ih4 _ _
      | exact roadbooklaw14_awake.mono _
      | exact roadbookref07_Few.mono _ _ _ _ _ _ _ _ _ _ _ _ _ _ _ _ _ _ _ _ _ _ _ _ _ _
      | exact roadbookref07_Same.mono _ _ _ _ _ _ _ _ _ _ _ _ _ _ _ _ _ _ _ _ _ _ _ _ _ _ _ _ _ _ _ _ _ _ _ _ _ _ _ _ _ _ _ _ _ _ _ _ _ _ _
      | exact rreq_Get.mono _ _
      | exact rreq_Put.mono _ _ _ _ _ _ _ _ _ _ _ _ _ _ _ _ _ _ _ _ _ _ _ _ _ _
      | exact rreq_Right.mono _ _ _ _ _ _ _ _ _ _ _ _ _ _ _ _ _ _ _ _ _ _ _ _ _ _
      | exact LeO.none _
      | refine LeO.ite ?_ ?_
      | refine LeO.bind ?_ (fun _ => ?_)
    · intro y0 y1
      unfold roadbooklaw14_RreqBack.j2
      repeat' first
      | (with_reducible exact ih0 _ _ _ _ _ _ _ _ _ _ _ _ _ _ _ _ _ _ _ _ _ _ _ _ _ _ _)
      | (with_reducible exact ih1 _ _ _ _ _ _ _ _ _ _ _ _ _ _ _ _ _ _ _ _ _ _ _ _ _ _ _ _ _)
      | (with_reducible exact ih2 _)
      | (with_reducible exact ih3 _ _)
      | (with_reducible exact ih4 _ _)
      | (with_reducible exact roadbooklaw14_awake.mono _)
      | (with_reducible exact roadbookref07_Few.mono _ _ _ _ _ _ _ _ _ _ _ _ _ _ _ _ _ _ _ _ _ _ _ _ _ _)
      | (with_reducible exact roadbookref07_Same.mono _ _ _ _ _ _ _ _ _ _ _ _ _ _ _ _ _ _ _ _ _ _ _ _ _ _ _ _ _ _ _ _ _ _ _ _ _ _ _ _ _ _ _ _ _ _ _ _ _ _ _)
      | (with_reducible exact rreq_Get.mono _ _)
      | (with_reducible exact rreq_Put.mono _ _ _ _ _ _ _ _ _ _ _ _ _ _ _ _ _ _ _ _ _ _ _ _ _ _)
      | (with_reducible exact rreq_Right.mono _ _ _ _ _ _ _ _ _ _ _ _ _ _ _ _ _ _ _ _ _ _ _ _ _ _)
      | (with_reducible exact LeO.refl _)
      | (with_reducible exact LeO.none _)
      | (with_reducible refine LeO.ite ?_ ?_)
      | (with_reducible refine LeO.bind ?_ (fun _ => ?_))
      | exact ih0 _ _ _ _ _ _ _ _ _ _ _ _ _ _ _ _ _ _ _ _ _ _ _ _ _ _ _
      | exact ih1 _ _ _ _ _ _ _ _ _ _ _ _ _ _ _ _ _ _ _ _ _ _ _ _ _ _ _ _ _
      | exact ih2 _
      | exact ih3 _ _
      | exact ih4 _ _
      | exact roadbooklaw14_awake.mono _
      | exact roadbookref07_Few.mono _ _ _ _ _ _ _ _ _ _ _ _ _ _ _ _ _ _ _ _ _ _ _ _ _ _
      | exact roadbookref07_Same.mono _ _ _ _ _ _ _ _ _ _ _ _ _ _ _ _ _ _ _ _ _ _ _ _ _ _ _ _ _ _ _ _ _ _ _ _ _ _ _ _ _ _ _ _ _ _ _ _ _ _ _
      | exact rreq_Get.mono _ _
      | exact rreq_Put.mono _ _ _ _ _ _ _ _ _ _ _ _ _ _ _ _ _ _ _ _ _ _ _ _ _ _
      | exact rreq_Right.mono _ _ _ _ _ _ _ _ _ _ _ _ _ _ _ _ _ _ _ _ _ _ _ _ _ _
      | exact LeO.none _
      | refine LeO.ite ?_ ?_
      | refine LeO.bind ?_ (fun _ => ?_)
theorem roadbooklaw14_RreqBack.mono : ∀ a0 a1 a2 a3 a4 a5 a6 a7 a8 a9 a10 a11 a12 a13 a14 a15 a16 a17 a18 a19 a20 a21 a22 a23 a24 a25 k, LeO (roadbooklaw14_RreqBack.f k a0 a1 a2 a3 a4 a5 a6 a7 a8 a9 a10 a11 a12 a13 a14 a15 a16 a17 a18 a19 a20 a21 a22 a23 a24 a25) (roadbooklaw14_RreqBack.f (k + 1) a0 a1 a2 a3 a4 a5 a6 a7 a8 a9 a10 a11 a12 a13 a14 a15 a16 a17 a18 a19 a20 a21 a22 a23 a24 a25) := by
  intro a0 a1 a2 a3 a4 a5 a6 a7 a8 a9 a10 a11 a12 a13 a14 a15 a16 a17 a18 a19 a20 a21 a22 a23 a24 a25 k
  obtain ⟨ih0, ih1, ih2, ih3, ih4⟩ := roadbooklaw14_RreqBack.mono_l k
  unfold roadbooklaw14_RreqBack.f
  repeat' first
      | (with_reducible exact ih0 _ _ _ _ _ _ _ _ _ _ _ _ _ _ _ _ _ _ _ _ _ _ _ _ _ _ _)
      | (with_reducible exact ih1 _ _ _ _ _ _ _ _ _ _ _ _ _ _ _ _ _ _ _ _ _ _ _ _ _ _ _ _ _)
      | (with_reducible exact ih2 _)
      | (with_reducible exact ih3 _ _)
      | (with_reducible exact ih4 _ _)
      | (with_reducible exact roadbooklaw14_awake.mono _)
      | (with_reducible exact roadbookref07_Few.mono _ _ _ _ _ _ _ _ _ _ _ _ _ _ _ _ _ _ _ _ _ _ _ _ _ _)
      | (with_reducible exact roadbookref07_Same.mono _ _ _ _ _ _ _ _ _ _ _ _ _ _ _ _ _ _ _ _ _ _ _ _ _ _ _ _ _ _ _ _ _ _ _ _ _ _ _ _ _ _ _ _ _ _ _ _ _ _ _)
      | (with_reducible exact rreq_Get.mono _ _)
      | (with_reducible exact rreq_Put.mono _ _ _ _ _ _ _ _ _ _ _ _ _ _ _ _ _ _ _ _ _ _ _ _ _ _)
      | (with_reducible exact rreq_Right.mono _ _ _ _ _ _ _ _ _ _ _ _ _ _ _ _ _ _ _ _ _ _ _ _ _ _)
      | (with_reducible exact LeO.refl _)
      | (with_reducible exact LeO.none _)
      | (with_reducible refine LeO.ite ?_ ?_)
      | (with_reducible refine LeO.bind ?_ (fun _ => ?_))
      | exact ih0 _ _ _ _ _ _ _ _ _ _ _ _ _ _ _ _ _ _ _ _ _ _ _ _ _ _ _
      | exact ih1 _ _ _ _ _ _ _ _ _ _ _ _ _ _ _ _ _ _ _ _ _ _ _ _ _ _ _ _ _
      | exact ih2 _
      | exact ih3 _ _
      | exact ih4 _ _
      | exact roadbooklaw14_awake.mono _
      | exact roadbookref07_Few.mono _ _ _ _ _ _ _ _ _ _ _ _ _ _ _ _ _ _ _ _ _ _ _ _ _ _
      | exact roadbookref07_Same.mono _ _ _ _ _ _ _ _ _ _ _ _ _ _ _ _ _ _ _ _ _ _ _ _ _ _ _ _ _ _ _ _ _ _ _ _ _ _ _ _ _ _ _ _ _ _ _ _ _ _ _
      | exact rreq_Get.mono _ _
      | exact rreq_Put.mono _ _ _ _ _ _ _ _ _ _ _ _ _ _ _ _ _ _ _ _ _ _ _ _ _ _
      | exact rreq_Right.mono _ _ _ _ _ _ _ _ _ _ _ _ _ _ _ _ _ _ _ _ _ _ _ _ _ _
      | exact LeO.none _
      | refine LeO.ite ?_ ?_
      | refine LeO.bind ?_ (fun _ => ?_)

set_option maxHeartbeats 8000000 in
set_option maxRecDepth 100000 in
theorem roadbooklaw14_RreqBack.calls (k : Nat) (a0_0 : Int) (a0_1 : Int) (a0_2 : Int) (a0_3 : ByteArray) (a0_4 : Int) (a0_5 : Int) (a0_6 : ByteArray) (a0_7 : Int) (a0_8 : Int) (a0_9 : ByteArray) (a0_10 : Int) (a0_11 : ByteArray) (a0_12 : Int) (a0_13 : Int) (a0_14 : Int) (a0_15 : Int) (a0_16 : Int) (a0_17 : Int) (a0_18 : Int) (a0_19 : ByteArray) (a0_20 : ByteArray) (A0_21 : Option Addr) (c0_21 : Nat) (l0_21 : List (S46)) (a0_22 : Int) (a0_23 : ByteArray) (A0_24 : Option Addr) (c0_24 : Nat) (l0_24 : List (S48)) (a1 : ByteArray) (r : Bool) (w : World) (hr0_21 : Kd.C k46 w A0_21 l0_21.length l0_21) (hc0_21 : l0_21.length ≤ c0_21) (hr0_24 : Kd.C k48 w A0_24 l0_24.length l0_24) (hc0_24 : l0_24.length ≤ c0_24) (hr_ : Aside0 (r = true)) (h : roadbooklaw14_RreqBack.f k a0_0 a0_1 a0_2 a0_3 a0_4 a0_5 a0_6 a0_7 a0_8 a0_9 a0_10 a0_11 a0_12 a0_13 a0_14 a0_15 a0_16 a0_17 a0_18 a0_19 a0_20 l0_21 a0_22 a0_23 l0_24 a1 = some r) :
    Calls Try.prog 5 #[.agg #[.int .i64 a0_0, .int .i64 a0_1, .int .i64 a0_2, .string a0_3, .int .i64 a0_4, .int .i64 a0_5, .string a0_6, .int .i64 a0_7, .int .i64 a0_8, .string a0_9, .int .i64 a0_10, .string a0_11, .int .i64 a0_12, .int .i64 a0_13, .int .i64 a0_14, .int .i64 a0_15, .int .i64 a0_16, .int .i64 a0_17, .int .i64 a0_18, .string a0_19, .string a0_20, .slice A0_21 l0_21.length c0_21, .int .i64 a0_22, .string a0_23, .slice A0_24 l0_24.length c0_24], .string a1] w fun e w' => e = .returned (.bool r) ∧ Below w.heap.size w w' := by
  have hu25 := Try.underlying25
  have HR0_21 := Aside0.mk hr0_21
  have HC0_21 := Aside0.mk hc0_21
  clear hr0_21 hc0_21
  have HR0_24 := Aside0.mk hr0_24
  have HC0_24 := Aside0.mk hc0_24
  clear hr0_24 hc0_24
  have HB := Aside0.mk (Below.refl w.heap.size w)
  have H : ((roadbookref07_Few.f k a0_0 a0_1 a0_2 a0_3 a0_4 a0_5 a0_6 a0_7 a0_8 a0_9 a0_10 a0_11 a0_12 a0_13 a0_14 a0_15 a0_16 a0_17 a0_18 a0_19 a0_20 l0_21 a0_22 a0_23 l0_24).bind fun t102 => (if t102 = true then (roadbooklaw14_RreqBack.j0 k a1 (decide ((a1.size : Int) > 3000)) a0_0 a0_1 a0_2 a0_3 a0_4 a0_5 a0_6 a0_7 a0_8 a0_9 a0_10 a0_11 a0_12 a0_13 a0_14 a0_15 a0_16 a0_17 a0_18 a0_19 a0_20 l0_21 a0_22 a0_23 l0_24) else (roadbooklaw14_RreqBack.j0 k a1 true a0_0 a0_1 a0_2 a0_3 a0_4 a0_5 a0_6 a0_7 a0_8 a0_9 a0_10 a0_11 a0_12 a0_13 a0_14 a0_15 a0_16 a0_17 a0_18 a0_19 a0_20 l0_21 a0_22 a0_23 l0_24))) = some r := h
  clear h
  have HC3 := Aside0.mk H
  clear H
  go_enter Try.func5, Try.ntmps5
  go_upto_region 1 with (first | ((with_reducible refine Go.Proofs.Ytccjakjjaemmkaa.Pre.gate_load 25 rfl ?_); (try (refine gate_guard (by rfl) ?_; dsimp only)); refine Go.Proofs.Ytccjakjjaemmkaa.Pre.load_event rfl rfl rfl (by rfl) (by first | ((with_reducible repeat (first | refine blk_drewN ?_ _ | refine blk_drew ?_ | refine blk_alloc ?_ _)); (with_reducible first | exact BK101.out | exact BK138.out | exact BK172.out)) | (apply Go.Proofs.Ytccjakjjaemmkaa.Pre.heap_norm; ((with_reducible repeat (first | refine blk_drewN ?_ _ | refine blk_drew ?_ | refine blk_alloc ?_ _ | apply Go.Proofs.Ytccjakjjaemmkaa.Pre.blk_set_)); (with_reducible first | exact BK101.out | exact BK138.out | exact BK172.out)); (first | (simp only [List.setIfInBounds_toArray, List.set_cons_zero, List.set_cons_succ]; done) | (simp only [List.setIfInBounds_toArray, List.set_cons_zero, List.set_cons_succ]; rfl) | rfl))) Try.underlying25 rfl (by kernel_rfl) ?_) | ((with_reducible refine gate_dst (N := 2) rfl ?_); (try (refine gate_guard (by rfl) ?_; dsimp only)); refine box_event ?hg (N := 2) ?hd (cs := #[.int .i64 a0_0, .int .i64 a0_1, .int .i64 a0_2, .string a0_3, .int .i64 a0_4, .int .i64 a0_5, .string a0_6, .int .i64 a0_7, .int .i64 a0_8, .string a0_9, .int .i64 a0_10, .string a0_11, .int .i64 a0_12, .int .i64 a0_13, .int .i64 a0_14, .int .i64 a0_15, .int .i64 a0_16, .int .i64 a0_17, .int .i64 a0_18, .string a0_19, .string a0_20, .slice A0_21 l0_21.length c0_21, .int .i64 a0_22, .string a0_23, .slice A0_24 l0_24.length c0_24]) (t := 25) ?hr ?_; (case hd => rfl); (case hg => rfl); (case hr => first | (go_simp; done) | (go_simp; rfl)); intro gb101 hg w4 hbox hb; have n0_ := Aside0.mk (below_step (by repeat (first | (with_reducible first | exact HB.out | apply below_alloc | apply pw_below_drewN | apply below_drew1) | exact HB.out)) hb); have n1_ := Aside0.mk (hbox); have n2_ := Aside0.mk ((by rw [hg]; exact (below_size (by repeat (first | (with_reducible first | exact HB.out | apply below_alloc | apply pw_below_drewN | apply below_drew1) | exact HB.out))) : w.heap.size ≤ gb101)); have n3_ := Aside0.mk ((by rw [hg]; exact (below_size (by repeat (first | (with_reducible first | exact HB.out | apply below_alloc | apply pw_below_drewN | apply below_drew1) | exact HB.out))) : w.heap.size ≤ gb101)); clear HB; have HB := n0_; have BK101 := n1_; have GW101 := n2_; have GE101 := n3_; clear n0_ n1_ n2_ n3_; clear hb hbox hg))
  (try simp only [Act.put, List.setIfInBounds_toArray, List.set_cons_zero, List.set_cons_succ])
  go_cut [22] (fun v22 wc => ∃ (kq : Nat) (x22_2 : Bool), v22 = .bool x22_2 ∧ Aside0 (roadbooklaw14_RreqBack.j0 kq a1 x22_2 a0_0 a0_1 a0_2 a0_3 a0_4 a0_5 a0_6 a0_7 a0_8 a0_9 a0_10 a0_11 a0_12 a0_13 a0_14 a0_15 a0_16 a0_17 a0_18 a0_19 a0_20 l0_21 a0_22 a0_23 l0_24 = some r) ∧ Aside0 (kq ≤ k) ∧ Aside0 (wc.heap[gb101]? = some (.cells #[.int .i64 a0_0, .int .i64 a0_1, .int .i64 a0_2, .string a0_3, .int .i64 a0_4, .int .i64 a0_5, .string a0_6, .int .i64 a0_7, .int .i64 a0_8, .string a0_9, .int .i64 a0_10, .string a0_11, .int .i64 a0_12, .int .i64 a0_13, .int .i64 a0_14, .int .i64 a0_15, .int .i64 a0_16, .int .i64 a0_17, .int .i64 a0_18, .string a0_19, .string a0_20, (.slice A0_21 l0_21.length c0_21), .int .i64 a0_22, .string a0_23, (.slice A0_24 l0_24.length c0_24)] 25 (0, 0))) ∧ Aside0 (Below w.heap.size w wc))
  case first =>
    have H := HC3.out
    clear HC3
    replace H := Option.bind_eq_some_iff.mp H
    obtain ⟨t102, A50, H⟩ := H
    replace H : (if t102 = true then (roadbooklaw14_RreqBack.j0 k a1 (decide ((a1.size : Int) > 3000)) a0_0 a0_1 a0_2 a0_3 a0_4 a0_5 a0_6 a0_7 a0_8 a0_9 a0_10 a0_11 a0_12 a0_13 a0_14 a0_15 a0_16 a0_17 a0_18 a0_19 a0_20 l0_21 a0_22 a0_23 l0_24) else (roadbooklaw14_RreqBack.j0 k a1 true a0_0 a0_1 a0_2 a0_3 a0_4 a0_5 a0_6 a0_7 a0_8 a0_9 a0_10 a0_11 a0_12 a0_13 a0_14 a0_15 a0_16 a0_17 a0_18 a0_19 a0_20 l0_21 a0_22 a0_23 l0_24)) = some r := H
    have A5 := Aside0.mk A50
    clear A50
    by_cases c6 : t102 = true
    · subst c6
      have H1 : (roadbooklaw14_RreqBack.j0 k a1 (decide ((a1.size : Int) > 3000)) a0_0 a0_1 a0_2 a0_3 a0_4 a0_5 a0_6 a0_7 a0_8 a0_9 a0_10 a0_11 a0_12 a0_13 a0_14 a0_15 a0_16 a0_17 a0_18 a0_19 a0_20 l0_21 a0_22 a0_23 l0_24) = some r := by rw [if_pos rfl] at H; exact H
      clear H
      have H := H1
      clear H1
      have H' := Aside0.mk H
      clear H
      obtain ⟨hcz7_0, hcz7_1, hcz7_2, hcz7_3, hcz7_4, hcz7_5, hcz7_6, hcz7_7, hcz7_8, hcz7_9, hcz7_10, hcz7_11, hcz7_12, hcz7_13, hcz7_14, hcz7_15, hcz7_16, hcz7_17, hcz7_18, hcz7_19, hcz7_20, hcz7_21, hcz7_22, hcz7_23, hcz7_24, hfz7_0, hfz7_1, hfz7_2, hfz7_3, hfz7_4, hfz7_5, hfz7_6, hfz7_7, hfz7_8, hfz7_9, hfz7_10, hfz7_11, hfz7_12, hfz7_13, hfz7_14, hfz7_15, hfz7_16, hfz7_17, hfz7_18, hfz7_19, hfz7_20, hfz7_21, hfz7_22, hfz7_23, hfz7_24⟩ := cells_25 BK101.out
      go_wp2_with (first | ((with_reducible refine Go.Proofs.Ytccjakjjaemmkaa.Pre.gate_load 25 rfl ?_); (try (refine gate_guard (by rfl) ?_; dsimp only)); refine Go.Proofs.Ytccjakjjaemmkaa.Pre.load_event rfl rfl rfl (by rfl) (by first | ((with_reducible repeat (first | refine blk_drewN ?_ _ | refine blk_drew ?_ | refine blk_alloc ?_ _)); (with_reducible first | exact BK101.out | exact BK138.out | exact BK172.out)) | (apply Go.Proofs.Ytccjakjjaemmkaa.Pre.heap_norm; ((with_reducible repeat (first | refine blk_drewN ?_ _ | refine blk_drew ?_ | refine blk_alloc ?_ _ | apply Go.Proofs.Ytccjakjjaemmkaa.Pre.blk_set_)); (with_reducible first | exact BK101.out | exact BK138.out | exact BK172.out)); (first | (simp only [List.setIfInBounds_toArray, List.set_cons_zero, List.set_cons_succ]; done) | (simp only [List.setIfInBounds_toArray, List.set_cons_zero, List.set_cons_succ]; rfl) | rfl))) Try.underlying25 rfl (by kernel_rfl) ?_) | ((with_reducible refine gate_callee (f := 16) rfl ?_); refine goesL_ (some 16) rfl rfl Try.func16 (by kernel_rfl) rfl #[.agg #[.int .i64 a0_0, .int .i64 a0_1, .int .i64 a0_2, .string a0_3, .int .i64 a0_4, .int .i64 a0_5, .string a0_6, .int .i64 a0_7, .int .i64 a0_8, .string a0_9, .int .i64 a0_10, .string a0_11, .int .i64 a0_12, .int .i64 a0_13, .int .i64 a0_14, .int .i64 a0_15, .int .i64 a0_16, .int .i64 a0_17, .int .i64 a0_18, .string a0_19, .string a0_20, .slice A0_21 l0_21.length c0_21, .int .i64 a0_22, .string a0_23, .slice A0_24 l0_24.length c0_24]] rfl (by (try simp only [List.map_toArray, List.map_cons, List.map_nil]); first | done | rfl | (simp only [List.length_drop, List.length_take]; rfl)) ?_; (with_reducible refine (roadbookref07_Few.calls k a0_0 a0_1 a0_2 a0_3 a0_4 a0_5 a0_6 a0_7 a0_8 a0_9 a0_10 a0_11 a0_12 a0_13 a0_14 a0_15 a0_16 a0_17 a0_18 a0_19 a0_20 _ _ l0_21 a0_22 a0_23 _ _ l0_24 true _ ?side1 ?side2 ?side3 ?side4 A5.out).mono ?_); (case side1 => repeat (first | exact (Kd.C_below HR0_21.out HB.out) | (with_reducible refine Kd.C_alloc ?_ _) | (with_reducible refine Kd.C_drewN ?_ _) | (with_reducible refine Kd.C_drew ?_))); (case side2 => exact HC0_21.out); (case side3 => repeat (first | exact (Kd.C_below HR0_24.out HB.out) | (with_reducible refine Kd.C_alloc ?_ _) | (with_reducible refine Kd.C_drewN ?_ _) | (with_reducible refine Kd.C_drew ?_))); (case side4 => exact HC0_24.out); rintro e w8 ⟨rfl, hb⟩; refine ⟨_, rfl, ?_⟩; have n0_ := Aside0.mk (blk_below (g := gb101) (by (with_reducible repeat (first | refine blk_drewN ?_ _ | refine blk_drew ?_ | refine blk_alloc ?_ _)); exact BK101.out) hb); have n1_ := Aside0.mk (below_step (by repeat (first | (with_reducible first | exact HB.out | apply below_alloc | apply pw_below_drewN | apply below_drew1 | refine below_set ?_ GE101.out) | exact HB.out)) hb); clear BK101; clear HB; have BK101 := n0_; have HB := n1_; clear n0_ n1_; (try clear hb); (try clear hb2); (try clear hk); (try clear hi)))
      go_meet
      case rel => exact ⟨_, (decide ((a1.size : Int) > 3000)), (by first | rfl | (simp; done) | (simp [*]; done)), H', ⟨by first | omega | exact Nat.le_refl _⟩, ⟨by (with_reducible repeat (first | refine blk_drewN ?_ _ | refine blk_drew ?_ | refine blk_alloc ?_ _)); exact BK101.out⟩, ⟨by repeat (first | (with_reducible first | exact HB.out | apply below_alloc | apply pw_below_drewN | apply below_drew1 | refine below_set ?_ GE101.out) | exact HB.out)⟩⟩
    · replace c6 := Bool.eq_false_iff.mpr c6
      subst c6
      have H1 : (roadbooklaw14_RreqBack.j0 k a1 true a0_0 a0_1 a0_2 a0_3 a0_4 a0_5 a0_6 a0_7 a0_8 a0_9 a0_10 a0_11 a0_12 a0_13 a0_14 a0_15 a0_16 a0_17 a0_18 a0_19 a0_20 l0_21 a0_22 a0_23 l0_24) = some r := by rw [if_neg (show ¬ (false = true) by decide)] at H; exact H
      clear H
      have H := H1
      clear H1
      have H' := Aside0.mk H
      clear H
      obtain ⟨hcz9_0, hcz9_1, hcz9_2, hcz9_3, hcz9_4, hcz9_5, hcz9_6, hcz9_7, hcz9_8, hcz9_9, hcz9_10, hcz9_11, hcz9_12, hcz9_13, hcz9_14, hcz9_15, hcz9_16, hcz9_17, hcz9_18, hcz9_19, hcz9_20, hcz9_21, hcz9_22, hcz9_23, hcz9_24, hfz9_0, hfz9_1, hfz9_2, hfz9_3, hfz9_4, hfz9_5, hfz9_6, hfz9_7, hfz9_8, hfz9_9, hfz9_10, hfz9_11, hfz9_12, hfz9_13, hfz9_14, hfz9_15, hfz9_16, hfz9_17, hfz9_18, hfz9_19, hfz9_20, hfz9_21, hfz9_22, hfz9_23, hfz9_24⟩ := cells_25 BK101.out
      go_wp2_with (first | ((with_reducible refine Go.Proofs.Ytccjakjjaemmkaa.Pre.gate_load 25 rfl ?_); (try (refine gate_guard (by rfl) ?_; dsimp only)); refine Go.Proofs.Ytccjakjjaemmkaa.Pre.load_event rfl rfl rfl (by rfl) (by first | ((with_reducible repeat (first | refine blk_drewN ?_ _ | refine blk_drew ?_ | refine blk_alloc ?_ _)); (with_reducible first | exact BK101.out | exact BK138.out | exact BK172.out)) | (apply Go.Proofs.Ytccjakjjaemmkaa.Pre.heap_norm; ((with_reducible repeat (first | refine blk_drewN ?_ _ | refine blk_drew ?_ | refine blk_alloc ?_ _ | apply Go.Proofs.Ytccjakjjaemmkaa.Pre.blk_set_)); (with_reducible first | exact BK101.out | exact BK138.out | exact BK172.out)); (first | (simp only [List.setIfInBounds_toArray, List.set_cons_zero, List.set_cons_succ]; done) | (simp only [List.setIfInBounds_toArray, List.set_cons_zero, List.set_cons_succ]; rfl) | rfl))) Try.underlying25 rfl (by kernel_rfl) ?_) | ((with_reducible refine gate_callee (f := 16) rfl ?_); refine goesL_ (some 16) rfl rfl Try.func16 (by kernel_rfl) rfl #[.agg #[.int .i64 a0_0, .int .i64 a0_1, .int .i64 a0_2, .string a0_3, .int .i64 a0_4, .int .i64 a0_5, .string a0_6, .int .i64 a0_7, .int .i64 a0_8, .string a0_9, .int .i64 a0_10, .string a0_11, .int .i64 a0_12, .int .i64 a0_13, .int .i64 a0_14, .int .i64 a0_15, .int .i64 a0_16, .int .i64 a0_17, .int .i64 a0_18, .string a0_19, .string a0_20, .slice A0_21 l0_21.length c0_21, .int .i64 a0_22, .string a0_23, .slice A0_24 l0_24.length c0_24]] rfl (by (try simp only [List.map_toArray, List.map_cons, List.map_nil]); first | done | rfl | (simp only [List.length_drop, List.length_take]; rfl)) ?_; (with_reducible refine (roadbookref07_Few.calls k a0_0 a0_1 a0_2 a0_3 a0_4 a0_5 a0_6 a0_7 a0_8 a0_9 a0_10 a0_11 a0_12 a0_13 a0_14 a0_15 a0_16 a0_17 a0_18 a0_19 a0_20 _ _ l0_21 a0_22 a0_23 _ _ l0_24 false _ ?side1 ?side2 ?side3 ?side4 A5.out).mono ?_); (case side1 => repeat (first | exact (Kd.C_below HR0_21.out HB.out) | (with_reducible refine Kd.C_alloc ?_ _) | (with_reducible refine Kd.C_drewN ?_ _) | (with_reducible refine Kd.C_drew ?_))); (case side2 => exact HC0_21.out); (case side3 => repeat (first | exact (Kd.C_below HR0_24.out HB.out) | (with_reducible refine Kd.C_alloc ?_ _) | (with_reducible refine Kd.C_drewN ?_ _) | (with_reducible refine Kd.C_drew ?_))); (case side4 => exact HC0_24.out); rintro e w10 ⟨rfl, hb⟩; refine ⟨_, rfl, ?_⟩; have n0_ := Aside0.mk (blk_below (g := gb101) (by (with_reducible repeat (first | refine blk_drewN ?_ _ | refine blk_drew ?_ | refine blk_alloc ?_ _)); exact BK101.out) hb); have n1_ := Aside0.mk (below_step (by repeat (first | (with_reducible first | exact HB.out | apply below_alloc | apply pw_below_drewN | apply below_drew1 | refine below_set ?_ GE101.out) | exact HB.out)) hb); clear BK101; clear HB; have BK101 := n0_; have HB := n1_; clear n0_ n1_; (try clear hb); (try clear hb2); (try clear hk); (try clear hi)))
      go_meet
      case rel => exact ⟨_, (true), (by first | rfl | (simp; done) | (simp [*]; done)), H', ⟨by first | omega | exact Nat.le_refl _⟩, ⟨by (with_reducible repeat (first | refine blk_drewN ?_ _ | refine blk_drew ?_ | refine blk_alloc ?_ _)); exact BK101.out⟩, ⟨by repeat (first | (with_reducible first | exact HB.out | apply below_alloc | apply pw_below_drewN | apply below_drew1 | refine below_set ?_ GE101.out) | exact HB.out)⟩⟩
  case rest =>
    clear HC3
    try clear c5
    obtain ⟨kq, x22_2, rfl, HA, HJ2, BK101, HB⟩ := hcut
    cases kq with
    | zero => exact absurd HA.out (by simp [roadbooklaw14_RreqBack.j0])
    | succ kj2 =>
      have H := HA.out
      clear HA
      simp only [roadbooklaw14_RreqBack.j0] at H
      by_cases c11 : x22_2 = true
      · subst c11
        have H1 : ((roadbooklaw14_awake.f kj2).bind fun t103 => (some t103)) = some r := by rw [if_pos rfl] at H; exact H
        clear H
        have H := H1
        clear H1
        replace H := Option.bind_eq_some_iff.mp H
        obtain ⟨t103, A120, H⟩ := H
        replace H : (some t103) = some r := H
        have A12 := Aside0.mk A120
        clear A120
        obtain rfl := Option.some.inj H
        go_wp2_with (first | ((with_reducible refine Go.Proofs.Ytccjakjjaemmkaa.Pre.gate_load 25 rfl ?_); (try (refine gate_guard (by rfl) ?_; dsimp only)); refine Go.Proofs.Ytccjakjjaemmkaa.Pre.load_event rfl rfl rfl (by rfl) (by first | ((with_reducible repeat (first | refine blk_drewN ?_ _ | refine blk_drew ?_ | refine blk_alloc ?_ _)); (with_reducible first | exact BK101.out | exact BK138.out | exact BK172.out)) | (apply Go.Proofs.Ytccjakjjaemmkaa.Pre.heap_norm; ((with_reducible repeat (first | refine blk_drewN ?_ _ | refine blk_drew ?_ | refine blk_alloc ?_ _ | apply Go.Proofs.Ytccjakjjaemmkaa.Pre.blk_set_)); (with_reducible first | exact BK101.out | exact BK138.out | exact BK172.out)); (first | (simp only [List.setIfInBounds_toArray, List.set_cons_zero, List.set_cons_succ]; done) | (simp only [List.setIfInBounds_toArray, List.set_cons_zero, List.set_cons_succ]; rfl) | rfl))) Try.underlying25 rfl (by kernel_rfl) ?_) | ((with_reducible refine gate_callee (f := 17) rfl ?_); refine goesL_ (some 23) rfl rfl Try.func17 (by kernel_rfl) rfl #[] rfl (by (try simp only [List.map_toArray, List.map_cons, List.map_nil]); first | done | rfl | (simp only [List.length_drop, List.length_take]; rfl)) ?_; (with_reducible refine (roadbooklaw14_awake.calls kj2  t103 _ (Aside0.mk (by first | rfl | exact hr_.out)) A12.out).mono ?_); rintro e w13 ⟨rfl, hb⟩; refine ⟨_, rfl, ?_⟩; have n0_ := Aside0.mk (blk_below (g := gb101) (by (with_reducible repeat (first | refine blk_drewN ?_ _ | refine blk_drew ?_ | refine blk_alloc ?_ _)); exact BK101.out) hb); have n1_ := Aside0.mk (below_step (by repeat (first | (with_reducible first | exact HB.out | apply below_alloc | apply pw_below_drewN | apply below_drew1 | refine below_set ?_ GE101.out) | exact HB.out)) hb); clear BK101; clear HB; have BK101 := n0_; have HB := n1_; clear n0_ n1_; (try clear hb); (try clear hb2); (try clear hk); (try clear hi)))
        go_ret
        exact ⟨by first | rfl | (simp [errW_none, errW_some] <;> rfl) | (simp [*, errW_none, errW_some] <;> rfl), by repeat (first | (with_reducible first | exact HB.out | apply below_alloc | apply pw_below_drewN | apply below_drew1 | refine below_set ?_ GE101.out) | exact HB.out)⟩
      · replace c11 := Bool.eq_false_iff.mpr c11
        subst c11
        have H1 : ((rreq_Put.f kj2 a0_0 a0_1 a0_2 a0_3 a0_4 a0_5 a0_6 a0_7 a0_8 a0_9 a0_10 a0_11 a0_12 a0_13 a0_14 a0_15 a0_16 a0_17 a0_18 a0_19 a0_20 l0_21 a0_22 a0_23 l0_24).bind fun bt104 => ((rreq_Right.f kj2 a0_0 a0_1 a0_2 a0_3 a0_4 a0_5 a0_6 a0_7 a0_8 a0_9 a0_10 a0_11 a0_12 a0_13 a0_14 a0_15 a0_16 a0_17 a0_18 a0_19 a0_20 l0_21 a0_22 a0_23 l0_24).bind fun t106 => (if (bt104.2 != t106) = true then (roadbooklaw14_RreqBack.j1 kj2 a1 bt104.1 bt104.2 true a0_0 a0_1 a0_2 a0_3 a0_4 a0_5 a0_6 a0_7 a0_8 a0_9 a0_10 a0_11 a0_12 a0_13 a0_14 a0_15 a0_16 a0_17 a0_18 a0_19 a0_20 l0_21 a0_22 a0_23 l0_24) else (if bt104.2 = true then (roadbooklaw14_RreqBack.j1 kj2 a1 bt104.1 bt104.2 false a0_0 a0_1 a0_2 a0_3 a0_4 a0_5 a0_6 a0_7 a0_8 a0_9 a0_10 a0_11 a0_12 a0_13 a0_14 a0_15 a0_16 a0_17 a0_18 a0_19 a0_20 l0_21 a0_22 a0_23 l0_24) else (roadbooklaw14_RreqBack.j1 kj2 a1 bt104.1 bt104.2 (bt104.1.toList != ([] : List UInt8)) a0_0 a0_1 a0_2 a0_3 a0_4 a0_5 a0_6 a0_7 a0_8 a0_9 a0_10 a0_11 a0_12 a0_13 a0_14 a0_15 a0_16 a0_17 a0_18 a0_19 a0_20 l0_21 a0_22 a0_23 l0_24))))) = some r := by rw [if_neg (show ¬ (false = true) by decide)] at H; exact H
        clear H
        have H := H1
        clear H1
        replace H := Option.bind_eq_some_iff.mp H
        obtain ⟨⟨t104, t105⟩, A140, H⟩ := H
        replace H : ((rreq_Right.f kj2 a0_0 a0_1 a0_2 a0_3 a0_4 a0_5 a0_6 a0_7 a0_8 a0_9 a0_10 a0_11 a0_12 a0_13 a0_14 a0_15 a0_16 a0_17 a0_18 a0_19 a0_20 l0_21 a0_22 a0_23 l0_24).bind fun t106 => (if (t105 != t106) = true then (roadbooklaw14_RreqBack.j1 kj2 a1 t104 t105 true a0_0 a0_1 a0_2 a0_3 a0_4 a0_5 a0_6 a0_7 a0_8 a0_9 a0_10 a0_11 a0_12 a0_13 a0_14 a0_15 a0_16 a0_17 a0_18 a0_19 a0_20 l0_21 a0_22 a0_23 l0_24) else (if t105 = true then (roadbooklaw14_RreqBack.j1 kj2 a1 t104 t105 false a0_0 a0_1 a0_2 a0_3 a0_4 a0_5 a0_6 a0_7 a0_8 a0_9 a0_10 a0_11 a0_12 a0_13 a0_14 a0_15 a0_16 a0_17 a0_18 a0_19 a0_20 l0_21 a0_22 a0_23 l0_24) else (roadbooklaw14_RreqBack.j1 kj2 a1 t104 t105 (t104.toList != ([] : List UInt8)) a0_0 a0_1 a0_2 a0_3 a0_4 a0_5 a0_6 a0_7 a0_8 a0_9 a0_10 a0_11 a0_12 a0_13 a0_14 a0_15 a0_16 a0_17 a0_18 a0_19 a0_20 l0_21 a0_22 a0_23 l0_24)))) = some r := H
        have A14 := Aside0.mk A140
        clear A140
        have HC15 := Aside0.mk H
        clear H
        obtain ⟨hcz16_0, hcz16_1, hcz16_2, hcz16_3, hcz16_4, hcz16_5, hcz16_6, hcz16_7, hcz16_8, hcz16_9, hcz16_10, hcz16_11, hcz16_12, hcz16_13, hcz16_14, hcz16_15, hcz16_16, hcz16_17, hcz16_18, hcz16_19, hcz16_20, hcz16_21, hcz16_22, hcz16_23, hcz16_24, hfz16_0, hfz16_1, hfz16_2, hfz16_3, hfz16_4, hfz16_5, hfz16_6, hfz16_7, hfz16_8, hfz16_9, hfz16_10, hfz16_11, hfz16_12, hfz16_13, hfz16_14, hfz16_15, hfz16_16, hfz16_17, hfz16_18, hfz16_19, hfz16_20, hfz16_21, hfz16_22, hfz16_23, hfz16_24⟩ := cells_25 BK101.out
        go_upto_region 4 with (first | ((with_reducible refine Go.Proofs.Ytccjakjjaemmkaa.Pre.gate_load 25 rfl ?_); (try (refine gate_guard (by rfl) ?_; dsimp only)); refine Go.Proofs.Ytccjakjjaemmkaa.Pre.load_event rfl rfl rfl (by rfl) (by first | ((with_reducible repeat (first | refine blk_drewN ?_ _ | refine blk_drew ?_ | refine blk_alloc ?_ _)); (with_reducible first | exact BK101.out | exact BK138.out | exact BK172.out)) | (apply Go.Proofs.Ytccjakjjaemmkaa.Pre.heap_norm; ((with_reducible repeat (first | refine blk_drewN ?_ _ | refine blk_drew ?_ | refine blk_alloc ?_ _ | apply Go.Proofs.Ytccjakjjaemmkaa.Pre.blk_set_)); (with_reducible first | exact BK101.out | exact BK138.out | exact BK172.out)); (first | (simp only [List.setIfInBounds_toArray, List.set_cons_zero, List.set_cons_succ]; done) | (simp only [List.setIfInBounds_toArray, List.set_cons_zero, List.set_cons_succ]; rfl) | rfl))) Try.underlying25 rfl (by kernel_rfl) ?_) | ((with_reducible refine gate_callee (f := 18) rfl ?_); refine goesL_ (some 26) rfl rfl Try.func18 (by kernel_rfl) rfl #[.agg #[.int .i64 a0_0, .int .i64 a0_1, .int .i64 a0_2, .string a0_3, .int .i64 a0_4, .int .i64 a0_5, .string a0_6, .int .i64 a0_7, .int .i64 a0_8, .string a0_9, .int .i64 a0_10, .string a0_11, .int .i64 a0_12, .int .i64 a0_13, .int .i64 a0_14, .int .i64 a0_15, .int .i64 a0_16, .int .i64 a0_17, .int .i64 a0_18, .string a0_19, .string a0_20, .slice A0_21 l0_21.length c0_21, .int .i64 a0_22, .string a0_23, .slice A0_24 l0_24.length c0_24]] rfl (by (try simp only [List.map_toArray, List.map_cons, List.map_nil]); first | done | rfl | (simp only [List.length_drop, List.length_take]; rfl)) ?_; (with_reducible refine (rreq_Put.calls kj2 a0_0 a0_1 a0_2 a0_3 a0_4 a0_5 a0_6 a0_7 a0_8 a0_9 a0_10 a0_11 a0_12 a0_13 a0_14 a0_15 a0_16 a0_17 a0_18 a0_19 a0_20 _ _ l0_21 a0_22 a0_23 _ _ l0_24 t104 t105 _ ?side1 ?side2 ?side3 ?side4 A14.out).mono ?_); (case side1 => repeat (first | exact (Kd.C_below HR0_21.out HB.out) | (with_reducible refine Kd.C_alloc ?_ _) | (with_reducible refine Kd.C_drewN ?_ _) | (with_reducible refine Kd.C_drew ?_))); (case side2 => exact HC0_21.out); (case side3 => repeat (first | exact (Kd.C_below HR0_24.out HB.out) | (with_reducible refine Kd.C_alloc ?_ _) | (with_reducible refine Kd.C_drewN ?_ _) | (with_reducible refine Kd.C_drew ?_))); (case side4 => exact HC0_24.out); rintro e w17 ⟨rfl, hb⟩; refine ⟨_, rfl, ?_⟩; have n0_ := Aside0.mk (blk_below (g := gb101) (by (with_reducible repeat (first | refine blk_drewN ?_ _ | refine blk_drew ?_ | refine blk_alloc ?_ _)); exact BK101.out) hb); have n1_ := Aside0.mk (below_step (by repeat (first | (with_reducible first | exact HB.out | apply below_alloc | apply pw_below_drewN | apply below_drew1 | refine below_set ?_ GE101.out) | exact HB.out)) hb); clear BK101; clear HB; have BK101 := n0_; have HB := n1_; clear n0_ n1_; (try clear hb); (try clear hb2); (try clear hk); (try clear hi)))
        (try simp only [Act.put, List.setIfInBounds_toArray, List.set_cons_zero, List.set_cons_succ])
        go_cut [40] (fun v40 wc => ∃ (kq : Nat) (x40_14 : Bool), v40 = .bool x40_14 ∧ Aside0 (roadbooklaw14_RreqBack.j1 kq a1 t104 t105 x40_14 a0_0 a0_1 a0_2 a0_3 a0_4 a0_5 a0_6 a0_7 a0_8 a0_9 a0_10 a0_11 a0_12 a0_13 a0_14 a0_15 a0_16 a0_17 a0_18 a0_19 a0_20 l0_21 a0_22 a0_23 l0_24 = some r) ∧ Aside0 (kq ≤ kj2) ∧ Aside0 (wc.heap[gb101]? = some (.cells #[.int .i64 a0_0, .int .i64 a0_1, .int .i64 a0_2, .string a0_3, .int .i64 a0_4, .int .i64 a0_5, .string a0_6, .int .i64 a0_7, .int .i64 a0_8, .string a0_9, .int .i64 a0_10, .string a0_11, .int .i64 a0_12, .int .i64 a0_13, .int .i64 a0_14, .int .i64 a0_15, .int .i64 a0_16, .int .i64 a0_17, .int .i64 a0_18, .string a0_19, .string a0_20, (.slice A0_21 l0_21.length c0_21), .int .i64 a0_22, .string a0_23, (.slice A0_24 l0_24.length c0_24)] 25 (0, 0))) ∧ Aside0 (Below w.heap.size w wc))
        case first =>
          have H := HC15.out
          clear HC15
          replace H := Option.bind_eq_some_iff.mp H
          obtain ⟨t106, A180, H⟩ := H
          replace H : (if (t105 != t106) = true then (roadbooklaw14_RreqBack.j1 kj2 a1 t104 t105 true a0_0 a0_1 a0_2 a0_3 a0_4 a0_5 a0_6 a0_7 a0_8 a0_9 a0_10 a0_11 a0_12 a0_13 a0_14 a0_15 a0_16 a0_17 a0_18 a0_19 a0_20 l0_21 a0_22 a0_23 l0_24) else (if t105 = true then (roadbooklaw14_RreqBack.j1 kj2 a1 t104 t105 false a0_0 a0_1 a0_2 a0_3 a0_4 a0_5 a0_6 a0_7 a0_8 a0_9 a0_10 a0_11 a0_12 a0_13 a0_14 a0_15 a0_16 a0_17 a0_18 a0_19 a0_20 l0_21 a0_22 a0_23 l0_24) else (roadbooklaw14_RreqBack.j1 kj2 a1 t104 t105 (t104.toList != ([] : List UInt8)) a0_0 a0_1 a0_2 a0_3 a0_4 a0_5 a0_6 a0_7 a0_8 a0_9 a0_10 a0_11 a0_12 a0_13 a0_14 a0_15 a0_16 a0_17 a0_18 a0_19 a0_20 l0_21 a0_22 a0_23 l0_24))) = some r := H
          have A18 := Aside0.mk A180
          clear A180
          by_cases c19 : (t105 != t106) = true
          · rw [if_pos c19] at H
            have c19b0 : (t105 != t106) = true := c19
            (try (have c19b1 : decide (t105 = t106) = false := by simpa using c19))
            (try (have c19b2 : (t105 == t106) = false := by simpa using c19))
            (try (have c19b3 : ¬ (t105 = t106) := by simpa using c19))
            clear c19
            (first | rw [c19b0] | (simp only [i64_w, i32_w]; rw [c19b0]) | skip)
            have H' := Aside0.mk H
            clear H
            obtain ⟨hcz20_0, hcz20_1, hcz20_2, hcz20_3, hcz20_4, hcz20_5, hcz20_6, hcz20_7, hcz20_8, hcz20_9, hcz20_10, hcz20_11, hcz20_12, hcz20_13, hcz20_14, hcz20_15, hcz20_16, hcz20_17, hcz20_18, hcz20_19, hcz20_20, hcz20_21, hcz20_22, hcz20_23, hcz20_24, hfz20_0, hfz20_1, hfz20_2, hfz20_3, hfz20_4, hfz20_5, hfz20_6, hfz20_7, hfz20_8, hfz20_9, hfz20_10, hfz20_11, hfz20_12, hfz20_13, hfz20_14, hfz20_15, hfz20_16, hfz20_17, hfz20_18, hfz20_19, hfz20_20, hfz20_21, hfz20_22, hfz20_23, hfz20_24⟩ := cells_25 BK101.out
            go_wp2_with (first | ((with_reducible refine Go.Proofs.Ytccjakjjaemmkaa.Pre.gate_load 25 rfl ?_); (try (refine gate_guard (by rfl) ?_; dsimp only)); refine Go.Proofs.Ytccjakjjaemmkaa.Pre.load_event rfl rfl rfl (by rfl) (by first | ((with_reducible repeat (first | refine blk_drewN ?_ _ | refine blk_drew ?_ | refine blk_alloc ?_ _)); (with_reducible first | exact BK101.out | exact BK138.out | exact BK172.out)) | (apply Go.Proofs.Ytccjakjjaemmkaa.Pre.heap_norm; ((with_reducible repeat (first | refine blk_drewN ?_ _ | refine blk_drew ?_ | refine blk_alloc ?_ _ | apply Go.Proofs.Ytccjakjjaemmkaa.Pre.blk_set_)); (with_reducible first | exact BK101.out | exact BK138.out | exact BK172.out)); (first | (simp only [List.setIfInBounds_toArray, List.set_cons_zero, List.set_cons_succ]; done) | (simp only [List.setIfInBounds_toArray, List.set_cons_zero, List.set_cons_succ]; rfl) | rfl))) Try.underlying25 rfl (by kernel_rfl) ?_) | ((with_reducible refine gate_callee (f := 20) rfl ?_); refine goesL_ (some 31) rfl rfl Try.func20 (by kernel_rfl) rfl #[.agg #[.int .i64 a0_0, .int .i64 a0_1, .int .i64 a0_2, .string a0_3, .int .i64 a0_4, .int .i64 a0_5, .string a0_6, .int .i64 a0_7, .int .i64 a0_8, .string a0_9, .int .i64 a0_10, .string a0_11, .int .i64 a0_12, .int .i64 a0_13, .int .i64 a0_14, .int .i64 a0_15, .int .i64 a0_16, .int .i64 a0_17, .int .i64 a0_18, .string a0_19, .string a0_20, .slice A0_21 l0_21.length c0_21, .int .i64 a0_22, .string a0_23, .slice A0_24 l0_24.length c0_24]] rfl (by (try simp only [List.map_toArray, List.map_cons, List.map_nil]); first | done | rfl | (simp only [List.length_drop, List.length_take]; rfl)) ?_; (with_reducible refine (rreq_Right.calls kj2 a0_0 a0_1 a0_2 a0_3 a0_4 a0_5 a0_6 a0_7 a0_8 a0_9 a0_10 a0_11 a0_12 a0_13 a0_14 a0_15 a0_16 a0_17 a0_18 a0_19 a0_20 _ _ l0_21 a0_22 a0_23 _ _ l0_24 t106 _ ?side1 ?side2 ?side3 ?side4 A18.out).mono ?_); (case side1 => repeat (first | exact (Kd.C_below HR0_21.out HB.out) | (with_reducible refine Kd.C_alloc ?_ _) | (with_reducible refine Kd.C_drewN ?_ _) | (with_reducible refine Kd.C_drew ?_))); (case side2 => exact HC0_21.out); (case side3 => repeat (first | exact (Kd.C_below HR0_24.out HB.out) | (with_reducible refine Kd.C_alloc ?_ _) | (with_reducible refine Kd.C_drewN ?_ _) | (with_reducible refine Kd.C_drew ?_))); (case side4 => exact HC0_24.out); rintro e w21 ⟨rfl, hb⟩; refine ⟨_, rfl, ?_⟩; have n0_ := Aside0.mk (blk_below (g := gb101) (by (with_reducible repeat (first | refine blk_drewN ?_ _ | refine blk_drew ?_ | refine blk_alloc ?_ _)); exact BK101.out) hb); have n1_ := Aside0.mk (below_step (by repeat (first | (with_reducible first | exact HB.out | apply below_alloc | apply pw_below_drewN | apply below_drew1 | refine below_set ?_ GE101.out) | exact HB.out)) hb); clear BK101; clear HB; have BK101 := n0_; have HB := n1_; clear n0_ n1_; (try clear hb); (try clear hb2); (try clear hk); (try clear hi)))
            go_meet
            case rel => exact ⟨_, (true), (by first | rfl | (simp; done) | (simp [*]; done)), H', ⟨by have := HJ2.out; first | omega | exact Nat.le_refl _⟩, ⟨by (with_reducible repeat (first | refine blk_drewN ?_ _ | refine blk_drew ?_ | refine blk_alloc ?_ _)); exact BK101.out⟩, ⟨by repeat (first | (with_reducible first | exact HB.out | apply below_alloc | apply pw_below_drewN | apply below_drew1 | refine below_set ?_ GE101.out) | exact HB.out)⟩⟩
          · rw [if_neg c19] at H
            have c19b0 : (t105 != t106) = false := by first | exact Bool.eq_false_iff.mpr c19 | simpa using c19
            (try (have c19b1 : decide (t105 = t106) = true := by simpa using c19))
            (try (have c19b2 : (t105 == t106) = true := by simpa using c19))
            clear c19
            (first | rw [c19b0] | (simp only [i64_w, i32_w]; rw [c19b0]) | skip)
            by_cases c22 : t105 = true
            · subst c22
              have H1 : (roadbooklaw14_RreqBack.j1 kj2 a1 t104 true false a0_0 a0_1 a0_2 a0_3 a0_4 a0_5 a0_6 a0_7 a0_8 a0_9 a0_10 a0_11 a0_12 a0_13 a0_14 a0_15 a0_16 a0_17 a0_18 a0_19 a0_20 l0_21 a0_22 a0_23 l0_24) = some r := by rw [if_pos rfl] at H; exact H
              clear H
              have H := H1
              clear H1
              have H' := Aside0.mk H
              clear H
              obtain ⟨hcz23_0, hcz23_1, hcz23_2, hcz23_3, hcz23_4, hcz23_5, hcz23_6, hcz23_7, hcz23_8, hcz23_9, hcz23_10, hcz23_11, hcz23_12, hcz23_13, hcz23_14, hcz23_15, hcz23_16, hcz23_17, hcz23_18, hcz23_19, hcz23_20, hcz23_21, hcz23_22, hcz23_23, hcz23_24, hfz23_0, hfz23_1, hfz23_2, hfz23_3, hfz23_4, hfz23_5, hfz23_6, hfz23_7, hfz23_8, hfz23_9, hfz23_10, hfz23_11, hfz23_12, hfz23_13, hfz23_14, hfz23_15, hfz23_16, hfz23_17, hfz23_18, hfz23_19, hfz23_20, hfz23_21, hfz23_22, hfz23_23, hfz23_24⟩ := cells_25 BK101.out
              go_wp2_with (first | ((with_reducible refine Go.Proofs.Ytccjakjjaemmkaa.Pre.gate_load 25 rfl ?_); (try (refine gate_guard (by rfl) ?_; dsimp only)); refine Go.Proofs.Ytccjakjjaemmkaa.Pre.load_event rfl rfl rfl (by rfl) (by first | ((with_reducible repeat (first | refine blk_drewN ?_ _ | refine blk_drew ?_ | refine blk_alloc ?_ _)); (with_reducible first | exact BK101.out | exact BK138.out | exact BK172.out)) | (apply Go.Proofs.Ytccjakjjaemmkaa.Pre.heap_norm; ((with_reducible repeat (first | refine blk_drewN ?_ _ | refine blk_drew ?_ | refine blk_alloc ?_ _ | apply Go.Proofs.Ytccjakjjaemmkaa.Pre.blk_set_)); (with_reducible first | exact BK101.out | exact BK138.out | exact BK172.out)); (first | (simp only [List.setIfInBounds_toArray, List.set_cons_zero, List.set_cons_succ]; done) | (simp only [List.setIfInBounds_toArray, List.set_cons_zero, List.set_cons_succ]; rfl) | rfl))) Try.underlying25 rfl (by kernel_rfl) ?_) | ((with_reducible refine gate_callee (f := 20) rfl ?_); refine goesL_ (some 31) rfl rfl Try.func20 (by kernel_rfl) rfl #[.agg #[.int .i64 a0_0, .int .i64 a0_1, .int .i64 a0_2, .string a0_3, .int .i64 a0_4, .int .i64 a0_5, .string a0_6, .int .i64 a0_7, .int .i64 a0_8, .string a0_9, .int .i64 a0_10, .string a0_11, .int .i64 a0_12, .int .i64 a0_13, .int .i64 a0_14, .int .i64 a0_15, .int .i64 a0_16, .int .i64 a0_17, .int .i64 a0_18, .string a0_19, .string a0_20, .slice A0_21 l0_21.length c0_21, .int .i64 a0_22, .string a0_23, .slice A0_24 l0_24.length c0_24]] rfl (by (try simp only [List.map_toArray, List.map_cons, List.map_nil]); first | done | rfl | (simp only [List.length_drop, List.length_take]; rfl)) ?_; (with_reducible refine (rreq_Right.calls kj2 a0_0 a0_1 a0_2 a0_3 a0_4 a0_5 a0_6 a0_7 a0_8 a0_9 a0_10 a0_11 a0_12 a0_13 a0_14 a0_15 a0_16 a0_17 a0_18 a0_19 a0_20 _ _ l0_21 a0_22 a0_23 _ _ l0_24 t106 _ ?side1 ?side2 ?side3 ?side4 A18.out).mono ?_); (case side1 => repeat (first | exact (Kd.C_below HR0_21.out HB.out) | (with_reducible refine Kd.C_alloc ?_ _) | (with_reducible refine Kd.C_drewN ?_ _) | (with_reducible refine Kd.C_drew ?_))); (case side2 => exact HC0_21.out); (case side3 => repeat (first | exact (Kd.C_below HR0_24.out HB.out) | (with_reducible refine Kd.C_alloc ?_ _) | (with_reducible refine Kd.C_drewN ?_ _) | (with_reducible refine Kd.C_drew ?_))); (case side4 => exact HC0_24.out); rintro e w24 ⟨rfl, hb⟩; refine ⟨_, rfl, ?_⟩; have n0_ := Aside0.mk (blk_below (g := gb101) (by (with_reducible repeat (first | refine blk_drewN ?_ _ | refine blk_drew ?_ | refine blk_alloc ?_ _)); exact BK101.out) hb); have n1_ := Aside0.mk (below_step (by repeat (first | (with_reducible first | exact HB.out | apply below_alloc | apply pw_below_drewN | apply below_drew1 | refine below_set ?_ GE101.out) | exact HB.out)) hb); clear BK101; clear HB; have BK101 := n0_; have HB := n1_; clear n0_ n1_; (try clear hb); (try clear hb2); (try clear hk); (try clear hi)))
              go_meet
              case rel => exact ⟨_, (false), (by first | rfl | (simp; done) | (simp [*]; done)), H', ⟨by have := HJ2.out; first | omega | exact Nat.le_refl _⟩, ⟨by (with_reducible repeat (first | refine blk_drewN ?_ _ | refine blk_drew ?_ | refine blk_alloc ?_ _)); exact BK101.out⟩, ⟨by repeat (first | (with_reducible first | exact HB.out | apply below_alloc | apply pw_below_drewN | apply below_drew1 | refine below_set ?_ GE101.out) | exact HB.out)⟩⟩
            · replace c22 := Bool.eq_false_iff.mpr c22
              subst c22
              have H1 : (roadbooklaw14_RreqBack.j1 kj2 a1 t104 false (t104.toList != ([] : List UInt8)) a0_0 a0_1 a0_2 a0_3 a0_4 a0_5 a0_6 a0_7 a0_8 a0_9 a0_10 a0_11 a0_12 a0_13 a0_14 a0_15 a0_16 a0_17 a0_18 a0_19 a0_20 l0_21 a0_22 a0_23 l0_24) = some r := by rw [if_neg (show ¬ (false = true) by decide)] at H; exact H
              clear H
              have H := H1
              clear H1
              have H' := Aside0.mk H
              clear H
              obtain ⟨hcz25_0, hcz25_1, hcz25_2, hcz25_3, hcz25_4, hcz25_5, hcz25_6, hcz25_7, hcz25_8, hcz25_9, hcz25_10, hcz25_11, hcz25_12, hcz25_13, hcz25_14, hcz25_15, hcz25_16, hcz25_17, hcz25_18, hcz25_19, hcz25_20, hcz25_21, hcz25_22, hcz25_23, hcz25_24, hfz25_0, hfz25_1, hfz25_2, hfz25_3, hfz25_4, hfz25_5, hfz25_6, hfz25_7, hfz25_8, hfz25_9, hfz25_10, hfz25_11, hfz25_12, hfz25_13, hfz25_14, hfz25_15, hfz25_16, hfz25_17, hfz25_18, hfz25_19, hfz25_20, hfz25_21, hfz25_22, hfz25_23, hfz25_24⟩ := cells_25 BK101.out
              go_wp2_with (first | ((with_reducible refine Go.Proofs.Ytccjakjjaemmkaa.Pre.gate_load 25 rfl ?_); (try (refine gate_guard (by rfl) ?_; dsimp only)); refine Go.Proofs.Ytccjakjjaemmkaa.Pre.load_event rfl rfl rfl (by rfl) (by first | ((with_reducible repeat (first | refine blk_drewN ?_ _ | refine blk_drew ?_ | refine blk_alloc ?_ _)); (with_reducible first | exact BK101.out | exact BK138.out | exact BK172.out)) | (apply Go.Proofs.Ytccjakjjaemmkaa.Pre.heap_norm; ((with_reducible repeat (first | refine blk_drewN ?_ _ | refine blk_drew ?_ | refine blk_alloc ?_ _ | apply Go.Proofs.Ytccjakjjaemmkaa.Pre.blk_set_)); (with_reducible first | exact BK101.out | exact BK138.out | exact BK172.out)); (first | (simp only [List.setIfInBounds_toArray, List.set_cons_zero, List.set_cons_succ]; done) | (simp only [List.setIfInBounds_toArray, List.set_cons_zero, List.set_cons_succ]; rfl) | rfl))) Try.underlying25 rfl (by kernel_rfl) ?_) | ((with_reducible refine gate_callee (f := 20) rfl ?_); refine goesL_ (some 31) rfl rfl Try.func20 (by kernel_rfl) rfl #[.agg #[.int .i64 a0_0, .int .i64 a0_1, .int .i64 a0_2, .string a0_3, .int .i64 a0_4, .int .i64 a0_5, .string a0_6, .int .i64 a0_7, .int .i64 a0_8, .string a0_9, .int .i64 a0_10, .string a0_11, .int .i64 a0_12, .int .i64 a0_13, .int .i64 a0_14, .int .i64 a0_15, .int .i64 a0_16, .int .i64 a0_17, .int .i64 a0_18, .string a0_19, .string a0_20, .slice A0_21 l0_21.length c0_21, .int .i64 a0_22, .string a0_23, .slice A0_24 l0_24.length c0_24]] rfl (by (try simp only [List.map_toArray, List.map_cons, List.map_nil]); first | done | rfl | (simp only [List.length_drop, List.length_take]; rfl)) ?_; (with_reducible refine (rreq_Right.calls kj2 a0_0 a0_1 a0_2 a0_3 a0_4 a0_5 a0_6 a0_7 a0_8 a0_9 a0_10 a0_11 a0_12 a0_13 a0_14 a0_15 a0_16 a0_17 a0_18 a0_19 a0_20 _ _ l0_21 a0_22 a0_23 _ _ l0_24 t106 _ ?side1 ?side2 ?side3 ?side4 A18.out).mono ?_); (case side1 => repeat (first | exact (Kd.C_below HR0_21.out HB.out) | (with_reducible refine Kd.C_alloc ?_ _) | (with_reducible refine Kd.C_drewN ?_ _) | (with_reducible refine Kd.C_drew ?_))); (case side2 => exact HC0_21.out); (case side3 => repeat (first | exact (Kd.C_below HR0_24.out HB.out) | (with_reducible refine Kd.C_alloc ?_ _) | (with_reducible refine Kd.C_drewN ?_ _) | (with_reducible refine Kd.C_drew ?_))); (case side4 => exact HC0_24.out); rintro e w26 ⟨rfl, hb⟩; refine ⟨_, rfl, ?_⟩; have n0_ := Aside0.mk (blk_below (g := gb101) (by (with_reducible repeat (first | refine blk_drewN ?_ _ | refine blk_drew ?_ | refine blk_alloc ?_ _)); exact BK101.out) hb); have n1_ := Aside0.mk (below_step (by repeat (first | (with_reducible first | exact HB.out | apply below_alloc | apply pw_below_drewN | apply below_drew1 | refine below_set ?_ GE101.out) | exact HB.out)) hb); clear BK101; clear HB; have BK101 := n0_; have HB := n1_; clear n0_ n1_; (try clear hb); (try clear hb2); (try clear hk); (try clear hi)))
              go_meet
              case rel => exact ⟨_, ((t104.toList != ([] : List UInt8))), (by first | rfl | (simp; done) | (generalize ByteArray.toList _ = l_; cases l_ <;> rfl) | (simp [*]; done)), H', ⟨by have := HJ2.out; first | omega | exact Nat.le_refl _⟩, ⟨by (with_reducible repeat (first | refine blk_drewN ?_ _ | refine blk_drew ?_ | refine blk_alloc ?_ _)); exact BK101.out⟩, ⟨by repeat (first | (with_reducible first | exact HB.out | apply below_alloc | apply pw_below_drewN | apply below_drew1 | refine below_set ?_ GE101.out) | exact HB.out)⟩⟩
        case rest =>
          clear HC15
          try clear c1
          try clear p2
          try clear c5
          try clear c6
          try clear c11
          try clear c16
          try clear c17
          try clear c18
          try clear hcz16_0
          try clear hcz16_1
          try clear hcz16_10
          try clear hcz16_11
          try clear hcz16_12
          try clear hcz16_13
          try clear hcz16_14
          try clear hcz16_15
          try clear hcz16_16
          try clear hcz16_17
          try clear hcz16_18
          try clear hcz16_19
          try clear hcz16_2
          try clear hcz16_20
          try clear hcz16_21
          try clear hcz16_22
          try clear hcz16_23
          try clear hcz16_24
          try clear hcz16_3
          try clear hcz16_4
          try clear hcz16_5
          try clear hcz16_6
          try clear hcz16_7
          try clear hcz16_8
          try clear hcz16_9
          try clear hcz7_0
          try clear hcz7_1
          try clear hcz7_10
          try clear hcz7_11
          try clear hcz7_12
          try clear hcz7_13
          try clear hcz7_14
          try clear hcz7_15
          try clear hcz7_16
          try clear hcz7_17
          try clear hcz7_18
          try clear hcz7_19
          try clear hcz7_2
          try clear hcz7_20
          try clear hcz7_21
          try clear hcz7_22
          try clear hcz7_23
          try clear hcz7_24
          try clear hcz7_3
          try clear hcz7_4
          try clear hcz7_5
          try clear hcz7_6
          try clear hcz7_7
          try clear hcz7_8
          try clear hcz7_9
          try clear hcz9_0
          try clear hcz9_1
          try clear hcz9_10
          try clear hcz9_11
          try clear hcz9_12
          try clear hcz9_13
          try clear hcz9_14
          try clear hcz9_15
          try clear hcz9_16
          try clear hcz9_17
          try clear hcz9_18
          try clear hcz9_19
          try clear hcz9_2
          try clear hcz9_20
          try clear hcz9_21
          try clear hcz9_22
          try clear hcz9_23
          try clear hcz9_24
          try clear hcz9_3
          try clear hcz9_4
          try clear hcz9_5
          try clear hcz9_6
          try clear hcz9_7
          try clear hcz9_8
          try clear hcz9_9
          try clear hfz16_0
          try clear hfz16_1
          try clear hfz16_10
          try clear hfz16_11
          try clear hfz16_12
          try clear hfz16_13
          try clear hfz16_14
          try clear hfz16_15
          try clear hfz16_16
          try clear hfz16_17
          try clear hfz16_18
          try clear hfz16_19
          try clear hfz16_2
          try clear hfz16_20
          try clear hfz16_21
          try clear hfz16_22
          try clear hfz16_23
          try clear hfz16_24
          try clear hfz16_3
          try clear hfz16_4
          try clear hfz16_5
          try clear hfz16_6
          try clear hfz16_7
          try clear hfz16_8
          try clear hfz16_9
          try clear hfz7_0
          try clear hfz7_1
          try clear hfz7_10
          try clear hfz7_11
          try clear hfz7_12
          try clear hfz7_13
          try clear hfz7_14
          try clear hfz7_15
          try clear hfz7_16
          try clear hfz7_17
          try clear hfz7_18
          try clear hfz7_19
          try clear hfz7_2
          try clear hfz7_20
          try clear hfz7_21
          try clear hfz7_22
          try clear hfz7_23
          try clear hfz7_24
          try clear hfz7_3
          try clear hfz7_4
          try clear hfz7_5
          try clear hfz7_6
          try clear hfz7_7
          try clear hfz7_8
          try clear hfz7_9
          try clear hfz9_0
          try clear hfz9_1
          try clear hfz9_10
          try clear hfz9_11
          try clear hfz9_12
          try clear hfz9_13
          try clear hfz9_14
          try clear hfz9_15
          try clear hfz9_16
          try clear hfz9_17
          try clear hfz9_18
          try clear hfz9_19
          try clear hfz9_2
          try clear hfz9_20
          try clear hfz9_21
          try clear hfz9_22
          try clear hfz9_23
          try clear hfz9_24
          try clear hfz9_3
          try clear hfz9_4
          try clear hfz9_5
          try clear hfz9_6
          try clear hfz9_7
          try clear hfz9_8
          try clear hfz9_9
          obtain ⟨kq, x40_14, rfl, HA, HJ14, BK101, HB⟩ := hcut
          cases kq with
          | zero => exact absurd HA.out (by simp [roadbooklaw14_RreqBack.j1])
          | succ kj14 =>
            have H := HA.out
            clear HA
            simp only [roadbooklaw14_RreqBack.j1] at H
            by_cases c27 : x40_14 = true
            · subst c27
              have H1 : (some false) = some r := by rw [if_pos rfl] at H; exact H
              clear H
              have H := H1
              clear H1
              exact absurd (Option.some.inj H) (by rw [hr_.out]; exact Bool.false_ne_true)
            · replace c27 := Bool.eq_false_iff.mpr c27
              subst c27
              have H1 : (if t105 = true then ((rreq_Get.f kj14 t104).bind fun bt107 => (if bt107.2.2.2.2.2.2.2.2.2.2.2.2.2.2.2.2.2.2.2.2.2.2.2.2.2.2 = 0 then (if bt107.2.2.2.2.2.2.2.2.2.2.2.2.2.2.2.2.2.2.2.2.2.2.2.2.2.1 = 0 then ((roadbookref07_Same.f kj14 a0_0 a0_1 a0_2 a0_3 a0_4 a0_5 a0_6 a0_7 a0_8 a0_9 a0_10 a0_11 a0_12 a0_13 a0_14 a0_15 a0_16 a0_17 a0_18 a0_19 a0_20 l0_21 a0_22 a0_23 l0_24 bt107.1 bt107.2.1 bt107.2.2.1 bt107.2.2.2.1 bt107.2.2.2.2.1 bt107.2.2.2.2.2.1 bt107.2.2.2.2.2.2.1 bt107.2.2.2.2.2.2.2.1 bt107.2.2.2.2.2.2.2.2.1 bt107.2.2.2.2.2.2.2.2.2.1 bt107.2.2.2.2.2.2.2.2.2.2.1 bt107.2.2.2.2.2.2.2.2.2.2.2.1 bt107.2.2.2.2.2.2.2.2.2.2.2.2.1 bt107.2.2.2.2.2.2.2.2.2.2.2.2.2.1 bt107.2.2.2.2.2.2.2.2.2.2.2.2.2.2.1 bt107.2.2.2.2.2.2.2.2.2.2.2.2.2.2.2.1 bt107.2.2.2.2.2.2.2.2.2.2.2.2.2.2.2.2.1 bt107.2.2.2.2.2.2.2.2.2.2.2.2.2.2.2.2.2.1 bt107.2.2.2.2.2.2.2.2.2.2.2.2.2.2.2.2.2.2.1 bt107.2.2.2.2.2.2.2.2.2.2.2.2.2.2.2.2.2.2.2.1 bt107.2.2.2.2.2.2.2.2.2.2.2.2.2.2.2.2.2.2.2.2.1 bt107.2.2.2.2.2.2.2.2.2.2.2.2.2.2.2.2.2.2.2.2.2.1 bt107.2.2.2.2.2.2.2.2.2.2.2.2.2.2.2.2.2.2.2.2.2.2.1 bt107.2.2.2.2.2.2.2.2.2.2.2.2.2.2.2.2.2.2.2.2.2.2.2.1 bt107.2.2.2.2.2.2.2.2.2.2.2.2.2.2.2.2.2.2.2.2.2.2.2.2.1).bind fun t139 => (roadbooklaw14_RreqBack.j2 kj14 a1 (!t139))) else (roadbooklaw14_RreqBack.j2 kj14 a1 true)) else (roadbooklaw14_RreqBack.j2 kj14 a1 true))) else (roadbooklaw14_RreqBack.j3 kj14 a1)) = some r := by rw [if_neg (show ¬ (false = true) by decide)] at H; exact H
              clear H
              have H := H1
              clear H1
              have HC28 := Aside0.mk H
              clear H
              go_upto_if 41 with (first | ((with_reducible refine Go.Proofs.Ytccjakjjaemmkaa.Pre.gate_load 25 rfl ?_); (try (refine gate_guard (by rfl) ?_; dsimp only)); refine Go.Proofs.Ytccjakjjaemmkaa.Pre.load_event rfl rfl rfl (by rfl) (by first | ((with_reducible repeat (first | refine blk_drewN ?_ _ | refine blk_drew ?_ | refine blk_alloc ?_ _)); (with_reducible first | exact BK101.out | exact BK138.out | exact BK172.out)) | (apply Go.Proofs.Ytccjakjjaemmkaa.Pre.heap_norm; ((with_reducible repeat (first | refine blk_drewN ?_ _ | refine blk_drew ?_ | refine blk_alloc ?_ _ | apply Go.Proofs.Ytccjakjjaemmkaa.Pre.blk_set_)); (with_reducible first | exact BK101.out | exact BK138.out | exact BK172.out)); (first | (simp only [List.setIfInBounds_toArray, List.set_cons_zero, List.set_cons_succ]; done) | (simp only [List.setIfInBounds_toArray, List.set_cons_zero, List.set_cons_succ]; rfl) | rfl))) Try.underlying25 rfl (by kernel_rfl) ?_))
              go_cut [] (fun wc => ∃ (kq : Nat), Aside0 (roadbooklaw14_RreqBack.j3 kq a1 = some r) ∧ Aside0 (kq ≤ kj14) ∧ Aside0 (wc.heap[gb101]? = some (.cells #[.int .i64 a0_0, .int .i64 a0_1, .int .i64 a0_2, .string a0_3, .int .i64 a0_4, .int .i64 a0_5, .string a0_6, .int .i64 a0_7, .int .i64 a0_8, .string a0_9, .int .i64 a0_10, .string a0_11, .int .i64 a0_12, .int .i64 a0_13, .int .i64 a0_14, .int .i64 a0_15, .int .i64 a0_16, .int .i64 a0_17, .int .i64 a0_18, .string a0_19, .string a0_20, (.slice A0_21 l0_21.length c0_21), .int .i64 a0_22, .string a0_23, (.slice A0_24 l0_24.length c0_24)] 25 (0, 0))) ∧ Aside0 (Below w.heap.size w wc))
              case first =>
                have H := HC28.out
                clear HC28
                by_cases c29 : t105 = true
                · subst c29
                  have H1 : ((rreq_Get.f kj14 t104).bind fun bt107 => (if bt107.2.2.2.2.2.2.2.2.2.2.2.2.2.2.2.2.2.2.2.2.2.2.2.2.2.2 = 0 then (if bt107.2.2.2.2.2.2.2.2.2.2.2.2.2.2.2.2.2.2.2.2.2.2.2.2.2.1 = 0 then ((roadbookref07_Same.f kj14 a0_0 a0_1 a0_2 a0_3 a0_4 a0_5 a0_6 a0_7 a0_8 a0_9 a0_10 a0_11 a0_12 a0_13 a0_14 a0_15 a0_16 a0_17 a0_18 a0_19 a0_20 l0_21 a0_22 a0_23 l0_24 bt107.1 bt107.2.1 bt107.2.2.1 bt107.2.2.2.1 bt107.2.2.2.2.1 bt107.2.2.2.2.2.1 bt107.2.2.2.2.2.2.1 bt107.2.2.2.2.2.2.2.1 bt107.2.2.2.2.2.2.2.2.1 bt107.2.2.2.2.2.2.2.2.2.1 bt107.2.2.2.2.2.2.2.2.2.2.1 bt107.2.2.2.2.2.2.2.2.2.2.2.1 bt107.2.2.2.2.2.2.2.2.2.2.2.2.1 bt107.2.2.2.2.2.2.2.2.2.2.2.2.2.1 bt107.2.2.2.2.2.2.2.2.2.2.2.2.2.2.1 bt107.2.2.2.2.2.2.2.2.2.2.2.2.2.2.2.1 bt107.2.2.2.2.2.2.2.2.2.2.2.2.2.2.2.2.1 bt107.2.2.2.2.2.2.2.2.2.2.2.2.2.2.2.2.2.1 bt107.2.2.2.2.2.2.2.2.2.2.2.2.2.2.2.2.2.2.1 bt107.2.2.2.2.2.2.2.2.2.2.2.2.2.2.2.2.2.2.2.1 bt107.2.2.2.2.2.2.2.2.2.2.2.2.2.2.2.2.2.2.2.2.1 bt107.2.2.2.2.2.2.2.2.2.2.2.2.2.2.2.2.2.2.2.2.2.1 bt107.2.2.2.2.2.2.2.2.2.2.2.2.2.2.2.2.2.2.2.2.2.2.1 bt107.2.2.2.2.2.2.2.2.2.2.2.2.2.2.2.2.2.2.2.2.2.2.2.1 bt107.2.2.2.2.2.2.2.2.2.2.2.2.2.2.2.2.2.2.2.2.2.2.2.2.1).bind fun t139 => (roadbooklaw14_RreqBack.j2 kj14 a1 (!t139))) else (roadbooklaw14_RreqBack.j2 kj14 a1 true)) else (roadbooklaw14_RreqBack.j2 kj14 a1 true))) = some r := by rw [if_pos rfl] at H; exact H
                  clear H
                  have H := H1
                  clear H1
                  replace H := Option.bind_eq_some_iff.mp H
                  obtain ⟨⟨t107, t108, t109, t110, t111, t112, t113, t114, t115, t116, t117, t118, t119, t120, t121, t122, t123, t124, t125, t126, t127, t128, t131, t132, t133, t136, t137⟩, A300, H⟩ := H
                  replace H : (if t137 = 0 then (if t136 = 0 then ((roadbookref07_Same.f kj14 a0_0 a0_1 a0_2 a0_3 a0_4 a0_5 a0_6 a0_7 a0_8 a0_9 a0_10 a0_11 a0_12 a0_13 a0_14 a0_15 a0_16 a0_17 a0_18 a0_19 a0_20 l0_21 a0_22 a0_23 l0_24 t107 t108 t109 t110 t111 t112 t113 t114 t115 t116 t117 t118 t119 t120 t121 t122 t123 t124 t125 t126 t127 t128 t131 t132 t133).bind fun t139 => (roadbooklaw14_RreqBack.j2 kj14 a1 (!t139))) else (roadbooklaw14_RreqBack.j2 kj14 a1 true)) else (roadbooklaw14_RreqBack.j2 kj14 a1 true)) = some r := H
                  have A30 := Aside0.mk A300
                  clear A300
                  have HC31 := Aside0.mk H
                  clear H
                  go_upto_region 8 with (first | ((with_reducible refine Go.Proofs.Ytccjakjjaemmkaa.Pre.gate_load 25 rfl ?_); (try (refine gate_guard (by rfl) ?_; dsimp only)); refine Go.Proofs.Ytccjakjjaemmkaa.Pre.load_event rfl rfl rfl (by rfl) (by first | ((with_reducible repeat (first | refine blk_drewN ?_ _ | refine blk_drew ?_ | refine blk_alloc ?_ _)); (with_reducible first | exact BK101.out | exact BK138.out | exact BK172.out)) | (apply Go.Proofs.Ytccjakjjaemmkaa.Pre.heap_norm; ((with_reducible repeat (first | refine blk_drewN ?_ _ | refine blk_drew ?_ | refine blk_alloc ?_ _ | apply Go.Proofs.Ytccjakjjaemmkaa.Pre.blk_set_)); (with_reducible first | exact BK101.out | exact BK138.out | exact BK172.out)); (first | (simp only [List.setIfInBounds_toArray, List.set_cons_zero, List.set_cons_succ]; done) | (simp only [List.setIfInBounds_toArray, List.set_cons_zero, List.set_cons_succ]; rfl) | rfl))) Try.underlying25 rfl (by kernel_rfl) ?_) | ((with_reducible refine gate_callee (f := 22) rfl ?_); refine goesL_ (some 44) rfl rfl Try.func22 (by kernel_rfl) rfl #[.string t104] rfl (by (try simp only [List.map_toArray, List.map_cons, List.map_nil]); first | done | rfl | (simp only [List.length_drop, List.length_take]; rfl)) ?_; (with_reducible refine (rreq_Get.calls kj14 t104 t107 t108 t109 t110 t111 t112 t113 t114 t115 t116 t117 t118 t119 t120 t121 t122 t123 t124 t125 t126 t127 t128 t131 t132 t133 t136 t137 _ A30.out).mono ?_); rintro e w32 ⟨v129, v134, rfl, ho0, ho1, hb⟩; refine ⟨_, rfl, ?_⟩; have n0_ := Aside0.mk (Kd.R_lower ho0 (below_size (by repeat (first | (with_reducible first | exact HB.out | apply below_alloc | apply pw_below_drewN | apply below_drew1 | refine below_set ?_ GE101.out) | exact HB.out)))); have n1_ := Aside0.mk (Kd.R_lower ho1 (below_size (by repeat (first | (with_reducible first | exact HB.out | apply below_alloc | apply pw_below_drewN | apply below_drew1 | refine below_set ?_ GE101.out) | exact HB.out)))); have n2_ := Aside0.mk (blk_below (g := gb101) (by (with_reducible repeat (first | refine blk_drewN ?_ _ | refine blk_drew ?_ | refine blk_alloc ?_ _)); exact BK101.out) hb); have n3_ := Aside0.mk (below_step (by repeat (first | (with_reducible first | exact HB.out | apply below_alloc | apply pw_below_drewN | apply below_drew1 | refine below_set ?_ GE101.out) | exact HB.out)) hb); clear BK101; clear HB; have HO130 := n0_; have HO135 := n1_; have BK101 := n2_; have HB := n3_; clear n0_ n1_ n2_ n3_; (try clear hb); (try clear hb2); (try clear hk); (try clear hi); (try clear ho0); (try clear ho1)) | ((with_reducible refine gate_dst (N := 7) rfl ?_); (try (refine gate_guard (by rfl) ?_; dsimp only)); refine box_event ?hg (N := 7) ?hd (cs := #[.int .i64 0, .int .i64 0, .int .i64 0, .string (⟨#[]⟩ : ByteArray), .int .i64 0, .int .i64 0, .string (⟨#[]⟩ : ByteArray), .int .i64 0, .int .i64 0, .string (⟨#[]⟩ : ByteArray), .int .i64 0, .string (⟨#[]⟩ : ByteArray), .int .i64 0, .int .i64 0, .int .i64 0, .int .i64 0, .int .i64 0, .int .i64 0, .int .i64 0, .string (⟨#[]⟩ : ByteArray), .string (⟨#[]⟩ : ByteArray), .slice none 0 0, .int .i64 0, .string (⟨#[]⟩ : ByteArray), .slice none 0 0]) (t := 25) ?hr ?_; (case hd => rfl); (case hg => rfl); (case hr => first | (go_simp; done) | (go_simp; rfl)); intro gb138 hg w33 hbox hb; have n0_ := Aside0.mk (Kd.R_below (by (with_reducible repeat (first | apply Kd.R_alloc | apply Kd.R_drewN | apply Kd.R_drew)); exact HO130.out) hb); have n1_ := Aside0.mk (Kd.R_below (by (with_reducible repeat (first | apply Kd.R_alloc | apply Kd.R_drewN | apply Kd.R_drew)); exact HO135.out) hb); have n2_ := Aside0.mk (blk_below (g := gb101) (by (with_reducible repeat (first | refine blk_drewN ?_ _ | refine blk_drew ?_ | refine blk_alloc ?_ _)); exact BK101.out) hb); have n3_ := Aside0.mk (below_step (by repeat (first | (with_reducible first | exact HB.out | apply below_alloc | apply pw_below_drewN | apply below_drew1 | refine below_set ?_ GE101.out) | exact HB.out)) hb); have n4_ := Aside0.mk (hbox); have n5_ := Aside0.mk ((by rw [hg]; exact (below_size (by repeat (first | (with_reducible first | exact HB.out | apply below_alloc | apply pw_below_drewN | apply below_drew1 | refine below_set ?_ GE101.out) | exact HB.out))) : w.heap.size ≤ gb138)); have n6_ := Aside0.mk ((by rw [hg]; exact (below_size (by repeat (first | (with_reducible first | exact HB.out | apply below_alloc | apply pw_below_drewN | apply below_drew1 | refine below_set ?_ GE101.out) | exact HB.out))) : w.heap.size ≤ gb138)); have n7_ := Aside0.mk ((by rw [hg]; exact Nat.ne_of_lt (blk_lt (g := gb101) (by (with_reducible repeat (first | refine blk_drewN ?_ _ | refine blk_drew ?_ | refine blk_alloc ?_ _)); exact BK101.out)) : gb101 ≠ gb138)); have n8_ := Aside0.mk ((by rw [hg]; exact Nat.ne_of_gt (blk_lt (g := gb101) (by (with_reducible repeat (first | refine blk_drewN ?_ _ | refine blk_drew ?_ | refine blk_alloc ?_ _)); exact BK101.out)) : gb138 ≠ gb101)); clear HO130; clear HO135; clear BK101; clear HB; have HO130 := n0_; have HO135 := n1_; have BK101 := n2_; have HB := n3_; have BK138 := n4_; have GW138 := n5_; have GE138 := n6_; have NB101_138 := n7_; have NB138_101 := n8_; clear n0_ n1_ n2_ n3_ n4_ n5_ n6_ n7_ n8_; clear hb hbox hg; have hnb34 := NB138_101.out; have hnc34 := NB101_138.out; obtain ⟨hcz35_0, hcz35_1, hcz35_2, hcz35_3, hcz35_4, hcz35_5, hcz35_6, hcz35_7, hcz35_8, hcz35_9, hcz35_10, hcz35_11, hcz35_12, hcz35_13, hcz35_14, hcz35_15, hcz35_16, hcz35_17, hcz35_18, hcz35_19, hcz35_20, hcz35_21, hcz35_22, hcz35_23, hcz35_24, hfz35_0, hfz35_1, hfz35_2, hfz35_3, hfz35_4, hfz35_5, hfz35_6, hfz35_7, hfz35_8, hfz35_9, hfz35_10, hfz35_11, hfz35_12, hfz35_13, hfz35_14, hfz35_15, hfz35_16, hfz35_17, hfz35_18, hfz35_19, hfz35_20, hfz35_21, hfz35_22, hfz35_23, hfz35_24⟩ := cells_25 BK138.out; obtain ⟨Ao36, co36, eo36⟩ := Kd.R_slice HO130.out; subst eo36; obtain ⟨Ao37, co37, eo37⟩ := Kd.R_slice HO135.out; subst eo37) | ((with_reducible refine Go.Proofs.Ytccjakjjaemmkaa.Pre.gate_store 25 rfl ?_); refine Go.Proofs.Ytccjakjjaemmkaa.Pre.store_abs (cur := #[.int .i64 0, .int .i64 0, .int .i64 0, .string (⟨#[]⟩ : ByteArray), .int .i64 0, .int .i64 0, .string (⟨#[]⟩ : ByteArray), .int .i64 0, .int .i64 0, .string (⟨#[]⟩ : ByteArray), .int .i64 0, .string (⟨#[]⟩ : ByteArray), .int .i64 0, .int .i64 0, .int .i64 0, .int .i64 0, .int .i64 0, .int .i64 0, .int .i64 0, .string (⟨#[]⟩ : ByteArray), .string (⟨#[]⟩ : ByteArray), .slice none 0 0, .int .i64 0, .string (⟨#[]⟩ : ByteArray), .slice none 0 0]) (e := 25) rfl rfl rfl (by rfl) (by rfl) (by (with_reducible repeat (first | refine blk_drewN ?_ _ | refine blk_drew ?_ | refine blk_alloc ?_ _)); exact BK138.out) (by kernel_rfl) (by rfl) (by rfl) ?_; intro w38 hbS_ sS_; have n0_ : Aside0 (Kd.R k46 46 w38 w.heap.size (fun _ => True) (.slice Ao36 t128.length co36) t128) := ⟨Kd.R_mono (Go.Proofs.Ytccjakjjaemmkaa.Pre.R_sets sS_ (Kd.R_types HO130.out BK138.out (by decide)) (fun _ hk => hk.2)) (fun _ hk => trivial)⟩; have n1_ : Aside0 (Kd.R k48 48 w38 w.heap.size (fun _ => True) (.slice Ao37 t133.length co37) t133) := ⟨Kd.R_mono (Go.Proofs.Ytccjakjjaemmkaa.Pre.R_sets sS_ (Kd.R_types HO135.out BK138.out (by decide)) (fun _ hk => hk.2)) (fun _ hk => trivial)⟩; have n2_ : Aside0 (w38.heap[gb101]? = some (.cells #[.int .i64 a0_0, .int .i64 a0_1, .int .i64 a0_2, .string a0_3, .int .i64 a0_4, .int .i64 a0_5, .string a0_6, .int .i64 a0_7, .int .i64 a0_8, .string a0_9, .int .i64 a0_10, .string a0_11, .int .i64 a0_12, .int .i64 a0_13, .int .i64 a0_14, .int .i64 a0_15, .int .i64 a0_16, .int .i64 a0_17, .int .i64 a0_18, .string a0_19, .string a0_20, .slice A0_21 l0_21.length c0_21, .int .i64 a0_22, .string a0_23, .slice A0_24 l0_24.length c0_24] 25 (0, 0))) := ⟨sS_.blk (by (with_reducible repeat (first | refine blk_drewN ?_ _ | refine blk_drew ?_ | refine blk_alloc ?_ _)); exact BK101.out) NB101_138.out⟩; have n3_ : Aside0 (w38.heap[gb138]? = some (.cells #[.int .i64 t107, .int .i64 t108, .int .i64 t109, .string t110, .int .i64 t111, .int .i64 t112, .string t113, .int .i64 t114, .int .i64 t115, .string t116, .int .i64 t117, .string t118, .int .i64 t119, .int .i64 t120, .int .i64 t121, .int .i64 t122, .int .i64 t123, .int .i64 t124, .int .i64 t125, .string t126, .string t127, .slice Ao36 t128.length co36, .int .i64 t131, .string t132, .slice Ao37 t133.length co37] 25 (0, 0))) := ⟨hbS_⟩; have n4_ : Aside0 (Below w.heap.size w w38) := ⟨sS_.below (by repeat (first | (with_reducible first | exact HB.out | apply below_alloc | apply pw_below_drewN | apply below_drew1 | refine below_set ?_ GE101.out | refine below_set ?_ GE138.out) | exact HB.out)) GE138.out⟩; clear hbS_ sS_; clear HO130; clear HO135; clear BK101; clear BK138; clear HB; have HO130 := n0_; have HO135 := n1_; have BK101 := n2_; have BK138 := n3_; have HB := n4_; clear n0_ n1_ n2_ n3_ n4_))
                  (try simp only [Act.put, List.setIfInBounds_toArray, List.set_cons_zero, List.set_cons_succ])
                  go_cut [59] (fun v59 wc => ∃ (kq : Nat) (x59_30 : Bool), v59 = .bool x59_30 ∧ Aside0 (roadbooklaw14_RreqBack.j2 kq a1 x59_30 = some r) ∧ Aside0 (kq ≤ kj14) ∧ Aside0 (Kd.R k46 46 wc w.heap.size (fun _ => True) (.slice Ao36 t128.length co36) t128) ∧ Aside0 (Kd.R k48 48 wc w.heap.size (fun _ => True) (.slice Ao37 t133.length co37) t133) ∧ Aside0 (wc.heap[gb101]? = some (.cells #[.int .i64 a0_0, .int .i64 a0_1, .int .i64 a0_2, .string a0_3, .int .i64 a0_4, .int .i64 a0_5, .string a0_6, .int .i64 a0_7, .int .i64 a0_8, .string a0_9, .int .i64 a0_10, .string a0_11, .int .i64 a0_12, .int .i64 a0_13, .int .i64 a0_14, .int .i64 a0_15, .int .i64 a0_16, .int .i64 a0_17, .int .i64 a0_18, .string a0_19, .string a0_20, (.slice A0_21 l0_21.length c0_21), .int .i64 a0_22, .string a0_23, (.slice A0_24 l0_24.length c0_24)] 25 (0, 0))) ∧ Aside0 (wc.heap[gb138]? = some (.cells #[.int .i64 t107, .int .i64 t108, .int .i64 t109, .string t110, .int .i64 t111, .int .i64 t112, .string t113, .int .i64 t114, .int .i64 t115, .string t116, .int .i64 t117, .string t118, .int .i64 t119, .int .i64 t120, .int .i64 t121, .int .i64 t122, .int .i64 t123, .int .i64 t124, .int .i64 t125, .string t126, .string t127, (.slice Ao36 t128.length co36), .int .i64 t131, .string t132, (.slice Ao37 t133.length co37)] 25 (0, 0))) ∧ Aside0 (Below w.heap.size w wc))
                  case first =>
                    have H := HC31.out
                    clear HC31
                    by_cases c39 : t137 = 0
                    · rw [if_pos c39] at H
                      have c39b0 : (t137 == 0) = true := beq_iff_eq.mpr c39
                      have c39b1 : (t137 != 0) = false := bne_eq_false_iff_eq.mpr c39
                      clear c39
                      (first | rw [c39b0] | (simp only [i64_w, i32_w]; rw [c39b0]) | skip)
                      by_cases c40 : t136 = 0
                      · rw [if_pos c40] at H
                        have c40b0 : (t136 == 0) = true := beq_iff_eq.mpr c40
                        have c40b1 : (t136 != 0) = false := bne_eq_false_iff_eq.mpr c40
                        clear c40
                        replace H := Option.bind_eq_some_iff.mp H
                        obtain ⟨t139, A410, H⟩ := H
                        replace H : (roadbooklaw14_RreqBack.j2 kj14 a1 (!t139)) = some r := H
                        have A41 := Aside0.mk A410
                        clear A410
                        have H' := Aside0.mk H
                        clear H
                        have hnb42 := NB101_138.out
                        have hnc42 := NB138_101.out
                        obtain ⟨hcz43_0, hcz43_1, hcz43_2, hcz43_3, hcz43_4, hcz43_5, hcz43_6, hcz43_7, hcz43_8, hcz43_9, hcz43_10, hcz43_11, hcz43_12, hcz43_13, hcz43_14, hcz43_15, hcz43_16, hcz43_17, hcz43_18, hcz43_19, hcz43_20, hcz43_21, hcz43_22, hcz43_23, hcz43_24, hfz43_0, hfz43_1, hfz43_2, hfz43_3, hfz43_4, hfz43_5, hfz43_6, hfz43_7, hfz43_8, hfz43_9, hfz43_10, hfz43_11, hfz43_12, hfz43_13, hfz43_14, hfz43_15, hfz43_16, hfz43_17, hfz43_18, hfz43_19, hfz43_20, hfz43_21, hfz43_22, hfz43_23, hfz43_24⟩ := cells_25 BK101.out
                        obtain ⟨hcz44_0, hcz44_1, hcz44_2, hcz44_3, hcz44_4, hcz44_5, hcz44_6, hcz44_7, hcz44_8, hcz44_9, hcz44_10, hcz44_11, hcz44_12, hcz44_13, hcz44_14, hcz44_15, hcz44_16, hcz44_17, hcz44_18, hcz44_19, hcz44_20, hcz44_21, hcz44_22, hcz44_23, hcz44_24, hfz44_0, hfz44_1, hfz44_2, hfz44_3, hfz44_4, hfz44_5, hfz44_6, hfz44_7, hfz44_8, hfz44_9, hfz44_10, hfz44_11, hfz44_12, hfz44_13, hfz44_14, hfz44_15, hfz44_16, hfz44_17, hfz44_18, hfz44_19, hfz44_20, hfz44_21, hfz44_22, hfz44_23, hfz44_24⟩ := cells_25 BK138.out
                        go_wp2_with (first | ((with_reducible refine Go.Proofs.Ytccjakjjaemmkaa.Pre.gate_load 25 rfl ?_); (try (refine gate_guard (by rfl) ?_; dsimp only)); refine Go.Proofs.Ytccjakjjaemmkaa.Pre.load_event rfl rfl rfl (by rfl) (by first | ((with_reducible repeat (first | refine blk_drewN ?_ _ | refine blk_drew ?_ | refine blk_alloc ?_ _)); (with_reducible first | exact BK101.out | exact BK138.out | exact BK172.out)) | (apply Go.Proofs.Ytccjakjjaemmkaa.Pre.heap_norm; ((with_reducible repeat (first | refine blk_drewN ?_ _ | refine blk_drew ?_ | refine blk_alloc ?_ _ | apply Go.Proofs.Ytccjakjjaemmkaa.Pre.blk_set_)); (with_reducible first | exact BK101.out | exact BK138.out | exact BK172.out)); (first | (simp only [List.setIfInBounds_toArray, List.set_cons_zero, List.set_cons_succ]; done) | (simp only [List.setIfInBounds_toArray, List.set_cons_zero, List.set_cons_succ]; rfl) | rfl))) Try.underlying25 rfl (by kernel_rfl) ?_) | (go_at_call 24; (with_reducible refine (roadbookref07_Same.calls kj14 a0_0 a0_1 a0_2 a0_3 a0_4 a0_5 a0_6 a0_7 a0_8 a0_9 a0_10 a0_11 a0_12 a0_13 a0_14 a0_15 a0_16 a0_17 a0_18 a0_19 a0_20 _ _ l0_21 a0_22 a0_23 _ _ l0_24 t107 t108 t109 t110 t111 t112 t113 t114 t115 t116 t117 t118 t119 t120 t121 t122 t123 t124 t125 t126 t127 _ _ t128 t131 t132 _ _ t133 t139 _ ?side1 ?side2 ?side3 ?side4 ?side5 ?side6 ?side7 ?side8 A41.out).mono ?_); (case side1 => repeat (first | exact (Kd.C_below HR0_21.out HB.out) | (with_reducible refine Kd.C_alloc ?_ _) | (with_reducible refine Kd.C_drewN ?_ _) | (with_reducible refine Kd.C_drew ?_))); (case side2 => exact HC0_21.out); (case side3 => repeat (first | exact (Kd.C_below HR0_24.out HB.out) | (with_reducible refine Kd.C_alloc ?_ _) | (with_reducible refine Kd.C_drewN ?_ _) | (with_reducible refine Kd.C_drew ?_))); (case side4 => exact HC0_24.out); (case side5 => repeat (first | exact (Kd.R_reads' HO130.out).2.2 | (with_reducible refine Kd.C_alloc ?_ _) | (with_reducible refine Kd.C_drewN ?_ _) | (with_reducible refine Kd.C_drew ?_))); (case side6 => exact (Kd.R_reads' HO130.out).2.1); (case side7 => repeat (first | exact (Kd.R_reads' HO135.out).2.2 | (with_reducible refine Kd.C_alloc ?_ _) | (with_reducible refine Kd.C_drewN ?_ _) | (with_reducible refine Kd.C_drew ?_))); (case side8 => exact (Kd.R_reads' HO135.out).2.1); rintro e w45 ⟨rfl, hb⟩; have n0_ := Aside0.mk (Kd.R_below (by (with_reducible repeat (first | apply Kd.R_alloc | apply Kd.R_drewN | apply Kd.R_drew)); exact HO130.out) hb); have n1_ := Aside0.mk (Kd.R_below (by (with_reducible repeat (first | apply Kd.R_alloc | apply Kd.R_drewN | apply Kd.R_drew)); exact HO135.out) hb); have n2_ := Aside0.mk (blk_below (g := gb101) (by (with_reducible repeat (first | refine blk_drewN ?_ _ | refine blk_drew ?_ | refine blk_alloc ?_ _)); exact BK101.out) hb); have n3_ := Aside0.mk (blk_below (g := gb138) (by (with_reducible repeat (first | refine blk_drewN ?_ _ | refine blk_drew ?_ | refine blk_alloc ?_ _)); exact BK138.out) hb); have n4_ := Aside0.mk (below_step (by repeat (first | (with_reducible first | exact HB.out | apply below_alloc | apply pw_below_drewN | apply below_drew1 | refine below_set ?_ GE101.out | refine below_set ?_ GE138.out) | exact HB.out)) hb); clear HO130; clear HO135; clear BK101; clear BK138; clear HB; have HO130 := n0_; have HO135 := n1_; have BK101 := n2_; have BK138 := n3_; have HB := n4_; clear n0_ n1_ n2_ n3_ n4_; (try clear hb); (try clear hb2); (try clear hk); (try clear hi)))
                        go_meet
                        case rel => exact ⟨_, (!t139), (by first | rfl | (simp; done) | (simp [*]; done)), H', ⟨by have := HJ2.out; have := HJ14.out; first | omega | exact Nat.le_refl _⟩, ⟨by (with_reducible repeat (first | apply Kd.R_alloc | apply Kd.R_drewN | apply Kd.R_drew)); exact HO130.out⟩, ⟨by (with_reducible repeat (first | apply Kd.R_alloc | apply Kd.R_drewN | apply Kd.R_drew)); exact HO135.out⟩, ⟨by (with_reducible repeat (first | refine blk_drewN ?_ _ | refine blk_drew ?_ | refine blk_alloc ?_ _)); exact BK101.out⟩, ⟨by (with_reducible repeat (first | refine blk_drewN ?_ _ | refine blk_drew ?_ | refine blk_alloc ?_ _)); exact BK138.out⟩, ⟨by repeat (first | (with_reducible first | exact HB.out | apply below_alloc | apply pw_below_drewN | apply below_drew1 | refine below_set ?_ GE101.out | refine below_set ?_ GE138.out) | exact HB.out)⟩⟩
                      · rw [if_neg c40] at H
                        have c40b0 : (t136 == 0) = false := beq_eq_false_iff_ne.mpr c40
                        have c40b1 : (t136 != 0) = true := bne_iff_ne.mpr c40
                        have H' := Aside0.mk H
                        clear H
                        go_wp2_with (first | ((with_reducible refine Go.Proofs.Ytccjakjjaemmkaa.Pre.gate_load 25 rfl ?_); (try (refine gate_guard (by rfl) ?_; dsimp only)); refine Go.Proofs.Ytccjakjjaemmkaa.Pre.load_event rfl rfl rfl (by rfl) (by first | ((with_reducible repeat (first | refine blk_drewN ?_ _ | refine blk_drew ?_ | refine blk_alloc ?_ _)); (with_reducible first | exact BK101.out | exact BK138.out | exact BK172.out)) | (apply Go.Proofs.Ytccjakjjaemmkaa.Pre.heap_norm; ((with_reducible repeat (first | refine blk_drewN ?_ _ | refine blk_drew ?_ | refine blk_alloc ?_ _ | apply Go.Proofs.Ytccjakjjaemmkaa.Pre.blk_set_)); (with_reducible first | exact BK101.out | exact BK138.out | exact BK172.out)); (first | (simp only [List.setIfInBounds_toArray, List.set_cons_zero, List.set_cons_succ]; done) | (simp only [List.setIfInBounds_toArray, List.set_cons_zero, List.set_cons_succ]; rfl) | rfl))) Try.underlying25 rfl (by kernel_rfl) ?_))
                        go_meet
                        case rel => exact ⟨_, (true), (by first | rfl | (simp; done) | (simp [*]; done)), H', ⟨by have := HJ2.out; have := HJ14.out; first | omega | exact Nat.le_refl _⟩, ⟨by (with_reducible repeat (first | apply Kd.R_alloc | apply Kd.R_drewN | apply Kd.R_drew)); exact HO130.out⟩, ⟨by (with_reducible repeat (first | apply Kd.R_alloc | apply Kd.R_drewN | apply Kd.R_drew)); exact HO135.out⟩, ⟨by (with_reducible repeat (first | refine blk_drewN ?_ _ | refine blk_drew ?_ | refine blk_alloc ?_ _)); exact BK101.out⟩, ⟨by (with_reducible repeat (first | refine blk_drewN ?_ _ | refine blk_drew ?_ | refine blk_alloc ?_ _)); exact BK138.out⟩, ⟨by repeat (first | (with_reducible first | exact HB.out | apply below_alloc | apply pw_below_drewN | apply below_drew1 | refine below_set ?_ GE101.out | refine below_set ?_ GE138.out) | exact HB.out)⟩⟩
                    · rw [if_neg c39] at H
                      have c39b0 : (t137 == 0) = false := beq_eq_false_iff_ne.mpr c39
                      have c39b1 : (t137 != 0) = true := bne_iff_ne.mpr c39
                      (first | rw [c39b0] | (simp only [i64_w, i32_w]; rw [c39b0]) | skip)
                      have H' := Aside0.mk H
                      clear H
                      go_wp2_with (first | ((with_reducible refine Go.Proofs.Ytccjakjjaemmkaa.Pre.gate_load 25 rfl ?_); (try (refine gate_guard (by rfl) ?_; dsimp only)); refine Go.Proofs.Ytccjakjjaemmkaa.Pre.load_event rfl rfl rfl (by rfl) (by first | ((with_reducible repeat (first | refine blk_drewN ?_ _ | refine blk_drew ?_ | refine blk_alloc ?_ _)); (with_reducible first | exact BK101.out | exact BK138.out | exact BK172.out)) | (apply Go.Proofs.Ytccjakjjaemmkaa.Pre.heap_norm; ((with_reducible repeat (first | refine blk_drewN ?_ _ | refine blk_drew ?_ | refine blk_alloc ?_ _ | apply Go.Proofs.Ytccjakjjaemmkaa.Pre.blk_set_)); (with_reducible first | exact BK101.out | exact BK138.out | exact BK172.out)); (first | (simp only [List.setIfInBounds_toArray, List.set_cons_zero, List.set_cons_succ]; done) | (simp only [List.setIfInBounds_toArray, List.set_cons_zero, List.set_cons_succ]; rfl) | rfl))) Try.underlying25 rfl (by kernel_rfl) ?_))
                      go_meet
                      case rel => exact ⟨_, (true), (by first | rfl | (simp; done) | (simp [*]; done)), H', ⟨by have := HJ2.out; have := HJ14.out; first | omega | exact Nat.le_refl _⟩, ⟨by (with_reducible repeat (first | apply Kd.R_alloc | apply Kd.R_drewN | apply Kd.R_drew)); exact HO130.out⟩, ⟨by (with_reducible repeat (first | apply Kd.R_alloc | apply Kd.R_drewN | apply Kd.R_drew)); exact HO135.out⟩, ⟨by (with_reducible repeat (first | refine blk_drewN ?_ _ | refine blk_drew ?_ | refine blk_alloc ?_ _)); exact BK101.out⟩, ⟨by (with_reducible repeat (first | refine blk_drewN ?_ _ | refine blk_drew ?_ | refine blk_alloc ?_ _)); exact BK138.out⟩, ⟨by repeat (first | (with_reducible first | exact HB.out | apply below_alloc | apply pw_below_drewN | apply below_drew1 | refine below_set ?_ GE101.out | refine below_set ?_ GE138.out) | exact HB.out)⟩⟩
                  case rest =>
                    clear HC31
                    try clear c1
                    try clear c2
                    try clear p2
                    try clear c3
                    try clear c5
                    try clear c6
                    try clear c11
                    try clear c16
                    try clear c17
                    try clear c18
                    try clear c19
                    try clear c19b0
                    try clear c19b1
                    try clear c19b2
                    try clear c20
                    try clear c22
                    try clear c27
                    try clear c29
                    try clear c34
                    try clear hcz16_0
                    try clear hcz16_1
                    try clear hcz16_10
                    try clear hcz16_11
                    try clear hcz16_12
                    try clear hcz16_13
                    try clear hcz16_14
                    try clear hcz16_15
                    try clear hcz16_16
                    try clear hcz16_17
                    try clear hcz16_18
                    try clear hcz16_19
                    try clear hcz16_2
                    try clear hcz16_20
                    try clear hcz16_21
                    try clear hcz16_22
                    try clear hcz16_23
                    try clear hcz16_24
                    try clear hcz16_3
                    try clear hcz16_4
                    try clear hcz16_5
                    try clear hcz16_6
                    try clear hcz16_7
                    try clear hcz16_8
                    try clear hcz16_9
                    try clear hcz20_0
                    try clear hcz20_1
                    try clear hcz20_10
                    try clear hcz20_11
                    try clear hcz20_12
                    try clear hcz20_13
                    try clear hcz20_14
                    try clear hcz20_15
                    try clear hcz20_16
                    try clear hcz20_17
                    try clear hcz20_18
                    try clear hcz20_19
                    try clear hcz20_2
                    try clear hcz20_20
                    try clear hcz20_21
                    try clear hcz20_22
                    try clear hcz20_23
                    try clear hcz20_24
                    try clear hcz20_3
                    try clear hcz20_4
                    try clear hcz20_5
                    try clear hcz20_6
                    try clear hcz20_7
                    try clear hcz20_8
                    try clear hcz20_9
                    try clear hcz23_0
                    try clear hcz23_1
                    try clear hcz23_10
                    try clear hcz23_11
                    try clear hcz23_12
                    try clear hcz23_13
                    try clear hcz23_14
                    try clear hcz23_15
                    try clear hcz23_16
                    try clear hcz23_17
                    try clear hcz23_18
                    try clear hcz23_19
                    try clear hcz23_2
                    try clear hcz23_20
                    try clear hcz23_21
                    try clear hcz23_22
                    try clear hcz23_23
                    try clear hcz23_24
                    try clear hcz23_3
                    try clear hcz23_4
                    try clear hcz23_5
                    try clear hcz23_6
                    try clear hcz23_7
                    try clear hcz23_8
                    try clear hcz23_9
                    try clear hcz25_0
                    try clear hcz25_1
                    try clear hcz25_10
                    try clear hcz25_11
                    try clear hcz25_12
                    try clear hcz25_13
                    try clear hcz25_14
                    try clear hcz25_15
                    try clear hcz25_16
                    try clear hcz25_17
                    try clear hcz25_18
                    try clear hcz25_19
                    try clear hcz25_2
                    try clear hcz25_20
                    try clear hcz25_21
                    try clear hcz25_22
                    try clear hcz25_23
                    try clear hcz25_24
                    try clear hcz25_3
                    try clear hcz25_4
                    try clear hcz25_5
                    try clear hcz25_6
                    try clear hcz25_7
                    try clear hcz25_8
                    try clear hcz25_9
                    try clear hcz35_0
                    try clear hcz35_1
                    try clear hcz35_10
                    try clear hcz35_11
                    try clear hcz35_12
                    try clear hcz35_13
                    try clear hcz35_14
                    try clear hcz35_15
                    try clear hcz35_16
                    try clear hcz35_17
                    try clear hcz35_18
                    try clear hcz35_19
                    try clear hcz35_2
                    try clear hcz35_20
                    try clear hcz35_21
                    try clear hcz35_22
                    try clear hcz35_23
                    try clear hcz35_24
                    try clear hcz35_3
                    try clear hcz35_4
                    try clear hcz35_5
                    try clear hcz35_6
                    try clear hcz35_7
                    try clear hcz35_8
                    try clear hcz35_9
                    try clear hcz7_0
                    try clear hcz7_1
                    try clear hcz7_10
                    try clear hcz7_11
                    try clear hcz7_12
                    try clear hcz7_13
                    try clear hcz7_14
                    try clear hcz7_15
                    try clear hcz7_16
                    try clear hcz7_17
                    try clear hcz7_18
                    try clear hcz7_19
                    try clear hcz7_2
                    try clear hcz7_20
                    try clear hcz7_21
                    try clear hcz7_22
                    try clear hcz7_23
                    try clear hcz7_24
                    try clear hcz7_3
                    try clear hcz7_4
                    try clear hcz7_5
                    try clear hcz7_6
                    try clear hcz7_7
                    try clear hcz7_8
                    try clear hcz7_9
                    try clear hcz9_0
                    try clear hcz9_1
                    try clear hcz9_10
                    try clear hcz9_11
                    try clear hcz9_12
                    try clear hcz9_13
                    try clear hcz9_14
                    try clear hcz9_15
                    try clear hcz9_16
                    try clear hcz9_17
                    try clear hcz9_18
                    try clear hcz9_19
                    try clear hcz9_2
                    try clear hcz9_20
                    try clear hcz9_21
                    try clear hcz9_22
                    try clear hcz9_23
                    try clear hcz9_24
                    try clear hcz9_3
                    try clear hcz9_4
                    try clear hcz9_5
                    try clear hcz9_6
                    try clear hcz9_7
                    try clear hcz9_8
                    try clear hcz9_9
                    try clear hfz16_0
                    try clear hfz16_1
                    try clear hfz16_10
                    try clear hfz16_11
                    try clear hfz16_12
                    try clear hfz16_13
                    try clear hfz16_14
                    try clear hfz16_15
                    try clear hfz16_16
                    try clear hfz16_17
                    try clear hfz16_18
                    try clear hfz16_19
                    try clear hfz16_2
                    try clear hfz16_20
                    try clear hfz16_21
                    try clear hfz16_22
                    try clear hfz16_23
                    try clear hfz16_24
                    try clear hfz16_3
                    try clear hfz16_4
                    try clear hfz16_5
                    try clear hfz16_6
                    try clear hfz16_7
                    try clear hfz16_8
                    try clear hfz16_9
                    try clear hfz20_0
                    try clear hfz20_1
                    try clear hfz20_10
                    try clear hfz20_11
                    try clear hfz20_12
                    try clear hfz20_13
                    try clear hfz20_14
                    try clear hfz20_15
                    try clear hfz20_16
                    try clear hfz20_17
                    try clear hfz20_18
                    try clear hfz20_19
                    try clear hfz20_2
                    try clear hfz20_20
                    try clear hfz20_21
                    try clear hfz20_22
                    try clear hfz20_23
                    try clear hfz20_24
                    try clear hfz20_3
                    try clear hfz20_4
                    try clear hfz20_5
                    try clear hfz20_6
                    try clear hfz20_7
                    try clear hfz20_8
                    try clear hfz20_9
                    try clear hfz23_0
                    try clear hfz23_1
                    try clear hfz23_10
                    try clear hfz23_11
                    try clear hfz23_12
                    try clear hfz23_13
                    try clear hfz23_14
                    try clear hfz23_15
                    try clear hfz23_16
                    try clear hfz23_17
                    try clear hfz23_18
                    try clear hfz23_19
                    try clear hfz23_2
                    try clear hfz23_20
                    try clear hfz23_21
                    try clear hfz23_22
                    try clear hfz23_23
                    try clear hfz23_24
                    try clear hfz23_3
                    try clear hfz23_4
                    try clear hfz23_5
                    try clear hfz23_6
                    try clear hfz23_7
                    try clear hfz23_8
                    try clear hfz23_9
                    try clear hfz25_0
                    try clear hfz25_1
                    try clear hfz25_10
                    try clear hfz25_11
                    try clear hfz25_12
                    try clear hfz25_13
                    try clear hfz25_14
                    try clear hfz25_15
                    try clear hfz25_16
                    try clear hfz25_17
                    try clear hfz25_18
                    try clear hfz25_19
                    try clear hfz25_2
                    try clear hfz25_20
                    try clear hfz25_21
                    try clear hfz25_22
                    try clear hfz25_23
                    try clear hfz25_24
                    try clear hfz25_3
                    try clear hfz25_4
                    try clear hfz25_5
                    try clear hfz25_6
                    try clear hfz25_7
                    try clear hfz25_8
                    try clear hfz25_9
                    try clear hfz35_0
                    try clear hfz35_1
                    try clear hfz35_10
                    try clear hfz35_11
                    try clear hfz35_12
                    try clear hfz35_13
                    try clear hfz35_14
                    try clear hfz35_15
                    try clear hfz35_16
                    try clear hfz35_17
                    try clear hfz35_18
                    try clear hfz35_19
                    try clear hfz35_2
                    try clear hfz35_20
                    try clear hfz35_21
                    try clear hfz35_22
                    try clear hfz35_23
                    try clear hfz35_24
                    try clear hfz35_3
                    try clear hfz35_4
                    try clear hfz35_5
                    try clear hfz35_6
                    try clear hfz35_7
                    try clear hfz35_8
                    try clear hfz35_9
                    try clear hfz7_0
                    try clear hfz7_1
                    try clear hfz7_10
                    try clear hfz7_11
                    try clear hfz7_12
                    try clear hfz7_13
                    try clear hfz7_14
                    try clear hfz7_15
                    try clear hfz7_16
                    try clear hfz7_17
                    try clear hfz7_18
                    try clear hfz7_19
                    try clear hfz7_2
                    try clear hfz7_20
                    try clear hfz7_21
                    try clear hfz7_22
                    try clear hfz7_23
                    try clear hfz7_24
                    try clear hfz7_3
                    try clear hfz7_4
                    try clear hfz7_5
                    try clear hfz7_6
                    try clear hfz7_7
                    try clear hfz7_8
                    try clear hfz7_9
                    try clear hfz9_0
                    try clear hfz9_1
                    try clear hfz9_10
                    try clear hfz9_11
                    try clear hfz9_12
                    try clear hfz9_13
                    try clear hfz9_14
                    try clear hfz9_15
                    try clear hfz9_16
                    try clear hfz9_17
                    try clear hfz9_18
                    try clear hfz9_19
                    try clear hfz9_2
                    try clear hfz9_20
                    try clear hfz9_21
                    try clear hfz9_22
                    try clear hfz9_23
                    try clear hfz9_24
                    try clear hfz9_3
                    try clear hfz9_4
                    try clear hfz9_5
                    try clear hfz9_6
                    try clear hfz9_7
                    try clear hfz9_8
                    try clear hfz9_9
                    try clear p2
                    obtain ⟨kq, x59_30, rfl, HA, HJ30, HO_139021, HO_139024, BK101, BK138, HB⟩ := hcut
                    cases kq with
                    | zero => exact absurd HA.out (by simp [roadbooklaw14_RreqBack.j2])
                    | succ kj30 =>
                      have H := HA.out
                      clear HA
                      simp only [roadbooklaw14_RreqBack.j2] at H
                      by_cases c46 : x59_30 = true
                      · subst c46
                        have H1 : (some false) = some r := by rw [if_pos rfl] at H; exact H
                        clear H
                        have H := H1
                        clear H1
                        exact absurd (Option.some.inj H) (by rw [hr_.out]; exact Bool.false_ne_true)
                      · replace c46 := Bool.eq_false_iff.mpr c46
                        subst c46
                        have H1 : (roadbooklaw14_RreqBack.j3 kj30 a1) = some r := by rw [if_neg (show ¬ (false = true) by decide)] at H; exact H
                        clear H
                        have H := H1
                        clear H1
                        have H' := Aside0.mk H
                        clear H
                        go_wp2_with (first | ((with_reducible refine Go.Proofs.Ytccjakjjaemmkaa.Pre.gate_load 25 rfl ?_); (try (refine gate_guard (by rfl) ?_; dsimp only)); refine Go.Proofs.Ytccjakjjaemmkaa.Pre.load_event rfl rfl rfl (by rfl) (by first | ((with_reducible repeat (first | refine blk_drewN ?_ _ | refine blk_drew ?_ | refine blk_alloc ?_ _)); (with_reducible first | exact BK101.out | exact BK138.out | exact BK172.out)) | (apply Go.Proofs.Ytccjakjjaemmkaa.Pre.heap_norm; ((with_reducible repeat (first | refine blk_drewN ?_ _ | refine blk_drew ?_ | refine blk_alloc ?_ _ | apply Go.Proofs.Ytccjakjjaemmkaa.Pre.blk_set_)); (with_reducible first | exact BK101.out | exact BK138.out | exact BK172.out)); (first | (simp only [List.setIfInBounds_toArray, List.set_cons_zero, List.set_cons_succ]; done) | (simp only [List.setIfInBounds_toArray, List.set_cons_zero, List.set_cons_succ]; rfl) | rfl))) Try.underlying25 rfl (by kernel_rfl) ?_))
                        go_meet
                        case rel => exact ⟨_, H', ⟨by have := HJ2.out; have := HJ14.out; have := HJ30.out; first | omega | exact Nat.le_refl _⟩, ⟨by (with_reducible repeat (first | refine blk_drewN ?_ _ | refine blk_drew ?_ | refine blk_alloc ?_ _)); exact BK101.out⟩, ⟨by repeat (first | (with_reducible first | exact HB.out | apply below_alloc | apply pw_below_drewN | apply below_drew1 | refine below_set ?_ GE101.out | refine below_set ?_ GE138.out) | exact HB.out)⟩⟩
                · replace c29 := Bool.eq_false_iff.mpr c29
                  subst c29
                  have H1 : (roadbooklaw14_RreqBack.j3 kj14 a1) = some r := by rw [if_neg (show ¬ (false = true) by decide)] at H; exact H
                  clear H
                  have H := H1
                  clear H1
                  have H' := Aside0.mk H
                  clear H
                  go_wp2_with (first | ((with_reducible refine Go.Proofs.Ytccjakjjaemmkaa.Pre.gate_load 25 rfl ?_); (try (refine gate_guard (by rfl) ?_; dsimp only)); refine Go.Proofs.Ytccjakjjaemmkaa.Pre.load_event rfl rfl rfl (by rfl) (by first | ((with_reducible repeat (first | refine blk_drewN ?_ _ | refine blk_drew ?_ | refine blk_alloc ?_ _)); (with_reducible first | exact BK101.out | exact BK138.out | exact BK172.out)) | (apply Go.Proofs.Ytccjakjjaemmkaa.Pre.heap_norm; ((with_reducible repeat (first | refine blk_drewN ?_ _ | refine blk_drew ?_ | refine blk_alloc ?_ _ | apply Go.Proofs.Ytccjakjjaemmkaa.Pre.blk_set_)); (with_reducible first | exact BK101.out | exact BK138.out | exact BK172.out)); (first | (simp only [List.setIfInBounds_toArray, List.set_cons_zero, List.set_cons_succ]; done) | (simp only [List.setIfInBounds_toArray, List.set_cons_zero, List.set_cons_succ]; rfl) | rfl))) Try.underlying25 rfl (by kernel_rfl) ?_))
                  go_meet
                  case rel => exact ⟨_, H', ⟨by have := HJ2.out; have := HJ14.out; first | omega | exact Nat.le_refl _⟩, ⟨by (with_reducible repeat (first | refine blk_drewN ?_ _ | refine blk_drew ?_ | refine blk_alloc ?_ _)); exact BK101.out⟩, ⟨by repeat (first | (with_reducible first | exact HB.out | apply below_alloc | apply pw_below_drewN | apply below_drew1 | refine below_set ?_ GE101.out) | exact HB.out)⟩⟩
              case rest =>
                clear HC28
                try clear c2
                try clear c27
                try clear hcz7_8
                try clear hcz7_9
                try clear hcz9_0
                try clear hcz9_1
                try clear hcz9_10
                try clear hcz9_11
                try clear hcz9_12
                try clear hcz9_13
                try clear hcz9_14
                try clear hcz9_15
                try clear hcz9_16
                try clear hcz9_17
                try clear hcz9_18
                try clear hcz9_19
                try clear hcz9_2
                try clear hcz9_20
                try clear hcz9_21
                try clear hcz9_22
                try clear hcz9_23
                try clear hcz9_24
                try clear hcz9_3
                try clear hcz9_4
                try clear hcz9_5
                try clear hcz9_6
                try clear hcz9_7
                try clear hcz9_8
                try clear hcz9_9
                try clear hfz16_0
                try clear hfz16_1
                try clear hfz16_10
                try clear hfz16_11
                try clear hfz16_12
                try clear hfz16_13
                try clear hfz16_14
                try clear hfz16_15
                try clear hfz16_16
                try clear hfz16_17
                try clear hfz16_18
                try clear hfz16_19
                try clear hfz16_2
                try clear hfz16_20
                try clear hfz16_21
                try clear hfz16_22
                try clear hfz16_23
                try clear hfz16_24
                try clear hfz16_3
                try clear hfz16_4
                try clear hfz16_5
                try clear hfz16_6
                try clear hfz16_7
                try clear hfz16_8
                try clear hfz16_9
                try clear hfz7_0
                try clear hfz7_1
                try clear hfz7_10
                try clear hfz7_11
                try clear hfz7_12
                try clear hfz7_13
                try clear hfz7_14
                try clear hfz7_15
                try clear hfz7_16
                try clear hfz7_17
                try clear hfz7_18
                try clear hfz7_19
                try clear hfz7_2
                try clear hfz7_20
                try clear hfz7_21
                try clear hfz7_22
                try clear hfz7_23
                try clear hfz7_24
                try clear hfz7_3
                try clear hfz7_4
                try clear hfz7_5
                try clear hfz7_6
                try clear hfz7_7
                try clear hfz7_8
                try clear hfz7_9
                try clear hfz9_0
                try clear hfz9_1
                try clear hfz9_10
                try clear hfz9_11
                try clear hfz9_12
                try clear hfz9_13
                try clear hfz9_14
                try clear hfz9_15
                try clear hfz9_16
                try clear hfz9_17
                try clear hfz9_18
                try clear hfz9_19
                try clear hfz9_2
                try clear hfz9_20
                try clear hfz9_21
                try clear hfz9_22
                try clear hfz9_23
                try clear hfz9_24
                try clear hfz9_3
                try clear hfz9_4
                try clear hfz9_5
                try clear hfz9_6
                try clear hfz9_7
                try clear hfz9_8
                try clear hfz9_9
                obtain ⟨kq, HA, HJ27, BK101, HB⟩ := hcut
                cases kq with
                | zero => exact absurd HA.out (by simp [roadbooklaw14_RreqBack.j3])
                | succ kj27 =>
                  have H := HA.out
                  clear HA
                  simp only [roadbooklaw14_RreqBack.j3] at H
                  have HC47 := Aside0.mk H
                  clear H
                  go_upto_region 10 with (first | ((with_reducible refine Go.Proofs.Ytccjakjjaemmkaa.Pre.gate_load 25 rfl ?_); (try (refine gate_guard (by rfl) ?_; dsimp only)); refine Go.Proofs.Ytccjakjjaemmkaa.Pre.load_event rfl rfl rfl (by rfl) (by first | ((with_reducible repeat (first | refine blk_drewN ?_ _ | refine blk_drew ?_ | refine blk_alloc ?_ _)); (with_reducible first | exact BK101.out | exact BK138.out | exact BK172.out)) | (apply Go.Proofs.Ytccjakjjaemmkaa.Pre.heap_norm; ((with_reducible repeat (first | refine blk_drewN ?_ _ | refine blk_drew ?_ | refine blk_alloc ?_ _ | apply Go.Proofs.Ytccjakjjaemmkaa.Pre.blk_set_)); (with_reducible first | exact BK101.out | exact BK138.out | exact BK172.out)); (first | (simp only [List.setIfInBounds_toArray, List.set_cons_zero, List.set_cons_succ]; done) | (simp only [List.setIfInBounds_toArray, List.set_cons_zero, List.set_cons_succ]; rfl) | rfl))) Try.underlying25 rfl (by kernel_rfl) ?_))
                  go_cut [68] (fun v68 wc => ∃ (kq : Nat) (x68_46 : Bool), v68 = .bool x68_46 ∧ Aside0 (roadbooklaw14_RreqBack.j4 kq a1 x68_46 = some r) ∧ Aside0 (kq ≤ kj27) ∧ Aside0 (wc.heap[gb101]? = some (.cells #[.int .i64 a0_0, .int .i64 a0_1, .int .i64 a0_2, .string a0_3, .int .i64 a0_4, .int .i64 a0_5, .string a0_6, .int .i64 a0_7, .int .i64 a0_8, .string a0_9, .int .i64 a0_10, .string a0_11, .int .i64 a0_12, .int .i64 a0_13, .int .i64 a0_14, .int .i64 a0_15, .int .i64 a0_16, .int .i64 a0_17, .int .i64 a0_18, .string a0_19, .string a0_20, (.slice A0_21 l0_21.length c0_21), .int .i64 a0_22, .string a0_23, (.slice A0_24 l0_24.length c0_24)] 25 (0, 0))) ∧ Aside0 (Below w.heap.size w wc))
                  case first =>
                    have H := HC47.out
                    clear HC47
                    by_cases c48 : (a1.size : Int) = 0
                    · rw [if_pos c48] at H
                      have c48b0 : ((a1.size : Int) == 0) = true := beq_iff_eq.mpr c48
                      have c48b1 : ((a1.size : Int) != 0) = false := bne_eq_false_iff_eq.mpr c48
                      clear c48
                      (first | rw [c48b0] | (simp only [i64_w, i32_w]; rw [c48b0]) | skip)
                      have H' := Aside0.mk H
                      clear H
                      go_wp2_with (first | ((with_reducible refine Go.Proofs.Ytccjakjjaemmkaa.Pre.gate_load 25 rfl ?_); (try (refine gate_guard (by rfl) ?_; dsimp only)); refine Go.Proofs.Ytccjakjjaemmkaa.Pre.load_event rfl rfl rfl (by rfl) (by first | ((with_reducible repeat (first | refine blk_drewN ?_ _ | refine blk_drew ?_ | refine blk_alloc ?_ _)); (with_reducible first | exact BK101.out | exact BK138.out | exact BK172.out)) | (apply Go.Proofs.Ytccjakjjaemmkaa.Pre.heap_norm; ((with_reducible repeat (first | refine blk_drewN ?_ _ | refine blk_drew ?_ | refine blk_alloc ?_ _ | apply Go.Proofs.Ytccjakjjaemmkaa.Pre.blk_set_)); (with_reducible first | exact BK101.out | exact BK138.out | exact BK172.out)); (first | (simp only [List.setIfInBounds_toArray, List.set_cons_zero, List.set_cons_succ]; done) | (simp only [List.setIfInBounds_toArray, List.set_cons_zero, List.set_cons_succ]; rfl) | rfl))) Try.underlying25 rfl (by kernel_rfl) ?_))
                      go_meet
                      case rel => exact ⟨_, (true), (by first | rfl | (simp; done) | (simp [*]; done)), H', ⟨by have := HJ2.out; have := HJ14.out; have := HJ27.out; first | omega | exact Nat.le_refl _⟩, ⟨by (with_reducible repeat (first | refine blk_drewN ?_ _ | refine blk_drew ?_ | refine blk_alloc ?_ _)); exact BK101.out⟩, ⟨by repeat (first | (with_reducible first | exact HB.out | apply below_alloc | apply pw_below_drewN | apply below_drew1 | refine below_set ?_ GE101.out) | exact HB.out)⟩⟩
                    · rw [if_neg c48] at H
                      have c48b0 : ((a1.size : Int) == 0) = false := beq_eq_false_iff_ne.mpr c48
                      have c48b1 : ((a1.size : Int) != 0) = true := bne_iff_ne.mpr c48
                      (first | rw [c48b0] | (simp only [i64_w, i32_w]; rw [c48b0]) | skip)
                      by_cases c49 : 0 < (a1.size : Int)
                      · rw [if_pos c49] at H
                        have c49b0 : decide (0 < (a1.size : Int)) = true := decide_eq_true c49
                        have c49b1 : decide (0 < a1.size) = true := decide_eq_true (by omega)
                        clear c49
                        have H' := Aside0.mk H
                        clear H
                        have p50 : 0 ≤ (0 : Int) := (by omega)
                        have q50 : 0 < a1.size := (by have : (0 : Int) < (a1.size : Int) := of_decide_eq_true (by first | (with_reducible assumption) | assumption); omega)
                        have hx50 : ∀ h : 0 < a1.size, ((a1[0]'h).toNat : Int) = bt a1 0 := bt_at a1 0
                        clear p50
                        have qi50 : (0 < (a1.size : Int)) = True := eq_true (of_decide_eq_true (by first | (with_reducible assumption) | assumption))
                        replace q50 := eq_true q50
                        go_wp2_with (first | ((with_reducible refine Go.Proofs.Ytccjakjjaemmkaa.Pre.gate_load 25 rfl ?_); (try (refine gate_guard (by rfl) ?_; dsimp only)); refine Go.Proofs.Ytccjakjjaemmkaa.Pre.load_event rfl rfl rfl (by rfl) (by first | ((with_reducible repeat (first | refine blk_drewN ?_ _ | refine blk_drew ?_ | refine blk_alloc ?_ _)); (with_reducible first | exact BK101.out | exact BK138.out | exact BK172.out)) | (apply Go.Proofs.Ytccjakjjaemmkaa.Pre.heap_norm; ((with_reducible repeat (first | refine blk_drewN ?_ _ | refine blk_drew ?_ | refine blk_alloc ?_ _ | apply Go.Proofs.Ytccjakjjaemmkaa.Pre.blk_set_)); (with_reducible first | exact BK101.out | exact BK138.out | exact BK172.out)); (first | (simp only [List.setIfInBounds_toArray, List.set_cons_zero, List.set_cons_succ]; done) | (simp only [List.setIfInBounds_toArray, List.set_cons_zero, List.set_cons_succ]; rfl) | rfl))) Try.underlying25 rfl (by kernel_rfl) ?_))
                        go_meet
                        case rel => exact ⟨_, (!((bt a1 0) == 1)), (by first | rfl | (simp; done) | (simp [*]; done)), H', ⟨by have := HJ2.out; have := HJ14.out; have := HJ27.out; first | omega | exact Nat.le_refl _⟩, ⟨by (with_reducible repeat (first | refine blk_drewN ?_ _ | refine blk_drew ?_ | refine blk_alloc ?_ _)); exact BK101.out⟩, ⟨by repeat (first | (with_reducible first | exact HB.out | apply below_alloc | apply pw_below_drewN | apply below_drew1 | refine below_set ?_ GE101.out) | exact HB.out)⟩⟩
                      · rw [if_neg c49] at H
                        exact absurd H (by simp)
                  case rest =>
                    clear HC47
                    try clear c2
                    try clear p2
                    try clear c27
                    try clear c29
                    try clear hcz7_8
                    try clear hcz7_9
                    try clear hcz9_0
                    try clear hcz9_1
                    try clear hcz9_10
                    try clear hcz9_11
                    try clear hcz9_12
                    try clear hcz9_13
                    try clear hcz9_14
                    try clear hcz9_15
                    try clear hcz9_16
                    try clear hcz9_17
                    try clear hcz9_18
                    try clear hcz9_19
                    try clear hcz9_2
                    try clear hcz9_20
                    try clear hcz9_21
                    try clear hcz9_22
                    try clear hcz9_23
                    try clear hcz9_24
                    try clear hcz9_3
                    try clear hcz9_4
                    try clear hcz9_5
                    try clear hcz9_6
                    try clear hcz9_7
                    try clear hcz9_8
                    try clear hcz9_9
                    try clear hfz16_0
                    try clear hfz16_1
                    try clear hfz16_10
                    try clear hfz16_11
                    try clear hfz16_12
                    try clear hfz16_13
                    try clear hfz16_14
                    try clear hfz16_15
                    try clear hfz16_16
                    try clear hfz16_17
                    try clear hfz16_18
                    try clear hfz16_19
                    try clear hfz16_2
                    try clear hfz16_20
                    try clear hfz16_21
                    try clear hfz16_22
                    try clear hfz16_23
                    try clear hfz16_24
                    try clear hfz16_3
                    try clear hfz16_4
                    try clear hfz16_5
                    try clear hfz16_6
                    try clear hfz16_7
                    try clear hfz16_8
                    try clear hfz16_9
                    try clear hfz7_0
                    try clear hfz7_1
                    try clear hfz7_10
                    try clear hfz7_11
                    try clear hfz7_12
                    try clear hfz7_13
                    try clear hfz7_14
                    try clear hfz7_15
                    try clear hfz7_16
                    try clear hfz7_17
                    try clear hfz7_18
                    try clear hfz7_19
                    try clear hfz7_2
                    try clear hfz7_20
                    try clear hfz7_21
                    try clear hfz7_22
                    try clear hfz7_23
                    try clear hfz7_24
                    try clear hfz7_3
                    try clear hfz7_4
                    try clear hfz7_5
                    try clear hfz7_6
                    try clear hfz7_7
                    try clear hfz7_8
                    try clear hfz7_9
                    try clear hfz9_0
                    try clear hfz9_1
                    try clear hfz9_10
                    try clear hfz9_11
                    try clear hfz9_12
                    try clear hfz9_13
                    try clear hfz9_14
                    try clear hfz9_15
                    try clear hfz9_16
                    try clear hfz9_17
                    try clear hfz9_18
                    try clear hfz9_19
                    try clear hfz9_2
                    try clear hfz9_20
                    try clear hfz9_21
                    try clear hfz9_22
                    try clear hfz9_23
                    try clear hfz9_24
                    try clear hfz9_3
                    try clear hfz9_4
                    try clear hfz9_5
                    try clear hfz9_6
                    try clear hfz9_7
                    try clear hfz9_8
                    try clear hfz9_9
                    obtain ⟨kq, x68_46, rfl, HA, HJ46, BK101, HB⟩ := hcut
                    cases kq with
                    | zero => exact absurd HA.out (by simp [roadbooklaw14_RreqBack.j4])
                    | succ kj46 =>
                      have H := HA.out
                      clear HA
                      simp only [roadbooklaw14_RreqBack.j4] at H
                      by_cases c51 : x68_46 = true
                      · subst c51
                        have H1 : ((roadbooklaw14_awake.f kj46).bind fun t140 => (some t140)) = some r := by rw [if_pos rfl] at H; exact H
                        clear H
                        have H := H1
                        clear H1
                        replace H := Option.bind_eq_some_iff.mp H
                        obtain ⟨t140, A520, H⟩ := H
                        replace H : (some t140) = some r := H
                        have A52 := Aside0.mk A520
                        clear A520
                        obtain rfl := Option.some.inj H
                        go_wp2_with (first | ((with_reducible refine Go.Proofs.Ytccjakjjaemmkaa.Pre.gate_load 25 rfl ?_); (try (refine gate_guard (by rfl) ?_; dsimp only)); refine Go.Proofs.Ytccjakjjaemmkaa.Pre.load_event rfl rfl rfl (by rfl) (by first | ((with_reducible repeat (first | refine blk_drewN ?_ _ | refine blk_drew ?_ | refine blk_alloc ?_ _)); (with_reducible first | exact BK101.out | exact BK138.out | exact BK172.out)) | (apply Go.Proofs.Ytccjakjjaemmkaa.Pre.heap_norm; ((with_reducible repeat (first | refine blk_drewN ?_ _ | refine blk_drew ?_ | refine blk_alloc ?_ _ | apply Go.Proofs.Ytccjakjjaemmkaa.Pre.blk_set_)); (with_reducible first | exact BK101.out | exact BK138.out | exact BK172.out)); (first | (simp only [List.setIfInBounds_toArray, List.set_cons_zero, List.set_cons_succ]; done) | (simp only [List.setIfInBounds_toArray, List.set_cons_zero, List.set_cons_succ]; rfl) | rfl))) Try.underlying25 rfl (by kernel_rfl) ?_) | ((with_reducible refine gate_callee (f := 17) rfl ?_); refine goesL_ (some 69) rfl rfl Try.func17 (by kernel_rfl) rfl #[] rfl (by (try simp only [List.map_toArray, List.map_cons, List.map_nil]); first | done | rfl | (simp only [List.length_drop, List.length_take]; rfl)) ?_; (with_reducible refine (roadbooklaw14_awake.calls kj46  t140 _ (Aside0.mk (by first | rfl | exact hr_.out)) A52.out).mono ?_); rintro e w53 ⟨rfl, hb⟩; refine ⟨_, rfl, ?_⟩; have n0_ := Aside0.mk (blk_below (g := gb101) (by (with_reducible repeat (first | refine blk_drewN ?_ _ | refine blk_drew ?_ | refine blk_alloc ?_ _)); exact BK101.out) hb); have n1_ := Aside0.mk (below_step (by repeat (first | (with_reducible first | exact HB.out | apply below_alloc | apply pw_below_drewN | apply below_drew1 | refine below_set ?_ GE101.out) | exact HB.out)) hb); clear BK101; clear HB; have BK101 := n0_; have HB := n1_; clear n0_ n1_; (try clear hb); (try clear hb2); (try clear hk); (try clear hi)))
                        go_ret
                        exact ⟨by first | rfl | (simp [errW_none, errW_some] <;> rfl) | (simp [*, errW_none, errW_some] <;> rfl), by repeat (first | (with_reducible first | exact HB.out | apply below_alloc | apply pw_below_drewN | apply below_drew1 | refine below_set ?_ GE101.out) | exact HB.out)⟩
                      · replace c51 := Bool.eq_false_iff.mpr c51
                        subst c51
                        have H1 : ((rreq_Get.f kj46 a1).bind fun bt141 => (if bt141.2.2.2.2.2.2.2.2.2.2.2.2.2.2.2.2.2.2.2.2.2.2.2.2.2.2 = 0 then ((rreq_Put.f kj46 bt141.1 bt141.2.1 bt141.2.2.1 bt141.2.2.2.1 bt141.2.2.2.2.1 bt141.2.2.2.2.2.1 bt141.2.2.2.2.2.2.1 bt141.2.2.2.2.2.2.2.1 bt141.2.2.2.2.2.2.2.2.1 bt141.2.2.2.2.2.2.2.2.2.1 bt141.2.2.2.2.2.2.2.2.2.2.1 bt141.2.2.2.2.2.2.2.2.2.2.2.1 bt141.2.2.2.2.2.2.2.2.2.2.2.2.1 bt141.2.2.2.2.2.2.2.2.2.2.2.2.2.1 bt141.2.2.2.2.2.2.2.2.2.2.2.2.2.2.1 bt141.2.2.2.2.2.2.2.2.2.2.2.2.2.2.2.1 bt141.2.2.2.2.2.2.2.2.2.2.2.2.2.2.2.2.1 bt141.2.2.2.2.2.2.2.2.2.2.2.2.2.2.2.2.2.1 bt141.2.2.2.2.2.2.2.2.2.2.2.2.2.2.2.2.2.2.1 bt141.2.2.2.2.2.2.2.2.2.2.2.2.2.2.2.2.2.2.2.1 bt141.2.2.2.2.2.2.2.2.2.2.2.2.2.2.2.2.2.2.2.2.1 bt141.2.2.2.2.2.2.2.2.2.2.2.2.2.2.2.2.2.2.2.2.2.1 bt141.2.2.2.2.2.2.2.2.2.2.2.2.2.2.2.2.2.2.2.2.2.2.1 bt141.2.2.2.2.2.2.2.2.2.2.2.2.2.2.2.2.2.2.2.2.2.2.2.1 bt141.2.2.2.2.2.2.2.2.2.2.2.2.2.2.2.2.2.2.2.2.2.2.2.2.1).bind fun bt175 => ((roadbooklaw14_awake.f kj46).bind fun t177 => (if t177 = true then (if bt175.2 = true then (if bt175.1.toList = a1.toList then (if bt141.2.2.2.2.2.2.2.2.2.2.2.2.2.2.2.2.2.2.2.2.2.2.2.2.2.1 = 0 then ((rreq_Right.f kj46 bt141.1 bt141.2.1 bt141.2.2.1 bt141.2.2.2.1 bt141.2.2.2.2.1 bt141.2.2.2.2.2.1 bt141.2.2.2.2.2.2.1 bt141.2.2.2.2.2.2.2.1 bt141.2.2.2.2.2.2.2.2.1 bt141.2.2.2.2.2.2.2.2.2.1 bt141.2.2.2.2.2.2.2.2.2.2.1 bt141.2.2.2.2.2.2.2.2.2.2.2.1 bt141.2.2.2.2.2.2.2.2.2.2.2.2.1 bt141.2.2.2.2.2.2.2.2.2.2.2.2.2.1 bt141.2.2.2.2.2.2.2.2.2.2.2.2.2.2.1 bt141.2.2.2.2.2.2.2.2.2.2.2.2.2.2.2.1 bt141.2.2.2.2.2.2.2.2.2.2.2.2.2.2.2.2.1 bt141.2.2.2.2.2.2.2.2.2.2.2.2.2.2.2.2.2.1 bt141.2.2.2.2.2.2.2.2.2.2.2.2.2.2.2.2.2.2.1 bt141.2.2.2.2.2.2.2.2.2.2.2.2.2.2.2.2.2.2.2.1 bt141.2.2.2.2.2.2.2.2.2.2.2.2.2.2.2.2.2.2.2.2.1 bt141.2.2.2.2.2.2.2.2.2.2.2.2.2.2.2.2.2.2.2.2.2.1 bt141.2.2.2.2.2.2.2.2.2.2.2.2.2.2.2.2.2.2.2.2.2.2.1 bt141.2.2.2.2.2.2.2.2.2.2.2.2.2.2.2.2.2.2.2.2.2.2.2.1 bt141.2.2.2.2.2.2.2.2.2.2.2.2.2.2.2.2.2.2.2.2.2.2.2.2.1).bind fun t178 => (some t178)) else (some false)) else (some false)) else (some false)) else (some false)))) else ((roadbooklaw14_awake.f kj46).bind fun t173 => (if t173 = true then (if bt141.2.2.2.2.2.2.2.2.2.2.2.2.2.2.2.2.2.2.2.2.2.2.2.2.2.1 ≥ 0 then (if bt141.2.2.2.2.2.2.2.2.2.2.2.2.2.2.2.2.2.2.2.2.2.2.2.2.2.1 ≤ (a1.size : Int) then ((roadbookref07_Same.f kj46 bt141.1 bt141.2.1 bt141.2.2.1 bt141.2.2.2.1 bt141.2.2.2.2.1 bt141.2.2.2.2.2.1 bt141.2.2.2.2.2.2.1 bt141.2.2.2.2.2.2.2.1 bt141.2.2.2.2.2.2.2.2.1 bt141.2.2.2.2.2.2.2.2.2.1 bt141.2.2.2.2.2.2.2.2.2.2.1 bt141.2.2.2.2.2.2.2.2.2.2.2.1 bt141.2.2.2.2.2.2.2.2.2.2.2.2.1 bt141.2.2.2.2.2.2.2.2.2.2.2.2.2.1 bt141.2.2.2.2.2.2.2.2.2.2.2.2.2.2.1 bt141.2.2.2.2.2.2.2.2.2.2.2.2.2.2.2.1 bt141.2.2.2.2.2.2.2.2.2.2.2.2.2.2.2.2.1 bt141.2.2.2.2.2.2.2.2.2.2.2.2.2.2.2.2.2.1 bt141.2.2.2.2.2.2.2.2.2.2.2.2.2.2.2.2.2.2.1 bt141.2.2.2.2.2.2.2.2.2.2.2.2.2.2.2.2.2.2.2.1 bt141.2.2.2.2.2.2.2.2.2.2.2.2.2.2.2.2.2.2.2.2.1 bt141.2.2.2.2.2.2.2.2.2.2.2.2.2.2.2.2.2.2.2.2.2.1 bt141.2.2.2.2.2.2.2.2.2.2.2.2.2.2.2.2.2.2.2.2.2.2.1 bt141.2.2.2.2.2.2.2.2.2.2.2.2.2.2.2.2.2.2.2.2.2.2.2.1 bt141.2.2.2.2.2.2.2.2.2.2.2.2.2.2.2.2.2.2.2.2.2.2.2.2.1 0 0 0 (⟨#[]⟩ : ByteArray) 0 0 (⟨#[]⟩ : ByteArray) 0 0 (⟨#[]⟩ : ByteArray) 0 (⟨#[]⟩ : ByteArray) 0 0 0 0 0 0 0 (⟨#[]⟩ : ByteArray) (⟨#[]⟩ : ByteArray) ([] : List (S46)) 0 (⟨#[]⟩ : ByteArray) ([] : List (S48))).bind fun t174 => (some t174)) else (some false)) else (some false)) else (some false))))) = some r := by rw [if_neg (show ¬ (false = true) by decide)] at H; exact H
                        clear H
                        have H := H1
                        clear H1
                        replace H := Option.bind_eq_some_iff.mp H
                        obtain ⟨⟨t141, t142, t143, t144, t145, t146, t147, t148, t149, t150, t151, t152, t153, t154, t155, t156, t157, t158, t159, t160, t161, t162, t165, t166, t167, t170, t171⟩, A540, H⟩ := H
                        replace H : (if t171 = 0 then ((rreq_Put.f kj46 t141 t142 t143 t144 t145 t146 t147 t148 t149 t150 t151 t152 t153 t154 t155 t156 t157 t158 t159 t160 t161 t162 t165 t166 t167).bind fun bt175 => ((roadbooklaw14_awake.f kj46).bind fun t177 => (if t177 = true then (if bt175.2 = true then (if bt175.1.toList = a1.toList then (if t170 = 0 then ((rreq_Right.f kj46 t141 t142 t143 t144 t145 t146 t147 t148 t149 t150 t151 t152 t153 t154 t155 t156 t157 t158 t159 t160 t161 t162 t165 t166 t167).bind fun t178 => (some t178)) else (some false)) else (some false)) else (some false)) else (some false)))) else ((roadbooklaw14_awake.f kj46).bind fun t173 => (if t173 = true then (if t170 ≥ 0 then (if t170 ≤ (a1.size : Int) then ((roadbookref07_Same.f kj46 t141 t142 t143 t144 t145 t146 t147 t148 t149 t150 t151 t152 t153 t154 t155 t156 t157 t158 t159 t160 t161 t162 t165 t166 t167 0 0 0 (⟨#[]⟩ : ByteArray) 0 0 (⟨#[]⟩ : ByteArray) 0 0 (⟨#[]⟩ : ByteArray) 0 (⟨#[]⟩ : ByteArray) 0 0 0 0 0 0 0 (⟨#[]⟩ : ByteArray) (⟨#[]⟩ : ByteArray) ([] : List (S46)) 0 (⟨#[]⟩ : ByteArray) ([] : List (S48))).bind fun t174 => (some t174)) else (some false)) else (some false)) else (some false)))) = some r := H
                        have A54 := Aside0.mk A540
                        clear A540
                        by_cases c55 : t171 = 0
                        · rw [if_pos c55] at H
                          have c55b0 : (t171 == 0) = true := beq_iff_eq.mpr c55
                          have c55b1 : (t171 != 0) = false := bne_eq_false_iff_eq.mpr c55
                          clear c55
                          replace H := Option.bind_eq_some_iff.mp H
                          obtain ⟨⟨t175, t176⟩, A560, H⟩ := H
                          replace H : ((roadbooklaw14_awake.f kj46).bind fun t177 => (if t177 = true then (if t176 = true then (if t175.toList = a1.toList then (if t170 = 0 then ((rreq_Right.f kj46 t141 t142 t143 t144 t145 t146 t147 t148 t149 t150 t151 t152 t153 t154 t155 t156 t157 t158 t159 t160 t161 t162 t165 t166 t167).bind fun t178 => (some t178)) else (some false)) else (some false)) else (some false)) else (some false))) = some r := H
                          have A56 := Aside0.mk A560
                          clear A560
                          replace H := Option.bind_eq_some_iff.mp H
                          obtain ⟨t177, A570, H⟩ := H
                          replace H : (if t177 = true then (if t176 = true then (if t175.toList = a1.toList then (if t170 = 0 then ((rreq_Right.f kj46 t141 t142 t143 t144 t145 t146 t147 t148 t149 t150 t151 t152 t153 t154 t155 t156 t157 t158 t159 t160 t161 t162 t165 t166 t167).bind fun t178 => (some t178)) else (some false)) else (some false)) else (some false)) else (some false)) = some r := H
                          have A57 := Aside0.mk A570
                          clear A570
                          by_cases c58 : t177 = true
                          · subst c58
                            have H1 : (if t176 = true then (if t175.toList = a1.toList then (if t170 = 0 then ((rreq_Right.f kj46 t141 t142 t143 t144 t145 t146 t147 t148 t149 t150 t151 t152 t153 t154 t155 t156 t157 t158 t159 t160 t161 t162 t165 t166 t167).bind fun t178 => (some t178)) else (some false)) else (some false)) else (some false)) = some r := by rw [if_pos rfl] at H; exact H
                            clear H
                            have H := H1
                            clear H1
                            by_cases c59 : t176 = true
                            · subst c59
                              have H1 : (if t175.toList = a1.toList then (if t170 = 0 then ((rreq_Right.f kj46 t141 t142 t143 t144 t145 t146 t147 t148 t149 t150 t151 t152 t153 t154 t155 t156 t157 t158 t159 t160 t161 t162 t165 t166 t167).bind fun t178 => (some t178)) else (some false)) else (some false)) = some r := by rw [if_pos rfl] at H; exact H
                              clear H
                              have H := H1
                              clear H1
                              by_cases c60 : t175.toList = a1.toList
                              · rw [if_pos c60] at H
                                have c60b0 : (t175.toList == a1.toList) = true := beq_iff_eq.mpr c60
                                have c60b1 : (t175.toList != a1.toList) = false := bne_eq_false_iff_eq.mpr c60
                                clear c60
                                by_cases c61 : t170 = 0
                                · rw [if_pos c61] at H
                                  have c61b0 : (t170 == 0) = true := beq_iff_eq.mpr c61
                                  have c61b1 : (t170 != 0) = false := bne_eq_false_iff_eq.mpr c61
                                  clear c61
                                  replace H := Option.bind_eq_some_iff.mp H
                                  obtain ⟨t178, A620, H⟩ := H
                                  replace H : (some t178) = some r := H
                                  have A62 := Aside0.mk A620
                                  clear A620
                                  obtain rfl := Option.some.inj H
                                  go_wp2_with (first | ((with_reducible refine Go.Proofs.Ytccjakjjaemmkaa.Pre.gate_load 25 rfl ?_); (try (refine gate_guard (by rfl) ?_; dsimp only)); refine Go.Proofs.Ytccjakjjaemmkaa.Pre.load_event rfl rfl rfl (by rfl) (by first | ((with_reducible repeat (first | refine blk_drewN ?_ _ | refine blk_drew ?_ | refine blk_alloc ?_ _)); (with_reducible first | exact BK101.out | exact BK138.out | exact BK172.out)) | (apply Go.Proofs.Ytccjakjjaemmkaa.Pre.heap_norm; ((with_reducible repeat (first | refine blk_drewN ?_ _ | refine blk_drew ?_ | refine blk_alloc ?_ _ | apply Go.Proofs.Ytccjakjjaemmkaa.Pre.blk_set_)); (with_reducible first | exact BK101.out | exact BK138.out | exact BK172.out)); (first | (simp only [List.setIfInBounds_toArray, List.set_cons_zero, List.set_cons_succ]; done) | (simp only [List.setIfInBounds_toArray, List.set_cons_zero, List.set_cons_succ]; rfl) | rfl))) Try.underlying25 rfl (by kernel_rfl) ?_) | ((with_reducible refine gate_callee (f := 22) rfl ?_); refine goesL_ (some 72) rfl rfl Try.func22 (by kernel_rfl) rfl #[.string a1] rfl (by (try simp only [List.map_toArray, List.map_cons, List.map_nil]); first | done | rfl | (simp only [List.length_drop, List.length_take]; rfl)) ?_; (with_reducible refine (rreq_Get.calls kj46 a1 t141 t142 t143 t144 t145 t146 t147 t148 t149 t150 t151 t152 t153 t154 t155 t156 t157 t158 t159 t160 t161 t162 t165 t166 t167 t170 t171 _ A54.out).mono ?_); rintro e w63 ⟨v163, v168, rfl, ho0, ho1, hb⟩; refine ⟨_, rfl, ?_⟩; have n0_ := Aside0.mk (Kd.R_lower ho0 (below_size (by repeat (first | (with_reducible first | exact HB.out | apply below_alloc | apply pw_below_drewN | apply below_drew1 | refine below_set ?_ GE101.out) | exact HB.out)))); have n1_ := Aside0.mk (Kd.R_lower ho1 (below_size (by repeat (first | (with_reducible first | exact HB.out | apply below_alloc | apply pw_below_drewN | apply below_drew1 | refine below_set ?_ GE101.out) | exact HB.out)))); have n2_ := Aside0.mk (blk_below (g := gb101) (by (with_reducible repeat (first | refine blk_drewN ?_ _ | refine blk_drew ?_ | refine blk_alloc ?_ _)); exact BK101.out) hb); have n3_ := Aside0.mk (below_step (by repeat (first | (with_reducible first | exact HB.out | apply below_alloc | apply pw_below_drewN | apply below_drew1 | refine below_set ?_ GE101.out) | exact HB.out)) hb); clear BK101; clear HB; have HO164 := n0_; have HO169 := n1_; have BK101 := n2_; have HB := n3_; clear n0_ n1_ n2_ n3_; (try clear hb); (try clear hb2); (try clear hk); (try clear hi); (try clear ho0); (try clear ho1)) | ((with_reducible refine gate_dst (N := 10) rfl ?_); (try (refine gate_guard (by rfl) ?_; dsimp only)); refine box_event ?hg (N := 10) ?hd (cs := #[.int .i64 0, .int .i64 0, .int .i64 0, .string (⟨#[]⟩ : ByteArray), .int .i64 0, .int .i64 0, .string (⟨#[]⟩ : ByteArray), .int .i64 0, .int .i64 0, .string (⟨#[]⟩ : ByteArray), .int .i64 0, .string (⟨#[]⟩ : ByteArray), .int .i64 0, .int .i64 0, .int .i64 0, .int .i64 0, .int .i64 0, .int .i64 0, .int .i64 0, .string (⟨#[]⟩ : ByteArray), .string (⟨#[]⟩ : ByteArray), .slice none 0 0, .int .i64 0, .string (⟨#[]⟩ : ByteArray), .slice none 0 0]) (t := 25) ?hr ?_; (case hd => rfl); (case hg => rfl); (case hr => first | (go_simp; done) | (go_simp; rfl)); intro gb172 hg w64 hbox hb; have n0_ := Aside0.mk (Kd.R_below (by (with_reducible repeat (first | apply Kd.R_alloc | apply Kd.R_drewN | apply Kd.R_drew)); exact HO164.out) hb); have n1_ := Aside0.mk (Kd.R_below (by (with_reducible repeat (first | apply Kd.R_alloc | apply Kd.R_drewN | apply Kd.R_drew)); exact HO169.out) hb); have n2_ := Aside0.mk (blk_below (g := gb101) (by (with_reducible repeat (first | refine blk_drewN ?_ _ | refine blk_drew ?_ | refine blk_alloc ?_ _)); exact BK101.out) hb); have n3_ := Aside0.mk (below_step (by repeat (first | (with_reducible first | exact HB.out | apply below_alloc | apply pw_below_drewN | apply below_drew1 | refine below_set ?_ GE101.out) | exact HB.out)) hb); have n4_ := Aside0.mk (hbox); have n5_ := Aside0.mk ((by rw [hg]; exact (below_size (by repeat (first | (with_reducible first | exact HB.out | apply below_alloc | apply pw_below_drewN | apply below_drew1 | refine below_set ?_ GE101.out) | exact HB.out))) : w.heap.size ≤ gb172)); have n6_ := Aside0.mk ((by rw [hg]; exact (below_size (by repeat (first | (with_reducible first | exact HB.out | apply below_alloc | apply pw_below_drewN | apply below_drew1 | refine below_set ?_ GE101.out) | exact HB.out))) : w.heap.size ≤ gb172)); have n7_ := Aside0.mk ((by rw [hg]; exact Nat.ne_of_lt (blk_lt (g := gb101) (by (with_reducible repeat (first | refine blk_drewN ?_ _ | refine blk_drew ?_ | refine blk_alloc ?_ _)); exact BK101.out)) : gb101 ≠ gb172)); have n8_ := Aside0.mk ((by rw [hg]; exact Nat.ne_of_gt (blk_lt (g := gb101) (by (with_reducible repeat (first | refine blk_drewN ?_ _ | refine blk_drew ?_ | refine blk_alloc ?_ _)); exact BK101.out)) : gb172 ≠ gb101)); clear HO164; clear HO169; clear BK101; clear HB; have HO164 := n0_; have HO169 := n1_; have BK101 := n2_; have HB := n3_; have BK172 := n4_; have GW172 := n5_; have GE172 := n6_; have NB101_172 := n7_; have NB172_101 := n8_; clear n0_ n1_ n2_ n3_ n4_ n5_ n6_ n7_ n8_; clear hb hbox hg; have hnb65 := NB172_101.out; have hnc65 := NB101_172.out; obtain ⟨hcz66_0, hcz66_1, hcz66_2, hcz66_3, hcz66_4, hcz66_5, hcz66_6, hcz66_7, hcz66_8, hcz66_9, hcz66_10, hcz66_11, hcz66_12, hcz66_13, hcz66_14, hcz66_15, hcz66_16, hcz66_17, hcz66_18, hcz66_19, hcz66_20, hcz66_21, hcz66_22, hcz66_23, hcz66_24, hfz66_0, hfz66_1, hfz66_2, hfz66_3, hfz66_4, hfz66_5, hfz66_6, hfz66_7, hfz66_8, hfz66_9, hfz66_10, hfz66_11, hfz66_12, hfz66_13, hfz66_14, hfz66_15, hfz66_16, hfz66_17, hfz66_18, hfz66_19, hfz66_20, hfz66_21, hfz66_22, hfz66_23, hfz66_24⟩ := cells_25 BK172.out; obtain ⟨Ao67, co67, eo67⟩ := Kd.R_slice HO164.out; subst eo67; obtain ⟨Ao68, co68, eo68⟩ := Kd.R_slice HO169.out; subst eo68) | ((with_reducible refine Go.Proofs.Ytccjakjjaemmkaa.Pre.gate_store 25 rfl ?_); refine Go.Proofs.Ytccjakjjaemmkaa.Pre.store_abs (cur := #[.int .i64 0, .int .i64 0, .int .i64 0, .string (⟨#[]⟩ : ByteArray), .int .i64 0, .int .i64 0, .string (⟨#[]⟩ : ByteArray), .int .i64 0, .int .i64 0, .string (⟨#[]⟩ : ByteArray), .int .i64 0, .string (⟨#[]⟩ : ByteArray), .int .i64 0, .int .i64 0, .int .i64 0, .int .i64 0, .int .i64 0, .int .i64 0, .int .i64 0, .string (⟨#[]⟩ : ByteArray), .string (⟨#[]⟩ : ByteArray), .slice none 0 0, .int .i64 0, .string (⟨#[]⟩ : ByteArray), .slice none 0 0]) (e := 25) rfl rfl rfl (by rfl) (by rfl) (by (with_reducible repeat (first | refine blk_drewN ?_ _ | refine blk_drew ?_ | refine blk_alloc ?_ _)); exact BK172.out) (by kernel_rfl) (by rfl) (by rfl) ?_; intro w69 hbS_ sS_; have n0_ : Aside0 (Kd.R k46 46 w69 w.heap.size (fun _ => True) (.slice Ao67 t162.length co67) t162) := ⟨Kd.R_mono (Go.Proofs.Ytccjakjjaemmkaa.Pre.R_sets sS_ (Kd.R_types HO164.out BK172.out (by decide)) (fun _ hk => hk.2)) (fun _ hk => trivial)⟩; have n1_ : Aside0 (Kd.R k48 48 w69 w.heap.size (fun _ => True) (.slice Ao68 t167.length co68) t167) := ⟨Kd.R_mono (Go.Proofs.Ytccjakjjaemmkaa.Pre.R_sets sS_ (Kd.R_types HO169.out BK172.out (by decide)) (fun _ hk => hk.2)) (fun _ hk => trivial)⟩; have n2_ : Aside0 (w69.heap[gb101]? = some (.cells #[.int .i64 a0_0, .int .i64 a0_1, .int .i64 a0_2, .string a0_3, .int .i64 a0_4, .int .i64 a0_5, .string a0_6, .int .i64 a0_7, .int .i64 a0_8, .string a0_9, .int .i64 a0_10, .string a0_11, .int .i64 a0_12, .int .i64 a0_13, .int .i64 a0_14, .int .i64 a0_15, .int .i64 a0_16, .int .i64 a0_17, .int .i64 a0_18, .string a0_19, .string a0_20, .slice A0_21 l0_21.length c0_21, .int .i64 a0_22, .string a0_23, .slice A0_24 l0_24.length c0_24] 25 (0, 0))) := ⟨sS_.blk (by (with_reducible repeat (first | refine blk_drewN ?_ _ | refine blk_drew ?_ | refine blk_alloc ?_ _)); exact BK101.out) NB101_172.out⟩; have n3_ : Aside0 (w69.heap[gb172]? = some (.cells #[.int .i64 t141, .int .i64 t142, .int .i64 t143, .string t144, .int .i64 t145, .int .i64 t146, .string t147, .int .i64 t148, .int .i64 t149, .string t150, .int .i64 t151, .string t152, .int .i64 t153, .int .i64 t154, .int .i64 t155, .int .i64 t156, .int .i64 t157, .int .i64 t158, .int .i64 t159, .string t160, .string t161, .slice Ao67 t162.length co67, .int .i64 t165, .string t166, .slice Ao68 t167.length co68] 25 (0, 0))) := ⟨hbS_⟩; have n4_ : Aside0 (Below w.heap.size w w69) := ⟨sS_.below (by repeat (first | (with_reducible first | exact HB.out | apply below_alloc | apply pw_below_drewN | apply below_drew1 | refine below_set ?_ GE101.out | refine below_set ?_ GE172.out) | exact HB.out)) GE172.out⟩; clear hbS_ sS_; clear HO164; clear HO169; clear BK101; clear BK172; clear HB; have HO164 := n0_; have HO169 := n1_; have BK101 := n2_; have BK172 := n3_; have HB := n4_; clear n0_ n1_ n2_ n3_ n4_; obtain ⟨hcz70_0, hcz70_1, hcz70_2, hcz70_3, hcz70_4, hcz70_5, hcz70_6, hcz70_7, hcz70_8, hcz70_9, hcz70_10, hcz70_11, hcz70_12, hcz70_13, hcz70_14, hcz70_15, hcz70_16, hcz70_17, hcz70_18, hcz70_19, hcz70_20, hcz70_21, hcz70_22, hcz70_23, hcz70_24, hfz70_0, hfz70_1, hfz70_2, hfz70_3, hfz70_4, hfz70_5, hfz70_6, hfz70_7, hfz70_8, hfz70_9, hfz70_10, hfz70_11, hfz70_12, hfz70_13, hfz70_14, hfz70_15, hfz70_16, hfz70_17, hfz70_18, hfz70_19, hfz70_20, hfz70_21, hfz70_22, hfz70_23, hfz70_24⟩ := cells_25 BK172.out) | ((with_reducible refine gate_callee (f := 18) rfl ?_); refine goesL_ (some 96) rfl rfl Try.func18 (by kernel_rfl) rfl #[.agg #[.int .i64 t141, .int .i64 t142, .int .i64 t143, .string t144, .int .i64 t145, .int .i64 t146, .string t147, .int .i64 t148, .int .i64 t149, .string t150, .int .i64 t151, .string t152, .int .i64 t153, .int .i64 t154, .int .i64 t155, .int .i64 t156, .int .i64 t157, .int .i64 t158, .int .i64 t159, .string t160, .string t161, .slice Ao67 t162.length co67, .int .i64 t165, .string t166, .slice Ao68 t167.length co68]] rfl (by (try simp only [List.map_toArray, List.map_cons, List.map_nil]); first | done | rfl | (simp only [List.length_drop, List.length_take]; rfl)) ?_; (with_reducible refine (rreq_Put.calls kj46 t141 t142 t143 t144 t145 t146 t147 t148 t149 t150 t151 t152 t153 t154 t155 t156 t157 t158 t159 t160 t161 _ _ t162 t165 t166 _ _ t167 t175 true _ ?side1 ?side2 ?side3 ?side4 A56.out).mono ?_); (case side1 => repeat (first | exact (Kd.R_reads' HO164.out).2.2 | (with_reducible refine Kd.C_alloc ?_ _) | (with_reducible refine Kd.C_drewN ?_ _) | (with_reducible refine Kd.C_drew ?_))); (case side2 => exact (Kd.R_reads' HO164.out).2.1); (case side3 => repeat (first | exact (Kd.R_reads' HO169.out).2.2 | (with_reducible refine Kd.C_alloc ?_ _) | (with_reducible refine Kd.C_drewN ?_ _) | (with_reducible refine Kd.C_drew ?_))); (case side4 => exact (Kd.R_reads' HO169.out).2.1); rintro e w71 ⟨rfl, hb⟩; refine ⟨_, rfl, ?_⟩; have n0_ := Aside0.mk (Kd.R_below (by (with_reducible repeat (first | apply Kd.R_alloc | apply Kd.R_drewN | apply Kd.R_drew)); exact HO164.out) hb); have n1_ := Aside0.mk (Kd.R_below (by (with_reducible repeat (first | apply Kd.R_alloc | apply Kd.R_drewN | apply Kd.R_drew)); exact HO169.out) hb); have n2_ := Aside0.mk (blk_below (g := gb101) (by (with_reducible repeat (first | refine blk_drewN ?_ _ | refine blk_drew ?_ | refine blk_alloc ?_ _)); exact BK101.out) hb); have n3_ := Aside0.mk (blk_below (g := gb172) (by (with_reducible repeat (first | refine blk_drewN ?_ _ | refine blk_drew ?_ | refine blk_alloc ?_ _)); exact BK172.out) hb); have n4_ := Aside0.mk (below_step (by repeat (first | (with_reducible first | exact HB.out | apply below_alloc | apply pw_below_drewN | apply below_drew1 | refine below_set ?_ GE101.out | refine below_set ?_ GE172.out) | exact HB.out)) hb); clear HO164; clear HO169; clear BK101; clear BK172; clear HB; have HO164 := n0_; have HO169 := n1_; have BK101 := n2_; have BK172 := n3_; have HB := n4_; clear n0_ n1_ n2_ n3_ n4_; (try clear hb); (try clear hb2); (try clear hk); (try clear hi)) | ((with_reducible refine gate_callee (f := 17) rfl ?_); refine goesL_ (some 99) rfl rfl Try.func17 (by kernel_rfl) rfl #[] rfl (by (try simp only [List.map_toArray, List.map_cons, List.map_nil]); first | done | rfl | (simp only [List.length_drop, List.length_take]; rfl)) ?_; (with_reducible refine (roadbooklaw14_awake.calls kj46  true _ (Aside0.mk (by first | rfl | exact hr_.out)) A57.out).mono ?_); rintro e w72 ⟨rfl, hb⟩; refine ⟨_, rfl, ?_⟩; have n0_ := Aside0.mk (Kd.R_below (by (with_reducible repeat (first | apply Kd.R_alloc | apply Kd.R_drewN | apply Kd.R_drew)); exact HO164.out) hb); have n1_ := Aside0.mk (Kd.R_below (by (with_reducible repeat (first | apply Kd.R_alloc | apply Kd.R_drewN | apply Kd.R_drew)); exact HO169.out) hb); have n2_ := Aside0.mk (blk_below (g := gb101) (by (with_reducible repeat (first | refine blk_drewN ?_ _ | refine blk_drew ?_ | refine blk_alloc ?_ _)); exact BK101.out) hb); have n3_ := Aside0.mk (blk_below (g := gb172) (by (with_reducible repeat (first | refine blk_drewN ?_ _ | refine blk_drew ?_ | refine blk_alloc ?_ _)); exact BK172.out) hb); have n4_ := Aside0.mk (below_step (by repeat (first | (with_reducible first | exact HB.out | apply below_alloc | apply pw_below_drewN | apply below_drew1 | refine below_set ?_ GE101.out | refine below_set ?_ GE172.out) | exact HB.out)) hb); clear HO164; clear HO169; clear BK101; clear BK172; clear HB; have HO164 := n0_; have HO169 := n1_; have BK101 := n2_; have BK172 := n3_; have HB := n4_; clear n0_ n1_ n2_ n3_ n4_; (try clear hb); (try clear hb2); (try clear hk); (try clear hi); obtain ⟨hcz73_0, hcz73_1, hcz73_2, hcz73_3, hcz73_4, hcz73_5, hcz73_6, hcz73_7, hcz73_8, hcz73_9, hcz73_10, hcz73_11, hcz73_12, hcz73_13, hcz73_14, hcz73_15, hcz73_16, hcz73_17, hcz73_18, hcz73_19, hcz73_20, hcz73_21, hcz73_22, hcz73_23, hcz73_24, hfz73_0, hfz73_1, hfz73_2, hfz73_3, hfz73_4, hfz73_5, hfz73_6, hfz73_7, hfz73_8, hfz73_9, hfz73_10, hfz73_11, hfz73_12, hfz73_13, hfz73_14, hfz73_15, hfz73_16, hfz73_17, hfz73_18, hfz73_19, hfz73_20, hfz73_21, hfz73_22, hfz73_23, hfz73_24⟩ := cells_25 BK172.out) | (go_at_call 20; (with_reducible refine (rreq_Right.calls kj46 t141 t142 t143 t144 t145 t146 t147 t148 t149 t150 t151 t152 t153 t154 t155 t156 t157 t158 t159 t160 t161 _ _ t162 t165 t166 _ _ t167 t178 _ ?side1 ?side2 ?side3 ?side4 A62.out).mono ?_); (case side1 => repeat (first | exact (Kd.R_reads' HO164.out).2.2 | (with_reducible refine Kd.C_alloc ?_ _) | (with_reducible refine Kd.C_drewN ?_ _) | (with_reducible refine Kd.C_drew ?_))); (case side2 => exact (Kd.R_reads' HO164.out).2.1); (case side3 => repeat (first | exact (Kd.R_reads' HO169.out).2.2 | (with_reducible refine Kd.C_alloc ?_ _) | (with_reducible refine Kd.C_drewN ?_ _) | (with_reducible refine Kd.C_drew ?_))); (case side4 => exact (Kd.R_reads' HO169.out).2.1); rintro e w74 ⟨rfl, hb⟩; have n0_ := Aside0.mk (Kd.R_below (by (with_reducible repeat (first | apply Kd.R_alloc | apply Kd.R_drewN | apply Kd.R_drew)); exact HO164.out) hb); have n1_ := Aside0.mk (Kd.R_below (by (with_reducible repeat (first | apply Kd.R_alloc | apply Kd.R_drewN | apply Kd.R_drew)); exact HO169.out) hb); have n2_ := Aside0.mk (blk_below (g := gb101) (by (with_reducible repeat (first | refine blk_drewN ?_ _ | refine blk_drew ?_ | refine blk_alloc ?_ _)); exact BK101.out) hb); have n3_ := Aside0.mk (blk_below (g := gb172) (by (with_reducible repeat (first | refine blk_drewN ?_ _ | refine blk_drew ?_ | refine blk_alloc ?_ _)); exact BK172.out) hb); have n4_ := Aside0.mk (below_step (by repeat (first | (with_reducible first | exact HB.out | apply below_alloc | apply pw_below_drewN | apply below_drew1 | refine below_set ?_ GE101.out | refine below_set ?_ GE172.out) | exact HB.out)) hb); clear HO164; clear HO169; clear BK101; clear BK172; clear HB; have HO164 := n0_; have HO169 := n1_; have BK101 := n2_; have BK172 := n3_; have HB := n4_; clear n0_ n1_ n2_ n3_ n4_; (try clear hb); (try clear hb2); (try clear hk); (try clear hi)))
                                  go_ret
                                  exact ⟨by first | rfl | (simp [errW_none, errW_some] <;> rfl) | (simp [*, errW_none, errW_some] <;> rfl), by repeat (first | (with_reducible first | exact HB.out | apply below_alloc | apply pw_below_drewN | apply below_drew1 | refine below_set ?_ GE101.out | refine below_set ?_ GE172.out) | exact HB.out)⟩
                                · rw [if_neg c61] at H
                                  have c61b0 : (t170 == 0) = false := beq_eq_false_iff_ne.mpr c61
                                  have c61b1 : (t170 != 0) = true := bne_iff_ne.mpr c61
                                  exact absurd (Option.some.inj H) (by rw [hr_.out]; exact Bool.false_ne_true)
                              · rw [if_neg c60] at H
                                have c60b0 : (t175.toList == a1.toList) = false := beq_eq_false_iff_ne.mpr c60
                                have c60b1 : (t175.toList != a1.toList) = true := bne_iff_ne.mpr c60
                                exact absurd (Option.some.inj H) (by rw [hr_.out]; exact Bool.false_ne_true)
                            · replace c59 := Bool.eq_false_iff.mpr c59
                              subst c59
                              have H1 : (some false) = some r := by rw [if_neg (show ¬ (false = true) by decide)] at H; exact H
                              clear H
                              have H := H1
                              clear H1
                              exact absurd (Option.some.inj H) (by rw [hr_.out]; exact Bool.false_ne_true)
                          · replace c58 := Bool.eq_false_iff.mpr c58
                            subst c58
                            have H1 : (some false) = some r := by rw [if_neg (show ¬ (false = true) by decide)] at H; exact H
                            clear H
                            have H := H1
                            clear H1
                            exact absurd (Option.some.inj H) (by rw [hr_.out]; exact Bool.false_ne_true)
                        · rw [if_neg c55] at H
                          have c55b0 : (t171 == 0) = false := beq_eq_false_iff_ne.mpr c55
                          have c55b1 : (t171 != 0) = true := bne_iff_ne.mpr c55
                          replace H := Option.bind_eq_some_iff.mp H
                          obtain ⟨t173, A750, H⟩ := H
                          replace H : (if t173 = true then (if t170 ≥ 0 then (if t170 ≤ (a1.size : Int) then ((roadbookref07_Same.f kj46 t141 t142 t143 t144 t145 t146 t147 t148 t149 t150 t151 t152 t153 t154 t155 t156 t157 t158 t159 t160 t161 t162 t165 t166 t167 0 0 0 (⟨#[]⟩ : ByteArray) 0 0 (⟨#[]⟩ : ByteArray) 0 0 (⟨#[]⟩ : ByteArray) 0 (⟨#[]⟩ : ByteArray) 0 0 0 0 0 0 0 (⟨#[]⟩ : ByteArray) (⟨#[]⟩ : ByteArray) ([] : List (S46)) 0 (⟨#[]⟩ : ByteArray) ([] : List (S48))).bind fun t174 => (some t174)) else (some false)) else (some false)) else (some false)) = some r := H
                          have A75 := Aside0.mk A750
                          clear A750
                          by_cases c76 : t173 = true
                          · subst c76
                            have H1 : (if t170 ≥ 0 then (if t170 ≤ (a1.size : Int) then ((roadbookref07_Same.f kj46 t141 t142 t143 t144 t145 t146 t147 t148 t149 t150 t151 t152 t153 t154 t155 t156 t157 t158 t159 t160 t161 t162 t165 t166 t167 0 0 0 (⟨#[]⟩ : ByteArray) 0 0 (⟨#[]⟩ : ByteArray) 0 0 (⟨#[]⟩ : ByteArray) 0 (⟨#[]⟩ : ByteArray) 0 0 0 0 0 0 0 (⟨#[]⟩ : ByteArray) (⟨#[]⟩ : ByteArray) ([] : List (S46)) 0 (⟨#[]⟩ : ByteArray) ([] : List (S48))).bind fun t174 => (some t174)) else (some false)) else (some false)) = some r := by rw [if_pos rfl] at H; exact H
                            clear H
                            have H := H1
                            clear H1
                            by_cases c77 : t170 ≥ 0
                            · rw [if_pos c77] at H
                              have c77b0 : decide (0 ≤ t170) = true := decide_eq_true c77
                              clear c77
                              by_cases c78 : t170 ≤ (a1.size : Int)
                              · rw [if_pos c78] at H
                                have c78b0 : decide (t170 ≤ (a1.size : Int)) = true := decide_eq_true c78
                                clear c78
                                replace H := Option.bind_eq_some_iff.mp H
                                obtain ⟨t174, A790, H⟩ := H
                                replace H : (some t174) = some r := H
                                have A79 := Aside0.mk A790
                                clear A790
                                obtain rfl := Option.some.inj H
                                go_wp2_with (first | ((with_reducible refine Go.Proofs.Ytccjakjjaemmkaa.Pre.gate_load 25 rfl ?_); (try (refine gate_guard (by rfl) ?_; dsimp only)); refine Go.Proofs.Ytccjakjjaemmkaa.Pre.load_event rfl rfl rfl (by rfl) (by first | ((with_reducible repeat (first | refine blk_drewN ?_ _ | refine blk_drew ?_ | refine blk_alloc ?_ _)); (with_reducible first | exact BK101.out | exact BK138.out | exact BK172.out)) | (apply Go.Proofs.Ytccjakjjaemmkaa.Pre.heap_norm; ((with_reducible repeat (first | refine blk_drewN ?_ _ | refine blk_drew ?_ | refine blk_alloc ?_ _ | apply Go.Proofs.Ytccjakjjaemmkaa.Pre.blk_set_)); (with_reducible first | exact BK101.out | exact BK138.out | exact BK172.out)); (first | (simp only [List.setIfInBounds_toArray, List.set_cons_zero, List.set_cons_succ]; done) | (simp only [List.setIfInBounds_toArray, List.set_cons_zero, List.set_cons_succ]; rfl) | rfl))) Try.underlying25 rfl (by kernel_rfl) ?_) | ((with_reducible refine gate_callee (f := 22) rfl ?_); refine goesL_ (some 72) rfl rfl Try.func22 (by kernel_rfl) rfl #[.string a1] rfl (by (try simp only [List.map_toArray, List.map_cons, List.map_nil]); first | done | rfl | (simp only [List.length_drop, List.length_take]; rfl)) ?_; (with_reducible refine (rreq_Get.calls kj46 a1 t141 t142 t143 t144 t145 t146 t147 t148 t149 t150 t151 t152 t153 t154 t155 t156 t157 t158 t159 t160 t161 t162 t165 t166 t167 t170 t171 _ A54.out).mono ?_); rintro e w80 ⟨v163, v168, rfl, ho0, ho1, hb⟩; refine ⟨_, rfl, ?_⟩; have n0_ := Aside0.mk (Kd.R_lower ho0 (below_size (by repeat (first | (with_reducible first | exact HB.out | apply below_alloc | apply pw_below_drewN | apply below_drew1 | refine below_set ?_ GE101.out) | exact HB.out)))); have n1_ := Aside0.mk (Kd.R_lower ho1 (below_size (by repeat (first | (with_reducible first | exact HB.out | apply below_alloc | apply pw_below_drewN | apply below_drew1 | refine below_set ?_ GE101.out) | exact HB.out)))); have n2_ := Aside0.mk (blk_below (g := gb101) (by (with_reducible repeat (first | refine blk_drewN ?_ _ | refine blk_drew ?_ | refine blk_alloc ?_ _)); exact BK101.out) hb); have n3_ := Aside0.mk (below_step (by repeat (first | (with_reducible first | exact HB.out | apply below_alloc | apply pw_below_drewN | apply below_drew1 | refine below_set ?_ GE101.out) | exact HB.out)) hb); clear BK101; clear HB; have HO164 := n0_; have HO169 := n1_; have BK101 := n2_; have HB := n3_; clear n0_ n1_ n2_ n3_; (try clear hb); (try clear hb2); (try clear hk); (try clear hi); (try clear ho0); (try clear ho1)) | ((with_reducible refine gate_dst (N := 10) rfl ?_); (try (refine gate_guard (by rfl) ?_; dsimp only)); refine box_event ?hg (N := 10) ?hd (cs := #[.int .i64 0, .int .i64 0, .int .i64 0, .string (⟨#[]⟩ : ByteArray), .int .i64 0, .int .i64 0, .string (⟨#[]⟩ : ByteArray), .int .i64 0, .int .i64 0, .string (⟨#[]⟩ : ByteArray), .int .i64 0, .string (⟨#[]⟩ : ByteArray), .int .i64 0, .int .i64 0, .int .i64 0, .int .i64 0, .int .i64 0, .int .i64 0, .int .i64 0, .string (⟨#[]⟩ : ByteArray), .string (⟨#[]⟩ : ByteArray), .slice none 0 0, .int .i64 0, .string (⟨#[]⟩ : ByteArray), .slice none 0 0]) (t := 25) ?hr ?_; (case hd => rfl); (case hg => rfl); (case hr => first | (go_simp; done) | (go_simp; rfl)); intro gb172 hg w81 hbox hb; have n0_ := Aside0.mk (Kd.R_below (by (with_reducible repeat (first | apply Kd.R_alloc | apply Kd.R_drewN | apply Kd.R_drew)); exact HO164.out) hb); have n1_ := Aside0.mk (Kd.R_below (by (with_reducible repeat (first | apply Kd.R_alloc | apply Kd.R_drewN | apply Kd.R_drew)); exact HO169.out) hb); have n2_ := Aside0.mk (blk_below (g := gb101) (by (with_reducible repeat (first | refine blk_drewN ?_ _ | refine blk_drew ?_ | refine blk_alloc ?_ _)); exact BK101.out) hb); have n3_ := Aside0.mk (below_step (by repeat (first | (with_reducible first | exact HB.out | apply below_alloc | apply pw_below_drewN | apply below_drew1 | refine below_set ?_ GE101.out) | exact HB.out)) hb); have n4_ := Aside0.mk (hbox); have n5_ := Aside0.mk ((by rw [hg]; exact (below_size (by repeat (first | (with_reducible first | exact HB.out | apply below_alloc | apply pw_below_drewN | apply below_drew1 | refine below_set ?_ GE101.out) | exact HB.out))) : w.heap.size ≤ gb172)); have n6_ := Aside0.mk ((by rw [hg]; exact (below_size (by repeat (first | (with_reducible first | exact HB.out | apply below_alloc | apply pw_below_drewN | apply below_drew1 | refine below_set ?_ GE101.out) | exact HB.out))) : w.heap.size ≤ gb172)); have n7_ := Aside0.mk ((by rw [hg]; exact Nat.ne_of_lt (blk_lt (g := gb101) (by (with_reducible repeat (first | refine blk_drewN ?_ _ | refine blk_drew ?_ | refine blk_alloc ?_ _)); exact BK101.out)) : gb101 ≠ gb172)); have n8_ := Aside0.mk ((by rw [hg]; exact Nat.ne_of_gt (blk_lt (g := gb101) (by (with_reducible repeat (first | refine blk_drewN ?_ _ | refine blk_drew ?_ | refine blk_alloc ?_ _)); exact BK101.out)) : gb172 ≠ gb101)); clear HO164; clear HO169; clear BK101; clear HB; have HO164 := n0_; have HO169 := n1_; have BK101 := n2_; have HB := n3_; have BK172 := n4_; have GW172 := n5_; have GE172 := n6_; have NB101_172 := n7_; have NB172_101 := n8_; clear n0_ n1_ n2_ n3_ n4_ n5_ n6_ n7_ n8_; clear hb hbox hg; have hnb82 := NB172_101.out; have hnc82 := NB101_172.out; obtain ⟨hcz83_0, hcz83_1, hcz83_2, hcz83_3, hcz83_4, hcz83_5, hcz83_6, hcz83_7, hcz83_8, hcz83_9, hcz83_10, hcz83_11, hcz83_12, hcz83_13, hcz83_14, hcz83_15, hcz83_16, hcz83_17, hcz83_18, hcz83_19, hcz83_20, hcz83_21, hcz83_22, hcz83_23, hcz83_24, hfz83_0, hfz83_1, hfz83_2, hfz83_3, hfz83_4, hfz83_5, hfz83_6, hfz83_7, hfz83_8, hfz83_9, hfz83_10, hfz83_11, hfz83_12, hfz83_13, hfz83_14, hfz83_15, hfz83_16, hfz83_17, hfz83_18, hfz83_19, hfz83_20, hfz83_21, hfz83_22, hfz83_23, hfz83_24⟩ := cells_25 BK172.out; obtain ⟨Ao84, co84, eo84⟩ := Kd.R_slice HO164.out; subst eo84; obtain ⟨Ao85, co85, eo85⟩ := Kd.R_slice HO169.out; subst eo85) | ((with_reducible refine Go.Proofs.Ytccjakjjaemmkaa.Pre.gate_store 25 rfl ?_); refine Go.Proofs.Ytccjakjjaemmkaa.Pre.store_abs (cur := #[.int .i64 0, .int .i64 0, .int .i64 0, .string (⟨#[]⟩ : ByteArray), .int .i64 0, .int .i64 0, .string (⟨#[]⟩ : ByteArray), .int .i64 0, .int .i64 0, .string (⟨#[]⟩ : ByteArray), .int .i64 0, .string (⟨#[]⟩ : ByteArray), .int .i64 0, .int .i64 0, .int .i64 0, .int .i64 0, .int .i64 0, .int .i64 0, .int .i64 0, .string (⟨#[]⟩ : ByteArray), .string (⟨#[]⟩ : ByteArray), .slice none 0 0, .int .i64 0, .string (⟨#[]⟩ : ByteArray), .slice none 0 0]) (e := 25) rfl rfl rfl (by rfl) (by rfl) (by (with_reducible repeat (first | refine blk_drewN ?_ _ | refine blk_drew ?_ | refine blk_alloc ?_ _)); exact BK172.out) (by kernel_rfl) (by rfl) (by rfl) ?_; intro w86 hbS_ sS_; have n0_ : Aside0 (Kd.R k46 46 w86 w.heap.size (fun _ => True) (.slice Ao84 t162.length co84) t162) := ⟨Kd.R_mono (Go.Proofs.Ytccjakjjaemmkaa.Pre.R_sets sS_ (Kd.R_types HO164.out BK172.out (by decide)) (fun _ hk => hk.2)) (fun _ hk => trivial)⟩; have n1_ : Aside0 (Kd.R k48 48 w86 w.heap.size (fun _ => True) (.slice Ao85 t167.length co85) t167) := ⟨Kd.R_mono (Go.Proofs.Ytccjakjjaemmkaa.Pre.R_sets sS_ (Kd.R_types HO169.out BK172.out (by decide)) (fun _ hk => hk.2)) (fun _ hk => trivial)⟩; have n2_ : Aside0 (w86.heap[gb101]? = some (.cells #[.int .i64 a0_0, .int .i64 a0_1, .int .i64 a0_2, .string a0_3, .int .i64 a0_4, .int .i64 a0_5, .string a0_6, .int .i64 a0_7, .int .i64 a0_8, .string a0_9, .int .i64 a0_10, .string a0_11, .int .i64 a0_12, .int .i64 a0_13, .int .i64 a0_14, .int .i64 a0_15, .int .i64 a0_16, .int .i64 a0_17, .int .i64 a0_18, .string a0_19, .string a0_20, .slice A0_21 l0_21.length c0_21, .int .i64 a0_22, .string a0_23, .slice A0_24 l0_24.length c0_24] 25 (0, 0))) := ⟨sS_.blk (by (with_reducible repeat (first | refine blk_drewN ?_ _ | refine blk_drew ?_ | refine blk_alloc ?_ _)); exact BK101.out) NB101_172.out⟩; have n3_ : Aside0 (w86.heap[gb172]? = some (.cells #[.int .i64 t141, .int .i64 t142, .int .i64 t143, .string t144, .int .i64 t145, .int .i64 t146, .string t147, .int .i64 t148, .int .i64 t149, .string t150, .int .i64 t151, .string t152, .int .i64 t153, .int .i64 t154, .int .i64 t155, .int .i64 t156, .int .i64 t157, .int .i64 t158, .int .i64 t159, .string t160, .string t161, .slice Ao84 t162.length co84, .int .i64 t165, .string t166, .slice Ao85 t167.length co85] 25 (0, 0))) := ⟨hbS_⟩; have n4_ : Aside0 (Below w.heap.size w w86) := ⟨sS_.below (by repeat (first | (with_reducible first | exact HB.out | apply below_alloc | apply pw_below_drewN | apply below_drew1 | refine below_set ?_ GE101.out | refine below_set ?_ GE172.out) | exact HB.out)) GE172.out⟩; clear hbS_ sS_; clear HO164; clear HO169; clear BK101; clear BK172; clear HB; have HO164 := n0_; have HO169 := n1_; have BK101 := n2_; have BK172 := n3_; have HB := n4_; clear n0_ n1_ n2_ n3_ n4_) | ((with_reducible refine gate_callee (f := 17) rfl ?_); refine goesL_ (some 78) rfl rfl Try.func17 (by kernel_rfl) rfl #[] rfl (by (try simp only [List.map_toArray, List.map_cons, List.map_nil]); first | done | rfl | (simp only [List.length_drop, List.length_take]; rfl)) ?_; (with_reducible refine (roadbooklaw14_awake.calls kj46  true _ (Aside0.mk (by first | rfl | exact hr_.out)) A75.out).mono ?_); rintro e w87 ⟨rfl, hb⟩; refine ⟨_, rfl, ?_⟩; have n0_ := Aside0.mk (Kd.R_below (by (with_reducible repeat (first | apply Kd.R_alloc | apply Kd.R_drewN | apply Kd.R_drew)); exact HO164.out) hb); have n1_ := Aside0.mk (Kd.R_below (by (with_reducible repeat (first | apply Kd.R_alloc | apply Kd.R_drewN | apply Kd.R_drew)); exact HO169.out) hb); have n2_ := Aside0.mk (blk_below (g := gb101) (by (with_reducible repeat (first | refine blk_drewN ?_ _ | refine blk_drew ?_ | refine blk_alloc ?_ _)); exact BK101.out) hb); have n3_ := Aside0.mk (blk_below (g := gb172) (by (with_reducible repeat (first | refine blk_drewN ?_ _ | refine blk_drew ?_ | refine blk_alloc ?_ _)); exact BK172.out) hb); have n4_ := Aside0.mk (below_step (by repeat (first | (with_reducible first | exact HB.out | apply below_alloc | apply pw_below_drewN | apply below_drew1 | refine below_set ?_ GE101.out | refine below_set ?_ GE172.out) | exact HB.out)) hb); clear HO164; clear HO169; clear BK101; clear BK172; clear HB; have HO164 := n0_; have HO169 := n1_; have BK101 := n2_; have BK172 := n3_; have HB := n4_; clear n0_ n1_ n2_ n3_ n4_; (try clear hb); (try clear hb2); (try clear hk); (try clear hi); obtain ⟨hcz88_0, hcz88_1, hcz88_2, hcz88_3, hcz88_4, hcz88_5, hcz88_6, hcz88_7, hcz88_8, hcz88_9, hcz88_10, hcz88_11, hcz88_12, hcz88_13, hcz88_14, hcz88_15, hcz88_16, hcz88_17, hcz88_18, hcz88_19, hcz88_20, hcz88_21, hcz88_22, hcz88_23, hcz88_24, hfz88_0, hfz88_1, hfz88_2, hfz88_3, hfz88_4, hfz88_5, hfz88_6, hfz88_7, hfz88_8, hfz88_9, hfz88_10, hfz88_11, hfz88_12, hfz88_13, hfz88_14, hfz88_15, hfz88_16, hfz88_17, hfz88_18, hfz88_19, hfz88_20, hfz88_21, hfz88_22, hfz88_23, hfz88_24⟩ := cells_25 BK172.out) | (go_at_call 24; (refine (roadbookref07_Same.calls kj46 t141 t142 t143 t144 t145 t146 t147 t148 t149 t150 t151 t152 t153 t154 t155 t156 t157 t158 t159 t160 t161 _ _ t162 t165 t166 _ _ t167 0 0 0 (⟨#[]⟩ : ByteArray) 0 0 (⟨#[]⟩ : ByteArray) 0 0 (⟨#[]⟩ : ByteArray) 0 (⟨#[]⟩ : ByteArray) 0 0 0 0 0 0 0 (⟨#[]⟩ : ByteArray) (⟨#[]⟩ : ByteArray) _ _ ([] : List (S46)) 0 (⟨#[]⟩ : ByteArray) _ _ ([] : List (S48)) t174 _ ?side1 ?side2 ?side3 ?side4 ?side5 ?side6 ?side7 ?side8 A79.out).mono ?_); (case side1 => repeat (first | exact (Kd.R_reads' HO164.out).2.2 | (with_reducible refine Kd.C_alloc ?_ _) | (with_reducible refine Kd.C_drewN ?_ _) | (with_reducible refine Kd.C_drew ?_))); (case side2 => exact (Kd.R_reads' HO164.out).2.1); (case side3 => repeat (first | exact (Kd.R_reads' HO169.out).2.2 | (with_reducible refine Kd.C_alloc ?_ _) | (with_reducible refine Kd.C_drewN ?_ _) | (with_reducible refine Kd.C_drew ?_))); (case side4 => exact (Kd.R_reads' HO169.out).2.1); (case side5 => exact Kd.C_nil _ _); (case side6 => exact Nat.le_refl _); (case side7 => exact Kd.C_nil _ _); (case side8 => exact Nat.le_refl _); rintro e w89 ⟨rfl, hb⟩; have n0_ := Aside0.mk (Kd.R_below (by (with_reducible repeat (first | apply Kd.R_alloc | apply Kd.R_drewN | apply Kd.R_drew)); exact HO164.out) hb); have n1_ := Aside0.mk (Kd.R_below (by (with_reducible repeat (first | apply Kd.R_alloc | apply Kd.R_drewN | apply Kd.R_drew)); exact HO169.out) hb); have n2_ := Aside0.mk (blk_below (g := gb101) (by (with_reducible repeat (first | refine blk_drewN ?_ _ | refine blk_drew ?_ | refine blk_alloc ?_ _)); exact BK101.out) hb); have n3_ := Aside0.mk (blk_below (g := gb172) (by (with_reducible repeat (first | refine blk_drewN ?_ _ | refine blk_drew ?_ | refine blk_alloc ?_ _)); exact BK172.out) hb); have n4_ := Aside0.mk (below_step (by repeat (first | (with_reducible first | exact HB.out | apply below_alloc | apply pw_below_drewN | apply below_drew1 | refine below_set ?_ GE101.out | refine below_set ?_ GE172.out) | exact HB.out)) hb); clear HO164; clear HO169; clear BK101; clear BK172; clear HB; have HO164 := n0_; have HO169 := n1_; have BK101 := n2_; have BK172 := n3_; have HB := n4_; clear n0_ n1_ n2_ n3_ n4_; (try clear hb); (try clear hb2); (try clear hk); (try clear hi)))
                                go_ret
                                exact ⟨by first | rfl | (simp [errW_none, errW_some] <;> rfl) | (simp [*, errW_none, errW_some] <;> rfl), by repeat (first | (with_reducible first | exact HB.out | apply below_alloc | apply pw_below_drewN | apply below_drew1 | refine below_set ?_ GE101.out | refine below_set ?_ GE172.out) | exact HB.out)⟩
                              · rw [if_neg c78] at H
                                have c78b0 : decide (t170 ≤ (a1.size : Int)) = false := decide_eq_false c78
                                clear c78
                                exact absurd (Option.some.inj H) (by rw [hr_.out]; exact Bool.false_ne_true)
                            · rw [if_neg c77] at H
                              have c77b0 : decide (0 ≤ t170) = false := decide_eq_false c77
                              clear c77
                              exact absurd (Option.some.inj H) (by rw [hr_.out]; exact Bool.false_ne_true)
                          · replace c76 := Bool.eq_false_iff.mpr c76
                            subst c76
                            have H1 : (some false) = some r := by rw [if_neg (show ¬ (false = true) by decide)] at H; exact H
                            clear H
                            have H := H1
                            clear H1
                            exact absurd (Option.some.inj H) (by rw [hr_.out]; exact Bool.false_ne_true)

end Go.Proofs.Ytccjakjjaemmkaa.PR
