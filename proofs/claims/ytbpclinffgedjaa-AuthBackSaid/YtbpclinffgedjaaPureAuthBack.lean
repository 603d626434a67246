/-
What is said is got, and an entry is the one that says so; for any string.
-/
import Derived.Test.YtbpclinffgedjaaPAuthBackx
import Derived.Test.YtbpclinffgedjaaBase
namespace Go.Proofs.Ytbpclinffgedjaa.Pure
open Go.RowKit Go.Proofs.Ytbpclinffgedjaa.PAuthBack Go.Proofs.YtbpclinffgedjaaW.PrintWords Go.Proofs.YtbpclinffgedjaaW.PrintLast Go.Proofs.YtbpclinffgedjaaW.PrintMore Go.Proofs.Ytbpclinffgedjaa.Base
set_option linter.unusedVariables false
set_option linter.unusedSimpArgs false

/-- What auth.Get and the reference's Get both answer. -/
def says (s : ByteArray) : ByteArray × Bool := if s.size = 20 ∧ bt s 0 = 255 ∧ bt s 1 = 255 then (s.extract 2 s.size, true) else (⟨#[]⟩, false)

theorem two_iff (s : ByteArray) (h : 2 ≤ s.size) : (s.extract 0 2 = (⟨#[255, 255]⟩ : ByteArray)) ↔ (bt s 0 = 255 ∧ bt s 1 = 255) := by
  have e0 : bt (s.extract 0 2) 0 = bt s 0 := by rw [bt_ext _ _ _ _ (by omega), if_pos (by omega)]; simp
  have e1 : bt (s.extract 0 2) 1 = bt s 1 := by rw [bt_ext _ _ _ _ (by omega), if_pos (by omega)]; simp
  constructor
  · intro h2
    rw [← e0, ← e1, h2]
    exact ⟨by decide, by decide⟩
  · rintro ⟨h0, h1⟩
    refine ext_bt (by rw [size_ext, show (⟨#[255, 255]⟩ : ByteArray).size = 2 from rfl]; omega) fun i hi => ?_
    rw [size_ext] at hi
    have : i = 0 ∨ i = 1 := by omega
    rcases this with rfl | rfl
    · show bt _ 0 = _; rw [e0, h0]; decide
    · show bt _ 1 = _; rw [e1, h1]; decide

theorem prefix_f (s : ByteArray) : stringslite_HasPrefix.f s (⟨#[255, 255]⟩ : ByteArray) = some (decide (2 ≤ s.size ∧ bt s 0 = 255 ∧ bt s 1 = 255)) := by
  unfold stringslite_HasPrefix.f
  have e : ((⟨#[255, 255]⟩ : ByteArray).size : Int) = 2 := rfl
  rw [e]
  by_cases h : 2 ≤ s.size
  · rw [if_pos (by omega), if_pos (by omega), if_pos (by omega)]
    congr 1
    rw [Bool.eq_iff_iff, beq_iff_eq, decide_eq_true_iff, toList_inj]
    show s.extract 0 2 = _ ↔ _
    rw [two_iff s h]
    exact ⟨fun ⟨a, b⟩ => ⟨h, a, b⟩, fun ⟨_, a, b⟩ => ⟨a, b⟩⟩
  · rw [if_neg (by omega), decide_eq_false (by omega)]

theorem get_f (s : ByteArray) : auth_Get.f s = some (says s) := by
  unfold auth_Get.f strings_CutPrefix.f stringslite_CutPrefix.f
  rw [prefix_f]
  have e : ((⟨#[255, 255]⟩ : ByteArray).size : Int) = 2 := rfl
  rw [e]
  simp only [Option.bind_some, decide_eq_true_eq]
  unfold says
  by_cases h : 2 ≤ s.size ∧ bt s 0 = 255 ∧ bt s 1 = 255
  · rw [if_pos h, if_pos (by omega), if_pos (by omega)]
    simp only [Option.bind_some, if_true]
    have e2 : ((s.extract ((2 : Int)).toNat s.size).size : Int) = s.size - 2 := by rw [size_ext]; simp; omega
    rw [e2]
    by_cases h2 : s.size = 20
    · rw [if_pos (by omega), if_pos ⟨h2, h.2⟩]; rfl
    · rw [if_neg (by omega), if_neg (fun c => h2 c.1)]
  · rw [if_neg h]
    simp only [Option.bind_some, Bool.false_eq_true, if_false]
    rw [if_neg (by intro c; exact h ⟨by omega, c.2⟩)]

theorem awake_f : roadbooklaw09_awake.f = some true := by
  unfold roadbooklaw09_awake.f auth_Put.f auth_Is.f
  simp only [get_f]
  decide +kernel

def puts (s : ByteArray) : ByteArray × Bool := if s.size = 18 then ((⟨#[255, 255]⟩ : ByteArray) ++ s, true) else (⟨#[]⟩, false)

theorem put_f (s : ByteArray) : auth_Put.f s = some (puts s) := by
  unfold auth_Put.f puts
  by_cases h : s.size = 18
  · rw [if_pos (by omega), if_pos (by omega), if_pos h]
  · rw [if_neg (by omega), if_neg h]

theorem says_put (s : ByteArray) (h : s.size = 18) : says ((⟨#[255, 255]⟩ : ByteArray) ++ s) = (s, true) := by
  have e : (⟨#[255, 255]⟩ : ByteArray).size = 2 := rfl
  have e0 : bt ((⟨#[255, 255]⟩ : ByteArray) ++ s) 0 = 255 := by rw [bt_app _ _ _ (by omega), if_pos (by rw [e]; decide)]; decide
  have e1 : bt ((⟨#[255, 255]⟩ : ByteArray) ++ s) 1 = 255 := by rw [bt_app _ _ _ (by omega), if_pos (by rw [e]; decide)]; decide
  unfold says
  rw [if_pos ⟨by rw [size_app, e, h], e0, e1⟩]
  congr 1
  refine ext_bt (by rw [size_ext, size_app, e]; omega) fun i hi => ?_
  rw [size_ext, size_app, e] at hi
  rw [bt_ext _ _ _ _ (by omega), if_pos (by rw [size_app, e]; omega), bt_app _ _ _ (by omega), if_neg (by rw [e]; omega), e]
  congr 1; omega

theorem put_says (s : ByteArray) (h : (says s).2 = true) : puts (says s).1 = (s, true) := by
  unfold says at h ⊢
  by_cases c : s.size = 20 ∧ bt s 0 = 255 ∧ bt s 1 = 255
  · rw [if_pos c]
    have e : (⟨#[255, 255]⟩ : ByteArray).size = 2 := rfl
    unfold puts
    rw [if_pos (by rw [size_ext]; omega)]
    congr 1
    refine ext_bt (by rw [size_app, size_ext, e]; omega) fun i hi => ?_
    rw [size_app, size_ext, e] at hi
    rw [bt_app _ _ _ (by omega), e]
    by_cases hi2 : i < 2
    · rw [if_pos (by omega)]
      have : i = 0 ∨ i = 1 := by omega
      rcases this with rfl | rfl
      · show _ = bt s 0; rw [c.2.1]; decide
      · show _ = bt s 1; rw [c.2.2]; decide
    · rw [if_neg (by omega), bt_ext _ _ _ _ (by omega), if_pos (by omega)]
      congr 1; omega
  · rw [if_neg c] at h; cases h

theorem AuthBack : roadbooklaw09_AuthBack.Pure := by
  intro s hs
  unfold roadbooklaw09_AuthBack.f auth_Is.f
  rw [awake_f]
  by_cases h : (s.size : Int) > 100
  · rw [if_pos h]; rfl
  · rw [if_neg h]
    simp only [get_f, put_f, Option.bind_some]
    by_cases h1 : s.size = 18
    · have e : puts s = ((⟨#[255, 255]⟩ : ByteArray) ++ s, true) := by unfold puts; rw [if_pos h1]
      rw [e]
      simp only [says_put s h1]
      by_cases h2 : (says s).2 = true
      · simp [h1, h2, put_says s h2]
      · simp [h1, h2]
    · have e : puts s = ((⟨#[]⟩ : ByteArray), false) := by unfold puts; rw [if_neg h1]
      have e2 : says (⟨#[]⟩ : ByteArray) = (⟨#[]⟩, false) := by unfold says; rw [if_neg (by intro c; exact absurd c.1 (by decide))]
      rw [e]
      simp only [e2]
      have h1' : ¬ ((s.size : Int) = 18) := by omega
      by_cases h2 : (says s).2 = true
      · simp [h1', h2, put_says s h2]
      · simp [h1', h2]

end Go.Proofs.Ytbpclinffgedjaa.Pure
