/-
Whether any bytes of at most 100 are an entry of authentication, what it says, and the entry that says so, are the reference's; for any string.
-/
import Derived.Test.YtbpclinffgedjaaPAuthTellsx
import Derived.Test.YtbpclinffgedjaaBase
namespace Go.Proofs.Ytbpclinffgedjaa.Pure
open Go.RowKit Go.Proofs.Ytbpclinffgedjaa.PAuthTells Go.Proofs.YtbpclinffgedjaaW.PrintWords Go.Proofs.YtbpclinffgedjaaW.PrintLast Go.Proofs.YtbpclinffgedjaaW.PrintMore Go.Proofs.Ytbpclinffgedjaa.Base
set_option linter.unusedVariables false
set_option linter.unusedSimpArgs false

/-- What auth.Get and the reference's Get both answer. -/
def says (s : ByteArray) : ByteArray × Bool := if s.size = 20 ∧ bt s 0 = 255 ∧ bt s 1 = 255 then (s.extract 2 s.size, true) else (⟨#[]⟩, false)

theorem two_iff (s : ByteArray) (h : 2 ≤ s.size) : (s.extract 0 2 = (⟨#[255, 255]⟩ : ByteArray)) ↔ (bt s 0 = 255 ∧ bt s 1 = 255) := by
  have e0 : bt (s.extract 0 2) 0 = bt s 0 := by rw [bt_ext _ _ _ _ (by omega), if_pos (by omega)]; simp
  have e1 : bt (s.extract 0 2) 1 = bt s 1 := by rw [bt_ext _ _ _ _ (by omega), if_pos (by omega)]; simp
  constructor
  · intro h2
    rw [← e0, ← e1, h2]
    exact ⟨by decide, by decide⟩
  · rintro ⟨h0, h1⟩
    refine ext_bt (by rw [size_ext, show (⟨#[255, 255]⟩ : ByteArray).size = 2 from rfl]; omega) fun i hi => ?_
    rw [size_ext] at hi
    have : i = 0 ∨ i = 1 := by omega
    rcases this with rfl | rfl
    · show bt _ 0 = _; rw [e0, h0]; decide
    · show bt _ 1 = _; rw [e1, h1]; decide

theorem prefix_f (s : ByteArray) : stringslite_HasPrefix.f s (⟨#[255, 255]⟩ : ByteArray) = some (decide (2 ≤ s.size ∧ bt s 0 = 255 ∧ bt s 1 = 255)) := by
  unfold stringslite_HasPrefix.f
  have e : ((⟨#[255, 255]⟩ : ByteArray).size : Int) = 2 := rfl
  rw [e]
  by_cases h : 2 ≤ s.size
  · rw [if_pos (by omega), if_pos (by omega), if_pos (by omega)]
    congr 1
    rw [Bool.eq_iff_iff, beq_iff_eq, decide_eq_true_iff, toList_inj]
    show s.extract 0 2 = _ ↔ _
    rw [two_iff s h]
    exact ⟨fun ⟨a, b⟩ => ⟨h, a, b⟩, fun ⟨_, a, b⟩ => ⟨a, b⟩⟩
  · rw [if_neg (by omega), decide_eq_false (by omega)]

theorem get_f (s : ByteArray) : auth_Get.f s = some (says s) := by
  unfold auth_Get.f strings_CutPrefix.f stringslite_CutPrefix.f
  rw [prefix_f]
  have e : ((⟨#[255, 255]⟩ : ByteArray).size : Int) = 2 := rfl
  rw [e]
  simp only [Option.bind_some, decide_eq_true_eq]
  unfold says
  by_cases h : 2 ≤ s.size ∧ bt s 0 = 255 ∧ bt s 1 = 255
  · rw [if_pos h, if_pos (by omega), if_pos (by omega)]
    simp only [Option.bind_some, if_true]
    have e2 : ((s.extract ((2 : Int)).toNat s.size).size : Int) = s.size - 2 := by rw [size_ext]; simp; omega
    rw [e2]
    by_cases h2 : s.size = 20
    · rw [if_pos (by omega), if_pos ⟨h2, h.2⟩]; rfl
    · rw [if_neg (by omega), if_neg (fun c => h2 c.1)]
  · rw [if_neg h]
    simp only [Option.bind_some, Bool.false_eq_true, if_false]
    rw [if_neg (by intro c; exact h ⟨by omega, c.2⟩)]

theorem awake_f : roadbooklaw09_awake.f = some true := by
  unfold roadbooklaw09_awake.f auth_Put.f auth_Is.f
  simp only [get_f]
  decide +kernel

theorem ref_f (s : ByteArray) : roadbookref09_Is.f s = some (says s).2 ∧ roadbookref09_Get.f s = some (says s) := by
  have hi : roadbookref09_Is.f s = some (says s).2 := by
    unfold roadbookref09_Is.f says
    by_cases h : s.size = 20
    · rw [if_pos (by omega), if_pos (by omega)]
      by_cases h0 : bt s 0 = 255
      · rw [if_pos h0, if_pos (by omega)]
        by_cases h1 : bt s 1 = 255
        · rw [if_pos ⟨h, h0, h1⟩, h1]; rfl
        · rw [if_neg (fun c => h1 c.2.2)]; simp [h1]
      · rw [if_neg h0, if_neg (fun c => h0 c.2.1)]
    · rw [if_neg (by omega), if_neg (fun c => h c.1)]
  refine ⟨hi, ?_⟩
  unfold roadbookref09_Get.f
  rw [hi]
  unfold says
  by_cases h : s.size = 20 ∧ bt s 0 = 255 ∧ bt s 1 = 255
  · rw [if_pos h]; simp only [Option.bind_some, if_true]; rw [if_pos (by omega)]
  · rw [if_neg h]; simp

theorem AuthTells : roadbooklaw09_AuthTells.Pure := by
  intro s hs
  unfold roadbooklaw09_AuthTells.f
  rw [awake_f]
  by_cases h : (s.size : Int) > 100
  · rw [if_pos h]; rfl
  · rw [if_neg h, get_f, (ref_f s).2, (ref_f s).1]
    have hp : ∃ r, auth_Put.f s = some r ∧ roadbookref09_Put.f s = some r := by
      unfold auth_Put.f roadbookref09_Put.f
      by_cases h1 : (s.size : Int) = 18
      · rw [if_pos h1, if_pos (by omega)]; exact ⟨_, rfl, rfl⟩
      · rw [if_neg h1]; exact ⟨_, rfl, rfl⟩
    obtain ⟨r, h1, h2⟩ := hp
    rw [h1, h2]
    unfold auth_Is.f
    rw [get_f]
    simp

end Go.Proofs.Ytbpclinffgedjaa.Pure
