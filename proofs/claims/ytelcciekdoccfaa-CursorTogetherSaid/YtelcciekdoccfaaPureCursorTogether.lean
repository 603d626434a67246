/-
What is taken one behind the other is taken together; for any text of at most 300 bytes and any two sizes.
-/
import Derived.Test.YtelcciekdoccfaaPCursorTogetherx
import Derived.Test.YtelcciekdoccfaaBase
namespace Go.Proofs.Ytelcciekdoccfaa.Pure
open Go.RowKit Go.Proofs.Ytelcciekdoccfaa.PCursorTogether Go.Proofs.YtelcciekdoccfaaW.PrintWords Go.Proofs.YtelcciekdoccfaaW.PrintLast Go.Proofs.YtelcciekdoccfaaW.PrintMore Go.Proofs.Ytelcciekdoccfaa.Base
set_option linter.unusedVariables false
set_option linter.unusedSimpArgs false

/-- Are there so many bytes ahead of a cursor's end? -/
def has (a e : Int) (b : Bool) (n : Int) : Bool := !b && decide (0 ≤ n ∧ n ≤ e - a)
theorem has_iff {a e : Int} {b : Bool} {n : Int} : has a e b n = true ↔ (b = false ∧ 0 ≤ n ∧ n ≤ e - a) := by simp [has]
theorem step_f (s : ByteArray) (a e : Int) (b : Bool) (n : Int) (h0 : 0 ≤ a) (h1 : a ≤ e) (h2 : e ≤ 1000000) :
    cursor_step.f s a e b n = some (if has a e b n = true then (s, a + n, e, b, true) else (s, a, e, true, false)) := by
  unfold cursor_step.f
  rw [wrap64_id (x := e - a) (by omega) (by omega)]
  cases b with
  | true => simp [has]
  | false =>
    rw [if_neg (by decide)]
    by_cases c : n < 0
    · rw [if_pos c, if_neg (by rw [has_iff]; omega)]
    · rw [if_neg c]
      by_cases d : n > e - a
      · rw [if_pos d, if_neg (by rw [has_iff]; omega)]
      · rw [if_neg d, if_pos (has_iff.mpr ⟨rfl, by omega, by omega⟩), wrap64_id (by omega) (by omega)]
theorem text_f (s : ByteArray) (a e : Int) (b : Bool) (n : Int) (h0 : 0 ≤ a) (h1 : a ≤ e) (h2 : e ≤ s.size) (hs : s.size ≤ 1000000) :
    cursor_Text.f s a e b n = some (if has a e b n = true then (s.extract a.toNat (a + n).toNat, s, a + n, e, b) else ((⟨#[]⟩ : ByteArray), s, a, e, true)) := by
  unfold cursor_Text.f
  rw [step_f s a e b n h0 h1 (by omega), Option.bind_some]
  by_cases c : has a e b n = true
  · have c' := has_iff.mp c
    rw [if_pos c, if_pos c]
    dsimp only
    rw [if_pos rfl, if_pos h0, if_pos (by omega), if_pos (by omega)]
  · rw [if_neg c, if_neg c]
    dsimp only
    rw [if_neg (by decide)]

theorem awake_f : roadbooklaw01_awake.f = some true := by decide +kernel

theorem CursorTogether : roadbooklaw01_CursorTogether.Pure := by
  intro s a b _ ha hb
  have ha := wf_u8 ha
  have hb := wf_u8 hb
  unfold roadbooklaw01_CursorTogether.f
  rw [awake_f]
  by_cases h : (s.size : Int) > 300
  · rw [if_pos h]; rfl
  · rw [if_neg h, wrap64_id (x := a) (by omega) (by omega), wrap64_id (x := b) (by omega) (by omega), wrap64_id (x := a + b) (by omega) (by omega)]
    unfold cursor_New.f
    rw [Option.bind_some]
    dsimp only
    rw [text_f s 0 s.size false a (by omega) (by omega) (by omega) (by omega), Option.bind_some]
    by_cases c : has 0 s.size false a = true
    · have c' := has_iff.mp c
      rw [if_pos c]
      dsimp only
      rw [text_f s (0 + a) s.size false b (by omega) (by omega) (by omega) (by omega), Option.bind_some, Option.bind_some]
      dsimp only
      rw [text_f s 0 s.size false (a + b) (by omega) (by omega) (by omega) (by omega), Option.bind_some]
      by_cases d : a + b > (s.size : Int)
      · have e1 : ¬ has (0 + a) s.size false b = true := by rw [has_iff]; omega
        have e2 : ¬ has 0 s.size false (a + b) = true := by rw [has_iff]; omega
        rw [if_pos d, if_neg e1, if_neg e2]
        rfl
      · have e1 : has (0 + a) s.size false b = true := has_iff.mpr ⟨rfl, by omega, by omega⟩
        have e2 : has 0 s.size false (a + b) = true := has_iff.mpr ⟨rfl, by omega, by omega⟩
        rw [if_neg d, if_pos e1, if_pos e2]
        dsimp only
        rw [Option.bind_some, if_pos rfl, if_pos (by rw [size_ext, size_ext]; omega)]
        have e3 : s.extract (0 : Int).toNat (0 + a).toNat ++ s.extract (0 + a).toNat (0 + a + b).toNat = s.extract (0 : Int).toNat (0 + (a + b)).toNat := by
          refine ext_bt (by rw [size_app, size_ext, size_ext, size_ext]; omega) fun i hi => ?_
          rw [size_app, size_ext, size_ext] at hi
          have z1 : (0 : Int).toNat = 0 := rfl
          have z2 : (0 + a).toNat = a.toNat := by omega
          have z3 : (0 + a + b).toNat = (a + b).toNat := by omega
          have z4 : (0 + (a + b)).toNat = (a + b).toNat := by omega
          rw [z1, z2, z3] at hi
          rw [z1, z2, z3, z4, bt_app _ _ _ (by omega), size_ext]
          by_cases q : i < a.toNat
          · rw [if_pos (by omega), bt_ext _ _ _ _ (by omega), bt_ext _ _ _ _ (by omega), if_pos (by omega), if_pos (by omega)]
          · rw [if_neg (by omega), bt_ext _ _ _ _ (by omega), bt_ext _ _ _ _ (by omega), if_pos (by omega), if_pos (by omega)]
            congr 1; omega
        rw [e3, if_pos rfl, if_pos]
        · unfold cursor_Left.f
          rw [if_neg (by decide), Option.bind_some, size_ext, wrap64_id (by omega) (by omega), wrap64_id (by omega) (by omega)]
          congr 1
          rw [beq_iff_eq]; omega
        · simp only [beq_self_eq_true, Bool.true_and, Bool.and_true, beq_iff_eq]; omega
    · have c' : a > s.size := by
        have : ¬ (0 ≤ a ∧ a ≤ (s.size : Int) - 0) := fun q => c (has_iff.mpr ⟨rfl, q.1, q.2⟩)
        omega
      rw [if_neg c]
      dsimp only
      rw [text_f s 0 s.size true b (by omega) (by omega) (by omega) (by omega), Option.bind_some, Option.bind_some]
      dsimp only
      rw [text_f s 0 s.size false (a + b) (by omega) (by omega) (by omega) (by omega), Option.bind_some]
      have n1 : ¬ has 0 s.size true b = true := by simp [has]
      have n2 : ¬ has 0 s.size false (a + b) = true := fun q => by have := has_iff.mp q; omega
      rw [if_pos (by omega), if_neg n1, if_neg n2]
      rfl

end Go.Proofs.Ytelcciekdoccfaa.Pure
