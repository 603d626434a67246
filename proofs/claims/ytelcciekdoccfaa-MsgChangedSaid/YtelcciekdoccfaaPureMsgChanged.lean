/-
A message is the same as itself; with any one field changed it isn't; for messages of few parts, of few bytes.
-/
import Derived.Test.YtelcciekdoccfaaQMsgChanged
import Derived.Test.YtelcciekdoccfaaBase
namespace Go.Proofs.Ytelcciekdoccfaa.Pure
open Go.RowKit Go.Proofs.Ytelcciekdoccfaa.PM Go.Proofs.YtelcciekdoccfaaW.PrintWords Go.Proofs.YtelcciekdoccfaaW.PrintLast Go.Proofs.YtelcciekdoccfaaW.PrintMore Go.Proofs.Ytelcciekdoccfaa.Base
set_option linter.unusedVariables false
set_option linter.unusedSimpArgs false

theorem msgawake_f (k : Nat) (hk : 60 ≤ k) : roadbooklaw07_awake.f k = some true := at_rounds (g := fun k => roadbooklaw07_awake.f k) (fun k => roadbooklaw07_awake.mono k) hk (by decide +kernel)

theorem rd_mem_63 {l : List S63} {P : S63 → Prop} (h : ∀ j : Nat, j < l.length → P (rd_T63 l (j : Int))) : ∀ x ∈ l, P x := by
  intro x hx
  obtain ⟨j, hj, rfl⟩ := List.getElem_of_mem hx
  have := h j hj
  unfold rd_T63 at this
  rwa [Int.toNat_natCast, List.getD_eq_getElem?_getD, List.getElem?_eq_getElem hj] at this
theorem rd_mem_61 {l : List S61} {P : S61 → Prop} (h : ∀ j : Nat, j < l.length → P (rd_T61 l (j : Int))) : ∀ x ∈ l, P x := by
  intro x hx
  obtain ⟨j, hj, rfl⟩ := List.getElem_of_mem hx
  have := h j hj
  unfold rd_T61 at this
  rwa [Int.toNat_natCast, List.getD_eq_getElem?_getD, List.getElem?_eq_getElem hj] at this

theorem few_l1 (a0 : Int) (a1 : Int) (a2 : Int) (a3 : ByteArray) (a4 : Int) (a5 : Int) (a6 : ByteArray) (a7 : Int) (a8 : Int) (a9 : ByteArray) (a10 : Int) (a11 : ByteArray) (a12 : Int) (a13 : Int) (a14 : Int) (a15 : Int) (a16 : Int) (a17 : Int) (a18 : Int) (a19 : ByteArray) (a20 : ByteArray) (a21 : List S61) (a22 : Int) (a23 : ByteArray) (a24 : List S63) (hl : a24.length ≤ 1000000) (m : Nat) : ∀ (k i : Nat), m < k → a24.length - i = m → ∃ b, roadbookref07_Few.l1 k i a0 a1 a2 a3 a4 a5 a6 a7 a8 a9 a10 a11 a12 a13 a14 a15 a16 a17 a18 a19 a20 a21 a22 a23 a24 = some b ∧ (b = true → ∀ j : Nat, i ≤ j → j < a24.length → ((rd_T63 a24 (j : Int)).f1).size ≤ 300) := by
  induction m with
  | zero =>
    intro k i hk hm
    obtain ⟨k, rfl⟩ : ∃ j, k = j + 1 := ⟨k - 1, by omega⟩
    simp only [roadbookref07_Few.l1]
    rw [if_neg (by omega)]
    exact ⟨true, rfl, fun _ j h1 h2 => by omega⟩
  | succ m ih =>
    intro k i hk hm
    obtain ⟨k, rfl⟩ : ∃ j, k = j + 1 := ⟨k - 1, by omega⟩
    simp only [roadbookref07_Few.l1]
    rw [if_pos (by omega), if_pos (by omega)]
    by_cases c : (((rd_T63 a24 (i : Int)).f1).size : Int) > 300
    · rw [if_pos c]; exact ⟨false, rfl, fun h => (by cases h)⟩
    · rw [if_neg c, wrap64_id (by omega) (by omega)]
      obtain ⟨b, e, hb⟩ := ih k (i + 1) (by omega) (by omega)
      refine ⟨b, e, fun h j h1 h2 => ?_⟩
      by_cases d : j = i
      · rw [d]; omega
      · exact hb h j (by omega) h2
theorem few_l0 (a0 : Int) (a1 : Int) (a2 : Int) (a3 : ByteArray) (a4 : Int) (a5 : Int) (a6 : ByteArray) (a7 : Int) (a8 : Int) (a9 : ByteArray) (a10 : Int) (a11 : ByteArray) (a12 : Int) (a13 : Int) (a14 : Int) (a15 : Int) (a16 : Int) (a17 : Int) (a18 : Int) (a19 : ByteArray) (a20 : ByteArray) (a21 : List S61) (a22 : Int) (a23 : ByteArray) (a24 : List S63) (hd : a21.length ≤ 1000000) (hl : a24.length ≤ 1000000) (m : Nat) : ∀ (k i : Nat), m + a24.length + 1 < k → a21.length - i = m → ∃ b, roadbookref07_Few.l0 k i a0 a1 a2 a3 a4 a5 a6 a7 a8 a9 a10 a11 a12 a13 a14 a15 a16 a17 a18 a19 a20 a21 a22 a23 a24 = some b ∧ (b = true → (∀ j : Nat, i ≤ j → j < a21.length → ((rd_T61 a21 (j : Int)).f0).size ≤ 50) ∧ ∀ j : Nat, j < a24.length → ((rd_T63 a24 (j : Int)).f1).size ≤ 300) := by
  induction m with
  | zero =>
    intro k i hk hm
    obtain ⟨k, rfl⟩ : ∃ j, k = j + 1 := ⟨k - 1, by omega⟩
    simp only [roadbookref07_Few.l0]
    rw [if_neg (by omega)]
    obtain ⟨b, e, hb⟩ := few_l1 a0 a1 a2 a3 a4 a5 a6 a7 a8 a9 a10 a11 a12 a13 a14 a15 a16 a17 a18 a19 a20 a21 a22 a23 a24 hl a24.length k 0 (by omega) (by omega)
    exact ⟨b, e, fun h => ⟨fun j h1 h2 => by omega, fun j h2 => hb h j (by omega) h2⟩⟩
  | succ m ih =>
    intro k i hk hm
    obtain ⟨k, rfl⟩ : ∃ j, k = j + 1 := ⟨k - 1, by omega⟩
    simp only [roadbookref07_Few.l0]
    rw [if_pos (by omega), if_pos (by omega)]
    by_cases c : (((rd_T61 a21 (i : Int)).f0).size : Int) > 50
    · rw [if_pos c]; exact ⟨false, rfl, fun h => (by cases h)⟩
    · rw [if_neg c, wrap64_id (by omega) (by omega)]
      obtain ⟨b, e, hb⟩ := ih k (i + 1) (by omega) (by omega)
      refine ⟨b, e, fun h => ⟨fun j h1 h2 => ?_, (hb h).2⟩⟩
      by_cases d : j = i
      · rw [d]; omega
      · exact (hb h).1 j (by omega) h2
/-- Few tells something, and where it says yes the parts are few and small. -/
theorem few_f (a0 : Int) (a1 : Int) (a2 : Int) (a3 : ByteArray) (a4 : Int) (a5 : Int) (a6 : ByteArray) (a7 : Int) (a8 : Int) (a9 : ByteArray) (a10 : Int) (a11 : ByteArray) (a12 : Int) (a13 : Int) (a14 : Int) (a15 : Int) (a16 : Int) (a17 : Int) (a18 : Int) (a19 : ByteArray) (a20 : ByteArray) (a21 : List S61) (a22 : Int) (a23 : ByteArray) (a24 : List S63) (h3 : a3.size ≤ 140737488351232) (h6 : a6.size ≤ 140737488351232) (h9 : a9.size ≤ 140737488351232) (h11 : a11.size ≤ 140737488351232) (h19 : a19.size ≤ 140737488351232) (h20 : a20.size ≤ 140737488351232) (k : Nat) (hk : 400 ≤ k) :
    ∃ b, roadbookref07_Few.f k a0 a1 a2 a3 a4 a5 a6 a7 a8 a9 a10 a11 a12 a13 a14 a15 a16 a17 a18 a19 a20 a21 a22 a23 a24 = some b ∧ (b = true → a21.length ≤ 300 ∧ a24.length ≤ 60 ∧ a3.size + a6.size ≤ 200 ∧ a9.size + a11.size ≤ 200 ∧ a19.size + a20.size ≤ 200 ∧ a23.size ≤ 300 ∧ (∀ x ∈ a21, x.f0.size ≤ 50) ∧ ∀ x ∈ a24, x.f1.size ≤ 300) := by
  obtain ⟨k, rfl⟩ : ∃ j, k = j + 1 := ⟨k - 1, by omega⟩
  have no : roadbookref07_Few.j0 (k + 1) true a0 a1 a2 a3 a4 a5 a6 a7 a8 a9 a10 a11 a12 a13 a14 a15 a16 a17 a18 a19 a20 a21 a22 a23 a24 = some false := by simp only [roadbookref07_Few.j0, if_true]
  unfold roadbookref07_Few.f
  rw [no, wrap64_id (x := (a3.size : Int) + a6.size) (by omega) (by omega), wrap64_id (x := (a9.size : Int) + a11.size) (by omega) (by omega), wrap64_id (x := (a19.size : Int) + a20.size) (by omega) (by omega)]
  by_cases c1 : (a21.length : Int) > 300
  · rw [if_pos c1]; exact ⟨false, rfl, fun h => (by cases h)⟩
  rw [if_neg c1]
  by_cases c2 : (a24.length : Int) > 60
  · rw [if_pos c2]; exact ⟨false, rfl, fun h => (by cases h)⟩
  rw [if_neg c2]
  by_cases c3 : (a3.size : Int) + a6.size > 200
  · rw [if_pos c3]; exact ⟨false, rfl, fun h => (by cases h)⟩
  rw [if_neg c3]
  by_cases c4 : (a9.size : Int) + a11.size > 200
  · rw [if_pos c4]; exact ⟨false, rfl, fun h => (by cases h)⟩
  rw [if_neg c4]
  by_cases c5 : (a19.size : Int) + a20.size > 200
  · rw [if_pos c5]; exact ⟨false, rfl, fun h => (by cases h)⟩
  rw [if_neg c5]
  by_cases c6 : (a23.size : Int) > 300
  · rw [decide_eq_true c6, no]; exact ⟨false, rfl, fun h => (by cases h)⟩
  rw [decide_eq_false c6]
  simp only [roadbookref07_Few.j0, Bool.false_eq_true, if_false]
  obtain ⟨b, e, hb⟩ := few_l0 a0 a1 a2 a3 a4 a5 a6 a7 a8 a9 a10 a11 a12 a13 a14 a15 a16 a17 a18 a19 a20 a21 a22 a23 a24 (by omega) (by omega) a21.length k 0 (by omega) (by omega)
  exact ⟨b, e, fun h => ⟨by omega, by omega, by omega, by omega, by omega, by omega, rd_mem_61 fun j hj => (hb h).1 j (by omega) hj, rd_mem_63 (hb h).2⟩⟩

theorem pdests_l (l m : List S61) (hm : l.length = m.length) (hl : l.length ≤ 1000000) (q : Nat) : ∀ (k i : Nat), q < k → l.length - i = q → ∃ b, api_Dest.l0 k l m (l.length : Int) i = some b ∧ (b = true ↔ ∀ j : Nat, i ≤ j → j < l.length → rd_T61 l (j : Int) = rd_T61 m (j : Int)) := by
  induction q with
  | zero =>
    intro k i hk hq
    obtain ⟨k, rfl⟩ : ∃ j, k = j + 1 := ⟨k - 1, by omega⟩
    simp only [api_Dest.l0]
    rw [if_neg (by omega)]
    exact ⟨true, rfl, ⟨fun _ j h1 h2 => by omega, fun _ => rfl⟩⟩
  | succ q ih =>
    intro k i hk hq
    obtain ⟨k, rfl⟩ : ∃ j, k = j + 1 := ⟨k - 1, by omega⟩
    simp only [api_Dest.l0]
    rw [if_pos (by omega), if_pos (by omega), if_pos (by omega), if_pos (by omega)]
    have key : (!((((rd_T61 l (i : Int)).f0).toList) == (((rd_T61 m (i : Int)).f0).toList)) || (!(((rd_T61 l (i : Int)).f1) == ((rd_T61 m (i : Int)).f1)))) = true ↔ ¬ rd_T61 l (i : Int) = rd_T61 m (i : Int) := by
      obtain ⟨x0, x1⟩ := rd_T61 l (i : Int)
      obtain ⟨y0, y1⟩ := rd_T61 m (i : Int)
      simp only [S61.mk.injEq, Bool.or_eq_true, Bool.not_eq_true', beq_eq_false_iff_ne, ne_eq, toList_inj]
      by_cases p : x0 = y0 <;> by_cases r : x1 = y1 <;> simp [p, r]
    by_cases c : rd_T61 l (i : Int) = rd_T61 m (i : Int)
    · rw [if_neg (fun h => key.mp h c), wrap64_id (by omega) (by omega)]
      obtain ⟨b, e, hb⟩ := ih k (i + 1) (by omega) (by omega)
      refine ⟨b, e, hb.trans ⟨fun h j h1 h2 => ?_, fun h j h1 h2 => h j (by omega) h2⟩⟩
      by_cases d : j = i
      · rw [d]; exact c
      · exact h j (by omega) h2
    · rw [if_pos (key.mpr c)]
      exact ⟨false, rfl, ⟨fun h => (by cases h), fun h => absurd (h i (by omega) (by omega)) c⟩⟩
theorem pdests_f (l m : List S61) (hl : l.length ≤ 1000000) (k : Nat) (hk : l.length < k) : ∃ b, api_Dest.f k l m = some b ∧ (b = true ↔ l = m) := by
  unfold api_Dest.f
  by_cases c : l.length = m.length
  · rw [if_pos (by omega)]
    obtain ⟨b, e, hb⟩ := pdests_l l m c hl l.length k 0 hk (by omega)
    refine ⟨b, e, hb.trans ⟨fun h => ?_, fun h j _ _ => by rw [h]⟩⟩
    apply List.ext_getElem c
    intro i h1 h2
    have := h i (by omega) h1
    unfold rd_T61 at this
    rwa [Int.toNat_natCast, List.getD_eq_getElem?_getD, List.getD_eq_getElem?_getD, List.getElem?_eq_getElem h1, List.getElem?_eq_getElem h2] at this
  · rw [if_neg (by omega)]
    exact ⟨false, rfl, ⟨fun h => (by cases h), fun h => absurd (by rw [h]) c⟩⟩
theorem psubsl_l (l m : List S63) (hm : l.length = m.length) (hl : l.length ≤ 1000000) (q : Nat) : ∀ (k i : Nat), q < k → l.length - i = q → ∃ b, api_Sub.l0 k l m (l.length : Int) i = some b ∧ (b = true ↔ ∀ j : Nat, i ≤ j → j < l.length → rd_T63 l (j : Int) = rd_T63 m (j : Int)) := by
  induction q with
  | zero =>
    intro k i hk hq
    obtain ⟨k, rfl⟩ : ∃ j, k = j + 1 := ⟨k - 1, by omega⟩
    simp only [api_Sub.l0]
    rw [if_neg (by omega)]
    exact ⟨true, rfl, ⟨fun _ j h1 h2 => by omega, fun _ => rfl⟩⟩
  | succ q ih =>
    intro k i hk hq
    obtain ⟨k, rfl⟩ : ∃ j, k = j + 1 := ⟨k - 1, by omega⟩
    simp only [api_Sub.l0]
    rw [if_pos (by omega), if_pos (by omega), if_pos (by omega), if_pos (by omega)]
    have key : (!(((rd_T63 l (i : Int)).f0) == ((rd_T63 m (i : Int)).f0)) || (!((((rd_T63 l (i : Int)).f1).toList) == (((rd_T63 m (i : Int)).f1).toList)))) = true ↔ ¬ rd_T63 l (i : Int) = rd_T63 m (i : Int) := by
      obtain ⟨x0, x1⟩ := rd_T63 l (i : Int)
      obtain ⟨y0, y1⟩ := rd_T63 m (i : Int)
      simp only [S63.mk.injEq, Bool.or_eq_true, Bool.not_eq_true', beq_eq_false_iff_ne, ne_eq, toList_inj]
      by_cases p : x0 = y0 <;> by_cases r : x1 = y1 <;> simp [p, r]
    by_cases c : rd_T63 l (i : Int) = rd_T63 m (i : Int)
    · rw [if_neg (fun h => key.mp h c), wrap64_id (by omega) (by omega)]
      obtain ⟨b, e, hb⟩ := ih k (i + 1) (by omega) (by omega)
      refine ⟨b, e, hb.trans ⟨fun h j h1 h2 => ?_, fun h j h1 h2 => h j (by omega) h2⟩⟩
      by_cases d : j = i
      · rw [d]; exact c
      · exact h j (by omega) h2
    · rw [if_pos (key.mpr c)]
      exact ⟨false, rfl, ⟨fun h => (by cases h), fun h => absurd (h i (by omega) (by omega)) c⟩⟩
theorem psubsl_f (l m : List S63) (hl : l.length ≤ 1000000) (k : Nat) (hk : l.length < k) : ∃ b, api_Sub.f k l m = some b ∧ (b = true ↔ l = m) := by
  unfold api_Sub.f
  by_cases c : l.length = m.length
  · rw [if_pos (by omega)]
    obtain ⟨b, e, hb⟩ := psubsl_l l m c hl l.length k 0 hk (by omega)
    refine ⟨b, e, hb.trans ⟨fun h => ?_, fun h j _ _ => by rw [h]⟩⟩
    apply List.ext_getElem c
    intro i h1 h2
    have := h i (by omega) h1
    unfold rd_T63 at this
    rwa [Int.toNat_natCast, List.getD_eq_getElem?_getD, List.getD_eq_getElem?_getD, List.getElem?_eq_getElem h1, List.getElem?_eq_getElem h2] at this
  · rw [if_neg (by omega)]
    exact ⟨false, rfl, ⟨fun h => (by cases h), fun h => absurd (by rw [h]) c⟩⟩
/-- The program's Same tells whether all fields are the same. -/
theorem msame_f (a0 : Int) (a1 : Int) (a2 : Int) (a3 : ByteArray) (a4 : Int) (a5 : Int) (a6 : ByteArray) (a7 : Int) (a8 : Int) (a9 : ByteArray) (a10 : Int) (a11 : ByteArray) (a12 : Int) (a13 : Int) (a14 : Int) (a15 : Int) (a16 : Int) (a17 : Int) (a18 : Int) (a19 : ByteArray) (a20 : ByteArray) (a21 : List S61) (a22 : Int) (a23 : ByteArray) (a24 : List S63) (b0 : Int) (b1 : Int) (b2 : Int) (b3 : ByteArray) (b4 : Int) (b5 : Int) (b6 : ByteArray) (b7 : Int) (b8 : Int) (b9 : ByteArray) (b10 : Int) (b11 : ByteArray) (b12 : Int) (b13 : Int) (b14 : Int) (b15 : Int) (b16 : Int) (b17 : Int) (b18 : Int) (b19 : ByteArray) (b20 : ByteArray) (b21 : List S61) (b22 : Int) (b23 : ByteArray) (b24 : List S63) (hd : a21.length ≤ 1000000) (hl : a24.length ≤ 1000000) (k : Nat) (hk : a21.length + a24.length + 3 ≤ k) :
    ∃ r, msg_Same.f k a0 a1 a2 a3 a4 a5 a6 a7 a8 a9 a10 a11 a12 a13 a14 a15 a16 a17 a18 a19 a20 a21 a22 a23 a24 b0 b1 b2 b3 b4 b5 b6 b7 b8 b9 b10 b11 b12 b13 b14 b15 b16 b17 b18 b19 b20 b21 b22 b23 b24 = some r ∧ (r = true ↔ a0 = b0 ∧ a1 = b1 ∧ a2 = b2 ∧ a3 = b3 ∧ a4 = b4 ∧ a5 = b5 ∧ a6 = b6 ∧ a7 = b7 ∧ a8 = b8 ∧ a9 = b9 ∧ a10 = b10 ∧ a11 = b11 ∧ a12 = b12 ∧ a13 = b13 ∧ a14 = b14 ∧ a15 = b15 ∧ a16 = b16 ∧ a17 = b17 ∧ a18 = b18 ∧ a19 = b19 ∧ a20 = b20 ∧ a21 = b21 ∧ a22 = b22 ∧ a23 = b23 ∧ a24 = b24) := by
  unfold msg_Same.f msg_strip.f
  rw [Option.bind_some, Option.bind_some]
  dsimp only
  have key : ((a0 == b0) && ((a1 == b1) && ((a2 == b2) && ((a4 == b4) && ((a5 == b5) && ((a7 == b7) && ((a8 == b8) && ((a10 == b10) && ((a12 == b12) && ((a13 == b13) && ((a14 == b14) && ((a15 == b15) && ((a16 == b16) && ((a17 == b17) && ((a18 == b18) && ((a22 == b22) && ((a3.toList == b3.toList) && ((a6.toList == b6.toList) && ((a9.toList == b9.toList) && ((a11.toList == b11.toList) && ((a19.toList == b19.toList) && ((a20.toList == b20.toList) && ((a23.toList == b23.toList)))))))))))))))))))))))) = true ↔ (a0 = b0 ∧ a1 = b1 ∧ a2 = b2 ∧ a4 = b4 ∧ a5 = b5 ∧ a7 = b7 ∧ a8 = b8 ∧ a10 = b10 ∧ a12 = b12 ∧ a13 = b13 ∧ a14 = b14 ∧ a15 = b15 ∧ a16 = b16 ∧ a17 = b17 ∧ a18 = b18 ∧ a22 = b22 ∧ a3 = b3 ∧ a6 = b6 ∧ a9 = b9 ∧ a11 = b11 ∧ a19 = b19 ∧ a20 = b20 ∧ a23 = b23) := by
    simp only [Bool.and_eq_true, beq_iff_eq, toList_inj]
  by_cases c : ((a0 == b0) && ((a1 == b1) && ((a2 == b2) && ((a4 == b4) && ((a5 == b5) && ((a7 == b7) && ((a8 == b8) && ((a10 == b10) && ((a12 == b12) && ((a13 == b13) && ((a14 == b14) && ((a15 == b15) && ((a16 == b16) && ((a17 == b17) && ((a18 == b18) && ((a22 == b22) && ((a3.toList == b3.toList) && ((a6.toList == b6.toList) && ((a9.toList == b9.toList) && ((a11.toList == b11.toList) && ((a19.toList == b19.toList) && ((a20.toList == b20.toList) && ((a23.toList == b23.toList)))))))))))))))))))))))) = true
  · rw [if_pos c]
    obtain ⟨c0, c1, c2, c4, c5, c7, c8, c10, c12, c13, c14, c15, c16, c17, c18, c22, c3, c6, c9, c11, c19, c20, c23⟩ := key.mp c
    obtain ⟨x, e1, hx⟩ := pdests_f a21 b21 hd k (by omega)
    rw [e1, Option.bind_some]
    cases x with
    | false => rw [if_neg (by decide)]; exact ⟨false, rfl, ⟨fun h => (by cases h), fun h => absurd (hx.mpr h.2.2.2.2.2.2.2.2.2.2.2.2.2.2.2.2.2.2.2.2.2.1) (by decide)⟩⟩
    | true =>
      rw [if_pos rfl]
      have c21 := hx.mp rfl
      obtain ⟨y, e2, hy⟩ := psubsl_f a24 b24 hl k (by omega)
      rw [e2, Option.bind_some]
      exact ⟨y, rfl, ⟨fun h => ⟨c0, c1, c2, c3, c4, c5, c6, c7, c8, c9, c10, c11, c12, c13, c14, c15, c16, c17, c18, c19, c20, c21, c22, c23, hy.mp h⟩, fun h => hy.mpr h.2.2.2.2.2.2.2.2.2.2.2.2.2.2.2.2.2.2.2.2.2.2.2.2⟩⟩
  · rw [if_neg c]
    exact ⟨false, rfl, ⟨fun h => (by cases h), fun h => absurd (key.mpr ⟨h.1, h.2.1, h.2.2.1, h.2.2.2.2.1, h.2.2.2.2.2.1, h.2.2.2.2.2.2.2.1, h.2.2.2.2.2.2.2.2.1, h.2.2.2.2.2.2.2.2.2.2.1, h.2.2.2.2.2.2.2.2.2.2.2.2.1, h.2.2.2.2.2.2.2.2.2.2.2.2.2.1, h.2.2.2.2.2.2.2.2.2.2.2.2.2.2.1, h.2.2.2.2.2.2.2.2.2.2.2.2.2.2.2.1, h.2.2.2.2.2.2.2.2.2.2.2.2.2.2.2.2.1, h.2.2.2.2.2.2.2.2.2.2.2.2.2.2.2.2.2.1, h.2.2.2.2.2.2.2.2.2.2.2.2.2.2.2.2.2.2.1, h.2.2.2.2.2.2.2.2.2.2.2.2.2.2.2.2.2.2.2.2.2.2.1, h.2.2.2.1, h.2.2.2.2.2.2.1, h.2.2.2.2.2.2.2.2.2.1, h.2.2.2.2.2.2.2.2.2.2.2.1, h.2.2.2.2.2.2.2.2.2.2.2.2.2.2.2.2.2.2.2.1, h.2.2.2.2.2.2.2.2.2.2.2.2.2.2.2.2.2.2.2.2.1, h.2.2.2.2.2.2.2.2.2.2.2.2.2.2.2.2.2.2.2.2.2.2.2.1⟩) c⟩⟩

theorem xor_ne (x : Int) (h : x = Go.bits .xor .i64 x 1) : False := by
  unfold Go.bits at h
  dsimp only at h
  generalize hb : BitVec.ofInt IntKind.i64.bits x = b at h
  have e1 : (BitVec.ofInt IntKind.i64.bits x).toInt = (BitVec.ofInt IntKind.i64.bits (IntKind.i64.wrap ((b ^^^ BitVec.ofInt IntKind.i64.bits 1).toNat : Int))).toInt := by rw [← h]
  have e2 : BitVec.ofInt IntKind.i64.bits (IntKind.i64.wrap ((b ^^^ BitVec.ofInt IntKind.i64.bits 1).toNat : Int)) = b ^^^ BitVec.ofInt IntKind.i64.bits 1 := by
    generalize b ^^^ BitVec.ofInt IntKind.i64.bits 1 = c
    apply BitVec.eq_of_toNat_eq
    have hc := c.isLt
    simp only [IntKind.bits] at c hc ⊢
    simp only [BitVec.toNat_ofInt, IntKind.wrap, IntKind.signed, IntKind.bits]
    omega
  rw [e2, hb] at e1
  have e3 : b = b ^^^ BitVec.ofInt IntKind.i64.bits 1 := BitVec.eq_of_toInt_eq e1
  have e4 : b.getLsbD 0 = (b ^^^ BitVec.ofInt IntKind.i64.bits 1).getLsbD 0 := congrArg (fun z => z.getLsbD 0) e3
  rw [BitVec.getLsbD_xor] at e4
  have e5 : (BitVec.ofInt IntKind.i64.bits 1).getLsbD 0 = true := by decide
  rw [e5] at e4
  cases b.getLsbD 0 <;> simp at e4
theorem app_ne (s : ByteArray) (h : s = s ++ (⟨#[120]⟩ : ByteArray)) : False := by
  have := congrArg ByteArray.size h
  rw [size_app] at this
  have z : (⟨#[120]⟩ : ByteArray).size = 1 := rfl
  omega

theorem changed_j (a0 : Int) (a1 : Int) (a2 : Int) (a3 : ByteArray) (a4 : Int) (a5 : Int) (a6 : ByteArray) (a7 : Int) (a8 : Int) (a9 : ByteArray) (a10 : Int) (a11 : ByteArray) (a12 : Int) (a13 : Int) (a14 : Int) (a15 : Int) (a16 : Int) (a17 : Int) (a18 : Int) (a19 : ByteArray) (a20 : ByteArray) (a21 : List S61) (a22 : Int) (a23 : ByteArray) (a24 : List S63) (b0 : Int) (b1 : Int) (b2 : Int) (b3 : ByteArray) (b4 : Int) (b5 : Int) (b6 : ByteArray) (b7 : Int) (b8 : Int) (b9 : ByteArray) (b10 : Int) (b11 : ByteArray) (b12 : Int) (b13 : Int) (b14 : Int) (b15 : Int) (b16 : Int) (b17 : Int) (b18 : Int) (b19 : ByteArray) (b20 : ByteArray) (b21 : List S61) (b22 : Int) (b23 : ByteArray) (b24 : List S63) (d1 : a21.length ≤ 300) (d2 : a24.length ≤ 60) (d3 : b21.length ≤ 400) (d4 : b24.length ≤ 100) (ne : ¬ (a0 = b0 ∧ a1 = b1 ∧ a2 = b2 ∧ a3 = b3 ∧ a4 = b4 ∧ a5 = b5 ∧ a6 = b6 ∧ a7 = b7 ∧ a8 = b8 ∧ a9 = b9 ∧ a10 = b10 ∧ a11 = b11 ∧ a12 = b12 ∧ a13 = b13 ∧ a14 = b14 ∧ a15 = b15 ∧ a16 = b16 ∧ a17 = b17 ∧ a18 = b18 ∧ a19 = b19 ∧ a20 = b20 ∧ a21 = b21 ∧ a22 = b22 ∧ a23 = b23 ∧ a24 = b24)) (k : Nat) (hk : 4000 ≤ k) : roadbooklaw07_MsgChanged.j0 (k + 1) a0 a1 a2 a3 a4 a5 a6 a7 a8 a9 a10 a11 a12 a13 a14 a15 a16 a17 a18 a19 a20 a21 a22 a23 a24 b0 b1 b2 b3 b4 b5 b6 b7 b8 b9 b10 b11 b12 b13 b14 b15 b16 b17 b18 b19 b20 b21 b22 b23 b24 = some true := by
  rw [roadbooklaw07_MsgChanged.j0]
  rw [msgawake_f k (by omega), Option.bind_some, if_pos rfl]
  obtain ⟨r1, e1, h1⟩ := msame_f a0 a1 a2 a3 a4 a5 a6 a7 a8 a9 a10 a11 a12 a13 a14 a15 a16 a17 a18 a19 a20 a21 a22 a23 a24 a0 a1 a2 a3 a4 a5 a6 a7 a8 a9 a10 a11 a12 a13 a14 a15 a16 a17 a18 a19 a20 a21 a22 a23 a24 (by omega) (by omega) k (by omega)
  obtain ⟨r2, e2, h2⟩ := msame_f a0 a1 a2 a3 a4 a5 a6 a7 a8 a9 a10 a11 a12 a13 a14 a15 a16 a17 a18 a19 a20 a21 a22 a23 a24 b0 b1 b2 b3 b4 b5 b6 b7 b8 b9 b10 b11 b12 b13 b14 b15 b16 b17 b18 b19 b20 b21 b22 b23 b24 (by omega) (by omega) k (by omega)
  obtain ⟨r3, e3, h3⟩ := msame_f b0 b1 b2 b3 b4 b5 b6 b7 b8 b9 b10 b11 b12 b13 b14 b15 b16 b17 b18 b19 b20 b21 b22 b23 b24 a0 a1 a2 a3 a4 a5 a6 a7 a8 a9 a10 a11 a12 a13 a14 a15 a16 a17 a18 a19 a20 a21 a22 a23 a24 (by omega) (by omega) k (by omega)
  have f1 : r1 = true := h1.mpr ⟨rfl, rfl, rfl, rfl, rfl, rfl, rfl, rfl, rfl, rfl, rfl, rfl, rfl, rfl, rfl, rfl, rfl, rfl, rfl, rfl, rfl, rfl, rfl, rfl, rfl⟩
  have f2 : r2 = false := by
    cases r2 with
    | false => rfl
    | true => exact absurd (h2.mp rfl) ne
  have f3 : r3 = false := by
    cases r3 with
    | false => rfl
    | true => exact absurd (h3.mp rfl) (fun h => ne ⟨(h.1).symm, (h.2.1).symm, (h.2.2.1).symm, (h.2.2.2.1).symm, (h.2.2.2.2.1).symm, (h.2.2.2.2.2.1).symm, (h.2.2.2.2.2.2.1).symm, (h.2.2.2.2.2.2.2.1).symm, (h.2.2.2.2.2.2.2.2.1).symm, (h.2.2.2.2.2.2.2.2.2.1).symm, (h.2.2.2.2.2.2.2.2.2.2.1).symm, (h.2.2.2.2.2.2.2.2.2.2.2.1).symm, (h.2.2.2.2.2.2.2.2.2.2.2.2.1).symm, (h.2.2.2.2.2.2.2.2.2.2.2.2.2.1).symm, (h.2.2.2.2.2.2.2.2.2.2.2.2.2.2.1).symm, (h.2.2.2.2.2.2.2.2.2.2.2.2.2.2.2.1).symm, (h.2.2.2.2.2.2.2.2.2.2.2.2.2.2.2.2.1).symm, (h.2.2.2.2.2.2.2.2.2.2.2.2.2.2.2.2.2.1).symm, (h.2.2.2.2.2.2.2.2.2.2.2.2.2.2.2.2.2.2.1).symm, (h.2.2.2.2.2.2.2.2.2.2.2.2.2.2.2.2.2.2.2.1).symm, (h.2.2.2.2.2.2.2.2.2.2.2.2.2.2.2.2.2.2.2.2.1).symm, (h.2.2.2.2.2.2.2.2.2.2.2.2.2.2.2.2.2.2.2.2.2.1).symm, (h.2.2.2.2.2.2.2.2.2.2.2.2.2.2.2.2.2.2.2.2.2.2.1).symm, (h.2.2.2.2.2.2.2.2.2.2.2.2.2.2.2.2.2.2.2.2.2.2.2.1).symm, (h.2.2.2.2.2.2.2.2.2.2.2.2.2.2.2.2.2.2.2.2.2.2.2.2).symm⟩)
  subst f1 f2 f3
  rw [e1, Option.bind_some, if_pos rfl, e2, Option.bind_some, if_neg (by decide), e3, Option.bind_some]
  rfl
theorem MsgChanged : roadbooklaw07_MsgChanged.Pure := by
  intro a0_0 a0_1 a0_2 a0_3 a0_4 a0_5 a0_6 a0_7 a0_8 a0_9 a0_10 a0_11 a0_12 a0_13 a0_14 a0_15 a0_16 a0_17 a0_18 a0_19 a0_20 l0_21 a0_22 a0_23 l0_24 which g hw
  refine ⟨5000, ?_⟩
  obtain ⟨g0, g1, g2, g3, g4, g5, g6, g7, g8, g9, g10, g11, g12, g13, g14, g15, g16, g17, g18, g19, g20, g21, g22, g23, g24⟩ := g
  unfold roadbooklaw07_MsgChanged.f
  obtain ⟨b, e, hb⟩ := few_f a0_0 a0_1 a0_2 a0_3 a0_4 a0_5 a0_6 a0_7 a0_8 a0_9 a0_10 a0_11 a0_12 a0_13 a0_14 a0_15 a0_16 a0_17 a0_18 a0_19 a0_20 l0_21 a0_22 a0_23 l0_24 g3 g6 g9 g11 g19 g20 5000 (by omega)
  rw [e, Option.bind_some]
  cases b with
  | false => rw [if_neg (by decide), msgawake_f 5000 (by omega)]; rfl
  | true =>
    obtain ⟨d1, d2, _⟩ := hb rfl
    rw [if_pos rfl]
    by_cases c0 : (Int.tmod which 25) = 0
    · rw [if_pos c0]
      skip
      exact changed_j a0_0 a0_1 a0_2 a0_3 a0_4 a0_5 a0_6 a0_7 a0_8 a0_9 a0_10 a0_11 a0_12 a0_13 a0_14 a0_15 a0_16 a0_17 a0_18 a0_19 a0_20 l0_21 a0_22 a0_23 l0_24 (Go.bits .xor .i64 a0_0 1) a0_1 a0_2 a0_3 a0_4 a0_5 a0_6 a0_7 a0_8 a0_9 a0_10 a0_11 a0_12 a0_13 a0_14 a0_15 a0_16 a0_17 a0_18 a0_19 a0_20 l0_21 a0_22 a0_23 l0_24 d1 d2 (by omega) (by omega) (fun h => xor_ne _ (h.1)) 4999 (by omega)
    rw [if_neg c0]
    by_cases c1 : (Int.tmod which 25) = 1
    · rw [if_pos c1]
      skip
      exact changed_j a0_0 a0_1 a0_2 a0_3 a0_4 a0_5 a0_6 a0_7 a0_8 a0_9 a0_10 a0_11 a0_12 a0_13 a0_14 a0_15 a0_16 a0_17 a0_18 a0_19 a0_20 l0_21 a0_22 a0_23 l0_24 a0_0 (Go.bits .xor .i64 a0_1 1) a0_2 a0_3 a0_4 a0_5 a0_6 a0_7 a0_8 a0_9 a0_10 a0_11 a0_12 a0_13 a0_14 a0_15 a0_16 a0_17 a0_18 a0_19 a0_20 l0_21 a0_22 a0_23 l0_24 d1 d2 (by omega) (by omega) (fun h => xor_ne _ (h.2.1)) 4999 (by omega)
    rw [if_neg c1]
    by_cases c2 : (Int.tmod which 25) = 2
    · rw [if_pos c2]
      skip
      exact changed_j a0_0 a0_1 a0_2 a0_3 a0_4 a0_5 a0_6 a0_7 a0_8 a0_9 a0_10 a0_11 a0_12 a0_13 a0_14 a0_15 a0_16 a0_17 a0_18 a0_19 a0_20 l0_21 a0_22 a0_23 l0_24 a0_0 a0_1 (Go.bits .xor .i64 a0_2 1) a0_3 a0_4 a0_5 a0_6 a0_7 a0_8 a0_9 a0_10 a0_11 a0_12 a0_13 a0_14 a0_15 a0_16 a0_17 a0_18 a0_19 a0_20 l0_21 a0_22 a0_23 l0_24 d1 d2 (by omega) (by omega) (fun h => xor_ne _ (h.2.2.1)) 4999 (by omega)
    rw [if_neg c2]
    by_cases c3 : (Int.tmod which 25) = 3
    · rw [if_pos c3]
      rw [if_pos (by omega)]
      exact changed_j a0_0 a0_1 a0_2 a0_3 a0_4 a0_5 a0_6 a0_7 a0_8 a0_9 a0_10 a0_11 a0_12 a0_13 a0_14 a0_15 a0_16 a0_17 a0_18 a0_19 a0_20 l0_21 a0_22 a0_23 l0_24 a0_0 a0_1 a0_2 (a0_3 ++ (⟨#[120]⟩ : ByteArray)) a0_4 a0_5 a0_6 a0_7 a0_8 a0_9 a0_10 a0_11 a0_12 a0_13 a0_14 a0_15 a0_16 a0_17 a0_18 a0_19 a0_20 l0_21 a0_22 a0_23 l0_24 d1 d2 (by omega) (by omega) (fun h => app_ne _ (h.2.2.2.1)) 4999 (by omega)
    rw [if_neg c3]
    by_cases c4 : (Int.tmod which 25) = 4
    · rw [if_pos c4]
      skip
      exact changed_j a0_0 a0_1 a0_2 a0_3 a0_4 a0_5 a0_6 a0_7 a0_8 a0_9 a0_10 a0_11 a0_12 a0_13 a0_14 a0_15 a0_16 a0_17 a0_18 a0_19 a0_20 l0_21 a0_22 a0_23 l0_24 a0_0 a0_1 a0_2 a0_3 (Go.bits .xor .i64 a0_4 1) a0_5 a0_6 a0_7 a0_8 a0_9 a0_10 a0_11 a0_12 a0_13 a0_14 a0_15 a0_16 a0_17 a0_18 a0_19 a0_20 l0_21 a0_22 a0_23 l0_24 d1 d2 (by omega) (by omega) (fun h => xor_ne _ (h.2.2.2.2.1)) 4999 (by omega)
    rw [if_neg c4]
    by_cases c5 : (Int.tmod which 25) = 5
    · rw [if_pos c5]
      skip
      exact changed_j a0_0 a0_1 a0_2 a0_3 a0_4 a0_5 a0_6 a0_7 a0_8 a0_9 a0_10 a0_11 a0_12 a0_13 a0_14 a0_15 a0_16 a0_17 a0_18 a0_19 a0_20 l0_21 a0_22 a0_23 l0_24 a0_0 a0_1 a0_2 a0_3 a0_4 (Go.bits .xor .i64 a0_5 1) a0_6 a0_7 a0_8 a0_9 a0_10 a0_11 a0_12 a0_13 a0_14 a0_15 a0_16 a0_17 a0_18 a0_19 a0_20 l0_21 a0_22 a0_23 l0_24 d1 d2 (by omega) (by omega) (fun h => xor_ne _ (h.2.2.2.2.2.1)) 4999 (by omega)
    rw [if_neg c5]
    by_cases c6 : (Int.tmod which 25) = 6
    · rw [if_pos c6]
      rw [if_pos (by omega)]
      exact changed_j a0_0 a0_1 a0_2 a0_3 a0_4 a0_5 a0_6 a0_7 a0_8 a0_9 a0_10 a0_11 a0_12 a0_13 a0_14 a0_15 a0_16 a0_17 a0_18 a0_19 a0_20 l0_21 a0_22 a0_23 l0_24 a0_0 a0_1 a0_2 a0_3 a0_4 a0_5 (a0_6 ++ (⟨#[120]⟩ : ByteArray)) a0_7 a0_8 a0_9 a0_10 a0_11 a0_12 a0_13 a0_14 a0_15 a0_16 a0_17 a0_18 a0_19 a0_20 l0_21 a0_22 a0_23 l0_24 d1 d2 (by omega) (by omega) (fun h => app_ne _ (h.2.2.2.2.2.2.1)) 4999 (by omega)
    rw [if_neg c6]
    by_cases c7 : (Int.tmod which 25) = 7
    · rw [if_pos c7]
      skip
      exact changed_j a0_0 a0_1 a0_2 a0_3 a0_4 a0_5 a0_6 a0_7 a0_8 a0_9 a0_10 a0_11 a0_12 a0_13 a0_14 a0_15 a0_16 a0_17 a0_18 a0_19 a0_20 l0_21 a0_22 a0_23 l0_24 a0_0 a0_1 a0_2 a0_3 a0_4 a0_5 a0_6 (Go.bits .xor .i64 a0_7 1) a0_8 a0_9 a0_10 a0_11 a0_12 a0_13 a0_14 a0_15 a0_16 a0_17 a0_18 a0_19 a0_20 l0_21 a0_22 a0_23 l0_24 d1 d2 (by omega) (by omega) (fun h => xor_ne _ (h.2.2.2.2.2.2.2.1)) 4999 (by omega)
    rw [if_neg c7]
    by_cases c8 : (Int.tmod which 25) = 8
    · rw [if_pos c8]
      skip
      exact changed_j a0_0 a0_1 a0_2 a0_3 a0_4 a0_5 a0_6 a0_7 a0_8 a0_9 a0_10 a0_11 a0_12 a0_13 a0_14 a0_15 a0_16 a0_17 a0_18 a0_19 a0_20 l0_21 a0_22 a0_23 l0_24 a0_0 a0_1 a0_2 a0_3 a0_4 a0_5 a0_6 a0_7 (Go.bits .xor .i64 a0_8 1) a0_9 a0_10 a0_11 a0_12 a0_13 a0_14 a0_15 a0_16 a0_17 a0_18 a0_19 a0_20 l0_21 a0_22 a0_23 l0_24 d1 d2 (by omega) (by omega) (fun h => xor_ne _ (h.2.2.2.2.2.2.2.2.1)) 4999 (by omega)
    rw [if_neg c8]
    by_cases c9 : (Int.tmod which 25) = 9
    · rw [if_pos c9]
      rw [if_pos (by omega)]
      exact changed_j a0_0 a0_1 a0_2 a0_3 a0_4 a0_5 a0_6 a0_7 a0_8 a0_9 a0_10 a0_11 a0_12 a0_13 a0_14 a0_15 a0_16 a0_17 a0_18 a0_19 a0_20 l0_21 a0_22 a0_23 l0_24 a0_0 a0_1 a0_2 a0_3 a0_4 a0_5 a0_6 a0_7 a0_8 (a0_9 ++ (⟨#[120]⟩ : ByteArray)) a0_10 a0_11 a0_12 a0_13 a0_14 a0_15 a0_16 a0_17 a0_18 a0_19 a0_20 l0_21 a0_22 a0_23 l0_24 d1 d2 (by omega) (by omega) (fun h => app_ne _ (h.2.2.2.2.2.2.2.2.2.1)) 4999 (by omega)
    rw [if_neg c9]
    by_cases c10 : (Int.tmod which 25) = 10
    · rw [if_pos c10]
      skip
      exact changed_j a0_0 a0_1 a0_2 a0_3 a0_4 a0_5 a0_6 a0_7 a0_8 a0_9 a0_10 a0_11 a0_12 a0_13 a0_14 a0_15 a0_16 a0_17 a0_18 a0_19 a0_20 l0_21 a0_22 a0_23 l0_24 a0_0 a0_1 a0_2 a0_3 a0_4 a0_5 a0_6 a0_7 a0_8 a0_9 (Go.bits .xor .i64 a0_10 1) a0_11 a0_12 a0_13 a0_14 a0_15 a0_16 a0_17 a0_18 a0_19 a0_20 l0_21 a0_22 a0_23 l0_24 d1 d2 (by omega) (by omega) (fun h => xor_ne _ (h.2.2.2.2.2.2.2.2.2.2.1)) 4999 (by omega)
    rw [if_neg c10]
    by_cases c11 : (Int.tmod which 25) = 11
    · rw [if_pos c11]
      rw [if_pos (by omega)]
      exact changed_j a0_0 a0_1 a0_2 a0_3 a0_4 a0_5 a0_6 a0_7 a0_8 a0_9 a0_10 a0_11 a0_12 a0_13 a0_14 a0_15 a0_16 a0_17 a0_18 a0_19 a0_20 l0_21 a0_22 a0_23 l0_24 a0_0 a0_1 a0_2 a0_3 a0_4 a0_5 a0_6 a0_7 a0_8 a0_9 a0_10 (a0_11 ++ (⟨#[120]⟩ : ByteArray)) a0_12 a0_13 a0_14 a0_15 a0_16 a0_17 a0_18 a0_19 a0_20 l0_21 a0_22 a0_23 l0_24 d1 d2 (by omega) (by omega) (fun h => app_ne _ (h.2.2.2.2.2.2.2.2.2.2.2.1)) 4999 (by omega)
    rw [if_neg c11]
    by_cases c12 : (Int.tmod which 25) = 12
    · rw [if_pos c12]
      skip
      exact changed_j a0_0 a0_1 a0_2 a0_3 a0_4 a0_5 a0_6 a0_7 a0_8 a0_9 a0_10 a0_11 a0_12 a0_13 a0_14 a0_15 a0_16 a0_17 a0_18 a0_19 a0_20 l0_21 a0_22 a0_23 l0_24 a0_0 a0_1 a0_2 a0_3 a0_4 a0_5 a0_6 a0_7 a0_8 a0_9 a0_10 a0_11 (Go.bits .xor .i64 a0_12 1) a0_13 a0_14 a0_15 a0_16 a0_17 a0_18 a0_19 a0_20 l0_21 a0_22 a0_23 l0_24 d1 d2 (by omega) (by omega) (fun h => xor_ne _ (h.2.2.2.2.2.2.2.2.2.2.2.2.1)) 4999 (by omega)
    rw [if_neg c12]
    by_cases c13 : (Int.tmod which 25) = 13
    · rw [if_pos c13]
      skip
      exact changed_j a0_0 a0_1 a0_2 a0_3 a0_4 a0_5 a0_6 a0_7 a0_8 a0_9 a0_10 a0_11 a0_12 a0_13 a0_14 a0_15 a0_16 a0_17 a0_18 a0_19 a0_20 l0_21 a0_22 a0_23 l0_24 a0_0 a0_1 a0_2 a0_3 a0_4 a0_5 a0_6 a0_7 a0_8 a0_9 a0_10 a0_11 a0_12 (Go.bits .xor .i64 a0_13 1) a0_14 a0_15 a0_16 a0_17 a0_18 a0_19 a0_20 l0_21 a0_22 a0_23 l0_24 d1 d2 (by omega) (by omega) (fun h => xor_ne _ (h.2.2.2.2.2.2.2.2.2.2.2.2.2.1)) 4999 (by omega)
    rw [if_neg c13]
    by_cases c14 : (Int.tmod which 25) = 14
    · rw [if_pos c14]
      skip
      exact changed_j a0_0 a0_1 a0_2 a0_3 a0_4 a0_5 a0_6 a0_7 a0_8 a0_9 a0_10 a0_11 a0_12 a0_13 a0_14 a0_15 a0_16 a0_17 a0_18 a0_19 a0_20 l0_21 a0_22 a0_23 l0_24 a0_0 a0_1 a0_2 a0_3 a0_4 a0_5 a0_6 a0_7 a0_8 a0_9 a0_10 a0_11 a0_12 a0_13 (Go.bits .xor .i64 a0_14 1) a0_15 a0_16 a0_17 a0_18 a0_19 a0_20 l0_21 a0_22 a0_23 l0_24 d1 d2 (by omega) (by omega) (fun h => xor_ne _ (h.2.2.2.2.2.2.2.2.2.2.2.2.2.2.1)) 4999 (by omega)
    rw [if_neg c14]
    by_cases c15 : (Int.tmod which 25) = 15
    · rw [if_pos c15]
      skip
      exact changed_j a0_0 a0_1 a0_2 a0_3 a0_4 a0_5 a0_6 a0_7 a0_8 a0_9 a0_10 a0_11 a0_12 a0_13 a0_14 a0_15 a0_16 a0_17 a0_18 a0_19 a0_20 l0_21 a0_22 a0_23 l0_24 a0_0 a0_1 a0_2 a0_3 a0_4 a0_5 a0_6 a0_7 a0_8 a0_9 a0_10 a0_11 a0_12 a0_13 a0_14 (Go.bits .xor .i64 a0_15 1) a0_16 a0_17 a0_18 a0_19 a0_20 l0_21 a0_22 a0_23 l0_24 d1 d2 (by omega) (by omega) (fun h => xor_ne _ (h.2.2.2.2.2.2.2.2.2.2.2.2.2.2.2.1)) 4999 (by omega)
    rw [if_neg c15]
    by_cases c16 : (Int.tmod which 25) = 16
    · rw [if_pos c16]
      skip
      exact changed_j a0_0 a0_1 a0_2 a0_3 a0_4 a0_5 a0_6 a0_7 a0_8 a0_9 a0_10 a0_11 a0_12 a0_13 a0_14 a0_15 a0_16 a0_17 a0_18 a0_19 a0_20 l0_21 a0_22 a0_23 l0_24 a0_0 a0_1 a0_2 a0_3 a0_4 a0_5 a0_6 a0_7 a0_8 a0_9 a0_10 a0_11 a0_12 a0_13 a0_14 a0_15 (Go.bits .xor .i64 a0_16 1) a0_17 a0_18 a0_19 a0_20 l0_21 a0_22 a0_23 l0_24 d1 d2 (by omega) (by omega) (fun h => xor_ne _ (h.2.2.2.2.2.2.2.2.2.2.2.2.2.2.2.2.1)) 4999 (by omega)
    rw [if_neg c16]
    by_cases c17 : (Int.tmod which 25) = 17
    · rw [if_pos c17]
      skip
      exact changed_j a0_0 a0_1 a0_2 a0_3 a0_4 a0_5 a0_6 a0_7 a0_8 a0_9 a0_10 a0_11 a0_12 a0_13 a0_14 a0_15 a0_16 a0_17 a0_18 a0_19 a0_20 l0_21 a0_22 a0_23 l0_24 a0_0 a0_1 a0_2 a0_3 a0_4 a0_5 a0_6 a0_7 a0_8 a0_9 a0_10 a0_11 a0_12 a0_13 a0_14 a0_15 a0_16 (Go.bits .xor .i64 a0_17 1) a0_18 a0_19 a0_20 l0_21 a0_22 a0_23 l0_24 d1 d2 (by omega) (by omega) (fun h => xor_ne _ (h.2.2.2.2.2.2.2.2.2.2.2.2.2.2.2.2.2.1)) 4999 (by omega)
    rw [if_neg c17]
    by_cases c18 : (Int.tmod which 25) = 18
    · rw [if_pos c18]
      skip
      exact changed_j a0_0 a0_1 a0_2 a0_3 a0_4 a0_5 a0_6 a0_7 a0_8 a0_9 a0_10 a0_11 a0_12 a0_13 a0_14 a0_15 a0_16 a0_17 a0_18 a0_19 a0_20 l0_21 a0_22 a0_23 l0_24 a0_0 a0_1 a0_2 a0_3 a0_4 a0_5 a0_6 a0_7 a0_8 a0_9 a0_10 a0_11 a0_12 a0_13 a0_14 a0_15 a0_16 a0_17 (Go.bits .xor .i64 a0_18 1) a0_19 a0_20 l0_21 a0_22 a0_23 l0_24 d1 d2 (by omega) (by omega) (fun h => xor_ne _ (h.2.2.2.2.2.2.2.2.2.2.2.2.2.2.2.2.2.2.1)) 4999 (by omega)
    rw [if_neg c18]
    by_cases c19 : (Int.tmod which 25) = 19
    · rw [if_pos c19]
      rw [if_pos (by omega)]
      exact changed_j a0_0 a0_1 a0_2 a0_3 a0_4 a0_5 a0_6 a0_7 a0_8 a0_9 a0_10 a0_11 a0_12 a0_13 a0_14 a0_15 a0_16 a0_17 a0_18 a0_19 a0_20 l0_21 a0_22 a0_23 l0_24 a0_0 a0_1 a0_2 a0_3 a0_4 a0_5 a0_6 a0_7 a0_8 a0_9 a0_10 a0_11 a0_12 a0_13 a0_14 a0_15 a0_16 a0_17 a0_18 (a0_19 ++ (⟨#[120]⟩ : ByteArray)) a0_20 l0_21 a0_22 a0_23 l0_24 d1 d2 (by omega) (by omega) (fun h => app_ne _ (h.2.2.2.2.2.2.2.2.2.2.2.2.2.2.2.2.2.2.2.1)) 4999 (by omega)
    rw [if_neg c19]
    by_cases c20 : (Int.tmod which 25) = 20
    · rw [if_pos c20]
      rw [if_pos (by omega)]
      exact changed_j a0_0 a0_1 a0_2 a0_3 a0_4 a0_5 a0_6 a0_7 a0_8 a0_9 a0_10 a0_11 a0_12 a0_13 a0_14 a0_15 a0_16 a0_17 a0_18 a0_19 a0_20 l0_21 a0_22 a0_23 l0_24 a0_0 a0_1 a0_2 a0_3 a0_4 a0_5 a0_6 a0_7 a0_8 a0_9 a0_10 a0_11 a0_12 a0_13 a0_14 a0_15 a0_16 a0_17 a0_18 a0_19 (a0_20 ++ (⟨#[120]⟩ : ByteArray)) l0_21 a0_22 a0_23 l0_24 d1 d2 (by omega) (by omega) (fun h => app_ne _ (h.2.2.2.2.2.2.2.2.2.2.2.2.2.2.2.2.2.2.2.2.1)) 4999 (by omega)
    rw [if_neg c20]
    by_cases c21 : (Int.tmod which 25) = 21
    · rw [if_pos c21]
      skip
      exact changed_j a0_0 a0_1 a0_2 a0_3 a0_4 a0_5 a0_6 a0_7 a0_8 a0_9 a0_10 a0_11 a0_12 a0_13 a0_14 a0_15 a0_16 a0_17 a0_18 a0_19 a0_20 l0_21 a0_22 a0_23 l0_24 a0_0 a0_1 a0_2 a0_3 a0_4 a0_5 a0_6 a0_7 a0_8 a0_9 a0_10 a0_11 a0_12 a0_13 a0_14 a0_15 a0_16 a0_17 a0_18 a0_19 a0_20 l0_21 (Go.bits .xor .i64 a0_22 1) a0_23 l0_24 d1 d2 (by omega) (by omega) (fun h => xor_ne _ (h.2.2.2.2.2.2.2.2.2.2.2.2.2.2.2.2.2.2.2.2.2.2.1)) 4999 (by omega)
    rw [if_neg c21]
    by_cases c22 : (Int.tmod which 25) = 22
    · rw [if_pos c22]
      rw [if_pos (by omega)]
      exact changed_j a0_0 a0_1 a0_2 a0_3 a0_4 a0_5 a0_6 a0_7 a0_8 a0_9 a0_10 a0_11 a0_12 a0_13 a0_14 a0_15 a0_16 a0_17 a0_18 a0_19 a0_20 l0_21 a0_22 a0_23 l0_24 a0_0 a0_1 a0_2 a0_3 a0_4 a0_5 a0_6 a0_7 a0_8 a0_9 a0_10 a0_11 a0_12 a0_13 a0_14 a0_15 a0_16 a0_17 a0_18 a0_19 a0_20 l0_21 a0_22 (a0_23 ++ (⟨#[120]⟩ : ByteArray)) l0_24 d1 d2 (by omega) (by omega) (fun h => app_ne _ (h.2.2.2.2.2.2.2.2.2.2.2.2.2.2.2.2.2.2.2.2.2.2.2.1)) 4999 (by omega)
    rw [if_neg c22]
    by_cases c23 : (Int.tmod which 25) = 23
    · rw [if_pos c23]
      rw [Option.bind_some, if_pos (by simp only [List.length_nil]; omega), if_pos (by rw [List.nil_append]; omega)]
      exact changed_j a0_0 a0_1 a0_2 a0_3 a0_4 a0_5 a0_6 a0_7 a0_8 a0_9 a0_10 a0_11 a0_12 a0_13 a0_14 a0_15 a0_16 a0_17 a0_18 a0_19 a0_20 l0_21 a0_22 a0_23 l0_24 a0_0 a0_1 a0_2 a0_3 a0_4 a0_5 a0_6 a0_7 a0_8 a0_9 a0_10 a0_11 a0_12 a0_13 a0_14 a0_15 a0_16 a0_17 a0_18 a0_19 a0_20 ((([] : List S61) ++ l0_21) ++ [(⟨(⟨#[]⟩ : ByteArray), 0⟩ : S61)]) a0_22 a0_23 l0_24 d1 d2 (by rw [List.nil_append, List.length_append]; simp; omega) (by omega) (fun h => by have e := congrArg List.length (h.2.2.2.2.2.2.2.2.2.2.2.2.2.2.2.2.2.2.2.2.2.1); rw [List.nil_append, List.length_append] at e; simp at e) 4999 (by omega)
    · rw [if_neg c23]
      rw [Option.bind_some, if_pos (by simp only [List.length_nil]; omega), if_pos (by rw [List.nil_append]; omega)]
      exact changed_j a0_0 a0_1 a0_2 a0_3 a0_4 a0_5 a0_6 a0_7 a0_8 a0_9 a0_10 a0_11 a0_12 a0_13 a0_14 a0_15 a0_16 a0_17 a0_18 a0_19 a0_20 l0_21 a0_22 a0_23 l0_24 a0_0 a0_1 a0_2 a0_3 a0_4 a0_5 a0_6 a0_7 a0_8 a0_9 a0_10 a0_11 a0_12 a0_13 a0_14 a0_15 a0_16 a0_17 a0_18 a0_19 a0_20 l0_21 a0_22 a0_23 ((([] : List S63) ++ l0_24) ++ [(⟨0, (⟨#[]⟩ : ByteArray)⟩ : S63)]) d1 d2 (by omega) (by rw [List.nil_append, List.length_append]; simp; omega) (fun h => by have e := congrArg List.length (h.2.2.2.2.2.2.2.2.2.2.2.2.2.2.2.2.2.2.2.2.2.2.2.2); rw [List.nil_append, List.length_append] at e; simp at e) 4999 (by omega)

end Go.Proofs.Ytelcciekdoccfaa.Pure
