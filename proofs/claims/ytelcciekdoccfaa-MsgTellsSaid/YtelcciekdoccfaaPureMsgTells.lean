/-
Whether any two messages are the same, whether one is bare, the bytes of its Subs, and whether they may be, are the document's; for messages of few parts, of few bytes.
-/
import Derived.Test.YtelcciekdoccfaaQMsgTells
import Derived.Test.YtelcciekdoccfaaBase
namespace Go.Proofs.Ytelcciekdoccfaa.Pure
open Go.RowKit Go.Proofs.Ytelcciekdoccfaa.PM Go.Proofs.YtelcciekdoccfaaW.PrintWords Go.Proofs.YtelcciekdoccfaaW.PrintLast Go.Proofs.YtelcciekdoccfaaW.PrintMore Go.Proofs.Ytelcciekdoccfaa.Base
set_option linter.unusedVariables false
set_option linter.unusedSimpArgs false

theorem msgawake_f (k : Nat) (hk : 60 ≤ k) : roadbooklaw07_awake.f k = some true := at_rounds (g := fun k => roadbooklaw07_awake.f k) (fun k => roadbooklaw07_awake.mono k) hk (by decide +kernel)

theorem rd_mem_63 {l : List S63} {P : S63 → Prop} (h : ∀ j : Nat, j < l.length → P (rd_T63 l (j : Int))) : ∀ x ∈ l, P x := by
  intro x hx
  obtain ⟨j, hj, rfl⟩ := List.getElem_of_mem hx
  have := h j hj
  unfold rd_T63 at this
  rwa [Int.toNat_natCast, List.getD_eq_getElem?_getD, List.getElem?_eq_getElem hj] at this
theorem rd_mem_61 {l : List S61} {P : S61 → Prop} (h : ∀ j : Nat, j < l.length → P (rd_T61 l (j : Int))) : ∀ x ∈ l, P x := by
  intro x hx
  obtain ⟨j, hj, rfl⟩ := List.getElem_of_mem hx
  have := h j hj
  unfold rd_T61 at this
  rwa [Int.toNat_natCast, List.getD_eq_getElem?_getD, List.getElem?_eq_getElem hj] at this

theorem few_l1 (a0 : Int) (a1 : Int) (a2 : Int) (a3 : ByteArray) (a4 : Int) (a5 : Int) (a6 : ByteArray) (a7 : Int) (a8 : Int) (a9 : ByteArray) (a10 : Int) (a11 : ByteArray) (a12 : Int) (a13 : Int) (a14 : Int) (a15 : Int) (a16 : Int) (a17 : Int) (a18 : Int) (a19 : ByteArray) (a20 : ByteArray) (a21 : List S61) (a22 : Int) (a23 : ByteArray) (a24 : List S63) (hl : a24.length ≤ 1000000) (m : Nat) : ∀ (k i : Nat), m < k → a24.length - i = m → ∃ b, roadbookref07_Few.l1 k i a0 a1 a2 a3 a4 a5 a6 a7 a8 a9 a10 a11 a12 a13 a14 a15 a16 a17 a18 a19 a20 a21 a22 a23 a24 = some b ∧ (b = true → ∀ j : Nat, i ≤ j → j < a24.length → ((rd_T63 a24 (j : Int)).f1).size ≤ 300) := by
  induction m with
  | zero =>
    intro k i hk hm
    obtain ⟨k, rfl⟩ : ∃ j, k = j + 1 := ⟨k - 1, by omega⟩
    simp only [roadbookref07_Few.l1]
    rw [if_neg (by omega)]
    exact ⟨true, rfl, fun _ j h1 h2 => by omega⟩
  | succ m ih =>
    intro k i hk hm
    obtain ⟨k, rfl⟩ : ∃ j, k = j + 1 := ⟨k - 1, by omega⟩
    simp only [roadbookref07_Few.l1]
    rw [if_pos (by omega), if_pos (by omega)]
    by_cases c : (((rd_T63 a24 (i : Int)).f1).size : Int) > 300
    · rw [if_pos c]; exact ⟨false, rfl, fun h => (by cases h)⟩
    · rw [if_neg c, wrap64_id (by omega) (by omega)]
      obtain ⟨b, e, hb⟩ := ih k (i + 1) (by omega) (by omega)
      refine ⟨b, e, fun h j h1 h2 => ?_⟩
      by_cases d : j = i
      · rw [d]; omega
      · exact hb h j (by omega) h2
theorem few_l0 (a0 : Int) (a1 : Int) (a2 : Int) (a3 : ByteArray) (a4 : Int) (a5 : Int) (a6 : ByteArray) (a7 : Int) (a8 : Int) (a9 : ByteArray) (a10 : Int) (a11 : ByteArray) (a12 : Int) (a13 : Int) (a14 : Int) (a15 : Int) (a16 : Int) (a17 : Int) (a18 : Int) (a19 : ByteArray) (a20 : ByteArray) (a21 : List S61) (a22 : Int) (a23 : ByteArray) (a24 : List S63) (hd : a21.length ≤ 1000000) (hl : a24.length ≤ 1000000) (m : Nat) : ∀ (k i : Nat), m + a24.length + 1 < k → a21.length - i = m → ∃ b, roadbookref07_Few.l0 k i a0 a1 a2 a3 a4 a5 a6 a7 a8 a9 a10 a11 a12 a13 a14 a15 a16 a17 a18 a19 a20 a21 a22 a23 a24 = some b ∧ (b = true → (∀ j : Nat, i ≤ j → j < a21.length → ((rd_T61 a21 (j : Int)).f0).size ≤ 50) ∧ ∀ j : Nat, j < a24.length → ((rd_T63 a24 (j : Int)).f1).size ≤ 300) := by
  induction m with
  | zero =>
    intro k i hk hm
    obtain ⟨k, rfl⟩ : ∃ j, k = j + 1 := ⟨k - 1, by omega⟩
    simp only [roadbookref07_Few.l0]
    rw [if_neg (by omega)]
    obtain ⟨b, e, hb⟩ := few_l1 a0 a1 a2 a3 a4 a5 a6 a7 a8 a9 a10 a11 a12 a13 a14 a15 a16 a17 a18 a19 a20 a21 a22 a23 a24 hl a24.length k 0 (by omega) (by omega)
    exact ⟨b, e, fun h => ⟨fun j h1 h2 => by omega, fun j h2 => hb h j (by omega) h2⟩⟩
  | succ m ih =>
    intro k i hk hm
    obtain ⟨k, rfl⟩ : ∃ j, k = j + 1 := ⟨k - 1, by omega⟩
    simp only [roadbookref07_Few.l0]
    rw [if_pos (by omega), if_pos (by omega)]
    by_cases c : (((rd_T61 a21 (i : Int)).f0).size : Int) > 50
    · rw [if_pos c]; exact ⟨false, rfl, fun h => (by cases h)⟩
    · rw [if_neg c, wrap64_id (by omega) (by omega)]
      obtain ⟨b, e, hb⟩ := ih k (i + 1) (by omega) (by omega)
      refine ⟨b, e, fun h => ⟨fun j h1 h2 => ?_, (hb h).2⟩⟩
      by_cases d : j = i
      · rw [d]; omega
      · exact (hb h).1 j (by omega) h2
/-- Few tells something, and where it says yes the parts are few and small. -/
theorem few_f (a0 : Int) (a1 : Int) (a2 : Int) (a3 : ByteArray) (a4 : Int) (a5 : Int) (a6 : ByteArray) (a7 : Int) (a8 : Int) (a9 : ByteArray) (a10 : Int) (a11 : ByteArray) (a12 : Int) (a13 : Int) (a14 : Int) (a15 : Int) (a16 : Int) (a17 : Int) (a18 : Int) (a19 : ByteArray) (a20 : ByteArray) (a21 : List S61) (a22 : Int) (a23 : ByteArray) (a24 : List S63) (h3 : a3.size ≤ 140737488351232) (h6 : a6.size ≤ 140737488351232) (h9 : a9.size ≤ 140737488351232) (h11 : a11.size ≤ 140737488351232) (h19 : a19.size ≤ 140737488351232) (h20 : a20.size ≤ 140737488351232) (k : Nat) (hk : 400 ≤ k) :
    ∃ b, roadbookref07_Few.f k a0 a1 a2 a3 a4 a5 a6 a7 a8 a9 a10 a11 a12 a13 a14 a15 a16 a17 a18 a19 a20 a21 a22 a23 a24 = some b ∧ (b = true → a21.length ≤ 300 ∧ a24.length ≤ 60 ∧ a3.size + a6.size ≤ 200 ∧ a9.size + a11.size ≤ 200 ∧ a19.size + a20.size ≤ 200 ∧ a23.size ≤ 300 ∧ (∀ x ∈ a21, x.f0.size ≤ 50) ∧ ∀ x ∈ a24, x.f1.size ≤ 300) := by
  obtain ⟨k, rfl⟩ : ∃ j, k = j + 1 := ⟨k - 1, by omega⟩
  have no : roadbookref07_Few.j0 (k + 1) true a0 a1 a2 a3 a4 a5 a6 a7 a8 a9 a10 a11 a12 a13 a14 a15 a16 a17 a18 a19 a20 a21 a22 a23 a24 = some false := by simp only [roadbookref07_Few.j0, if_true]
  unfold roadbookref07_Few.f
  rw [no, wrap64_id (x := (a3.size : Int) + a6.size) (by omega) (by omega), wrap64_id (x := (a9.size : Int) + a11.size) (by omega) (by omega), wrap64_id (x := (a19.size : Int) + a20.size) (by omega) (by omega)]
  by_cases c1 : (a21.length : Int) > 300
  · rw [if_pos c1]; exact ⟨false, rfl, fun h => (by cases h)⟩
  rw [if_neg c1]
  by_cases c2 : (a24.length : Int) > 60
  · rw [if_pos c2]; exact ⟨false, rfl, fun h => (by cases h)⟩
  rw [if_neg c2]
  by_cases c3 : (a3.size : Int) + a6.size > 200
  · rw [if_pos c3]; exact ⟨false, rfl, fun h => (by cases h)⟩
  rw [if_neg c3]
  by_cases c4 : (a9.size : Int) + a11.size > 200
  · rw [if_pos c4]; exact ⟨false, rfl, fun h => (by cases h)⟩
  rw [if_neg c4]
  by_cases c5 : (a19.size : Int) + a20.size > 200
  · rw [if_pos c5]; exact ⟨false, rfl, fun h => (by cases h)⟩
  rw [if_neg c5]
  by_cases c6 : (a23.size : Int) > 300
  · rw [decide_eq_true c6, no]; exact ⟨false, rfl, fun h => (by cases h)⟩
  rw [decide_eq_false c6]
  simp only [roadbookref07_Few.j0, Bool.false_eq_true, if_false]
  obtain ⟨b, e, hb⟩ := few_l0 a0 a1 a2 a3 a4 a5 a6 a7 a8 a9 a10 a11 a12 a13 a14 a15 a16 a17 a18 a19 a20 a21 a22 a23 a24 (by omega) (by omega) a21.length k 0 (by omega) (by omega)
  exact ⟨b, e, fun h => ⟨by omega, by omega, by omega, by omega, by omega, by omega, rd_mem_61 fun j hj => (hb h).1 j (by omega) hj, rd_mem_63 (hb h).2⟩⟩

theorem pdests_l (l m : List S61) (hm : l.length = m.length) (hl : l.length ≤ 1000000) (q : Nat) : ∀ (k i : Nat), q < k → l.length - i = q → ∃ b, api_Dest.l0 k l m (l.length : Int) i = some b ∧ (b = true ↔ ∀ j : Nat, i ≤ j → j < l.length → rd_T61 l (j : Int) = rd_T61 m (j : Int)) := by
  induction q with
  | zero =>
    intro k i hk hq
    obtain ⟨k, rfl⟩ : ∃ j, k = j + 1 := ⟨k - 1, by omega⟩
    simp only [api_Dest.l0]
    rw [if_neg (by omega)]
    exact ⟨true, rfl, ⟨fun _ j h1 h2 => by omega, fun _ => rfl⟩⟩
  | succ q ih =>
    intro k i hk hq
    obtain ⟨k, rfl⟩ : ∃ j, k = j + 1 := ⟨k - 1, by omega⟩
    simp only [api_Dest.l0]
    rw [if_pos (by omega), if_pos (by omega), if_pos (by omega), if_pos (by omega)]
    have key : (!((((rd_T61 l (i : Int)).f0).toList) == (((rd_T61 m (i : Int)).f0).toList)) || (!(((rd_T61 l (i : Int)).f1) == ((rd_T61 m (i : Int)).f1)))) = true ↔ ¬ rd_T61 l (i : Int) = rd_T61 m (i : Int) := by
      obtain ⟨x0, x1⟩ := rd_T61 l (i : Int)
      obtain ⟨y0, y1⟩ := rd_T61 m (i : Int)
      simp only [S61.mk.injEq, Bool.or_eq_true, Bool.not_eq_true', beq_eq_false_iff_ne, ne_eq, toList_inj]
      by_cases p : x0 = y0 <;> by_cases r : x1 = y1 <;> simp [p, r]
    by_cases c : rd_T61 l (i : Int) = rd_T61 m (i : Int)
    · rw [if_neg (fun h => key.mp h c), wrap64_id (by omega) (by omega)]
      obtain ⟨b, e, hb⟩ := ih k (i + 1) (by omega) (by omega)
      refine ⟨b, e, hb.trans ⟨fun h j h1 h2 => ?_, fun h j h1 h2 => h j (by omega) h2⟩⟩
      by_cases d : j = i
      · rw [d]; exact c
      · exact h j (by omega) h2
    · rw [if_pos (key.mpr c)]
      exact ⟨false, rfl, ⟨fun h => (by cases h), fun h => absurd (h i (by omega) (by omega)) c⟩⟩
theorem pdests_f (l m : List S61) (hl : l.length ≤ 1000000) (k : Nat) (hk : l.length < k) : ∃ b, api_Dest.f k l m = some b ∧ (b = true ↔ l = m) := by
  unfold api_Dest.f
  by_cases c : l.length = m.length
  · rw [if_pos (by omega)]
    obtain ⟨b, e, hb⟩ := pdests_l l m c hl l.length k 0 hk (by omega)
    refine ⟨b, e, hb.trans ⟨fun h => ?_, fun h j _ _ => by rw [h]⟩⟩
    apply List.ext_getElem c
    intro i h1 h2
    have := h i (by omega) h1
    unfold rd_T61 at this
    rwa [Int.toNat_natCast, List.getD_eq_getElem?_getD, List.getD_eq_getElem?_getD, List.getElem?_eq_getElem h1, List.getElem?_eq_getElem h2] at this
  · rw [if_neg (by omega)]
    exact ⟨false, rfl, ⟨fun h => (by cases h), fun h => absurd (by rw [h]) c⟩⟩
theorem psubsl_l (l m : List S63) (hm : l.length = m.length) (hl : l.length ≤ 1000000) (q : Nat) : ∀ (k i : Nat), q < k → l.length - i = q → ∃ b, api_Sub.l0 k l m (l.length : Int) i = some b ∧ (b = true ↔ ∀ j : Nat, i ≤ j → j < l.length → rd_T63 l (j : Int) = rd_T63 m (j : Int)) := by
  induction q with
  | zero =>
    intro k i hk hq
    obtain ⟨k, rfl⟩ : ∃ j, k = j + 1 := ⟨k - 1, by omega⟩
    simp only [api_Sub.l0]
    rw [if_neg (by omega)]
    exact ⟨true, rfl, ⟨fun _ j h1 h2 => by omega, fun _ => rfl⟩⟩
  | succ q ih =>
    intro k i hk hq
    obtain ⟨k, rfl⟩ : ∃ j, k = j + 1 := ⟨k - 1, by omega⟩
    simp only [api_Sub.l0]
    rw [if_pos (by omega), if_pos (by omega), if_pos (by omega), if_pos (by omega)]
    have key : (!(((rd_T63 l (i : Int)).f0) == ((rd_T63 m (i : Int)).f0)) || (!((((rd_T63 l (i : Int)).f1).toList) == (((rd_T63 m (i : Int)).f1).toList)))) = true ↔ ¬ rd_T63 l (i : Int) = rd_T63 m (i : Int) := by
      obtain ⟨x0, x1⟩ := rd_T63 l (i : Int)
      obtain ⟨y0, y1⟩ := rd_T63 m (i : Int)
      simp only [S63.mk.injEq, Bool.or_eq_true, Bool.not_eq_true', beq_eq_false_iff_ne, ne_eq, toList_inj]
      by_cases p : x0 = y0 <;> by_cases r : x1 = y1 <;> simp [p, r]
    by_cases c : rd_T63 l (i : Int) = rd_T63 m (i : Int)
    · rw [if_neg (fun h => key.mp h c), wrap64_id (by omega) (by omega)]
      obtain ⟨b, e, hb⟩ := ih k (i + 1) (by omega) (by omega)
      refine ⟨b, e, hb.trans ⟨fun h j h1 h2 => ?_, fun h j h1 h2 => h j (by omega) h2⟩⟩
      by_cases d : j = i
      · rw [d]; exact c
      · exact h j (by omega) h2
    · rw [if_pos (key.mpr c)]
      exact ⟨false, rfl, ⟨fun h => (by cases h), fun h => absurd (h i (by omega) (by omega)) c⟩⟩
theorem psubsl_f (l m : List S63) (hl : l.length ≤ 1000000) (k : Nat) (hk : l.length < k) : ∃ b, api_Sub.f k l m = some b ∧ (b = true ↔ l = m) := by
  unfold api_Sub.f
  by_cases c : l.length = m.length
  · rw [if_pos (by omega)]
    obtain ⟨b, e, hb⟩ := psubsl_l l m c hl l.length k 0 hk (by omega)
    refine ⟨b, e, hb.trans ⟨fun h => ?_, fun h j _ _ => by rw [h]⟩⟩
    apply List.ext_getElem c
    intro i h1 h2
    have := h i (by omega) h1
    unfold rd_T63 at this
    rwa [Int.toNat_natCast, List.getD_eq_getElem?_getD, List.getD_eq_getElem?_getD, List.getElem?_eq_getElem h1, List.getElem?_eq_getElem h2] at this
  · rw [if_neg (by omega)]
    exact ⟨false, rfl, ⟨fun h => (by cases h), fun h => absurd (by rw [h]) c⟩⟩
/-- The program's Same tells whether all fields are the same. -/
theorem msame_f (a0 : Int) (a1 : Int) (a2 : Int) (a3 : ByteArray) (a4 : Int) (a5 : Int) (a6 : ByteArray) (a7 : Int) (a8 : Int) (a9 : ByteArray) (a10 : Int) (a11 : ByteArray) (a12 : Int) (a13 : Int) (a14 : Int) (a15 : Int) (a16 : Int) (a17 : Int) (a18 : Int) (a19 : ByteArray) (a20 : ByteArray) (a21 : List S61) (a22 : Int) (a23 : ByteArray) (a24 : List S63) (b0 : Int) (b1 : Int) (b2 : Int) (b3 : ByteArray) (b4 : Int) (b5 : Int) (b6 : ByteArray) (b7 : Int) (b8 : Int) (b9 : ByteArray) (b10 : Int) (b11 : ByteArray) (b12 : Int) (b13 : Int) (b14 : Int) (b15 : Int) (b16 : Int) (b17 : Int) (b18 : Int) (b19 : ByteArray) (b20 : ByteArray) (b21 : List S61) (b22 : Int) (b23 : ByteArray) (b24 : List S63) (hd : a21.length ≤ 1000000) (hl : a24.length ≤ 1000000) (k : Nat) (hk : a21.length + a24.length + 3 ≤ k) :
    ∃ r, msg_Same.f k a0 a1 a2 a3 a4 a5 a6 a7 a8 a9 a10 a11 a12 a13 a14 a15 a16 a17 a18 a19 a20 a21 a22 a23 a24 b0 b1 b2 b3 b4 b5 b6 b7 b8 b9 b10 b11 b12 b13 b14 b15 b16 b17 b18 b19 b20 b21 b22 b23 b24 = some r ∧ (r = true ↔ a0 = b0 ∧ a1 = b1 ∧ a2 = b2 ∧ a3 = b3 ∧ a4 = b4 ∧ a5 = b5 ∧ a6 = b6 ∧ a7 = b7 ∧ a8 = b8 ∧ a9 = b9 ∧ a10 = b10 ∧ a11 = b11 ∧ a12 = b12 ∧ a13 = b13 ∧ a14 = b14 ∧ a15 = b15 ∧ a16 = b16 ∧ a17 = b17 ∧ a18 = b18 ∧ a19 = b19 ∧ a20 = b20 ∧ a21 = b21 ∧ a22 = b22 ∧ a23 = b23 ∧ a24 = b24) := by
  unfold msg_Same.f msg_strip.f
  rw [Option.bind_some, Option.bind_some]
  dsimp only
  have key : ((a0 == b0) && ((a1 == b1) && ((a2 == b2) && ((a4 == b4) && ((a5 == b5) && ((a7 == b7) && ((a8 == b8) && ((a10 == b10) && ((a12 == b12) && ((a13 == b13) && ((a14 == b14) && ((a15 == b15) && ((a16 == b16) && ((a17 == b17) && ((a18 == b18) && ((a22 == b22) && ((a3.toList == b3.toList) && ((a6.toList == b6.toList) && ((a9.toList == b9.toList) && ((a11.toList == b11.toList) && ((a19.toList == b19.toList) && ((a20.toList == b20.toList) && ((a23.toList == b23.toList)))))))))))))))))))))))) = true ↔ (a0 = b0 ∧ a1 = b1 ∧ a2 = b2 ∧ a4 = b4 ∧ a5 = b5 ∧ a7 = b7 ∧ a8 = b8 ∧ a10 = b10 ∧ a12 = b12 ∧ a13 = b13 ∧ a14 = b14 ∧ a15 = b15 ∧ a16 = b16 ∧ a17 = b17 ∧ a18 = b18 ∧ a22 = b22 ∧ a3 = b3 ∧ a6 = b6 ∧ a9 = b9 ∧ a11 = b11 ∧ a19 = b19 ∧ a20 = b20 ∧ a23 = b23) := by
    simp only [Bool.and_eq_true, beq_iff_eq, toList_inj]
  by_cases c : ((a0 == b0) && ((a1 == b1) && ((a2 == b2) && ((a4 == b4) && ((a5 == b5) && ((a7 == b7) && ((a8 == b8) && ((a10 == b10) && ((a12 == b12) && ((a13 == b13) && ((a14 == b14) && ((a15 == b15) && ((a16 == b16) && ((a17 == b17) && ((a18 == b18) && ((a22 == b22) && ((a3.toList == b3.toList) && ((a6.toList == b6.toList) && ((a9.toList == b9.toList) && ((a11.toList == b11.toList) && ((a19.toList == b19.toList) && ((a20.toList == b20.toList) && ((a23.toList == b23.toList)))))))))))))))))))))))) = true
  · rw [if_pos c]
    obtain ⟨c0, c1, c2, c4, c5, c7, c8, c10, c12, c13, c14, c15, c16, c17, c18, c22, c3, c6, c9, c11, c19, c20, c23⟩ := key.mp c
    obtain ⟨x, e1, hx⟩ := pdests_f a21 b21 hd k (by omega)
    rw [e1, Option.bind_some]
    cases x with
    | false => rw [if_neg (by decide)]; exact ⟨false, rfl, ⟨fun h => (by cases h), fun h => absurd (hx.mpr h.2.2.2.2.2.2.2.2.2.2.2.2.2.2.2.2.2.2.2.2.2.1) (by decide)⟩⟩
    | true =>
      rw [if_pos rfl]
      have c21 := hx.mp rfl
      obtain ⟨y, e2, hy⟩ := psubsl_f a24 b24 hl k (by omega)
      rw [e2, Option.bind_some]
      exact ⟨y, rfl, ⟨fun h => ⟨c0, c1, c2, c3, c4, c5, c6, c7, c8, c9, c10, c11, c12, c13, c14, c15, c16, c17, c18, c19, c20, c21, c22, c23, hy.mp h⟩, fun h => hy.mpr h.2.2.2.2.2.2.2.2.2.2.2.2.2.2.2.2.2.2.2.2.2.2.2.2⟩⟩
  · rw [if_neg c]
    exact ⟨false, rfl, ⟨fun h => (by cases h), fun h => absurd (key.mpr ⟨h.1, h.2.1, h.2.2.1, h.2.2.2.2.1, h.2.2.2.2.2.1, h.2.2.2.2.2.2.2.1, h.2.2.2.2.2.2.2.2.1, h.2.2.2.2.2.2.2.2.2.2.1, h.2.2.2.2.2.2.2.2.2.2.2.2.1, h.2.2.2.2.2.2.2.2.2.2.2.2.2.1, h.2.2.2.2.2.2.2.2.2.2.2.2.2.2.1, h.2.2.2.2.2.2.2.2.2.2.2.2.2.2.2.1, h.2.2.2.2.2.2.2.2.2.2.2.2.2.2.2.2.1, h.2.2.2.2.2.2.2.2.2.2.2.2.2.2.2.2.2.1, h.2.2.2.2.2.2.2.2.2.2.2.2.2.2.2.2.2.2.1, h.2.2.2.2.2.2.2.2.2.2.2.2.2.2.2.2.2.2.2.2.2.2.1, h.2.2.2.1, h.2.2.2.2.2.2.1, h.2.2.2.2.2.2.2.2.2.1, h.2.2.2.2.2.2.2.2.2.2.2.1, h.2.2.2.2.2.2.2.2.2.2.2.2.2.2.2.2.2.2.2.1, h.2.2.2.2.2.2.2.2.2.2.2.2.2.2.2.2.2.2.2.2.1, h.2.2.2.2.2.2.2.2.2.2.2.2.2.2.2.2.2.2.2.2.2.2.2.1⟩) c⟩⟩

theorem dests_l (l m : List S61) (hm : l.length = m.length) (hl : l.length ≤ 1000000) (q : Nat) : ∀ (k i : Nat), q < k → l.length - i = q → ∃ b, roadbookref07_dests.l0 k l m i = some b ∧ (b = true ↔ ∀ j : Nat, i ≤ j → j < l.length → rd_T61 l (j : Int) = rd_T61 m (j : Int)) := by
  induction q with
  | zero =>
    intro k i hk hq
    obtain ⟨k, rfl⟩ : ∃ j, k = j + 1 := ⟨k - 1, by omega⟩
    simp only [roadbookref07_dests.l0]
    rw [if_neg (by omega)]
    exact ⟨true, rfl, ⟨fun _ j h1 h2 => by omega, fun _ => rfl⟩⟩
  | succ q ih =>
    intro k i hk hq
    obtain ⟨k, rfl⟩ : ∃ j, k = j + 1 := ⟨k - 1, by omega⟩
    simp only [roadbookref07_dests.l0]
    rw [if_pos (by omega), if_pos (by omega), if_pos (by omega)]
    have key : (!((((rd_T61 l (i : Int)).f0).toList) == (((rd_T61 m (i : Int)).f0).toList)) || (!(((rd_T61 l (i : Int)).f1) == ((rd_T61 m (i : Int)).f1)))) = true ↔ ¬ rd_T61 l (i : Int) = rd_T61 m (i : Int) := by
      obtain ⟨x0, x1⟩ := rd_T61 l (i : Int)
      obtain ⟨y0, y1⟩ := rd_T61 m (i : Int)
      simp only [S61.mk.injEq, Bool.or_eq_true, Bool.not_eq_true', beq_eq_false_iff_ne, ne_eq, toList_inj]
      by_cases p : x0 = y0 <;> by_cases r : x1 = y1 <;> simp [p, r]
    by_cases c : rd_T61 l (i : Int) = rd_T61 m (i : Int)
    · rw [if_neg (fun h => key.mp h c), wrap64_id (by omega) (by omega)]
      obtain ⟨b, e, hb⟩ := ih k (i + 1) (by omega) (by omega)
      refine ⟨b, e, hb.trans ⟨fun h j h1 h2 => ?_, fun h j h1 h2 => h j (by omega) h2⟩⟩
      by_cases d : j = i
      · rw [d]; exact c
      · exact h j (by omega) h2
    · rw [if_pos (key.mpr c)]
      exact ⟨false, rfl, ⟨fun h => (by cases h), fun h => absurd (h i (by omega) (by omega)) c⟩⟩
theorem dests_f (l m : List S61) (hl : l.length ≤ 1000000) (k : Nat) (hk : l.length < k) : ∃ b, roadbookref07_dests.f k l m = some b ∧ (b = true ↔ l = m) := by
  unfold roadbookref07_dests.f
  by_cases c : l.length = m.length
  · rw [if_pos (by omega)]
    obtain ⟨b, e, hb⟩ := dests_l l m c hl l.length k 0 hk (by omega)
    refine ⟨b, e, hb.trans ⟨fun h => ?_, fun h j _ _ => by rw [h]⟩⟩
    apply List.ext_getElem c
    intro i h1 h2
    have := h i (by omega) h1
    unfold rd_T61 at this
    rwa [Int.toNat_natCast, List.getD_eq_getElem?_getD, List.getD_eq_getElem?_getD, List.getElem?_eq_getElem h1, List.getElem?_eq_getElem h2] at this
  · rw [if_neg (by omega)]
    exact ⟨false, rfl, ⟨fun h => (by cases h), fun h => absurd (by rw [h]) c⟩⟩
theorem subs_l (l m : List S63) (hm : l.length = m.length) (hl : l.length ≤ 1000000) (q : Nat) : ∀ (k i : Nat), q < k → l.length - i = q → ∃ b, roadbookref07_subs.l0 k l m i = some b ∧ (b = true ↔ ∀ j : Nat, i ≤ j → j < l.length → rd_T63 l (j : Int) = rd_T63 m (j : Int)) := by
  induction q with
  | zero =>
    intro k i hk hq
    obtain ⟨k, rfl⟩ : ∃ j, k = j + 1 := ⟨k - 1, by omega⟩
    simp only [roadbookref07_subs.l0]
    rw [if_neg (by omega)]
    exact ⟨true, rfl, ⟨fun _ j h1 h2 => by omega, fun _ => rfl⟩⟩
  | succ q ih =>
    intro k i hk hq
    obtain ⟨k, rfl⟩ : ∃ j, k = j + 1 := ⟨k - 1, by omega⟩
    simp only [roadbookref07_subs.l0]
    rw [if_pos (by omega), if_pos (by omega), if_pos (by omega)]
    have key : (!(((rd_T63 l (i : Int)).f0) == ((rd_T63 m (i : Int)).f0)) || (!((((rd_T63 l (i : Int)).f1).toList) == (((rd_T63 m (i : Int)).f1).toList)))) = true ↔ ¬ rd_T63 l (i : Int) = rd_T63 m (i : Int) := by
      obtain ⟨x0, x1⟩ := rd_T63 l (i : Int)
      obtain ⟨y0, y1⟩ := rd_T63 m (i : Int)
      simp only [S63.mk.injEq, Bool.or_eq_true, Bool.not_eq_true', beq_eq_false_iff_ne, ne_eq, toList_inj]
      by_cases p : x0 = y0 <;> by_cases r : x1 = y1 <;> simp [p, r]
    by_cases c : rd_T63 l (i : Int) = rd_T63 m (i : Int)
    · rw [if_neg (fun h => key.mp h c), wrap64_id (by omega) (by omega)]
      obtain ⟨b, e, hb⟩ := ih k (i + 1) (by omega) (by omega)
      refine ⟨b, e, hb.trans ⟨fun h j h1 h2 => ?_, fun h j h1 h2 => h j (by omega) h2⟩⟩
      by_cases d : j = i
      · rw [d]; exact c
      · exact h j (by omega) h2
    · rw [if_pos (key.mpr c)]
      exact ⟨false, rfl, ⟨fun h => (by cases h), fun h => absurd (h i (by omega) (by omega)) c⟩⟩
theorem subs_f (l m : List S63) (hl : l.length ≤ 1000000) (k : Nat) (hk : l.length < k) : ∃ b, roadbookref07_subs.f k l m = some b ∧ (b = true ↔ l = m) := by
  unfold roadbookref07_subs.f
  by_cases c : l.length = m.length
  · rw [if_pos (by omega)]
    obtain ⟨b, e, hb⟩ := subs_l l m c hl l.length k 0 hk (by omega)
    refine ⟨b, e, hb.trans ⟨fun h => ?_, fun h j _ _ => by rw [h]⟩⟩
    apply List.ext_getElem c
    intro i h1 h2
    have := h i (by omega) h1
    unfold rd_T63 at this
    rwa [Int.toNat_natCast, List.getD_eq_getElem?_getD, List.getD_eq_getElem?_getD, List.getElem?_eq_getElem h1, List.getElem?_eq_getElem h2] at this
  · rw [if_neg (by omega)]
    exact ⟨false, rfl, ⟨fun h => (by cases h), fun h => absurd (by rw [h]) c⟩⟩
/-- The reference's Same tells whether all fields are the same. -/
theorem same_f (a0 : Int) (a1 : Int) (a2 : Int) (a3 : ByteArray) (a4 : Int) (a5 : Int) (a6 : ByteArray) (a7 : Int) (a8 : Int) (a9 : ByteArray) (a10 : Int) (a11 : ByteArray) (a12 : Int) (a13 : Int) (a14 : Int) (a15 : Int) (a16 : Int) (a17 : Int) (a18 : Int) (a19 : ByteArray) (a20 : ByteArray) (a21 : List S61) (a22 : Int) (a23 : ByteArray) (a24 : List S63) (b0 : Int) (b1 : Int) (b2 : Int) (b3 : ByteArray) (b4 : Int) (b5 : Int) (b6 : ByteArray) (b7 : Int) (b8 : Int) (b9 : ByteArray) (b10 : Int) (b11 : ByteArray) (b12 : Int) (b13 : Int) (b14 : Int) (b15 : Int) (b16 : Int) (b17 : Int) (b18 : Int) (b19 : ByteArray) (b20 : ByteArray) (b21 : List S61) (b22 : Int) (b23 : ByteArray) (b24 : List S63) (hd : a21.length ≤ 1000000) (hl : a24.length ≤ 1000000) (k : Nat) (hk : a21.length + a24.length + 3 ≤ k) :
    ∃ r, roadbookref07_Same.f k a0 a1 a2 a3 a4 a5 a6 a7 a8 a9 a10 a11 a12 a13 a14 a15 a16 a17 a18 a19 a20 a21 a22 a23 a24 b0 b1 b2 b3 b4 b5 b6 b7 b8 b9 b10 b11 b12 b13 b14 b15 b16 b17 b18 b19 b20 b21 b22 b23 b24 = some r ∧ (r = true ↔ a0 = b0 ∧ a1 = b1 ∧ a2 = b2 ∧ a3 = b3 ∧ a4 = b4 ∧ a5 = b5 ∧ a6 = b6 ∧ a7 = b7 ∧ a8 = b8 ∧ a9 = b9 ∧ a10 = b10 ∧ a11 = b11 ∧ a12 = b12 ∧ a13 = b13 ∧ a14 = b14 ∧ a15 = b15 ∧ a16 = b16 ∧ a17 = b17 ∧ a18 = b18 ∧ a19 = b19 ∧ a20 = b20 ∧ a21 = b21 ∧ a22 = b22 ∧ a23 = b23 ∧ a24 = b24) := by
  obtain ⟨k, rfl⟩ : ∃ j, k = j + 2 := ⟨k - 2, by omega⟩
  have no1 : roadbookref07_Same.j1 (k + 1) true a0 a1 a2 a3 a4 a5 a6 a7 a8 a9 a10 a11 a12 a13 a14 a15 a16 a17 a18 a19 a20 a21 a22 a23 a24 b0 b1 b2 b3 b4 b5 b6 b7 b8 b9 b10 b11 b12 b13 b14 b15 b16 b17 b18 b19 b20 b21 b22 b23 b24 = some false := by simp only [roadbookref07_Same.j1, if_true]
  have no0 : roadbookref07_Same.j0 (k + 2) true a0 a1 a2 a3 a4 a5 a6 a7 a8 a9 a10 a11 a12 a13 a14 a15 a16 a17 a18 a19 a20 a21 a22 a23 a24 b0 b1 b2 b3 b4 b5 b6 b7 b8 b9 b10 b11 b12 b13 b14 b15 b16 b17 b18 b19 b20 b21 b22 b23 b24 = some false := by simp only [roadbookref07_Same.j0, if_true]
  unfold roadbookref07_Same.f
  rw [no0]
  by_cases c0 : a0 = b0
  rotate_left
  · rw [if_neg c0]; exact ⟨false, rfl, ⟨fun h => (by cases h), fun h => absurd (h.1) c0⟩⟩
  rw [if_pos c0]
  by_cases c1 : a1 = b1
  rotate_left
  · rw [if_neg c1]; exact ⟨false, rfl, ⟨fun h => (by cases h), fun h => absurd (h.2.1) c1⟩⟩
  rw [if_pos c1]
  by_cases c2 : a2 = b2
  rotate_left
  · rw [if_neg c2]; exact ⟨false, rfl, ⟨fun h => (by cases h), fun h => absurd (h.2.2.1) c2⟩⟩
  rw [if_pos c2]
  by_cases c3 : a3.toList = b3.toList
  rotate_left
  · rw [if_neg c3]; exact ⟨false, rfl, ⟨fun h => (by cases h), fun h => absurd (congrArg ByteArray.toList (h.2.2.2.1)) c3⟩⟩
  rw [if_pos c3]
  by_cases c4 : a4 = b4
  rotate_left
  · rw [if_neg c4]; exact ⟨false, rfl, ⟨fun h => (by cases h), fun h => absurd (h.2.2.2.2.1) c4⟩⟩
  rw [if_pos c4]
  by_cases c5 : a5 = b5
  rotate_left
  · rw [if_neg c5]; exact ⟨false, rfl, ⟨fun h => (by cases h), fun h => absurd (h.2.2.2.2.2.1) c5⟩⟩
  rw [if_pos c5]
  by_cases c6 : a6.toList = b6.toList
  rotate_left
  · rw [if_neg c6]; exact ⟨false, rfl, ⟨fun h => (by cases h), fun h => absurd (congrArg ByteArray.toList (h.2.2.2.2.2.2.1)) c6⟩⟩
  rw [if_pos c6]
  by_cases c7 : a7 = b7
  rotate_left
  · rw [if_neg c7]; exact ⟨false, rfl, ⟨fun h => (by cases h), fun h => absurd (h.2.2.2.2.2.2.2.1) c7⟩⟩
  rw [if_pos c7]
  by_cases c8 : a8 = b8
  rotate_left
  · rw [if_neg c8]; exact ⟨false, rfl, ⟨fun h => (by cases h), fun h => absurd (h.2.2.2.2.2.2.2.2.1) c8⟩⟩
  rw [if_pos c8]
  by_cases c9 : a9.toList = b9.toList
  rotate_left
  · rw [if_neg c9]; exact ⟨false, rfl, ⟨fun h => (by cases h), fun h => absurd (congrArg ByteArray.toList (h.2.2.2.2.2.2.2.2.2.1)) c9⟩⟩
  rw [if_pos c9]
  by_cases c10 : a10 = b10
  rotate_left
  · rw [bne_iff_ne.mpr c10, no0]; exact ⟨false, rfl, ⟨fun h => (by cases h), fun h => absurd h.2.2.2.2.2.2.2.2.2.2.1 c10⟩⟩
  rw [bne_eq_false_iff_eq.mpr c10]
  simp only [roadbookref07_Same.j0, Bool.false_eq_true, if_false]
  rw [no1]
  by_cases c11 : a11.toList = b11.toList
  rotate_left
  · rw [if_neg c11]; exact ⟨false, rfl, ⟨fun h => (by cases h), fun h => absurd (congrArg ByteArray.toList (h.2.2.2.2.2.2.2.2.2.2.2.1)) c11⟩⟩
  rw [if_pos c11]
  by_cases c12 : a12 = b12
  rotate_left
  · rw [if_neg c12]; exact ⟨false, rfl, ⟨fun h => (by cases h), fun h => absurd (h.2.2.2.2.2.2.2.2.2.2.2.2.1) c12⟩⟩
  rw [if_pos c12]
  by_cases c13 : a13 = b13
  rotate_left
  · rw [if_neg c13]; exact ⟨false, rfl, ⟨fun h => (by cases h), fun h => absurd (h.2.2.2.2.2.2.2.2.2.2.2.2.2.1) c13⟩⟩
  rw [if_pos c13]
  by_cases c14 : a14 = b14
  rotate_left
  · rw [if_neg c14]; exact ⟨false, rfl, ⟨fun h => (by cases h), fun h => absurd (h.2.2.2.2.2.2.2.2.2.2.2.2.2.2.1) c14⟩⟩
  rw [if_pos c14]
  by_cases c15 : a15 = b15
  rotate_left
  · rw [if_neg c15]; exact ⟨false, rfl, ⟨fun h => (by cases h), fun h => absurd (h.2.2.2.2.2.2.2.2.2.2.2.2.2.2.2.1) c15⟩⟩
  rw [if_pos c15]
  by_cases c16 : a16 = b16
  rotate_left
  · rw [if_neg c16]; exact ⟨false, rfl, ⟨fun h => (by cases h), fun h => absurd (h.2.2.2.2.2.2.2.2.2.2.2.2.2.2.2.2.1) c16⟩⟩
  rw [if_pos c16]
  by_cases c17 : a17 = b17
  rotate_left
  · rw [if_neg c17]; exact ⟨false, rfl, ⟨fun h => (by cases h), fun h => absurd (h.2.2.2.2.2.2.2.2.2.2.2.2.2.2.2.2.2.1) c17⟩⟩
  rw [if_pos c17]
  by_cases c18 : a18 = b18
  rotate_left
  · rw [if_neg c18]; exact ⟨false, rfl, ⟨fun h => (by cases h), fun h => absurd (h.2.2.2.2.2.2.2.2.2.2.2.2.2.2.2.2.2.2.1) c18⟩⟩
  rw [if_pos c18]
  by_cases c19 : a19.toList = b19.toList
  rotate_left
  · rw [if_neg c19]; exact ⟨false, rfl, ⟨fun h => (by cases h), fun h => absurd (congrArg ByteArray.toList (h.2.2.2.2.2.2.2.2.2.2.2.2.2.2.2.2.2.2.2.1)) c19⟩⟩
  rw [if_pos c19]
  by_cases c20 : a20.toList = b20.toList
  rotate_left
  · rw [if_neg c20]; exact ⟨false, rfl, ⟨fun h => (by cases h), fun h => absurd (congrArg ByteArray.toList (h.2.2.2.2.2.2.2.2.2.2.2.2.2.2.2.2.2.2.2.2.1)) c20⟩⟩
  rw [if_pos c20]
  by_cases c22 : a22 = b22
  rotate_left
  · rw [if_neg c22]; exact ⟨false, rfl, ⟨fun h => (by cases h), fun h => absurd (h.2.2.2.2.2.2.2.2.2.2.2.2.2.2.2.2.2.2.2.2.2.2.1) c22⟩⟩
  rw [if_pos c22]
  by_cases c23 : a23.toList = b23.toList
  rotate_left
  · rw [bne_iff_ne.mpr c23, no1]; exact ⟨false, rfl, ⟨fun h => (by cases h), fun h => absurd (congrArg ByteArray.toList h.2.2.2.2.2.2.2.2.2.2.2.2.2.2.2.2.2.2.2.2.2.2.2.1) c23⟩⟩
  rw [bne_eq_false_iff_eq.mpr c23]
  simp only [roadbookref07_Same.j1, Bool.false_eq_true, if_false]
  obtain ⟨x, ex, hx⟩ := dests_f a21 b21 hd k (by omega)
  obtain ⟨y, ey, hy⟩ := subs_f a24 b24 hl k (by omega)
  rw [ex, ey, Option.bind_some, Option.bind_some]
  have e3 := toList_inj.mp c3
  have e6 := toList_inj.mp c6
  have e9 := toList_inj.mp c9
  have e11 := toList_inj.mp c11
  have e19 := toList_inj.mp c19
  have e20 := toList_inj.mp c20
  have e23 := toList_inj.mp c23
  cases x with
  | false => rw [if_neg (by decide)]; exact ⟨false, rfl, ⟨fun h => (by cases h), fun h => absurd (hx.mpr h.2.2.2.2.2.2.2.2.2.2.2.2.2.2.2.2.2.2.2.2.2.1) (by decide)⟩⟩
  | true =>
    rw [if_pos rfl]
    have c21 := hx.mp rfl
    exact ⟨y, rfl, ⟨fun h => ⟨c0, c1, c2, e3, c4, c5, e6, c7, c8, e9, c10, e11, c12, c13, c14, c15, c16, c17, c18, e19, e20, c21, c22, e23, hy.mp h⟩, fun h => hy.mpr h.2.2.2.2.2.2.2.2.2.2.2.2.2.2.2.2.2.2.2.2.2.2.2.2⟩⟩
/-- Messages that are the same are told so. -/
theorem same_self (a0 : Int) (a1 : Int) (a2 : Int) (a3 : ByteArray) (a4 : Int) (a5 : Int) (a6 : ByteArray) (a7 : Int) (a8 : Int) (a9 : ByteArray) (a10 : Int) (a11 : ByteArray) (a12 : Int) (a13 : Int) (a14 : Int) (a15 : Int) (a16 : Int) (a17 : Int) (a18 : Int) (a19 : ByteArray) (a20 : ByteArray) (a21 : List S61) (a22 : Int) (a23 : ByteArray) (a24 : List S63) (hd : a21.length ≤ 1000000) (hl : a24.length ≤ 1000000) (k : Nat) (hk : a21.length + a24.length + 3 ≤ k) : roadbookref07_Same.f k a0 a1 a2 a3 a4 a5 a6 a7 a8 a9 a10 a11 a12 a13 a14 a15 a16 a17 a18 a19 a20 a21 a22 a23 a24 a0 a1 a2 a3 a4 a5 a6 a7 a8 a9 a10 a11 a12 a13 a14 a15 a16 a17 a18 a19 a20 a21 a22 a23 a24 = some true := by
  obtain ⟨r, e, hr⟩ := same_f a0 a1 a2 a3 a4 a5 a6 a7 a8 a9 a10 a11 a12 a13 a14 a15 a16 a17 a18 a19 a20 a21 a22 a23 a24 a0 a1 a2 a3 a4 a5 a6 a7 a8 a9 a10 a11 a12 a13 a14 a15 a16 a17 a18 a19 a20 a21 a22 a23 a24 hd hl k hk
  rw [e, hr.mpr ⟨rfl, rfl, rfl, rfl, rfl, rfl, rfl, rfl, rfl, rfl, rfl, rfl, rfl, rfl, rfl, rfl, rfl, rfl, rfl, rfl, rfl, rfl, rfl, rfl, rfl⟩]

theorem bareq1 (a1 : Int) (a2 : Int) (a3 : ByteArray) (a4 : Int) (a5 : Int) (a6 : ByteArray) (a7 : Int) (a8 : Int) (a9 : ByteArray) (a10 : Int) (a11 : ByteArray) (a12 : Int) (a13 : Int) (a14 : Int) (a15 : Int) (a16 : Int) (a17 : Int) (a18 : Int) (a19 : ByteArray) (a20 : ByteArray) (a21 : List S61) (a22 : Int) (a23 : ByteArray) (a24 : List S63) : msg_Bare.b 1 a1 a2 a3 a4 a5 a6 a7 a8 a9 a10 a11 a12 a13 a14 a15 a16 a17 a18 a19 a20 a21 a22 a23 a24 = true ↔ (a5 = 0 ∧ a11 = (⟨#[]⟩ : ByteArray) ∧ a12 = 0 ∧ a13 = 0 ∧ a14 = 0 ∧ a15 = 0 ∧ a16 = 0 ∧ a17 = 0 ∧ a18 = 0 ∧ a19 = (⟨#[]⟩ : ByteArray) ∧ a20 = (⟨#[]⟩ : ByteArray) ∧ a21 = ([] : List S61) ∧ a22 = 0 ∧ a23 = (⟨#[]⟩ : ByteArray) ∧ a24 = ([] : List S63)) := by
  rw [msg_Bare.b1]
  unfold msg_Bare.z
  simp only [Bool.and_eq_true, beq_iff_eq, beq_self_eq_true, toList_inj, true_and, and_true, Int.natCast_eq_zero, List.length_eq_zero_iff]
  constructor
  · intro h
    simp only [h, and_self]
  · intro h
    simp only [h, and_self]

theorem refbareq1 (a1 : Int) (a2 : Int) (a3 : ByteArray) (a4 : Int) (a5 : Int) (a6 : ByteArray) (a7 : Int) (a8 : Int) (a9 : ByteArray) (a10 : Int) (a11 : ByteArray) (a12 : Int) (a13 : Int) (a14 : Int) (a15 : Int) (a16 : Int) (a17 : Int) (a18 : Int) (a19 : ByteArray) (a20 : ByteArray) (a21 : List S61) (a22 : Int) (a23 : ByteArray) (a24 : List S63) (hd : a21.length ≤ 1000000) (hl : a24.length ≤ 1000000) (k : Nat) (hk : a21.length + a24.length + 2 < k) : ∃ r, roadbookref07_Bare.f k 1 a1 a2 a3 a4 a5 a6 a7 a8 a9 a10 a11 a12 a13 a14 a15 a16 a17 a18 a19 a20 a21 a22 a23 a24 = some r ∧ (r = true ↔ (a5 = 0 ∧ a11 = (⟨#[]⟩ : ByteArray) ∧ a12 = 0 ∧ a13 = 0 ∧ a14 = 0 ∧ a15 = 0 ∧ a16 = 0 ∧ a17 = 0 ∧ a18 = 0 ∧ a19 = (⟨#[]⟩ : ByteArray) ∧ a20 = (⟨#[]⟩ : ByteArray) ∧ a21 = ([] : List S61) ∧ a22 = 0 ∧ a23 = (⟨#[]⟩ : ByteArray) ∧ a24 = ([] : List S63))) := by
  rw [roadbookref07_Bare.f1]
  obtain ⟨r, e, h⟩ := same_f 1 a1 a2 a3 a4 0 a6 a7 a8 a9 a10 (⟨#[]⟩ : ByteArray) 0 0 0 0 0 0 0 (⟨#[]⟩ : ByteArray) (⟨#[]⟩ : ByteArray) ([] : List S61) 0 (⟨#[]⟩ : ByteArray) ([] : List S63) 1 a1 a2 a3 a4 a5 a6 a7 a8 a9 a10 a11 a12 a13 a14 a15 a16 a17 a18 a19 a20 a21 a22 a23 a24 (by decide) (by decide) k (by (try simp only [List.length_nil]); omega)
  exact ⟨r, e, h.trans ⟨fun h => ⟨h.2.2.2.2.2.1.symm, h.2.2.2.2.2.2.2.2.2.2.2.1.symm, h.2.2.2.2.2.2.2.2.2.2.2.2.1.symm, h.2.2.2.2.2.2.2.2.2.2.2.2.2.1.symm, h.2.2.2.2.2.2.2.2.2.2.2.2.2.2.1.symm, h.2.2.2.2.2.2.2.2.2.2.2.2.2.2.2.1.symm, h.2.2.2.2.2.2.2.2.2.2.2.2.2.2.2.2.1.symm, h.2.2.2.2.2.2.2.2.2.2.2.2.2.2.2.2.2.1.symm, h.2.2.2.2.2.2.2.2.2.2.2.2.2.2.2.2.2.2.1.symm, h.2.2.2.2.2.2.2.2.2.2.2.2.2.2.2.2.2.2.2.1.symm, h.2.2.2.2.2.2.2.2.2.2.2.2.2.2.2.2.2.2.2.2.1.symm, h.2.2.2.2.2.2.2.2.2.2.2.2.2.2.2.2.2.2.2.2.2.1.symm, h.2.2.2.2.2.2.2.2.2.2.2.2.2.2.2.2.2.2.2.2.2.2.1.symm, h.2.2.2.2.2.2.2.2.2.2.2.2.2.2.2.2.2.2.2.2.2.2.2.1.symm, h.2.2.2.2.2.2.2.2.2.2.2.2.2.2.2.2.2.2.2.2.2.2.2.2.symm⟩, fun h => ⟨rfl, rfl, rfl, rfl, rfl, h.1.symm, rfl, rfl, rfl, rfl, rfl, h.2.1.symm, h.2.2.1.symm, h.2.2.2.1.symm, h.2.2.2.2.1.symm, h.2.2.2.2.2.1.symm, h.2.2.2.2.2.2.1.symm, h.2.2.2.2.2.2.2.1.symm, h.2.2.2.2.2.2.2.2.1.symm, h.2.2.2.2.2.2.2.2.2.1.symm, h.2.2.2.2.2.2.2.2.2.2.1.symm, h.2.2.2.2.2.2.2.2.2.2.2.1.symm, h.2.2.2.2.2.2.2.2.2.2.2.2.1.symm, h.2.2.2.2.2.2.2.2.2.2.2.2.2.1.symm, h.2.2.2.2.2.2.2.2.2.2.2.2.2.2.symm⟩⟩⟩

theorem bareq2 (a1 : Int) (a2 : Int) (a3 : ByteArray) (a4 : Int) (a5 : Int) (a6 : ByteArray) (a7 : Int) (a8 : Int) (a9 : ByteArray) (a10 : Int) (a11 : ByteArray) (a12 : Int) (a13 : Int) (a14 : Int) (a15 : Int) (a16 : Int) (a17 : Int) (a18 : Int) (a19 : ByteArray) (a20 : ByteArray) (a21 : List S61) (a22 : Int) (a23 : ByteArray) (a24 : List S63) : msg_Bare.b 2 a1 a2 a3 a4 a5 a6 a7 a8 a9 a10 a11 a12 a13 a14 a15 a16 a17 a18 a19 a20 a21 a22 a23 a24 = true ↔ (a2 = 0 ∧ a3 = (⟨#[]⟩ : ByteArray) ∧ a4 = 0 ∧ a5 = 0 ∧ a11 = (⟨#[]⟩ : ByteArray) ∧ a12 = 0 ∧ a13 = 0 ∧ a14 = 0 ∧ a15 = 0 ∧ a16 = 0 ∧ a17 = 0 ∧ a18 = 0 ∧ a19 = (⟨#[]⟩ : ByteArray) ∧ a20 = (⟨#[]⟩ : ByteArray) ∧ a21 = ([] : List S61) ∧ a22 = 0 ∧ a23 = (⟨#[]⟩ : ByteArray) ∧ a24 = ([] : List S63)) := by
  rw [msg_Bare.b2]
  unfold msg_Bare.z
  simp only [Bool.and_eq_true, beq_iff_eq, beq_self_eq_true, toList_inj, true_and, and_true, Int.natCast_eq_zero, List.length_eq_zero_iff]
  constructor
  · intro h
    simp only [h, and_self]
  · intro h
    simp only [h, and_self]

theorem refbareq2 (a1 : Int) (a2 : Int) (a3 : ByteArray) (a4 : Int) (a5 : Int) (a6 : ByteArray) (a7 : Int) (a8 : Int) (a9 : ByteArray) (a10 : Int) (a11 : ByteArray) (a12 : Int) (a13 : Int) (a14 : Int) (a15 : Int) (a16 : Int) (a17 : Int) (a18 : Int) (a19 : ByteArray) (a20 : ByteArray) (a21 : List S61) (a22 : Int) (a23 : ByteArray) (a24 : List S63) (hd : a21.length ≤ 1000000) (hl : a24.length ≤ 1000000) (k : Nat) (hk : a21.length + a24.length + 2 < k) : ∃ r, roadbookref07_Bare.f k 2 a1 a2 a3 a4 a5 a6 a7 a8 a9 a10 a11 a12 a13 a14 a15 a16 a17 a18 a19 a20 a21 a22 a23 a24 = some r ∧ (r = true ↔ (a2 = 0 ∧ a3 = (⟨#[]⟩ : ByteArray) ∧ a4 = 0 ∧ a5 = 0 ∧ a11 = (⟨#[]⟩ : ByteArray) ∧ a12 = 0 ∧ a13 = 0 ∧ a14 = 0 ∧ a15 = 0 ∧ a16 = 0 ∧ a17 = 0 ∧ a18 = 0 ∧ a19 = (⟨#[]⟩ : ByteArray) ∧ a20 = (⟨#[]⟩ : ByteArray) ∧ a21 = ([] : List S61) ∧ a22 = 0 ∧ a23 = (⟨#[]⟩ : ByteArray) ∧ a24 = ([] : List S63))) := by
  rw [roadbookref07_Bare.f2]
  obtain ⟨r, e, h⟩ := same_f 2 a1 0 (⟨#[]⟩ : ByteArray) 0 0 a6 a7 a8 a9 a10 (⟨#[]⟩ : ByteArray) 0 0 0 0 0 0 0 (⟨#[]⟩ : ByteArray) (⟨#[]⟩ : ByteArray) ([] : List S61) 0 (⟨#[]⟩ : ByteArray) ([] : List S63) 2 a1 a2 a3 a4 a5 a6 a7 a8 a9 a10 a11 a12 a13 a14 a15 a16 a17 a18 a19 a20 a21 a22 a23 a24 (by decide) (by decide) k (by (try simp only [List.length_nil]); omega)
  exact ⟨r, e, h.trans ⟨fun h => ⟨h.2.2.1.symm, h.2.2.2.1.symm, h.2.2.2.2.1.symm, h.2.2.2.2.2.1.symm, h.2.2.2.2.2.2.2.2.2.2.2.1.symm, h.2.2.2.2.2.2.2.2.2.2.2.2.1.symm, h.2.2.2.2.2.2.2.2.2.2.2.2.2.1.symm, h.2.2.2.2.2.2.2.2.2.2.2.2.2.2.1.symm, h.2.2.2.2.2.2.2.2.2.2.2.2.2.2.2.1.symm, h.2.2.2.2.2.2.2.2.2.2.2.2.2.2.2.2.1.symm, h.2.2.2.2.2.2.2.2.2.2.2.2.2.2.2.2.2.1.symm, h.2.2.2.2.2.2.2.2.2.2.2.2.2.2.2.2.2.2.1.symm, h.2.2.2.2.2.2.2.2.2.2.2.2.2.2.2.2.2.2.2.1.symm, h.2.2.2.2.2.2.2.2.2.2.2.2.2.2.2.2.2.2.2.2.1.symm, h.2.2.2.2.2.2.2.2.2.2.2.2.2.2.2.2.2.2.2.2.2.1.symm, h.2.2.2.2.2.2.2.2.2.2.2.2.2.2.2.2.2.2.2.2.2.2.1.symm, h.2.2.2.2.2.2.2.2.2.2.2.2.2.2.2.2.2.2.2.2.2.2.2.1.symm, h.2.2.2.2.2.2.2.2.2.2.2.2.2.2.2.2.2.2.2.2.2.2.2.2.symm⟩, fun h => ⟨rfl, rfl, h.1.symm, h.2.1.symm, h.2.2.1.symm, h.2.2.2.1.symm, rfl, rfl, rfl, rfl, rfl, h.2.2.2.2.1.symm, h.2.2.2.2.2.1.symm, h.2.2.2.2.2.2.1.symm, h.2.2.2.2.2.2.2.1.symm, h.2.2.2.2.2.2.2.2.1.symm, h.2.2.2.2.2.2.2.2.2.1.symm, h.2.2.2.2.2.2.2.2.2.2.1.symm, h.2.2.2.2.2.2.2.2.2.2.2.1.symm, h.2.2.2.2.2.2.2.2.2.2.2.2.1.symm, h.2.2.2.2.2.2.2.2.2.2.2.2.2.1.symm, h.2.2.2.2.2.2.2.2.2.2.2.2.2.2.1.symm, h.2.2.2.2.2.2.2.2.2.2.2.2.2.2.2.1.symm, h.2.2.2.2.2.2.2.2.2.2.2.2.2.2.2.2.1.symm, h.2.2.2.2.2.2.2.2.2.2.2.2.2.2.2.2.2.symm⟩⟩⟩

theorem bareq3 (a1 : Int) (a2 : Int) (a3 : ByteArray) (a4 : Int) (a5 : Int) (a6 : ByteArray) (a7 : Int) (a8 : Int) (a9 : ByteArray) (a10 : Int) (a11 : ByteArray) (a12 : Int) (a13 : Int) (a14 : Int) (a15 : Int) (a16 : Int) (a17 : Int) (a18 : Int) (a19 : ByteArray) (a20 : ByteArray) (a21 : List S61) (a22 : Int) (a23 : ByteArray) (a24 : List S63) : msg_Bare.b 3 a1 a2 a3 a4 a5 a6 a7 a8 a9 a10 a11 a12 a13 a14 a15 a16 a17 a18 a19 a20 a21 a22 a23 a24 = true ↔ (a1 = 0 ∧ a2 = 0 ∧ a3 = (⟨#[]⟩ : ByteArray) ∧ a4 = 0 ∧ a5 = 0 ∧ a6 = (⟨#[]⟩ : ByteArray) ∧ a7 = 0 ∧ a8 = 0 ∧ a9 = (⟨#[]⟩ : ByteArray) ∧ a10 = 0 ∧ a11 = (⟨#[]⟩ : ByteArray) ∧ a14 = 0 ∧ a18 = 0 ∧ a21 = ([] : List S61) ∧ a22 = 0 ∧ a23 = (⟨#[]⟩ : ByteArray)) := by
  rw [msg_Bare.b3]
  unfold msg_Bare.z
  simp only [Bool.and_eq_true, beq_iff_eq, beq_self_eq_true, toList_inj, true_and, and_true, Int.natCast_eq_zero, List.length_eq_zero_iff]
  constructor
  · intro h
    simp only [h, and_self]
  · intro h
    simp only [h, and_self]

theorem refbareq3 (a1 : Int) (a2 : Int) (a3 : ByteArray) (a4 : Int) (a5 : Int) (a6 : ByteArray) (a7 : Int) (a8 : Int) (a9 : ByteArray) (a10 : Int) (a11 : ByteArray) (a12 : Int) (a13 : Int) (a14 : Int) (a15 : Int) (a16 : Int) (a17 : Int) (a18 : Int) (a19 : ByteArray) (a20 : ByteArray) (a21 : List S61) (a22 : Int) (a23 : ByteArray) (a24 : List S63) (hd : a21.length ≤ 1000000) (hl : a24.length ≤ 1000000) (k : Nat) (hk : a21.length + a24.length + 2 < k) : ∃ r, roadbookref07_Bare.f k 3 a1 a2 a3 a4 a5 a6 a7 a8 a9 a10 a11 a12 a13 a14 a15 a16 a17 a18 a19 a20 a21 a22 a23 a24 = some r ∧ (r = true ↔ (a1 = 0 ∧ a2 = 0 ∧ a3 = (⟨#[]⟩ : ByteArray) ∧ a4 = 0 ∧ a5 = 0 ∧ a6 = (⟨#[]⟩ : ByteArray) ∧ a7 = 0 ∧ a8 = 0 ∧ a9 = (⟨#[]⟩ : ByteArray) ∧ a10 = 0 ∧ a11 = (⟨#[]⟩ : ByteArray) ∧ a14 = 0 ∧ a18 = 0 ∧ a21 = ([] : List S61) ∧ a22 = 0 ∧ a23 = (⟨#[]⟩ : ByteArray))) := by
  rw [roadbookref07_Bare.f3]
  obtain ⟨r, e, h⟩ := same_f 3 0 0 (⟨#[]⟩ : ByteArray) 0 0 (⟨#[]⟩ : ByteArray) 0 0 (⟨#[]⟩ : ByteArray) 0 (⟨#[]⟩ : ByteArray) a12 a13 0 a15 a16 a17 0 a19 a20 ([] : List S61) 0 (⟨#[]⟩ : ByteArray) a24 3 a1 a2 a3 a4 a5 a6 a7 a8 a9 a10 a11 a12 a13 a14 a15 a16 a17 a18 a19 a20 a21 a22 a23 a24 (by decide) hl k (by (try simp only [List.length_nil]); omega)
  exact ⟨r, e, h.trans ⟨fun h => ⟨h.2.1.symm, h.2.2.1.symm, h.2.2.2.1.symm, h.2.2.2.2.1.symm, h.2.2.2.2.2.1.symm, h.2.2.2.2.2.2.1.symm, h.2.2.2.2.2.2.2.1.symm, h.2.2.2.2.2.2.2.2.1.symm, h.2.2.2.2.2.2.2.2.2.1.symm, h.2.2.2.2.2.2.2.2.2.2.1.symm, h.2.2.2.2.2.2.2.2.2.2.2.1.symm, h.2.2.2.2.2.2.2.2.2.2.2.2.2.2.1.symm, h.2.2.2.2.2.2.2.2.2.2.2.2.2.2.2.2.2.2.1.symm, h.2.2.2.2.2.2.2.2.2.2.2.2.2.2.2.2.2.2.2.2.2.1.symm, h.2.2.2.2.2.2.2.2.2.2.2.2.2.2.2.2.2.2.2.2.2.2.1.symm, h.2.2.2.2.2.2.2.2.2.2.2.2.2.2.2.2.2.2.2.2.2.2.2.1.symm⟩, fun h => ⟨rfl, h.1.symm, h.2.1.symm, h.2.2.1.symm, h.2.2.2.1.symm, h.2.2.2.2.1.symm, h.2.2.2.2.2.1.symm, h.2.2.2.2.2.2.1.symm, h.2.2.2.2.2.2.2.1.symm, h.2.2.2.2.2.2.2.2.1.symm, h.2.2.2.2.2.2.2.2.2.1.symm, h.2.2.2.2.2.2.2.2.2.2.1.symm, rfl, rfl, h.2.2.2.2.2.2.2.2.2.2.2.1.symm, rfl, rfl, rfl, h.2.2.2.2.2.2.2.2.2.2.2.2.1.symm, rfl, rfl, h.2.2.2.2.2.2.2.2.2.2.2.2.2.1.symm, h.2.2.2.2.2.2.2.2.2.2.2.2.2.2.1.symm, h.2.2.2.2.2.2.2.2.2.2.2.2.2.2.2.symm, rfl⟩⟩⟩

theorem bareq4 (a1 : Int) (a2 : Int) (a3 : ByteArray) (a4 : Int) (a5 : Int) (a6 : ByteArray) (a7 : Int) (a8 : Int) (a9 : ByteArray) (a10 : Int) (a11 : ByteArray) (a12 : Int) (a13 : Int) (a14 : Int) (a15 : Int) (a16 : Int) (a17 : Int) (a18 : Int) (a19 : ByteArray) (a20 : ByteArray) (a21 : List S61) (a22 : Int) (a23 : ByteArray) (a24 : List S63) : msg_Bare.b 4 a1 a2 a3 a4 a5 a6 a7 a8 a9 a10 a11 a12 a13 a14 a15 a16 a17 a18 a19 a20 a21 a22 a23 a24 = true ↔ (a1 = 0 ∧ a2 = 0 ∧ a3 = (⟨#[]⟩ : ByteArray) ∧ a4 = 0 ∧ a5 = 0 ∧ a6 = (⟨#[]⟩ : ByteArray) ∧ a8 = 0 ∧ a9 = (⟨#[]⟩ : ByteArray) ∧ a10 = 0 ∧ a11 = (⟨#[]⟩ : ByteArray) ∧ a13 = 0 ∧ a17 = 0 ∧ a18 = 0 ∧ a21 = ([] : List S61) ∧ a22 = 0 ∧ a23 = (⟨#[]⟩ : ByteArray)) := by
  rw [msg_Bare.b4]
  unfold msg_Bare.z
  simp only [Bool.and_eq_true, beq_iff_eq, beq_self_eq_true, toList_inj, true_and, and_true, Int.natCast_eq_zero, List.length_eq_zero_iff]
  constructor
  · intro h
    simp only [h, and_self]
  · intro h
    simp only [h, and_self]

theorem refbareq4 (a1 : Int) (a2 : Int) (a3 : ByteArray) (a4 : Int) (a5 : Int) (a6 : ByteArray) (a7 : Int) (a8 : Int) (a9 : ByteArray) (a10 : Int) (a11 : ByteArray) (a12 : Int) (a13 : Int) (a14 : Int) (a15 : Int) (a16 : Int) (a17 : Int) (a18 : Int) (a19 : ByteArray) (a20 : ByteArray) (a21 : List S61) (a22 : Int) (a23 : ByteArray) (a24 : List S63) (hd : a21.length ≤ 1000000) (hl : a24.length ≤ 1000000) (k : Nat) (hk : a21.length + a24.length + 2 < k) : ∃ r, roadbookref07_Bare.f k 4 a1 a2 a3 a4 a5 a6 a7 a8 a9 a10 a11 a12 a13 a14 a15 a16 a17 a18 a19 a20 a21 a22 a23 a24 = some r ∧ (r = true ↔ (a1 = 0 ∧ a2 = 0 ∧ a3 = (⟨#[]⟩ : ByteArray) ∧ a4 = 0 ∧ a5 = 0 ∧ a6 = (⟨#[]⟩ : ByteArray) ∧ a8 = 0 ∧ a9 = (⟨#[]⟩ : ByteArray) ∧ a10 = 0 ∧ a11 = (⟨#[]⟩ : ByteArray) ∧ a13 = 0 ∧ a17 = 0 ∧ a18 = 0 ∧ a21 = ([] : List S61) ∧ a22 = 0 ∧ a23 = (⟨#[]⟩ : ByteArray))) := by
  rw [roadbookref07_Bare.f4]
  obtain ⟨r, e, h⟩ := same_f 4 0 0 (⟨#[]⟩ : ByteArray) 0 0 (⟨#[]⟩ : ByteArray) a7 0 (⟨#[]⟩ : ByteArray) 0 (⟨#[]⟩ : ByteArray) a12 0 a14 a15 a16 0 0 a19 a20 ([] : List S61) 0 (⟨#[]⟩ : ByteArray) a24 4 a1 a2 a3 a4 a5 a6 a7 a8 a9 a10 a11 a12 a13 a14 a15 a16 a17 a18 a19 a20 a21 a22 a23 a24 (by decide) hl k (by (try simp only [List.length_nil]); omega)
  exact ⟨r, e, h.trans ⟨fun h => ⟨h.2.1.symm, h.2.2.1.symm, h.2.2.2.1.symm, h.2.2.2.2.1.symm, h.2.2.2.2.2.1.symm, h.2.2.2.2.2.2.1.symm, h.2.2.2.2.2.2.2.2.1.symm, h.2.2.2.2.2.2.2.2.2.1.symm, h.2.2.2.2.2.2.2.2.2.2.1.symm, h.2.2.2.2.2.2.2.2.2.2.2.1.symm, h.2.2.2.2.2.2.2.2.2.2.2.2.2.1.symm, h.2.2.2.2.2.2.2.2.2.2.2.2.2.2.2.2.2.1.symm, h.2.2.2.2.2.2.2.2.2.2.2.2.2.2.2.2.2.2.1.symm, h.2.2.2.2.2.2.2.2.2.2.2.2.2.2.2.2.2.2.2.2.2.1.symm, h.2.2.2.2.2.2.2.2.2.2.2.2.2.2.2.2.2.2.2.2.2.2.1.symm, h.2.2.2.2.2.2.2.2.2.2.2.2.2.2.2.2.2.2.2.2.2.2.2.1.symm⟩, fun h => ⟨rfl, h.1.symm, h.2.1.symm, h.2.2.1.symm, h.2.2.2.1.symm, h.2.2.2.2.1.symm, h.2.2.2.2.2.1.symm, rfl, h.2.2.2.2.2.2.1.symm, h.2.2.2.2.2.2.2.1.symm, h.2.2.2.2.2.2.2.2.1.symm, h.2.2.2.2.2.2.2.2.2.1.symm, rfl, h.2.2.2.2.2.2.2.2.2.2.1.symm, rfl, rfl, rfl, h.2.2.2.2.2.2.2.2.2.2.2.1.symm, h.2.2.2.2.2.2.2.2.2.2.2.2.1.symm, rfl, rfl, h.2.2.2.2.2.2.2.2.2.2.2.2.2.1.symm, h.2.2.2.2.2.2.2.2.2.2.2.2.2.2.1.symm, h.2.2.2.2.2.2.2.2.2.2.2.2.2.2.2.symm, rfl⟩⟩⟩

theorem bareq5 (a1 : Int) (a2 : Int) (a3 : ByteArray) (a4 : Int) (a5 : Int) (a6 : ByteArray) (a7 : Int) (a8 : Int) (a9 : ByteArray) (a10 : Int) (a11 : ByteArray) (a12 : Int) (a13 : Int) (a14 : Int) (a15 : Int) (a16 : Int) (a17 : Int) (a18 : Int) (a19 : ByteArray) (a20 : ByteArray) (a21 : List S61) (a22 : Int) (a23 : ByteArray) (a24 : List S63) : msg_Bare.b 5 a1 a2 a3 a4 a5 a6 a7 a8 a9 a10 a11 a12 a13 a14 a15 a16 a17 a18 a19 a20 a21 a22 a23 a24 = true ↔ (a1 = 0 ∧ a2 = 0 ∧ a3 = (⟨#[]⟩ : ByteArray) ∧ a4 = 0 ∧ a5 = 0 ∧ a6 = (⟨#[]⟩ : ByteArray) ∧ a7 = 0 ∧ a8 = 0 ∧ a9 = (⟨#[]⟩ : ByteArray) ∧ a10 = 0 ∧ a11 = (⟨#[]⟩ : ByteArray) ∧ a12 = 0 ∧ a13 = 0 ∧ a14 = 0 ∧ a16 = 0 ∧ a17 = 0 ∧ a18 = 0 ∧ a19 = (⟨#[]⟩ : ByteArray) ∧ a20 = (⟨#[]⟩ : ByteArray) ∧ a22 = 0 ∧ a23 = (⟨#[]⟩ : ByteArray)) := by
  rw [msg_Bare.b5]
  unfold msg_Bare.z
  simp only [Bool.and_eq_true, beq_iff_eq, beq_self_eq_true, toList_inj, true_and, and_true, Int.natCast_eq_zero, List.length_eq_zero_iff]
  constructor
  · intro h
    simp only [h, and_self]
  · intro h
    simp only [h, and_self]

theorem refbareq5 (a1 : Int) (a2 : Int) (a3 : ByteArray) (a4 : Int) (a5 : Int) (a6 : ByteArray) (a7 : Int) (a8 : Int) (a9 : ByteArray) (a10 : Int) (a11 : ByteArray) (a12 : Int) (a13 : Int) (a14 : Int) (a15 : Int) (a16 : Int) (a17 : Int) (a18 : Int) (a19 : ByteArray) (a20 : ByteArray) (a21 : List S61) (a22 : Int) (a23 : ByteArray) (a24 : List S63) (hd : a21.length ≤ 1000000) (hl : a24.length ≤ 1000000) (k : Nat) (hk : a21.length + a24.length + 2 < k) : ∃ r, roadbookref07_Bare.f k 5 a1 a2 a3 a4 a5 a6 a7 a8 a9 a10 a11 a12 a13 a14 a15 a16 a17 a18 a19 a20 a21 a22 a23 a24 = some r ∧ (r = true ↔ (a1 = 0 ∧ a2 = 0 ∧ a3 = (⟨#[]⟩ : ByteArray) ∧ a4 = 0 ∧ a5 = 0 ∧ a6 = (⟨#[]⟩ : ByteArray) ∧ a7 = 0 ∧ a8 = 0 ∧ a9 = (⟨#[]⟩ : ByteArray) ∧ a10 = 0 ∧ a11 = (⟨#[]⟩ : ByteArray) ∧ a12 = 0 ∧ a13 = 0 ∧ a14 = 0 ∧ a16 = 0 ∧ a17 = 0 ∧ a18 = 0 ∧ a19 = (⟨#[]⟩ : ByteArray) ∧ a20 = (⟨#[]⟩ : ByteArray) ∧ a22 = 0 ∧ a23 = (⟨#[]⟩ : ByteArray))) := by
  rw [roadbookref07_Bare.f5]
  obtain ⟨r, e, h⟩ := same_f 5 0 0 (⟨#[]⟩ : ByteArray) 0 0 (⟨#[]⟩ : ByteArray) 0 0 (⟨#[]⟩ : ByteArray) 0 (⟨#[]⟩ : ByteArray) 0 0 0 a15 0 0 0 (⟨#[]⟩ : ByteArray) (⟨#[]⟩ : ByteArray) a21 0 (⟨#[]⟩ : ByteArray) a24 5 a1 a2 a3 a4 a5 a6 a7 a8 a9 a10 a11 a12 a13 a14 a15 a16 a17 a18 a19 a20 a21 a22 a23 a24 hd hl k (by (try simp only [List.length_nil]); omega)
  exact ⟨r, e, h.trans ⟨fun h => ⟨h.2.1.symm, h.2.2.1.symm, h.2.2.2.1.symm, h.2.2.2.2.1.symm, h.2.2.2.2.2.1.symm, h.2.2.2.2.2.2.1.symm, h.2.2.2.2.2.2.2.1.symm, h.2.2.2.2.2.2.2.2.1.symm, h.2.2.2.2.2.2.2.2.2.1.symm, h.2.2.2.2.2.2.2.2.2.2.1.symm, h.2.2.2.2.2.2.2.2.2.2.2.1.symm, h.2.2.2.2.2.2.2.2.2.2.2.2.1.symm, h.2.2.2.2.2.2.2.2.2.2.2.2.2.1.symm, h.2.2.2.2.2.2.2.2.2.2.2.2.2.2.1.symm, h.2.2.2.2.2.2.2.2.2.2.2.2.2.2.2.2.1.symm, h.2.2.2.2.2.2.2.2.2.2.2.2.2.2.2.2.2.1.symm, h.2.2.2.2.2.2.2.2.2.2.2.2.2.2.2.2.2.2.1.symm, h.2.2.2.2.2.2.2.2.2.2.2.2.2.2.2.2.2.2.2.1.symm, h.2.2.2.2.2.2.2.2.2.2.2.2.2.2.2.2.2.2.2.2.1.symm, h.2.2.2.2.2.2.2.2.2.2.2.2.2.2.2.2.2.2.2.2.2.2.1.symm, h.2.2.2.2.2.2.2.2.2.2.2.2.2.2.2.2.2.2.2.2.2.2.2.1.symm⟩, fun h => ⟨rfl, h.1.symm, h.2.1.symm, h.2.2.1.symm, h.2.2.2.1.symm, h.2.2.2.2.1.symm, h.2.2.2.2.2.1.symm, h.2.2.2.2.2.2.1.symm, h.2.2.2.2.2.2.2.1.symm, h.2.2.2.2.2.2.2.2.1.symm, h.2.2.2.2.2.2.2.2.2.1.symm, h.2.2.2.2.2.2.2.2.2.2.1.symm, h.2.2.2.2.2.2.2.2.2.2.2.1.symm, h.2.2.2.2.2.2.2.2.2.2.2.2.1.symm, h.2.2.2.2.2.2.2.2.2.2.2.2.2.1.symm, rfl, h.2.2.2.2.2.2.2.2.2.2.2.2.2.2.1.symm, h.2.2.2.2.2.2.2.2.2.2.2.2.2.2.2.1.symm, h.2.2.2.2.2.2.2.2.2.2.2.2.2.2.2.2.1.symm, h.2.2.2.2.2.2.2.2.2.2.2.2.2.2.2.2.2.1.symm, h.2.2.2.2.2.2.2.2.2.2.2.2.2.2.2.2.2.2.1.symm, rfl, h.2.2.2.2.2.2.2.2.2.2.2.2.2.2.2.2.2.2.2.1.symm, h.2.2.2.2.2.2.2.2.2.2.2.2.2.2.2.2.2.2.2.2.symm, rfl⟩⟩⟩

theorem bareq6 (a1 : Int) (a2 : Int) (a3 : ByteArray) (a4 : Int) (a5 : Int) (a6 : ByteArray) (a7 : Int) (a8 : Int) (a9 : ByteArray) (a10 : Int) (a11 : ByteArray) (a12 : Int) (a13 : Int) (a14 : Int) (a15 : Int) (a16 : Int) (a17 : Int) (a18 : Int) (a19 : ByteArray) (a20 : ByteArray) (a21 : List S61) (a22 : Int) (a23 : ByteArray) (a24 : List S63) : msg_Bare.b 6 a1 a2 a3 a4 a5 a6 a7 a8 a9 a10 a11 a12 a13 a14 a15 a16 a17 a18 a19 a20 a21 a22 a23 a24 = true ↔ (a1 = 0 ∧ a2 = 0 ∧ a3 = (⟨#[]⟩ : ByteArray) ∧ a4 = 0 ∧ a5 = 0 ∧ a6 = (⟨#[]⟩ : ByteArray) ∧ a7 = 0 ∧ a8 = 0 ∧ a9 = (⟨#[]⟩ : ByteArray) ∧ a10 = 0 ∧ a11 = (⟨#[]⟩ : ByteArray) ∧ a12 = 0 ∧ a13 = 0 ∧ a14 = 0 ∧ a15 = 0 ∧ a16 = 0 ∧ a17 = 0 ∧ a18 = 0 ∧ a19 = (⟨#[]⟩ : ByteArray) ∧ a20 = (⟨#[]⟩ : ByteArray) ∧ a21 = ([] : List S61) ∧ a22 = 0 ∧ a23 = (⟨#[]⟩ : ByteArray)) := by
  rw [msg_Bare.b6]
  unfold msg_Bare.z
  simp only [Bool.and_eq_true, beq_iff_eq, beq_self_eq_true, toList_inj, true_and, and_true, Int.natCast_eq_zero, List.length_eq_zero_iff]
  constructor
  · intro h
    simp only [h, and_self]
  · intro h
    simp only [h, and_self]

theorem refbareq6 (a1 : Int) (a2 : Int) (a3 : ByteArray) (a4 : Int) (a5 : Int) (a6 : ByteArray) (a7 : Int) (a8 : Int) (a9 : ByteArray) (a10 : Int) (a11 : ByteArray) (a12 : Int) (a13 : Int) (a14 : Int) (a15 : Int) (a16 : Int) (a17 : Int) (a18 : Int) (a19 : ByteArray) (a20 : ByteArray) (a21 : List S61) (a22 : Int) (a23 : ByteArray) (a24 : List S63) (hd : a21.length ≤ 1000000) (hl : a24.length ≤ 1000000) (k : Nat) (hk : a21.length + a24.length + 2 < k) : ∃ r, roadbookref07_Bare.f k 6 a1 a2 a3 a4 a5 a6 a7 a8 a9 a10 a11 a12 a13 a14 a15 a16 a17 a18 a19 a20 a21 a22 a23 a24 = some r ∧ (r = true ↔ (a1 = 0 ∧ a2 = 0 ∧ a3 = (⟨#[]⟩ : ByteArray) ∧ a4 = 0 ∧ a5 = 0 ∧ a6 = (⟨#[]⟩ : ByteArray) ∧ a7 = 0 ∧ a8 = 0 ∧ a9 = (⟨#[]⟩ : ByteArray) ∧ a10 = 0 ∧ a11 = (⟨#[]⟩ : ByteArray) ∧ a12 = 0 ∧ a13 = 0 ∧ a14 = 0 ∧ a15 = 0 ∧ a16 = 0 ∧ a17 = 0 ∧ a18 = 0 ∧ a19 = (⟨#[]⟩ : ByteArray) ∧ a20 = (⟨#[]⟩ : ByteArray) ∧ a21 = ([] : List S61) ∧ a22 = 0 ∧ a23 = (⟨#[]⟩ : ByteArray))) := by
  rw [roadbookref07_Bare.f6]
  obtain ⟨r, e, h⟩ := same_f 6 0 0 (⟨#[]⟩ : ByteArray) 0 0 (⟨#[]⟩ : ByteArray) 0 0 (⟨#[]⟩ : ByteArray) 0 (⟨#[]⟩ : ByteArray) 0 0 0 0 0 0 0 (⟨#[]⟩ : ByteArray) (⟨#[]⟩ : ByteArray) ([] : List S61) 0 (⟨#[]⟩ : ByteArray) a24 6 a1 a2 a3 a4 a5 a6 a7 a8 a9 a10 a11 a12 a13 a14 a15 a16 a17 a18 a19 a20 a21 a22 a23 a24 (by decide) hl k (by (try simp only [List.length_nil]); omega)
  exact ⟨r, e, h.trans ⟨fun h => ⟨h.2.1.symm, h.2.2.1.symm, h.2.2.2.1.symm, h.2.2.2.2.1.symm, h.2.2.2.2.2.1.symm, h.2.2.2.2.2.2.1.symm, h.2.2.2.2.2.2.2.1.symm, h.2.2.2.2.2.2.2.2.1.symm, h.2.2.2.2.2.2.2.2.2.1.symm, h.2.2.2.2.2.2.2.2.2.2.1.symm, h.2.2.2.2.2.2.2.2.2.2.2.1.symm, h.2.2.2.2.2.2.2.2.2.2.2.2.1.symm, h.2.2.2.2.2.2.2.2.2.2.2.2.2.1.symm, h.2.2.2.2.2.2.2.2.2.2.2.2.2.2.1.symm, h.2.2.2.2.2.2.2.2.2.2.2.2.2.2.2.1.symm, h.2.2.2.2.2.2.2.2.2.2.2.2.2.2.2.2.1.symm, h.2.2.2.2.2.2.2.2.2.2.2.2.2.2.2.2.2.1.symm, h.2.2.2.2.2.2.2.2.2.2.2.2.2.2.2.2.2.2.1.symm, h.2.2.2.2.2.2.2.2.2.2.2.2.2.2.2.2.2.2.2.1.symm, h.2.2.2.2.2.2.2.2.2.2.2.2.2.2.2.2.2.2.2.2.1.symm, h.2.2.2.2.2.2.2.2.2.2.2.2.2.2.2.2.2.2.2.2.2.1.symm, h.2.2.2.2.2.2.2.2.2.2.2.2.2.2.2.2.2.2.2.2.2.2.1.symm, h.2.2.2.2.2.2.2.2.2.2.2.2.2.2.2.2.2.2.2.2.2.2.2.1.symm⟩, fun h => ⟨rfl, h.1.symm, h.2.1.symm, h.2.2.1.symm, h.2.2.2.1.symm, h.2.2.2.2.1.symm, h.2.2.2.2.2.1.symm, h.2.2.2.2.2.2.1.symm, h.2.2.2.2.2.2.2.1.symm, h.2.2.2.2.2.2.2.2.1.symm, h.2.2.2.2.2.2.2.2.2.1.symm, h.2.2.2.2.2.2.2.2.2.2.1.symm, h.2.2.2.2.2.2.2.2.2.2.2.1.symm, h.2.2.2.2.2.2.2.2.2.2.2.2.1.symm, h.2.2.2.2.2.2.2.2.2.2.2.2.2.1.symm, h.2.2.2.2.2.2.2.2.2.2.2.2.2.2.1.symm, h.2.2.2.2.2.2.2.2.2.2.2.2.2.2.2.1.symm, h.2.2.2.2.2.2.2.2.2.2.2.2.2.2.2.2.1.symm, h.2.2.2.2.2.2.2.2.2.2.2.2.2.2.2.2.2.1.symm, h.2.2.2.2.2.2.2.2.2.2.2.2.2.2.2.2.2.2.1.symm, h.2.2.2.2.2.2.2.2.2.2.2.2.2.2.2.2.2.2.2.1.symm, h.2.2.2.2.2.2.2.2.2.2.2.2.2.2.2.2.2.2.2.2.1.symm, h.2.2.2.2.2.2.2.2.2.2.2.2.2.2.2.2.2.2.2.2.2.1.symm, h.2.2.2.2.2.2.2.2.2.2.2.2.2.2.2.2.2.2.2.2.2.2.symm, rfl⟩⟩⟩

theorem bareq7 (a1 : Int) (a2 : Int) (a3 : ByteArray) (a4 : Int) (a5 : Int) (a6 : ByteArray) (a7 : Int) (a8 : Int) (a9 : ByteArray) (a10 : Int) (a11 : ByteArray) (a12 : Int) (a13 : Int) (a14 : Int) (a15 : Int) (a16 : Int) (a17 : Int) (a18 : Int) (a19 : ByteArray) (a20 : ByteArray) (a21 : List S61) (a22 : Int) (a23 : ByteArray) (a24 : List S63) : msg_Bare.b 7 a1 a2 a3 a4 a5 a6 a7 a8 a9 a10 a11 a12 a13 a14 a15 a16 a17 a18 a19 a20 a21 a22 a23 a24 = true ↔ (a1 = 0 ∧ a2 = 0 ∧ a3 = (⟨#[]⟩ : ByteArray) ∧ a4 = 0 ∧ a5 = 0 ∧ a6 = (⟨#[]⟩ : ByteArray) ∧ a7 = 0 ∧ a8 = 0 ∧ a9 = (⟨#[]⟩ : ByteArray) ∧ a10 = 0 ∧ a11 = (⟨#[]⟩ : ByteArray) ∧ a12 = 0 ∧ a13 = 0 ∧ a15 = 0 ∧ a16 = 0 ∧ a18 = 0 ∧ a19 = (⟨#[]⟩ : ByteArray) ∧ a20 = (⟨#[]⟩ : ByteArray) ∧ a21 = ([] : List S61) ∧ a22 = 0 ∧ a23 = (⟨#[]⟩ : ByteArray)) := by
  rw [msg_Bare.b7]
  unfold msg_Bare.z
  simp only [Bool.and_eq_true, beq_iff_eq, beq_self_eq_true, toList_inj, true_and, and_true, Int.natCast_eq_zero, List.length_eq_zero_iff]
  constructor
  · intro h
    simp only [h, and_self]
  · intro h
    simp only [h, and_self]

theorem refbareq7 (a1 : Int) (a2 : Int) (a3 : ByteArray) (a4 : Int) (a5 : Int) (a6 : ByteArray) (a7 : Int) (a8 : Int) (a9 : ByteArray) (a10 : Int) (a11 : ByteArray) (a12 : Int) (a13 : Int) (a14 : Int) (a15 : Int) (a16 : Int) (a17 : Int) (a18 : Int) (a19 : ByteArray) (a20 : ByteArray) (a21 : List S61) (a22 : Int) (a23 : ByteArray) (a24 : List S63) (hd : a21.length ≤ 1000000) (hl : a24.length ≤ 1000000) (k : Nat) (hk : a21.length + a24.length + 2 < k) : ∃ r, roadbookref07_Bare.f k 7 a1 a2 a3 a4 a5 a6 a7 a8 a9 a10 a11 a12 a13 a14 a15 a16 a17 a18 a19 a20 a21 a22 a23 a24 = some r ∧ (r = true ↔ (a1 = 0 ∧ a2 = 0 ∧ a3 = (⟨#[]⟩ : ByteArray) ∧ a4 = 0 ∧ a5 = 0 ∧ a6 = (⟨#[]⟩ : ByteArray) ∧ a7 = 0 ∧ a8 = 0 ∧ a9 = (⟨#[]⟩ : ByteArray) ∧ a10 = 0 ∧ a11 = (⟨#[]⟩ : ByteArray) ∧ a12 = 0 ∧ a13 = 0 ∧ a15 = 0 ∧ a16 = 0 ∧ a18 = 0 ∧ a19 = (⟨#[]⟩ : ByteArray) ∧ a20 = (⟨#[]⟩ : ByteArray) ∧ a21 = ([] : List S61) ∧ a22 = 0 ∧ a23 = (⟨#[]⟩ : ByteArray))) := by
  rw [roadbookref07_Bare.f7]
  obtain ⟨r, e, h⟩ := same_f 7 0 0 (⟨#[]⟩ : ByteArray) 0 0 (⟨#[]⟩ : ByteArray) 0 0 (⟨#[]⟩ : ByteArray) 0 (⟨#[]⟩ : ByteArray) 0 0 a14 0 0 a17 0 (⟨#[]⟩ : ByteArray) (⟨#[]⟩ : ByteArray) ([] : List S61) 0 (⟨#[]⟩ : ByteArray) a24 7 a1 a2 a3 a4 a5 a6 a7 a8 a9 a10 a11 a12 a13 a14 a15 a16 a17 a18 a19 a20 a21 a22 a23 a24 (by decide) hl k (by (try simp only [List.length_nil]); omega)
  exact ⟨r, e, h.trans ⟨fun h => ⟨h.2.1.symm, h.2.2.1.symm, h.2.2.2.1.symm, h.2.2.2.2.1.symm, h.2.2.2.2.2.1.symm, h.2.2.2.2.2.2.1.symm, h.2.2.2.2.2.2.2.1.symm, h.2.2.2.2.2.2.2.2.1.symm, h.2.2.2.2.2.2.2.2.2.1.symm, h.2.2.2.2.2.2.2.2.2.2.1.symm, h.2.2.2.2.2.2.2.2.2.2.2.1.symm, h.2.2.2.2.2.2.2.2.2.2.2.2.1.symm, h.2.2.2.2.2.2.2.2.2.2.2.2.2.1.symm, h.2.2.2.2.2.2.2.2.2.2.2.2.2.2.2.1.symm, h.2.2.2.2.2.2.2.2.2.2.2.2.2.2.2.2.1.symm, h.2.2.2.2.2.2.2.2.2.2.2.2.2.2.2.2.2.2.1.symm, h.2.2.2.2.2.2.2.2.2.2.2.2.2.2.2.2.2.2.2.1.symm, h.2.2.2.2.2.2.2.2.2.2.2.2.2.2.2.2.2.2.2.2.1.symm, h.2.2.2.2.2.2.2.2.2.2.2.2.2.2.2.2.2.2.2.2.2.1.symm, h.2.2.2.2.2.2.2.2.2.2.2.2.2.2.2.2.2.2.2.2.2.2.1.symm, h.2.2.2.2.2.2.2.2.2.2.2.2.2.2.2.2.2.2.2.2.2.2.2.1.symm⟩, fun h => ⟨rfl, h.1.symm, h.2.1.symm, h.2.2.1.symm, h.2.2.2.1.symm, h.2.2.2.2.1.symm, h.2.2.2.2.2.1.symm, h.2.2.2.2.2.2.1.symm, h.2.2.2.2.2.2.2.1.symm, h.2.2.2.2.2.2.2.2.1.symm, h.2.2.2.2.2.2.2.2.2.1.symm, h.2.2.2.2.2.2.2.2.2.2.1.symm, h.2.2.2.2.2.2.2.2.2.2.2.1.symm, h.2.2.2.2.2.2.2.2.2.2.2.2.1.symm, rfl, h.2.2.2.2.2.2.2.2.2.2.2.2.2.1.symm, h.2.2.2.2.2.2.2.2.2.2.2.2.2.2.1.symm, rfl, h.2.2.2.2.2.2.2.2.2.2.2.2.2.2.2.1.symm, h.2.2.2.2.2.2.2.2.2.2.2.2.2.2.2.2.1.symm, h.2.2.2.2.2.2.2.2.2.2.2.2.2.2.2.2.2.1.symm, h.2.2.2.2.2.2.2.2.2.2.2.2.2.2.2.2.2.2.1.symm, h.2.2.2.2.2.2.2.2.2.2.2.2.2.2.2.2.2.2.2.1.symm, h.2.2.2.2.2.2.2.2.2.2.2.2.2.2.2.2.2.2.2.2.symm, rfl⟩⟩⟩

theorem bareq8 (a1 : Int) (a2 : Int) (a3 : ByteArray) (a4 : Int) (a5 : Int) (a6 : ByteArray) (a7 : Int) (a8 : Int) (a9 : ByteArray) (a10 : Int) (a11 : ByteArray) (a12 : Int) (a13 : Int) (a14 : Int) (a15 : Int) (a16 : Int) (a17 : Int) (a18 : Int) (a19 : ByteArray) (a20 : ByteArray) (a21 : List S61) (a22 : Int) (a23 : ByteArray) (a24 : List S63) : msg_Bare.b 8 a1 a2 a3 a4 a5 a6 a7 a8 a9 a10 a11 a12 a13 a14 a15 a16 a17 a18 a19 a20 a21 a22 a23 a24 = true ↔ (a1 = 0 ∧ a2 = 0 ∧ a3 = (⟨#[]⟩ : ByteArray) ∧ a4 = 0 ∧ a5 = 0 ∧ a6 = (⟨#[]⟩ : ByteArray) ∧ a7 = 0 ∧ a8 = 0 ∧ a9 = (⟨#[]⟩ : ByteArray) ∧ a10 = 0 ∧ a11 = (⟨#[]⟩ : ByteArray) ∧ a12 = 0 ∧ a13 = 0 ∧ a14 = 0 ∧ a15 = 0 ∧ a16 = 0 ∧ a18 = 0 ∧ a19 = (⟨#[]⟩ : ByteArray) ∧ a20 = (⟨#[]⟩ : ByteArray) ∧ a21 = ([] : List S61) ∧ a22 = 0 ∧ a23 = (⟨#[]⟩ : ByteArray)) := by
  rw [msg_Bare.b8]
  unfold msg_Bare.z
  simp only [Bool.and_eq_true, beq_iff_eq, beq_self_eq_true, toList_inj, true_and, and_true, Int.natCast_eq_zero, List.length_eq_zero_iff]
  constructor
  · intro h
    simp only [h, and_self]
  · intro h
    simp only [h, and_self]

theorem refbareq8 (a1 : Int) (a2 : Int) (a3 : ByteArray) (a4 : Int) (a5 : Int) (a6 : ByteArray) (a7 : Int) (a8 : Int) (a9 : ByteArray) (a10 : Int) (a11 : ByteArray) (a12 : Int) (a13 : Int) (a14 : Int) (a15 : Int) (a16 : Int) (a17 : Int) (a18 : Int) (a19 : ByteArray) (a20 : ByteArray) (a21 : List S61) (a22 : Int) (a23 : ByteArray) (a24 : List S63) (hd : a21.length ≤ 1000000) (hl : a24.length ≤ 1000000) (k : Nat) (hk : a21.length + a24.length + 2 < k) : ∃ r, roadbookref07_Bare.f k 8 a1 a2 a3 a4 a5 a6 a7 a8 a9 a10 a11 a12 a13 a14 a15 a16 a17 a18 a19 a20 a21 a22 a23 a24 = some r ∧ (r = true ↔ (a1 = 0 ∧ a2 = 0 ∧ a3 = (⟨#[]⟩ : ByteArray) ∧ a4 = 0 ∧ a5 = 0 ∧ a6 = (⟨#[]⟩ : ByteArray) ∧ a7 = 0 ∧ a8 = 0 ∧ a9 = (⟨#[]⟩ : ByteArray) ∧ a10 = 0 ∧ a11 = (⟨#[]⟩ : ByteArray) ∧ a12 = 0 ∧ a13 = 0 ∧ a14 = 0 ∧ a15 = 0 ∧ a16 = 0 ∧ a18 = 0 ∧ a19 = (⟨#[]⟩ : ByteArray) ∧ a20 = (⟨#[]⟩ : ByteArray) ∧ a21 = ([] : List S61) ∧ a22 = 0 ∧ a23 = (⟨#[]⟩ : ByteArray))) := by
  rw [roadbookref07_Bare.f8]
  obtain ⟨r, e, h⟩ := same_f 8 0 0 (⟨#[]⟩ : ByteArray) 0 0 (⟨#[]⟩ : ByteArray) 0 0 (⟨#[]⟩ : ByteArray) 0 (⟨#[]⟩ : ByteArray) 0 0 0 0 0 a17 0 (⟨#[]⟩ : ByteArray) (⟨#[]⟩ : ByteArray) ([] : List S61) 0 (⟨#[]⟩ : ByteArray) a24 8 a1 a2 a3 a4 a5 a6 a7 a8 a9 a10 a11 a12 a13 a14 a15 a16 a17 a18 a19 a20 a21 a22 a23 a24 (by decide) hl k (by (try simp only [List.length_nil]); omega)
  exact ⟨r, e, h.trans ⟨fun h => ⟨h.2.1.symm, h.2.2.1.symm, h.2.2.2.1.symm, h.2.2.2.2.1.symm, h.2.2.2.2.2.1.symm, h.2.2.2.2.2.2.1.symm, h.2.2.2.2.2.2.2.1.symm, h.2.2.2.2.2.2.2.2.1.symm, h.2.2.2.2.2.2.2.2.2.1.symm, h.2.2.2.2.2.2.2.2.2.2.1.symm, h.2.2.2.2.2.2.2.2.2.2.2.1.symm, h.2.2.2.2.2.2.2.2.2.2.2.2.1.symm, h.2.2.2.2.2.2.2.2.2.2.2.2.2.1.symm, h.2.2.2.2.2.2.2.2.2.2.2.2.2.2.1.symm, h.2.2.2.2.2.2.2.2.2.2.2.2.2.2.2.1.symm, h.2.2.2.2.2.2.2.2.2.2.2.2.2.2.2.2.1.symm, h.2.2.2.2.2.2.2.2.2.2.2.2.2.2.2.2.2.2.1.symm, h.2.2.2.2.2.2.2.2.2.2.2.2.2.2.2.2.2.2.2.1.symm, h.2.2.2.2.2.2.2.2.2.2.2.2.2.2.2.2.2.2.2.2.1.symm, h.2.2.2.2.2.2.2.2.2.2.2.2.2.2.2.2.2.2.2.2.2.1.symm, h.2.2.2.2.2.2.2.2.2.2.2.2.2.2.2.2.2.2.2.2.2.2.1.symm, h.2.2.2.2.2.2.2.2.2.2.2.2.2.2.2.2.2.2.2.2.2.2.2.1.symm⟩, fun h => ⟨rfl, h.1.symm, h.2.1.symm, h.2.2.1.symm, h.2.2.2.1.symm, h.2.2.2.2.1.symm, h.2.2.2.2.2.1.symm, h.2.2.2.2.2.2.1.symm, h.2.2.2.2.2.2.2.1.symm, h.2.2.2.2.2.2.2.2.1.symm, h.2.2.2.2.2.2.2.2.2.1.symm, h.2.2.2.2.2.2.2.2.2.2.1.symm, h.2.2.2.2.2.2.2.2.2.2.2.1.symm, h.2.2.2.2.2.2.2.2.2.2.2.2.1.symm, h.2.2.2.2.2.2.2.2.2.2.2.2.2.1.symm, h.2.2.2.2.2.2.2.2.2.2.2.2.2.2.1.symm, h.2.2.2.2.2.2.2.2.2.2.2.2.2.2.2.1.symm, rfl, h.2.2.2.2.2.2.2.2.2.2.2.2.2.2.2.2.1.symm, h.2.2.2.2.2.2.2.2.2.2.2.2.2.2.2.2.2.1.symm, h.2.2.2.2.2.2.2.2.2.2.2.2.2.2.2.2.2.2.1.symm, h.2.2.2.2.2.2.2.2.2.2.2.2.2.2.2.2.2.2.2.1.symm, h.2.2.2.2.2.2.2.2.2.2.2.2.2.2.2.2.2.2.2.2.1.symm, h.2.2.2.2.2.2.2.2.2.2.2.2.2.2.2.2.2.2.2.2.2.symm, rfl⟩⟩⟩

theorem bareq9 (a1 : Int) (a2 : Int) (a3 : ByteArray) (a4 : Int) (a5 : Int) (a6 : ByteArray) (a7 : Int) (a8 : Int) (a9 : ByteArray) (a10 : Int) (a11 : ByteArray) (a12 : Int) (a13 : Int) (a14 : Int) (a15 : Int) (a16 : Int) (a17 : Int) (a18 : Int) (a19 : ByteArray) (a20 : ByteArray) (a21 : List S61) (a22 : Int) (a23 : ByteArray) (a24 : List S63) : msg_Bare.b 9 a1 a2 a3 a4 a5 a6 a7 a8 a9 a10 a11 a12 a13 a14 a15 a16 a17 a18 a19 a20 a21 a22 a23 a24 = true ↔ (a1 = 0 ∧ a2 = 0 ∧ a3 = (⟨#[]⟩ : ByteArray) ∧ a4 = 0 ∧ a5 = 0 ∧ a6 = (⟨#[]⟩ : ByteArray) ∧ a7 = 0 ∧ a8 = 0 ∧ a9 = (⟨#[]⟩ : ByteArray) ∧ a10 = 0 ∧ a11 = (⟨#[]⟩ : ByteArray) ∧ a13 = 0 ∧ a16 = 0 ∧ a17 = 0 ∧ a18 = 0 ∧ a19 = (⟨#[]⟩ : ByteArray) ∧ a20 = (⟨#[]⟩ : ByteArray) ∧ a21 = ([] : List S61) ∧ a22 = 0 ∧ a23 = (⟨#[]⟩ : ByteArray)) := by
  rw [msg_Bare.b9]
  unfold msg_Bare.z
  simp only [Bool.and_eq_true, beq_iff_eq, beq_self_eq_true, toList_inj, true_and, and_true, Int.natCast_eq_zero, List.length_eq_zero_iff]
  constructor
  · intro h
    simp only [h, and_self]
  · intro h
    simp only [h, and_self]

theorem refbareq9 (a1 : Int) (a2 : Int) (a3 : ByteArray) (a4 : Int) (a5 : Int) (a6 : ByteArray) (a7 : Int) (a8 : Int) (a9 : ByteArray) (a10 : Int) (a11 : ByteArray) (a12 : Int) (a13 : Int) (a14 : Int) (a15 : Int) (a16 : Int) (a17 : Int) (a18 : Int) (a19 : ByteArray) (a20 : ByteArray) (a21 : List S61) (a22 : Int) (a23 : ByteArray) (a24 : List S63) (hd : a21.length ≤ 1000000) (hl : a24.length ≤ 1000000) (k : Nat) (hk : a21.length + a24.length + 2 < k) : ∃ r, roadbookref07_Bare.f k 9 a1 a2 a3 a4 a5 a6 a7 a8 a9 a10 a11 a12 a13 a14 a15 a16 a17 a18 a19 a20 a21 a22 a23 a24 = some r ∧ (r = true ↔ (a1 = 0 ∧ a2 = 0 ∧ a3 = (⟨#[]⟩ : ByteArray) ∧ a4 = 0 ∧ a5 = 0 ∧ a6 = (⟨#[]⟩ : ByteArray) ∧ a7 = 0 ∧ a8 = 0 ∧ a9 = (⟨#[]⟩ : ByteArray) ∧ a10 = 0 ∧ a11 = (⟨#[]⟩ : ByteArray) ∧ a13 = 0 ∧ a16 = 0 ∧ a17 = 0 ∧ a18 = 0 ∧ a19 = (⟨#[]⟩ : ByteArray) ∧ a20 = (⟨#[]⟩ : ByteArray) ∧ a21 = ([] : List S61) ∧ a22 = 0 ∧ a23 = (⟨#[]⟩ : ByteArray))) := by
  rw [roadbookref07_Bare.f9]
  obtain ⟨r, e, h⟩ := same_f 9 0 0 (⟨#[]⟩ : ByteArray) 0 0 (⟨#[]⟩ : ByteArray) 0 0 (⟨#[]⟩ : ByteArray) 0 (⟨#[]⟩ : ByteArray) a12 0 a14 a15 0 0 0 (⟨#[]⟩ : ByteArray) (⟨#[]⟩ : ByteArray) ([] : List S61) 0 (⟨#[]⟩ : ByteArray) a24 9 a1 a2 a3 a4 a5 a6 a7 a8 a9 a10 a11 a12 a13 a14 a15 a16 a17 a18 a19 a20 a21 a22 a23 a24 (by decide) hl k (by (try simp only [List.length_nil]); omega)
  exact ⟨r, e, h.trans ⟨fun h => ⟨h.2.1.symm, h.2.2.1.symm, h.2.2.2.1.symm, h.2.2.2.2.1.symm, h.2.2.2.2.2.1.symm, h.2.2.2.2.2.2.1.symm, h.2.2.2.2.2.2.2.1.symm, h.2.2.2.2.2.2.2.2.1.symm, h.2.2.2.2.2.2.2.2.2.1.symm, h.2.2.2.2.2.2.2.2.2.2.1.symm, h.2.2.2.2.2.2.2.2.2.2.2.1.symm, h.2.2.2.2.2.2.2.2.2.2.2.2.2.1.symm, h.2.2.2.2.2.2.2.2.2.2.2.2.2.2.2.2.1.symm, h.2.2.2.2.2.2.2.2.2.2.2.2.2.2.2.2.2.1.symm, h.2.2.2.2.2.2.2.2.2.2.2.2.2.2.2.2.2.2.1.symm, h.2.2.2.2.2.2.2.2.2.2.2.2.2.2.2.2.2.2.2.1.symm, h.2.2.2.2.2.2.2.2.2.2.2.2.2.2.2.2.2.2.2.2.1.symm, h.2.2.2.2.2.2.2.2.2.2.2.2.2.2.2.2.2.2.2.2.2.1.symm, h.2.2.2.2.2.2.2.2.2.2.2.2.2.2.2.2.2.2.2.2.2.2.1.symm, h.2.2.2.2.2.2.2.2.2.2.2.2.2.2.2.2.2.2.2.2.2.2.2.1.symm⟩, fun h => ⟨rfl, h.1.symm, h.2.1.symm, h.2.2.1.symm, h.2.2.2.1.symm, h.2.2.2.2.1.symm, h.2.2.2.2.2.1.symm, h.2.2.2.2.2.2.1.symm, h.2.2.2.2.2.2.2.1.symm, h.2.2.2.2.2.2.2.2.1.symm, h.2.2.2.2.2.2.2.2.2.1.symm, h.2.2.2.2.2.2.2.2.2.2.1.symm, rfl, h.2.2.2.2.2.2.2.2.2.2.2.1.symm, rfl, rfl, h.2.2.2.2.2.2.2.2.2.2.2.2.1.symm, h.2.2.2.2.2.2.2.2.2.2.2.2.2.1.symm, h.2.2.2.2.2.2.2.2.2.2.2.2.2.2.1.symm, h.2.2.2.2.2.2.2.2.2.2.2.2.2.2.2.1.symm, h.2.2.2.2.2.2.2.2.2.2.2.2.2.2.2.2.1.symm, h.2.2.2.2.2.2.2.2.2.2.2.2.2.2.2.2.2.1.symm, h.2.2.2.2.2.2.2.2.2.2.2.2.2.2.2.2.2.2.1.symm, h.2.2.2.2.2.2.2.2.2.2.2.2.2.2.2.2.2.2.2.symm, rfl⟩⟩⟩

theorem bareq10 (a1 : Int) (a2 : Int) (a3 : ByteArray) (a4 : Int) (a5 : Int) (a6 : ByteArray) (a7 : Int) (a8 : Int) (a9 : ByteArray) (a10 : Int) (a11 : ByteArray) (a12 : Int) (a13 : Int) (a14 : Int) (a15 : Int) (a16 : Int) (a17 : Int) (a18 : Int) (a19 : ByteArray) (a20 : ByteArray) (a21 : List S61) (a22 : Int) (a23 : ByteArray) (a24 : List S63) : msg_Bare.b 10 a1 a2 a3 a4 a5 a6 a7 a8 a9 a10 a11 a12 a13 a14 a15 a16 a17 a18 a19 a20 a21 a22 a23 a24 = true ↔ (a1 = 0 ∧ a2 = 0 ∧ a3 = (⟨#[]⟩ : ByteArray) ∧ a4 = 0 ∧ a6 = (⟨#[]⟩ : ByteArray) ∧ a7 = 0 ∧ a8 = 0 ∧ a9 = (⟨#[]⟩ : ByteArray) ∧ a10 = 0 ∧ a11 = (⟨#[]⟩ : ByteArray) ∧ a12 = 0 ∧ a13 = 0 ∧ a15 = 0 ∧ a16 = 0 ∧ a17 = 0 ∧ a20 = (⟨#[]⟩ : ByteArray) ∧ a21 = ([] : List S61) ∧ a22 = 0 ∧ a23 = (⟨#[]⟩ : ByteArray)) := by
  rw [msg_Bare.b10]
  unfold msg_Bare.z
  simp only [Bool.and_eq_true, beq_iff_eq, beq_self_eq_true, toList_inj, true_and, and_true, Int.natCast_eq_zero, List.length_eq_zero_iff]
  constructor
  · intro h
    simp only [h, and_self]
  · intro h
    simp only [h, and_self]

theorem refbareq10 (a1 : Int) (a2 : Int) (a3 : ByteArray) (a4 : Int) (a5 : Int) (a6 : ByteArray) (a7 : Int) (a8 : Int) (a9 : ByteArray) (a10 : Int) (a11 : ByteArray) (a12 : Int) (a13 : Int) (a14 : Int) (a15 : Int) (a16 : Int) (a17 : Int) (a18 : Int) (a19 : ByteArray) (a20 : ByteArray) (a21 : List S61) (a22 : Int) (a23 : ByteArray) (a24 : List S63) (hd : a21.length ≤ 1000000) (hl : a24.length ≤ 1000000) (k : Nat) (hk : a21.length + a24.length + 2 < k) : ∃ r, roadbookref07_Bare.f k 10 a1 a2 a3 a4 a5 a6 a7 a8 a9 a10 a11 a12 a13 a14 a15 a16 a17 a18 a19 a20 a21 a22 a23 a24 = some r ∧ (r = true ↔ (a1 = 0 ∧ a2 = 0 ∧ a3 = (⟨#[]⟩ : ByteArray) ∧ a4 = 0 ∧ a6 = (⟨#[]⟩ : ByteArray) ∧ a7 = 0 ∧ a8 = 0 ∧ a9 = (⟨#[]⟩ : ByteArray) ∧ a10 = 0 ∧ a11 = (⟨#[]⟩ : ByteArray) ∧ a12 = 0 ∧ a13 = 0 ∧ a15 = 0 ∧ a16 = 0 ∧ a17 = 0 ∧ a20 = (⟨#[]⟩ : ByteArray) ∧ a21 = ([] : List S61) ∧ a22 = 0 ∧ a23 = (⟨#[]⟩ : ByteArray))) := by
  rw [roadbookref07_Bare.f10]
  obtain ⟨r, e, h⟩ := same_f 10 0 0 (⟨#[]⟩ : ByteArray) 0 a5 (⟨#[]⟩ : ByteArray) 0 0 (⟨#[]⟩ : ByteArray) 0 (⟨#[]⟩ : ByteArray) 0 0 a14 0 0 0 a18 a19 (⟨#[]⟩ : ByteArray) ([] : List S61) 0 (⟨#[]⟩ : ByteArray) a24 10 a1 a2 a3 a4 a5 a6 a7 a8 a9 a10 a11 a12 a13 a14 a15 a16 a17 a18 a19 a20 a21 a22 a23 a24 (by decide) hl k (by (try simp only [List.length_nil]); omega)
  exact ⟨r, e, h.trans ⟨fun h => ⟨h.2.1.symm, h.2.2.1.symm, h.2.2.2.1.symm, h.2.2.2.2.1.symm, h.2.2.2.2.2.2.1.symm, h.2.2.2.2.2.2.2.1.symm, h.2.2.2.2.2.2.2.2.1.symm, h.2.2.2.2.2.2.2.2.2.1.symm, h.2.2.2.2.2.2.2.2.2.2.1.symm, h.2.2.2.2.2.2.2.2.2.2.2.1.symm, h.2.2.2.2.2.2.2.2.2.2.2.2.1.symm, h.2.2.2.2.2.2.2.2.2.2.2.2.2.1.symm, h.2.2.2.2.2.2.2.2.2.2.2.2.2.2.2.1.symm, h.2.2.2.2.2.2.2.2.2.2.2.2.2.2.2.2.1.symm, h.2.2.2.2.2.2.2.2.2.2.2.2.2.2.2.2.2.1.symm, h.2.2.2.2.2.2.2.2.2.2.2.2.2.2.2.2.2.2.2.2.1.symm, h.2.2.2.2.2.2.2.2.2.2.2.2.2.2.2.2.2.2.2.2.2.1.symm, h.2.2.2.2.2.2.2.2.2.2.2.2.2.2.2.2.2.2.2.2.2.2.1.symm, h.2.2.2.2.2.2.2.2.2.2.2.2.2.2.2.2.2.2.2.2.2.2.2.1.symm⟩, fun h => ⟨rfl, h.1.symm, h.2.1.symm, h.2.2.1.symm, h.2.2.2.1.symm, rfl, h.2.2.2.2.1.symm, h.2.2.2.2.2.1.symm, h.2.2.2.2.2.2.1.symm, h.2.2.2.2.2.2.2.1.symm, h.2.2.2.2.2.2.2.2.1.symm, h.2.2.2.2.2.2.2.2.2.1.symm, h.2.2.2.2.2.2.2.2.2.2.1.symm, h.2.2.2.2.2.2.2.2.2.2.2.1.symm, rfl, h.2.2.2.2.2.2.2.2.2.2.2.2.1.symm, h.2.2.2.2.2.2.2.2.2.2.2.2.2.1.symm, h.2.2.2.2.2.2.2.2.2.2.2.2.2.2.1.symm, rfl, rfl, h.2.2.2.2.2.2.2.2.2.2.2.2.2.2.2.1.symm, h.2.2.2.2.2.2.2.2.2.2.2.2.2.2.2.2.1.symm, h.2.2.2.2.2.2.2.2.2.2.2.2.2.2.2.2.2.1.symm, h.2.2.2.2.2.2.2.2.2.2.2.2.2.2.2.2.2.2.symm, rfl⟩⟩⟩

theorem bareq11 (a1 : Int) (a2 : Int) (a3 : ByteArray) (a4 : Int) (a5 : Int) (a6 : ByteArray) (a7 : Int) (a8 : Int) (a9 : ByteArray) (a10 : Int) (a11 : ByteArray) (a12 : Int) (a13 : Int) (a14 : Int) (a15 : Int) (a16 : Int) (a17 : Int) (a18 : Int) (a19 : ByteArray) (a20 : ByteArray) (a21 : List S61) (a22 : Int) (a23 : ByteArray) (a24 : List S63) : msg_Bare.b 11 a1 a2 a3 a4 a5 a6 a7 a8 a9 a10 a11 a12 a13 a14 a15 a16 a17 a18 a19 a20 a21 a22 a23 a24 = true ↔ (a1 = 0 ∧ a2 = 0 ∧ a3 = (⟨#[]⟩ : ByteArray) ∧ a4 = 0 ∧ a8 = 0 ∧ a13 = 0 ∧ a15 = 0 ∧ a16 = 0 ∧ a17 = 0 ∧ a18 = 0 ∧ a19 = (⟨#[]⟩ : ByteArray) ∧ a20 = (⟨#[]⟩ : ByteArray) ∧ a21 = ([] : List S61) ∧ a22 = 0 ∧ a23 = (⟨#[]⟩ : ByteArray)) := by
  rw [msg_Bare.b11]
  unfold msg_Bare.z
  simp only [Bool.and_eq_true, beq_iff_eq, beq_self_eq_true, toList_inj, true_and, and_true, Int.natCast_eq_zero, List.length_eq_zero_iff]
  constructor
  · intro h
    simp only [h, and_self]
  · intro h
    simp only [h, and_self]

theorem refbareq11 (a1 : Int) (a2 : Int) (a3 : ByteArray) (a4 : Int) (a5 : Int) (a6 : ByteArray) (a7 : Int) (a8 : Int) (a9 : ByteArray) (a10 : Int) (a11 : ByteArray) (a12 : Int) (a13 : Int) (a14 : Int) (a15 : Int) (a16 : Int) (a17 : Int) (a18 : Int) (a19 : ByteArray) (a20 : ByteArray) (a21 : List S61) (a22 : Int) (a23 : ByteArray) (a24 : List S63) (hd : a21.length ≤ 1000000) (hl : a24.length ≤ 1000000) (k : Nat) (hk : a21.length + a24.length + 2 < k) : ∃ r, roadbookref07_Bare.f k 11 a1 a2 a3 a4 a5 a6 a7 a8 a9 a10 a11 a12 a13 a14 a15 a16 a17 a18 a19 a20 a21 a22 a23 a24 = some r ∧ (r = true ↔ (a1 = 0 ∧ a2 = 0 ∧ a3 = (⟨#[]⟩ : ByteArray) ∧ a4 = 0 ∧ a8 = 0 ∧ a13 = 0 ∧ a15 = 0 ∧ a16 = 0 ∧ a17 = 0 ∧ a18 = 0 ∧ a19 = (⟨#[]⟩ : ByteArray) ∧ a20 = (⟨#[]⟩ : ByteArray) ∧ a21 = ([] : List S61) ∧ a22 = 0 ∧ a23 = (⟨#[]⟩ : ByteArray))) := by
  rw [roadbookref07_Bare.f11]
  obtain ⟨r, e, h⟩ := same_f 11 0 0 (⟨#[]⟩ : ByteArray) 0 a5 a6 a7 0 a9 a10 a11 a12 0 a14 0 0 0 0 (⟨#[]⟩ : ByteArray) (⟨#[]⟩ : ByteArray) ([] : List S61) 0 (⟨#[]⟩ : ByteArray) a24 11 a1 a2 a3 a4 a5 a6 a7 a8 a9 a10 a11 a12 a13 a14 a15 a16 a17 a18 a19 a20 a21 a22 a23 a24 (by decide) hl k (by (try simp only [List.length_nil]); omega)
  exact ⟨r, e, h.trans ⟨fun h => ⟨h.2.1.symm, h.2.2.1.symm, h.2.2.2.1.symm, h.2.2.2.2.1.symm, h.2.2.2.2.2.2.2.2.1.symm, h.2.2.2.2.2.2.2.2.2.2.2.2.2.1.symm, h.2.2.2.2.2.2.2.2.2.2.2.2.2.2.2.1.symm, h.2.2.2.2.2.2.2.2.2.2.2.2.2.2.2.2.1.symm, h.2.2.2.2.2.2.2.2.2.2.2.2.2.2.2.2.2.1.symm, h.2.2.2.2.2.2.2.2.2.2.2.2.2.2.2.2.2.2.1.symm, h.2.2.2.2.2.2.2.2.2.2.2.2.2.2.2.2.2.2.2.1.symm, h.2.2.2.2.2.2.2.2.2.2.2.2.2.2.2.2.2.2.2.2.1.symm, h.2.2.2.2.2.2.2.2.2.2.2.2.2.2.2.2.2.2.2.2.2.1.symm, h.2.2.2.2.2.2.2.2.2.2.2.2.2.2.2.2.2.2.2.2.2.2.1.symm, h.2.2.2.2.2.2.2.2.2.2.2.2.2.2.2.2.2.2.2.2.2.2.2.1.symm⟩, fun h => ⟨rfl, h.1.symm, h.2.1.symm, h.2.2.1.symm, h.2.2.2.1.symm, rfl, rfl, rfl, h.2.2.2.2.1.symm, rfl, rfl, rfl, rfl, h.2.2.2.2.2.1.symm, rfl, h.2.2.2.2.2.2.1.symm, h.2.2.2.2.2.2.2.1.symm, h.2.2.2.2.2.2.2.2.1.symm, h.2.2.2.2.2.2.2.2.2.1.symm, h.2.2.2.2.2.2.2.2.2.2.1.symm, h.2.2.2.2.2.2.2.2.2.2.2.1.symm, h.2.2.2.2.2.2.2.2.2.2.2.2.1.symm, h.2.2.2.2.2.2.2.2.2.2.2.2.2.1.symm, h.2.2.2.2.2.2.2.2.2.2.2.2.2.2.symm, rfl⟩⟩⟩

theorem bareq12 (a1 : Int) (a2 : Int) (a3 : ByteArray) (a4 : Int) (a5 : Int) (a6 : ByteArray) (a7 : Int) (a8 : Int) (a9 : ByteArray) (a10 : Int) (a11 : ByteArray) (a12 : Int) (a13 : Int) (a14 : Int) (a15 : Int) (a16 : Int) (a17 : Int) (a18 : Int) (a19 : ByteArray) (a20 : ByteArray) (a21 : List S61) (a22 : Int) (a23 : ByteArray) (a24 : List S63) : msg_Bare.b 12 a1 a2 a3 a4 a5 a6 a7 a8 a9 a10 a11 a12 a13 a14 a15 a16 a17 a18 a19 a20 a21 a22 a23 a24 = true ↔ (a1 = 0 ∧ a2 = 0 ∧ a3 = (⟨#[]⟩ : ByteArray) ∧ a4 = 0 ∧ a8 = 0 ∧ a9 = (⟨#[]⟩ : ByteArray) ∧ a10 = 0 ∧ a11 = (⟨#[]⟩ : ByteArray) ∧ a12 = 0 ∧ a13 = 0 ∧ a14 = 0 ∧ a15 = 0 ∧ a16 = 0 ∧ a17 = 0 ∧ a18 = 0 ∧ a19 = (⟨#[]⟩ : ByteArray) ∧ a20 = (⟨#[]⟩ : ByteArray) ∧ a21 = ([] : List S61) ∧ a22 = 0 ∧ a23 = (⟨#[]⟩ : ByteArray)) := by
  rw [msg_Bare.b12]
  unfold msg_Bare.z
  simp only [Bool.and_eq_true, beq_iff_eq, beq_self_eq_true, toList_inj, true_and, and_true, Int.natCast_eq_zero, List.length_eq_zero_iff]
  constructor
  · intro h
    simp only [h, and_self]
  · intro h
    simp only [h, and_self]

theorem refbareq12 (a1 : Int) (a2 : Int) (a3 : ByteArray) (a4 : Int) (a5 : Int) (a6 : ByteArray) (a7 : Int) (a8 : Int) (a9 : ByteArray) (a10 : Int) (a11 : ByteArray) (a12 : Int) (a13 : Int) (a14 : Int) (a15 : Int) (a16 : Int) (a17 : Int) (a18 : Int) (a19 : ByteArray) (a20 : ByteArray) (a21 : List S61) (a22 : Int) (a23 : ByteArray) (a24 : List S63) (hd : a21.length ≤ 1000000) (hl : a24.length ≤ 1000000) (k : Nat) (hk : a21.length + a24.length + 2 < k) : ∃ r, roadbookref07_Bare.f k 12 a1 a2 a3 a4 a5 a6 a7 a8 a9 a10 a11 a12 a13 a14 a15 a16 a17 a18 a19 a20 a21 a22 a23 a24 = some r ∧ (r = true ↔ (a1 = 0 ∧ a2 = 0 ∧ a3 = (⟨#[]⟩ : ByteArray) ∧ a4 = 0 ∧ a8 = 0 ∧ a9 = (⟨#[]⟩ : ByteArray) ∧ a10 = 0 ∧ a11 = (⟨#[]⟩ : ByteArray) ∧ a12 = 0 ∧ a13 = 0 ∧ a14 = 0 ∧ a15 = 0 ∧ a16 = 0 ∧ a17 = 0 ∧ a18 = 0 ∧ a19 = (⟨#[]⟩ : ByteArray) ∧ a20 = (⟨#[]⟩ : ByteArray) ∧ a21 = ([] : List S61) ∧ a22 = 0 ∧ a23 = (⟨#[]⟩ : ByteArray))) := by
  rw [roadbookref07_Bare.f12]
  obtain ⟨r, e, h⟩ := same_f 12 0 0 (⟨#[]⟩ : ByteArray) 0 a5 a6 a7 0 (⟨#[]⟩ : ByteArray) 0 (⟨#[]⟩ : ByteArray) 0 0 0 0 0 0 0 (⟨#[]⟩ : ByteArray) (⟨#[]⟩ : ByteArray) ([] : List S61) 0 (⟨#[]⟩ : ByteArray) a24 12 a1 a2 a3 a4 a5 a6 a7 a8 a9 a10 a11 a12 a13 a14 a15 a16 a17 a18 a19 a20 a21 a22 a23 a24 (by decide) hl k (by (try simp only [List.length_nil]); omega)
  exact ⟨r, e, h.trans ⟨fun h => ⟨h.2.1.symm, h.2.2.1.symm, h.2.2.2.1.symm, h.2.2.2.2.1.symm, h.2.2.2.2.2.2.2.2.1.symm, h.2.2.2.2.2.2.2.2.2.1.symm, h.2.2.2.2.2.2.2.2.2.2.1.symm, h.2.2.2.2.2.2.2.2.2.2.2.1.symm, h.2.2.2.2.2.2.2.2.2.2.2.2.1.symm, h.2.2.2.2.2.2.2.2.2.2.2.2.2.1.symm, h.2.2.2.2.2.2.2.2.2.2.2.2.2.2.1.symm, h.2.2.2.2.2.2.2.2.2.2.2.2.2.2.2.1.symm, h.2.2.2.2.2.2.2.2.2.2.2.2.2.2.2.2.1.symm, h.2.2.2.2.2.2.2.2.2.2.2.2.2.2.2.2.2.1.symm, h.2.2.2.2.2.2.2.2.2.2.2.2.2.2.2.2.2.2.1.symm, h.2.2.2.2.2.2.2.2.2.2.2.2.2.2.2.2.2.2.2.1.symm, h.2.2.2.2.2.2.2.2.2.2.2.2.2.2.2.2.2.2.2.2.1.symm, h.2.2.2.2.2.2.2.2.2.2.2.2.2.2.2.2.2.2.2.2.2.1.symm, h.2.2.2.2.2.2.2.2.2.2.2.2.2.2.2.2.2.2.2.2.2.2.1.symm, h.2.2.2.2.2.2.2.2.2.2.2.2.2.2.2.2.2.2.2.2.2.2.2.1.symm⟩, fun h => ⟨rfl, h.1.symm, h.2.1.symm, h.2.2.1.symm, h.2.2.2.1.symm, rfl, rfl, rfl, h.2.2.2.2.1.symm, h.2.2.2.2.2.1.symm, h.2.2.2.2.2.2.1.symm, h.2.2.2.2.2.2.2.1.symm, h.2.2.2.2.2.2.2.2.1.symm, h.2.2.2.2.2.2.2.2.2.1.symm, h.2.2.2.2.2.2.2.2.2.2.1.symm, h.2.2.2.2.2.2.2.2.2.2.2.1.symm, h.2.2.2.2.2.2.2.2.2.2.2.2.1.symm, h.2.2.2.2.2.2.2.2.2.2.2.2.2.1.symm, h.2.2.2.2.2.2.2.2.2.2.2.2.2.2.1.symm, h.2.2.2.2.2.2.2.2.2.2.2.2.2.2.2.1.symm, h.2.2.2.2.2.2.2.2.2.2.2.2.2.2.2.2.1.symm, h.2.2.2.2.2.2.2.2.2.2.2.2.2.2.2.2.2.1.symm, h.2.2.2.2.2.2.2.2.2.2.2.2.2.2.2.2.2.2.1.symm, h.2.2.2.2.2.2.2.2.2.2.2.2.2.2.2.2.2.2.2.symm, rfl⟩⟩⟩

theorem bareq13 (a1 : Int) (a2 : Int) (a3 : ByteArray) (a4 : Int) (a5 : Int) (a6 : ByteArray) (a7 : Int) (a8 : Int) (a9 : ByteArray) (a10 : Int) (a11 : ByteArray) (a12 : Int) (a13 : Int) (a14 : Int) (a15 : Int) (a16 : Int) (a17 : Int) (a18 : Int) (a19 : ByteArray) (a20 : ByteArray) (a21 : List S61) (a22 : Int) (a23 : ByteArray) (a24 : List S63) : msg_Bare.b 13 a1 a2 a3 a4 a5 a6 a7 a8 a9 a10 a11 a12 a13 a14 a15 a16 a17 a18 a19 a20 a21 a22 a23 a24 = true ↔ (a1 = 0 ∧ a2 = 0 ∧ a3 = (⟨#[]⟩ : ByteArray) ∧ a4 = 0 ∧ a8 = 0 ∧ a9 = (⟨#[]⟩ : ByteArray) ∧ a10 = 0 ∧ a13 = 0 ∧ a14 = 0 ∧ a15 = 0 ∧ a17 = 0 ∧ a18 = 0 ∧ a19 = (⟨#[]⟩ : ByteArray) ∧ a20 = (⟨#[]⟩ : ByteArray) ∧ a21 = ([] : List S61) ∧ a22 = 0 ∧ a23 = (⟨#[]⟩ : ByteArray)) := by
  rw [msg_Bare.b13]
  unfold msg_Bare.z
  simp only [Bool.and_eq_true, beq_iff_eq, beq_self_eq_true, toList_inj, true_and, and_true, Int.natCast_eq_zero, List.length_eq_zero_iff]
  constructor
  · intro h
    simp only [h, and_self]
  · intro h
    simp only [h, and_self]

theorem refbareq13 (a1 : Int) (a2 : Int) (a3 : ByteArray) (a4 : Int) (a5 : Int) (a6 : ByteArray) (a7 : Int) (a8 : Int) (a9 : ByteArray) (a10 : Int) (a11 : ByteArray) (a12 : Int) (a13 : Int) (a14 : Int) (a15 : Int) (a16 : Int) (a17 : Int) (a18 : Int) (a19 : ByteArray) (a20 : ByteArray) (a21 : List S61) (a22 : Int) (a23 : ByteArray) (a24 : List S63) (hd : a21.length ≤ 1000000) (hl : a24.length ≤ 1000000) (k : Nat) (hk : a21.length + a24.length + 2 < k) : ∃ r, roadbookref07_Bare.f k 13 a1 a2 a3 a4 a5 a6 a7 a8 a9 a10 a11 a12 a13 a14 a15 a16 a17 a18 a19 a20 a21 a22 a23 a24 = some r ∧ (r = true ↔ (a1 = 0 ∧ a2 = 0 ∧ a3 = (⟨#[]⟩ : ByteArray) ∧ a4 = 0 ∧ a8 = 0 ∧ a9 = (⟨#[]⟩ : ByteArray) ∧ a10 = 0 ∧ a13 = 0 ∧ a14 = 0 ∧ a15 = 0 ∧ a17 = 0 ∧ a18 = 0 ∧ a19 = (⟨#[]⟩ : ByteArray) ∧ a20 = (⟨#[]⟩ : ByteArray) ∧ a21 = ([] : List S61) ∧ a22 = 0 ∧ a23 = (⟨#[]⟩ : ByteArray))) := by
  rw [roadbookref07_Bare.f13]
  obtain ⟨r, e, h⟩ := same_f 13 0 0 (⟨#[]⟩ : ByteArray) 0 a5 a6 a7 0 (⟨#[]⟩ : ByteArray) 0 a11 a12 0 0 0 a16 0 0 (⟨#[]⟩ : ByteArray) (⟨#[]⟩ : ByteArray) ([] : List S61) 0 (⟨#[]⟩ : ByteArray) a24 13 a1 a2 a3 a4 a5 a6 a7 a8 a9 a10 a11 a12 a13 a14 a15 a16 a17 a18 a19 a20 a21 a22 a23 a24 (by decide) hl k (by (try simp only [List.length_nil]); omega)
  exact ⟨r, e, h.trans ⟨fun h => ⟨h.2.1.symm, h.2.2.1.symm, h.2.2.2.1.symm, h.2.2.2.2.1.symm, h.2.2.2.2.2.2.2.2.1.symm, h.2.2.2.2.2.2.2.2.2.1.symm, h.2.2.2.2.2.2.2.2.2.2.1.symm, h.2.2.2.2.2.2.2.2.2.2.2.2.2.1.symm, h.2.2.2.2.2.2.2.2.2.2.2.2.2.2.1.symm, h.2.2.2.2.2.2.2.2.2.2.2.2.2.2.2.1.symm, h.2.2.2.2.2.2.2.2.2.2.2.2.2.2.2.2.2.1.symm, h.2.2.2.2.2.2.2.2.2.2.2.2.2.2.2.2.2.2.1.symm, h.2.2.2.2.2.2.2.2.2.2.2.2.2.2.2.2.2.2.2.1.symm, h.2.2.2.2.2.2.2.2.2.2.2.2.2.2.2.2.2.2.2.2.1.symm, h.2.2.2.2.2.2.2.2.2.2.2.2.2.2.2.2.2.2.2.2.2.1.symm, h.2.2.2.2.2.2.2.2.2.2.2.2.2.2.2.2.2.2.2.2.2.2.1.symm, h.2.2.2.2.2.2.2.2.2.2.2.2.2.2.2.2.2.2.2.2.2.2.2.1.symm⟩, fun h => ⟨rfl, h.1.symm, h.2.1.symm, h.2.2.1.symm, h.2.2.2.1.symm, rfl, rfl, rfl, h.2.2.2.2.1.symm, h.2.2.2.2.2.1.symm, h.2.2.2.2.2.2.1.symm, rfl, rfl, h.2.2.2.2.2.2.2.1.symm, h.2.2.2.2.2.2.2.2.1.symm, h.2.2.2.2.2.2.2.2.2.1.symm, rfl, h.2.2.2.2.2.2.2.2.2.2.1.symm, h.2.2.2.2.2.2.2.2.2.2.2.1.symm, h.2.2.2.2.2.2.2.2.2.2.2.2.1.symm, h.2.2.2.2.2.2.2.2.2.2.2.2.2.1.symm, h.2.2.2.2.2.2.2.2.2.2.2.2.2.2.1.symm, h.2.2.2.2.2.2.2.2.2.2.2.2.2.2.2.1.symm, h.2.2.2.2.2.2.2.2.2.2.2.2.2.2.2.2.symm, rfl⟩⟩⟩

theorem bareq14 (a1 : Int) (a2 : Int) (a3 : ByteArray) (a4 : Int) (a5 : Int) (a6 : ByteArray) (a7 : Int) (a8 : Int) (a9 : ByteArray) (a10 : Int) (a11 : ByteArray) (a12 : Int) (a13 : Int) (a14 : Int) (a15 : Int) (a16 : Int) (a17 : Int) (a18 : Int) (a19 : ByteArray) (a20 : ByteArray) (a21 : List S61) (a22 : Int) (a23 : ByteArray) (a24 : List S63) : msg_Bare.b 14 a1 a2 a3 a4 a5 a6 a7 a8 a9 a10 a11 a12 a13 a14 a15 a16 a17 a18 a19 a20 a21 a22 a23 a24 = true ↔ (a1 = 0 ∧ a2 = 0 ∧ a3 = (⟨#[]⟩ : ByteArray) ∧ a4 = 0 ∧ a5 = 0 ∧ a6 = (⟨#[]⟩ : ByteArray) ∧ a7 = 0 ∧ a8 = 0 ∧ a9 = (⟨#[]⟩ : ByteArray) ∧ a10 = 0 ∧ a11 = (⟨#[]⟩ : ByteArray) ∧ a12 = 0 ∧ a13 = 0 ∧ a14 = 0 ∧ a15 = 0 ∧ a16 = 0 ∧ a17 = 0 ∧ a18 = 0 ∧ a19 = (⟨#[]⟩ : ByteArray) ∧ a20 = (⟨#[]⟩ : ByteArray) ∧ a21 = ([] : List S61) ∧ a24 = ([] : List S63)) := by
  rw [msg_Bare.b14]
  unfold msg_Bare.z
  simp only [Bool.and_eq_true, beq_iff_eq, beq_self_eq_true, toList_inj, true_and, and_true, Int.natCast_eq_zero, List.length_eq_zero_iff]
  constructor
  · intro h
    simp only [h, and_self]
  · intro h
    simp only [h, and_self]

theorem refbareq14 (a1 : Int) (a2 : Int) (a3 : ByteArray) (a4 : Int) (a5 : Int) (a6 : ByteArray) (a7 : Int) (a8 : Int) (a9 : ByteArray) (a10 : Int) (a11 : ByteArray) (a12 : Int) (a13 : Int) (a14 : Int) (a15 : Int) (a16 : Int) (a17 : Int) (a18 : Int) (a19 : ByteArray) (a20 : ByteArray) (a21 : List S61) (a22 : Int) (a23 : ByteArray) (a24 : List S63) (hd : a21.length ≤ 1000000) (hl : a24.length ≤ 1000000) (k : Nat) (hk : a21.length + a24.length + 2 < k) : ∃ r, roadbookref07_Bare.f k 14 a1 a2 a3 a4 a5 a6 a7 a8 a9 a10 a11 a12 a13 a14 a15 a16 a17 a18 a19 a20 a21 a22 a23 a24 = some r ∧ (r = true ↔ (a1 = 0 ∧ a2 = 0 ∧ a3 = (⟨#[]⟩ : ByteArray) ∧ a4 = 0 ∧ a5 = 0 ∧ a6 = (⟨#[]⟩ : ByteArray) ∧ a7 = 0 ∧ a8 = 0 ∧ a9 = (⟨#[]⟩ : ByteArray) ∧ a10 = 0 ∧ a11 = (⟨#[]⟩ : ByteArray) ∧ a12 = 0 ∧ a13 = 0 ∧ a14 = 0 ∧ a15 = 0 ∧ a16 = 0 ∧ a17 = 0 ∧ a18 = 0 ∧ a19 = (⟨#[]⟩ : ByteArray) ∧ a20 = (⟨#[]⟩ : ByteArray) ∧ a21 = ([] : List S61) ∧ a24 = ([] : List S63))) := by
  rw [roadbookref07_Bare.f14]
  obtain ⟨r, e, h⟩ := same_f 14 0 0 (⟨#[]⟩ : ByteArray) 0 0 (⟨#[]⟩ : ByteArray) 0 0 (⟨#[]⟩ : ByteArray) 0 (⟨#[]⟩ : ByteArray) 0 0 0 0 0 0 0 (⟨#[]⟩ : ByteArray) (⟨#[]⟩ : ByteArray) ([] : List S61) a22 a23 ([] : List S63) 14 a1 a2 a3 a4 a5 a6 a7 a8 a9 a10 a11 a12 a13 a14 a15 a16 a17 a18 a19 a20 a21 a22 a23 a24 (by decide) (by decide) k (by (try simp only [List.length_nil]); omega)
  exact ⟨r, e, h.trans ⟨fun h => ⟨h.2.1.symm, h.2.2.1.symm, h.2.2.2.1.symm, h.2.2.2.2.1.symm, h.2.2.2.2.2.1.symm, h.2.2.2.2.2.2.1.symm, h.2.2.2.2.2.2.2.1.symm, h.2.2.2.2.2.2.2.2.1.symm, h.2.2.2.2.2.2.2.2.2.1.symm, h.2.2.2.2.2.2.2.2.2.2.1.symm, h.2.2.2.2.2.2.2.2.2.2.2.1.symm, h.2.2.2.2.2.2.2.2.2.2.2.2.1.symm, h.2.2.2.2.2.2.2.2.2.2.2.2.2.1.symm, h.2.2.2.2.2.2.2.2.2.2.2.2.2.2.1.symm, h.2.2.2.2.2.2.2.2.2.2.2.2.2.2.2.1.symm, h.2.2.2.2.2.2.2.2.2.2.2.2.2.2.2.2.1.symm, h.2.2.2.2.2.2.2.2.2.2.2.2.2.2.2.2.2.1.symm, h.2.2.2.2.2.2.2.2.2.2.2.2.2.2.2.2.2.2.1.symm, h.2.2.2.2.2.2.2.2.2.2.2.2.2.2.2.2.2.2.2.1.symm, h.2.2.2.2.2.2.2.2.2.2.2.2.2.2.2.2.2.2.2.2.1.symm, h.2.2.2.2.2.2.2.2.2.2.2.2.2.2.2.2.2.2.2.2.2.1.symm, h.2.2.2.2.2.2.2.2.2.2.2.2.2.2.2.2.2.2.2.2.2.2.2.2.symm⟩, fun h => ⟨rfl, h.1.symm, h.2.1.symm, h.2.2.1.symm, h.2.2.2.1.symm, h.2.2.2.2.1.symm, h.2.2.2.2.2.1.symm, h.2.2.2.2.2.2.1.symm, h.2.2.2.2.2.2.2.1.symm, h.2.2.2.2.2.2.2.2.1.symm, h.2.2.2.2.2.2.2.2.2.1.symm, h.2.2.2.2.2.2.2.2.2.2.1.symm, h.2.2.2.2.2.2.2.2.2.2.2.1.symm, h.2.2.2.2.2.2.2.2.2.2.2.2.1.symm, h.2.2.2.2.2.2.2.2.2.2.2.2.2.1.symm, h.2.2.2.2.2.2.2.2.2.2.2.2.2.2.1.symm, h.2.2.2.2.2.2.2.2.2.2.2.2.2.2.2.1.symm, h.2.2.2.2.2.2.2.2.2.2.2.2.2.2.2.2.1.symm, h.2.2.2.2.2.2.2.2.2.2.2.2.2.2.2.2.2.1.symm, h.2.2.2.2.2.2.2.2.2.2.2.2.2.2.2.2.2.2.1.symm, h.2.2.2.2.2.2.2.2.2.2.2.2.2.2.2.2.2.2.2.1.symm, h.2.2.2.2.2.2.2.2.2.2.2.2.2.2.2.2.2.2.2.2.1.symm, rfl, rfl, h.2.2.2.2.2.2.2.2.2.2.2.2.2.2.2.2.2.2.2.2.2.symm⟩⟩⟩

/-- Bare tells the same in the program and in the reference. -/
theorem refbare_all (a0 : Int) (a1 : Int) (a2 : Int) (a3 : ByteArray) (a4 : Int) (a5 : Int) (a6 : ByteArray) (a7 : Int) (a8 : Int) (a9 : ByteArray) (a10 : Int) (a11 : ByteArray) (a12 : Int) (a13 : Int) (a14 : Int) (a15 : Int) (a16 : Int) (a17 : Int) (a18 : Int) (a19 : ByteArray) (a20 : ByteArray) (a21 : List S61) (a22 : Int) (a23 : ByteArray) (a24 : List S63) (hd : a21.length ≤ 1000000) (hl : a24.length ≤ 1000000) (k : Nat) (hk : a21.length + a24.length + 2 < k) : ∃ r, roadbookref07_Bare.f k a0 a1 a2 a3 a4 a5 a6 a7 a8 a9 a10 a11 a12 a13 a14 a15 a16 a17 a18 a19 a20 a21 a22 a23 a24 = some r ∧ (r = true ↔ msg_Bare.b a0 a1 a2 a3 a4 a5 a6 a7 a8 a9 a10 a11 a12 a13 a14 a15 a16 a17 a18 a19 a20 a21 a22 a23 a24 = true) := by
  by_cases c1 : a0 = 1
  · subst c1
    obtain ⟨b, e, h⟩ := refbareq1 a1 a2 a3 a4 a5 a6 a7 a8 a9 a10 a11 a12 a13 a14 a15 a16 a17 a18 a19 a20 a21 a22 a23 a24 hd hl k hk
    exact ⟨b, e, by rw [bareq1]; exact h⟩
  by_cases c2 : a0 = 2
  · subst c2
    obtain ⟨b, e, h⟩ := refbareq2 a1 a2 a3 a4 a5 a6 a7 a8 a9 a10 a11 a12 a13 a14 a15 a16 a17 a18 a19 a20 a21 a22 a23 a24 hd hl k hk
    exact ⟨b, e, by rw [bareq2]; exact h⟩
  by_cases c3 : a0 = 3
  · subst c3
    obtain ⟨b, e, h⟩ := refbareq3 a1 a2 a3 a4 a5 a6 a7 a8 a9 a10 a11 a12 a13 a14 a15 a16 a17 a18 a19 a20 a21 a22 a23 a24 hd hl k hk
    exact ⟨b, e, by rw [bareq3]; exact h⟩
  by_cases c4 : a0 = 4
  · subst c4
    obtain ⟨b, e, h⟩ := refbareq4 a1 a2 a3 a4 a5 a6 a7 a8 a9 a10 a11 a12 a13 a14 a15 a16 a17 a18 a19 a20 a21 a22 a23 a24 hd hl k hk
    exact ⟨b, e, by rw [bareq4]; exact h⟩
  by_cases c5 : a0 = 5
  · subst c5
    obtain ⟨b, e, h⟩ := refbareq5 a1 a2 a3 a4 a5 a6 a7 a8 a9 a10 a11 a12 a13 a14 a15 a16 a17 a18 a19 a20 a21 a22 a23 a24 hd hl k hk
    exact ⟨b, e, by rw [bareq5]; exact h⟩
  by_cases c6 : a0 = 6
  · subst c6
    obtain ⟨b, e, h⟩ := refbareq6 a1 a2 a3 a4 a5 a6 a7 a8 a9 a10 a11 a12 a13 a14 a15 a16 a17 a18 a19 a20 a21 a22 a23 a24 hd hl k hk
    exact ⟨b, e, by rw [bareq6]; exact h⟩
  by_cases c7 : a0 = 7
  · subst c7
    obtain ⟨b, e, h⟩ := refbareq7 a1 a2 a3 a4 a5 a6 a7 a8 a9 a10 a11 a12 a13 a14 a15 a16 a17 a18 a19 a20 a21 a22 a23 a24 hd hl k hk
    exact ⟨b, e, by rw [bareq7]; exact h⟩
  by_cases c8 : a0 = 8
  · subst c8
    obtain ⟨b, e, h⟩ := refbareq8 a1 a2 a3 a4 a5 a6 a7 a8 a9 a10 a11 a12 a13 a14 a15 a16 a17 a18 a19 a20 a21 a22 a23 a24 hd hl k hk
    exact ⟨b, e, by rw [bareq8]; exact h⟩
  by_cases c9 : a0 = 9
  · subst c9
    obtain ⟨b, e, h⟩ := refbareq9 a1 a2 a3 a4 a5 a6 a7 a8 a9 a10 a11 a12 a13 a14 a15 a16 a17 a18 a19 a20 a21 a22 a23 a24 hd hl k hk
    exact ⟨b, e, by rw [bareq9]; exact h⟩
  by_cases c10 : a0 = 10
  · subst c10
    obtain ⟨b, e, h⟩ := refbareq10 a1 a2 a3 a4 a5 a6 a7 a8 a9 a10 a11 a12 a13 a14 a15 a16 a17 a18 a19 a20 a21 a22 a23 a24 hd hl k hk
    exact ⟨b, e, by rw [bareq10]; exact h⟩
  by_cases c11 : a0 = 11
  · subst c11
    obtain ⟨b, e, h⟩ := refbareq11 a1 a2 a3 a4 a5 a6 a7 a8 a9 a10 a11 a12 a13 a14 a15 a16 a17 a18 a19 a20 a21 a22 a23 a24 hd hl k hk
    exact ⟨b, e, by rw [bareq11]; exact h⟩
  by_cases c12 : a0 = 12
  · subst c12
    obtain ⟨b, e, h⟩ := refbareq12 a1 a2 a3 a4 a5 a6 a7 a8 a9 a10 a11 a12 a13 a14 a15 a16 a17 a18 a19 a20 a21 a22 a23 a24 hd hl k hk
    exact ⟨b, e, by rw [bareq12]; exact h⟩
  by_cases c13 : a0 = 13
  · subst c13
    obtain ⟨b, e, h⟩ := refbareq13 a1 a2 a3 a4 a5 a6 a7 a8 a9 a10 a11 a12 a13 a14 a15 a16 a17 a18 a19 a20 a21 a22 a23 a24 hd hl k hk
    exact ⟨b, e, by rw [bareq13]; exact h⟩
  by_cases c14 : a0 = 14
  · subst c14
    obtain ⟨b, e, h⟩ := refbareq14 a1 a2 a3 a4 a5 a6 a7 a8 a9 a10 a11 a12 a13 a14 a15 a16 a17 a18 a19 a20 a21 a22 a23 a24 hd hl k hk
    exact ⟨b, e, by rw [bareq14]; exact h⟩
  unfold roadbookref07_Bare.f msg_Bare.b
  rw [if_neg c1, if_neg c1, if_neg c2, if_neg c2, if_neg c3, if_neg c3, if_neg c4, if_neg c4, if_neg c5, if_neg c5, if_neg c6, if_neg c6, if_neg c7, if_neg c7, if_neg c8, if_neg c8, if_neg c9, if_neg c9, if_neg c10, if_neg c10, if_neg c11, if_neg c11, if_neg c12, if_neg c12, if_neg c13, if_neg c13, if_neg c14, if_neg c14]
  exact ⟨false, rfl, Iff.rfl⟩

/-- A Sub whose type lies within bounds, and whose bytes are few. -/
def okR (lo hi : Int) (x : S63) : Prop := lo ≤ x.f0 ∧ x.f0 ≤ hi ∧ x.f1.size ≤ 255
instance (lo hi : Int) (x : S63) : Decidable (okR lo hi x) := by unfold okR; infer_instance
theorem drop_rd {l : List S63} {i : Nat} (h : i < l.length) : l.drop i = rd_T63 l (i : Int) :: l.drop (i + 1) := by
  unfold rd_T63
  rw [Int.toNat_natCast, List.drop_eq_getElem_cons h, List.getD_eq_getElem?_getD, List.getElem?_eq_getElem h]; rfl
/-- The bytes of Subs. -/
def bytesS : List S63 → Nat
  | [] => 0
  | x :: l => 2 + x.f1.size + bytesS l
theorem bytesS_le (l : List S63) (c : Nat) (h : ∀ x ∈ l, x.f1.size ≤ c) : bytesS l ≤ l.length * (c + 2) := by
  induction l with
  | nil => simp [bytesS]
  | cons x l ih =>
    have h1 := h x (by simp)
    have h2 := ih fun y hy => h y (by simp [hy])
    rw [bytesS, List.length_cons, Nat.add_mul]; omega

theorem subs_loop (lo hi : Int) (l : List S63) (hl : l.length ≤ 1000000) (m : Nat) : ∀ (k i : Nat), m < k → l.length - i = m → i ≤ l.length →
    msg_Subs.l0 k lo hi l (l.length : Int) i = some (decide (∀ x ∈ l.drop i, okR lo hi x)) := by
  induction m with
  | zero =>
    intro k i hk hm hin
    obtain ⟨k, rfl⟩ : ∃ j, k = j + 1 := ⟨k - 1, by omega⟩
    simp only [msg_Subs.l0]
    rw [if_neg (by omega), List.drop_eq_nil_of_le (by omega)]
    simp
  | succ m ih =>
    intro k i hk hm hin
    obtain ⟨k, rfl⟩ : ∃ j, k = j + 1 := ⟨k - 1, by omega⟩
    simp only [msg_Subs.l0]
    rw [if_pos (by omega), if_pos (by omega), if_pos (by omega), wrap64_id (x := (i : Int) + 1) (by omega) (by omega)]
    have := ih k (i + 1) (by omega) (by omega) (by omega)
    rw [show ((i : Int) + 1) = ((i + 1 : Nat) : Int) by omega, this, drop_rd (i := i) (by omega)]
    generalize rd_T63 l (i : Int) = x
    have e : (∀ y ∈ x :: l.drop (i + 1), okR lo hi y) ↔ okR lo hi x ∧ ∀ y ∈ l.drop (i + 1), okR lo hi y := by simp
    by_cases c1 : x.f0 < lo
    · rw [if_pos c1, decide_eq_false (fun h => by have := (e.mp h).1; unfold okR at this; omega)]
    by_cases c2 : x.f0 > hi
    · rw [if_neg c1, if_pos c2, decide_eq_false (fun h => by have := (e.mp h).1; unfold okR at this; omega)]
    by_cases c3 : (x.f1.size : Int) > 255
    · rw [if_neg c1, if_neg c2, if_pos c3, decide_eq_false (fun h => by have := (e.mp h).1; unfold okR at this; omega)]
    rw [if_neg c1, if_neg c2, if_neg c3]
    have ok : okR lo hi x := by unfold okR; omega
    congr 1
    rw [decide_eq_decide, e]
    exact ⟨fun h => ⟨ok, h⟩, fun h => h.2⟩
theorem psubs_f (l : List S63) (lo hi : Int) (hl : l.length ≤ 1000000) (k : Nat) (hk : l.length < k) : msg_Subs.f k l lo hi = some (decide (∀ x ∈ l, okR lo hi x)) := by
  unfold msg_Subs.f
  have := subs_loop lo hi l hl l.length k 0 hk (by omega) (by omega)
  rw [List.drop_zero] at this
  exact this
theorem bytes_loop (l : List S63) (hl : l.length ≤ 1000000) (hs : ∀ x ∈ l, x.f1.size ≤ 1000) (m : Nat) : ∀ (k i : Nat) (a : Int), m < k → l.length - i = m → i ≤ l.length → 0 ≤ a → a ≤ 1002 * i →
    msg_Bytes.l0 k a l (l.length : Int) i = some (a + bytesS (l.drop i)) := by
  induction m with
  | zero =>
    intro k i a hk hm hi h0 h1
    obtain ⟨k, rfl⟩ : ∃ j, k = j + 1 := ⟨k - 1, by omega⟩
    simp only [msg_Bytes.l0]
    rw [if_neg (by omega), List.drop_eq_nil_of_le (by omega)]
    simp [bytesS]
  | succ m ih =>
    intro k i a hk hm hi h0 h1
    obtain ⟨k, rfl⟩ : ∃ j, k = j + 1 := ⟨k - 1, by omega⟩
    simp only [msg_Bytes.l0]
    have hx : (rd_T63 l (i : Int)).f1.size ≤ 1000 := hs _ (List.mem_of_mem_drop (i := i) (by rw [drop_rd (i := i) (by omega)]; simp))
    rw [if_pos (by omega), if_pos (by omega), if_pos (by omega), wrap64_id (x := (i : Int) + 1) (by omega) (by omega)]
    rw [drop_rd (i := i) (by omega)]
    generalize rd_T63 l (i : Int) = x at hx
    rw [wrap64_id (x := 2 + (x.f1.size : Int)) (by omega) (by omega), wrap64_id (by omega) (by omega)]
    have := ih k (i + 1) (a + (2 + (x.f1.size : Int))) (by omega) (by omega) (by omega) (by omega) (by omega)
    rw [show ((i : Int) + 1) = ((i + 1 : Nat) : Int) by omega, this, bytesS]
    congr 1; omega
theorem pbytes_f (l : List S63) (hl : l.length ≤ 1000000) (hs : ∀ x ∈ l, x.f1.size ≤ 1000) (k : Nat) (hk : l.length < k) : msg_Bytes.f k l = some (bytesS l : Int) := by
  unfold msg_Bytes.f
  have := bytes_loop l hl hs l.length k 0 0 hk (by omega) (by omega) (by omega) (by omega)
  rw [List.drop_zero] at this
  rw [show ((0 : Nat) : Int) = 0 from rfl] at this
  rw [this]; congr 1; omega

theorem refsubs_loop (lo hi : Int) (l : List S63) (hl : l.length ≤ 1000000) (m : Nat) : ∀ (k i : Nat), m < k → l.length - i = m → i ≤ l.length →
    roadbookref07_Subs.l0 k l lo hi i = some (decide (∀ x ∈ l.drop i, okR lo hi x)) := by
  induction m with
  | zero =>
    intro k i hk hm hin
    obtain ⟨k, rfl⟩ : ∃ j, k = j + 1 := ⟨k - 1, by omega⟩
    simp only [roadbookref07_Subs.l0]
    rw [if_neg (by omega), List.drop_eq_nil_of_le (by omega)]
    simp
  | succ m ih =>
    intro k i hk hm hin
    obtain ⟨k, rfl⟩ : ∃ j, k = j + 1 := ⟨k - 1, by omega⟩
    simp only [roadbookref07_Subs.l0]
    rw [if_pos (by omega), if_pos (by omega), wrap64_id (x := (i : Int) + 1) (by omega) (by omega)]
    have := ih k (i + 1) (by omega) (by omega) (by omega)
    rw [show ((i : Int) + 1) = ((i + 1 : Nat) : Int) by omega, this, drop_rd (i := i) (by omega)]
    generalize rd_T63 l (i : Int) = x
    have e : (∀ y ∈ x :: l.drop (i + 1), okR lo hi y) ↔ okR lo hi x ∧ ∀ y ∈ l.drop (i + 1), okR lo hi y := by simp
    by_cases c1 : x.f0 < lo
    · rw [if_pos c1, decide_eq_false (fun h => by have := (e.mp h).1; unfold okR at this; omega)]
    by_cases c2 : x.f0 > hi
    · rw [if_neg c1, if_pos c2, decide_eq_false (fun h => by have := (e.mp h).1; unfold okR at this; omega)]
    by_cases c3 : (x.f1.size : Int) > 255
    · rw [if_neg c1, if_neg c2, if_pos c3, decide_eq_false (fun h => by have := (e.mp h).1; unfold okR at this; omega)]
    rw [if_neg c1, if_neg c2, if_neg c3]
    have ok : okR lo hi x := by unfold okR; omega
    congr 1
    rw [decide_eq_decide, e]
    exact ⟨fun h => ⟨ok, h⟩, fun h => h.2⟩
theorem refsubs_f (l : List S63) (lo hi : Int) (hl : l.length ≤ 1000000) (k : Nat) (hk : l.length < k) : roadbookref07_Subs.f k l lo hi = some (decide (∀ x ∈ l, okR lo hi x)) := by
  unfold roadbookref07_Subs.f
  have := refsubs_loop lo hi l hl l.length k 0 hk (by omega) (by omega)
  rw [List.drop_zero] at this
  exact this

theorem refbytes_loop (l : List S63) (hl : l.length ≤ 1000000) (hs : ∀ x ∈ l, x.f1.size ≤ 1000) (m : Nat) : ∀ (k i : Nat) (a : Int), m < k → l.length - i = m → i ≤ l.length → 0 ≤ a → a ≤ 1002 * i →
    roadbookref07_Bytes.l0 k l a i = some (a + bytesS (l.drop i)) := by
  induction m with
  | zero =>
    intro k i a hk hm hi h0 h1
    obtain ⟨k, rfl⟩ : ∃ j, k = j + 1 := ⟨k - 1, by omega⟩
    simp only [roadbookref07_Bytes.l0]
    rw [if_neg (by omega), List.drop_eq_nil_of_le (by omega)]
    simp [bytesS]
  | succ m ih =>
    intro k i a hk hm hi h0 h1
    obtain ⟨k, rfl⟩ : ∃ j, k = j + 1 := ⟨k - 1, by omega⟩
    simp only [roadbookref07_Bytes.l0]
    have hx : (rd_T63 l (i : Int)).f1.size ≤ 1000 := hs _ (List.mem_of_mem_drop (i := i) (by rw [drop_rd (i := i) (by omega)]; simp))
    rw [if_pos (by omega), if_pos (by omega), wrap64_id (x := (i : Int) + 1) (by omega) (by omega)]
    rw [drop_rd (i := i) (by omega)]
    generalize rd_T63 l (i : Int) = x at hx
    rw [wrap64_id (x := a + 2) (by omega) (by omega), wrap64_id (by omega) (by omega)]
    have := ih k (i + 1) (a + 2 + (x.f1.size : Int)) (by omega) (by omega) (by omega) (by omega) (by omega)
    rw [show ((i : Int) + 1) = ((i + 1 : Nat) : Int) by omega, this, bytesS]
    congr 1; omega
theorem refbytes_f (l : List S63) (hl : l.length ≤ 1000000) (hs : ∀ x ∈ l, x.f1.size ≤ 1000) (k : Nat) (hk : l.length < k) : roadbookref07_Bytes.f k l = some (bytesS l : Int) := by
  unfold roadbookref07_Bytes.f
  have := refbytes_loop l hl hs l.length k 0 0 hk (by omega) (by omega) (by omega) (by omega)
  rw [List.drop_zero] at this
  rw [show ((0 : Nat) : Int) = 0 from rfl] at this
  rw [this]; congr 1; omega

theorem MsgTells : roadbooklaw07_MsgTells.Pure := by
  intro a0_0 a0_1 a0_2 a0_3 a0_4 a0_5 a0_6 a0_7 a0_8 a0_9 a0_10 a0_11 a0_12 a0_13 a0_14 a0_15 a0_16 a0_17 a0_18 a0_19 a0_20 l0_21 a0_22 a0_23 l0_24 a1_0 a1_1 a1_2 a1_3 a1_4 a1_5 a1_6 a1_7 a1_8 a1_9 a1_10 a1_11 a1_12 a1_13 a1_14 a1_15 a1_16 a1_17 a1_18 a1_19 a1_20 l1_21 a1_22 a1_23 l1_24 lo hi g g' _
  refine ⟨5000, ?_⟩
  obtain ⟨g0, g1, g2, g3, g4, g5, g6, g7, g8, g9, g10, g11, g12, g13, g14, g15, g16, g17, g18, g19, g20, g21, g22, g23, g24⟩ := g
  obtain ⟨q0, q1, q2, q3, q4, q5, q6, q7, q8, q9, q10, q11, q12, q13, q14, q15, q16, q17, q18, q19, q20, q21, q22, q23, q24⟩ := g'
  unfold roadbooklaw07_MsgTells.f
  have aw : roadbooklaw07_MsgTells.j0 5000 true a0_0 a0_1 a0_2 a0_3 a0_4 a0_5 a0_6 a0_7 a0_8 a0_9 a0_10 a0_11 a0_12 a0_13 a0_14 a0_15 a0_16 a0_17 a0_18 a0_19 a0_20 l0_21 a0_22 a0_23 l0_24 a1_0 a1_1 a1_2 a1_3 a1_4 a1_5 a1_6 a1_7 a1_8 a1_9 a1_10 a1_11 a1_12 a1_13 a1_14 a1_15 a1_16 a1_17 a1_18 a1_19 a1_20 l1_21 a1_22 a1_23 l1_24 lo hi = some true := by
    simp only [roadbooklaw07_MsgTells.j0, if_true]
    rw [msgawake_f 4999 (by omega)]; rfl
  obtain ⟨b, e, hb⟩ := few_f a0_0 a0_1 a0_2 a0_3 a0_4 a0_5 a0_6 a0_7 a0_8 a0_9 a0_10 a0_11 a0_12 a0_13 a0_14 a0_15 a0_16 a0_17 a0_18 a0_19 a0_20 l0_21 a0_22 a0_23 l0_24 g3 g6 g9 g11 g19 g20 5000 (by omega)
  obtain ⟨b', e', hb'⟩ := few_f a1_0 a1_1 a1_2 a1_3 a1_4 a1_5 a1_6 a1_7 a1_8 a1_9 a1_10 a1_11 a1_12 a1_13 a1_14 a1_15 a1_16 a1_17 a1_18 a1_19 a1_20 l1_21 a1_22 a1_23 l1_24 q3 q6 q9 q11 q19 q20 5000 (by omega)
  rw [e, Option.bind_some, e', aw]
  cases b with
  | false => rw [if_neg (by decide)]
  | true =>
    rw [if_pos rfl, Option.bind_some]
    cases b' with
    | false => exact aw
    | true =>
      obtain ⟨d1, d2, _, _, _, _, _, d8⟩ := hb rfl
      show roadbooklaw07_MsgTells.j0 5000 false a0_0 a0_1 a0_2 a0_3 a0_4 a0_5 a0_6 a0_7 a0_8 a0_9 a0_10 a0_11 a0_12 a0_13 a0_14 a0_15 a0_16 a0_17 a0_18 a0_19 a0_20 l0_21 a0_22 a0_23 l0_24 a1_0 a1_1 a1_2 a1_3 a1_4 a1_5 a1_6 a1_7 a1_8 a1_9 a1_10 a1_11 a1_12 a1_13 a1_14 a1_15 a1_16 a1_17 a1_18 a1_19 a1_20 l1_21 a1_22 a1_23 l1_24 lo hi = some true
      simp only [roadbooklaw07_MsgTells.j0, Bool.false_eq_true, if_false]
      rw [msgawake_f 4999 (by omega), Option.bind_some, if_pos rfl]
      obtain ⟨r, e1, hr⟩ := msame_f a0_0 a0_1 a0_2 a0_3 a0_4 a0_5 a0_6 a0_7 a0_8 a0_9 a0_10 a0_11 a0_12 a0_13 a0_14 a0_15 a0_16 a0_17 a0_18 a0_19 a0_20 l0_21 a0_22 a0_23 l0_24 a1_0 a1_1 a1_2 a1_3 a1_4 a1_5 a1_6 a1_7 a1_8 a1_9 a1_10 a1_11 a1_12 a1_13 a1_14 a1_15 a1_16 a1_17 a1_18 a1_19 a1_20 l1_21 a1_22 a1_23 l1_24 (by omega) (by omega) 4999 (by omega)
      obtain ⟨r', e2, hr'⟩ := same_f a0_0 a0_1 a0_2 a0_3 a0_4 a0_5 a0_6 a0_7 a0_8 a0_9 a0_10 a0_11 a0_12 a0_13 a0_14 a0_15 a0_16 a0_17 a0_18 a0_19 a0_20 l0_21 a0_22 a0_23 l0_24 a1_0 a1_1 a1_2 a1_3 a1_4 a1_5 a1_6 a1_7 a1_8 a1_9 a1_10 a1_11 a1_12 a1_13 a1_14 a1_15 a1_16 a1_17 a1_18 a1_19 a1_20 l1_21 a1_22 a1_23 l1_24 (by omega) (by omega) 4999 (by omega)
      have er : r' = r := by rw [Bool.eq_iff_iff, hr, hr']
      subst er
      rw [e1, e2, Option.bind_some, Option.bind_some, beq_self_eq_true, if_pos rfl]
      obtain ⟨s, e3, hs⟩ := refbare_all a0_0 a0_1 a0_2 a0_3 a0_4 a0_5 a0_6 a0_7 a0_8 a0_9 a0_10 a0_11 a0_12 a0_13 a0_14 a0_15 a0_16 a0_17 a0_18 a0_19 a0_20 l0_21 a0_22 a0_23 l0_24 (by omega) (by omega) 4999 (by omega)
      have es : s = msg_Bare.b a0_0 a0_1 a0_2 a0_3 a0_4 a0_5 a0_6 a0_7 a0_8 a0_9 a0_10 a0_11 a0_12 a0_13 a0_14 a0_15 a0_16 a0_17 a0_18 a0_19 a0_20 l0_21 a0_22 a0_23 l0_24 := by rw [Bool.eq_iff_iff, hs]
      unfold msg_Bare.f
      rw [e3, Option.bind_some, Option.bind_some, es, beq_self_eq_true, if_pos rfl]
      rw [pbytes_f l0_24 (by omega) (fun x hx => Nat.le_trans (d8 x hx) (by decide)) 4999 (by omega), refbytes_f l0_24 (by omega) (fun x hx => Nat.le_trans (d8 x hx) (by decide)) 4999 (by omega), Option.bind_some, Option.bind_some, if_pos rfl, psubs_f l0_24 lo hi (by omega) 4999 (by omega), refsubs_f l0_24 lo hi (by omega) 4999 (by omega), Option.bind_some, Option.bind_some, beq_self_eq_true]

end Go.Proofs.Ytelcciekdoccfaa.Pure
