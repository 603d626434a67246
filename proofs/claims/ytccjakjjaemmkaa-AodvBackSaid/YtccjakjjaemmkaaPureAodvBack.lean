/-
A message that may be comes back of its datagram; a datagram is its message's, byte for byte; for messages of few parts, of few bytes, and at most 3000 bytes.
-/
import Derived.Test.YtccjakjjaemmkaaQAodvBack
import Derived.Test.YtccjakjjaemmkaaBase
import Derived.Test.YtccjakjjaemmkaaConv
namespace Go.Proofs.Ytccjakjjaemmkaa.Pure
open Go.RowKit Go.Proofs.Ytccjakjjaemmkaa.PAB Go.Proofs.YtccjakjjaemmkaaW.PrintWords Go.Proofs.YtccjakjjaemmkaaW.PrintLast Go.Proofs.YtccjakjjaemmkaaW.PrintMore Go.Proofs.Ytccjakjjaemmkaa.Base
set_option linter.unusedVariables false
set_option linter.unusedSimpArgs false

theorem aoawake_f (k : Nat) (hk : 60 ≤ k) : roadbooklaw17_awake.f k = some true := at_rounds (g := fun k => roadbooklaw17_awake.f k) (fun k => roadbooklaw17_awake.mono k) hk (by decide +kernel)

theorem rd_mem_48 {l : List S48} {P : S48 → Prop} (h : ∀ j : Nat, j < l.length → P (rd_T48 l (j : Int))) : ∀ x ∈ l, P x := by
  intro x hx
  obtain ⟨j, hj, rfl⟩ := List.getElem_of_mem hx
  have := h j hj
  unfold rd_T48 at this
  rwa [Int.toNat_natCast, List.getD_eq_getElem?_getD, List.getElem?_eq_getElem hj] at this
theorem rd_mem_46 {l : List S46} {P : S46 → Prop} (h : ∀ j : Nat, j < l.length → P (rd_T46 l (j : Int))) : ∀ x ∈ l, P x := by
  intro x hx
  obtain ⟨j, hj, rfl⟩ := List.getElem_of_mem hx
  have := h j hj
  unfold rd_T46 at this
  rwa [Int.toNat_natCast, List.getD_eq_getElem?_getD, List.getElem?_eq_getElem hj] at this

theorem few_l1 (a0 : Int) (a1 : Int) (a2 : Int) (a3 : ByteArray) (a4 : Int) (a5 : Int) (a6 : ByteArray) (a7 : Int) (a8 : Int) (a9 : ByteArray) (a10 : Int) (a11 : ByteArray) (a12 : Int) (a13 : Int) (a14 : Int) (a15 : Int) (a16 : Int) (a17 : Int) (a18 : Int) (a19 : ByteArray) (a20 : ByteArray) (a21 : List S46) (a22 : Int) (a23 : ByteArray) (a24 : List S48) (hl : a24.length ≤ 1000000) (m : Nat) : ∀ (k i : Nat), m < k → a24.length - i = m → ∃ b, roadbookref07_Few.l1 k i a0 a1 a2 a3 a4 a5 a6 a7 a8 a9 a10 a11 a12 a13 a14 a15 a16 a17 a18 a19 a20 a21 a22 a23 a24 = some b ∧ (b = true → ∀ j : Nat, i ≤ j → j < a24.length → ((rd_T48 a24 (j : Int)).f1).size ≤ 300) := by
  induction m with
  | zero =>
    intro k i hk hm
    obtain ⟨k, rfl⟩ : ∃ j, k = j + 1 := ⟨k - 1, by omega⟩
    simp only [roadbookref07_Few.l1]
    rw [if_neg (by omega)]
    exact ⟨true, rfl, fun _ j h1 h2 => by omega⟩
  | succ m ih =>
    intro k i hk hm
    obtain ⟨k, rfl⟩ : ∃ j, k = j + 1 := ⟨k - 1, by omega⟩
    simp only [roadbookref07_Few.l1]
    rw [if_pos (by omega), if_pos (by omega)]
    by_cases c : (((rd_T48 a24 (i : Int)).f1).size : Int) > 300
    · rw [if_pos c]; exact ⟨false, rfl, fun h => (by cases h)⟩
    · rw [if_neg c, wrap64_id (by omega) (by omega)]
      obtain ⟨b, e, hb⟩ := ih k (i + 1) (by omega) (by omega)
      refine ⟨b, e, fun h j h1 h2 => ?_⟩
      by_cases d : j = i
      · rw [d]; omega
      · exact hb h j (by omega) h2
theorem few_l0 (a0 : Int) (a1 : Int) (a2 : Int) (a3 : ByteArray) (a4 : Int) (a5 : Int) (a6 : ByteArray) (a7 : Int) (a8 : Int) (a9 : ByteArray) (a10 : Int) (a11 : ByteArray) (a12 : Int) (a13 : Int) (a14 : Int) (a15 : Int) (a16 : Int) (a17 : Int) (a18 : Int) (a19 : ByteArray) (a20 : ByteArray) (a21 : List S46) (a22 : Int) (a23 : ByteArray) (a24 : List S48) (hd : a21.length ≤ 1000000) (hl : a24.length ≤ 1000000) (m : Nat) : ∀ (k i : Nat), m + a24.length + 1 < k → a21.length - i = m → ∃ b, roadbookref07_Few.l0 k i a0 a1 a2 a3 a4 a5 a6 a7 a8 a9 a10 a11 a12 a13 a14 a15 a16 a17 a18 a19 a20 a21 a22 a23 a24 = some b ∧ (b = true → (∀ j : Nat, i ≤ j → j < a21.length → ((rd_T46 a21 (j : Int)).f0).size ≤ 50) ∧ ∀ j : Nat, j < a24.length → ((rd_T48 a24 (j : Int)).f1).size ≤ 300) := by
  induction m with
  | zero =>
    intro k i hk hm
    obtain ⟨k, rfl⟩ : ∃ j, k = j + 1 := ⟨k - 1, by omega⟩
    simp only [roadbookref07_Few.l0]
    rw [if_neg (by omega)]
    obtain ⟨b, e, hb⟩ := few_l1 a0 a1 a2 a3 a4 a5 a6 a7 a8 a9 a10 a11 a12 a13 a14 a15 a16 a17 a18 a19 a20 a21 a22 a23 a24 hl a24.length k 0 (by omega) (by omega)
    exact ⟨b, e, fun h => ⟨fun j h1 h2 => by omega, fun j h2 => hb h j (by omega) h2⟩⟩
  | succ m ih =>
    intro k i hk hm
    obtain ⟨k, rfl⟩ : ∃ j, k = j + 1 := ⟨k - 1, by omega⟩
    simp only [roadbookref07_Few.l0]
    rw [if_pos (by omega), if_pos (by omega)]
    by_cases c : (((rd_T46 a21 (i : Int)).f0).size : Int) > 50
    · rw [if_pos c]; exact ⟨false, rfl, fun h => (by cases h)⟩
    · rw [if_neg c, wrap64_id (by omega) (by omega)]
      obtain ⟨b, e, hb⟩ := ih k (i + 1) (by omega) (by omega)
      refine ⟨b, e, fun h => ⟨fun j h1 h2 => ?_, (hb h).2⟩⟩
      by_cases d : j = i
      · rw [d]; omega
      · exact (hb h).1 j (by omega) h2
/-- Few tells something, and where it says yes the parts are few and small. -/
theorem few_f (a0 : Int) (a1 : Int) (a2 : Int) (a3 : ByteArray) (a4 : Int) (a5 : Int) (a6 : ByteArray) (a7 : Int) (a8 : Int) (a9 : ByteArray) (a10 : Int) (a11 : ByteArray) (a12 : Int) (a13 : Int) (a14 : Int) (a15 : Int) (a16 : Int) (a17 : Int) (a18 : Int) (a19 : ByteArray) (a20 : ByteArray) (a21 : List S46) (a22 : Int) (a23 : ByteArray) (a24 : List S48) (h3 : a3.size ≤ 140737488351232) (h6 : a6.size ≤ 140737488351232) (h9 : a9.size ≤ 140737488351232) (h11 : a11.size ≤ 140737488351232) (h19 : a19.size ≤ 140737488351232) (h20 : a20.size ≤ 140737488351232) (k : Nat) (hk : 400 ≤ k) :
    ∃ b, roadbookref07_Few.f k a0 a1 a2 a3 a4 a5 a6 a7 a8 a9 a10 a11 a12 a13 a14 a15 a16 a17 a18 a19 a20 a21 a22 a23 a24 = some b ∧ (b = true → a21.length ≤ 300 ∧ a24.length ≤ 60 ∧ a3.size + a6.size ≤ 200 ∧ a9.size + a11.size ≤ 200 ∧ a19.size + a20.size ≤ 200 ∧ a23.size ≤ 300 ∧ (∀ x ∈ a21, x.f0.size ≤ 50) ∧ ∀ x ∈ a24, x.f1.size ≤ 300) := by
  obtain ⟨k, rfl⟩ : ∃ j, k = j + 1 := ⟨k - 1, by omega⟩
  have no : roadbookref07_Few.j0 (k + 1) true a0 a1 a2 a3 a4 a5 a6 a7 a8 a9 a10 a11 a12 a13 a14 a15 a16 a17 a18 a19 a20 a21 a22 a23 a24 = some false := by simp only [roadbookref07_Few.j0, if_true]
  unfold roadbookref07_Few.f
  rw [no, wrap64_id (x := (a3.size : Int) + a6.size) (by omega) (by omega), wrap64_id (x := (a9.size : Int) + a11.size) (by omega) (by omega), wrap64_id (x := (a19.size : Int) + a20.size) (by omega) (by omega)]
  by_cases c1 : (a21.length : Int) > 300
  · rw [if_pos c1]; exact ⟨false, rfl, fun h => (by cases h)⟩
  rw [if_neg c1]
  by_cases c2 : (a24.length : Int) > 60
  · rw [if_pos c2]; exact ⟨false, rfl, fun h => (by cases h)⟩
  rw [if_neg c2]
  by_cases c3 : (a3.size : Int) + a6.size > 200
  · rw [if_pos c3]; exact ⟨false, rfl, fun h => (by cases h)⟩
  rw [if_neg c3]
  by_cases c4 : (a9.size : Int) + a11.size > 200
  · rw [if_pos c4]; exact ⟨false, rfl, fun h => (by cases h)⟩
  rw [if_neg c4]
  by_cases c5 : (a19.size : Int) + a20.size > 200
  · rw [if_pos c5]; exact ⟨false, rfl, fun h => (by cases h)⟩
  rw [if_neg c5]
  by_cases c6 : (a23.size : Int) > 300
  · rw [decide_eq_true c6, no]; exact ⟨false, rfl, fun h => (by cases h)⟩
  rw [decide_eq_false c6]
  simp only [roadbookref07_Few.j0, Bool.false_eq_true, if_false]
  obtain ⟨b, e, hb⟩ := few_l0 a0 a1 a2 a3 a4 a5 a6 a7 a8 a9 a10 a11 a12 a13 a14 a15 a16 a17 a18 a19 a20 a21 a22 a23 a24 (by omega) (by omega) a21.length k 0 (by omega) (by omega)
  exact ⟨b, e, fun h => ⟨by omega, by omega, by omega, by omega, by omega, by omega, rd_mem_46 fun j hj => (hb h).1 j (by omega) hj, rd_mem_48 (hb h).2⟩⟩

theorem dests_l (l m : List S46) (hm : l.length = m.length) (hl : l.length ≤ 1000000) (q : Nat) : ∀ (k i : Nat), q < k → l.length - i = q → ∃ b, roadbookref07_dests.l0 k l m i = some b ∧ (b = true ↔ ∀ j : Nat, i ≤ j → j < l.length → rd_T46 l (j : Int) = rd_T46 m (j : Int)) := by
  induction q with
  | zero =>
    intro k i hk hq
    obtain ⟨k, rfl⟩ : ∃ j, k = j + 1 := ⟨k - 1, by omega⟩
    simp only [roadbookref07_dests.l0]
    rw [if_neg (by omega)]
    exact ⟨true, rfl, ⟨fun _ j h1 h2 => by omega, fun _ => rfl⟩⟩
  | succ q ih =>
    intro k i hk hq
    obtain ⟨k, rfl⟩ : ∃ j, k = j + 1 := ⟨k - 1, by omega⟩
    simp only [roadbookref07_dests.l0]
    rw [if_pos (by omega), if_pos (by omega), if_pos (by omega)]
    have key : (!((((rd_T46 l (i : Int)).f0).toList) == (((rd_T46 m (i : Int)).f0).toList)) || (!(((rd_T46 l (i : Int)).f1) == ((rd_T46 m (i : Int)).f1)))) = true ↔ ¬ rd_T46 l (i : Int) = rd_T46 m (i : Int) := by
      obtain ⟨x0, x1⟩ := rd_T46 l (i : Int)
      obtain ⟨y0, y1⟩ := rd_T46 m (i : Int)
      simp only [S46.mk.injEq, Bool.or_eq_true, Bool.not_eq_true', beq_eq_false_iff_ne, ne_eq, toList_inj]
      by_cases p : x0 = y0 <;> by_cases r : x1 = y1 <;> simp [p, r]
    by_cases c : rd_T46 l (i : Int) = rd_T46 m (i : Int)
    · rw [if_neg (fun h => key.mp h c), wrap64_id (by omega) (by omega)]
      obtain ⟨b, e, hb⟩ := ih k (i + 1) (by omega) (by omega)
      refine ⟨b, e, hb.trans ⟨fun h j h1 h2 => ?_, fun h j h1 h2 => h j (by omega) h2⟩⟩
      by_cases d : j = i
      · rw [d]; exact c
      · exact h j (by omega) h2
    · rw [if_pos (key.mpr c)]
      exact ⟨false, rfl, ⟨fun h => (by cases h), fun h => absurd (h i (by omega) (by omega)) c⟩⟩
theorem dests_f (l m : List S46) (hl : l.length ≤ 1000000) (k : Nat) (hk : l.length < k) : ∃ b, roadbookref07_dests.f k l m = some b ∧ (b = true ↔ l = m) := by
  unfold roadbookref07_dests.f
  by_cases c : l.length = m.length
  · rw [if_pos (by omega)]
    obtain ⟨b, e, hb⟩ := dests_l l m c hl l.length k 0 hk (by omega)
    refine ⟨b, e, hb.trans ⟨fun h => ?_, fun h j _ _ => by rw [h]⟩⟩
    apply List.ext_getElem c
    intro i h1 h2
    have := h i (by omega) h1
    unfold rd_T46 at this
    rwa [Int.toNat_natCast, List.getD_eq_getElem?_getD, List.getD_eq_getElem?_getD, List.getElem?_eq_getElem h1, List.getElem?_eq_getElem h2] at this
  · rw [if_neg (by omega)]
    exact ⟨false, rfl, ⟨fun h => (by cases h), fun h => absurd (by rw [h]) c⟩⟩
theorem subs_l (l m : List S48) (hm : l.length = m.length) (hl : l.length ≤ 1000000) (q : Nat) : ∀ (k i : Nat), q < k → l.length - i = q → ∃ b, roadbookref07_subs.l0 k l m i = some b ∧ (b = true ↔ ∀ j : Nat, i ≤ j → j < l.length → rd_T48 l (j : Int) = rd_T48 m (j : Int)) := by
  induction q with
  | zero =>
    intro k i hk hq
    obtain ⟨k, rfl⟩ : ∃ j, k = j + 1 := ⟨k - 1, by omega⟩
    simp only [roadbookref07_subs.l0]
    rw [if_neg (by omega)]
    exact ⟨true, rfl, ⟨fun _ j h1 h2 => by omega, fun _ => rfl⟩⟩
  | succ q ih =>
    intro k i hk hq
    obtain ⟨k, rfl⟩ : ∃ j, k = j + 1 := ⟨k - 1, by omega⟩
    simp only [roadbookref07_subs.l0]
    rw [if_pos (by omega), if_pos (by omega), if_pos (by omega)]
    have key : (!(((rd_T48 l (i : Int)).f0) == ((rd_T48 m (i : Int)).f0)) || (!((((rd_T48 l (i : Int)).f1).toList) == (((rd_T48 m (i : Int)).f1).toList)))) = true ↔ ¬ rd_T48 l (i : Int) = rd_T48 m (i : Int) := by
      obtain ⟨x0, x1⟩ := rd_T48 l (i : Int)
      obtain ⟨y0, y1⟩ := rd_T48 m (i : Int)
      simp only [S48.mk.injEq, Bool.or_eq_true, Bool.not_eq_true', beq_eq_false_iff_ne, ne_eq, toList_inj]
      by_cases p : x0 = y0 <;> by_cases r : x1 = y1 <;> simp [p, r]
    by_cases c : rd_T48 l (i : Int) = rd_T48 m (i : Int)
    · rw [if_neg (fun h => key.mp h c), wrap64_id (by omega) (by omega)]
      obtain ⟨b, e, hb⟩ := ih k (i + 1) (by omega) (by omega)
      refine ⟨b, e, hb.trans ⟨fun h j h1 h2 => ?_, fun h j h1 h2 => h j (by omega) h2⟩⟩
      by_cases d : j = i
      · rw [d]; exact c
      · exact h j (by omega) h2
    · rw [if_pos (key.mpr c)]
      exact ⟨false, rfl, ⟨fun h => (by cases h), fun h => absurd (h i (by omega) (by omega)) c⟩⟩
theorem subs_f (l m : List S48) (hl : l.length ≤ 1000000) (k : Nat) (hk : l.length < k) : ∃ b, roadbookref07_subs.f k l m = some b ∧ (b = true ↔ l = m) := by
  unfold roadbookref07_subs.f
  by_cases c : l.length = m.length
  · rw [if_pos (by omega)]
    obtain ⟨b, e, hb⟩ := subs_l l m c hl l.length k 0 hk (by omega)
    refine ⟨b, e, hb.trans ⟨fun h => ?_, fun h j _ _ => by rw [h]⟩⟩
    apply List.ext_getElem c
    intro i h1 h2
    have := h i (by omega) h1
    unfold rd_T48 at this
    rwa [Int.toNat_natCast, List.getD_eq_getElem?_getD, List.getD_eq_getElem?_getD, List.getElem?_eq_getElem h1, List.getElem?_eq_getElem h2] at this
  · rw [if_neg (by omega)]
    exact ⟨false, rfl, ⟨fun h => (by cases h), fun h => absurd (by rw [h]) c⟩⟩
/-- The reference's Same tells whether all fields are the same. -/
theorem same_f (a0 : Int) (a1 : Int) (a2 : Int) (a3 : ByteArray) (a4 : Int) (a5 : Int) (a6 : ByteArray) (a7 : Int) (a8 : Int) (a9 : ByteArray) (a10 : Int) (a11 : ByteArray) (a12 : Int) (a13 : Int) (a14 : Int) (a15 : Int) (a16 : Int) (a17 : Int) (a18 : Int) (a19 : ByteArray) (a20 : ByteArray) (a21 : List S46) (a22 : Int) (a23 : ByteArray) (a24 : List S48) (b0 : Int) (b1 : Int) (b2 : Int) (b3 : ByteArray) (b4 : Int) (b5 : Int) (b6 : ByteArray) (b7 : Int) (b8 : Int) (b9 : ByteArray) (b10 : Int) (b11 : ByteArray) (b12 : Int) (b13 : Int) (b14 : Int) (b15 : Int) (b16 : Int) (b17 : Int) (b18 : Int) (b19 : ByteArray) (b20 : ByteArray) (b21 : List S46) (b22 : Int) (b23 : ByteArray) (b24 : List S48) (hd : a21.length ≤ 1000000) (hl : a24.length ≤ 1000000) (k : Nat) (hk : a21.length + a24.length + 3 ≤ k) :
    ∃ r, roadbookref07_Same.f k a0 a1 a2 a3 a4 a5 a6 a7 a8 a9 a10 a11 a12 a13 a14 a15 a16 a17 a18 a19 a20 a21 a22 a23 a24 b0 b1 b2 b3 b4 b5 b6 b7 b8 b9 b10 b11 b12 b13 b14 b15 b16 b17 b18 b19 b20 b21 b22 b23 b24 = some r ∧ (r = true ↔ a0 = b0 ∧ a1 = b1 ∧ a2 = b2 ∧ a3 = b3 ∧ a4 = b4 ∧ a5 = b5 ∧ a6 = b6 ∧ a7 = b7 ∧ a8 = b8 ∧ a9 = b9 ∧ a10 = b10 ∧ a11 = b11 ∧ a12 = b12 ∧ a13 = b13 ∧ a14 = b14 ∧ a15 = b15 ∧ a16 = b16 ∧ a17 = b17 ∧ a18 = b18 ∧ a19 = b19 ∧ a20 = b20 ∧ a21 = b21 ∧ a22 = b22 ∧ a23 = b23 ∧ a24 = b24) := by
  obtain ⟨k, rfl⟩ : ∃ j, k = j + 2 := ⟨k - 2, by omega⟩
  have no1 : roadbookref07_Same.j1 (k + 1) true a0 a1 a2 a3 a4 a5 a6 a7 a8 a9 a10 a11 a12 a13 a14 a15 a16 a17 a18 a19 a20 a21 a22 a23 a24 b0 b1 b2 b3 b4 b5 b6 b7 b8 b9 b10 b11 b12 b13 b14 b15 b16 b17 b18 b19 b20 b21 b22 b23 b24 = some false := by simp only [roadbookref07_Same.j1, if_true]
  have no0 : roadbookref07_Same.j0 (k + 2) true a0 a1 a2 a3 a4 a5 a6 a7 a8 a9 a10 a11 a12 a13 a14 a15 a16 a17 a18 a19 a20 a21 a22 a23 a24 b0 b1 b2 b3 b4 b5 b6 b7 b8 b9 b10 b11 b12 b13 b14 b15 b16 b17 b18 b19 b20 b21 b22 b23 b24 = some false := by simp only [roadbookref07_Same.j0, if_true]
  unfold roadbookref07_Same.f
  rw [no0]
  by_cases c0 : a0 = b0
  rotate_left
  · rw [if_neg c0]; exact ⟨false, rfl, ⟨fun h => (by cases h), fun h => absurd (h.1) c0⟩⟩
  rw [if_pos c0]
  by_cases c1 : a1 = b1
  rotate_left
  · rw [if_neg c1]; exact ⟨false, rfl, ⟨fun h => (by cases h), fun h => absurd (h.2.1) c1⟩⟩
  rw [if_pos c1]
  by_cases c2 : a2 = b2
  rotate_left
  · rw [if_neg c2]; exact ⟨false, rfl, ⟨fun h => (by cases h), fun h => absurd (h.2.2.1) c2⟩⟩
  rw [if_pos c2]
  by_cases c3 : a3.toList = b3.toList
  rotate_left
  · rw [if_neg c3]; exact ⟨false, rfl, ⟨fun h => (by cases h), fun h => absurd (congrArg ByteArray.toList (h.2.2.2.1)) c3⟩⟩
  rw [if_pos c3]
  by_cases c4 : a4 = b4
  rotate_left
  · rw [if_neg c4]; exact ⟨false, rfl, ⟨fun h => (by cases h), fun h => absurd (h.2.2.2.2.1) c4⟩⟩
  rw [if_pos c4]
  by_cases c5 : a5 = b5
  rotate_left
  · rw [if_neg c5]; exact ⟨false, rfl, ⟨fun h => (by cases h), fun h => absurd (h.2.2.2.2.2.1) c5⟩⟩
  rw [if_pos c5]
  by_cases c6 : a6.toList = b6.toList
  rotate_left
  · rw [if_neg c6]; exact ⟨false, rfl, ⟨fun h => (by cases h), fun h => absurd (congrArg ByteArray.toList (h.2.2.2.2.2.2.1)) c6⟩⟩
  rw [if_pos c6]
  by_cases c7 : a7 = b7
  rotate_left
  · rw [if_neg c7]; exact ⟨false, rfl, ⟨fun h => (by cases h), fun h => absurd (h.2.2.2.2.2.2.2.1) c7⟩⟩
  rw [if_pos c7]
  by_cases c8 : a8 = b8
  rotate_left
  · rw [if_neg c8]; exact ⟨false, rfl, ⟨fun h => (by cases h), fun h => absurd (h.2.2.2.2.2.2.2.2.1) c8⟩⟩
  rw [if_pos c8]
  by_cases c9 : a9.toList = b9.toList
  rotate_left
  · rw [if_neg c9]; exact ⟨false, rfl, ⟨fun h => (by cases h), fun h => absurd (congrArg ByteArray.toList (h.2.2.2.2.2.2.2.2.2.1)) c9⟩⟩
  rw [if_pos c9]
  by_cases c10 : a10 = b10
  rotate_left
  · rw [bne_iff_ne.mpr c10, no0]; exact ⟨false, rfl, ⟨fun h => (by cases h), fun h => absurd h.2.2.2.2.2.2.2.2.2.2.1 c10⟩⟩
  rw [bne_eq_false_iff_eq.mpr c10]
  simp only [roadbookref07_Same.j0, Bool.false_eq_true, if_false]
  rw [no1]
  by_cases c11 : a11.toList = b11.toList
  rotate_left
  · rw [if_neg c11]; exact ⟨false, rfl, ⟨fun h => (by cases h), fun h => absurd (congrArg ByteArray.toList (h.2.2.2.2.2.2.2.2.2.2.2.1)) c11⟩⟩
  rw [if_pos c11]
  by_cases c12 : a12 = b12
  rotate_left
  · rw [if_neg c12]; exact ⟨false, rfl, ⟨fun h => (by cases h), fun h => absurd (h.2.2.2.2.2.2.2.2.2.2.2.2.1) c12⟩⟩
  rw [if_pos c12]
  by_cases c13 : a13 = b13
  rotate_left
  · rw [if_neg c13]; exact ⟨false, rfl, ⟨fun h => (by cases h), fun h => absurd (h.2.2.2.2.2.2.2.2.2.2.2.2.2.1) c13⟩⟩
  rw [if_pos c13]
  by_cases c14 : a14 = b14
  rotate_left
  · rw [if_neg c14]; exact ⟨false, rfl, ⟨fun h => (by cases h), fun h => absurd (h.2.2.2.2.2.2.2.2.2.2.2.2.2.2.1) c14⟩⟩
  rw [if_pos c14]
  by_cases c15 : a15 = b15
  rotate_left
  · rw [if_neg c15]; exact ⟨false, rfl, ⟨fun h => (by cases h), fun h => absurd (h.2.2.2.2.2.2.2.2.2.2.2.2.2.2.2.1) c15⟩⟩
  rw [if_pos c15]
  by_cases c16 : a16 = b16
  rotate_left
  · rw [if_neg c16]; exact ⟨false, rfl, ⟨fun h => (by cases h), fun h => absurd (h.2.2.2.2.2.2.2.2.2.2.2.2.2.2.2.2.1) c16⟩⟩
  rw [if_pos c16]
  by_cases c17 : a17 = b17
  rotate_left
  · rw [if_neg c17]; exact ⟨false, rfl, ⟨fun h => (by cases h), fun h => absurd (h.2.2.2.2.2.2.2.2.2.2.2.2.2.2.2.2.2.1) c17⟩⟩
  rw [if_pos c17]
  by_cases c18 : a18 = b18
  rotate_left
  · rw [if_neg c18]; exact ⟨false, rfl, ⟨fun h => (by cases h), fun h => absurd (h.2.2.2.2.2.2.2.2.2.2.2.2.2.2.2.2.2.2.1) c18⟩⟩
  rw [if_pos c18]
  by_cases c19 : a19.toList = b19.toList
  rotate_left
  · rw [if_neg c19]; exact ⟨false, rfl, ⟨fun h => (by cases h), fun h => absurd (congrArg ByteArray.toList (h.2.2.2.2.2.2.2.2.2.2.2.2.2.2.2.2.2.2.2.1)) c19⟩⟩
  rw [if_pos c19]
  by_cases c20 : a20.toList = b20.toList
  rotate_left
  · rw [if_neg c20]; exact ⟨false, rfl, ⟨fun h => (by cases h), fun h => absurd (congrArg ByteArray.toList (h.2.2.2.2.2.2.2.2.2.2.2.2.2.2.2.2.2.2.2.2.1)) c20⟩⟩
  rw [if_pos c20]
  by_cases c22 : a22 = b22
  rotate_left
  · rw [if_neg c22]; exact ⟨false, rfl, ⟨fun h => (by cases h), fun h => absurd (h.2.2.2.2.2.2.2.2.2.2.2.2.2.2.2.2.2.2.2.2.2.2.1) c22⟩⟩
  rw [if_pos c22]
  by_cases c23 : a23.toList = b23.toList
  rotate_left
  · rw [bne_iff_ne.mpr c23, no1]; exact ⟨false, rfl, ⟨fun h => (by cases h), fun h => absurd (congrArg ByteArray.toList h.2.2.2.2.2.2.2.2.2.2.2.2.2.2.2.2.2.2.2.2.2.2.2.1) c23⟩⟩
  rw [bne_eq_false_iff_eq.mpr c23]
  simp only [roadbookref07_Same.j1, Bool.false_eq_true, if_false]
  obtain ⟨x, ex, hx⟩ := dests_f a21 b21 hd k (by omega)
  obtain ⟨y, ey, hy⟩ := subs_f a24 b24 hl k (by omega)
  rw [ex, ey, Option.bind_some, Option.bind_some]
  have e3 := toList_inj.mp c3
  have e6 := toList_inj.mp c6
  have e9 := toList_inj.mp c9
  have e11 := toList_inj.mp c11
  have e19 := toList_inj.mp c19
  have e20 := toList_inj.mp c20
  have e23 := toList_inj.mp c23
  cases x with
  | false => rw [if_neg (by decide)]; exact ⟨false, rfl, ⟨fun h => (by cases h), fun h => absurd (hx.mpr h.2.2.2.2.2.2.2.2.2.2.2.2.2.2.2.2.2.2.2.2.2.1) (by decide)⟩⟩
  | true =>
    rw [if_pos rfl]
    have c21 := hx.mp rfl
    exact ⟨y, rfl, ⟨fun h => ⟨c0, c1, c2, e3, c4, c5, e6, c7, c8, e9, c10, e11, c12, c13, c14, c15, c16, c17, c18, e19, e20, c21, c22, e23, hy.mp h⟩, fun h => hy.mpr h.2.2.2.2.2.2.2.2.2.2.2.2.2.2.2.2.2.2.2.2.2.2.2.2⟩⟩
/-- Messages that are the same are told so. -/
theorem same_self (a0 : Int) (a1 : Int) (a2 : Int) (a3 : ByteArray) (a4 : Int) (a5 : Int) (a6 : ByteArray) (a7 : Int) (a8 : Int) (a9 : ByteArray) (a10 : Int) (a11 : ByteArray) (a12 : Int) (a13 : Int) (a14 : Int) (a15 : Int) (a16 : Int) (a17 : Int) (a18 : Int) (a19 : ByteArray) (a20 : ByteArray) (a21 : List S46) (a22 : Int) (a23 : ByteArray) (a24 : List S48) (hd : a21.length ≤ 1000000) (hl : a24.length ≤ 1000000) (k : Nat) (hk : a21.length + a24.length + 3 ≤ k) : roadbookref07_Same.f k a0 a1 a2 a3 a4 a5 a6 a7 a8 a9 a10 a11 a12 a13 a14 a15 a16 a17 a18 a19 a20 a21 a22 a23 a24 a0 a1 a2 a3 a4 a5 a6 a7 a8 a9 a10 a11 a12 a13 a14 a15 a16 a17 a18 a19 a20 a21 a22 a23 a24 = some true := by
  obtain ⟨r, e, hr⟩ := same_f a0 a1 a2 a3 a4 a5 a6 a7 a8 a9 a10 a11 a12 a13 a14 a15 a16 a17 a18 a19 a20 a21 a22 a23 a24 a0 a1 a2 a3 a4 a5 a6 a7 a8 a9 a10 a11 a12 a13 a14 a15 a16 a17 a18 a19 a20 a21 a22 a23 a24 hd hl k hk
  rw [e, hr.mpr ⟨rfl, rfl, rfl, rfl, rfl, rfl, rfl, rfl, rfl, rfl, rfl, rfl, rfl, rfl, rfl, rfl, rfl, rfl, rfl, rfl, rfl, rfl, rfl, rfl, rfl⟩]

theorem sameall_nil (k : Nat) (hk : 1 ≤ k) : roadbookref07_SameAll.f k [] [] = some true := by
  obtain ⟨k, rfl⟩ : ∃ j, k = j + 1 := ⟨k - 1, by omega⟩
  unfold roadbookref07_SameAll.f
  rw [if_pos rfl, roadbookref07_SameAll.l0]
  rw [if_neg (by simp)]
theorem sameall_one (x : S25) (h1 : x.f21.length ≤ 1000) (h2 : x.f24.length ≤ 3000) (k : Nat) (hk : 4500 ≤ k) : roadbookref07_SameAll.f k [x] [x] = some true := by
  obtain ⟨k, rfl⟩ : ∃ j, k = j + 2 := ⟨k - 2, by omega⟩
  have e : rd_T25 [x] 0 = x := rfl
  unfold roadbookref07_SameAll.f
  rw [if_pos rfl, roadbookref07_SameAll.l0]
  rw [if_pos (by simp), if_pos (by decide), if_pos (by simp), e, same_self _ _ _ _ _ _ _ _ _ _ _ _ _ _ _ _ _ _ _ _ _ _ _ _ _ (by omega) (by omega) (k + 1) (by omega), Option.bind_some, if_pos rfl, wrap64_id (by decide) (by decide), roadbookref07_SameAll.l0]
  rw [if_neg (by simp)]

theorem bareq3 (a1 : Int) (a2 : Int) (a3 : ByteArray) (a4 : Int) (a5 : Int) (a6 : ByteArray) (a7 : Int) (a8 : Int) (a9 : ByteArray) (a10 : Int) (a11 : ByteArray) (a12 : Int) (a13 : Int) (a14 : Int) (a15 : Int) (a16 : Int) (a17 : Int) (a18 : Int) (a19 : ByteArray) (a20 : ByteArray) (a21 : List S46) (a22 : Int) (a23 : ByteArray) (a24 : List S48) : msg_Bare.b 3 a1 a2 a3 a4 a5 a6 a7 a8 a9 a10 a11 a12 a13 a14 a15 a16 a17 a18 a19 a20 a21 a22 a23 a24 = true ↔ (a1 = 0 ∧ a2 = 0 ∧ a3 = (⟨#[]⟩ : ByteArray) ∧ a4 = 0 ∧ a5 = 0 ∧ a6 = (⟨#[]⟩ : ByteArray) ∧ a7 = 0 ∧ a8 = 0 ∧ a9 = (⟨#[]⟩ : ByteArray) ∧ a10 = 0 ∧ a11 = (⟨#[]⟩ : ByteArray) ∧ a14 = 0 ∧ a18 = 0 ∧ a21 = ([] : List S46) ∧ a22 = 0 ∧ a23 = (⟨#[]⟩ : ByteArray)) := by
  rw [msg_Bare.b3]
  unfold msg_Bare.z
  simp only [Bool.and_eq_true, beq_iff_eq, beq_self_eq_true, toList_inj, true_and, and_true, Int.natCast_eq_zero, List.length_eq_zero_iff]
  constructor
  · intro h
    simp only [h, and_self]
  · intro h
    simp only [h, and_self]

/-- The lowest so many bytes of a number, the highest first. -/
def dig : Nat → Int → List Int
  | 0, _ => []
  | s + 1, n => dig s (n / 256) ++ [n % 256]
theorem dig_length (s : Nat) (n : Int) : (dig s n).length = s := by
  induction s generalizing n with
  | zero => rfl
  | succ s ih => simp [dig, ih]
theorem dig_range (s : Nat) (n : Int) : ∀ x ∈ dig s n, 0 ≤ x ∧ x ≤ 255 := by
  induction s generalizing n with
  | zero => intro x hx; cases hx
  | succ s ih =>
    intro x hx
    simp only [dig, List.mem_append, List.mem_singleton] at hx
    rcases hx with hx | rfl
    · exact ih _ x hx
    · omega
def octFits (n size : Int) : Bool := decide (1 ≤ size ∧ size ≤ 7 ∧ 0 ≤ n ∧ n < 256 ^ size.toNat)
def octPut (n size : Int) : ByteArray × Bool := if octFits n size = true then (strOfNums (dig size.toNat n), true) else (⟨#[]⟩, false)
theorem octFits_iff {n size : Int} : octFits n size = true ↔ (1 ≤ size ∧ size ≤ 7 ∧ 0 ≤ n ∧ n < 256 ^ size.toNat) := by simp [octFits]

theorem div_eq_zero_iff {n : Int} {m : Nat} (h : 0 ≤ n) (hm : 0 < (2 : Int) ^ m) : (n / 2 ^ m = 0) ↔ n < 2 ^ m := by
  constructor
  · intro e
    have := Int.lt_mul_ediv_self_add (x := n) (k := 2 ^ m) hm
    rw [e] at this; omega
  · intro e; exact Int.ediv_eq_zero_of_lt h e

theorem pow_le7 (m : Nat) (h : m ≤ 7) : (256 : Int) ^ m ≤ 72057594037927936 := by
  have : m = 0 ∨ m = 1 ∨ m = 2 ∨ m = 3 ∨ m = 4 ∨ m = 5 ∨ m = 6 ∨ m = 7 := by omega
  rcases this with rfl | rfl | rfl | rfl | rfl | rfl | rfl | rfl <;> decide

/-- The number that bytes make, the highest first. -/
def num (l : List Int) : Int := l.foldl (fun a b => a * 256 + b) 0
theorem num_nil : num [] = 0 := rfl
theorem num_snoc (l : List Int) (x : Int) : num (l ++ [x]) = num l * 256 + x := by simp [num, List.foldl_append]
theorem num_take (l : List Int) (i : Nat) (h : i < l.length) : num (l.take (i + 1)) = num (l.take i) * 256 + l.getD i 0 := by
  rw [List.take_succ_eq_append_getElem h, num_snoc, List.getD_eq_getElem?_getD, List.getElem?_eq_getElem h]; rfl
theorem num_foldl (l : List Int) (a : Int) : l.foldl (fun a b => a * 256 + b) a = a * 256 ^ l.length + num l := by
  induction l generalizing a with
  | nil => simp [num]
  | cons x l ih =>
    have e : num (x :: l) = List.foldl (fun a b => a * 256 + b) x l := by simp [num]
    rw [e, ih x]
    simp only [List.foldl_cons, List.length_cons]
    rw [ih (a * 256 + x), Int.pow_succ, Int.add_mul, Int.mul_assoc, Int.mul_comm 256, Int.add_assoc]
theorem num_cons (x : Int) (l : List Int) : num (x :: l) = x * 256 ^ l.length + num l := by
  have e : num (x :: l) = List.foldl (fun a b => a * 256 + b) x l := by simp [num]
  rw [e, num_foldl]
theorem num_range (l : List Int) (h : ∀ x ∈ l, 0 ≤ x ∧ x ≤ 255) : 0 ≤ num l ∧ num l < 256 ^ l.length := by
  induction l with
  | nil => simp [num]
  | cons x l ih =>
    have hx := h x (by simp)
    obtain ⟨h0, h1⟩ := ih fun y hy => h y (by simp [hy])
    rw [num_cons, List.length_cons, Int.pow_succ]
    have hp : (0 : Int) < 256 ^ l.length := Int.pow_pos (by decide)
    have e1 : 0 ≤ x * 256 ^ l.length := Int.mul_nonneg hx.1 (by omega)
    have e2 : x * 256 ^ l.length ≤ 255 * 256 ^ l.length := Int.mul_le_mul_of_nonneg_right hx.2 (by omega)
    omega
theorem num_dig (s : Nat) : ∀ n : Int, 0 ≤ n → n < 256 ^ s → num (dig s n) = n := by
  induction s with
  | zero => intro n h0 h1; simp at h1; simp [dig, num]; omega
  | succ s ih =>
    intro n h0 h1
    rw [dig, num_snoc, ih (n / 256) (by omega) (by rw [Int.pow_succ] at h1; omega)]
    omega
theorem dig_num (l : List Int) (h : ∀ x ∈ l, 0 ≤ x ∧ x ≤ 255) : dig l.length (num l) = l := by
  generalize hs : l.length = s
  induction s generalizing l with
  | zero => rw [List.eq_nil_of_length_eq_zero hs]; rfl
  | succ s ih =>
    have hne : l ≠ [] := fun c => by rw [c] at hs; cases hs
    obtain ⟨a, x, rfl⟩ : ∃ a x, l = a ++ [x] := ⟨_, _, (List.dropLast_concat_getLast hne).symm⟩
    rw [List.length_append, List.length_singleton] at hs
    have hx := h x (by simp)
    rw [dig, num_snoc, show (num a * 256 + x) / 256 = num a by omega, show (num a * 256 + x) % 256 = x by omega, ih a (fun y hy => h y (by simp [hy])) (by omega)]

theorem u8_lt {x y : Int} (hx : 0 ≤ x ∧ x ≤ 255) (hy : 0 ≤ y ∧ y ≤ 255) : (UInt8.ofNat x.toNat < UInt8.ofNat y.toNat) ↔ x < y := by
  rw [UInt8.lt_iff_toNat_lt, UInt8.toNat_ofNat', UInt8.toNat_ofNat']; omega
theorem u8_eq {x y : Int} (hx : 0 ≤ x ∧ x ≤ 255) (hy : 0 ≤ y ∧ y ≤ 255) : (UInt8.ofNat x.toNat = UInt8.ofNat y.toNat) ↔ x = y := by
  rw [← UInt8.toNat_inj, UInt8.toNat_ofNat', UInt8.toNat_ofNat']; omega
/-- Of two texts of one length the lesser is the one whose number is less. -/
theorem less_num (a b : List Int) (ha : ∀ x ∈ a, 0 ≤ x ∧ x ≤ 255) (hb : ∀ x ∈ b, 0 ≤ x ∧ x ≤ 255) (hl : a.length = b.length) :
    Op.bytesLess (strOfNums a).toList (strOfNums b).toList = decide (num a < num b) := by
  rw [ByteArray.toList_eq, ByteArray.toList_eq, data_nums, data_nums]
  induction a generalizing b with
  | nil =>
    cases b with
    | nil => rfl
    | cons y b => cases hl
  | cons x a ih =>
    cases b with
    | nil => cases hl
    | cons y b =>
      have hl' : a.length = b.length := by simpa using hl
      have hx := ha x (by simp)
      have hy := hb y (by simp)
      have ha' : ∀ z ∈ a, 0 ≤ z ∧ z ≤ 255 := fun z hz => ha z (by simp [hz])
      have hb' : ∀ z ∈ b, 0 ≤ z ∧ z ≤ 255 := fun z hz => hb z (by simp [hz])
      simp only [List.map_cons, Op.bytesLess, ih b ha' hb' hl']
      obtain ⟨r0, r1⟩ := num_range a ha'
      obtain ⟨q0, q1⟩ := num_range b hb'
      rw [num_cons, num_cons, hl'] at *
      have hp : (0 : Int) < 256 ^ b.length := Int.pow_pos (by decide)
      rw [Bool.eq_iff_iff]
      simp only [Bool.or_eq_true, Bool.and_eq_true, decide_eq_true_eq, beq_iff_eq, u8_lt hx hy, u8_eq hx hy]
      constructor
      · rintro (h | ⟨rfl, h⟩)
        · have : (x + 1) * 256 ^ b.length ≤ y * 256 ^ b.length := Int.mul_le_mul_of_nonneg_right (by omega) (by omega)
          rw [Int.add_mul] at this; omega
        · omega
      · intro h
        rcases Int.lt_trichotomy x y with c | c | c
        · exact .inl c
        · subst c; exact .inr ⟨rfl, by omega⟩
        · have : (y + 1) * 256 ^ b.length ≤ x * 256 ^ b.length := Int.mul_le_mul_of_nonneg_right (by omega) (by omega)
          rw [Int.add_mul] at this; omega

theorem octet_Fits_f (n size : Int) (hn : -9223372036854775808 ≤ n) (hn' : n ≤ 9223372036854775807) : octet_Fits.f n size = some (octFits n size) := by
  unfold octet_Fits.f octFits
  by_cases h1 : 1 ≤ size
  · rw [if_pos h1]
    by_cases h2 : size ≤ 7
    · rw [if_pos h2]
      by_cases h3 : 0 ≤ n
      · rw [if_pos h3]
        have e : IntKind.u64.wrap (wrap64 (8 * size)) = 8 * size := by rw [wrap64_id (by omega) (by omega), u64_id (by omega) (by omega)]
        rw [e, if_pos (by omega)]
        congr 1
        unfold shr
        have e2 : min (8 * size).toNat IntKind.i64.bits = 8 * size.toNat := by simp [IntKind.bits]; omega
        rw [e2, Bool.eq_iff_iff, beq_iff_eq, decide_eq_true_iff, div_eq_zero_iff h3 (Int.pow_pos (by decide))]
        have e3 : (2 : Int) ^ (8 * size.toNat) = 256 ^ size.toNat := by rw [Int.pow_mul]; rfl
        rw [e3]
        exact ⟨fun h => ⟨h1, h2, h3, h⟩, fun h => h.2.2.2⟩
      · rw [if_neg h3, decide_eq_false (fun h => h3 h.2.2.1)]
    · rw [if_neg h2, decide_eq_false (fun h => h2 h.2.1)]
  · rw [if_neg h1, decide_eq_false (fun h => h1 h.1)]

theorem drop_set_self (l : List Int) (m : Nat) (v : Int) (h : m < l.length) : (l.set m v).drop m = [v] ++ l.drop (m + 1) := by
  apply List.ext_getElem?
  intro i
  rw [List.getElem?_drop, List.getElem?_set]
  cases i with
  | zero => simp [h]
  | succ i => rw [if_neg (by omega)]; simp; congr 1; omega

theorem octet_Put_l (m : Nat) : ∀ (k : Nat) (x : Int) (l : List Int), m < k → m ≤ l.length → m ≤ 100 →
    octet_Put.l0 k x l ((m : Int) - 1) = some (strOfNums (dig m x ++ l.drop m), true) := by
  induction m with
  | zero =>
    intro k x l hk hl _
    obtain ⟨k, rfl⟩ : ∃ j, k = j + 1 := ⟨k - 1, by omega⟩
    simp only [octet_Put.l0]; rw [if_neg (by omega)]; rfl
  | succ m ih =>
    intro k x l hk hl hm
    obtain ⟨k, rfl⟩ : ∃ j, k = j + 1 := ⟨k - 1, by omega⟩
    simp only [octet_Put.l0]
    rw [if_pos (by omega), if_pos (by omega), if_pos (by omega)]
    have e1 : (((m + 1 : Nat) : Int) - 1) = m := by omega
    rw [e1, wrap64_id (by omega) (by omega)]
    have e2 : ((m : Int)).toNat = m := by omega
    rw [e2, ih k (x / 256) (l.set m (x % 256)) (by omega) (by simp; omega) (by omega)]
    congr 3
    rw [dig, List.append_assoc]
    congr 1
    exact drop_set_self l m (x % 256) (by omega)

theorem octet_Put_f (n size : Int) (hn : -9223372036854775808 ≤ n) (hn' : n ≤ 9223372036854775807) (k : Nat) (hk : 8 < k) : octet_Put.f k n size = some (octPut n size) := by
  unfold octet_Put.f octPut
  rw [octet_Fits_f n size hn hn', Option.bind_some]
  by_cases h : octFits n size = true
  · have h' := octFits_iff.mp h
    rw [if_pos h, if_pos h, if_pos (by omega), if_pos (by omega), wrap64_id (by omega) (by omega)]
    have e := octet_Put_l size.toNat k n (List.replicate size.toNat 0) (by omega) (by simp) (by omega)
    have e1 : ((size.toNat : Int) - 1) = size - 1 := by omega
    rw [e1] at e
    rw [e, List.drop_of_length_le (by simp), List.append_nil]
  · rw [if_neg h, if_neg h]

theorem len_dig (m : Nat) : ∀ x : Int, (dig m x).length = m := by
  induction m with
  | zero => intro x; rfl
  | succ m ih => intro x; rw [dig, List.length_append, ih]; rfl
theorem dig_bytes (m : Nat) : ∀ x : Int, ∀ y ∈ dig m x, 0 ≤ y ∧ y ≤ 255 := by
  induction m with
  | zero => intro x y h; simp [dig] at h
  | succ m ih =>
    intro x y h
    rw [dig, List.mem_append, List.mem_singleton] at h
    rcases h with h | rfl
    · exact ih _ _ h
    · omega
/-- Four bytes of a number. -/
def w4 (n : Int) : ByteArray := strOfNums (dig 4 n)
theorem size_w4 (n : Int) : (w4 n).size = 4 := by unfold w4; rw [size_nums, len_dig]
theorem num_w4 (n : Int) (h0 : 0 ≤ n) (h1 : n < 4294967296) : num (bytesOf (w4 n)) = n := by
  unfold w4; rw [bytes_nums _ (dig_bytes 4 n), num_dig 4 n h0 (by simpa using h1)]
theorem w4_num (s : ByteArray) (h : s.size = 4) : w4 (num (bytesOf s)) = s := by
  unfold w4
  have := dig_num (bytesOf s) (bytesOf_range s)
  rw [len_bytesOf, h] at this
  rw [this, nums_bytes]
theorem num4_range (s : ByteArray) (h : s.size = 4) : 0 ≤ num (bytesOf s) ∧ num (bytesOf s) < 4294967296 := by
  have := num_range (bytesOf s) (bytesOf_range s)
  rw [len_bytesOf, h] at this
  simpa using this
theorem fits4 (n : Int) : octFits n 4 = true ↔ 0 ≤ n ∧ n < 4294967296 := by
  rw [octFits_iff]
  constructor
  · rintro ⟨_, _, h, h2⟩; exact ⟨h, by simpa using h2⟩
  · rintro ⟨h, h2⟩; exact ⟨by decide, by decide, h, by simpa using h2⟩
theorem fits1 (n : Int) : octFits n 1 = true ↔ 0 ≤ n ∧ n < 256 := by
  rw [octFits_iff]
  constructor
  · rintro ⟨_, _, h, h2⟩; exact ⟨h, by simpa using h2⟩
  · rintro ⟨h, h2⟩; exact ⟨by decide, by decide, h, by simpa using h2⟩
theorem put4 (n : Int) (h0 : 0 ≤ n) (h1 : n < 4294967296) : octPut n 4 = (w4 n, true) := by
  unfold octPut w4; rw [if_pos ((fits4 n).mpr ⟨h0, h1⟩)]; rfl

/-- A Sub whose type lies within bounds, and whose bytes are few. -/
def okR (lo hi : Int) (x : S48) : Prop := lo ≤ x.f0 ∧ x.f0 ≤ hi ∧ x.f1.size ≤ 255
instance (lo hi : Int) (x : S48) : Decidable (okR lo hi x) := by unfold okR; infer_instance
theorem drop_rd {l : List S48} {i : Nat} (h : i < l.length) : l.drop i = rd_T48 l (i : Int) :: l.drop (i + 1) := by
  unfold rd_T48
  rw [Int.toNat_natCast, List.drop_eq_getElem_cons h, List.getD_eq_getElem?_getD, List.getElem?_eq_getElem h]; rfl
/-- The bytes of Subs. -/
def bytesS : List S48 → Nat
  | [] => 0
  | x :: l => 2 + x.f1.size + bytesS l
theorem bytesS_le (l : List S48) (c : Nat) (h : ∀ x ∈ l, x.f1.size ≤ c) : bytesS l ≤ l.length * (c + 2) := by
  induction l with
  | nil => simp [bytesS]
  | cons x l ih =>
    have h1 := h x (by simp)
    have h2 := ih fun y hy => h y (by simp [hy])
    rw [bytesS, List.length_cons, Nat.add_mul]; omega

theorem subs_loop (lo hi : Int) (l : List S48) (hl : l.length ≤ 1000000) (m : Nat) : ∀ (k i : Nat), m < k → l.length - i = m → i ≤ l.length →
    msg_Subs.l0 k lo hi l (l.length : Int) i = some (decide (∀ x ∈ l.drop i, okR lo hi x)) := by
  induction m with
  | zero =>
    intro k i hk hm hin
    obtain ⟨k, rfl⟩ : ∃ j, k = j + 1 := ⟨k - 1, by omega⟩
    simp only [msg_Subs.l0]
    rw [if_neg (by omega), List.drop_eq_nil_of_le (by omega)]
    simp
  | succ m ih =>
    intro k i hk hm hin
    obtain ⟨k, rfl⟩ : ∃ j, k = j + 1 := ⟨k - 1, by omega⟩
    simp only [msg_Subs.l0]
    rw [if_pos (by omega), if_pos (by omega), if_pos (by omega), wrap64_id (x := (i : Int) + 1) (by omega) (by omega)]
    have := ih k (i + 1) (by omega) (by omega) (by omega)
    rw [show ((i : Int) + 1) = ((i + 1 : Nat) : Int) by omega, this, drop_rd (i := i) (by omega)]
    generalize rd_T48 l (i : Int) = x
    have e : (∀ y ∈ x :: l.drop (i + 1), okR lo hi y) ↔ okR lo hi x ∧ ∀ y ∈ l.drop (i + 1), okR lo hi y := by simp
    by_cases c1 : x.f0 < lo
    · rw [if_pos c1, decide_eq_false (fun h => by have := (e.mp h).1; unfold okR at this; omega)]
    by_cases c2 : x.f0 > hi
    · rw [if_neg c1, if_pos c2, decide_eq_false (fun h => by have := (e.mp h).1; unfold okR at this; omega)]
    by_cases c3 : (x.f1.size : Int) > 255
    · rw [if_neg c1, if_neg c2, if_pos c3, decide_eq_false (fun h => by have := (e.mp h).1; unfold okR at this; omega)]
    rw [if_neg c1, if_neg c2, if_neg c3]
    have ok : okR lo hi x := by unfold okR; omega
    congr 1
    rw [decide_eq_decide, e]
    exact ⟨fun h => ⟨ok, h⟩, fun h => h.2⟩
theorem psubs_f (l : List S48) (lo hi : Int) (hl : l.length ≤ 1000000) (k : Nat) (hk : l.length < k) : msg_Subs.f k l lo hi = some (decide (∀ x ∈ l, okR lo hi x)) := by
  unfold msg_Subs.f
  have := subs_loop lo hi l hl l.length k 0 hk (by omega) (by omega)
  rw [List.drop_zero] at this
  exact this
theorem bytes_loop (l : List S48) (hl : l.length ≤ 1000000) (hs : ∀ x ∈ l, x.f1.size ≤ 1000) (m : Nat) : ∀ (k i : Nat) (a : Int), m < k → l.length - i = m → i ≤ l.length → 0 ≤ a → a ≤ 1002 * i →
    msg_Bytes.l0 k a l (l.length : Int) i = some (a + bytesS (l.drop i)) := by
  induction m with
  | zero =>
    intro k i a hk hm hi h0 h1
    obtain ⟨k, rfl⟩ : ∃ j, k = j + 1 := ⟨k - 1, by omega⟩
    simp only [msg_Bytes.l0]
    rw [if_neg (by omega), List.drop_eq_nil_of_le (by omega)]
    simp [bytesS]
  | succ m ih =>
    intro k i a hk hm hi h0 h1
    obtain ⟨k, rfl⟩ : ∃ j, k = j + 1 := ⟨k - 1, by omega⟩
    simp only [msg_Bytes.l0]
    have hx : (rd_T48 l (i : Int)).f1.size ≤ 1000 := hs _ (List.mem_of_mem_drop (i := i) (by rw [drop_rd (i := i) (by omega)]; simp))
    rw [if_pos (by omega), if_pos (by omega), if_pos (by omega), wrap64_id (x := (i : Int) + 1) (by omega) (by omega)]
    rw [drop_rd (i := i) (by omega)]
    generalize rd_T48 l (i : Int) = x at hx
    rw [wrap64_id (x := 2 + (x.f1.size : Int)) (by omega) (by omega), wrap64_id (by omega) (by omega)]
    have := ih k (i + 1) (a + (2 + (x.f1.size : Int))) (by omega) (by omega) (by omega) (by omega) (by omega)
    rw [show ((i : Int) + 1) = ((i + 1 : Nat) : Int) by omega, this, bytesS]
    congr 1; omega
theorem pbytes_f (l : List S48) (hl : l.length ≤ 1000000) (hs : ∀ x ∈ l, x.f1.size ≤ 1000) (k : Nat) (hk : l.length < k) : msg_Bytes.f k l = some (bytesS l : Int) := by
  unfold msg_Bytes.f
  have := bytes_loop l hl hs l.length k 0 0 hk (by omega) (by omega) (by omega) (by omega)
  rw [List.drop_zero] at this
  rw [show ((0 : Nat) : Int) = 0 from rfl] at this
  rw [this]; congr 1; omega

/-- The bytes of an extension, and of extensions. -/
def oneS (x : S48) : ByteArray := strOfNums [x.f0, (x.f1.size : Int)] ++ x.f1
def allS : List S48 → ByteArray
  | [] => (⟨#[]⟩ : ByteArray)
  | x :: l => oneS x ++ allS l
theorem size_one (x : S48) : (oneS x).size = 2 + x.f1.size := by unfold oneS; rw [size_app, size_nums]; rfl
theorem size_all (l : List S48) : (allS l).size = bytesS l := by
  induction l with
  | nil => rfl
  | cons x l ih => rw [allS, size_app, size_one, ih, bytesS]
theorem empty_app (a : ByteArray) : (⟨#[]⟩ : ByteArray) ++ a = a := by
  refine ext_bt (by rw [size_app]; exact Nat.zero_add _) fun i _ => ?_
  have z : (⟨#[]⟩ : ByteArray).size = 0 := rfl
  rw [bt_app _ _ _ (by omega), if_neg (by omega), z]
  congr 1 <;> omega
theorem app_empty (a : ByteArray) : a ++ (⟨#[]⟩ : ByteArray) = a := by
  have z : (⟨#[]⟩ : ByteArray).size = 0 := rfl
  refine ext_bt (by rw [size_app]; exact Nat.add_zero _) fun i hi => ?_
  rw [size_app, z] at hi
  rw [bt_app _ _ _ (by omega), if_pos (by omega)]

theorem put_loop (l : List S48) (hl : l.length ≤ 1000000) (ok : ∀ x ∈ l, okR 0 255 x) (m : Nat) : ∀ (k i : Nat) (acc : List Int), m < k → l.length - i = m → i ≤ l.length → acc.length ≤ 257 * i →
    ext_Put.l0 k acc l (l.length : Int) i = some (strOfNums acc ++ allS (l.drop i), true) := by
  induction m with
  | zero =>
    intro k i acc hk hm hi ha
    obtain ⟨k, rfl⟩ : ∃ j, k = j + 1 := ⟨k - 1, by omega⟩
    simp only [ext_Put.l0]
    rw [if_neg (by omega), List.drop_eq_nil_of_le (by omega), allS, app_empty]
  | succ m ih =>
    intro k i acc hk hm hi ha
    obtain ⟨k, rfl⟩ : ∃ j, k = j + 1 := ⟨k - 1, by omega⟩
    simp only [ext_Put.l0]
    have hx : okR 0 255 (rd_T48 l (i : Int)) := ok _ (List.mem_of_mem_drop (i := i) (by rw [drop_rd (i := i) (by omega)]; simp))
    rw [if_pos (by omega), if_pos (by omega), if_pos (by omega), wrap64_id (x := (i : Int) + 1) (by omega) (by omega), drop_rd (i := i) (by omega)]
    generalize rd_T48 l (i : Int) = x at hx
    obtain ⟨x0, x1, x2⟩ := hx
    rw [Int.emod_eq_of_lt x0 (by omega), Int.emod_eq_of_lt (by omega) (by omega)]
    rw [Option.bind_some, if_pos (by simp; omega), Option.bind_some, if_pos (by simp; omega)]
    have := ih k (i + 1) (acc ++ [x.f0, (x.f1.size : Int)] ++ bytesOf x.f1) (by omega) (by omega) (by omega) (by rw [List.length_append, List.length_append, len_bytesOf]; simp only [List.length_cons, List.length_nil]; omega)
    rw [show ((i : Int) + 1) = ((i + 1 : Nat) : Int) by omega, this, nums_app, nums_app, nums_bytes, allS, oneS]
    simp only [ByteArray.append_assoc]
theorem right_f (l : List S48) (hl : l.length ≤ 1000000) (k : Nat) (hk : l.length < k) : ext_Right.f k l = some (decide (∀ x ∈ l, okR 0 255 x)) := by
  unfold ext_Right.f
  rw [psubs_f l 0 255 hl k hk, Option.bind_some]
theorem put_f (l : List S48) (hl : l.length ≤ 1000000) (k : Nat) (hk : l.length < k) : ext_Put.f k l = some (if ∀ x ∈ l, okR 0 255 x then (allS l, true) else ((⟨#[]⟩ : ByteArray), false)) := by
  unfold ext_Put.f
  rw [right_f l hl k hk, Option.bind_some]
  by_cases c : ∀ x ∈ l, okR 0 255 x
  · have hb := bytesS_le l 255 (fun x hx => (c x hx).2.2)
    rw [decide_eq_true c, if_pos rfl, if_pos c, pbytes_f l hl (fun x hx => Nat.le_trans (c x hx).2.2 (by decide)) k hk, Option.bind_some, if_pos (by omega), if_pos (by omega)]
    have := put_loop l hl c l.length k 0 [] hk (by omega) (by omega) (by simp)
    rw [nums_nil, empty_app, List.drop_zero] at this
    exact this
  · rw [decide_eq_false c, if_neg (by decide), if_neg c]

/-- A part of bytes laid one behind the other. -/
theorem cut_at (p q r : ByteArray) (n m : Nat) (hn : p.size = n) (hm : n + q.size = m) : (p ++ (q ++ r)).extract n m = q := by
  refine ext_bt (by rw [size_ext, size_app, size_app]; omega) fun i hi => ?_
  rw [size_ext, size_app, size_app] at hi
  rw [bt_ext _ _ _ _ (by omega), size_app, size_app, if_pos (by omega), bt_app _ _ _ (by omega), if_neg (by omega), bt_app _ _ _ (by omega), if_pos (by omega)]
  congr 1; omega
theorem cut_end (p q : ByteArray) (n m : Nat) (hn : p.size = n) (hm : n + q.size = m) : (p ++ q).extract n m = q := by
  refine ext_bt (by rw [size_ext, size_app]; omega) fun i hi => ?_
  rw [size_ext, size_app] at hi
  rw [bt_ext _ _ _ _ (by omega), size_app, if_pos (by omega), bt_app _ _ _ (by omega), if_neg (by omega)]
  congr 1; omega
theorem cut_join (b : ByteArray) (i j k : Nat) (h1 : i ≤ j) (h2 : j ≤ k) (h3 : j ≤ b.size) : b.extract i j ++ b.extract j k = b.extract i k := by
  refine ext_bt (by rw [size_app, size_ext, size_ext, size_ext]; omega) fun q hq => ?_
  rw [size_app, size_ext, size_ext] at hq
  rw [bt_app _ _ _ (by omega), size_ext]
  by_cases c : q < min j b.size - i
  · rw [if_pos (by omega), bt_ext b i j _ (by omega), if_pos (by omega), bt_ext b i k _ (by omega), if_pos (by omega)]
  · rw [if_neg (by omega), bt_ext b j k _ (by omega), if_pos (by omega), bt_ext b i k _ (by omega), if_pos (by omega)]
    congr 1; omega
theorem cut_all (b : ByteArray) (k : Nat) (h : b.size ≤ k) : b.extract 0 k = b := by
  refine ext_bt (by rw [size_ext]; omega) fun q hq => ?_
  rw [size_ext] at hq
  rw [bt_ext _ _ _ _ (by omega), if_pos (by omega)]
  congr 1; omega
theorem bt_head (l : List Int) (h : ∀ x ∈ l, 0 ≤ x ∧ x ≤ 255) (r : ByteArray) (i : Nat) (hi : i < l.length) : bt (strOfNums l ++ r) (i : Int) = l.getD i 0 := by
  rw [bt_app _ _ _ (by omega), size_nums, if_pos (by omega), bt_bytes _ h]
theorem four_bytes (b : ByteArray) (h : 4 ≤ b.size) : strOfNums [bt b 0, bt b 1, bt b 2, bt b 3] = b.extract 0 4 := by
  have r0 := bt_range b 0; have r1 := bt_range b 1; have r2 := bt_range b 2; have r3 := bt_range b 3
  refine ext_bt (by rw [size_nums, size_ext]; simp only [List.length_cons, List.length_nil]; omega) fun q hq => ?_
  rw [size_nums] at hq
  simp only [List.length_cons, List.length_nil] at hq
  rw [bt_bytes _ (by simp; omega), bt_ext _ _ _ _ (by omega), if_pos (by omega)]
  have : q = 0 ∨ q = 1 ∨ q = 2 ∨ q = 3 := by omega
  rcases this with rfl | rfl | rfl | rfl <;> rfl

/-- A request whose fields may be. -/
def RqOk (fl ho no se s2 : Int) (ad og : ByteArray) (l : List S48) : Prop :=
  (0 ≤ fl ∧ fl ≤ 31) ∧ ad.size = 4 ∧ og.size = 4 ∧ (0 ≤ no ∧ no < 4294967296) ∧ (0 ≤ se ∧ se < 4294967296) ∧ (0 ≤ s2 ∧ s2 < 4294967296) ∧ (0 ≤ ho ∧ ho < 256) ∧ ∀ x ∈ l, okR 0 255 x
/-- Its bytes. -/
def rqBytes (fl ho no se s2 : Int) (ad og : ByteArray) (l : List S48) : ByteArray :=
  strOfNums [1, fl * 8, 0, ho] ++ w4 no ++ ad ++ w4 se ++ og ++ w4 s2 ++ allS l
theorem rreq_right_l (k : Nat) (a0 : Int) (a1 : Int) (a2 : Int) (a3 : ByteArray) (a4 : Int) (a5 : Int) (a6 : ByteArray) (a7 : Int) (a8 : Int) (a9 : ByteArray) (a10 : Int) (a11 : ByteArray) (a12 : Int) (a13 : Int) (a14 : Int) (a15 : Int) (a16 : Int) (a17 : Int) (a18 : Int) (a19 : ByteArray) (a20 : ByteArray) (a21 : List S46) (a22 : Int) (a23 : ByteArray) (a24 : List S48) (hl : a24.length ≤ 1000000) (hk : a24.length < k) (h12 : -9223372036854775808 ≤ a12 ∧ a12 ≤ 9223372036854775807) (h13 : -9223372036854775808 ≤ a13 ∧ a13 ≤ 9223372036854775807) (h16 : -9223372036854775808 ≤ a16 ∧ a16 ≤ 9223372036854775807) (h17 : -9223372036854775808 ≤ a17 ∧ a17 ≤ 9223372036854775807) :
    ∃ r, rreq_Right.l0 (k + 4) [a17, a12, a13] 3 0 a0 a1 a2 a3 a4 a5 a6 a7 a8 a9 a10 a11 a12 a13 a14 a15 a16 a17 a18 a19 a20 a21 a22 a23 a24 = some r ∧ (r = true ↔ (0 ≤ a17 ∧ a17 < 4294967296) ∧ (0 ≤ a12 ∧ a12 < 4294967296) ∧ (0 ≤ a13 ∧ a13 < 4294967296) ∧ (0 ≤ a16 ∧ a16 < 256) ∧ ∀ x ∈ a24, okR 0 255 x) := by
  have e3 : ∃ r, rreq_Right.l0 (k + 1) [a17, a12, a13] 3 3 a0 a1 a2 a3 a4 a5 a6 a7 a8 a9 a10 a11 a12 a13 a14 a15 a16 a17 a18 a19 a20 a21 a22 a23 a24 = some r ∧ (r = true ↔ (0 ≤ a16 ∧ a16 < 256) ∧ ∀ x ∈ a24, okR 0 255 x) := by
    rw [rreq_Right.l0]
    rw [if_neg (by omega), octet_Fits_f a16 1 h16.1 h16.2, Option.bind_some]
    by_cases c : octFits a16 1 = true
    · rw [if_pos c, right_f a24 hl k hk, Option.bind_some]
      exact ⟨_, rfl, by rw [decide_eq_true_eq]; exact ⟨fun h => ⟨(fits1 a16).mp c, h⟩, fun h => h.2⟩⟩
    · rw [if_neg c]
      exact ⟨false, rfl, ⟨fun h => (by cases h), fun h => absurd ((fits1 a16).mpr h.1) c⟩⟩
  have e2 : ∃ r, rreq_Right.l0 (k + 2) [a17, a12, a13] 3 2 a0 a1 a2 a3 a4 a5 a6 a7 a8 a9 a10 a11 a12 a13 a14 a15 a16 a17 a18 a19 a20 a21 a22 a23 a24 = some r ∧ (r = true ↔ (0 ≤ a13 ∧ a13 < 4294967296) ∧ (0 ≤ a16 ∧ a16 < 256) ∧ ∀ x ∈ a24, okR 0 255 x) := by
    obtain ⟨r, e, hr⟩ := e3
    rw [rreq_Right.l0]
    rw [if_pos (by omega), if_pos (by omega), if_pos (by simp), show rd [a17, a12, a13] 2 = a13 from rfl, octet_Fits_f a13 4 h13.1 h13.2, Option.bind_some]
    by_cases c : octFits a13 4 = true
    · rw [if_pos c, wrap64_id (by omega) (by omega), show (2 : Int) + 1 = 3 from rfl, e]
      exact ⟨r, rfl, hr.trans ⟨fun h => ⟨(fits4 a13).mp c, h⟩, fun h => h.2⟩⟩
    · rw [if_neg c]
      exact ⟨false, rfl, ⟨fun h => (by cases h), fun h => absurd ((fits4 a13).mpr h.1) c⟩⟩
  have e1 : ∃ r, rreq_Right.l0 (k + 3) [a17, a12, a13] 3 1 a0 a1 a2 a3 a4 a5 a6 a7 a8 a9 a10 a11 a12 a13 a14 a15 a16 a17 a18 a19 a20 a21 a22 a23 a24 = some r ∧ (r = true ↔ (0 ≤ a12 ∧ a12 < 4294967296) ∧ (0 ≤ a13 ∧ a13 < 4294967296) ∧ (0 ≤ a16 ∧ a16 < 256) ∧ ∀ x ∈ a24, okR 0 255 x) := by
    obtain ⟨r, e, hr⟩ := e2
    rw [rreq_Right.l0]
    rw [if_pos (by omega), if_pos (by omega), if_pos (by simp), show rd [a17, a12, a13] 1 = a12 from rfl, octet_Fits_f a12 4 h12.1 h12.2, Option.bind_some]
    by_cases c : octFits a12 4 = true
    · rw [if_pos c, wrap64_id (by omega) (by omega), show (1 : Int) + 1 = 2 from rfl, e]
      exact ⟨r, rfl, hr.trans ⟨fun h => ⟨(fits4 a12).mp c, h⟩, fun h => h.2⟩⟩
    · rw [if_neg c]
      exact ⟨false, rfl, ⟨fun h => (by cases h), fun h => absurd ((fits4 a12).mpr h.1) c⟩⟩
  obtain ⟨r, e, hr⟩ := e1
  rw [rreq_Right.l0]
  rw [if_pos (by omega), if_pos (by omega), if_pos (by simp), show rd [a17, a12, a13] 0 = a17 from rfl, octet_Fits_f a17 4 h17.1 h17.2, Option.bind_some]
  by_cases c : octFits a17 4 = true
  · rw [if_pos c, wrap64_id (by omega) (by omega), show (0 : Int) + 1 = 1 from rfl, e]
    exact ⟨r, rfl, hr.trans ⟨fun h => ⟨(fits4 a17).mp c, h⟩, fun h => h.2⟩⟩
  · rw [if_neg c]
    exact ⟨false, rfl, ⟨fun h => (by cases h), fun h => absurd ((fits4 a17).mpr h.1) c⟩⟩
theorem rreq_right_f (a0 : Int) (a1 : Int) (a2 : Int) (a3 : ByteArray) (a4 : Int) (a5 : Int) (a6 : ByteArray) (a7 : Int) (a8 : Int) (a9 : ByteArray) (a10 : Int) (a11 : ByteArray) (a12 : Int) (a13 : Int) (a14 : Int) (a15 : Int) (a16 : Int) (a17 : Int) (a18 : Int) (a19 : ByteArray) (a20 : ByteArray) (a21 : List S46) (a22 : Int) (a23 : ByteArray) (a24 : List S48) (hl : a24.length ≤ 1000000) (h12 : -9223372036854775808 ≤ a12 ∧ a12 ≤ 9223372036854775807) (h13 : -9223372036854775808 ≤ a13 ∧ a13 ≤ 9223372036854775807) (h16 : -9223372036854775808 ≤ a16 ∧ a16 ≤ 9223372036854775807) (h17 : -9223372036854775808 ≤ a17 ∧ a17 ≤ 9223372036854775807) (k : Nat) (hk : a24.length + 6 < k) :
    ∃ r, rreq_Right.f k a0 a1 a2 a3 a4 a5 a6 a7 a8 a9 a10 a11 a12 a13 a14 a15 a16 a17 a18 a19 a20 a21 a22 a23 a24 = some r ∧ (r = true ↔ a0 = 3 ∧ msg_Bare.b a0 a1 a2 a3 a4 a5 a6 a7 a8 a9 a10 a11 a12 a13 a14 a15 a16 a17 a18 a19 a20 a21 a22 a23 a24 = true ∧ RqOk a15 a16 a17 a12 a13 a19 a20 a24) := by
  obtain ⟨k, rfl⟩ : ∃ j, k = j + 5 := ⟨k - 5, by omega⟩
  have no : rreq_Right.j0 (k + 5) true a0 a1 a2 a3 a4 a5 a6 a7 a8 a9 a10 a11 a12 a13 a14 a15 a16 a17 a18 a19 a20 a21 a22 a23 a24 = some false := by simp only [rreq_Right.j0, if_true]
  unfold rreq_Right.f RqOk
  rw [no]
  by_cases c0 : a0 = 3
  · rw [if_pos c0]
    unfold msg_Bare.f
    rw [Option.bind_some]
    by_cases c1 : msg_Bare.b a0 a1 a2 a3 a4 a5 a6 a7 a8 a9 a10 a11 a12 a13 a14 a15 a16 a17 a18 a19 a20 a21 a22 a23 a24 = true
    · rw [if_pos c1]
      by_cases c2 : a15 < 0
      · rw [if_pos c2]; exact ⟨false, rfl, ⟨fun h => (by cases h), fun h => by have := h.2.2.1; omega⟩⟩
      rw [if_neg c2]
      by_cases c3 : a15 > 31
      · rw [if_pos c3]; exact ⟨false, rfl, ⟨fun h => (by cases h), fun h => by have := h.2.2.1; omega⟩⟩
      rw [if_neg c3]
      by_cases c4 : (a19.size : Int) = 4
      · rw [if_pos c4]
        by_cases c5 : (a20.size : Int) = 4
        · rw [c5, bne_self_eq_false]
          simp only [rreq_Right.j0, Bool.false_eq_true, if_false]
          rw [Option.bind_some]
          obtain ⟨r, e, hr⟩ := rreq_right_l k a0 a1 a2 a3 a4 a5 a6 a7 a8 a9 a10 a11 a12 a13 a14 a15 a16 a17 a18 a19 a20 a21 a22 a23 a24 hl (by omega) h12 h13 h16 h17
          refine ⟨r, e, hr.trans ⟨fun h => ⟨c0, c1, ⟨by omega, by omega⟩, by omega, by omega, h⟩, fun h => h.2.2.2.2.2⟩⟩
        · rw [bne_iff_ne.mpr c5, no]
          exact ⟨false, rfl, ⟨fun h => (by cases h), fun h => by have := h.2.2.2.2.1; omega⟩⟩
      · rw [if_neg c4]; exact ⟨false, rfl, ⟨fun h => (by cases h), fun h => by have := h.2.2.2.1; omega⟩⟩
    · rw [if_neg c1]; exact ⟨false, rfl, ⟨fun h => (by cases h), fun h => absurd h.2.1 c1⟩⟩
  · rw [if_neg c0]; exact ⟨false, rfl, ⟨fun h => (by cases h), fun h => absurd h.1 c0⟩⟩
theorem rreq_word_f (n : Int) (h0 : 0 ≤ n) (h1 : n < 4294967296) (k : Nat) (hk : 8 < k) : rreq_word.f k n = some (w4 n) := by
  unfold rreq_word.f
  rw [octet_Put_f n 4 (by omega) (by omega) k hk, Option.bind_some, put4 n h0 h1]
theorem rreq_put_f (a0 : Int) (a1 : Int) (a2 : Int) (a3 : ByteArray) (a4 : Int) (a5 : Int) (a6 : ByteArray) (a7 : Int) (a8 : Int) (a9 : ByteArray) (a10 : Int) (a11 : ByteArray) (a12 : Int) (a13 : Int) (a14 : Int) (a15 : Int) (a16 : Int) (a17 : Int) (a18 : Int) (a19 : ByteArray) (a20 : ByteArray) (a21 : List S46) (a22 : Int) (a23 : ByteArray) (a24 : List S48) (hl : a24.length ≤ 1000000) (h12 : -9223372036854775808 ≤ a12 ∧ a12 ≤ 9223372036854775807) (h13 : -9223372036854775808 ≤ a13 ∧ a13 ≤ 9223372036854775807) (h16 : -9223372036854775808 ≤ a16 ∧ a16 ≤ 9223372036854775807) (h17 : -9223372036854775808 ≤ a17 ∧ a17 ≤ 9223372036854775807) (k : Nat) (hk : a24.length + 20 < k) :
    ∃ r, rreq_Right.f k a0 a1 a2 a3 a4 a5 a6 a7 a8 a9 a10 a11 a12 a13 a14 a15 a16 a17 a18 a19 a20 a21 a22 a23 a24 = some r ∧ (r = true ↔ a0 = 3 ∧ msg_Bare.b a0 a1 a2 a3 a4 a5 a6 a7 a8 a9 a10 a11 a12 a13 a14 a15 a16 a17 a18 a19 a20 a21 a22 a23 a24 = true ∧ RqOk a15 a16 a17 a12 a13 a19 a20 a24) ∧ rreq_Put.f k a0 a1 a2 a3 a4 a5 a6 a7 a8 a9 a10 a11 a12 a13 a14 a15 a16 a17 a18 a19 a20 a21 a22 a23 a24 = some (if r = true then (rqBytes a15 a16 a17 a12 a13 a19 a20 a24, true) else ((⟨#[]⟩ : ByteArray), false)) := by
  obtain ⟨r, e, hr⟩ := rreq_right_f a0 a1 a2 a3 a4 a5 a6 a7 a8 a9 a10 a11 a12 a13 a14 a15 a16 a17 a18 a19 a20 a21 a22 a23 a24 hl h12 h13 h16 h17 k (by omega)
  refine ⟨r, e, hr, ?_⟩
  unfold rreq_Put.f
  rw [e, Option.bind_some]
  by_cases c : r = true
  · obtain ⟨_, _, r15, r19, r20, r17, r12, r13, r16, ok⟩ := hr.mp c
    have hb := bytesS_le a24 255 (fun x hx => (ok x hx).2.2)
    have sz : (allS a24).size = bytesS a24 := size_all a24
    have s17 := size_w4 a17; have s12 := size_w4 a12; have s13 := size_w4 a13
    rw [if_pos c, if_pos c, put_f a24 hl k (by omega), if_pos ok, Option.bind_some, Option.bind_some, wrap64_id (by omega) (by omega), Int.emod_eq_of_lt (by omega) (by omega), Int.emod_eq_of_lt (a := a16) (by omega) (by omega)]
    have s0 : (strOfNums [1, a15 * 8, 0, a16]).size = 4 := size_nums _
    rw [rreq_word_f a17 r17.1 r17.2 k (by omega), Option.bind_some, if_pos (by rw [s0, s17]; omega), if_pos (by simp only [size_app]; omega), rreq_word_f a12 r12.1 r12.2 k (by omega), Option.bind_some, if_pos (by simp only [size_app]; omega), if_pos (by simp only [size_app]; omega), rreq_word_f a13 r13.1 r13.2 k (by omega), Option.bind_some, if_pos (by simp only [size_app]; omega), if_pos (by simp only [size_app]; omega)]
    rfl
  · rw [if_neg c, if_neg c]

/-- From a place to another one stand extensions, one behind the other. -/
inductive Runs (s : ByteArray) : Nat → List S48 → Nat → Prop
  | nil (a : Nat) : Runs s a [] a
  | cons (a b : Nat) (l : List S48) (n : Nat) (hn : n = (bt s ((a + 1 : Nat) : Int)).toNat) (h : a + 2 + n ≤ s.size) (t : Runs s (a + 2 + n) l b) : Runs s a (⟨bt s (a : Int), s.extract (a + 2) (a + 2 + n)⟩ :: l) b
/-- At a place there is something, but no whole extension. -/
def Stuck (s : ByteArray) (b : Nat) : Prop := b < s.size ∧ ¬ b + 2 + (bt s ((b + 1 : Nat) : Int)).toNat ≤ s.size
theorem runs_le {s : ByteArray} {a b : Nat} {l : List S48} (h : Runs s a l b) : a + 2 * l.length ≤ b ∧ (a ≤ s.size → b ≤ s.size) := by
  induction h with
  | nil a => exact ⟨by simp, fun h => h⟩
  | cons a b l n hn h t ih => exact ⟨by rw [List.length_cons]; omega, fun _ => ih.2 h⟩
theorem runs_nil {s : ByteArray} {a b : Nat} (h : Runs s a [] b) : a = b := by cases h; rfl
theorem runs_ex (s : ByteArray) (m : Nat) : ∀ a, a ≤ s.size → s.size - a ≤ m → ∃ l b, Runs s a l b ∧ b ≤ s.size ∧ (b = s.size ∨ Stuck s b) := by
  induction m with
  | zero => intro a h hm; exact ⟨[], a, .nil a, h, .inl (by omega)⟩
  | succ m ih =>
    intro a h hm
    by_cases c : a = s.size
    · exact ⟨[], a, .nil a, h, .inl c⟩
    · by_cases d : a + 2 + (bt s ((a + 1 : Nat) : Int)).toNat ≤ s.size
      · obtain ⟨l, b, r, hb, e⟩ := ih (a + 2 + (bt s ((a + 1 : Nat) : Int)).toNat) d (by omega)
        exact ⟨_, b, .cons a b l _ rfl d r, hb, e⟩
      · exact ⟨[], a, .nil a, h, .inr ⟨by omega, d⟩⟩
theorem runs_trans {s : ByteArray} {a b c : Nat} {l m : List S48} (h : Runs s a l b) (k : Runs s b m c) : Runs s a (l ++ m) c := by
  induction h with
  | nil a => exact k
  | cons a b l n hn h t ih => exact .cons a c _ n hn h (ih k)
theorem runs_split {s : ByteArray} {a c : Nat} {l m : List S48} (h : Runs s a (l ++ m) c) : ∃ b, Runs s a l b ∧ Runs s b m c := by
  induction l generalizing a with
  | nil => exact ⟨a, .nil a, h⟩
  | cons x l ih =>
    cases h with
    | cons _ _ _ n hn h t =>
      obtain ⟨b, r, q⟩ := ih t
      exact ⟨b, .cons a b l n hn h r, q⟩
theorem runs_app {s : ByteArray} (t : ByteArray) {a b : Nat} {l : List S48} (h : Runs s a l b) : Runs (s ++ t) a l b := by
  induction h with
  | nil a => exact .nil a
  | cons a b l n hn h _ ih =>
    have e0 : bt (s ++ t) (a : Int) = bt s (a : Int) := by rw [bt_app _ _ _ (by omega), if_pos (by omega)]
    have e1 : bt (s ++ t) ((a + 1 : Nat) : Int) = bt s ((a + 1 : Nat) : Int) := by rw [bt_app _ _ _ (by omega), if_pos (by omega)]
    have e2 : (s ++ t).extract (a + 2) (a + 2 + n) = s.extract (a + 2) (a + 2 + n) := by
      refine ext_bt (by rw [size_ext, size_ext, size_app]; omega) fun i hi => ?_
      rw [size_ext, size_app] at hi
      rw [bt_ext _ _ _ _ (by omega), bt_ext _ _ _ _ (by omega), size_app, if_pos (by omega), if_pos (by omega), bt_app _ _ _ (by omega), if_pos (by omega)]
    rw [← e0, ← e2]
    exact .cons a b l n (by rw [hn, e1]) (by rw [size_app]; omega) ih
theorem runs_shift (s : ByteArray) {t : ByteArray} {a b : Nat} {l : List S48} (h : Runs t a l b) : Runs (s ++ t) (s.size + a) l (s.size + b) := by
  induction h with
  | nil a => exact .nil _
  | cons a b l n hn h _ ih =>
    have e0 : bt (s ++ t) ((s.size + a : Nat) : Int) = bt t (a : Int) := by rw [bt_app _ _ _ (by omega), if_neg (by omega)]; congr 1; omega
    have e1 : bt (s ++ t) ((s.size + a + 1 : Nat) : Int) = bt t ((a + 1 : Nat) : Int) := by rw [bt_app _ _ _ (by omega), if_neg (by omega)]; congr 1; omega
    have e2 : (s ++ t).extract (s.size + a + 2) (s.size + a + 2 + n) = t.extract (a + 2) (a + 2 + n) := by
      refine ext_bt (by rw [size_ext, size_ext, size_app]; omega) fun i hi => ?_
      rw [size_ext, size_app] at hi
      rw [bt_ext _ _ _ _ (by omega), bt_ext _ _ _ _ (by omega), size_app, if_pos (by omega), if_pos (by omega), bt_app _ _ _ (by omega), if_neg (by omega)]
      congr 1; omega
    rw [← e0, ← e2]
    refine .cons (s.size + a) (s.size + b) l n (by rw [hn, e1]) (by rw [size_app]; omega) ?_
    rw [show s.size + a + 2 + n = s.size + (a + 2 + n) by omega]
    exact ih
theorem runs_cut {s : ByteArray} (c : Nat) (hc : c ≤ s.size) {a b : Nat} {l : List S48} (h : Runs s a l b) (hb : b ≤ c) : Runs (s.extract 0 c) a l b := by
  induction h with
  | nil a => exact .nil a
  | cons a b l n hn h t ih =>
    have hle := (runs_le t).1
    have e0 : bt (s.extract 0 c) (a : Int) = bt s (a : Int) := by rw [bt_ext _ _ _ _ (by omega), if_pos (by omega)]; congr 1; omega
    have e1 : bt (s.extract 0 c) ((a + 1 : Nat) : Int) = bt s ((a + 1 : Nat) : Int) := by rw [bt_ext _ _ _ _ (by omega), if_pos (by omega)]; congr 1; omega
    have e2 : (s.extract 0 c).extract (a + 2) (a + 2 + n) = s.extract (a + 2) (a + 2 + n) := by
      refine ext_bt (by rw [size_ext, size_ext, size_ext]; omega) fun i hi => ?_
      rw [size_ext, size_ext] at hi
      rw [bt_ext _ _ _ _ (by omega), bt_ext _ _ _ _ (by omega), bt_ext _ _ _ _ (by omega), size_ext, if_pos (by omega), if_pos (by omega), if_pos (by omega)]
      congr 1; omega
    rw [← e0, ← e2]
    exact .cons a b l n (by rw [hn, e1]) (by rw [size_ext]; omega) (ih hb)
/-- What stands from a place to another one are the extensions' bytes, and these may be. -/
theorem runs_all {s : ByteArray} {a b : Nat} {l : List S48} (h : Runs s a l b) (ha : a ≤ s.size) : (∀ x ∈ l, okR 0 255 x) ∧ s.extract a b = allS l := by
  induction h with
  | nil a =>
    refine ⟨fun x hx => by simp at hx, ?_⟩
    rw [allS]
    refine ext_bt (by rw [size_ext]; show _ = 0; omega) fun i hi => ?_
    rw [size_ext] at hi; omega
  | cons a b l n hn h t ih =>
    obtain ⟨i1, i2⟩ := ih h
    have hb := (runs_le t).2 h
    have hle := (runs_le t).1
    have r0 := bt_range s (a : Int)
    have r1 := bt_range s ((a + 1 : Nat) : Int)
    refine ⟨fun x hx => ?_, ?_⟩
    · rcases List.mem_cons.mp hx with rfl | hx
      · exact ⟨r0.1, r0.2, by show (s.extract _ _).size ≤ 255; rw [size_ext]; omega⟩
      · exact i1 x hx
    · rw [allS, oneS, ← i2]
      have z : (s.extract (a + 2) (a + 2 + n)).size = n := by rw [size_ext]; omega
      show s.extract a b = strOfNums [bt s (a : Int), ((s.extract (a + 2) (a + 2 + n)).size : Int)] ++ s.extract (a + 2) (a + 2 + n) ++ s.extract (a + 2 + n) b
      rw [z]
      refine ext_bt (by rw [size_app, size_app, size_nums, size_ext, size_ext, size_ext]; simp only [List.length_cons, List.length_nil]; omega) fun i hi => ?_
      rw [size_ext] at hi
      rw [bt_ext _ _ _ _ (by omega), if_pos (by omega), bt_app _ _ _ (by omega), size_app, size_nums, z]
      simp only [List.length_cons, List.length_nil]
      by_cases q : i < 2 + n
      · rw [if_pos (by omega), bt_app _ _ _ (by omega), size_nums]
        simp only [List.length_cons, List.length_nil]
        by_cases q2 : i < 2
        · rw [if_pos (by omega), bt_bytes _ (by simp; omega)]
          have : i = 0 ∨ i = 1 := by omega
          rcases this with rfl | rfl
          · simp
          · simp only [List.getD_cons_succ, List.getD_cons_zero]
            rw [hn, Int.toNat_of_nonneg r1.1]; congr 1
        · rw [if_neg (by omega), bt_ext _ _ _ _ (by omega), if_pos (by omega)]; congr 1; omega
      · rw [if_neg (by omega), bt_ext _ _ _ _ (by omega), if_pos (by omega)]; congr 1; omega
/-- The bytes of extensions that may be are such ones, one behind the other. -/
theorem all_runs (l : List S48) (ok : ∀ x ∈ l, okR 0 255 x) : Runs (allS l) 0 l (allS l).size := by
  induction l with
  | nil => exact .nil 0
  | cons x l ih =>
    have hx := ok x (by simp)
    have r := runs_shift (oneS x) (ih fun y hy => ok y (by simp [hy]))
    have s1 := size_one x
    obtain ⟨h0, h1, h2⟩ := hx
    have b : ∀ y ∈ [x.f0, (x.f1.size : Int)], 0 ≤ y ∧ y ≤ 255 := by simp; omega
    have g : ∀ i : Nat, bt (allS (x :: l)) (i : Int) = if i < 2 then [x.f0, (x.f1.size : Int)].getD i 0 else if i < 2 + x.f1.size then bt x.f1 ((i - 2 : Nat) : Int) else bt (allS l) ((i - (2 + x.f1.size) : Nat) : Int) := by
      intro i
      rw [allS, bt_app _ _ _ (by omega), s1]
      by_cases q : i < 2 + x.f1.size
      · rw [if_pos (by omega), oneS, bt_app _ _ _ (by omega), size_nums]
        simp only [List.length_cons, List.length_nil]
        by_cases q2 : i < 2
        · rw [if_pos (by omega), if_pos q2, bt_bytes _ b]
        · rw [if_neg (by omega), if_neg q2, if_pos q]; congr 1; omega
      · rw [if_neg (by omega), if_neg (by omega), if_neg q]; congr 1; omega
    have g0 := g 0
    have g1 := g 1
    simp only [Nat.zero_lt_two, if_pos, List.getD_cons_zero, Nat.one_lt_two, List.getD_cons_succ] at g0 g1
    have sz : (allS (x :: l)).size = 2 + x.f1.size + (allS l).size := by rw [allS, size_app, s1]
    have e : (allS (x :: l)).extract (0 + 2) (0 + 2 + x.f1.size) = x.f1 := by
      refine ext_bt (by rw [size_ext, sz]; omega) fun i hi => ?_
      rw [size_ext, sz] at hi
      rw [bt_ext _ _ _ _ (by omega), sz, if_pos (by omega), show ((0 + 2 : Nat) : Int) + (i : Int) = ((i + 2 : Nat) : Int) by omega, g (i + 2), if_neg (by omega), if_pos (by omega)]
      congr 1
    have := Runs.cons (s := allS (x :: l)) 0 (allS (x :: l)).size l x.f1.size (by rw [show ((0 + 1 : Nat) : Int) = ((1 : Nat) : Int) from rfl, g1]; rfl) (by rw [sz]; omega) (by
      rw [s1] at r
      rw [show 0 + 2 + x.f1.size = 2 + x.f1.size + 0 by omega, sz]
      exact r)
    rw [e, g0] at this
    exact this
/-- One list alone stands between two places. -/
theorem runs_one {s : ByteArray} {a b c : Nat} {l m : List S48} (h : Runs s a l b) (k : Runs s a m c) (hb : b = s.size) (hc : c = s.size) : l = m := by
  induction h generalizing m with
  | nil a =>
    cases k with
    | nil => rfl
    | cons _ _ l n hn h t => omega
  | cons a b l n hn h t ih =>
    cases k with
    | nil => have := (runs_le t).1; omega
    | cons _ _ l' n' hn' h' t' =>
      have e : n' = n := by rw [hn, hn']
      subst e
      rw [ih t' hb]

/-- Are there so many bytes ahead of a cursor's end? -/
def has (a e : Int) (b : Bool) (n : Int) : Bool := !b && decide (0 ≤ n ∧ n ≤ e - a)
theorem has_iff {a e : Int} {b : Bool} {n : Int} : has a e b n = true ↔ (b = false ∧ 0 ≤ n ∧ n ≤ e - a) := by simp [has]
theorem step_f (s : ByteArray) (a e : Int) (b : Bool) (n : Int) (h0 : 0 ≤ a) (h1 : a ≤ e) (h2 : e ≤ 1000000) :
    cursor_step.f s a e b n = some (if has a e b n = true then (s, a + n, e, b, true) else (s, a, e, true, false)) := by
  unfold cursor_step.f
  rw [wrap64_id (x := e - a) (by omega) (by omega)]
  cases b with
  | true => simp [has]
  | false =>
    rw [if_neg (by decide)]
    by_cases c : n < 0
    · rw [if_pos c, if_neg (by rw [has_iff]; omega)]
    · rw [if_neg c]
      by_cases d : n > e - a
      · rw [if_pos d, if_neg (by rw [has_iff]; omega)]
      · rw [if_neg d, if_pos (has_iff.mpr ⟨rfl, by omega, by omega⟩), wrap64_id (by omega) (by omega)]
theorem text_f (s : ByteArray) (a e : Int) (b : Bool) (n : Int) (h0 : 0 ≤ a) (h1 : a ≤ e) (h2 : e ≤ s.size) (hs : s.size ≤ 1000000) :
    cursor_Text.f s a e b n = some (if has a e b n = true then (s.extract a.toNat (a + n).toNat, s, a + n, e, b) else ((⟨#[]⟩ : ByteArray), s, a, e, true)) := by
  unfold cursor_Text.f
  rw [step_f s a e b n h0 h1 (by omega), Option.bind_some]
  by_cases c : has a e b n = true
  · have c' := has_iff.mp c
    rw [if_pos c, if_pos c]
    dsimp only
    rw [if_pos rfl, if_pos h0, if_pos (by omega), if_pos (by omega)]
  · rw [if_neg c, if_neg c]
    dsimp only
    rw [if_neg (by decide)]

theorem num_fold (s : ByteArray) : Go.Proofs.Ytccjakjjaemmkaa.Pre.numOf s = num (bytesOf s) := by
  unfold Go.Proofs.Ytccjakjjaemmkaa.Pre.numOf num
  rfl
theorem num_f (s : ByteArray) (a e : Int) (b : Bool) (n : Int) (h0 : 0 ≤ a) (h1 : a ≤ e) (h2 : e ≤ s.size) (hs : s.size ≤ 1000000) :
    cursor_Num.f s a e b n = some (if 1 ≤ n ∧ n ≤ 7 ∧ has a e b n = true then (num (bytesOf (s.extract a.toNat (a + n).toNat)), s, a + n, e, b) else (0, s, a, e, true)) := by
  unfold cursor_Num.f
  by_cases c : n < 1 ∨ 7 < n
  · rw [if_pos c, if_neg (by omega)]
  · rw [if_neg c, step_f s a e b n h0 h1 (by omega), Option.bind_some]
    by_cases d : has a e b n = true
    · have d' := has_iff.mp d
      rw [if_pos d]
      dsimp only
      rw [if_pos rfl, if_pos (by omega), num_fold, if_pos ⟨by omega, by omega, d⟩]
    · rw [if_neg d]
      dsimp only
      rw [if_neg (by decide), if_neg (fun h => d h.2.2)]

theorem num1 (s : ByteArray) (a : Nat) (h : a < s.size) : num (bytesOf (s.extract a (a + 1))) = bt s (a : Int) := by
  have e : bytesOf (s.extract a (a + 1)) = [bt s (a : Int)] := by
    apply List.ext_getElem (by rw [len_bytesOf, size_ext]; simp; omega)
    intro i h1 h2
    have i0 : i = 0 := by simpa using h2
    subst i0
    have := bytesOf_getD (s.extract a (a + 1)) 0
    rw [List.getD_eq_getElem?_getD, List.getElem?_eq_getElem h1, bt_ext _ _ _ _ (by omega), if_pos (by omega)] at this
    simp only [Option.getD_some] at this
    rw [this]; simp
  rw [e]; simp [num]
/-- One round of Get. -/
theorem get_step (acc : List S48) (s : ByteArray) (a : Nat) (k : Nat) (h : a < s.size) (hs : s.size ≤ 1000000) (hacc : acc.length ≤ 1000000) :
    ext_Get.l0 (k + 1) acc s a s.size false = if a + 2 + (bt s ((a + 1 : Nat) : Int)).toNat ≤ s.size then ext_Get.l0 k (acc ++ [⟨bt s (a : Int), s.extract (a + 2) (a + 2 + (bt s ((a + 1 : Nat) : Int)).toNat)⟩]) s ((a + 2 + (bt s ((a + 1 : Nat) : Int)).toNat : Nat) : Int) s.size false else some ([], a, 2) := by
  simp only [ext_Get.l0]
  have r0 := bt_range s (a : Int)
  have r1 := bt_range s ((a + 1 : Nat) : Int)
  have k0 : cursor_Num.f s a s.size false 1 = some (bt s (a : Int), s, (a : Int) + 1, (s.size : Int), false) := by
    rw [num_f s a s.size false 1 (by omega) (by omega) (by omega) hs, if_pos ⟨by omega, by omega, has_iff.mpr ⟨rfl, by omega, by omega⟩⟩, show (a : Int).toNat = a by omega, show ((a : Int) + 1).toNat = a + 1 by omega, num1 s a h]
  unfold cursor_Left.f
  rw [if_neg (by decide), Option.bind_some, wrap64_id (by omega) (by omega), if_pos (by omega), k0, Option.bind_some]
  dsimp only
  by_cases c : a + 1 < s.size
  · have k1 : cursor_Num.f s ((a : Int) + 1) s.size false 1 = some (bt s ((a + 1 : Nat) : Int), s, ((a + 2 : Nat) : Int), (s.size : Int), false) := by
      rw [num_f s ((a : Int) + 1) s.size false 1 (by omega) (by omega) (by omega) hs, if_pos ⟨by omega, by omega, has_iff.mpr ⟨rfl, by omega, by omega⟩⟩, show ((a : Int) + 1).toNat = a + 1 by omega, show ((a : Int) + 1 + 1).toNat = a + 1 + 1 by omega, num1 s (a + 1) c]
      congr 4 <;> omega
    rw [k1, Option.bind_some]
    dsimp only
    by_cases d : a + 2 + (bt s ((a + 1 : Nat) : Int)).toNat ≤ s.size
    · have hd : ((a + 2 : Nat) : Int) + bt s ((a + 1 : Nat) : Int) = ((a + 2 + (bt s ((a + 1 : Nat) : Int)).toNat : Nat) : Int) := by omega
      rw [text_f s _ s.size false _ (by omega) (by omega) (by omega) hs, if_pos (has_iff.mpr ⟨rfl, by omega, by omega⟩), Option.bind_some]
      dsimp only
      rw [if_neg (by decide), if_pos (by omega), if_pos d, hd, Int.toNat_natCast, Int.toNat_natCast]
    · have e : ¬ has ((a + 2 : Nat) : Int) s.size false (bt s ((a + 1 : Nat) : Int)) = true := fun q => by have := has_iff.mp q; omega
      rw [text_f s _ s.size false _ (by omega) (by omega) (by omega) hs, if_neg e, Option.bind_some]
      dsimp only
      rw [if_pos rfl, if_neg d]
  · have e : ¬ has ((a : Int) + 1) s.size false 1 = true := fun q => by have := has_iff.mp q; omega
    have e2 : ¬ has ((a : Int) + 1) s.size true 0 = true := fun q => by have := has_iff.mp q; simp at this
    rw [num_f s _ s.size false 1 (by omega) (by omega) (by omega) hs, if_neg (fun q => e q.2.2), Option.bind_some]
    dsimp only
    rw [text_f s _ s.size true 0 (by omega) (by omega) (by omega) hs, if_neg e2, Option.bind_some]
    dsimp only
    rw [if_pos rfl, if_neg (by omega)]
theorem get_end (acc : List S48) (s : ByteArray) (k : Nat) (hs : s.size ≤ 1000000) : ext_Get.l0 (k + 1) acc s s.size s.size false = some (acc, 0, 0) := by
  simp only [ext_Get.l0]
  unfold cursor_Left.f
  rw [if_neg (by decide), Option.bind_some, wrap64_id (by omega) (by omega), if_neg (by omega)]
theorem get_runs {s : ByteArray} (hs : s.size ≤ 1000000) {a b : Nat} {l : List S48} (r : Runs s a l b) (ha : a ≤ s.size) (e : b = s.size ∨ Stuck s b) : ∀ (acc : List S48) (k : Nat), l.length < k → acc.length + s.size - a ≤ 1000000 →
    ext_Get.l0 k acc s a s.size false = some (if b = s.size then (acc ++ l, 0, 0) else ([], (b : Int), 2)) := by
  induction r with
  | nil a =>
    intro acc k hk hc
    obtain ⟨k, rfl⟩ : ∃ j, k = j + 1 := ⟨k - 1, by omega⟩
    rcases e with e | e
    · rw [if_pos e, e, get_end acc s k hs, List.append_nil]
    · rw [if_neg (by have := e.1; omega), get_step acc s a k e.1 hs (by have := e.1; omega), if_neg e.2]
  | cons a b l n hn h t ih =>
    intro acc k hk hc
    obtain ⟨k, rfl⟩ : ∃ j, k = j + 1 := ⟨k - 1, by omega⟩
    rw [get_step acc s a k (by omega) hs (by omega), ← hn, if_pos h]
    rw [List.length_cons] at hk
    rw [ih h e _ k (by omega) (by rw [List.length_append, List.length_singleton]; omega), List.append_assoc]
    rfl
/-- Get of any bytes: the extensions that they are, or where they break off. -/
theorem get_f {s : ByteArray} (hs : s.size ≤ 1000000) {b : Nat} {l : List S48} (r : Runs s 0 l b) (e : b = s.size ∨ Stuck s b) (k : Nat) (hk : l.length < k) : ext_Get.f k s = some (if b = s.size then (l, 0, 0) else ([], (b : Int), 2)) := by
  unfold ext_Get.f cursor_New.f
  rw [Option.bind_some]
  have := get_runs hs r (Nat.zero_le _) e [] k hk (by simp; omega)
  rw [List.nil_append] at this
  exact this

theorem text_at (b : ByteArray) (hs : b.size ≤ 1000000) (a n : Nat) (h : a + n ≤ b.size) : cursor_Text.f b (a : Int) b.size false (n : Int) = some (b.extract a (a + n), b, ((a + n : Nat) : Int), (b.size : Int), false) := by
  rw [text_f b a b.size false n (by omega) (by omega) (by omega) hs, if_pos (has_iff.mpr ⟨rfl, by omega, by omega⟩), show (a : Int).toNat = a by omega, show ((a : Int) + n).toNat = a + n by omega]
  congr 4
theorem num_at (b : ByteArray) (hs : b.size ≤ 1000000) (a n : Nat) (h : a + n ≤ b.size) (h1 : 1 ≤ n) (h7 : n ≤ 7) : cursor_Num.f b (a : Int) b.size false (n : Int) = some (num (bytesOf (b.extract a (a + n))), b, ((a + n : Nat) : Int), (b.size : Int), false) := by
  rw [num_f b a b.size false n (by omega) (by omega) (by omega) hs, if_pos ⟨by omega, by omega, has_iff.mpr ⟨rfl, by omega, by omega⟩⟩, show (a : Int).toNat = a by omega, show ((a : Int) + n).toNat = a + n by omega]
  congr 4

theorem and7_u8 : ∀ x : Fin 256, Go.bits .and .u8 ((x.val : Nat) : Int) 7 = ((x.val % 8 : Nat) : Int) := by decide +kernel
theorem or_u8 : ∀ x : Fin 8, ∀ y : Fin 256, (Go.bits .or .u8 ((x.val : Nat) : Int) ((y.val : Nat) : Int) = 0) ↔ (x.val = 0 ∧ y.val = 0) := by decide +kernel
theorem low_zero (x y : Int) (hx : 0 ≤ x ∧ x ≤ 255) (hy : 0 ≤ y ∧ y ≤ 255) : Go.bits .or .u8 (Go.bits .and .u8 x 7) y = 0 ↔ (x % 8 = 0 ∧ y = 0) := by
  have h1 := and7_u8 ⟨x.toNat, by omega⟩
  have h2 := or_u8 ⟨x.toNat % 8, by omega⟩ ⟨y.toNat, by omega⟩
  dsimp only at h1 h2
  rw [show ((x.toNat : Nat) : Int) = x by omega] at h1
  rw [show ((y.toNat : Nat) : Int) = y by omega] at h2
  rw [h1, h2]
  omega

/-- A message's fields, a place, and an error. -/
abbrev MsgT := Int × Int × Int × ByteArray × Int × Int × ByteArray × Int × Int × ByteArray × Int × ByteArray × Int × Int × Int × Int × Int × Int × Int × ByteArray × ByteArray × (List S46) × Int × ByteArray × (List S48) × Int × Int
def noMsg (at_ e : Int) : MsgT := (0, 0, 0, (⟨#[]⟩ : ByteArray), 0, 0, (⟨#[]⟩ : ByteArray), 0, 0, (⟨#[]⟩ : ByteArray), 0, (⟨#[]⟩ : ByteArray), 0, 0, 0, 0, 0, 0, 0, (⟨#[]⟩ : ByteArray), (⟨#[]⟩ : ByteArray), [], 0, (⟨#[]⟩ : ByteArray), [], at_, e)

def rqRes (b : ByteArray) (l : List S48) (e : Nat) : MsgT :=
  if b.size < 24 then noMsg b.size 2
  else if bt b 1 % 8 = 0 ∧ bt b 2 = 0 then
    if e = (b.extract 24 b.size).size then (3, 0, 0, (⟨#[]⟩ : ByteArray), 0, 0, (⟨#[]⟩ : ByteArray), 0, 0, (⟨#[]⟩ : ByteArray), 0, (⟨#[]⟩ : ByteArray), num (bytesOf (b.extract 12 16)), num (bytesOf (b.extract 20 24)), 0, bt b 1 / 8, bt b 3, num (bytesOf (b.extract 4 8)), 0, b.extract 8 12, b.extract 16 20, [], 0, (⟨#[]⟩ : ByteArray), l, 0, 0)
    else noMsg (24 + (e : Int)) 2
  else noMsg 1 5
theorem rreq_get_f (b : ByteArray) (hs : b.size ≤ 1000000) (l : List S48) (e : Nat) (r : Runs (b.extract 24 b.size) 0 l e) (he : e = (b.extract 24 b.size).size ∨ Stuck (b.extract 24 b.size) e) (k : Nat) (hk : l.length < k) : rreq_Get.f k b = some (rqRes b l e) := by
  unfold rreq_Get.f rqRes
  by_cases c1 : b.size < 24
  · rw [if_pos (by omega), if_pos c1]; rfl
  rw [if_neg (by omega), if_pos (by omega), if_pos (by omega), if_neg c1]
  have r1 := bt_range b 1
  have r2 := bt_range b 2
  have r3 := bt_range b 3
  have hz := low_zero (bt b 1) (bt b 2) r1 r2
  by_cases c2 : bt b 1 % 8 = 0 ∧ bt b 2 = 0
  · have z : (b.extract 24 b.size).size = b.size - 24 := by rw [size_ext]; omega
    have hle := (runs_le r).2 (by omega)
    rw [if_pos (hz.mpr c2), if_pos c2, if_pos (by omega), get_f (by omega) r he k hk, Option.bind_some]
    by_cases c3 : e = (b.extract 24 b.size).size
    · rw [if_pos c3, if_pos c3]
      dsimp only
      have t1 : cursor_Text.f b 0 b.size false 4 = some (b.extract 0 4, b, 4, (b.size : Int), false) := text_at b hs 0 4 (by omega)
      have n1 : cursor_Num.f b 4 b.size false 4 = some (num (bytesOf (b.extract 4 8)), b, 8, (b.size : Int), false) := num_at b hs 4 4 (by omega) (by omega) (by omega)
      have t2 : cursor_Text.f b 8 b.size false 4 = some (b.extract 8 12, b, 12, (b.size : Int), false) := text_at b hs 8 4 (by omega)
      have n2 : cursor_Num.f b 12 b.size false 4 = some (num (bytesOf (b.extract 12 16)), b, 16, (b.size : Int), false) := num_at b hs 12 4 (by omega) (by omega) (by omega)
      have t3 : cursor_Text.f b 16 b.size false 4 = some (b.extract 16 20, b, 20, (b.size : Int), false) := text_at b hs 16 4 (by omega)
      have n3 : cursor_Num.f b 20 b.size false 4 = some (num (bytesOf (b.extract 20 24)), b, 24, (b.size : Int), false) := num_at b hs 20 4 (by omega) (by omega) (by omega)
      unfold cursor_New.f
      rw [if_pos rfl, if_pos (by omega), Option.bind_some]
      dsimp only
      rw [t1, Option.bind_some]
      dsimp only
      rw [n1, Option.bind_some]
      dsimp only
      rw [t2, Option.bind_some]
      dsimp only
      rw [n2, Option.bind_some]
      dsimp only
      rw [t3, Option.bind_some]
      dsimp only
      rw [n3, Option.bind_some]
      dsimp only
      rw [wrap64_id (x := bt b 1 / 8) (by omega) (by omega), wrap64_id (x := bt b 3) (by omega) (by omega)]
    · rw [if_neg c3, if_neg c3]
      dsimp only
      rw [if_neg (by decide), wrap64_id (by omega) (by omega), Int.add_comm]
      rfl
  · rw [if_neg (fun h => c2 (hz.mp h)), if_neg c2]; rfl

theorem size_rq (fl ho no se s2 : Int) (ad og : ByteArray) (l : List S48) (h1 : ad.size = 4) (h2 : og.size = 4) : (rqBytes fl ho no se s2 ad og l).size = 24 + (allS l).size := by
  unfold rqBytes
  simp only [size_app, size_w4, size_nums, List.length_cons, List.length_nil]; omega
/-- A request's bytes are read as that request. -/
theorem rq_get (fl ho no se s2 : Int) (ad og : ByteArray) (l : List S48) (hl : l.length ≤ 1000) (ok : RqOk fl ho no se s2 ad og l) (k : Nat) (hk : l.length < k) :
    rreq_Get.f k (rqBytes fl ho no se s2 ad og l) = some (3, 0, 0, (⟨#[]⟩ : ByteArray), 0, 0, (⟨#[]⟩ : ByteArray), 0, 0, (⟨#[]⟩ : ByteArray), 0, (⟨#[]⟩ : ByteArray), se, s2, 0, fl, ho, no, 0, ad, og, [], 0, (⟨#[]⟩ : ByteArray), l, 0, 0) := by
  obtain ⟨r15, r19, r20, r17, r12, r13, r16, oks⟩ := ok
  have sz := size_rq fl ho no se s2 ad og l r19 r20
  have hb := bytesS_le l 255 (fun x hx => (oks x hx).2.2)
  have sa : (allS l).size = bytesS l := size_all l
  have hd : ∀ x ∈ [1, fl * 8, 0, ho], 0 ≤ x ∧ x ≤ 255 := by simp; omega
  have e0 : rqBytes fl ho no se s2 ad og l = strOfNums [1, fl * 8, 0, ho] ++ (w4 no ++ ad ++ w4 se ++ og ++ w4 s2 ++ allS l) := by unfold rqBytes; simp only [ByteArray.append_assoc]
  have b1 : bt (rqBytes fl ho no se s2 ad og l) 1 = fl * 8 := by rw [e0]; exact bt_head _ hd _ 1 (by simp)
  have b2 : bt (rqBytes fl ho no se s2 ad og l) 2 = 0 := by rw [e0]; exact bt_head _ hd _ 2 (by simp)
  have b3 : bt (rqBytes fl ho no se s2 ad og l) 3 = ho := by rw [e0]; exact bt_head _ hd _ 3 (by simp)
  have s17 := size_w4 no; have s12 := size_w4 se; have s13 := size_w4 s2
  have s0 : (strOfNums [1, fl * 8, 0, ho]).size = 4 := size_nums _
  have x1 : (rqBytes fl ho no se s2 ad og l).extract 4 8 = w4 no := by
    rw [show rqBytes fl ho no se s2 ad og l = strOfNums [1, fl * 8, 0, ho] ++ (w4 no ++ (ad ++ w4 se ++ og ++ w4 s2 ++ allS l)) by unfold rqBytes; simp only [ByteArray.append_assoc]]
    exact cut_at _ _ _ 4 8 s0 (by omega)
  have x2 : (rqBytes fl ho no se s2 ad og l).extract 8 12 = ad := by
    rw [show rqBytes fl ho no se s2 ad og l = (strOfNums [1, fl * 8, 0, ho] ++ w4 no) ++ (ad ++ (w4 se ++ og ++ w4 s2 ++ allS l)) by unfold rqBytes; simp only [ByteArray.append_assoc]]
    exact cut_at _ _ _ 8 12 (by simp only [size_app]; omega) (by omega)
  have x3 : (rqBytes fl ho no se s2 ad og l).extract 12 16 = w4 se := by
    rw [show rqBytes fl ho no se s2 ad og l = (strOfNums [1, fl * 8, 0, ho] ++ w4 no ++ ad) ++ (w4 se ++ (og ++ w4 s2 ++ allS l)) by unfold rqBytes; simp only [ByteArray.append_assoc]]
    exact cut_at _ _ _ 12 16 (by simp only [size_app]; omega) (by omega)
  have x4 : (rqBytes fl ho no se s2 ad og l).extract 16 20 = og := by
    rw [show rqBytes fl ho no se s2 ad og l = (strOfNums [1, fl * 8, 0, ho] ++ w4 no ++ ad ++ w4 se) ++ (og ++ (w4 s2 ++ allS l)) by unfold rqBytes; simp only [ByteArray.append_assoc]]
    exact cut_at _ _ _ 16 20 (by simp only [size_app]; omega) (by omega)
  have x5 : (rqBytes fl ho no se s2 ad og l).extract 20 24 = w4 s2 := by
    rw [show rqBytes fl ho no se s2 ad og l = (strOfNums [1, fl * 8, 0, ho] ++ w4 no ++ ad ++ w4 se ++ og) ++ (w4 s2 ++ allS l) by unfold rqBytes; simp only [ByteArray.append_assoc]]
    exact cut_at _ _ _ 20 24 (by simp only [size_app]; omega) (by omega)
  have x6 : (rqBytes fl ho no se s2 ad og l).extract 24 (rqBytes fl ho no se s2 ad og l).size = allS l := by
    rw [sz]
    unfold rqBytes
    exact cut_end _ _ 24 _ (by simp only [size_app]; omega) rfl
  have r := all_runs l oks
  rw [← x6] at r
  rw [rreq_get_f (rqBytes fl ho no se s2 ad og l) (by omega) l _ r (.inl rfl) k hk]
  unfold rqRes
  rw [if_neg (by omega), b1, b2, b3, if_pos ⟨by omega, rfl⟩, if_pos rfl, x1, x2, x3, x4, x5, num_w4 no r17.1 r17.2, num_w4 se r12.1 r12.2, num_w4 s2 r13.1 r13.2, show fl * 8 / 8 = fl by omega]
/-- Bytes that are read as a request are that request's. -/
theorem rq_bytes (b : ByteArray) (hs : 24 ≤ b.size) (hb : bt b 0 = 1) (c : bt b 1 % 8 = 0 ∧ bt b 2 = 0) (l : List S48) (r : Runs (b.extract 24 b.size) 0 l (b.extract 24 b.size).size) :
    RqOk (bt b 1 / 8) (bt b 3) (num (bytesOf (b.extract 4 8))) (num (bytesOf (b.extract 12 16))) (num (bytesOf (b.extract 20 24))) (b.extract 8 12) (b.extract 16 20) l ∧ rqBytes (bt b 1 / 8) (bt b 3) (num (bytesOf (b.extract 4 8))) (num (bytesOf (b.extract 12 16))) (num (bytesOf (b.extract 20 24))) (b.extract 8 12) (b.extract 16 20) l = b := by
  have r1 := bt_range b 1
  have r3 := bt_range b 3
  obtain ⟨ok, al⟩ := runs_all r (Nat.zero_le _)
  rw [cut_all _ _ (Nat.le_refl _)] at al
  have z1 : (b.extract 4 8).size = 4 := by rw [size_ext]; omega
  have z2 : (b.extract 8 12).size = 4 := by rw [size_ext]; omega
  have z3 : (b.extract 12 16).size = 4 := by rw [size_ext]; omega
  have z4 : (b.extract 16 20).size = 4 := by rw [size_ext]; omega
  have z5 : (b.extract 20 24).size = 4 := by rw [size_ext]; omega
  refine ⟨⟨by omega, z2, z4, num4_range _ z1, num4_range _ z3, num4_range _ z5, by omega, ok⟩, ?_⟩
  unfold rqBytes
  rw [w4_num _ z1, w4_num _ z3, w4_num _ z5, ← al]
  have e : strOfNums [1, bt b 1 / 8 * 8, 0, bt b 3] = b.extract 0 4 := by
    rw [← four_bytes b (by omega), hb, c.2, show bt b 1 / 8 * 8 = bt b 1 by omega]
  rw [e, cut_join b 0 4 8 (by omega) (by omega) (by omega), cut_join b 0 8 12 (by omega) (by omega) (by omega), cut_join b 0 12 16 (by omega) (by omega) (by omega), cut_join b 0 16 20 (by omega) (by omega) (by omega), cut_join b 0 20 24 (by omega) (by omega) (by omega), cut_join b 0 24 b.size (by omega) (by omega) (by omega), cut_all _ _ (Nat.le_refl _)]

/-- A reply whose fields may be. -/
def RpOk (fl pl ho se iv : Int) (ad og : ByteArray) : Prop :=
  (0 ≤ fl ∧ fl ≤ 3) ∧ (0 ≤ pl ∧ pl ≤ 31) ∧ (0 ≤ ho ∧ ho < 256) ∧ (0 ≤ se ∧ se < 4294967296) ∧ (0 ≤ iv ∧ iv < 4294967296) ∧ ad.size = 4 ∧ og.size = 4
def rpBytes (fl pl ho se iv : Int) (ad og : ByteArray) (l : List S48) : ByteArray :=
  strOfNums [2, fl * 64, pl, ho] ++ ad ++ w4 se ++ og ++ w4 iv ++ allS l
def akBytes (l : List S48) : ByteArray := (⟨#[4, 0]⟩ : ByteArray) ++ allS l
def RepOk (a0 : Int) (a1 : Int) (a2 : Int) (a3 : ByteArray) (a4 : Int) (a5 : Int) (a6 : ByteArray) (a7 : Int) (a8 : Int) (a9 : ByteArray) (a10 : Int) (a11 : ByteArray) (a12 : Int) (a13 : Int) (a14 : Int) (a15 : Int) (a16 : Int) (a17 : Int) (a18 : Int) (a19 : ByteArray) (a20 : ByteArray) (a21 : List S46) (a22 : Int) (a23 : ByteArray) (a24 : List S48) : Prop := msg_Bare.b a0 a1 a2 a3 a4 a5 a6 a7 a8 a9 a10 a11 a12 a13 a14 a15 a16 a17 a18 a19 a20 a21 a22 a23 a24 = true ∧ (∀ x ∈ a24, okR 0 255 x) ∧ (a0 = 6 ∨ (a0 = 4 ∧ RpOk a15 a7 a16 a12 a14 a19 a20))
def repBytes (a0 fl pl ho se iv : Int) (ad og : ByteArray) (l : List S48) : ByteArray := if a0 = 6 then akBytes l else rpBytes fl pl ho se iv ad og l
theorem rrep_right_j (a0 : Int) (a1 : Int) (a2 : Int) (a3 : ByteArray) (a4 : Int) (a5 : Int) (a6 : ByteArray) (a7 : Int) (a8 : Int) (a9 : ByteArray) (a10 : Int) (a11 : ByteArray) (a12 : Int) (a13 : Int) (a14 : Int) (a15 : Int) (a16 : Int) (a17 : Int) (a18 : Int) (a19 : ByteArray) (a20 : ByteArray) (a21 : List S46) (a22 : Int) (a23 : ByteArray) (a24 : List S48) (h12 : -9223372036854775808 ≤ a12 ∧ a12 ≤ 9223372036854775807) (h14 : -9223372036854775808 ≤ a14 ∧ a14 ≤ 9223372036854775807) (h16 : -9223372036854775808 ≤ a16 ∧ a16 ≤ 9223372036854775807) (k : Nat) : ∃ r, rrep_Right.j0 (k + 1) false a0 a1 a2 a3 a4 a5 a6 a7 a8 a9 a10 a11 a12 a13 a14 a15 a16 a17 a18 a19 a20 a21 a22 a23 a24 = some r ∧ (r = true ↔ (a0 = 6 ∨ (a0 = 4 ∧ RpOk a15 a7 a16 a12 a14 a19 a20))) := by
  unfold RpOk
  rw [rrep_Right.j0, if_neg (by decide)]
  by_cases c6 : a0 = 6
  · rw [if_pos c6]; exact ⟨true, rfl, ⟨fun _ => .inl c6, fun _ => rfl⟩⟩
  rw [if_neg c6]
  by_cases c4 : a0 = 4
  · rw [if_pos c4]
    by_cases d1 : a15 ≥ 0
    · rw [if_pos d1]
      by_cases d2 : a15 < 4
      · rw [if_pos d2]
        by_cases d3 : a7 ≥ 0
        · rw [if_pos d3]
          by_cases d4 : a7 < 32
          · rw [if_pos d4, octet_Fits_f a16 1 h16.1 h16.2, Option.bind_some]
            by_cases d5 : octFits a16 1 = true
            · rw [if_pos d5, octet_Fits_f a12 4 h12.1 h12.2, Option.bind_some]
              by_cases d6 : octFits a12 4 = true
              · rw [if_pos d6, octet_Fits_f a14 4 h14.1 h14.2, Option.bind_some]
                by_cases d7 : octFits a14 4 = true
                · rw [if_pos d7]
                  by_cases d8 : (a19.size : Int) = 4
                  · rw [if_pos d8]
                    exact ⟨_, rfl, by rw [beq_iff_eq]; exact ⟨fun h => .inr ⟨c4, ⟨d1, by omega⟩, ⟨d3, by omega⟩, (fits1 a16).mp d5, (fits4 a12).mp d6, (fits4 a14).mp d7, by omega, by omega⟩, fun h => h.elim (fun h => absurd h c6) (fun h => by have := h.2.2.2.2.2.2.2; omega)⟩⟩
                  · rw [if_neg d8]; exact ⟨false, rfl, ⟨fun h => (by cases h), fun h => h.elim (fun h => absurd h c6) (fun h => by have := h.2.2.2.2.2.2.1; omega)⟩⟩
                · rw [if_neg d7]; exact ⟨false, rfl, ⟨fun h => (by cases h), fun h => h.elim (fun h => absurd h c6) (fun h => absurd ((fits4 a14).mpr h.2.2.2.2.2.1) d7)⟩⟩
              · rw [if_neg d6]; exact ⟨false, rfl, ⟨fun h => (by cases h), fun h => h.elim (fun h => absurd h c6) (fun h => absurd ((fits4 a12).mpr h.2.2.2.2.1) d6)⟩⟩
            · rw [if_neg d5]; exact ⟨false, rfl, ⟨fun h => (by cases h), fun h => h.elim (fun h => absurd h c6) (fun h => absurd ((fits1 a16).mpr h.2.2.2.1) d5)⟩⟩
          · rw [if_neg d4]; exact ⟨false, rfl, ⟨fun h => (by cases h), fun h => by rcases h with h | h <;> omega⟩⟩
        · rw [if_neg d3]; exact ⟨false, rfl, ⟨fun h => (by cases h), fun h => by rcases h with h | h <;> omega⟩⟩
      · rw [if_neg d2]; exact ⟨false, rfl, ⟨fun h => (by cases h), fun h => by rcases h with h | h <;> omega⟩⟩
    · rw [if_neg d1]; exact ⟨false, rfl, ⟨fun h => (by cases h), fun h => by rcases h with h | h <;> omega⟩⟩
  · rw [if_neg c4]; exact ⟨false, rfl, ⟨fun h => (by cases h), fun h => by rcases h with h | h <;> omega⟩⟩
theorem rrep_right_f (a0 : Int) (a1 : Int) (a2 : Int) (a3 : ByteArray) (a4 : Int) (a5 : Int) (a6 : ByteArray) (a7 : Int) (a8 : Int) (a9 : ByteArray) (a10 : Int) (a11 : ByteArray) (a12 : Int) (a13 : Int) (a14 : Int) (a15 : Int) (a16 : Int) (a17 : Int) (a18 : Int) (a19 : ByteArray) (a20 : ByteArray) (a21 : List S46) (a22 : Int) (a23 : ByteArray) (a24 : List S48) (hl : a24.length ≤ 1000000) (h12 : -9223372036854775808 ≤ a12 ∧ a12 ≤ 9223372036854775807) (h14 : -9223372036854775808 ≤ a14 ∧ a14 ≤ 9223372036854775807) (h16 : -9223372036854775808 ≤ a16 ∧ a16 ≤ 9223372036854775807) (k : Nat) (hk : a24.length + 6 < k) : ∃ r, rrep_Right.f k a0 a1 a2 a3 a4 a5 a6 a7 a8 a9 a10 a11 a12 a13 a14 a15 a16 a17 a18 a19 a20 a21 a22 a23 a24 = some r ∧ (r = true ↔ RepOk a0 a1 a2 a3 a4 a5 a6 a7 a8 a9 a10 a11 a12 a13 a14 a15 a16 a17 a18 a19 a20 a21 a22 a23 a24) := by
  obtain ⟨k, rfl⟩ : ∃ j, k = j + 1 := ⟨k - 1, by omega⟩
  have no : rrep_Right.j0 (k + 1) true a0 a1 a2 a3 a4 a5 a6 a7 a8 a9 a10 a11 a12 a13 a14 a15 a16 a17 a18 a19 a20 a21 a22 a23 a24 = some false := by simp only [rrep_Right.j0, if_true]
  unfold rrep_Right.f RepOk msg_Bare.f
  rw [no, Option.bind_some]
  by_cases c1 : msg_Bare.b a0 a1 a2 a3 a4 a5 a6 a7 a8 a9 a10 a11 a12 a13 a14 a15 a16 a17 a18 a19 a20 a21 a22 a23 a24 = true
  · rw [if_pos c1, right_f a24 hl (k + 1) (by omega), Option.bind_some]
    by_cases c2 : ∀ x ∈ a24, okR 0 255 x
    · rw [decide_eq_true c2]
      obtain ⟨r, e, hr⟩ := rrep_right_j a0 a1 a2 a3 a4 a5 a6 a7 a8 a9 a10 a11 a12 a13 a14 a15 a16 a17 a18 a19 a20 a21 a22 a23 a24 h12 h14 h16 k
      exact ⟨r, e, hr.trans ⟨fun h => ⟨c1, c2, h⟩, fun h => h.2.2⟩⟩
    · rw [decide_eq_false c2]
      exact ⟨false, no, ⟨fun h => (by cases h), fun h => absurd h.2.1 c2⟩⟩
  · rw [if_neg c1]; exact ⟨false, rfl, ⟨fun h => (by cases h), fun h => absurd h.1 c1⟩⟩
theorem rrep_put_f (a0 : Int) (a1 : Int) (a2 : Int) (a3 : ByteArray) (a4 : Int) (a5 : Int) (a6 : ByteArray) (a7 : Int) (a8 : Int) (a9 : ByteArray) (a10 : Int) (a11 : ByteArray) (a12 : Int) (a13 : Int) (a14 : Int) (a15 : Int) (a16 : Int) (a17 : Int) (a18 : Int) (a19 : ByteArray) (a20 : ByteArray) (a21 : List S46) (a22 : Int) (a23 : ByteArray) (a24 : List S48) (hl : a24.length ≤ 1000000) (h12 : -9223372036854775808 ≤ a12 ∧ a12 ≤ 9223372036854775807) (h14 : -9223372036854775808 ≤ a14 ∧ a14 ≤ 9223372036854775807) (h16 : -9223372036854775808 ≤ a16 ∧ a16 ≤ 9223372036854775807) (k : Nat) (hk : a24.length + 20 < k) :
    ∃ r, rrep_Right.f k a0 a1 a2 a3 a4 a5 a6 a7 a8 a9 a10 a11 a12 a13 a14 a15 a16 a17 a18 a19 a20 a21 a22 a23 a24 = some r ∧ (r = true ↔ RepOk a0 a1 a2 a3 a4 a5 a6 a7 a8 a9 a10 a11 a12 a13 a14 a15 a16 a17 a18 a19 a20 a21 a22 a23 a24) ∧ rrep_Put.f k a0 a1 a2 a3 a4 a5 a6 a7 a8 a9 a10 a11 a12 a13 a14 a15 a16 a17 a18 a19 a20 a21 a22 a23 a24 = some (if r = true then (repBytes a0 a15 a7 a16 a12 a14 a19 a20 a24, true) else ((⟨#[]⟩ : ByteArray), false)) := by
  obtain ⟨r, e, hr⟩ := rrep_right_f a0 a1 a2 a3 a4 a5 a6 a7 a8 a9 a10 a11 a12 a13 a14 a15 a16 a17 a18 a19 a20 a21 a22 a23 a24 hl h12 h14 h16 k (by omega)
  refine ⟨r, e, hr, ?_⟩
  unfold rrep_Put.f repBytes
  rw [e, Option.bind_some]
  by_cases c : r = true
  · obtain ⟨_, ok, h⟩ := hr.mp c
    have hb := bytesS_le a24 255 (fun x hx => (ok x hx).2.2)
    have sz : (allS a24).size = bytesS a24 := size_all a24
    rw [if_pos c, if_pos c, put_f a24 hl k (by omega), if_pos ok, Option.bind_some]
    by_cases c6 : a0 = 6
    · rw [if_pos c6, if_pos c6]
      dsimp only
      rw [if_pos (by omega)]
      rfl
    · rw [if_neg c6, if_neg c6]
      rcases h with h | ⟨_, r15, r7, r16, r12, r14, r19, r20⟩
      · exact absurd h c6
      have s12 := size_w4 a12; have s14 := size_w4 a14
      have s0 : (strOfNums [2, a15 * 64, a7, a16]).size = 4 := size_nums _
      rw [octet_Put_f a12 4 (by omega) (by omega) k (by omega), Option.bind_some, put4 a12 r12.1 r12.2, octet_Put_f a14 4 (by omega) (by omega) k (by omega), Option.bind_some, put4 a14 r14.1 r14.2, Option.bind_some, wrap64_id (by omega) (by omega), Int.emod_eq_of_lt (by omega) (by omega), Int.emod_eq_of_lt (a := a7) (by omega) (by omega), Int.emod_eq_of_lt (a := a16) (by omega) (by omega)]
      dsimp only
      rw [if_pos (by rw [s0]; omega), if_pos (by simp only [size_app, s0, s12]; omega), if_pos (by simp only [size_app, s0, s12]; omega), if_pos (by simp only [size_app, s0, s12, s14]; omega), if_pos (by simp only [size_app, s0, s12, s14]; omega)]
      rfl
  · rw [if_neg c, if_neg c]

theorem and63_u8 : ∀ x : Fin 256, Go.bits .and .u8 ((x.val : Nat) : Int) 63 = ((x.val % 64 : Nat) : Int) := by decide +kernel
theorem and224_u8 : ∀ x : Fin 256, Go.bits .and .u8 ((x.val : Nat) : Int) 224 = ((x.val / 32 * 32 : Nat) : Int) := by decide +kernel
theorem or64_u8 : ∀ x : Fin 64, ∀ y : Fin 8, (Go.bits .or .u8 ((x.val : Nat) : Int) ((y.val * 32 : Nat) : Int) = 0) ↔ (x.val = 0 ∧ y.val = 0) := by decide +kernel
theorem low_zero6 (x y : Int) (hx : 0 ≤ x ∧ x ≤ 255) (hy : 0 ≤ y ∧ y ≤ 255) : Go.bits .or .u8 (Go.bits .and .u8 x 63) (Go.bits .and .u8 y 224) = 0 ↔ (x % 64 = 0 ∧ y < 32) := by
  have h1 := and63_u8 ⟨x.toNat, by omega⟩
  have h2 := and224_u8 ⟨y.toNat, by omega⟩
  have h3 := or64_u8 ⟨x.toNat % 64, by omega⟩ ⟨y.toNat / 32, by omega⟩
  dsimp only at h1 h2 h3
  rw [show ((x.toNat : Nat) : Int) = x by omega] at h1
  rw [show ((y.toNat : Nat) : Int) = y by omega] at h2
  rw [h1, h2, h3]
  omega

theorem list_ne {b : ByteArray} (h : 0 < b.size) : b.toList ≠ ([] : List UInt8) := by
  intro e
  rw [ByteArray.toList_eq] at e
  have z : b.data.toList.length = 0 := by rw [e]; rfl
  rw [Array.length_toList] at z
  have : b.data.size = b.size := rfl
  omega
def akRes (b : ByteArray) (l : List S48) (e : Nat) : MsgT :=
  if b.size < 2 then noMsg b.size 2
  else if bt b 1 = 0 then
    if e = (b.extract 2 b.size).size then (6, 0, 0, (⟨#[]⟩ : ByteArray), 0, 0, (⟨#[]⟩ : ByteArray), 0, 0, (⟨#[]⟩ : ByteArray), 0, (⟨#[]⟩ : ByteArray), 0, 0, 0, 0, 0, 0, 0, (⟨#[]⟩ : ByteArray), (⟨#[]⟩ : ByteArray), [], 0, (⟨#[]⟩ : ByteArray), l, 0, 0)
    else noMsg (2 + (e : Int)) 2
  else noMsg 1 5
def rpRes (b : ByteArray) (l : List S48) (e : Nat) : MsgT :=
  if b.size < 20 then noMsg b.size 2
  else if bt b 1 % 64 = 0 ∧ bt b 2 < 32 then
    if e = (b.extract 20 b.size).size then (4, 0, 0, (⟨#[]⟩ : ByteArray), 0, 0, (⟨#[]⟩ : ByteArray), (bt b 2), 0, (⟨#[]⟩ : ByteArray), 0, (⟨#[]⟩ : ByteArray), (num (bytesOf (b.extract 8 12))), 0, (num (bytesOf (b.extract 16 20))), (bt b 1 / 64), (bt b 3), 0, 0, (b.extract 4 8), (b.extract 12 16), [], 0, (⟨#[]⟩ : ByteArray), l, 0, 0)
    else noMsg (20 + (e : Int)) 2
  else noMsg 1 5
theorem rrep_ack_f (b : ByteArray) (hs : b.size ≤ 1000000) (l : List S48) (e : Nat) (r : Runs (b.extract 2 b.size) 0 l e) (he : e = (b.extract 2 b.size).size ∨ Stuck (b.extract 2 b.size) e) (k : Nat) (hk : l.length < k) : rrep_ack.f k b = some (akRes b l e) := by
  unfold rrep_ack.f akRes
  by_cases c1 : b.size < 2
  · rw [if_pos (by omega), if_pos c1]; rfl
  rw [if_neg (by omega), if_pos (by omega), if_neg c1]
  by_cases c2 : bt b 1 = 0
  · have z : (b.extract 2 b.size).size = b.size - 2 := by rw [size_ext]; omega
    have hle := (runs_le r).2 (by omega)
    rw [if_pos c2, if_pos c2, if_pos (by omega), get_f (by omega) r he k hk, Option.bind_some]
    by_cases c3 : e = (b.extract 2 b.size).size
    · rw [if_pos c3, if_pos c3]
      dsimp only
      rw [if_pos rfl]
    · rw [if_neg c3, if_neg c3]
      dsimp only
      rw [if_neg (by decide), wrap64_id (by omega) (by omega), Int.add_comm]
      rfl
  · rw [if_neg c2, if_neg c2]; rfl
theorem rrep_get4_f (b : ByteArray) (hs : b.size ≤ 1000000) (hp : 0 < b.size) (h4 : bt b 0 = 4) (l : List S48) (e : Nat) (r : Runs (b.extract 2 b.size) 0 l e) (he : e = (b.extract 2 b.size).size ∨ Stuck (b.extract 2 b.size) e) (k : Nat) (hk : l.length + 2 < k) : rrep_Get.f k b = some (akRes b l e) := by
  obtain ⟨k, rfl⟩ : ∃ j, k = j + 1 := ⟨k - 1, by omega⟩
  unfold rrep_Get.f
  rw [if_neg (list_ne hp), if_pos (by omega), h4, show ((4 : Int) == 4) = true from rfl]
  simp only [rrep_Get.j0, if_true]
  rw [rrep_ack_f b hs l e r he k (by omega), Option.bind_some]
theorem rrep_get2_f (b : ByteArray) (hs : b.size ≤ 1000000) (hp : 0 < b.size) (h4 : bt b 0 ≠ 4) (l : List S48) (e : Nat) (r : Runs (b.extract 20 b.size) 0 l e) (he : e = (b.extract 20 b.size).size ∨ Stuck (b.extract 20 b.size) e) (k : Nat) (hk : l.length + 2 < k) : rrep_Get.f k b = some (rpRes b l e) := by
  obtain ⟨k, rfl⟩ : ∃ j, k = j + 1 := ⟨k - 1, by omega⟩
  unfold rrep_Get.f
  rw [if_neg (list_ne hp), if_pos (by omega), beq_eq_false_iff_ne.mpr h4]
  simp only [rrep_Get.j0, Bool.false_eq_true, if_false]
  unfold rpRes
  by_cases c1 : b.size < 20
  · rw [if_pos (by omega), if_pos c1]; rfl
  rw [if_neg (by omega), if_pos (by omega), if_pos (by omega), if_neg c1]
  have r1 := bt_range b 1
  have r2 := bt_range b 2
  have r3 := bt_range b 3
  have hz := low_zero6 (bt b 1) (bt b 2) r1 r2
  by_cases c2 : bt b 1 % 64 = 0 ∧ bt b 2 < 32
  · have z : (b.extract 20 b.size).size = b.size - 20 := by rw [size_ext]; omega
    have hle := (runs_le r).2 (by omega)
    rw [if_pos (hz.mpr c2), if_pos c2, if_pos (by omega), get_f (by omega) r he k (by omega), Option.bind_some]
    by_cases c3 : e = (b.extract 20 b.size).size
    · rw [if_pos c3, if_pos c3]
      dsimp only
      have t1 : cursor_Text.f b 0 b.size false 4 = some (b.extract 0 4, b, 4, (b.size : Int), false) := text_at b hs 0 4 (by omega)
      have t2 : cursor_Text.f b 4 b.size false 4 = some (b.extract 4 8, b, 8, (b.size : Int), false) := text_at b hs 4 4 (by omega)
      have n1 : cursor_Num.f b 8 b.size false 4 = some (num (bytesOf (b.extract 8 12)), b, 12, (b.size : Int), false) := num_at b hs 8 4 (by omega) (by omega) (by omega)
      have t3 : cursor_Text.f b 12 b.size false 4 = some (b.extract 12 16, b, 16, (b.size : Int), false) := text_at b hs 12 4 (by omega)
      have n2 : cursor_Num.f b 16 b.size false 4 = some (num (bytesOf (b.extract 16 20)), b, 20, (b.size : Int), false) := num_at b hs 16 4 (by omega) (by omega) (by omega)
      unfold cursor_New.f
      rw [if_pos rfl, if_pos (by omega), Option.bind_some]
      dsimp only
      rw [t1, Option.bind_some]
      dsimp only
      rw [t2, Option.bind_some]
      dsimp only
      rw [n1, Option.bind_some]
      dsimp only
      rw [t3, Option.bind_some]
      dsimp only
      rw [n2, Option.bind_some]
      dsimp only
      rw [wrap64_id (x := bt b 1 / 64) (by omega) (by omega), wrap64_id (x := bt b 2) (by omega) (by omega), wrap64_id (x := bt b 3) (by omega) (by omega)]
    · rw [if_neg c3, if_neg c3]
      dsimp only
      rw [if_neg (by decide), wrap64_id (by omega) (by omega), Int.add_comm]
      rfl
  · rw [if_neg (fun h => c2 (hz.mp h)), if_neg c2]; rfl

theorem size_rp (fl pl ho se iv : Int) (ad og : ByteArray) (l : List S48) (h1 : ad.size = 4) (h2 : og.size = 4) : (rpBytes fl pl ho se iv ad og l).size = 20 + (allS l).size := by
  unfold rpBytes
  simp only [size_app, size_w4, size_nums, List.length_cons, List.length_nil]; omega
/-- A reply's bytes are read as that reply. -/
theorem rp_get (fl pl ho se iv : Int) (ad og : ByteArray) (l : List S48) (hl : l.length ≤ 1000) (ok : RpOk fl pl ho se iv ad og) (oks : ∀ x ∈ l, okR 0 255 x) (k : Nat) (hk : l.length + 2 < k) :
    rrep_Get.f k (rpBytes fl pl ho se iv ad og l) = some (4, 0, 0, (⟨#[]⟩ : ByteArray), 0, 0, (⟨#[]⟩ : ByteArray), pl, 0, (⟨#[]⟩ : ByteArray), 0, (⟨#[]⟩ : ByteArray), se, 0, iv, fl, ho, 0, 0, ad, og, [], 0, (⟨#[]⟩ : ByteArray), l, 0, 0) ∧ bt (rpBytes fl pl ho se iv ad og l) 0 = 2 := by
  obtain ⟨r15, r7, r16, r12, r14, r19, r20⟩ := ok
  have sz := size_rp fl pl ho se iv ad og l r19 r20
  have hb := bytesS_le l 255 (fun x hx => (oks x hx).2.2)
  have sa : (allS l).size = bytesS l := size_all l
  have hd : ∀ x ∈ [2, fl * 64, pl, ho], 0 ≤ x ∧ x ≤ 255 := by simp; omega
  have e0 : (rpBytes fl pl ho se iv ad og l) = strOfNums [2, fl * 64, pl, ho] ++ (ad ++ w4 se ++ og ++ w4 iv ++ allS l) := by unfold rpBytes; simp only [ByteArray.append_assoc]
  have b0 : bt (rpBytes fl pl ho se iv ad og l) 0 = 2 := by rw [e0]; exact bt_head _ hd _ 0 (by simp)
  have b1 : bt (rpBytes fl pl ho se iv ad og l) 1 = fl * 64 := by rw [e0]; exact bt_head _ hd _ 1 (by simp)
  have b2 : bt (rpBytes fl pl ho se iv ad og l) 2 = pl := by rw [e0]; exact bt_head _ hd _ 2 (by simp)
  have b3 : bt (rpBytes fl pl ho se iv ad og l) 3 = ho := by rw [e0]; exact bt_head _ hd _ 3 (by simp)
  have s12 := size_w4 se; have s14 := size_w4 iv
  have s0 : (strOfNums [2, fl * 64, pl, ho]).size = 4 := size_nums _
  have x1 : (rpBytes fl pl ho se iv ad og l).extract 4 8 = ad := by
    rw [show (rpBytes fl pl ho se iv ad og l) = (strOfNums [2, fl * 64, pl, ho]) ++ (ad ++ (w4 se ++ og ++ w4 iv ++ allS l)) by unfold rpBytes; simp only [ByteArray.append_assoc]]
    exact cut_at _ _ _ 4 8 (by (try simp only [size_app]); omega) (by omega)
  have x2 : (rpBytes fl pl ho se iv ad og l).extract 8 12 = w4 se := by
    rw [show (rpBytes fl pl ho se iv ad og l) = (strOfNums [2, fl * 64, pl, ho] ++ ad) ++ (w4 se ++ (og ++ w4 iv ++ allS l)) by unfold rpBytes; simp only [ByteArray.append_assoc]]
    exact cut_at _ _ _ 8 12 (by (try simp only [size_app]); omega) (by omega)
  have x3 : (rpBytes fl pl ho se iv ad og l).extract 12 16 = og := by
    rw [show (rpBytes fl pl ho se iv ad og l) = (strOfNums [2, fl * 64, pl, ho] ++ ad ++ w4 se) ++ (og ++ (w4 iv ++ allS l)) by unfold rpBytes; simp only [ByteArray.append_assoc]]
    exact cut_at _ _ _ 12 16 (by (try simp only [size_app]); omega) (by omega)
  have x4 : (rpBytes fl pl ho se iv ad og l).extract 16 20 = w4 iv := by
    rw [show (rpBytes fl pl ho se iv ad og l) = (strOfNums [2, fl * 64, pl, ho] ++ ad ++ w4 se ++ og) ++ (w4 iv ++ (allS l)) by unfold rpBytes; simp only [ByteArray.append_assoc]]
    exact cut_at _ _ _ 16 20 (by (try simp only [size_app]); omega) (by omega)
  have x6 : (rpBytes fl pl ho se iv ad og l).extract 20 (rpBytes fl pl ho se iv ad og l).size = allS l := by
    rw [sz]
    unfold rpBytes
    exact cut_end _ _ 20 _ (by simp only [size_app]; omega) rfl
  have r := all_runs l oks
  rw [← x6] at r
  refine ⟨?_, b0⟩
  rw [rrep_get2_f (rpBytes fl pl ho se iv ad og l) (by omega) (by omega) (by rw [b0]; decide) l _ r (.inl rfl) k hk]
  unfold rpRes
  rw [if_neg (by omega), b1, b2, b3, if_pos ⟨by omega, by omega⟩, if_pos rfl, x1, x2, x3, x4, num_w4 se r12.1 r12.2, num_w4 iv r14.1 r14.2, show fl * 64 / 64 = fl by omega]
theorem ak_get (l : List S48) (hl : l.length ≤ 1000) (oks : ∀ x ∈ l, okR 0 255 x) (k : Nat) (hk : l.length + 2 < k) :
    rrep_Get.f k (akBytes l) = some (6, 0, 0, (⟨#[]⟩ : ByteArray), 0, 0, (⟨#[]⟩ : ByteArray), 0, 0, (⟨#[]⟩ : ByteArray), 0, (⟨#[]⟩ : ByteArray), 0, 0, 0, 0, 0, 0, 0, (⟨#[]⟩ : ByteArray), (⟨#[]⟩ : ByteArray), [], 0, (⟨#[]⟩ : ByteArray), l, 0, 0) ∧ bt (akBytes l) 0 = 4 := by
  have hb := bytesS_le l 255 (fun x hx => (oks x hx).2.2)
  have sa : (allS l).size = bytesS l := size_all l
  have hd : ∀ x ∈ [(4 : Int), 0], 0 ≤ x ∧ x ≤ 255 := by simp
  have e0 : akBytes l = strOfNums [4, 0] ++ allS l := rfl
  have s0 : (strOfNums [4, 0]).size = 2 := size_nums _
  have sz : (akBytes l).size = 2 + (allS l).size := by rw [e0, size_app, s0]
  have b0 : bt (akBytes l) 0 = 4 := by rw [e0]; exact bt_head _ hd _ 0 (by simp)
  have b1 : bt (akBytes l) 1 = 0 := by rw [e0]; exact bt_head _ hd _ 1 (by simp)
  have x6 : (akBytes l).extract 2 (akBytes l).size = allS l := by
    rw [sz, e0]
    exact cut_end _ _ 2 _ s0 rfl
  have r := all_runs l oks
  rw [← x6] at r
  refine ⟨?_, b0⟩
  rw [rrep_get4_f (akBytes l) (by omega) (by omega) b0 l _ r (.inl rfl) k hk]
  unfold akRes
  rw [if_neg (by omega), if_pos b1, if_pos rfl]
/-- Bytes that are read as a reply are that reply's. -/
theorem rp_bytes (b : ByteArray) (hs : 20 ≤ b.size) (hb : bt b 0 = 2) (c : bt b 1 % 64 = 0 ∧ bt b 2 < 32) (l : List S48) (r : Runs (b.extract 20 b.size) 0 l (b.extract 20 b.size).size) :
    RpOk (bt b 1 / 64) (bt b 2) (bt b 3) (num (bytesOf (b.extract 8 12))) (num (bytesOf (b.extract 16 20))) (b.extract 4 8) (b.extract 12 16) ∧ (∀ x ∈ l, okR 0 255 x) ∧ rpBytes (bt b 1 / 64) (bt b 2) (bt b 3) (num (bytesOf (b.extract 8 12))) (num (bytesOf (b.extract 16 20))) (b.extract 4 8) (b.extract 12 16) l = b := by
  have r1 := bt_range b 1
  have r2 := bt_range b 2
  have r3 := bt_range b 3
  obtain ⟨ok, al⟩ := runs_all r (Nat.zero_le _)
  rw [cut_all _ _ (Nat.le_refl _)] at al
  have z1 : (b.extract 4 8).size = 4 := by rw [size_ext]; omega
  have z2 : (b.extract 8 12).size = 4 := by rw [size_ext]; omega
  have z3 : (b.extract 12 16).size = 4 := by rw [size_ext]; omega
  have z4 : (b.extract 16 20).size = 4 := by rw [size_ext]; omega
  refine ⟨⟨by omega, by omega, by omega, num4_range _ z2, num4_range _ z4, z1, z3⟩, ok, ?_⟩
  unfold rpBytes
  rw [w4_num _ z2, w4_num _ z4, ← al]
  have e : strOfNums [2, bt b 1 / 64 * 64, bt b 2, bt b 3] = b.extract 0 4 := by
    rw [← four_bytes b (by omega), hb, show bt b 1 / 64 * 64 = bt b 1 by omega]
  rw [e, cut_join b 0 4 8 (by omega) (by omega) (by omega), cut_join b 0 8 12 (by omega) (by omega) (by omega), cut_join b 0 12 16 (by omega) (by omega) (by omega), cut_join b 0 16 20 (by omega) (by omega) (by omega), cut_join b 0 20 b.size (by omega) (by omega) (by omega), cut_all _ _ (Nat.le_refl _)]
theorem ak_bytes (b : ByteArray) (hs : 2 ≤ b.size) (hb : bt b 0 = 4) (c : bt b 1 = 0) (l : List S48) (r : Runs (b.extract 2 b.size) 0 l (b.extract 2 b.size).size) :
    (∀ x ∈ l, okR 0 255 x) ∧ akBytes l = b := by
  obtain ⟨ok, al⟩ := runs_all r (Nat.zero_le _)
  rw [cut_all _ _ (Nat.le_refl _)] at al
  refine ⟨ok, ?_⟩
  have e0 : akBytes l = strOfNums [4, 0] ++ allS l := rfl
  have e : strOfNums [4, 0] = b.extract 0 2 := by
    refine ext_bt (by rw [size_nums, size_ext]; simp only [List.length_cons, List.length_nil]; omega) fun q hq => ?_
    rw [size_nums] at hq
    simp only [List.length_cons, List.length_nil] at hq
    rw [bt_bytes _ (by simp), bt_ext _ _ _ _ (by omega), if_pos (by omega)]
    have : q = 0 ∨ q = 1 := by omega
    rcases this with rfl | rfl
    · exact hb.symm
    · exact c.symm
  rw [e0, ← al, e, cut_join b 0 2 b.size (by omega) (by omega) (by omega), cut_all _ _ (Nat.le_refl _)]

/-- A destination that may be. -/
def okD (d : S46) : Prop := d.f0.size = 4 ∧ 0 ≤ d.f1 ∧ d.f1 < 4294967296
theorem drop_rdD {l : List S46} {i : Nat} (h : i < l.length) : l.drop i = rd_T46 l (i : Int) :: l.drop (i + 1) := by
  unfold rd_T46
  rw [Int.toNat_natCast, List.drop_eq_getElem_cons h, List.getD_eq_getElem?_getD, List.getElem?_eq_getElem h]; rfl
theorem rd_memD {l : List S46} {i : Nat} (h : i < l.length) : rd_T46 l (i : Int) ∈ l :=
  List.mem_of_mem_drop (i := i) (by rw [drop_rdD h]; simp)
/-- The bytes of destinations. -/
def allD : List S46 → ByteArray
  | [] => (⟨#[]⟩ : ByteArray)
  | d :: l => d.f0 ++ w4 d.f1 ++ allD l
theorem size_allD (l : List S46) (ok : ∀ d ∈ l, okD d) : (allD l).size = 8 * l.length := by
  induction l with
  | nil => rfl
  | cons d l ih =>
    have h := ok d (by simp)
    have := ih fun x hx => ok x (by simp [hx])
    rw [allD, size_app, size_app, size_w4, h.1, this, List.length_cons]; omega
def ReOk (fl : Int) (dl : List S46) (l : List S48) : Prop := (fl = 0 ∨ fl = 1) ∧ 1 ≤ dl.length ∧ dl.length ≤ 255 ∧ (∀ d ∈ dl, okD d) ∧ ∀ x ∈ l, okR 0 255 x
def reBytes (fl : Int) (dl : List S46) (l : List S48) : ByteArray := strOfNums [3, fl * 128, 0, (dl.length : Int)] ++ allD dl ++ allS l
theorem size_re (fl : Int) (dl : List S46) (l : List S48) (ok : ReOk fl dl l) : (reBytes fl dl l).size = 4 + 8 * dl.length + bytesS l := by
  unfold reBytes
  rw [size_app, size_app, size_nums, size_allD dl ok.2.2.2.1, size_all]; rfl
theorem re_cons {x : S46} {l : List S46} : (∀ y ∈ x :: l, okD y) ↔ okD x ∧ ∀ y ∈ l, okD y := by simp

theorem bareq5 (a1 : Int) (a2 : Int) (a3 : ByteArray) (a4 : Int) (a5 : Int) (a6 : ByteArray) (a7 : Int) (a8 : Int) (a9 : ByteArray) (a10 : Int) (a11 : ByteArray) (a12 : Int) (a13 : Int) (a14 : Int) (a15 : Int) (a16 : Int) (a17 : Int) (a18 : Int) (a19 : ByteArray) (a20 : ByteArray) (a21 : List S46) (a22 : Int) (a23 : ByteArray) (a24 : List S48) : msg_Bare.b 5 a1 a2 a3 a4 a5 a6 a7 a8 a9 a10 a11 a12 a13 a14 a15 a16 a17 a18 a19 a20 a21 a22 a23 a24 = true ↔ (a1 = 0 ∧ a2 = 0 ∧ a3 = (⟨#[]⟩ : ByteArray) ∧ a4 = 0 ∧ a5 = 0 ∧ a6 = (⟨#[]⟩ : ByteArray) ∧ a7 = 0 ∧ a8 = 0 ∧ a9 = (⟨#[]⟩ : ByteArray) ∧ a10 = 0 ∧ a11 = (⟨#[]⟩ : ByteArray) ∧ a12 = 0 ∧ a13 = 0 ∧ a14 = 0 ∧ a16 = 0 ∧ a17 = 0 ∧ a18 = 0 ∧ a19 = (⟨#[]⟩ : ByteArray) ∧ a20 = (⟨#[]⟩ : ByteArray) ∧ a22 = 0 ∧ a23 = (⟨#[]⟩ : ByteArray)) := by
  rw [msg_Bare.b5]
  unfold msg_Bare.z
  simp only [Bool.and_eq_true, beq_iff_eq, beq_self_eq_true, toList_inj, true_and, and_true, Int.natCast_eq_zero, List.length_eq_zero_iff]
  constructor
  · intro h
    simp only [h, and_self]
  · intro h
    simp only [h, and_self]

theorem rerr_right_l (a0 : Int) (a1 : Int) (a2 : Int) (a3 : ByteArray) (a4 : Int) (a5 : Int) (a6 : ByteArray) (a7 : Int) (a8 : Int) (a9 : ByteArray) (a10 : Int) (a11 : ByteArray) (a12 : Int) (a13 : Int) (a14 : Int) (a15 : Int) (a16 : Int) (a17 : Int) (a18 : Int) (a19 : ByteArray) (a20 : ByteArray) (a21 : List S46) (a22 : Int) (a23 : ByteArray) (a24 : List S48) (hD : ∀ x ∈ a21, -9223372036854775808 ≤ x.f1 ∧ x.f1 ≤ 9223372036854775807) (hl : a24.length ≤ 1000000) (hn : a21.length ≤ 1000) (m : Nat) : ∀ (k i : Nat), m + a24.length + 1 < k → a21.length - i = m → i ≤ a21.length →
    ∃ r, rerr_Right.l0 k a21 (a21.length : Int) i a0 a1 a2 a3 a4 a5 a6 a7 a8 a9 a10 a11 a12 a13 a14 a15 a16 a17 a18 a19 a20 a21 a22 a23 a24 = some r ∧ (r = true ↔ (∀ x ∈ a21.drop i, okD x) ∧ ∀ x ∈ a24, okR 0 255 x) := by
  induction m with
  | zero =>
    intro k i hk hm hi
    obtain ⟨k, rfl⟩ : ∃ j, k = j + 1 := ⟨k - 1, by omega⟩
    rw [rerr_Right.l0]
    rw [if_neg (by omega), right_f a24 hl k (by omega), Option.bind_some, List.drop_eq_nil_of_le (by omega)]
    exact ⟨_, rfl, by rw [decide_eq_true_eq]; exact ⟨fun h => ⟨fun x hx => (by cases hx), h⟩, fun h => h.2⟩⟩
  | succ m ih =>
    intro k i hk hm hi
    obtain ⟨k, rfl⟩ : ∃ j, k = j + 1 := ⟨k - 1, by omega⟩
    have hx := hD _ (rd_memD (i := i) (by omega))
    have := ih k (i + 1) (by omega) (by omega) (by omega)
    rw [rerr_Right.l0]
    rw [if_pos (by omega), if_pos (by omega), if_pos (by omega), drop_rdD (i := i) (by omega), re_cons, wrap64_id (x := (i : Int) + 1) (by omega) (by omega)]
    rw [show ((i : Int) + 1) = ((i + 1 : Nat) : Int) by omega]
    generalize rd_T46 a21 (i : Int) = x at hx
    by_cases c1 : (x.f0.size : Int) = 4
    · rw [if_pos c1, octet_Fits_f x.f1 4 hx.1 hx.2, Option.bind_some]
      by_cases c2 : octFits x.f1 4 = true
      · obtain ⟨r, e, hr⟩ := this
        rw [if_pos c2, e]
        have f := (fits4 x.f1).mp c2
        exact ⟨r, rfl, hr.trans ⟨fun h => ⟨⟨⟨by omega, f⟩, h.1⟩, h.2⟩, fun h => ⟨h.1.2, h.2⟩⟩⟩
      · rw [if_neg c2]; exact ⟨false, rfl, ⟨fun h => (by cases h), fun h => absurd ((fits4 x.f1).mpr h.1.1.2) c2⟩⟩
    · rw [if_neg c1]; exact ⟨false, rfl, ⟨fun h => (by cases h), fun h => by have := h.1.1.1; omega⟩⟩
theorem rerr_right_f (a0 : Int) (a1 : Int) (a2 : Int) (a3 : ByteArray) (a4 : Int) (a5 : Int) (a6 : ByteArray) (a7 : Int) (a8 : Int) (a9 : ByteArray) (a10 : Int) (a11 : ByteArray) (a12 : Int) (a13 : Int) (a14 : Int) (a15 : Int) (a16 : Int) (a17 : Int) (a18 : Int) (a19 : ByteArray) (a20 : ByteArray) (a21 : List S46) (a22 : Int) (a23 : ByteArray) (a24 : List S48) (hD : ∀ x ∈ a21, -9223372036854775808 ≤ x.f1 ∧ x.f1 ≤ 9223372036854775807) (hl : a24.length ≤ 1000000) (hn : a21.length ≤ 1000) (k : Nat) (hk : a21.length + a24.length + 3 < k) :
    ∃ r, rerr_Right.f k a0 a1 a2 a3 a4 a5 a6 a7 a8 a9 a10 a11 a12 a13 a14 a15 a16 a17 a18 a19 a20 a21 a22 a23 a24 = some r ∧ (r = true ↔ a0 = 5 ∧ msg_Bare.b a0 a1 a2 a3 a4 a5 a6 a7 a8 a9 a10 a11 a12 a13 a14 a15 a16 a17 a18 a19 a20 a21 a22 a23 a24 = true ∧ ReOk a15 a21 a24) := by
  obtain ⟨k, rfl⟩ : ∃ j, k = j + 1 := ⟨k - 1, by omega⟩
  have no : rerr_Right.j0 (k + 1) true a0 a1 a2 a3 a4 a5 a6 a7 a8 a9 a10 a11 a12 a13 a14 a15 a16 a17 a18 a19 a20 a21 a22 a23 a24 = some false := by simp only [rerr_Right.j0, if_true]
  have go : ∃ r, rerr_Right.j0 (k + 1) false a0 a1 a2 a3 a4 a5 a6 a7 a8 a9 a10 a11 a12 a13 a14 a15 a16 a17 a18 a19 a20 a21 a22 a23 a24 = some r ∧ (r = true ↔ (∀ x ∈ a21, okD x) ∧ ∀ x ∈ a24, okR 0 255 x) := by
    simp only [rerr_Right.j0, Bool.false_eq_true, if_false]
    have := rerr_right_l a0 a1 a2 a3 a4 a5 a6 a7 a8 a9 a10 a11 a12 a13 a14 a15 a16 a17 a18 a19 a20 a21 a22 a23 a24 hD hl hn a21.length k 0 (by omega) (by omega) (by omega)
    rw [List.drop_zero] at this
    exact this
  have mid : ∃ r, (if (a21.length : Int) = 0 then rerr_Right.j0 (k + 1) true a0 a1 a2 a3 a4 a5 a6 a7 a8 a9 a10 a11 a12 a13 a14 a15 a16 a17 a18 a19 a20 a21 a22 a23 a24 else rerr_Right.j0 (k + 1) (decide ((a21.length : Int) > 255)) a0 a1 a2 a3 a4 a5 a6 a7 a8 a9 a10 a11 a12 a13 a14 a15 a16 a17 a18 a19 a20 a21 a22 a23 a24) = some r ∧ (r = true ↔ 1 ≤ a21.length ∧ a21.length ≤ 255 ∧ (∀ x ∈ a21, okD x) ∧ ∀ x ∈ a24, okR 0 255 x) := by
    by_cases c3 : (a21.length : Int) = 0
    · rw [if_pos c3, no]; exact ⟨false, rfl, ⟨fun h => (by cases h), fun h => by omega⟩⟩
    rw [if_neg c3]
    by_cases c4 : (a21.length : Int) > 255
    · rw [decide_eq_true c4, no]; exact ⟨false, rfl, ⟨fun h => (by cases h), fun h => by omega⟩⟩
    rw [decide_eq_false c4]
    obtain ⟨r, e, hr⟩ := go
    exact ⟨r, e, hr.trans ⟨fun h => ⟨by omega, by omega, h⟩, fun h => h.2.2⟩⟩
  unfold rerr_Right.f ReOk msg_Bare.f
  rw [Option.bind_some]
  obtain ⟨r, e, hr⟩ := mid
  rw [e, no]
  by_cases c0 : a0 = 5
  · rw [if_pos c0]
    by_cases c1 : msg_Bare.b a0 a1 a2 a3 a4 a5 a6 a7 a8 a9 a10 a11 a12 a13 a14 a15 a16 a17 a18 a19 a20 a21 a22 a23 a24 = true
    · rw [if_pos c1]
      by_cases c2 : a15 = 0
      · rw [if_pos c2]; exact ⟨r, rfl, hr.trans ⟨fun h => ⟨c0, c1, .inl c2, h⟩, fun h => h.2.2.2⟩⟩
      rw [if_neg c2]
      by_cases c3 : a15 = 1
      · rw [if_pos c3]; exact ⟨r, rfl, hr.trans ⟨fun h => ⟨c0, c1, .inr c3, h⟩, fun h => h.2.2.2⟩⟩
      rw [if_neg c3]; exact ⟨false, rfl, ⟨fun h => (by cases h), fun h => by have := h.2.2.1; omega⟩⟩
    · rw [if_neg c1]; exact ⟨false, rfl, ⟨fun h => (by cases h), fun h => absurd h.2.1 c1⟩⟩
  · rw [if_neg c0]; exact ⟨false, rfl, ⟨fun h => (by cases h), fun h => absurd h.1 c0⟩⟩
theorem rerr_put_l (a0 : Int) (a1 : Int) (a2 : Int) (a3 : ByteArray) (a4 : Int) (a5 : Int) (a6 : ByteArray) (a7 : Int) (a8 : Int) (a9 : ByteArray) (a10 : Int) (a11 : ByteArray) (a12 : Int) (a13 : Int) (a14 : Int) (a15 : Int) (a16 : Int) (a17 : Int) (a18 : Int) (a19 : ByteArray) (a20 : ByteArray) (a21 : List S46) (a22 : Int) (a23 : ByteArray) (a24 : List S48) (hl : a24.length ≤ 1000000) (hn : a21.length ≤ 1000) (okd : ∀ x ∈ a21, okD x) (oks : ∀ x ∈ a24, okR 0 255 x) (m : Nat) : ∀ (k i : Nat) (acc : List Int), m + a24.length + 10 < k → a21.length - i = m → i ≤ a21.length → acc.length = 4 + 8 * i →
    rerr_Put.l0 k acc a21 (a21.length : Int) i a0 a1 a2 a3 a4 a5 a6 a7 a8 a9 a10 a11 a12 a13 a14 a15 a16 a17 a18 a19 a20 a21 a22 a23 a24 = some (strOfNums acc ++ allD (a21.drop i) ++ allS a24, true) := by
  have hb := bytesS_le a24 255 (fun x hx => (oks x hx).2.2)
  have sz : (allS a24).size = bytesS a24 := size_all a24
  induction m with
  | zero =>
    intro k i acc hk hm hi ha
    obtain ⟨k, rfl⟩ : ∃ j, k = j + 1 := ⟨k - 1, by omega⟩
    simp only [rerr_Put.l0]
    rw [if_neg (by omega), put_f a24 hl k (by omega), if_pos oks, Option.bind_some, if_pos (by rw [size_nums]; dsimp only; omega), List.drop_eq_nil_of_le (by omega), allD, app_empty]
  | succ m ih =>
    intro k i acc hk hm hi ha
    obtain ⟨k, rfl⟩ : ∃ j, k = j + 1 := ⟨k - 1, by omega⟩
    have hx := okd _ (rd_memD (i := i) (by omega))
    simp only [rerr_Put.l0]
    rw [if_pos (by omega), if_pos (by omega), if_pos (by omega), drop_rdD (i := i) (by omega), wrap64_id (x := (i : Int) + 1) (by omega) (by omega)]
    generalize rd_T46 a21 (i : Int) = x at hx
    obtain ⟨x0, x1⟩ := hx
    have s4 := size_w4 x.f1
    rw [octet_Put_f x.f1 4 (by omega) (by omega) k (by omega), Option.bind_some, put4 x.f1 x1.1 x1.2, if_pos (by omega), Option.bind_some, if_pos (by rw [List.length_append, len_bytesOf]; dsimp only; omega)]
    have := ih k (i + 1) (acc ++ bytesOf x.f0 ++ bytesOf (w4 x.f1)) (by omega) (by omega) (by omega) (by rw [List.length_append, List.length_append, len_bytesOf, len_bytesOf]; omega)
    rw [show ((i : Int) + 1) = ((i + 1 : Nat) : Int) by omega, this, nums_app, nums_app, nums_bytes, nums_bytes, allD]
    simp only [ByteArray.append_assoc]
theorem rerr_put_f (a0 : Int) (a1 : Int) (a2 : Int) (a3 : ByteArray) (a4 : Int) (a5 : Int) (a6 : ByteArray) (a7 : Int) (a8 : Int) (a9 : ByteArray) (a10 : Int) (a11 : ByteArray) (a12 : Int) (a13 : Int) (a14 : Int) (a15 : Int) (a16 : Int) (a17 : Int) (a18 : Int) (a19 : ByteArray) (a20 : ByteArray) (a21 : List S46) (a22 : Int) (a23 : ByteArray) (a24 : List S48) (hD : ∀ x ∈ a21, -9223372036854775808 ≤ x.f1 ∧ x.f1 ≤ 9223372036854775807) (hl : a24.length ≤ 1000000) (hn : a21.length ≤ 1000) (k : Nat) (hk : a21.length + a24.length + 20 < k) :
    ∃ r, rerr_Right.f k a0 a1 a2 a3 a4 a5 a6 a7 a8 a9 a10 a11 a12 a13 a14 a15 a16 a17 a18 a19 a20 a21 a22 a23 a24 = some r ∧ (r = true ↔ a0 = 5 ∧ msg_Bare.b a0 a1 a2 a3 a4 a5 a6 a7 a8 a9 a10 a11 a12 a13 a14 a15 a16 a17 a18 a19 a20 a21 a22 a23 a24 = true ∧ ReOk a15 a21 a24) ∧ rerr_Put.f k a0 a1 a2 a3 a4 a5 a6 a7 a8 a9 a10 a11 a12 a13 a14 a15 a16 a17 a18 a19 a20 a21 a22 a23 a24 = some (if r = true then (reBytes a15 a21 a24, true) else ((⟨#[]⟩ : ByteArray), false)) := by
  obtain ⟨r, e, hr⟩ := rerr_right_f a0 a1 a2 a3 a4 a5 a6 a7 a8 a9 a10 a11 a12 a13 a14 a15 a16 a17 a18 a19 a20 a21 a22 a23 a24 hD hl hn k (by omega)
  refine ⟨r, e, hr, ?_⟩
  unfold rerr_Put.f
  rw [e, Option.bind_some]
  by_cases c : r = true
  · obtain ⟨_, _, r15, n1, n2, okd, oks⟩ := hr.mp c
    rw [if_pos c, if_pos c, wrap64_id (by omega) (by omega), Int.emod_eq_of_lt (by omega) (by omega), Int.emod_eq_of_lt (a := (a21.length : Int)) (by omega) (by omega)]
    have := rerr_put_l a0 a1 a2 a3 a4 a5 a6 a7 a8 a9 a10 a11 a12 a13 a14 a15 a16 a17 a18 a19 a20 a21 a22 a23 a24 hl hn okd oks a21.length k 0 [3, a15 * 128, 0, (a21.length : Int)] (by omega) (by omega) (by omega) rfl
    rw [List.drop_zero] at this
    exact this
  · rw [if_neg c, if_neg c]

theorem and127_u8 : ∀ x : Fin 256, Go.bits .and .u8 ((x.val : Nat) : Int) 127 = ((x.val % 128 : Nat) : Int) := by decide +kernel
theorem or127_u8 : ∀ x : Fin 128, ∀ y : Fin 256, (Go.bits .or .u8 ((x.val : Nat) : Int) ((y.val : Nat) : Int) = 0) ↔ (x.val = 0 ∧ y.val = 0) := by decide +kernel
theorem low_zero7 (x y : Int) (hx : 0 ≤ x ∧ x ≤ 255) (hy : 0 ≤ y ∧ y ≤ 255) : Go.bits .or .u8 (Go.bits .and .u8 x 127) y = 0 ↔ (x % 128 = 0 ∧ y = 0) := by
  have h1 := and127_u8 ⟨x.toNat, by omega⟩
  have h2 := or127_u8 ⟨x.toNat % 128, by omega⟩ ⟨y.toNat, by omega⟩
  dsimp only at h1 h2
  rw [show ((x.toNat : Nat) : Int) = x by omega] at h1
  rw [show ((y.toNat : Nat) : Int) = y by omega] at h2
  rw [h1, h2]
  omega

/-- So many destinations that stand from a place on. -/
def dlist (b : ByteArray) (p : Nat) : Nat → List S46
  | 0 => []
  | m + 1 => ⟨b.extract p (p + 4), num (bytesOf (b.extract (p + 4) (p + 8)))⟩ :: dlist b (p + 8) m
theorem len_dlist (b : ByteArray) (m : Nat) : ∀ p, (dlist b p m).length = m := by
  induction m with
  | zero => intro p; rfl
  | succ m ih => intro p; rw [dlist, List.length_cons, ih]

def reRes (b : ByteArray) (l : List S48) (e : Nat) : MsgT :=
  if b.size < 4 then noMsg b.size 2
  else if bt b 1 % 128 = 0 ∧ bt b 2 = 0 then
    if bt b 3 = 0 then noMsg 3 8
    else if b.size < 4 + 8 * (bt b 3).toNat then noMsg b.size 2
    else if e = (b.extract (4 + 8 * (bt b 3).toNat) b.size).size then (5, 0, 0, (⟨#[]⟩ : ByteArray), 0, 0, (⟨#[]⟩ : ByteArray), 0, 0, (⟨#[]⟩ : ByteArray), 0, (⟨#[]⟩ : ByteArray), 0, 0, 0, (bt b 1 / 128), 0, 0, 0, (⟨#[]⟩ : ByteArray), (⟨#[]⟩ : ByteArray), (dlist b 4 (bt b 3).toNat), 0, (⟨#[]⟩ : ByteArray), l, 0, 0)
    else noMsg (((4 + 8 * (bt b 3).toNat : Nat) : Int) + (e : Int)) 2
  else noMsg 1 5
theorem text_bad (b : ByteArray) (hs : b.size ≤ 1000000) (a : Nat) (h : a ≤ b.size) (n : Int) : cursor_Text.f b (a : Int) b.size true n = some ((⟨#[]⟩ : ByteArray), b, (a : Int), (b.size : Int), true) := by
  rw [text_f b a b.size true n (by omega) (by omega) (by omega) hs, if_neg (fun h => by have := (has_iff.mp h).1; cases this)]
theorem num_bad (b : ByteArray) (hs : b.size ≤ 1000000) (a : Nat) (h : a ≤ b.size) (n : Int) : cursor_Num.f b (a : Int) b.size true n = some (0, b, (a : Int), (b.size : Int), true) := by
  rw [num_f b a b.size true n (by omega) (by omega) (by omega) hs, if_neg (fun h => by have := (has_iff.mp h.2.2).1; cases this)]
theorem text_short (b : ByteArray) (hs : b.size ≤ 1000000) (a n : Nat) (h : a ≤ b.size) (hn : b.size < a + n) : cursor_Text.f b (a : Int) b.size false (n : Int) = some ((⟨#[]⟩ : ByteArray), b, (a : Int), (b.size : Int), true) := by
  rw [text_f b a b.size false n (by omega) (by omega) (by omega) hs, if_neg (fun h => by have := (has_iff.mp h).2; omega)]
theorem num_short (b : ByteArray) (hs : b.size ≤ 1000000) (a n : Nat) (h : a ≤ b.size) (hn : b.size < a + n) : cursor_Num.f b (a : Int) b.size false (n : Int) = some (0, b, (a : Int), (b.size : Int), true) := by
  rw [num_f b a b.size false n (by omega) (by omega) (by omega) hs, if_neg (fun h => by have := (has_iff.mp h.2.2).2; omega)]
theorem rerr_bad (b : ByteArray) (hs : b.size ≤ 1000000) (n : Nat) (hn : n ≤ 1000) (fl : Int) (a : Nat) (ha : a ≤ b.size) (m : Nat) : ∀ (k i : Nat) (acc : List S46), m < k → n - i = m → i ≤ n → acc.length = i →
    rerr_Get.l0 k b n i 5 0 0 (⟨#[]⟩ : ByteArray) 0 0 (⟨#[]⟩ : ByteArray) 0 0 (⟨#[]⟩ : ByteArray) 0 (⟨#[]⟩ : ByteArray) 0 0 0 fl 0 0 0 (⟨#[]⟩ : ByteArray) (⟨#[]⟩ : ByteArray) acc 0 (⟨#[]⟩ : ByteArray) b (a : Int) b.size true = some (noMsg b.size 2) := by
  induction m with
  | zero =>
    intro k i acc hk hm hi hc
    obtain ⟨k, rfl⟩ : ∃ j, k = j + 1 := ⟨k - 1, by omega⟩
    rw [rerr_Get.l0]
    rw [if_neg (by omega), if_pos rfl]
    rfl
  | succ m ih =>
    intro k i acc hk hm hi hc
    obtain ⟨k, rfl⟩ : ∃ j, k = j + 1 := ⟨k - 1, by omega⟩
    rw [rerr_Get.l0]
    rw [if_pos (by omega), text_bad b hs a ha, Option.bind_some]
    dsimp only
    rw [num_bad b hs a ha, Option.bind_some]
    dsimp only
    rw [if_pos (by omega), wrap64_id (x := (i : Int) + 1) (by omega) (by omega), show ((i : Int) + 1) = ((i + 1 : Nat) : Int) by omega]
    exact ih k (i + 1) _ (by omega) (by omega) (by omega) (by rw [List.length_append]; simp; omega)
theorem rerr_good (b : ByteArray) (hs : b.size ≤ 1000000) (n : Nat) (hn : n ≤ 1000) (fl : Int) (l : List S48) (e q : Nat) (r : Runs (b.extract q b.size) 0 l e) (he : e = (b.extract q b.size).size ∨ Stuck (b.extract q b.size) e) (m : Nat) : ∀ (k i p : Nat) (acc : List S46), m + l.length + 1 < k → n - i = m → i ≤ n → acc.length = i → p ≤ b.size → q = p + 8 * m →
    rerr_Get.l0 k b n i 5 0 0 (⟨#[]⟩ : ByteArray) 0 0 (⟨#[]⟩ : ByteArray) 0 0 (⟨#[]⟩ : ByteArray) 0 (⟨#[]⟩ : ByteArray) 0 0 0 fl 0 0 0 (⟨#[]⟩ : ByteArray) (⟨#[]⟩ : ByteArray) acc 0 (⟨#[]⟩ : ByteArray) b (p : Int) b.size false = some (if b.size < q then noMsg b.size 2 else if e = (b.extract q b.size).size then (5, 0, 0, (⟨#[]⟩ : ByteArray), 0, 0, (⟨#[]⟩ : ByteArray), 0, 0, (⟨#[]⟩ : ByteArray), 0, (⟨#[]⟩ : ByteArray), 0, 0, 0, fl, 0, 0, 0, (⟨#[]⟩ : ByteArray), (⟨#[]⟩ : ByteArray), acc ++ dlist b p m, 0, (⟨#[]⟩ : ByteArray), l, 0, 0) else noMsg ((q : Int) + (e : Int)) 2) := by
  have z : (b.extract q b.size).size = b.size - q := by rw [size_ext]; omega
  have hle := (runs_le r).2 (by omega)
  induction m with
  | zero =>
    intro k i p acc hk hm hi hc hp hq
    obtain ⟨k, rfl⟩ : ∃ j, k = j + 1 := ⟨k - 1, by omega⟩
    have : p = q := by omega
    subst this
    rw [rerr_Get.l0]
    rw [if_neg (by omega), if_neg (by decide), if_pos (by omega), if_pos (by omega), show ((p : Int)).toNat = p by omega, get_f (by omega) r he k (by omega), Option.bind_some, if_neg (show ¬ b.size < p by omega)]
    by_cases c : e = (b.extract p b.size).size
    · rw [if_pos c, if_pos c]
      dsimp only
      rw [if_pos rfl, dlist, List.append_nil]
    · rw [if_neg c, if_neg c]
      dsimp only
      rw [if_neg (by decide), wrap64_id (by omega) (by omega)]
      rfl
  | succ m ih =>
    intro k i p acc hk hm hi hc hp hq
    obtain ⟨k, rfl⟩ : ∃ j, k = j + 1 := ⟨k - 1, by omega⟩
    rw [rerr_Get.l0]
    rw [if_pos (by omega)]
    by_cases c4 : p + 4 ≤ b.size
    · have t1 : cursor_Text.f b p b.size false 4 = some (b.extract p (p + 4), b, ((p + 4 : Nat) : Int), (b.size : Int), false) := text_at b hs p 4 c4
      rw [t1, Option.bind_some]
      dsimp only
      by_cases c8 : p + 8 ≤ b.size
      · have n1 : cursor_Num.f b ((p + 4 : Nat) : Int) b.size false 4 = some (num (bytesOf (b.extract (p + 4) (p + 8))), b, ((p + 8 : Nat) : Int), (b.size : Int), false) := num_at b hs (p + 4) 4 (by omega) (by omega) (by omega)
        rw [n1, Option.bind_some]
        dsimp only
        rw [if_pos (by omega), wrap64_id (x := (i : Int) + 1) (by omega) (by omega), show ((i : Int) + 1) = ((i + 1 : Nat) : Int) by omega]
        have := ih k (i + 1) (p + 8) (acc ++ [⟨b.extract p (p + 4), num (bytesOf (b.extract (p + 4) (p + 8)))⟩]) (by omega) (by omega) (by omega) (by rw [List.length_append]; simp; omega) c8 (by omega)
        rw [this, dlist, List.append_assoc]
        rfl
      · have n1 : cursor_Num.f b ((p + 4 : Nat) : Int) b.size false 4 = some (0, b, ((p + 4 : Nat) : Int), (b.size : Int), true) := num_short b hs (p + 4) 4 (by omega) (by omega)
        rw [n1, Option.bind_some]
        dsimp only
        rw [if_pos (by omega), wrap64_id (x := (i : Int) + 1) (by omega) (by omega), show ((i : Int) + 1) = ((i + 1 : Nat) : Int) by omega, if_pos (by omega)]
        exact rerr_bad b hs n hn fl (p + 4) c4 m k (i + 1) _ (by omega) (by omega) (by omega) (by rw [List.length_append]; simp; omega)
    · have t1 : cursor_Text.f b p b.size false 4 = some ((⟨#[]⟩ : ByteArray), b, (p : Int), (b.size : Int), true) := text_short b hs p 4 hp (by omega)
      rw [t1, Option.bind_some]
      dsimp only
      rw [num_bad b hs p hp, Option.bind_some]
      dsimp only
      rw [if_pos (by omega), wrap64_id (x := (i : Int) + 1) (by omega) (by omega), show ((i : Int) + 1) = ((i + 1 : Nat) : Int) by omega, if_pos (by omega)]
      exact rerr_bad b hs n hn fl p hp m k (i + 1) _ (by omega) (by omega) (by omega) (by rw [List.length_append]; simp; omega)
theorem rerr_get_f (b : ByteArray) (hs : b.size ≤ 1000000) (l : List S48) (e : Nat) (r : Runs (b.extract (4 + 8 * (bt b 3).toNat) b.size) 0 l e) (he : e = (b.extract (4 + 8 * (bt b 3).toNat) b.size).size ∨ Stuck (b.extract (4 + 8 * (bt b 3).toNat) b.size) e) (k : Nat) (hk : 255 + l.length + 2 < k) : rerr_Get.f k b = some (reRes b l e) := by
  unfold rerr_Get.f reRes
  by_cases c1 : b.size < 4
  · rw [if_pos (by omega), if_pos c1]; rfl
  rw [if_neg (by omega), if_pos (by omega), if_pos (by omega), if_neg c1]
  have r1 := bt_range b 1
  have r2 := bt_range b 2
  have r3 := bt_range b 3
  have hz := low_zero7 (bt b 1) (bt b 2) r1 r2
  by_cases c2 : bt b 1 % 128 = 0 ∧ bt b 2 = 0
  · rw [if_pos (hz.mpr c2), if_pos c2, if_pos (by omega)]
    by_cases c3 : bt b 3 = 0
    · rw [if_pos c3, if_pos c3]; rfl
    rw [if_neg c3, if_neg c3]
    have t1 : cursor_Text.f b 0 b.size false 4 = some (b.extract 0 4, b, 4, (b.size : Int), false) := text_at b hs 0 4 (by omega)
    unfold cursor_New.f
    rw [Option.bind_some]
    dsimp only
    rw [t1, Option.bind_some]
    dsimp only
    rw [wrap64_id (x := bt b 3) (by omega) (by omega), wrap64_id (x := bt b 1 / 128) (by omega) (by omega)]
    have := rerr_good b hs (bt b 3).toNat (by omega) (bt b 1 / 128) l e _ r he (bt b 3).toNat k 0 4 [] (by omega) (by omega) (by omega) rfl (by omega) rfl
    rw [show (((bt b 3).toNat : Nat) : Int) = bt b 3 by omega, List.nil_append] at this
    exact this
  · rw [if_neg (fun h => c2 (hz.mp h)), if_neg c2]; rfl

theorem dlist_all (dl : List S46) : ∀ (pre post : ByteArray), (∀ d ∈ dl, okD d) → dlist (pre ++ (allD dl ++ post)) pre.size dl.length = dl := by
  induction dl with
  | nil => intro pre post _; rfl
  | cons d dl ih =>
    intro pre post ok
    obtain ⟨h4, h0, h1⟩ := ok d (by simp)
    have s4 := size_w4 d.f1
    have i := ih (pre ++ (d.f0 ++ w4 d.f1)) post (fun x hx => ok x (by simp [hx]))
    have e0 : pre ++ (allD (d :: dl) ++ post) = pre ++ (d.f0 ++ w4 d.f1) ++ (allD dl ++ post) := by rw [allD]; simp only [ByteArray.append_assoc]
    have e1 : (pre ++ (allD (d :: dl) ++ post)).extract pre.size (pre.size + 4) = d.f0 := by
      rw [show pre ++ (allD (d :: dl) ++ post) = pre ++ (d.f0 ++ (w4 d.f1 ++ (allD dl ++ post))) by rw [allD]; simp only [ByteArray.append_assoc]]
      exact cut_at _ _ _ _ _ rfl (by omega)
    have e2 : (pre ++ (allD (d :: dl) ++ post)).extract (pre.size + 4) (pre.size + 8) = w4 d.f1 := by
      rw [show pre ++ (allD (d :: dl) ++ post) = (pre ++ d.f0) ++ (w4 d.f1 ++ (allD dl ++ post)) by rw [allD]; simp only [ByteArray.append_assoc]]
      exact cut_at _ _ _ _ _ (by rw [size_app]; omega) (by omega)
    rw [List.length_cons, dlist, e1, e2, num_w4 _ h0 h1, e0, show pre.size + 8 = (pre ++ (d.f0 ++ w4 d.f1)).size by rw [size_app, size_app]; omega, i]
theorem dlist_bytes (b : ByteArray) (m : Nat) : ∀ p, p + 8 * m ≤ b.size → (∀ d ∈ dlist b p m, okD d) ∧ allD (dlist b p m) = b.extract p (p + 8 * m) := by
  induction m with
  | zero =>
    intro p h
    refine ⟨fun d hd => (by cases hd), ?_⟩
    rw [dlist, allD]
    refine ext_bt (by rw [size_ext]; show 0 = _; omega) fun i hi => ?_
    have z : (⟨#[]⟩ : ByteArray).size = 0 := rfl
    omega
  | succ m ih =>
    intro p h
    obtain ⟨ok, e⟩ := ih (p + 8) (by omega)
    have z1 : (b.extract p (p + 4)).size = 4 := by rw [size_ext]; omega
    have z2 : (b.extract (p + 4) (p + 8)).size = 4 := by rw [size_ext]; omega
    refine ⟨fun d hd => ?_, ?_⟩
    · rw [dlist] at hd
      rcases List.mem_cons.mp hd with rfl | hd
      · exact ⟨z1, num4_range _ z2⟩
      · exact ok d hd
    · rw [dlist, allD, e]
      dsimp only
      rw [w4_num _ z2, cut_join b p (p + 4) (p + 8) (by omega) (by omega) (by omega), cut_join b p (p + 8) _ (by omega) (by omega) (by omega), show p + 8 + 8 * m = p + 8 * (m + 1) by omega]
/-- An error's bytes are read as that error. -/
theorem re_get (fl : Int) (dl : List S46) (l : List S48) (hl : l.length ≤ 1000) (ok : ReOk fl dl l) (k : Nat) (hk : 255 + l.length + 2 < k) :
    rerr_Get.f k (reBytes fl dl l) = some (5, 0, 0, (⟨#[]⟩ : ByteArray), 0, 0, (⟨#[]⟩ : ByteArray), 0, 0, (⟨#[]⟩ : ByteArray), 0, (⟨#[]⟩ : ByteArray), 0, 0, 0, fl, 0, 0, 0, (⟨#[]⟩ : ByteArray), (⟨#[]⟩ : ByteArray), dl, 0, (⟨#[]⟩ : ByteArray), l, 0, 0) := by
  obtain ⟨r15, n1, n2, okd, oks⟩ := ok
  have sz := size_re fl dl l ⟨r15, n1, n2, okd, oks⟩
  have hb := bytesS_le l 255 (fun x hx => (oks x hx).2.2)
  have sa : (allS l).size = bytesS l := size_all l
  have sd := size_allD dl okd
  have hd : ∀ x ∈ [3, fl * 128, 0, (dl.length : Int)], 0 ≤ x ∧ x ≤ 255 := by simp; omega
  have e0 : (reBytes fl dl l) = strOfNums [3, fl * 128, 0, (dl.length : Int)] ++ (allD dl ++ allS l) := by unfold reBytes; simp only [ByteArray.append_assoc]
  have b1 : bt (reBytes fl dl l) 1 = fl * 128 := by rw [e0]; exact bt_head _ hd _ 1 (by simp)
  have b2 : bt (reBytes fl dl l) 2 = 0 := by rw [e0]; exact bt_head _ hd _ 2 (by simp)
  have b3 : bt (reBytes fl dl l) 3 = (dl.length : Int) := by rw [e0]; exact bt_head _ hd _ 3 (by simp)
  have s0 : (strOfNums [3, fl * 128, 0, (dl.length : Int)]).size = 4 := size_nums _
  have x1 : dlist (reBytes fl dl l) 4 dl.length = dl := by
    have := dlist_all dl (strOfNums [3, fl * 128, 0, (dl.length : Int)]) (allS l) okd
    rw [s0, ← e0] at this
    exact this
  have x6 : (reBytes fl dl l).extract (4 + 8 * (bt (reBytes fl dl l) 3).toNat) (reBytes fl dl l).size = allS l := by
    rw [sz, b3]
    unfold reBytes
    exact cut_end _ _ _ _ (by rw [size_app]; omega) (by omega)
  have r := all_runs l oks
  rw [← x6] at r
  rw [rerr_get_f (reBytes fl dl l) (by omega) l _ r (.inl rfl) k hk]
  unfold reRes
  rw [b1, b2, b3, if_neg (by omega), if_pos ⟨by omega, rfl⟩, if_neg (by omega), if_neg (by omega), show (((dl.length : Nat) : Int)).toNat = dl.length by omega, x1, show fl * 128 / 128 = fl by omega]
  rw [b3, show (((dl.length : Nat) : Int)).toNat = dl.length by omega] at x6
  rw [x6, if_pos rfl]
/-- Bytes that are read as an error are that error's. -/
theorem re_bytes (b : ByteArray) (hb : bt b 0 = 3) (c : bt b 1 % 128 = 0 ∧ bt b 2 = 0) (h3 : bt b 3 ≠ 0) (hs : 4 + 8 * (bt b 3).toNat ≤ b.size) (l : List S48) (r : Runs (b.extract (4 + 8 * (bt b 3).toNat) b.size) 0 l (b.extract (4 + 8 * (bt b 3).toNat) b.size).size) :
    ReOk (bt b 1 / 128) (dlist b 4 (bt b 3).toNat) l ∧ reBytes (bt b 1 / 128) (dlist b 4 (bt b 3).toNat) l = b := by
  have r1 := bt_range b 1
  have r3 := bt_range b 3
  obtain ⟨ok, al⟩ := runs_all r (Nat.zero_le _)
  rw [cut_all _ _ (Nat.le_refl _)] at al
  obtain ⟨okd, ad⟩ := dlist_bytes b (bt b 3).toNat 4 hs
  refine ⟨⟨by omega, by rw [len_dlist]; omega, by rw [len_dlist]; omega, okd, ok⟩, ?_⟩
  unfold reBytes
  rw [len_dlist, ad, ← al]
  have e : strOfNums [3, bt b 1 / 128 * 128, 0, (((bt b 3).toNat : Nat) : Int)] = b.extract 0 4 := by
    rw [← four_bytes b (by omega), hb, c.2, show bt b 1 / 128 * 128 = bt b 1 by omega, show (((bt b 3).toNat : Nat) : Int) = bt b 3 by omega]
  rw [e, cut_join b 0 4 _ (by omega) (by omega) (by omega), cut_join b 0 _ b.size (by omega) (by omega) (by omega), cut_all _ _ (Nat.le_refl _)]

theorem bareq4 (a1 : Int) (a2 : Int) (a3 : ByteArray) (a4 : Int) (a5 : Int) (a6 : ByteArray) (a7 : Int) (a8 : Int) (a9 : ByteArray) (a10 : Int) (a11 : ByteArray) (a12 : Int) (a13 : Int) (a14 : Int) (a15 : Int) (a16 : Int) (a17 : Int) (a18 : Int) (a19 : ByteArray) (a20 : ByteArray) (a21 : List S46) (a22 : Int) (a23 : ByteArray) (a24 : List S48) : msg_Bare.b 4 a1 a2 a3 a4 a5 a6 a7 a8 a9 a10 a11 a12 a13 a14 a15 a16 a17 a18 a19 a20 a21 a22 a23 a24 = true ↔ (a1 = 0 ∧ a2 = 0 ∧ a3 = (⟨#[]⟩ : ByteArray) ∧ a4 = 0 ∧ a5 = 0 ∧ a6 = (⟨#[]⟩ : ByteArray) ∧ a8 = 0 ∧ a9 = (⟨#[]⟩ : ByteArray) ∧ a10 = 0 ∧ a11 = (⟨#[]⟩ : ByteArray) ∧ a13 = 0 ∧ a17 = 0 ∧ a18 = 0 ∧ a21 = ([] : List S46) ∧ a22 = 0 ∧ a23 = (⟨#[]⟩ : ByteArray)) := by
  rw [msg_Bare.b4]
  unfold msg_Bare.z
  simp only [Bool.and_eq_true, beq_iff_eq, beq_self_eq_true, toList_inj, true_and, and_true, Int.natCast_eq_zero, List.length_eq_zero_iff]
  constructor
  · intro h
    simp only [h, and_self]
  · intro h
    simp only [h, and_self]

theorem bareq6 (a1 : Int) (a2 : Int) (a3 : ByteArray) (a4 : Int) (a5 : Int) (a6 : ByteArray) (a7 : Int) (a8 : Int) (a9 : ByteArray) (a10 : Int) (a11 : ByteArray) (a12 : Int) (a13 : Int) (a14 : Int) (a15 : Int) (a16 : Int) (a17 : Int) (a18 : Int) (a19 : ByteArray) (a20 : ByteArray) (a21 : List S46) (a22 : Int) (a23 : ByteArray) (a24 : List S48) : msg_Bare.b 6 a1 a2 a3 a4 a5 a6 a7 a8 a9 a10 a11 a12 a13 a14 a15 a16 a17 a18 a19 a20 a21 a22 a23 a24 = true ↔ (a1 = 0 ∧ a2 = 0 ∧ a3 = (⟨#[]⟩ : ByteArray) ∧ a4 = 0 ∧ a5 = 0 ∧ a6 = (⟨#[]⟩ : ByteArray) ∧ a7 = 0 ∧ a8 = 0 ∧ a9 = (⟨#[]⟩ : ByteArray) ∧ a10 = 0 ∧ a11 = (⟨#[]⟩ : ByteArray) ∧ a12 = 0 ∧ a13 = 0 ∧ a14 = 0 ∧ a15 = 0 ∧ a16 = 0 ∧ a17 = 0 ∧ a18 = 0 ∧ a19 = (⟨#[]⟩ : ByteArray) ∧ a20 = (⟨#[]⟩ : ByteArray) ∧ a21 = ([] : List S46) ∧ a22 = 0 ∧ a23 = (⟨#[]⟩ : ByteArray)) := by
  rw [msg_Bare.b6]
  unfold msg_Bare.z
  simp only [Bool.and_eq_true, beq_iff_eq, beq_self_eq_true, toList_inj, true_and, and_true, Int.natCast_eq_zero, List.length_eq_zero_iff]
  constructor
  · intro h
    simp only [h, and_self]
  · intro h
    simp only [h, and_self]

/-- The bounds of a message that the layer's functions are asked of. -/
def AC (x : S25) : Prop := (∀ d ∈ x.f21, -9223372036854775808 ≤ d.f1 ∧ d.f1 ≤ 9223372036854775807) ∧ (-9223372036854775808 ≤ x.f12 ∧ x.f12 ≤ 9223372036854775807) ∧ (-9223372036854775808 ≤ x.f13 ∧ x.f13 ≤ 9223372036854775807) ∧ (-9223372036854775808 ≤ x.f14 ∧ x.f14 ≤ 9223372036854775807) ∧ (-9223372036854775808 ≤ x.f16 ∧ x.f16 ≤ 9223372036854775807) ∧ (-9223372036854775808 ≤ x.f17 ∧ x.f17 ≤ 9223372036854775807) ∧ x.f21.length ≤ 300 ∧ x.f24.length ≤ 3000
/-- A message of this layer, and its bytes. -/
def Is (x : S25) (s : ByteArray) : Prop := ((x.f0 = 3 ∧ msg_Bare.b x.f0 x.f1 x.f2 x.f3 x.f4 x.f5 x.f6 x.f7 x.f8 x.f9 x.f10 x.f11 x.f12 x.f13 x.f14 x.f15 x.f16 x.f17 x.f18 x.f19 x.f20 x.f21 x.f22 x.f23 x.f24 = true ∧ RqOk x.f15 x.f16 x.f17 x.f12 x.f13 x.f19 x.f20 x.f24) ∧ s = rqBytes x.f15 x.f16 x.f17 x.f12 x.f13 x.f19 x.f20 x.f24) ∨ (RepOk x.f0 x.f1 x.f2 x.f3 x.f4 x.f5 x.f6 x.f7 x.f8 x.f9 x.f10 x.f11 x.f12 x.f13 x.f14 x.f15 x.f16 x.f17 x.f18 x.f19 x.f20 x.f21 x.f22 x.f23 x.f24 ∧ s = repBytes x.f0 x.f15 x.f7 x.f16 x.f12 x.f14 x.f19 x.f20 x.f24) ∨ ((x.f0 = 5 ∧ msg_Bare.b x.f0 x.f1 x.f2 x.f3 x.f4 x.f5 x.f6 x.f7 x.f8 x.f9 x.f10 x.f11 x.f12 x.f13 x.f14 x.f15 x.f16 x.f17 x.f18 x.f19 x.f20 x.f21 x.f22 x.f23 x.f24 = true ∧ ReOk x.f15 x.f21 x.f24) ∧ s = reBytes x.f15 x.f21 x.f24)
theorem aright_f (x : S25) (h : AC x) (k : Nat) (hk : 3400 < k) : ∃ r, aodv_Right.f k x.f0 x.f1 x.f2 x.f3 x.f4 x.f5 x.f6 x.f7 x.f8 x.f9 x.f10 x.f11 x.f12 x.f13 x.f14 x.f15 x.f16 x.f17 x.f18 x.f19 x.f20 x.f21 x.f22 x.f23 x.f24 = some r ∧ (r = true ↔ ∃ s, Is x s) := by
  have b1 := h.2.2.2.2.2.2.1
  have b2 := h.2.2.2.2.2.2.2
  obtain ⟨r1, e1, i1, _⟩ := rreq_put_f x.f0 x.f1 x.f2 x.f3 x.f4 x.f5 x.f6 x.f7 x.f8 x.f9 x.f10 x.f11 x.f12 x.f13 x.f14 x.f15 x.f16 x.f17 x.f18 x.f19 x.f20 x.f21 x.f22 x.f23 x.f24 (by omega) h.2.1 h.2.2.1 h.2.2.2.2.1 h.2.2.2.2.2.1 k (by omega)
  obtain ⟨r2, e2, i2, _⟩ := rrep_put_f x.f0 x.f1 x.f2 x.f3 x.f4 x.f5 x.f6 x.f7 x.f8 x.f9 x.f10 x.f11 x.f12 x.f13 x.f14 x.f15 x.f16 x.f17 x.f18 x.f19 x.f20 x.f21 x.f22 x.f23 x.f24 (by omega) h.2.1 h.2.2.2.1 h.2.2.2.2.1 k (by omega)
  obtain ⟨r3, e3, i3, _⟩ := rerr_put_f x.f0 x.f1 x.f2 x.f3 x.f4 x.f5 x.f6 x.f7 x.f8 x.f9 x.f10 x.f11 x.f12 x.f13 x.f14 x.f15 x.f16 x.f17 x.f18 x.f19 x.f20 x.f21 x.f22 x.f23 x.f24 h.1 (by omega) (by omega) k (by omega)
  unfold aodv_Right.f Is
  rw [e1, Option.bind_some]
  by_cases c1 : r1 = true
  · rw [if_pos c1]; exact ⟨true, rfl, fun _ => ⟨_, .inl ⟨i1.mp c1, rfl⟩⟩, fun _ => rfl⟩
  rw [if_neg c1, e2, Option.bind_some]
  by_cases c2 : r2 = true
  · rw [if_pos c2]; exact ⟨true, rfl, fun _ => ⟨_, .inr (.inl ⟨i2.mp c2, rfl⟩)⟩, fun _ => rfl⟩
  rw [if_neg c2, e3]
  refine ⟨r3, rfl, fun c => ⟨_, .inr (.inr ⟨i3.mp c, rfl⟩)⟩, fun ⟨s, q⟩ => ?_⟩
  rcases q with ⟨q, _⟩ | ⟨q, _⟩ | ⟨q, _⟩
  · exact absurd (i1.mpr q) c1
  · exact absurd (i2.mpr q) c2
  · exact i3.mpr q
theorem aenc_f (x : S25) (h : AC x) (s : ByteArray) (hi : Is x s) (hs : s.size ≤ 65535) (k : Nat) (hk : 3500 < k) : aodv_Encode.f k [x] = some (s, 0, 0) := by
  obtain ⟨k, rfl⟩ : ∃ j, k = j + 3 := ⟨k - 3, by omega⟩
  have e0 : rd_T25 [x] 0 = x := rfl
  have b1 := h.2.2.2.2.2.2.1
  have b2 := h.2.2.2.2.2.2.2
  obtain ⟨r, er, hr⟩ := aright_f x h (k + 2) (by omega)
  have rt : r = true := hr.mpr ⟨s, hi⟩
  subst rt
  unfold aodv_Encode.f
  rw [aodv_Encode.l0, if_pos (by simp), if_pos (by omega), if_pos (by simp), e0, er, Option.bind_some, if_pos rfl, show wrap64 (0 + 1) = 1 from wrap64_id (by decide) (by decide), aodv_Encode.l0, if_neg (by simp), if_neg (by simp), if_neg (by simp), if_pos (by simp), e0]
  obtain ⟨r1, e1, i1, p1⟩ := rreq_put_f x.f0 x.f1 x.f2 x.f3 x.f4 x.f5 x.f6 x.f7 x.f8 x.f9 x.f10 x.f11 x.f12 x.f13 x.f14 x.f15 x.f16 x.f17 x.f18 x.f19 x.f20 x.f21 x.f22 x.f23 x.f24 (by omega) h.2.1 h.2.2.1 h.2.2.2.2.1 h.2.2.2.2.2.1 (k + 1) (by omega)
  rcases hi with ⟨q, rfl⟩ | ⟨q, rfl⟩ | ⟨q, rfl⟩
  · rw [show rreq_Put.f (k + 1) x.f0 x.f1 x.f2 x.f3 x.f4 x.f5 x.f6 x.f7 x.f8 x.f9 x.f10 x.f11 x.f12 x.f13 x.f14 x.f15 x.f16 x.f17 x.f18 x.f19 x.f20 x.f21 x.f22 x.f23 x.f24 = some (rqBytes x.f15 x.f16 x.f17 x.f12 x.f13 x.f19 x.f20 x.f24, true) by rw [p1, if_pos (i1.mpr q)], Option.bind_some]
    dsimp only
    rw [if_pos rfl, aodv_Encode.j1, if_pos rfl, if_neg (by omega)]
  · have n1 : ¬ r1 = true := fun c => by
      have u := (i1.mp c).1
      rcases q.2.2 with v | v <;> omega
    obtain ⟨r2, e2, i2, p2⟩ := rrep_put_f x.f0 x.f1 x.f2 x.f3 x.f4 x.f5 x.f6 x.f7 x.f8 x.f9 x.f10 x.f11 x.f12 x.f13 x.f14 x.f15 x.f16 x.f17 x.f18 x.f19 x.f20 x.f21 x.f22 x.f23 x.f24 (by omega) h.2.1 h.2.2.2.1 h.2.2.2.2.1 (k + 1) (by omega)
    rw [show rreq_Put.f (k + 1) x.f0 x.f1 x.f2 x.f3 x.f4 x.f5 x.f6 x.f7 x.f8 x.f9 x.f10 x.f11 x.f12 x.f13 x.f14 x.f15 x.f16 x.f17 x.f18 x.f19 x.f20 x.f21 x.f22 x.f23 x.f24 = some ((⟨#[]⟩ : ByteArray), false) by rw [p1, if_neg n1], Option.bind_some, show rrep_Put.f (k + 1) x.f0 x.f1 x.f2 x.f3 x.f4 x.f5 x.f6 x.f7 x.f8 x.f9 x.f10 x.f11 x.f12 x.f13 x.f14 x.f15 x.f16 x.f17 x.f18 x.f19 x.f20 x.f21 x.f22 x.f23 x.f24 = some (repBytes x.f0 x.f15 x.f7 x.f16 x.f12 x.f14 x.f19 x.f20 x.f24, true) by rw [p2, if_pos (i2.mpr q)]]
    dsimp only
    rw [if_neg (by decide), Option.bind_some]
    dsimp only
    rw [aodv_Encode.j1, if_pos rfl, if_neg (by omega)]
  · have n1 : ¬ r1 = true := fun c => by
      have u := (i1.mp c).1
      omega
    obtain ⟨r2, e2, i2, p2⟩ := rrep_put_f x.f0 x.f1 x.f2 x.f3 x.f4 x.f5 x.f6 x.f7 x.f8 x.f9 x.f10 x.f11 x.f12 x.f13 x.f14 x.f15 x.f16 x.f17 x.f18 x.f19 x.f20 x.f21 x.f22 x.f23 x.f24 (by omega) h.2.1 h.2.2.2.1 h.2.2.2.2.1 (k + 1) (by omega)
    have n2 : ¬ r2 = true := fun c => by
      have u := (i2.mp c).2.2
      rcases u with v | v <;> omega
    obtain ⟨r3, e3, i3, p3⟩ := rerr_put_f x.f0 x.f1 x.f2 x.f3 x.f4 x.f5 x.f6 x.f7 x.f8 x.f9 x.f10 x.f11 x.f12 x.f13 x.f14 x.f15 x.f16 x.f17 x.f18 x.f19 x.f20 x.f21 x.f22 x.f23 x.f24 h.1 (by omega) (by omega) k (by omega)
    rw [show rreq_Put.f (k + 1) x.f0 x.f1 x.f2 x.f3 x.f4 x.f5 x.f6 x.f7 x.f8 x.f9 x.f10 x.f11 x.f12 x.f13 x.f14 x.f15 x.f16 x.f17 x.f18 x.f19 x.f20 x.f21 x.f22 x.f23 x.f24 = some ((⟨#[]⟩ : ByteArray), false) by rw [p1, if_neg n1], Option.bind_some, show rrep_Put.f (k + 1) x.f0 x.f1 x.f2 x.f3 x.f4 x.f5 x.f6 x.f7 x.f8 x.f9 x.f10 x.f11 x.f12 x.f13 x.f14 x.f15 x.f16 x.f17 x.f18 x.f19 x.f20 x.f21 x.f22 x.f23 x.f24 = some ((⟨#[]⟩ : ByteArray), false) by rw [p2, if_neg n2]]
    dsimp only
    rw [if_neg (by decide), Option.bind_some, aodv_Encode.j1, if_neg (by decide), if_pos (by simp), e0, show rerr_Put.f k x.f0 x.f1 x.f2 x.f3 x.f4 x.f5 x.f6 x.f7 x.f8 x.f9 x.f10 x.f11 x.f12 x.f13 x.f14 x.f15 x.f16 x.f17 x.f18 x.f19 x.f20 x.f21 x.f22 x.f23 x.f24 = some (reBytes x.f15 x.f21 x.f24, true) by rw [p3, if_pos (i3.mpr q)], Option.bind_some]
    dsimp only
    rw [if_neg (by omega)]
theorem aenc_no (x : S25) (h : AC x) (no : ¬ ∃ s, Is x s) (k : Nat) (hk : 3500 < k) : aodv_Encode.f k [x] = some ((⟨#[]⟩ : ByteArray), 0, 1) := by
  obtain ⟨k, rfl⟩ : ∃ j, k = j + 1 := ⟨k - 1, by omega⟩
  have e0 : rd_T25 [x] 0 = x := rfl
  obtain ⟨r, er, hr⟩ := aright_f x h k (by omega)
  have rt : ¬ r = true := fun c => no (hr.mp c)
  unfold aodv_Encode.f
  rw [aodv_Encode.l0, if_pos (by simp), if_pos (by omega), if_pos (by simp), e0, er, Option.bind_some, if_neg rt]
theorem pos_bt (b : ByteArray) (h : bt b 0 ≠ 0) : 0 < b.size := by
  unfold bt at h
  split at h
  · rename_i c; exact c
  · exact absurd rfl h
theorem aparse_of (b : ByteArray) (hs : b.size ≤ 65535) (c1 : ¬ bt b 0 < 1) (c2 : ¬ bt b 0 > 4) (R : MsgT) (k : Nat) (e : aodv_get.f k b = some R) : aodv_Parse.f (k + 1) b = some (if R.2.2.2.2.2.2.2.2.2.2.2.2.2.2.2.2.2.2.2.2.2.2.2.2.2.2 = 0 then ([(⟨R.1, R.2.1, R.2.2.1, R.2.2.2.1, R.2.2.2.2.1, R.2.2.2.2.2.1, R.2.2.2.2.2.2.1, R.2.2.2.2.2.2.2.1, R.2.2.2.2.2.2.2.2.1, R.2.2.2.2.2.2.2.2.2.1, R.2.2.2.2.2.2.2.2.2.2.1, R.2.2.2.2.2.2.2.2.2.2.2.1, R.2.2.2.2.2.2.2.2.2.2.2.2.1, R.2.2.2.2.2.2.2.2.2.2.2.2.2.1, R.2.2.2.2.2.2.2.2.2.2.2.2.2.2.1, R.2.2.2.2.2.2.2.2.2.2.2.2.2.2.2.1, R.2.2.2.2.2.2.2.2.2.2.2.2.2.2.2.2.1, R.2.2.2.2.2.2.2.2.2.2.2.2.2.2.2.2.2.1, R.2.2.2.2.2.2.2.2.2.2.2.2.2.2.2.2.2.2.1, R.2.2.2.2.2.2.2.2.2.2.2.2.2.2.2.2.2.2.2.1, R.2.2.2.2.2.2.2.2.2.2.2.2.2.2.2.2.2.2.2.2.1, R.2.2.2.2.2.2.2.2.2.2.2.2.2.2.2.2.2.2.2.2.2.1, R.2.2.2.2.2.2.2.2.2.2.2.2.2.2.2.2.2.2.2.2.2.2.1, R.2.2.2.2.2.2.2.2.2.2.2.2.2.2.2.2.2.2.2.2.2.2.2.1, R.2.2.2.2.2.2.2.2.2.2.2.2.2.2.2.2.2.2.2.2.2.2.2.2.1⟩ : S25)], 0, 0) else ([], R.2.2.2.2.2.2.2.2.2.2.2.2.2.2.2.2.2.2.2.2.2.2.2.2.2.1, R.2.2.2.2.2.2.2.2.2.2.2.2.2.2.2.2.2.2.2.2.2.2.2.2.2.2)) := by
  have hp := pos_bt b (by omega)
  unfold aodv_Parse.f
  rw [if_neg (by omega), if_neg (by omega), if_pos (by omega), if_neg c1, decide_eq_false c2]
  simp only [aodv_Parse.j0, Bool.false_eq_true, if_false]
  rw [e, Option.bind_some]
  by_cases c3 : R.2.2.2.2.2.2.2.2.2.2.2.2.2.2.2.2.2.2.2.2.2.2.2.2.2.2 = 0
  · rw [if_pos c3, if_pos c3]
  · rw [if_neg c3, if_neg c3]
theorem aget_1 (b : ByteArray) (c : bt b 0 = 1) (R : MsgT) (k : Nat) (e : rreq_Get.f k b = some R) : aodv_get.f k b = some R := by
  have hp := pos_bt b (by omega)
  unfold aodv_get.f
  rw [if_pos (by omega), if_pos c, e, Option.bind_some]
theorem aget_3 (b : ByteArray) (c : bt b 0 = 3) (R : MsgT) (k : Nat) (e : rerr_Get.f k b = some R) : aodv_get.f k b = some R := by
  have hp := pos_bt b (by omega)
  unfold aodv_get.f
  rw [if_pos (by omega), if_neg (by omega), if_pos c, e, Option.bind_some]
theorem aget_2 (b : ByteArray) (c : bt b 0 = 2 ∨ bt b 0 = 4) (R : MsgT) (k : Nat) (e : rrep_Get.f k b = some R) : aodv_get.f k b = some R := by
  have hp := pos_bt b (by omega)
  unfold aodv_get.f
  rw [if_pos (by omega), if_neg (by omega), if_neg (by omega), e, Option.bind_some]
/-- A message's bytes are read as that message. -/
theorem aparse_is (x : S25) (s : ByteArray) (hi : Is x s) (hl : x.f24.length ≤ 200) (k : Nat) (hk : 1000 < k) : s.size ≤ 65535 ∧ aodv_Parse.f k s = some ([x], 0, 0) := by
  obtain ⟨k, rfl⟩ : ∃ j, k = j + 1 := ⟨k - 1, by omega⟩
  obtain ⟨a0, a1, a2, a3, a4, a5, a6, a7, a8, a9, a10, a11, a12, a13, a14, a15, a16, a17, a18, a19, a20, a21, a22, a23, a24⟩ := x
  unfold Is at hi
  dsimp only at hi hl
  rcases hi with ⟨⟨h0, hbr, ok⟩, rfl⟩ | ⟨⟨hbr, oks, hk'⟩, rfl⟩ | ⟨⟨h0, hbr, ok⟩, rfl⟩
  · subst h0
    obtain ⟨rfl, rfl, rfl, rfl, rfl, rfl, rfl, rfl, rfl, rfl, rfl, rfl, rfl, rfl, rfl, rfl⟩ := (bareq3 a1 a2 a3 a4 a5 a6 a7 a8 a9 a10 a11 a12 a13 a14 a15 a16 a17 a18 a19 a20 a21 a22 a23 a24).mp hbr
    have g := rq_get _ _ _ _ _ _ _ _ (by omega) ok k (by omega)
    have sz := size_rq a15 a16 a17 a12 a13 a19 a20 a24 ok.2.1 ok.2.2.1
    have hb := bytesS_le a24 255 (fun x hx => (ok.2.2.2.2.2.2.2 x hx).2.2)
    have sa : (allS a24).size = bytesS a24 := size_all a24
    have hd : ∀ x ∈ [1, a15 * 8, 0, a16], 0 ≤ x ∧ x ≤ 255 := by
      have := ok.1; have := ok.2.2.2.2.2.2.1
      simp; omega
    have b0 : bt (rqBytes a15 a16 a17 a12 a13 a19 a20 a24) 0 = 1 := by
      rw [show rqBytes a15 a16 a17 a12 a13 a19 a20 a24 = strOfNums [1, a15 * 8, 0, a16] ++ (w4 a17 ++ a19 ++ w4 a12 ++ a20 ++ w4 a13 ++ allS a24) by unfold rqBytes; simp only [ByteArray.append_assoc]]
      exact bt_head _ hd _ 0 (by simp)
    refine ⟨by omega, ?_⟩
    rw [aparse_of _ (by omega) (by omega) (by omega) _ k (aget_1 _ b0 _ k g), if_pos rfl]
  · unfold repBytes
    rcases hk' with h0 | ⟨h0, ok⟩
    · subst h0
      obtain ⟨rfl, rfl, rfl, rfl, rfl, rfl, rfl, rfl, rfl, rfl, rfl, rfl, rfl, rfl, rfl, rfl, rfl, rfl, rfl, rfl, rfl, rfl, rfl⟩ := (bareq6 a1 a2 a3 a4 a5 a6 a7 a8 a9 a10 a11 a12 a13 a14 a15 a16 a17 a18 a19 a20 a21 a22 a23 a24).mp hbr
      obtain ⟨g, b0⟩ := ak_get a24 (by omega) oks k (by omega)
      have sz : (akBytes a24).size = 2 + (allS a24).size := by rw [show akBytes a24 = strOfNums [4, 0] ++ allS a24 from rfl, size_app, size_nums]; rfl
      have hb := bytesS_le a24 255 (fun x hx => (oks x hx).2.2)
      have sa : (allS a24).size = bytesS a24 := size_all a24
      rw [if_pos rfl]
      refine ⟨by omega, ?_⟩
      rw [aparse_of _ (by omega) (by omega) (by omega) _ k (aget_2 _ (.inr b0) _ k g), if_pos rfl]
    · subst h0
      obtain ⟨rfl, rfl, rfl, rfl, rfl, rfl, rfl, rfl, rfl, rfl, rfl, rfl, rfl, rfl, rfl, rfl⟩ := (bareq4 a1 a2 a3 a4 a5 a6 a7 a8 a9 a10 a11 a12 a13 a14 a15 a16 a17 a18 a19 a20 a21 a22 a23 a24).mp hbr
      obtain ⟨g, b0⟩ := rp_get a15 a7 a16 a12 a14 a19 a20 a24 (by omega) ok oks k (by omega)
      have sz := size_rp a15 a7 a16 a12 a14 a19 a20 a24 ok.2.2.2.2.2.1 ok.2.2.2.2.2.2
      have hb := bytesS_le a24 255 (fun x hx => (oks x hx).2.2)
      have sa : (allS a24).size = bytesS a24 := size_all a24
      rw [if_neg (show ¬ ((4 : Int) = 6) by decide)]
      refine ⟨by omega, ?_⟩
      rw [aparse_of _ (by omega) (by omega) (by omega) _ k (aget_2 _ (.inl b0) _ k g), if_pos rfl]
  · subst h0
    obtain ⟨rfl, rfl, rfl, rfl, rfl, rfl, rfl, rfl, rfl, rfl, rfl, rfl, rfl, rfl, rfl, rfl, rfl, rfl, rfl, rfl, rfl⟩ := (bareq5 a1 a2 a3 a4 a5 a6 a7 a8 a9 a10 a11 a12 a13 a14 a15 a16 a17 a18 a19 a20 a21 a22 a23 a24).mp hbr
    have g := re_get a15 a21 a24 (by omega) ok k (by omega)
    have sz := size_re a15 a21 a24 ok
    have hb := bytesS_le a24 255 (fun x hx => (ok.2.2.2.2 x hx).2.2)
    have hd : ∀ x ∈ [3, a15 * 128, 0, (a21.length : Int)], 0 ≤ x ∧ x ≤ 255 := by
      have := ok.1; have := ok.2.1; have := ok.2.2.1
      simp; omega
    have b0 : bt (reBytes a15 a21 a24) 0 = 3 := by
      rw [show reBytes a15 a21 a24 = strOfNums [3, a15 * 128, 0, (a21.length : Int)] ++ (allD a21 ++ allS a24) by unfold reBytes; simp only [ByteArray.append_assoc]]
      exact bt_head _ hd _ 0 (by simp)
    have := ok.2.2.1
    refine ⟨by omega, ?_⟩
    rw [aparse_of _ (by omega) (by omega) (by omega) _ k (aget_3 _ b0 _ k g), if_pos rfl]

set_option maxHeartbeats 4000000 in
/-- Bytes that are read as a message are that message's; others are told within them. -/
theorem aparse_back (b : ByteArray) (hb : b.size ≤ 3000) (k : Nat) (hk : 3900 ≤ k) : (∃ x, aodv_Parse.f (k + 1) b = some ([x], 0, 0) ∧ AC x ∧ Is x b) ∨ ∃ at_ e : Int, aodv_Parse.f (k + 1) b = some ([], at_, e) ∧ e ≠ 0 ∧ 0 ≤ at_ ∧ at_ ≤ (b.size : Int) := by
  have r1 := bt_range b 1; have r2 := bt_range b 2; have r3 := bt_range b 3
  by_cases c0 : (b.size : Int) = 0
  · refine .inr ⟨0, 2, ?_, by decide, by omega, by omega⟩
    unfold aodv_Parse.f
    rw [if_neg (by omega), if_pos c0]
  have no : aodv_Parse.j0 (k + 1) b true = some ([], 0, 4) := by simp only [aodv_Parse.j0, if_true]
  by_cases c1 : bt b 0 < 1
  · refine .inr ⟨0, 4, ?_, by decide, by omega, by omega⟩
    unfold aodv_Parse.f
    rw [if_neg (by omega), if_neg c0, if_pos (by omega), if_pos c1, no]
  by_cases c2 : bt b 0 > 4
  · refine .inr ⟨0, 4, ?_, by decide, by omega, by omega⟩
    unfold aodv_Parse.f
    rw [if_neg (by omega), if_neg c0, if_pos (by omega), if_neg c1, decide_eq_true c2, no]
  have hp : 0 < b.size := by omega
  by_cases t1 : bt b 0 = 1
  · skip
    obtain ⟨l, e, r, hle, he⟩ := runs_ex (b.extract 24 b.size) (b.extract 24 b.size).size 0 (by omega) (by omega)
    have hl := (runs_le r).1
    have z : (b.extract 24 b.size).size ≤ 3000 := by rw [size_ext]; omega
    have G := aget_1 b t1 _ k (rreq_get_f b (by omega) l e r he k (by omega))
    by_cases d1 : b.size < 24
    · skip
      exact .inr ⟨(b.size : Int), 2, by
        rw [aparse_of b (by omega) c1 c2 _ k G, show rqRes b l e = noMsg ((b.size : Int)) 2 by unfold rqRes; rw [if_pos d1]]
        exact congrArg some (if_neg (show ¬ ((2 : Int) = 0) by decide)), by decide, by omega, by omega⟩
    by_cases d2 : bt b 1 % 8 = 0 ∧ bt b 2 = 0
    · by_cases d3 : e = (b.extract 24 b.size).size
      · skip
        obtain ⟨ok, eb⟩ := rq_bytes b (by omega) t1 d2 l (by rw [← d3]; exact r)
        have n1 := ok.2.2.2.1; have n2 := ok.2.2.2.2.1; have n3 := ok.2.2.2.2.2.1; have n4 := ok.2.2.2.2.2.2.1
        exact .inl ⟨(⟨3, 0, 0, (⟨#[]⟩ : ByteArray), 0, 0, (⟨#[]⟩ : ByteArray), 0, 0, (⟨#[]⟩ : ByteArray), 0, (⟨#[]⟩ : ByteArray), (num (bytesOf (b.extract 12 16))), (num (bytesOf (b.extract 20 24))), 0, (bt b 1 / 8), (bt b 3), (num (bytesOf (b.extract 4 8))), 0, (b.extract 8 12), (b.extract 16 20), [], 0, (⟨#[]⟩ : ByteArray), l⟩ : S25), by
          rw [aparse_of b (by omega) c1 c2 _ k G, show rqRes b l e = (3, 0, 0, (⟨#[]⟩ : ByteArray), 0, 0, (⟨#[]⟩ : ByteArray), 0, 0, (⟨#[]⟩ : ByteArray), 0, (⟨#[]⟩ : ByteArray), (num (bytesOf (b.extract 12 16))), (num (bytesOf (b.extract 20 24))), 0, (bt b 1 / 8), (bt b 3), (num (bytesOf (b.extract 4 8))), 0, (b.extract 8 12), (b.extract 16 20), [], 0, (⟨#[]⟩ : ByteArray), l, 0, 0) by unfold rqRes; rw [if_neg d1, if_pos d2, if_pos d3]]
          exact congrArg some (if_pos rfl), ⟨(fun d hd => absurd hd (by simp)), by dsimp only; omega, by dsimp only; omega, by dsimp only; omega, by dsimp only; omega, by dsimp only; omega, by simp, by dsimp only; omega⟩, .inl ⟨⟨rfl, (bareq3 0 0 (⟨#[]⟩ : ByteArray) 0 0 (⟨#[]⟩ : ByteArray) 0 0 (⟨#[]⟩ : ByteArray) 0 (⟨#[]⟩ : ByteArray) (num (bytesOf (b.extract 12 16))) (num (bytesOf (b.extract 20 24))) 0 (bt b 1 / 8) (bt b 3) (num (bytesOf (b.extract 4 8))) 0 (b.extract 8 12) (b.extract 16 20) [] 0 (⟨#[]⟩ : ByteArray) l).mpr (by simp), ok⟩, eb.symm⟩⟩
      · skip
        exact .inr ⟨24 + (e : Int), 2, by
          rw [aparse_of b (by omega) c1 c2 _ k G, show rqRes b l e = noMsg (24 + (e : Int)) 2 by unfold rqRes; rw [if_neg d1, if_pos d2, if_neg d3]]
          exact congrArg some (if_neg (show ¬ ((2 : Int) = 0) by decide)), by decide, by omega, by rw [size_ext] at hle; omega⟩
    · skip
      exact .inr ⟨1, 5, by
        rw [aparse_of b (by omega) c1 c2 _ k G, show rqRes b l e = noMsg (1) 5 by unfold rqRes; rw [if_neg d1, if_neg d2]]
        exact congrArg some (if_neg (show ¬ ((5 : Int) = 0) by decide)), by decide, by omega, by omega⟩
  by_cases t3 : bt b 0 = 3
  · skip
    obtain ⟨l, e, r, hle, he⟩ := runs_ex (b.extract (4 + 8 * (bt b 3).toNat) b.size) (b.extract (4 + 8 * (bt b 3).toNat) b.size).size 0 (by omega) (by omega)
    have hl := (runs_le r).1
    have z : (b.extract (4 + 8 * (bt b 3).toNat) b.size).size = b.size - (4 + 8 * (bt b 3).toNat) := by rw [size_ext]; omega
    have G := aget_3 b t3 _ k (rerr_get_f b (by omega) l e r he k (by omega))
    by_cases d1 : b.size < 4
    · skip
      exact .inr ⟨(b.size : Int), 2, by
        rw [aparse_of b (by omega) c1 c2 _ k G, show reRes b l e = noMsg ((b.size : Int)) 2 by unfold reRes; rw [if_pos d1]]
        exact congrArg some (if_neg (show ¬ ((2 : Int) = 0) by decide)), by decide, by omega, by omega⟩
    by_cases d2 : bt b 1 % 128 = 0 ∧ bt b 2 = 0
    · by_cases d3 : bt b 3 = 0
      · skip
        exact .inr ⟨3, 8, by
          rw [aparse_of b (by omega) c1 c2 _ k G, show reRes b l e = noMsg (3) 8 by unfold reRes; rw [if_neg d1, if_pos d2, if_pos d3]]
          exact congrArg some (if_neg (show ¬ ((8 : Int) = 0) by decide)), by decide, by omega, by omega⟩
      by_cases d4 : b.size < 4 + 8 * (bt b 3).toNat
      · skip
        exact .inr ⟨(b.size : Int), 2, by
          rw [aparse_of b (by omega) c1 c2 _ k G, show reRes b l e = noMsg ((b.size : Int)) 2 by unfold reRes; rw [if_neg d1, if_pos d2, if_neg d3, if_pos d4]]
          exact congrArg some (if_neg (show ¬ ((2 : Int) = 0) by decide)), by decide, by omega, by omega⟩
      by_cases d5 : e = (b.extract (4 + 8 * (bt b 3).toNat) b.size).size
      · skip
        obtain ⟨ok, eb⟩ := re_bytes b t3 d2 d3 (by omega) l (by rw [← d5]; exact r)
        have ln := len_dlist b (bt b 3).toNat 4
        exact .inl ⟨(⟨5, 0, 0, (⟨#[]⟩ : ByteArray), 0, 0, (⟨#[]⟩ : ByteArray), 0, 0, (⟨#[]⟩ : ByteArray), 0, (⟨#[]⟩ : ByteArray), 0, 0, 0, (bt b 1 / 128), 0, 0, 0, (⟨#[]⟩ : ByteArray), (⟨#[]⟩ : ByteArray), (dlist b 4 (bt b 3).toNat), 0, (⟨#[]⟩ : ByteArray), l⟩ : S25), by
          rw [aparse_of b (by omega) c1 c2 _ k G, show reRes b l e = (5, 0, 0, (⟨#[]⟩ : ByteArray), 0, 0, (⟨#[]⟩ : ByteArray), 0, 0, (⟨#[]⟩ : ByteArray), 0, (⟨#[]⟩ : ByteArray), 0, 0, 0, (bt b 1 / 128), 0, 0, 0, (⟨#[]⟩ : ByteArray), (⟨#[]⟩ : ByteArray), (dlist b 4 (bt b 3).toNat), 0, (⟨#[]⟩ : ByteArray), l, 0, 0) by unfold reRes; rw [if_neg d1, if_pos d2, if_neg d3, if_neg d4, if_pos d5]]
          exact congrArg some (if_pos rfl), ⟨fun d hd => by have := (ok.2.2.2.1 d hd).2; omega, by dsimp only; omega, by dsimp only; omega, by dsimp only; omega, by dsimp only; omega, by dsimp only; omega, by dsimp only; omega, by dsimp only; omega⟩, .inr (.inr ⟨⟨rfl, (bareq5 0 0 (⟨#[]⟩ : ByteArray) 0 0 (⟨#[]⟩ : ByteArray) 0 0 (⟨#[]⟩ : ByteArray) 0 (⟨#[]⟩ : ByteArray) 0 0 0 (bt b 1 / 128) 0 0 0 (⟨#[]⟩ : ByteArray) (⟨#[]⟩ : ByteArray) (dlist b 4 (bt b 3).toNat) 0 (⟨#[]⟩ : ByteArray) l).mpr (by simp), ok⟩, eb.symm⟩)⟩
      · skip
        exact .inr ⟨((4 + 8 * (bt b 3).toNat : Nat) : Int) + (e : Int), 2, by
          rw [aparse_of b (by omega) c1 c2 _ k G, show reRes b l e = noMsg (((4 + 8 * (bt b 3).toNat : Nat) : Int) + (e : Int)) 2 by unfold reRes; rw [if_neg d1, if_pos d2, if_neg d3, if_neg d4, if_neg d5]]
          exact congrArg some (if_neg (show ¬ ((2 : Int) = 0) by decide)), by decide, by omega, by omega⟩
    · skip
      exact .inr ⟨1, 5, by
        rw [aparse_of b (by omega) c1 c2 _ k G, show reRes b l e = noMsg (1) 5 by unfold reRes; rw [if_neg d1, if_neg d2]]
        exact congrArg some (if_neg (show ¬ ((5 : Int) = 0) by decide)), by decide, by omega, by omega⟩
  by_cases t4 : bt b 0 = 4
  · skip
    obtain ⟨l, e, r, hle, he⟩ := runs_ex (b.extract 2 b.size) (b.extract 2 b.size).size 0 (by omega) (by omega)
    have hl := (runs_le r).1
    have z : (b.extract 2 b.size).size ≤ 3000 := by rw [size_ext]; omega
    have G := aget_2 b (.inr t4) _ k (rrep_get4_f b (by omega) hp t4 l e r he k (by omega))
    by_cases d1 : b.size < 2
    · skip
      exact .inr ⟨(b.size : Int), 2, by
        rw [aparse_of b (by omega) c1 c2 _ k G, show akRes b l e = noMsg ((b.size : Int)) 2 by unfold akRes; rw [if_pos d1]]
        exact congrArg some (if_neg (show ¬ ((2 : Int) = 0) by decide)), by decide, by omega, by omega⟩
    by_cases d2 : bt b 1 = 0
    · by_cases d3 : e = (b.extract 2 b.size).size
      · skip
        obtain ⟨oks, eb⟩ := ak_bytes b (by omega) t4 d2 l (by rw [← d3]; exact r)
        exact .inl ⟨(⟨6, 0, 0, (⟨#[]⟩ : ByteArray), 0, 0, (⟨#[]⟩ : ByteArray), 0, 0, (⟨#[]⟩ : ByteArray), 0, (⟨#[]⟩ : ByteArray), 0, 0, 0, 0, 0, 0, 0, (⟨#[]⟩ : ByteArray), (⟨#[]⟩ : ByteArray), [], 0, (⟨#[]⟩ : ByteArray), l⟩ : S25), by
          rw [aparse_of b (by omega) c1 c2 _ k G, show akRes b l e = (6, 0, 0, (⟨#[]⟩ : ByteArray), 0, 0, (⟨#[]⟩ : ByteArray), 0, 0, (⟨#[]⟩ : ByteArray), 0, (⟨#[]⟩ : ByteArray), 0, 0, 0, 0, 0, 0, 0, (⟨#[]⟩ : ByteArray), (⟨#[]⟩ : ByteArray), [], 0, (⟨#[]⟩ : ByteArray), l, 0, 0) by unfold akRes; rw [if_neg d1, if_pos d2, if_pos d3]]
          exact congrArg some (if_pos rfl), ⟨(fun d hd => absurd hd (by simp)), by simp, by simp, by simp, by simp, by simp, by simp, by dsimp only; omega⟩, .inr (.inl ⟨⟨(bareq6 0 0 (⟨#[]⟩ : ByteArray) 0 0 (⟨#[]⟩ : ByteArray) 0 0 (⟨#[]⟩ : ByteArray) 0 (⟨#[]⟩ : ByteArray) 0 0 0 0 0 0 0 (⟨#[]⟩ : ByteArray) (⟨#[]⟩ : ByteArray) [] 0 (⟨#[]⟩ : ByteArray) l).mpr (by simp), oks, .inl rfl⟩, by unfold repBytes; rw [if_pos rfl]; exact eb.symm⟩)⟩
      · skip
        exact .inr ⟨2 + (e : Int), 2, by
          rw [aparse_of b (by omega) c1 c2 _ k G, show akRes b l e = noMsg (2 + (e : Int)) 2 by unfold akRes; rw [if_neg d1, if_pos d2, if_neg d3]]
          exact congrArg some (if_neg (show ¬ ((2 : Int) = 0) by decide)), by decide, by omega, by rw [size_ext] at hle; omega⟩
    · skip
      exact .inr ⟨1, 5, by
        rw [aparse_of b (by omega) c1 c2 _ k G, show akRes b l e = noMsg (1) 5 by unfold akRes; rw [if_neg d1, if_neg d2]]
        exact congrArg some (if_neg (show ¬ ((5 : Int) = 0) by decide)), by decide, by omega, by omega⟩
  have t2 : bt b 0 = 2 := by omega
  obtain ⟨l, e, r, hle, he⟩ := runs_ex (b.extract 20 b.size) (b.extract 20 b.size).size 0 (by omega) (by omega)
  have hl := (runs_le r).1
  have z : (b.extract 20 b.size).size ≤ 3000 := by rw [size_ext]; omega
  have G := aget_2 b (.inl t2) _ k (rrep_get2_f b (by omega) hp t4 l e r he k (by omega))
  by_cases d1 : b.size < 20
  · skip
    exact .inr ⟨(b.size : Int), 2, by
      rw [aparse_of b (by omega) c1 c2 _ k G, show rpRes b l e = noMsg ((b.size : Int)) 2 by unfold rpRes; rw [if_pos d1]]
      exact congrArg some (if_neg (show ¬ ((2 : Int) = 0) by decide)), by decide, by omega, by omega⟩
  by_cases d2 : bt b 1 % 64 = 0 ∧ bt b 2 < 32
  · by_cases d3 : e = (b.extract 20 b.size).size
    · skip
      obtain ⟨ok, oks, eb⟩ := rp_bytes b (by omega) t2 d2 l (by rw [← d3]; exact r)
      have n1 := ok.2.2.2.1; have n2 := ok.2.2.2.2.1
      exact .inl ⟨(⟨4, 0, 0, (⟨#[]⟩ : ByteArray), 0, 0, (⟨#[]⟩ : ByteArray), (bt b 2), 0, (⟨#[]⟩ : ByteArray), 0, (⟨#[]⟩ : ByteArray), (num (bytesOf (b.extract 8 12))), 0, (num (bytesOf (b.extract 16 20))), (bt b 1 / 64), (bt b 3), 0, 0, (b.extract 4 8), (b.extract 12 16), [], 0, (⟨#[]⟩ : ByteArray), l⟩ : S25), by
        rw [aparse_of b (by omega) c1 c2 _ k G, show rpRes b l e = (4, 0, 0, (⟨#[]⟩ : ByteArray), 0, 0, (⟨#[]⟩ : ByteArray), (bt b 2), 0, (⟨#[]⟩ : ByteArray), 0, (⟨#[]⟩ : ByteArray), (num (bytesOf (b.extract 8 12))), 0, (num (bytesOf (b.extract 16 20))), (bt b 1 / 64), (bt b 3), 0, 0, (b.extract 4 8), (b.extract 12 16), [], 0, (⟨#[]⟩ : ByteArray), l, 0, 0) by unfold rpRes; rw [if_neg d1, if_pos d2, if_pos d3]]
        exact congrArg some (if_pos rfl), ⟨(fun d hd => absurd hd (by simp)), by dsimp only; omega, by dsimp only; omega, by dsimp only; omega, by dsimp only; omega, by dsimp only; omega, by simp, by dsimp only; omega⟩, .inr (.inl ⟨⟨(bareq4 0 0 (⟨#[]⟩ : ByteArray) 0 0 (⟨#[]⟩ : ByteArray) (bt b 2) 0 (⟨#[]⟩ : ByteArray) 0 (⟨#[]⟩ : ByteArray) (num (bytesOf (b.extract 8 12))) 0 (num (bytesOf (b.extract 16 20))) (bt b 1 / 64) (bt b 3) 0 0 (b.extract 4 8) (b.extract 12 16) [] 0 (⟨#[]⟩ : ByteArray) l).mpr (by simp), oks, .inr ⟨rfl, ok⟩⟩, by unfold repBytes; rw [if_neg (show ¬ ((4 : Int) = 6) by decide)]; exact eb.symm⟩)⟩
    · skip
      exact .inr ⟨20 + (e : Int), 2, by
        rw [aparse_of b (by omega) c1 c2 _ k G, show rpRes b l e = noMsg (20 + (e : Int)) 2 by unfold rpRes; rw [if_neg d1, if_pos d2, if_neg d3]]
        exact congrArg some (if_neg (show ¬ ((2 : Int) = 0) by decide)), by decide, by omega, by rw [size_ext] at hle; omega⟩
  · skip
    exact .inr ⟨1, 5, by
      rw [aparse_of b (by omega) c1 c2 _ k G, show rpRes b l e = noMsg (1) 5 by unfold rpRes; rw [if_neg d1, if_neg d2]]
      exact congrArg some (if_neg (show ¬ ((5 : Int) = 0) by decide)), by decide, by omega, by omega⟩

theorem aoback_j2 (b : ByteArray) (hb : b.size ≤ 3000) (k : Nat) (hk : 4100 ≤ k) : roadbooklaw17_AodvBack.j2 k b = some true := by
  obtain ⟨k, rfl⟩ : ∃ j, k = j + 2 := ⟨k - 2, by omega⟩
  rw [roadbooklaw17_AodvBack.j2]
  rcases aparse_back b hb k (by omega) with ⟨x, e, hx, hi⟩ | ⟨at_, c, e, hc, h0, h1⟩
  · rw [e, Option.bind_some]
    dsimp only
    rw [if_pos rfl, aenc_f x hx b hi (by omega) (k + 1) (by omega), Option.bind_some, aoawake_f (k + 1) (by omega), Option.bind_some, if_pos rfl, if_pos rfl, if_pos rfl]
    rfl
  · rw [e, Option.bind_some]
    dsimp only
    rw [if_neg hc, aoawake_f (k + 1) (by omega), Option.bind_some, if_pos rfl, if_pos (by simp), if_pos h0, decide_eq_true h1]
theorem AodvBack : roadbooklaw17_AodvBack.Pure := by
  intro a0_0 a0_1 a0_2 a0_3 a0_4 a0_5 a0_6 a0_7 a0_8 a0_9 a0_10 a0_11 a0_12 a0_13 a0_14 a0_15 a0_16 a0_17 a0_18 a0_19 a0_20 l0_21 a0_22 a0_23 l0_24 b g gb
  refine ⟨5000, ?_⟩
  obtain ⟨g0, g1, g2, g3, g4, g5, g6, g7, g8, g9, g10, g11, g12, g13, g14, g15, g16, g17, g18, g19, g20, ⟨g21, gD⟩, g22, g23, ⟨g24, _⟩⟩ := g
  have hD : ∀ x ∈ l0_21, -9223372036854775808 ≤ x.f1 ∧ x.f1 ≤ 9223372036854775807 := fun x hx => wf_i64 (gD x hx).2
  unfold roadbooklaw17_AodvBack.f
  have aw : roadbooklaw17_AodvBack.j0 5000 b true a0_0 a0_1 a0_2 a0_3 a0_4 a0_5 a0_6 a0_7 a0_8 a0_9 a0_10 a0_11 a0_12 a0_13 a0_14 a0_15 a0_16 a0_17 a0_18 a0_19 a0_20 l0_21 a0_22 a0_23 l0_24 = some true := by
    simp only [roadbooklaw17_AodvBack.j0, if_true]
    rw [aoawake_f 4999 (by omega)]; rfl
  obtain ⟨f, e, hf⟩ := few_f a0_0 a0_1 a0_2 a0_3 a0_4 a0_5 a0_6 a0_7 a0_8 a0_9 a0_10 a0_11 a0_12 a0_13 a0_14 a0_15 a0_16 a0_17 a0_18 a0_19 a0_20 l0_21 a0_22 a0_23 l0_24 g3 g6 g9 g11 g19 g20 5000 (by omega)
  rw [e, Option.bind_some]
  cases f with
  | false => rw [if_neg (by decide), aw]
  | true =>
    obtain ⟨q1, q2, _⟩ := hf rfl
    rw [if_pos rfl]
    by_cases c2 : (b.size : Int) > 3000
    · rw [decide_eq_true c2, aw]
    rw [decide_eq_false c2]
    simp only [roadbooklaw17_AodvBack.j0, Bool.false_eq_true, if_false]
    have hx : AC (⟨a0_0, a0_1, a0_2, a0_3, a0_4, a0_5, a0_6, a0_7, a0_8, a0_9, a0_10, a0_11, a0_12, a0_13, a0_14, a0_15, a0_16, a0_17, a0_18, a0_19, a0_20, l0_21, a0_22, a0_23, l0_24⟩ : S25) := ⟨hD, wf_i64 g12, wf_i64 g13, wf_i64 g14, wf_i64 g16, wf_i64 g17, by dsimp only; omega, by dsimp only; omega⟩
    obtain ⟨r, e1, hr⟩ := aright_f (⟨a0_0, a0_1, a0_2, a0_3, a0_4, a0_5, a0_6, a0_7, a0_8, a0_9, a0_10, a0_11, a0_12, a0_13, a0_14, a0_15, a0_16, a0_17, a0_18, a0_19, a0_20, l0_21, a0_22, a0_23, l0_24⟩ : S25) hx 4999 (by omega)
    dsimp only at e1
    cases r with
    | false =>
      rw [aenc_no (⟨a0_0, a0_1, a0_2, a0_3, a0_4, a0_5, a0_6, a0_7, a0_8, a0_9, a0_10, a0_11, a0_12, a0_13, a0_14, a0_15, a0_16, a0_17, a0_18, a0_19, a0_20, l0_21, a0_22, a0_23, l0_24⟩ : S25) hx (fun q => by have := hr.mpr q; cases this) 4999 (by omega), e1, Option.bind_some, Option.bind_some, if_neg (by decide)]
      dsimp only
      have z : (⟨#[]⟩ : ByteArray).toList = ([] : List UInt8) := by rw [ByteArray.toList_eq]
      rw [if_pos rfl, if_pos z]
      exact aoback_j2 b (by omega) 4999 (by omega)
    | true =>
      obtain ⟨s, hi⟩ := hr.mp rfl
      obtain ⟨hs, e3⟩ := aparse_is (⟨a0_0, a0_1, a0_2, a0_3, a0_4, a0_5, a0_6, a0_7, a0_8, a0_9, a0_10, a0_11, a0_12, a0_13, a0_14, a0_15, a0_16, a0_17, a0_18, a0_19, a0_20, l0_21, a0_22, a0_23, l0_24⟩ : S25) s hi (by dsimp only; omega) 4999 (by omega)
      rw [aenc_f (⟨a0_0, a0_1, a0_2, a0_3, a0_4, a0_5, a0_6, a0_7, a0_8, a0_9, a0_10, a0_11, a0_12, a0_13, a0_14, a0_15, a0_16, a0_17, a0_18, a0_19, a0_20, l0_21, a0_22, a0_23, l0_24⟩ : S25) hx s hi hs 4999 (by omega), e1, Option.bind_some, Option.bind_some, if_pos rfl]
      dsimp only
      rw [e3, Option.bind_some]
      dsimp only
      rw [if_pos rfl, if_pos rfl, sameall_one (⟨a0_0, a0_1, a0_2, a0_3, a0_4, a0_5, a0_6, a0_7, a0_8, a0_9, a0_10, a0_11, a0_12, a0_13, a0_14, a0_15, a0_16, a0_17, a0_18, a0_19, a0_20, l0_21, a0_22, a0_23, l0_24⟩ : S25) (by dsimp only; omega) (by dsimp only; omega) 4999 (by omega), Option.bind_some]
      simp only [roadbooklaw17_AodvBack.j1, Bool.not_true, Bool.false_eq_true, if_false]
      exact aoback_j2 b (by omega) 4998 (by omega)

end Go.Proofs.Ytccjakjjaemmkaa.Pure
