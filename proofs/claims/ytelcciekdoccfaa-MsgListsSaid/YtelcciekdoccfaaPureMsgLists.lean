/-
Whether any two lists of messages are the same is the document's; for lists of at most 20 messages of few parts.
-/
import Derived.Test.YtelcciekdoccfaaQMsgLists
import Derived.Test.YtelcciekdoccfaaBase
namespace Go.Proofs.Ytelcciekdoccfaa.Pure
open Go.RowKit Go.Proofs.Ytelcciekdoccfaa.PM Go.Proofs.YtelcciekdoccfaaW.PrintWords Go.Proofs.YtelcciekdoccfaaW.PrintLast Go.Proofs.YtelcciekdoccfaaW.PrintMore Go.Proofs.Ytelcciekdoccfaa.Base
set_option linter.unusedVariables false
set_option linter.unusedSimpArgs false

theorem msgawake_f (k : Nat) (hk : 60 ≤ k) : roadbooklaw07_awake.f k = some true := at_rounds (g := fun k => roadbooklaw07_awake.f k) (fun k => roadbooklaw07_awake.mono k) hk (by decide +kernel)

theorem rd_mem_63 {l : List S63} {P : S63 → Prop} (h : ∀ j : Nat, j < l.length → P (rd_T63 l (j : Int))) : ∀ x ∈ l, P x := by
  intro x hx
  obtain ⟨j, hj, rfl⟩ := List.getElem_of_mem hx
  have := h j hj
  unfold rd_T63 at this
  rwa [Int.toNat_natCast, List.getD_eq_getElem?_getD, List.getElem?_eq_getElem hj] at this
theorem rd_mem_61 {l : List S61} {P : S61 → Prop} (h : ∀ j : Nat, j < l.length → P (rd_T61 l (j : Int))) : ∀ x ∈ l, P x := by
  intro x hx
  obtain ⟨j, hj, rfl⟩ := List.getElem_of_mem hx
  have := h j hj
  unfold rd_T61 at this
  rwa [Int.toNat_natCast, List.getD_eq_getElem?_getD, List.getElem?_eq_getElem hj] at this

theorem few_l1 (a0 : Int) (a1 : Int) (a2 : Int) (a3 : ByteArray) (a4 : Int) (a5 : Int) (a6 : ByteArray) (a7 : Int) (a8 : Int) (a9 : ByteArray) (a10 : Int) (a11 : ByteArray) (a12 : Int) (a13 : Int) (a14 : Int) (a15 : Int) (a16 : Int) (a17 : Int) (a18 : Int) (a19 : ByteArray) (a20 : ByteArray) (a21 : List S61) (a22 : Int) (a23 : ByteArray) (a24 : List S63) (hl : a24.length ≤ 1000000) (m : Nat) : ∀ (k i : Nat), m < k → a24.length - i = m → ∃ b, roadbookref07_Few.l1 k i a0 a1 a2 a3 a4 a5 a6 a7 a8 a9 a10 a11 a12 a13 a14 a15 a16 a17 a18 a19 a20 a21 a22 a23 a24 = some b ∧ (b = true → ∀ j : Nat, i ≤ j → j < a24.length → ((rd_T63 a24 (j : Int)).f1).size ≤ 300) := by
  induction m with
  | zero =>
    intro k i hk hm
    obtain ⟨k, rfl⟩ : ∃ j, k = j + 1 := ⟨k - 1, by omega⟩
    simp only [roadbookref07_Few.l1]
    rw [if_neg (by omega)]
    exact ⟨true, rfl, fun _ j h1 h2 => by omega⟩
  | succ m ih =>
    intro k i hk hm
    obtain ⟨k, rfl⟩ : ∃ j, k = j + 1 := ⟨k - 1, by omega⟩
    simp only [roadbookref07_Few.l1]
    rw [if_pos (by omega), if_pos (by omega)]
    by_cases c : (((rd_T63 a24 (i : Int)).f1).size : Int) > 300
    · rw [if_pos c]; exact ⟨false, rfl, fun h => (by cases h)⟩
    · rw [if_neg c, wrap64_id (by omega) (by omega)]
      obtain ⟨b, e, hb⟩ := ih k (i + 1) (by omega) (by omega)
      refine ⟨b, e, fun h j h1 h2 => ?_⟩
      by_cases d : j = i
      · rw [d]; omega
      · exact hb h j (by omega) h2
theorem few_l0 (a0 : Int) (a1 : Int) (a2 : Int) (a3 : ByteArray) (a4 : Int) (a5 : Int) (a6 : ByteArray) (a7 : Int) (a8 : Int) (a9 : ByteArray) (a10 : Int) (a11 : ByteArray) (a12 : Int) (a13 : Int) (a14 : Int) (a15 : Int) (a16 : Int) (a17 : Int) (a18 : Int) (a19 : ByteArray) (a20 : ByteArray) (a21 : List S61) (a22 : Int) (a23 : ByteArray) (a24 : List S63) (hd : a21.length ≤ 1000000) (hl : a24.length ≤ 1000000) (m : Nat) : ∀ (k i : Nat), m + a24.length + 1 < k → a21.length - i = m → ∃ b, roadbookref07_Few.l0 k i a0 a1 a2 a3 a4 a5 a6 a7 a8 a9 a10 a11 a12 a13 a14 a15 a16 a17 a18 a19 a20 a21 a22 a23 a24 = some b ∧ (b = true → (∀ j : Nat, i ≤ j → j < a21.length → ((rd_T61 a21 (j : Int)).f0).size ≤ 50) ∧ ∀ j : Nat, j < a24.length → ((rd_T63 a24 (j : Int)).f1).size ≤ 300) := by
  induction m with
  | zero =>
    intro k i hk hm
    obtain ⟨k, rfl⟩ : ∃ j, k = j + 1 := ⟨k - 1, by omega⟩
    simp only [roadbookref07_Few.l0]
    rw [if_neg (by omega)]
    obtain ⟨b, e, hb⟩ := few_l1 a0 a1 a2 a3 a4 a5 a6 a7 a8 a9 a10 a11 a12 a13 a14 a15 a16 a17 a18 a19 a20 a21 a22 a23 a24 hl a24.length k 0 (by omega) (by omega)
    exact ⟨b, e, fun h => ⟨fun j h1 h2 => by omega, fun j h2 => hb h j (by omega) h2⟩⟩
  | succ m ih =>
    intro k i hk hm
    obtain ⟨k, rfl⟩ : ∃ j, k = j + 1 := ⟨k - 1, by omega⟩
    simp only [roadbookref07_Few.l0]
    rw [if_pos (by omega), if_pos (by omega)]
    by_cases c : (((rd_T61 a21 (i : Int)).f0).size : Int) > 50
    · rw [if_pos c]; exact ⟨false, rfl, fun h => (by cases h)⟩
    · rw [if_neg c, wrap64_id (by omega) (by omega)]
      obtain ⟨b, e, hb⟩ := ih k (i + 1) (by omega) (by omega)
      refine ⟨b, e, fun h => ⟨fun j h1 h2 => ?_, (hb h).2⟩⟩
      by_cases d : j = i
      · rw [d]; omega
      · exact (hb h).1 j (by omega) h2
/-- Few tells something, and where it says yes the parts are few and small. -/
theorem few_f (a0 : Int) (a1 : Int) (a2 : Int) (a3 : ByteArray) (a4 : Int) (a5 : Int) (a6 : ByteArray) (a7 : Int) (a8 : Int) (a9 : ByteArray) (a10 : Int) (a11 : ByteArray) (a12 : Int) (a13 : Int) (a14 : Int) (a15 : Int) (a16 : Int) (a17 : Int) (a18 : Int) (a19 : ByteArray) (a20 : ByteArray) (a21 : List S61) (a22 : Int) (a23 : ByteArray) (a24 : List S63) (h3 : a3.size ≤ 140737488351232) (h6 : a6.size ≤ 140737488351232) (h9 : a9.size ≤ 140737488351232) (h11 : a11.size ≤ 140737488351232) (h19 : a19.size ≤ 140737488351232) (h20 : a20.size ≤ 140737488351232) (k : Nat) (hk : 400 ≤ k) :
    ∃ b, roadbookref07_Few.f k a0 a1 a2 a3 a4 a5 a6 a7 a8 a9 a10 a11 a12 a13 a14 a15 a16 a17 a18 a19 a20 a21 a22 a23 a24 = some b ∧ (b = true → a21.length ≤ 300 ∧ a24.length ≤ 60 ∧ a3.size + a6.size ≤ 200 ∧ a9.size + a11.size ≤ 200 ∧ a19.size + a20.size ≤ 200 ∧ a23.size ≤ 300 ∧ (∀ x ∈ a21, x.f0.size ≤ 50) ∧ ∀ x ∈ a24, x.f1.size ≤ 300) := by
  obtain ⟨k, rfl⟩ : ∃ j, k = j + 1 := ⟨k - 1, by omega⟩
  have no : roadbookref07_Few.j0 (k + 1) true a0 a1 a2 a3 a4 a5 a6 a7 a8 a9 a10 a11 a12 a13 a14 a15 a16 a17 a18 a19 a20 a21 a22 a23 a24 = some false := by simp only [roadbookref07_Few.j0, if_true]
  unfold roadbookref07_Few.f
  rw [no, wrap64_id (x := (a3.size : Int) + a6.size) (by omega) (by omega), wrap64_id (x := (a9.size : Int) + a11.size) (by omega) (by omega), wrap64_id (x := (a19.size : Int) + a20.size) (by omega) (by omega)]
  by_cases c1 : (a21.length : Int) > 300
  · rw [if_pos c1]; exact ⟨false, rfl, fun h => (by cases h)⟩
  rw [if_neg c1]
  by_cases c2 : (a24.length : Int) > 60
  · rw [if_pos c2]; exact ⟨false, rfl, fun h => (by cases h)⟩
  rw [if_neg c2]
  by_cases c3 : (a3.size : Int) + a6.size > 200
  · rw [if_pos c3]; exact ⟨false, rfl, fun h => (by cases h)⟩
  rw [if_neg c3]
  by_cases c4 : (a9.size : Int) + a11.size > 200
  · rw [if_pos c4]; exact ⟨false, rfl, fun h => (by cases h)⟩
  rw [if_neg c4]
  by_cases c5 : (a19.size : Int) + a20.size > 200
  · rw [if_pos c5]; exact ⟨false, rfl, fun h => (by cases h)⟩
  rw [if_neg c5]
  by_cases c6 : (a23.size : Int) > 300
  · rw [decide_eq_true c6, no]; exact ⟨false, rfl, fun h => (by cases h)⟩
  rw [decide_eq_false c6]
  simp only [roadbookref07_Few.j0, Bool.false_eq_true, if_false]
  obtain ⟨b, e, hb⟩ := few_l0 a0 a1 a2 a3 a4 a5 a6 a7 a8 a9 a10 a11 a12 a13 a14 a15 a16 a17 a18 a19 a20 a21 a22 a23 a24 (by omega) (by omega) a21.length k 0 (by omega) (by omega)
  exact ⟨b, e, fun h => ⟨by omega, by omega, by omega, by omega, by omega, by omega, rd_mem_61 fun j hj => (hb h).1 j (by omega) hj, rd_mem_63 (hb h).2⟩⟩

theorem rd_memM {l : List S58} {i : Nat} (h : i < l.length) : rd_T58 l (i : Int) ∈ l := by
  unfold rd_T58
  rw [Int.toNat_natCast, List.getD_eq_getElem?_getD, List.getElem?_eq_getElem h]
  exact List.getElem_mem h
theorem rd_extM {l m : List S58} (c : l.length = m.length) : (∀ j : Nat, 0 ≤ j → j < l.length → rd_T58 l (j : Int) = rd_T58 m (j : Int)) ↔ l = m := by
  refine ⟨fun h => ?_, fun h j _ _ => by rw [h]⟩
  apply List.ext_getElem c
  intro i h1 h2
  have := h i (by omega) h1
  unfold rd_T58 at this
  rwa [Int.toNat_natCast, List.getD_eq_getElem?_getD, List.getD_eq_getElem?_getD, List.getElem?_eq_getElem h1, List.getElem?_eq_getElem h2] at this

/-- The bounds of a message of few parts. -/
def FewB (x : S58) : Prop := x.f21.length ≤ 300 ∧ x.f24.length ≤ 60 ∧ x.f3.size + x.f6.size ≤ 200 ∧ x.f9.size + x.f11.size ≤ 200 ∧ x.f19.size + x.f20.size ≤ 200 ∧ x.f23.size ≤ 300 ∧ (∀ y ∈ x.f21, y.f0.size ≤ 50) ∧ ∀ y ∈ x.f24, y.f1.size ≤ 300
theorem fewall_l (l : List S58) (hl : l.length ≤ 1000) (hs : ∀ x ∈ l, (x.f3.size ≤ 140737488351232 ∧ x.f6.size ≤ 140737488351232 ∧ x.f9.size ≤ 140737488351232 ∧ x.f11.size ≤ 140737488351232 ∧ x.f19.size ≤ 140737488351232 ∧ x.f20.size ≤ 140737488351232)) (q : Nat) : ∀ (k i : Nat), q + 400 < k → l.length - i = q → ∃ b, roadbookref07_FewAll.l0 k l i = some b ∧ (b = true → ∀ j : Nat, i ≤ j → j < l.length → FewB (rd_T58 l (j : Int))) := by
  induction q with
  | zero =>
    intro k i hk hq
    obtain ⟨k, rfl⟩ : ∃ j, k = j + 1 := ⟨k - 1, by omega⟩
    rw [roadbookref07_FewAll.l0]
    rw [if_neg (by omega)]
    exact ⟨true, rfl, fun _ j h1 h2 => by omega⟩
  | succ q ih =>
    intro k i hk hq
    obtain ⟨k, rfl⟩ : ∃ j, k = j + 1 := ⟨k - 1, by omega⟩
    have h := hs _ (rd_memM (i := i) (by omega))
    rw [roadbookref07_FewAll.l0]
    obtain ⟨r, e, hr⟩ := few_f ((rd_T58 l (i : Int)).f0) ((rd_T58 l (i : Int)).f1) ((rd_T58 l (i : Int)).f2) ((rd_T58 l (i : Int)).f3) ((rd_T58 l (i : Int)).f4) ((rd_T58 l (i : Int)).f5) ((rd_T58 l (i : Int)).f6) ((rd_T58 l (i : Int)).f7) ((rd_T58 l (i : Int)).f8) ((rd_T58 l (i : Int)).f9) ((rd_T58 l (i : Int)).f10) ((rd_T58 l (i : Int)).f11) ((rd_T58 l (i : Int)).f12) ((rd_T58 l (i : Int)).f13) ((rd_T58 l (i : Int)).f14) ((rd_T58 l (i : Int)).f15) ((rd_T58 l (i : Int)).f16) ((rd_T58 l (i : Int)).f17) ((rd_T58 l (i : Int)).f18) ((rd_T58 l (i : Int)).f19) ((rd_T58 l (i : Int)).f20) ((rd_T58 l (i : Int)).f21) ((rd_T58 l (i : Int)).f22) ((rd_T58 l (i : Int)).f23) ((rd_T58 l (i : Int)).f24) h.1 h.2.1 h.2.2.1 h.2.2.2.1 h.2.2.2.2.1 h.2.2.2.2.2 k (by omega)
    rw [if_pos (by omega), if_pos (by omega), e, Option.bind_some]
    cases r with
    | true =>
      rw [if_pos rfl, wrap64_id (by omega) (by omega)]
      obtain ⟨b, e, hb'⟩ := ih k (i + 1) (by omega) (by omega)
      refine ⟨b, e, fun h j h1 h2 => ?_⟩
      by_cases d : j = i
      · rw [d]; exact hr rfl
      · exact hb' h j (by omega) h2
    | false =>
      rw [if_neg (by decide)]
      exact ⟨false, rfl, fun h => (by cases h)⟩
theorem fewall_f (l : List S58) (n : Int) (hn : n ≤ 1000) (hs : ∀ x ∈ l, (x.f3.size ≤ 140737488351232 ∧ x.f6.size ≤ 140737488351232 ∧ x.f9.size ≤ 140737488351232 ∧ x.f11.size ≤ 140737488351232 ∧ x.f19.size ≤ 140737488351232 ∧ x.f20.size ≤ 140737488351232)) (k : Nat) (hk : 1500 ≤ k) : ∃ b, roadbookref07_FewAll.f k l n = some b ∧ (b = true → (l.length : Int) ≤ n ∧ ∀ x ∈ l, FewB x) := by
  unfold roadbookref07_FewAll.f
  by_cases c : (l.length : Int) > n
  · rw [if_pos c]; exact ⟨false, rfl, fun h => (by cases h)⟩
  · rw [if_neg c]
    obtain ⟨b, e, h⟩ := fewall_l l (by omega) hs l.length k 0 (by omega) (by omega)
    refine ⟨b, e, fun hb => ⟨by omega, fun x hx => ?_⟩⟩
    obtain ⟨j, hj, rfl⟩ := List.getElem_of_mem hx
    have := h hb j (Nat.zero_le _) hj
    unfold rd_T58 at this
    rwa [Int.toNat_natCast, List.getD_eq_getElem?_getD, List.getElem?_eq_getElem hj] at this

theorem pdests_l (l m : List S61) (hm : l.length = m.length) (hl : l.length ≤ 1000000) (q : Nat) : ∀ (k i : Nat), q < k → l.length - i = q → ∃ b, api_Dest.l0 k l m (l.length : Int) i = some b ∧ (b = true ↔ ∀ j : Nat, i ≤ j → j < l.length → rd_T61 l (j : Int) = rd_T61 m (j : Int)) := by
  induction q with
  | zero =>
    intro k i hk hq
    obtain ⟨k, rfl⟩ : ∃ j, k = j + 1 := ⟨k - 1, by omega⟩
    simp only [api_Dest.l0]
    rw [if_neg (by omega)]
    exact ⟨true, rfl, ⟨fun _ j h1 h2 => by omega, fun _ => rfl⟩⟩
  | succ q ih =>
    intro k i hk hq
    obtain ⟨k, rfl⟩ : ∃ j, k = j + 1 := ⟨k - 1, by omega⟩
    simp only [api_Dest.l0]
    rw [if_pos (by omega), if_pos (by omega), if_pos (by omega), if_pos (by omega)]
    have key : (!((((rd_T61 l (i : Int)).f0).toList) == (((rd_T61 m (i : Int)).f0).toList)) || (!(((rd_T61 l (i : Int)).f1) == ((rd_T61 m (i : Int)).f1)))) = true ↔ ¬ rd_T61 l (i : Int) = rd_T61 m (i : Int) := by
      obtain ⟨x0, x1⟩ := rd_T61 l (i : Int)
      obtain ⟨y0, y1⟩ := rd_T61 m (i : Int)
      simp only [S61.mk.injEq, Bool.or_eq_true, Bool.not_eq_true', beq_eq_false_iff_ne, ne_eq, toList_inj]
      by_cases p : x0 = y0 <;> by_cases r : x1 = y1 <;> simp [p, r]
    by_cases c : rd_T61 l (i : Int) = rd_T61 m (i : Int)
    · rw [if_neg (fun h => key.mp h c), wrap64_id (by omega) (by omega)]
      obtain ⟨b, e, hb⟩ := ih k (i + 1) (by omega) (by omega)
      refine ⟨b, e, hb.trans ⟨fun h j h1 h2 => ?_, fun h j h1 h2 => h j (by omega) h2⟩⟩
      by_cases d : j = i
      · rw [d]; exact c
      · exact h j (by omega) h2
    · rw [if_pos (key.mpr c)]
      exact ⟨false, rfl, ⟨fun h => (by cases h), fun h => absurd (h i (by omega) (by omega)) c⟩⟩
theorem pdests_f (l m : List S61) (hl : l.length ≤ 1000000) (k : Nat) (hk : l.length < k) : ∃ b, api_Dest.f k l m = some b ∧ (b = true ↔ l = m) := by
  unfold api_Dest.f
  by_cases c : l.length = m.length
  · rw [if_pos (by omega)]
    obtain ⟨b, e, hb⟩ := pdests_l l m c hl l.length k 0 hk (by omega)
    refine ⟨b, e, hb.trans ⟨fun h => ?_, fun h j _ _ => by rw [h]⟩⟩
    apply List.ext_getElem c
    intro i h1 h2
    have := h i (by omega) h1
    unfold rd_T61 at this
    rwa [Int.toNat_natCast, List.getD_eq_getElem?_getD, List.getD_eq_getElem?_getD, List.getElem?_eq_getElem h1, List.getElem?_eq_getElem h2] at this
  · rw [if_neg (by omega)]
    exact ⟨false, rfl, ⟨fun h => (by cases h), fun h => absurd (by rw [h]) c⟩⟩
theorem psubsl_l (l m : List S63) (hm : l.length = m.length) (hl : l.length ≤ 1000000) (q : Nat) : ∀ (k i : Nat), q < k → l.length - i = q → ∃ b, api_Sub.l0 k l m (l.length : Int) i = some b ∧ (b = true ↔ ∀ j : Nat, i ≤ j → j < l.length → rd_T63 l (j : Int) = rd_T63 m (j : Int)) := by
  induction q with
  | zero =>
    intro k i hk hq
    obtain ⟨k, rfl⟩ : ∃ j, k = j + 1 := ⟨k - 1, by omega⟩
    simp only [api_Sub.l0]
    rw [if_neg (by omega)]
    exact ⟨true, rfl, ⟨fun _ j h1 h2 => by omega, fun _ => rfl⟩⟩
  | succ q ih =>
    intro k i hk hq
    obtain ⟨k, rfl⟩ : ∃ j, k = j + 1 := ⟨k - 1, by omega⟩
    simp only [api_Sub.l0]
    rw [if_pos (by omega), if_pos (by omega), if_pos (by omega), if_pos (by omega)]
    have key : (!(((rd_T63 l (i : Int)).f0) == ((rd_T63 m (i : Int)).f0)) || (!((((rd_T63 l (i : Int)).f1).toList) == (((rd_T63 m (i : Int)).f1).toList)))) = true ↔ ¬ rd_T63 l (i : Int) = rd_T63 m (i : Int) := by
      obtain ⟨x0, x1⟩ := rd_T63 l (i : Int)
      obtain ⟨y0, y1⟩ := rd_T63 m (i : Int)
      simp only [S63.mk.injEq, Bool.or_eq_true, Bool.not_eq_true', beq_eq_false_iff_ne, ne_eq, toList_inj]
      by_cases p : x0 = y0 <;> by_cases r : x1 = y1 <;> simp [p, r]
    by_cases c : rd_T63 l (i : Int) = rd_T63 m (i : Int)
    · rw [if_neg (fun h => key.mp h c), wrap64_id (by omega) (by omega)]
      obtain ⟨b, e, hb⟩ := ih k (i + 1) (by omega) (by omega)
      refine ⟨b, e, hb.trans ⟨fun h j h1 h2 => ?_, fun h j h1 h2 => h j (by omega) h2⟩⟩
      by_cases d : j = i
      · rw [d]; exact c
      · exact h j (by omega) h2
    · rw [if_pos (key.mpr c)]
      exact ⟨false, rfl, ⟨fun h => (by cases h), fun h => absurd (h i (by omega) (by omega)) c⟩⟩
theorem psubsl_f (l m : List S63) (hl : l.length ≤ 1000000) (k : Nat) (hk : l.length < k) : ∃ b, api_Sub.f k l m = some b ∧ (b = true ↔ l = m) := by
  unfold api_Sub.f
  by_cases c : l.length = m.length
  · rw [if_pos (by omega)]
    obtain ⟨b, e, hb⟩ := psubsl_l l m c hl l.length k 0 hk (by omega)
    refine ⟨b, e, hb.trans ⟨fun h => ?_, fun h j _ _ => by rw [h]⟩⟩
    apply List.ext_getElem c
    intro i h1 h2
    have := h i (by omega) h1
    unfold rd_T63 at this
    rwa [Int.toNat_natCast, List.getD_eq_getElem?_getD, List.getD_eq_getElem?_getD, List.getElem?_eq_getElem h1, List.getElem?_eq_getElem h2] at this
  · rw [if_neg (by omega)]
    exact ⟨false, rfl, ⟨fun h => (by cases h), fun h => absurd (by rw [h]) c⟩⟩
/-- The program's Same tells whether all fields are the same. -/
theorem msame_f (a0 : Int) (a1 : Int) (a2 : Int) (a3 : ByteArray) (a4 : Int) (a5 : Int) (a6 : ByteArray) (a7 : Int) (a8 : Int) (a9 : ByteArray) (a10 : Int) (a11 : ByteArray) (a12 : Int) (a13 : Int) (a14 : Int) (a15 : Int) (a16 : Int) (a17 : Int) (a18 : Int) (a19 : ByteArray) (a20 : ByteArray) (a21 : List S61) (a22 : Int) (a23 : ByteArray) (a24 : List S63) (b0 : Int) (b1 : Int) (b2 : Int) (b3 : ByteArray) (b4 : Int) (b5 : Int) (b6 : ByteArray) (b7 : Int) (b8 : Int) (b9 : ByteArray) (b10 : Int) (b11 : ByteArray) (b12 : Int) (b13 : Int) (b14 : Int) (b15 : Int) (b16 : Int) (b17 : Int) (b18 : Int) (b19 : ByteArray) (b20 : ByteArray) (b21 : List S61) (b22 : Int) (b23 : ByteArray) (b24 : List S63) (hd : a21.length ≤ 1000000) (hl : a24.length ≤ 1000000) (k : Nat) (hk : a21.length + a24.length + 3 ≤ k) :
    ∃ r, msg_Same.f k a0 a1 a2 a3 a4 a5 a6 a7 a8 a9 a10 a11 a12 a13 a14 a15 a16 a17 a18 a19 a20 a21 a22 a23 a24 b0 b1 b2 b3 b4 b5 b6 b7 b8 b9 b10 b11 b12 b13 b14 b15 b16 b17 b18 b19 b20 b21 b22 b23 b24 = some r ∧ (r = true ↔ a0 = b0 ∧ a1 = b1 ∧ a2 = b2 ∧ a3 = b3 ∧ a4 = b4 ∧ a5 = b5 ∧ a6 = b6 ∧ a7 = b7 ∧ a8 = b8 ∧ a9 = b9 ∧ a10 = b10 ∧ a11 = b11 ∧ a12 = b12 ∧ a13 = b13 ∧ a14 = b14 ∧ a15 = b15 ∧ a16 = b16 ∧ a17 = b17 ∧ a18 = b18 ∧ a19 = b19 ∧ a20 = b20 ∧ a21 = b21 ∧ a22 = b22 ∧ a23 = b23 ∧ a24 = b24) := by
  unfold msg_Same.f msg_strip.f
  rw [Option.bind_some, Option.bind_some]
  dsimp only
  have key : ((a0 == b0) && ((a1 == b1) && ((a2 == b2) && ((a4 == b4) && ((a5 == b5) && ((a7 == b7) && ((a8 == b8) && ((a10 == b10) && ((a12 == b12) && ((a13 == b13) && ((a14 == b14) && ((a15 == b15) && ((a16 == b16) && ((a17 == b17) && ((a18 == b18) && ((a22 == b22) && ((a3.toList == b3.toList) && ((a6.toList == b6.toList) && ((a9.toList == b9.toList) && ((a11.toList == b11.toList) && ((a19.toList == b19.toList) && ((a20.toList == b20.toList) && ((a23.toList == b23.toList)))))))))))))))))))))))) = true ↔ (a0 = b0 ∧ a1 = b1 ∧ a2 = b2 ∧ a4 = b4 ∧ a5 = b5 ∧ a7 = b7 ∧ a8 = b8 ∧ a10 = b10 ∧ a12 = b12 ∧ a13 = b13 ∧ a14 = b14 ∧ a15 = b15 ∧ a16 = b16 ∧ a17 = b17 ∧ a18 = b18 ∧ a22 = b22 ∧ a3 = b3 ∧ a6 = b6 ∧ a9 = b9 ∧ a11 = b11 ∧ a19 = b19 ∧ a20 = b20 ∧ a23 = b23) := by
    simp only [Bool.and_eq_true, beq_iff_eq, toList_inj]
  by_cases c : ((a0 == b0) && ((a1 == b1) && ((a2 == b2) && ((a4 == b4) && ((a5 == b5) && ((a7 == b7) && ((a8 == b8) && ((a10 == b10) && ((a12 == b12) && ((a13 == b13) && ((a14 == b14) && ((a15 == b15) && ((a16 == b16) && ((a17 == b17) && ((a18 == b18) && ((a22 == b22) && ((a3.toList == b3.toList) && ((a6.toList == b6.toList) && ((a9.toList == b9.toList) && ((a11.toList == b11.toList) && ((a19.toList == b19.toList) && ((a20.toList == b20.toList) && ((a23.toList == b23.toList)))))))))))))))))))))))) = true
  · rw [if_pos c]
    obtain ⟨c0, c1, c2, c4, c5, c7, c8, c10, c12, c13, c14, c15, c16, c17, c18, c22, c3, c6, c9, c11, c19, c20, c23⟩ := key.mp c
    obtain ⟨x, e1, hx⟩ := pdests_f a21 b21 hd k (by omega)
    rw [e1, Option.bind_some]
    cases x with
    | false => rw [if_neg (by decide)]; exact ⟨false, rfl, ⟨fun h => (by cases h), fun h => absurd (hx.mpr h.2.2.2.2.2.2.2.2.2.2.2.2.2.2.2.2.2.2.2.2.2.1) (by decide)⟩⟩
    | true =>
      rw [if_pos rfl]
      have c21 := hx.mp rfl
      obtain ⟨y, e2, hy⟩ := psubsl_f a24 b24 hl k (by omega)
      rw [e2, Option.bind_some]
      exact ⟨y, rfl, ⟨fun h => ⟨c0, c1, c2, c3, c4, c5, c6, c7, c8, c9, c10, c11, c12, c13, c14, c15, c16, c17, c18, c19, c20, c21, c22, c23, hy.mp h⟩, fun h => hy.mpr h.2.2.2.2.2.2.2.2.2.2.2.2.2.2.2.2.2.2.2.2.2.2.2.2⟩⟩
  · rw [if_neg c]
    exact ⟨false, rfl, ⟨fun h => (by cases h), fun h => absurd (key.mpr ⟨h.1, h.2.1, h.2.2.1, h.2.2.2.2.1, h.2.2.2.2.2.1, h.2.2.2.2.2.2.2.1, h.2.2.2.2.2.2.2.2.1, h.2.2.2.2.2.2.2.2.2.2.1, h.2.2.2.2.2.2.2.2.2.2.2.2.1, h.2.2.2.2.2.2.2.2.2.2.2.2.2.1, h.2.2.2.2.2.2.2.2.2.2.2.2.2.2.1, h.2.2.2.2.2.2.2.2.2.2.2.2.2.2.2.1, h.2.2.2.2.2.2.2.2.2.2.2.2.2.2.2.2.1, h.2.2.2.2.2.2.2.2.2.2.2.2.2.2.2.2.2.1, h.2.2.2.2.2.2.2.2.2.2.2.2.2.2.2.2.2.2.1, h.2.2.2.2.2.2.2.2.2.2.2.2.2.2.2.2.2.2.2.2.2.2.1, h.2.2.2.1, h.2.2.2.2.2.2.1, h.2.2.2.2.2.2.2.2.2.1, h.2.2.2.2.2.2.2.2.2.2.2.1, h.2.2.2.2.2.2.2.2.2.2.2.2.2.2.2.2.2.2.2.1, h.2.2.2.2.2.2.2.2.2.2.2.2.2.2.2.2.2.2.2.2.1, h.2.2.2.2.2.2.2.2.2.2.2.2.2.2.2.2.2.2.2.2.2.2.2.1⟩) c⟩⟩

theorem psame_one (x y : S58) (hx : (x.f21.length ≤ 300 ∧ x.f24.length ≤ 60)) (k : Nat) (hk : 363 ≤ k) : ∃ r, msg_Same.f k (x.f0) (x.f1) (x.f2) (x.f3) (x.f4) (x.f5) (x.f6) (x.f7) (x.f8) (x.f9) (x.f10) (x.f11) (x.f12) (x.f13) (x.f14) (x.f15) (x.f16) (x.f17) (x.f18) (x.f19) (x.f20) (x.f21) (x.f22) (x.f23) (x.f24) (y.f0) (y.f1) (y.f2) (y.f3) (y.f4) (y.f5) (y.f6) (y.f7) (y.f8) (y.f9) (y.f10) (y.f11) (y.f12) (y.f13) (y.f14) (y.f15) (y.f16) (y.f17) (y.f18) (y.f19) (y.f20) (y.f21) (y.f22) (y.f23) (y.f24) = some r ∧ (r = true ↔ x = y) := by
  obtain ⟨x0, x1, x2, x3, x4, x5, x6, x7, x8, x9, x10, x11, x12, x13, x14, x15, x16, x17, x18, x19, x20, x21, x22, x23, x24⟩ := x
  obtain ⟨y0, y1, y2, y3, y4, y5, y6, y7, y8, y9, y10, y11, y12, y13, y14, y15, y16, y17, y18, y19, y20, y21, y22, y23, y24⟩ := y
  dsimp only at hx
  obtain ⟨r, e, h⟩ := msame_f x0 x1 x2 x3 x4 x5 x6 x7 x8 x9 x10 x11 x12 x13 x14 x15 x16 x17 x18 x19 x20 x21 x22 x23 x24 y0 y1 y2 y3 y4 y5 y6 y7 y8 y9 y10 y11 y12 y13 y14 y15 y16 y17 y18 y19 y20 y21 y22 y23 y24 (by omega) (by omega) k (by omega)
  exact ⟨r, e, by rw [S58.mk.injEq]; exact h⟩
theorem psame_l (l m : List S58) (hm : l.length = m.length) (hl : l.length ≤ 1000) (hb : ∀ x ∈ l, (x.f21.length ≤ 300 ∧ x.f24.length ≤ 60)) (q : Nat) : ∀ (k i : Nat), q + 363 < k → l.length - i = q → ∃ b, api_Msg.l0 k m l (l.length : Int) i = some b ∧ (b = true ↔ ∀ j : Nat, i ≤ j → j < l.length → rd_T58 l (j : Int) = rd_T58 m (j : Int)) := by
  induction q with
  | zero =>
    intro k i hk hq
    obtain ⟨k, rfl⟩ : ∃ j, k = j + 1 := ⟨k - 1, by omega⟩
    rw [api_Msg.l0]
    rw [if_neg (by omega)]
    exact ⟨true, rfl, ⟨fun _ j h1 h2 => by omega, fun _ => rfl⟩⟩
  | succ q ih =>
    intro k i hk hq
    obtain ⟨k, rfl⟩ : ∃ j, k = j + 1 := ⟨k - 1, by omega⟩
    rw [api_Msg.l0]
    obtain ⟨r, e, hr⟩ := psame_one (rd_T58 l (i : Int)) (rd_T58 m (i : Int)) (hb _ (rd_memM (by omega))) k (by omega)
    rw [if_pos (by omega), if_pos (by omega), if_pos (by omega), if_pos (by omega), e, Option.bind_some]
    cases r with
    | true =>
      have c := hr.mp rfl
      rw [if_pos rfl, wrap64_id (by omega) (by omega)]
      obtain ⟨b, e, hb'⟩ := ih k (i + 1) (by omega) (by omega)
      refine ⟨b, e, hb'.trans ⟨fun h j h1 h2 => ?_, fun h j h1 h2 => h j (by omega) h2⟩⟩
      by_cases d : j = i
      · rw [d]; exact c
      · exact h j (by omega) h2
    | false =>
      rw [if_neg (by decide)]
      exact ⟨false, rfl, ⟨fun h => (by cases h), fun h => absurd (hr.mpr (h i (by omega) (by omega))) (by decide)⟩⟩
theorem psameall_f (l m : List S58) (hl : l.length ≤ 1000) (hb : ∀ x ∈ l, (x.f21.length ≤ 300 ∧ x.f24.length ≤ 60)) (k : Nat) (hk : l.length + 363 < k) : ∃ b, msg_SameAll.f k l m = some b ∧ (b = true ↔ l = m) := by
  unfold msg_SameAll.f api_Msg.f
  by_cases c : l.length = m.length
  · rw [if_pos (by omega)]
    obtain ⟨b, e, h⟩ := psame_l l m c hl hb l.length k 0 hk (by omega)
    exact ⟨b, by rw [show ((0 : Nat) : Int) = 0 from rfl] at e; rw [e, Option.bind_some], h.trans (rd_extM c)⟩
  · rw [if_neg (by omega), Option.bind_some]
    exact ⟨false, rfl, ⟨fun h => (by cases h), fun h => absurd (by rw [h]) c⟩⟩

theorem dests_l (l m : List S61) (hm : l.length = m.length) (hl : l.length ≤ 1000000) (q : Nat) : ∀ (k i : Nat), q < k → l.length - i = q → ∃ b, roadbookref07_dests.l0 k l m i = some b ∧ (b = true ↔ ∀ j : Nat, i ≤ j → j < l.length → rd_T61 l (j : Int) = rd_T61 m (j : Int)) := by
  induction q with
  | zero =>
    intro k i hk hq
    obtain ⟨k, rfl⟩ : ∃ j, k = j + 1 := ⟨k - 1, by omega⟩
    simp only [roadbookref07_dests.l0]
    rw [if_neg (by omega)]
    exact ⟨true, rfl, ⟨fun _ j h1 h2 => by omega, fun _ => rfl⟩⟩
  | succ q ih =>
    intro k i hk hq
    obtain ⟨k, rfl⟩ : ∃ j, k = j + 1 := ⟨k - 1, by omega⟩
    simp only [roadbookref07_dests.l0]
    rw [if_pos (by omega), if_pos (by omega), if_pos (by omega)]
    have key : (!((((rd_T61 l (i : Int)).f0).toList) == (((rd_T61 m (i : Int)).f0).toList)) || (!(((rd_T61 l (i : Int)).f1) == ((rd_T61 m (i : Int)).f1)))) = true ↔ ¬ rd_T61 l (i : Int) = rd_T61 m (i : Int) := by
      obtain ⟨x0, x1⟩ := rd_T61 l (i : Int)
      obtain ⟨y0, y1⟩ := rd_T61 m (i : Int)
      simp only [S61.mk.injEq, Bool.or_eq_true, Bool.not_eq_true', beq_eq_false_iff_ne, ne_eq, toList_inj]
      by_cases p : x0 = y0 <;> by_cases r : x1 = y1 <;> simp [p, r]
    by_cases c : rd_T61 l (i : Int) = rd_T61 m (i : Int)
    · rw [if_neg (fun h => key.mp h c), wrap64_id (by omega) (by omega)]
      obtain ⟨b, e, hb⟩ := ih k (i + 1) (by omega) (by omega)
      refine ⟨b, e, hb.trans ⟨fun h j h1 h2 => ?_, fun h j h1 h2 => h j (by omega) h2⟩⟩
      by_cases d : j = i
      · rw [d]; exact c
      · exact h j (by omega) h2
    · rw [if_pos (key.mpr c)]
      exact ⟨false, rfl, ⟨fun h => (by cases h), fun h => absurd (h i (by omega) (by omega)) c⟩⟩
theorem dests_f (l m : List S61) (hl : l.length ≤ 1000000) (k : Nat) (hk : l.length < k) : ∃ b, roadbookref07_dests.f k l m = some b ∧ (b = true ↔ l = m) := by
  unfold roadbookref07_dests.f
  by_cases c : l.length = m.length
  · rw [if_pos (by omega)]
    obtain ⟨b, e, hb⟩ := dests_l l m c hl l.length k 0 hk (by omega)
    refine ⟨b, e, hb.trans ⟨fun h => ?_, fun h j _ _ => by rw [h]⟩⟩
    apply List.ext_getElem c
    intro i h1 h2
    have := h i (by omega) h1
    unfold rd_T61 at this
    rwa [Int.toNat_natCast, List.getD_eq_getElem?_getD, List.getD_eq_getElem?_getD, List.getElem?_eq_getElem h1, List.getElem?_eq_getElem h2] at this
  · rw [if_neg (by omega)]
    exact ⟨false, rfl, ⟨fun h => (by cases h), fun h => absurd (by rw [h]) c⟩⟩
theorem subs_l (l m : List S63) (hm : l.length = m.length) (hl : l.length ≤ 1000000) (q : Nat) : ∀ (k i : Nat), q < k → l.length - i = q → ∃ b, roadbookref07_subs.l0 k l m i = some b ∧ (b = true ↔ ∀ j : Nat, i ≤ j → j < l.length → rd_T63 l (j : Int) = rd_T63 m (j : Int)) := by
  induction q with
  | zero =>
    intro k i hk hq
    obtain ⟨k, rfl⟩ : ∃ j, k = j + 1 := ⟨k - 1, by omega⟩
    simp only [roadbookref07_subs.l0]
    rw [if_neg (by omega)]
    exact ⟨true, rfl, ⟨fun _ j h1 h2 => by omega, fun _ => rfl⟩⟩
  | succ q ih =>
    intro k i hk hq
    obtain ⟨k, rfl⟩ : ∃ j, k = j + 1 := ⟨k - 1, by omega⟩
    simp only [roadbookref07_subs.l0]
    rw [if_pos (by omega), if_pos (by omega), if_pos (by omega)]
    have key : (!(((rd_T63 l (i : Int)).f0) == ((rd_T63 m (i : Int)).f0)) || (!((((rd_T63 l (i : Int)).f1).toList) == (((rd_T63 m (i : Int)).f1).toList)))) = true ↔ ¬ rd_T63 l (i : Int) = rd_T63 m (i : Int) := by
      obtain ⟨x0, x1⟩ := rd_T63 l (i : Int)
      obtain ⟨y0, y1⟩ := rd_T63 m (i : Int)
      simp only [S63.mk.injEq, Bool.or_eq_true, Bool.not_eq_true', beq_eq_false_iff_ne, ne_eq, toList_inj]
      by_cases p : x0 = y0 <;> by_cases r : x1 = y1 <;> simp [p, r]
    by_cases c : rd_T63 l (i : Int) = rd_T63 m (i : Int)
    · rw [if_neg (fun h => key.mp h c), wrap64_id (by omega) (by omega)]
      obtain ⟨b, e, hb⟩ := ih k (i + 1) (by omega) (by omega)
      refine ⟨b, e, hb.trans ⟨fun h j h1 h2 => ?_, fun h j h1 h2 => h j (by omega) h2⟩⟩
      by_cases d : j = i
      · rw [d]; exact c
      · exact h j (by omega) h2
    · rw [if_pos (key.mpr c)]
      exact ⟨false, rfl, ⟨fun h => (by cases h), fun h => absurd (h i (by omega) (by omega)) c⟩⟩
theorem subs_f (l m : List S63) (hl : l.length ≤ 1000000) (k : Nat) (hk : l.length < k) : ∃ b, roadbookref07_subs.f k l m = some b ∧ (b = true ↔ l = m) := by
  unfold roadbookref07_subs.f
  by_cases c : l.length = m.length
  · rw [if_pos (by omega)]
    obtain ⟨b, e, hb⟩ := subs_l l m c hl l.length k 0 hk (by omega)
    refine ⟨b, e, hb.trans ⟨fun h => ?_, fun h j _ _ => by rw [h]⟩⟩
    apply List.ext_getElem c
    intro i h1 h2
    have := h i (by omega) h1
    unfold rd_T63 at this
    rwa [Int.toNat_natCast, List.getD_eq_getElem?_getD, List.getD_eq_getElem?_getD, List.getElem?_eq_getElem h1, List.getElem?_eq_getElem h2] at this
  · rw [if_neg (by omega)]
    exact ⟨false, rfl, ⟨fun h => (by cases h), fun h => absurd (by rw [h]) c⟩⟩
/-- The reference's Same tells whether all fields are the same. -/
theorem same_f (a0 : Int) (a1 : Int) (a2 : Int) (a3 : ByteArray) (a4 : Int) (a5 : Int) (a6 : ByteArray) (a7 : Int) (a8 : Int) (a9 : ByteArray) (a10 : Int) (a11 : ByteArray) (a12 : Int) (a13 : Int) (a14 : Int) (a15 : Int) (a16 : Int) (a17 : Int) (a18 : Int) (a19 : ByteArray) (a20 : ByteArray) (a21 : List S61) (a22 : Int) (a23 : ByteArray) (a24 : List S63) (b0 : Int) (b1 : Int) (b2 : Int) (b3 : ByteArray) (b4 : Int) (b5 : Int) (b6 : ByteArray) (b7 : Int) (b8 : Int) (b9 : ByteArray) (b10 : Int) (b11 : ByteArray) (b12 : Int) (b13 : Int) (b14 : Int) (b15 : Int) (b16 : Int) (b17 : Int) (b18 : Int) (b19 : ByteArray) (b20 : ByteArray) (b21 : List S61) (b22 : Int) (b23 : ByteArray) (b24 : List S63) (hd : a21.length ≤ 1000000) (hl : a24.length ≤ 1000000) (k : Nat) (hk : a21.length + a24.length + 3 ≤ k) :
    ∃ r, roadbookref07_Same.f k a0 a1 a2 a3 a4 a5 a6 a7 a8 a9 a10 a11 a12 a13 a14 a15 a16 a17 a18 a19 a20 a21 a22 a23 a24 b0 b1 b2 b3 b4 b5 b6 b7 b8 b9 b10 b11 b12 b13 b14 b15 b16 b17 b18 b19 b20 b21 b22 b23 b24 = some r ∧ (r = true ↔ a0 = b0 ∧ a1 = b1 ∧ a2 = b2 ∧ a3 = b3 ∧ a4 = b4 ∧ a5 = b5 ∧ a6 = b6 ∧ a7 = b7 ∧ a8 = b8 ∧ a9 = b9 ∧ a10 = b10 ∧ a11 = b11 ∧ a12 = b12 ∧ a13 = b13 ∧ a14 = b14 ∧ a15 = b15 ∧ a16 = b16 ∧ a17 = b17 ∧ a18 = b18 ∧ a19 = b19 ∧ a20 = b20 ∧ a21 = b21 ∧ a22 = b22 ∧ a23 = b23 ∧ a24 = b24) := by
  obtain ⟨k, rfl⟩ : ∃ j, k = j + 2 := ⟨k - 2, by omega⟩
  have no1 : roadbookref07_Same.j1 (k + 1) true a0 a1 a2 a3 a4 a5 a6 a7 a8 a9 a10 a11 a12 a13 a14 a15 a16 a17 a18 a19 a20 a21 a22 a23 a24 b0 b1 b2 b3 b4 b5 b6 b7 b8 b9 b10 b11 b12 b13 b14 b15 b16 b17 b18 b19 b20 b21 b22 b23 b24 = some false := by simp only [roadbookref07_Same.j1, if_true]
  have no0 : roadbookref07_Same.j0 (k + 2) true a0 a1 a2 a3 a4 a5 a6 a7 a8 a9 a10 a11 a12 a13 a14 a15 a16 a17 a18 a19 a20 a21 a22 a23 a24 b0 b1 b2 b3 b4 b5 b6 b7 b8 b9 b10 b11 b12 b13 b14 b15 b16 b17 b18 b19 b20 b21 b22 b23 b24 = some false := by simp only [roadbookref07_Same.j0, if_true]
  unfold roadbookref07_Same.f
  rw [no0]
  by_cases c0 : a0 = b0
  rotate_left
  · rw [if_neg c0]; exact ⟨false, rfl, ⟨fun h => (by cases h), fun h => absurd (h.1) c0⟩⟩
  rw [if_pos c0]
  by_cases c1 : a1 = b1
  rotate_left
  · rw [if_neg c1]; exact ⟨false, rfl, ⟨fun h => (by cases h), fun h => absurd (h.2.1) c1⟩⟩
  rw [if_pos c1]
  by_cases c2 : a2 = b2
  rotate_left
  · rw [if_neg c2]; exact ⟨false, rfl, ⟨fun h => (by cases h), fun h => absurd (h.2.2.1) c2⟩⟩
  rw [if_pos c2]
  by_cases c3 : a3.toList = b3.toList
  rotate_left
  · rw [if_neg c3]; exact ⟨false, rfl, ⟨fun h => (by cases h), fun h => absurd (congrArg ByteArray.toList (h.2.2.2.1)) c3⟩⟩
  rw [if_pos c3]
  by_cases c4 : a4 = b4
  rotate_left
  · rw [if_neg c4]; exact ⟨false, rfl, ⟨fun h => (by cases h), fun h => absurd (h.2.2.2.2.1) c4⟩⟩
  rw [if_pos c4]
  by_cases c5 : a5 = b5
  rotate_left
  · rw [if_neg c5]; exact ⟨false, rfl, ⟨fun h => (by cases h), fun h => absurd (h.2.2.2.2.2.1) c5⟩⟩
  rw [if_pos c5]
  by_cases c6 : a6.toList = b6.toList
  rotate_left
  · rw [if_neg c6]; exact ⟨false, rfl, ⟨fun h => (by cases h), fun h => absurd (congrArg ByteArray.toList (h.2.2.2.2.2.2.1)) c6⟩⟩
  rw [if_pos c6]
  by_cases c7 : a7 = b7
  rotate_left
  · rw [if_neg c7]; exact ⟨false, rfl, ⟨fun h => (by cases h), fun h => absurd (h.2.2.2.2.2.2.2.1) c7⟩⟩
  rw [if_pos c7]
  by_cases c8 : a8 = b8
  rotate_left
  · rw [if_neg c8]; exact ⟨false, rfl, ⟨fun h => (by cases h), fun h => absurd (h.2.2.2.2.2.2.2.2.1) c8⟩⟩
  rw [if_pos c8]
  by_cases c9 : a9.toList = b9.toList
  rotate_left
  · rw [if_neg c9]; exact ⟨false, rfl, ⟨fun h => (by cases h), fun h => absurd (congrArg ByteArray.toList (h.2.2.2.2.2.2.2.2.2.1)) c9⟩⟩
  rw [if_pos c9]
  by_cases c10 : a10 = b10
  rotate_left
  · rw [bne_iff_ne.mpr c10, no0]; exact ⟨false, rfl, ⟨fun h => (by cases h), fun h => absurd h.2.2.2.2.2.2.2.2.2.2.1 c10⟩⟩
  rw [bne_eq_false_iff_eq.mpr c10]
  simp only [roadbookref07_Same.j0, Bool.false_eq_true, if_false]
  rw [no1]
  by_cases c11 : a11.toList = b11.toList
  rotate_left
  · rw [if_neg c11]; exact ⟨false, rfl, ⟨fun h => (by cases h), fun h => absurd (congrArg ByteArray.toList (h.2.2.2.2.2.2.2.2.2.2.2.1)) c11⟩⟩
  rw [if_pos c11]
  by_cases c12 : a12 = b12
  rotate_left
  · rw [if_neg c12]; exact ⟨false, rfl, ⟨fun h => (by cases h), fun h => absurd (h.2.2.2.2.2.2.2.2.2.2.2.2.1) c12⟩⟩
  rw [if_pos c12]
  by_cases c13 : a13 = b13
  rotate_left
  · rw [if_neg c13]; exact ⟨false, rfl, ⟨fun h => (by cases h), fun h => absurd (h.2.2.2.2.2.2.2.2.2.2.2.2.2.1) c13⟩⟩
  rw [if_pos c13]
  by_cases c14 : a14 = b14
  rotate_left
  · rw [if_neg c14]; exact ⟨false, rfl, ⟨fun h => (by cases h), fun h => absurd (h.2.2.2.2.2.2.2.2.2.2.2.2.2.2.1) c14⟩⟩
  rw [if_pos c14]
  by_cases c15 : a15 = b15
  rotate_left
  · rw [if_neg c15]; exact ⟨false, rfl, ⟨fun h => (by cases h), fun h => absurd (h.2.2.2.2.2.2.2.2.2.2.2.2.2.2.2.1) c15⟩⟩
  rw [if_pos c15]
  by_cases c16 : a16 = b16
  rotate_left
  · rw [if_neg c16]; exact ⟨false, rfl, ⟨fun h => (by cases h), fun h => absurd (h.2.2.2.2.2.2.2.2.2.2.2.2.2.2.2.2.1) c16⟩⟩
  rw [if_pos c16]
  by_cases c17 : a17 = b17
  rotate_left
  · rw [if_neg c17]; exact ⟨false, rfl, ⟨fun h => (by cases h), fun h => absurd (h.2.2.2.2.2.2.2.2.2.2.2.2.2.2.2.2.2.1) c17⟩⟩
  rw [if_pos c17]
  by_cases c18 : a18 = b18
  rotate_left
  · rw [if_neg c18]; exact ⟨false, rfl, ⟨fun h => (by cases h), fun h => absurd (h.2.2.2.2.2.2.2.2.2.2.2.2.2.2.2.2.2.2.1) c18⟩⟩
  rw [if_pos c18]
  by_cases c19 : a19.toList = b19.toList
  rotate_left
  · rw [if_neg c19]; exact ⟨false, rfl, ⟨fun h => (by cases h), fun h => absurd (congrArg ByteArray.toList (h.2.2.2.2.2.2.2.2.2.2.2.2.2.2.2.2.2.2.2.1)) c19⟩⟩
  rw [if_pos c19]
  by_cases c20 : a20.toList = b20.toList
  rotate_left
  · rw [if_neg c20]; exact ⟨false, rfl, ⟨fun h => (by cases h), fun h => absurd (congrArg ByteArray.toList (h.2.2.2.2.2.2.2.2.2.2.2.2.2.2.2.2.2.2.2.2.1)) c20⟩⟩
  rw [if_pos c20]
  by_cases c22 : a22 = b22
  rotate_left
  · rw [if_neg c22]; exact ⟨false, rfl, ⟨fun h => (by cases h), fun h => absurd (h.2.2.2.2.2.2.2.2.2.2.2.2.2.2.2.2.2.2.2.2.2.2.1) c22⟩⟩
  rw [if_pos c22]
  by_cases c23 : a23.toList = b23.toList
  rotate_left
  · rw [bne_iff_ne.mpr c23, no1]; exact ⟨false, rfl, ⟨fun h => (by cases h), fun h => absurd (congrArg ByteArray.toList h.2.2.2.2.2.2.2.2.2.2.2.2.2.2.2.2.2.2.2.2.2.2.2.1) c23⟩⟩
  rw [bne_eq_false_iff_eq.mpr c23]
  simp only [roadbookref07_Same.j1, Bool.false_eq_true, if_false]
  obtain ⟨x, ex, hx⟩ := dests_f a21 b21 hd k (by omega)
  obtain ⟨y, ey, hy⟩ := subs_f a24 b24 hl k (by omega)
  rw [ex, ey, Option.bind_some, Option.bind_some]
  have e3 := toList_inj.mp c3
  have e6 := toList_inj.mp c6
  have e9 := toList_inj.mp c9
  have e11 := toList_inj.mp c11
  have e19 := toList_inj.mp c19
  have e20 := toList_inj.mp c20
  have e23 := toList_inj.mp c23
  cases x with
  | false => rw [if_neg (by decide)]; exact ⟨false, rfl, ⟨fun h => (by cases h), fun h => absurd (hx.mpr h.2.2.2.2.2.2.2.2.2.2.2.2.2.2.2.2.2.2.2.2.2.1) (by decide)⟩⟩
  | true =>
    rw [if_pos rfl]
    have c21 := hx.mp rfl
    exact ⟨y, rfl, ⟨fun h => ⟨c0, c1, c2, e3, c4, c5, e6, c7, c8, e9, c10, e11, c12, c13, c14, c15, c16, c17, c18, e19, e20, c21, c22, e23, hy.mp h⟩, fun h => hy.mpr h.2.2.2.2.2.2.2.2.2.2.2.2.2.2.2.2.2.2.2.2.2.2.2.2⟩⟩
/-- Messages that are the same are told so. -/
theorem same_self (a0 : Int) (a1 : Int) (a2 : Int) (a3 : ByteArray) (a4 : Int) (a5 : Int) (a6 : ByteArray) (a7 : Int) (a8 : Int) (a9 : ByteArray) (a10 : Int) (a11 : ByteArray) (a12 : Int) (a13 : Int) (a14 : Int) (a15 : Int) (a16 : Int) (a17 : Int) (a18 : Int) (a19 : ByteArray) (a20 : ByteArray) (a21 : List S61) (a22 : Int) (a23 : ByteArray) (a24 : List S63) (hd : a21.length ≤ 1000000) (hl : a24.length ≤ 1000000) (k : Nat) (hk : a21.length + a24.length + 3 ≤ k) : roadbookref07_Same.f k a0 a1 a2 a3 a4 a5 a6 a7 a8 a9 a10 a11 a12 a13 a14 a15 a16 a17 a18 a19 a20 a21 a22 a23 a24 a0 a1 a2 a3 a4 a5 a6 a7 a8 a9 a10 a11 a12 a13 a14 a15 a16 a17 a18 a19 a20 a21 a22 a23 a24 = some true := by
  obtain ⟨r, e, hr⟩ := same_f a0 a1 a2 a3 a4 a5 a6 a7 a8 a9 a10 a11 a12 a13 a14 a15 a16 a17 a18 a19 a20 a21 a22 a23 a24 a0 a1 a2 a3 a4 a5 a6 a7 a8 a9 a10 a11 a12 a13 a14 a15 a16 a17 a18 a19 a20 a21 a22 a23 a24 hd hl k hk
  rw [e, hr.mpr ⟨rfl, rfl, rfl, rfl, rfl, rfl, rfl, rfl, rfl, rfl, rfl, rfl, rfl, rfl, rfl, rfl, rfl, rfl, rfl, rfl, rfl, rfl, rfl, rfl, rfl⟩]

theorem rsame_one (x y : S58) (hx : (x.f21.length ≤ 300 ∧ x.f24.length ≤ 60)) (k : Nat) (hk : 363 ≤ k) : ∃ r, roadbookref07_Same.f k (x.f0) (x.f1) (x.f2) (x.f3) (x.f4) (x.f5) (x.f6) (x.f7) (x.f8) (x.f9) (x.f10) (x.f11) (x.f12) (x.f13) (x.f14) (x.f15) (x.f16) (x.f17) (x.f18) (x.f19) (x.f20) (x.f21) (x.f22) (x.f23) (x.f24) (y.f0) (y.f1) (y.f2) (y.f3) (y.f4) (y.f5) (y.f6) (y.f7) (y.f8) (y.f9) (y.f10) (y.f11) (y.f12) (y.f13) (y.f14) (y.f15) (y.f16) (y.f17) (y.f18) (y.f19) (y.f20) (y.f21) (y.f22) (y.f23) (y.f24) = some r ∧ (r = true ↔ x = y) := by
  obtain ⟨x0, x1, x2, x3, x4, x5, x6, x7, x8, x9, x10, x11, x12, x13, x14, x15, x16, x17, x18, x19, x20, x21, x22, x23, x24⟩ := x
  obtain ⟨y0, y1, y2, y3, y4, y5, y6, y7, y8, y9, y10, y11, y12, y13, y14, y15, y16, y17, y18, y19, y20, y21, y22, y23, y24⟩ := y
  dsimp only at hx
  obtain ⟨r, e, h⟩ := same_f x0 x1 x2 x3 x4 x5 x6 x7 x8 x9 x10 x11 x12 x13 x14 x15 x16 x17 x18 x19 x20 x21 x22 x23 x24 y0 y1 y2 y3 y4 y5 y6 y7 y8 y9 y10 y11 y12 y13 y14 y15 y16 y17 y18 y19 y20 y21 y22 y23 y24 (by omega) (by omega) k (by omega)
  exact ⟨r, e, by rw [S58.mk.injEq]; exact h⟩
theorem rsame_l (l m : List S58) (hm : l.length = m.length) (hl : l.length ≤ 1000) (hb : ∀ x ∈ l, (x.f21.length ≤ 300 ∧ x.f24.length ≤ 60)) (q : Nat) : ∀ (k i : Nat), q + 363 < k → l.length - i = q → ∃ b, roadbookref07_SameAll.l0 k l m i = some b ∧ (b = true ↔ ∀ j : Nat, i ≤ j → j < l.length → rd_T58 l (j : Int) = rd_T58 m (j : Int)) := by
  induction q with
  | zero =>
    intro k i hk hq
    obtain ⟨k, rfl⟩ : ∃ j, k = j + 1 := ⟨k - 1, by omega⟩
    rw [roadbookref07_SameAll.l0]
    rw [if_neg (by omega)]
    exact ⟨true, rfl, ⟨fun _ j h1 h2 => by omega, fun _ => rfl⟩⟩
  | succ q ih =>
    intro k i hk hq
    obtain ⟨k, rfl⟩ : ∃ j, k = j + 1 := ⟨k - 1, by omega⟩
    rw [roadbookref07_SameAll.l0]
    obtain ⟨r, e, hr⟩ := rsame_one (rd_T58 l (i : Int)) (rd_T58 m (i : Int)) (hb _ (rd_memM (by omega))) k (by omega)
    rw [if_pos (by omega), if_pos (by omega), if_pos (by omega), e, Option.bind_some]
    cases r with
    | true =>
      have c := hr.mp rfl
      rw [if_pos rfl, wrap64_id (by omega) (by omega)]
      obtain ⟨b, e, hb'⟩ := ih k (i + 1) (by omega) (by omega)
      refine ⟨b, e, hb'.trans ⟨fun h j h1 h2 => ?_, fun h j h1 h2 => h j (by omega) h2⟩⟩
      by_cases d : j = i
      · rw [d]; exact c
      · exact h j (by omega) h2
    | false =>
      rw [if_neg (by decide)]
      exact ⟨false, rfl, ⟨fun h => (by cases h), fun h => absurd (hr.mpr (h i (by omega) (by omega))) (by decide)⟩⟩
theorem refsameall_f (l m : List S58) (hl : l.length ≤ 1000) (hb : ∀ x ∈ l, (x.f21.length ≤ 300 ∧ x.f24.length ≤ 60)) (k : Nat) (hk : l.length + 363 < k) : ∃ b, roadbookref07_SameAll.f k l m = some b ∧ (b = true ↔ l = m) := by
  unfold roadbookref07_SameAll.f
  by_cases c : l.length = m.length
  · rw [if_pos (by omega)]
    obtain ⟨b, e, h⟩ := rsame_l l m c hl hb l.length k 0 hk (by omega)
    exact ⟨b, e, h.trans (rd_extM c)⟩
  · rw [if_neg (by omega)]
    exact ⟨false, rfl, ⟨fun h => (by cases h), fun h => absurd (by rw [h]) c⟩⟩

theorem MsgLists : roadbooklaw07_MsgLists.Pure := by
  intro l m g g'
  refine ⟨5000, ?_⟩
  have hs : ∀ (x : S58), good58 x → (x.f3.size ≤ 140737488351232 ∧ x.f6.size ≤ 140737488351232 ∧ x.f9.size ≤ 140737488351232 ∧ x.f11.size ≤ 140737488351232 ∧ x.f19.size ≤ 140737488351232 ∧ x.f20.size ≤ 140737488351232) := fun x h => ⟨h.2.2.2.1, h.2.2.2.2.2.2.1, h.2.2.2.2.2.2.2.2.2.1, h.2.2.2.2.2.2.2.2.2.2.2.1, h.2.2.2.2.2.2.2.2.2.2.2.2.2.2.2.2.2.2.2.1, h.2.2.2.2.2.2.2.2.2.2.2.2.2.2.2.2.2.2.2.2.1⟩
  unfold roadbooklaw07_MsgLists.f
  have aw : roadbooklaw07_MsgLists.j0 5000 l m true = some true := by
    simp only [roadbooklaw07_MsgLists.j0, if_true]
    rw [msgawake_f 4999 (by omega)]; rfl
  obtain ⟨b, e, hb⟩ := fewall_f l 20 (by omega) (fun x hx => hs x (g.2 x hx)) 5000 (by omega)
  obtain ⟨b', e', hb'⟩ := fewall_f m 20 (by omega) (fun x hx => hs x (g'.2 x hx)) 5000 (by omega)
  rw [e, Option.bind_some, e', aw]
  cases b with
  | false => rw [if_neg (by decide)]
  | true =>
    rw [if_pos rfl, Option.bind_some]
    cases b' with
    | false => exact aw
    | true =>
      obtain ⟨d1, d2⟩ := hb rfl
      have d3 : ∀ x ∈ l, (x.f21.length ≤ 300 ∧ x.f24.length ≤ 60) := fun x hx => ⟨(d2 x hx).1, (d2 x hx).2.1⟩
      show roadbooklaw07_MsgLists.j0 5000 l m false = some true
      simp only [roadbooklaw07_MsgLists.j0, Bool.false_eq_true, if_false]
      rw [msgawake_f 4999 (by omega), Option.bind_some, if_pos rfl]
      obtain ⟨r, e1, hr⟩ := psameall_f l m (by omega) d3 4999 (by omega)
      obtain ⟨r', e2, hr'⟩ := refsameall_f l m (by omega) d3 4999 (by omega)
      obtain ⟨s, e3, hs⟩ := psameall_f l l (by omega) d3 4999 (by omega)
      have er : r' = r := by rw [Bool.eq_iff_iff, hr, hr']
      subst er
      rw [e1, e2, e3, Option.bind_some, Option.bind_some, beq_self_eq_true, if_pos rfl, Option.bind_some, hs.mpr rfl]

end Go.Proofs.Ytelcciekdoccfaa.Pure
