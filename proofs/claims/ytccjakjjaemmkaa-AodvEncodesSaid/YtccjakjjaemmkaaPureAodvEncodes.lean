/-
Whether any messages may be, and their datagram, or why there is none, are the document's; for at most 5 messages of few parts.
-/
import Derived.Test.YtccjakjjaemmkaaQAodvEncodes
import Derived.Test.YtccjakjjaemmkaaBase
namespace Go.Proofs.Ytccjakjjaemmkaa.Pure
open Go.RowKit Go.Proofs.Ytccjakjjaemmkaa.PAE Go.Proofs.YtccjakjjaemmkaaW.PrintWords Go.Proofs.YtccjakjjaemmkaaW.PrintLast Go.Proofs.YtccjakjjaemmkaaW.PrintMore Go.Proofs.Ytccjakjjaemmkaa.Base
set_option linter.unusedVariables false
set_option linter.unusedSimpArgs false

theorem aoawake_f (k : Nat) (hk : 60 ≤ k) : roadbooklaw17_awake.f k = some true := at_rounds (g := fun k => roadbooklaw17_awake.f k) (fun k => roadbooklaw17_awake.mono k) hk (by decide +kernel)

theorem dests_l (l m : List S46) (hm : l.length = m.length) (hl : l.length ≤ 1000000) (q : Nat) : ∀ (k i : Nat), q < k → l.length - i = q → ∃ b, roadbookref07_dests.l0 k l m i = some b ∧ (b = true ↔ ∀ j : Nat, i ≤ j → j < l.length → rd_T46 l (j : Int) = rd_T46 m (j : Int)) := by
  induction q with
  | zero =>
    intro k i hk hq
    obtain ⟨k, rfl⟩ : ∃ j, k = j + 1 := ⟨k - 1, by omega⟩
    simp only [roadbookref07_dests.l0]
    rw [if_neg (by omega)]
    exact ⟨true, rfl, ⟨fun _ j h1 h2 => by omega, fun _ => rfl⟩⟩
  | succ q ih =>
    intro k i hk hq
    obtain ⟨k, rfl⟩ : ∃ j, k = j + 1 := ⟨k - 1, by omega⟩
    simp only [roadbookref07_dests.l0]
    rw [if_pos (by omega), if_pos (by omega), if_pos (by omega)]
    have key : (!((((rd_T46 l (i : Int)).f0).toList) == (((rd_T46 m (i : Int)).f0).toList)) || (!(((rd_T46 l (i : Int)).f1) == ((rd_T46 m (i : Int)).f1)))) = true ↔ ¬ rd_T46 l (i : Int) = rd_T46 m (i : Int) := by
      obtain ⟨x0, x1⟩ := rd_T46 l (i : Int)
      obtain ⟨y0, y1⟩ := rd_T46 m (i : Int)
      simp only [S46.mk.injEq, Bool.or_eq_true, Bool.not_eq_true', beq_eq_false_iff_ne, ne_eq, toList_inj]
      by_cases p : x0 = y0 <;> by_cases r : x1 = y1 <;> simp [p, r]
    by_cases c : rd_T46 l (i : Int) = rd_T46 m (i : Int)
    · rw [if_neg (fun h => key.mp h c), wrap64_id (by omega) (by omega)]
      obtain ⟨b, e, hb⟩ := ih k (i + 1) (by omega) (by omega)
      refine ⟨b, e, hb.trans ⟨fun h j h1 h2 => ?_, fun h j h1 h2 => h j (by omega) h2⟩⟩
      by_cases d : j = i
      · rw [d]; exact c
      · exact h j (by omega) h2
    · rw [if_pos (key.mpr c)]
      exact ⟨false, rfl, ⟨fun h => (by cases h), fun h => absurd (h i (by omega) (by omega)) c⟩⟩
theorem dests_f (l m : List S46) (hl : l.length ≤ 1000000) (k : Nat) (hk : l.length < k) : ∃ b, roadbookref07_dests.f k l m = some b ∧ (b = true ↔ l = m) := by
  unfold roadbookref07_dests.f
  by_cases c : l.length = m.length
  · rw [if_pos (by omega)]
    obtain ⟨b, e, hb⟩ := dests_l l m c hl l.length k 0 hk (by omega)
    refine ⟨b, e, hb.trans ⟨fun h => ?_, fun h j _ _ => by rw [h]⟩⟩
    apply List.ext_getElem c
    intro i h1 h2
    have := h i (by omega) h1
    unfold rd_T46 at this
    rwa [Int.toNat_natCast, List.getD_eq_getElem?_getD, List.getD_eq_getElem?_getD, List.getElem?_eq_getElem h1, List.getElem?_eq_getElem h2] at this
  · rw [if_neg (by omega)]
    exact ⟨false, rfl, ⟨fun h => (by cases h), fun h => absurd (by rw [h]) c⟩⟩
theorem subs_l (l m : List S48) (hm : l.length = m.length) (hl : l.length ≤ 1000000) (q : Nat) : ∀ (k i : Nat), q < k → l.length - i = q → ∃ b, roadbookref07_subs.l0 k l m i = some b ∧ (b = true ↔ ∀ j : Nat, i ≤ j → j < l.length → rd_T48 l (j : Int) = rd_T48 m (j : Int)) := by
  induction q with
  | zero =>
    intro k i hk hq
    obtain ⟨k, rfl⟩ : ∃ j, k = j + 1 := ⟨k - 1, by omega⟩
    simp only [roadbookref07_subs.l0]
    rw [if_neg (by omega)]
    exact ⟨true, rfl, ⟨fun _ j h1 h2 => by omega, fun _ => rfl⟩⟩
  | succ q ih =>
    intro k i hk hq
    obtain ⟨k, rfl⟩ : ∃ j, k = j + 1 := ⟨k - 1, by omega⟩
    simp only [roadbookref07_subs.l0]
    rw [if_pos (by omega), if_pos (by omega), if_pos (by omega)]
    have key : (!(((rd_T48 l (i : Int)).f0) == ((rd_T48 m (i : Int)).f0)) || (!((((rd_T48 l (i : Int)).f1).toList) == (((rd_T48 m (i : Int)).f1).toList)))) = true ↔ ¬ rd_T48 l (i : Int) = rd_T48 m (i : Int) := by
      obtain ⟨x0, x1⟩ := rd_T48 l (i : Int)
      obtain ⟨y0, y1⟩ := rd_T48 m (i : Int)
      simp only [S48.mk.injEq, Bool.or_eq_true, Bool.not_eq_true', beq_eq_false_iff_ne, ne_eq, toList_inj]
      by_cases p : x0 = y0 <;> by_cases r : x1 = y1 <;> simp [p, r]
    by_cases c : rd_T48 l (i : Int) = rd_T48 m (i : Int)
    · rw [if_neg (fun h => key.mp h c), wrap64_id (by omega) (by omega)]
      obtain ⟨b, e, hb⟩ := ih k (i + 1) (by omega) (by omega)
      refine ⟨b, e, hb.trans ⟨fun h j h1 h2 => ?_, fun h j h1 h2 => h j (by omega) h2⟩⟩
      by_cases d : j = i
      · rw [d]; exact c
      · exact h j (by omega) h2
    · rw [if_pos (key.mpr c)]
      exact ⟨false, rfl, ⟨fun h => (by cases h), fun h => absurd (h i (by omega) (by omega)) c⟩⟩
theorem subs_f (l m : List S48) (hl : l.length ≤ 1000000) (k : Nat) (hk : l.length < k) : ∃ b, roadbookref07_subs.f k l m = some b ∧ (b = true ↔ l = m) := by
  unfold roadbookref07_subs.f
  by_cases c : l.length = m.length
  · rw [if_pos (by omega)]
    obtain ⟨b, e, hb⟩ := subs_l l m c hl l.length k 0 hk (by omega)
    refine ⟨b, e, hb.trans ⟨fun h => ?_, fun h j _ _ => by rw [h]⟩⟩
    apply List.ext_getElem c
    intro i h1 h2
    have := h i (by omega) h1
    unfold rd_T48 at this
    rwa [Int.toNat_natCast, List.getD_eq_getElem?_getD, List.getD_eq_getElem?_getD, List.getElem?_eq_getElem h1, List.getElem?_eq_getElem h2] at this
  · rw [if_neg (by omega)]
    exact ⟨false, rfl, ⟨fun h => (by cases h), fun h => absurd (by rw [h]) c⟩⟩
/-- The reference's Same tells whether all fields are the same. -/
theorem same_f (a0 a1 a2 : Int) (a3 : ByteArray) (a4 a5 : Int) (a6 : ByteArray) (a7 a8 : Int) (a9 : ByteArray) (a10 : Int) (a11 : ByteArray) (a12 a13 : Int) (a14 a15 : Int) (a16 a17 a18 : Int) (a19 a20 : ByteArray) (a21 : List S46) (a22 : Int) (a23 : ByteArray) (a24 : List S48) (b0 b1 b2 : Int) (b3 : ByteArray) (b4 b5 : Int) (b6 : ByteArray) (b7 b8 : Int) (b9 : ByteArray) (b10 : Int) (b11 : ByteArray) (b12 b13 : Int) (b14 b15 : Int) (b16 b17 b18 : Int) (b19 b20 : ByteArray) (b21 : List S46) (b22 : Int) (b23 : ByteArray) (b24 : List S48) (hd : a21.length ≤ 1000000) (hl : a24.length ≤ 1000000) (k : Nat) (hk : a21.length + a24.length + 3 ≤ k) :
    ∃ r, roadbookref07_Same.f k a0 a1 a2 a3 a4 a5 a6 a7 a8 a9 a10 a11 a12 a13 a14 a15 a16 a17 a18 a19 a20 a21 a22 a23 a24 b0 b1 b2 b3 b4 b5 b6 b7 b8 b9 b10 b11 b12 b13 b14 b15 b16 b17 b18 b19 b20 b21 b22 b23 b24 = some r ∧ (r = true ↔ a0 = b0 ∧ a1 = b1 ∧ a2 = b2 ∧ a3 = b3 ∧ a4 = b4 ∧ a5 = b5 ∧ a6 = b6 ∧ a7 = b7 ∧ a8 = b8 ∧ a9 = b9 ∧ a10 = b10 ∧ a11 = b11 ∧ a12 = b12 ∧ a13 = b13 ∧ a14 = b14 ∧ a15 = b15 ∧ a16 = b16 ∧ a17 = b17 ∧ a18 = b18 ∧ a19 = b19 ∧ a20 = b20 ∧ a21 = b21 ∧ a22 = b22 ∧ a23 = b23 ∧ a24 = b24) := by
  obtain ⟨k, rfl⟩ : ∃ j, k = j + 2 := ⟨k - 2, by omega⟩
  have no1 : roadbookref07_Same.j1 (k + 1) true a0 a1 a2 a3 a4 a5 a6 a7 a8 a9 a10 a11 a12 a13 a14 a15 a16 a17 a18 a19 a20 a21 a22 a23 a24 b0 b1 b2 b3 b4 b5 b6 b7 b8 b9 b10 b11 b12 b13 b14 b15 b16 b17 b18 b19 b20 b21 b22 b23 b24 = some false := by simp only [roadbookref07_Same.j1, if_true]
  have no0 : roadbookref07_Same.j0 (k + 2) true a0 a1 a2 a3 a4 a5 a6 a7 a8 a9 a10 a11 a12 a13 a14 a15 a16 a17 a18 a19 a20 a21 a22 a23 a24 b0 b1 b2 b3 b4 b5 b6 b7 b8 b9 b10 b11 b12 b13 b14 b15 b16 b17 b18 b19 b20 b21 b22 b23 b24 = some false := by simp only [roadbookref07_Same.j0, if_true]
  unfold roadbookref07_Same.f
  rw [no0]
  by_cases c0 : a0 = b0
  rotate_left
  · rw [if_neg c0]; exact ⟨false, rfl, ⟨fun h => (by cases h), fun h => absurd (h.1) c0⟩⟩
  rw [if_pos c0]
  by_cases c1 : a1 = b1
  rotate_left
  · rw [if_neg c1]; exact ⟨false, rfl, ⟨fun h => (by cases h), fun h => absurd (h.2.1) c1⟩⟩
  rw [if_pos c1]
  by_cases c2 : a2 = b2
  rotate_left
  · rw [if_neg c2]; exact ⟨false, rfl, ⟨fun h => (by cases h), fun h => absurd (h.2.2.1) c2⟩⟩
  rw [if_pos c2]
  by_cases c3 : a3.toList = b3.toList
  rotate_left
  · rw [if_neg c3]; exact ⟨false, rfl, ⟨fun h => (by cases h), fun h => absurd (congrArg ByteArray.toList (h.2.2.2.1)) c3⟩⟩
  rw [if_pos c3]
  by_cases c4 : a4 = b4
  rotate_left
  · rw [if_neg c4]; exact ⟨false, rfl, ⟨fun h => (by cases h), fun h => absurd (h.2.2.2.2.1) c4⟩⟩
  rw [if_pos c4]
  by_cases c5 : a5 = b5
  rotate_left
  · rw [if_neg c5]; exact ⟨false, rfl, ⟨fun h => (by cases h), fun h => absurd (h.2.2.2.2.2.1) c5⟩⟩
  rw [if_pos c5]
  by_cases c6 : a6.toList = b6.toList
  rotate_left
  · rw [if_neg c6]; exact ⟨false, rfl, ⟨fun h => (by cases h), fun h => absurd (congrArg ByteArray.toList (h.2.2.2.2.2.2.1)) c6⟩⟩
  rw [if_pos c6]
  by_cases c7 : a7 = b7
  rotate_left
  · rw [if_neg c7]; exact ⟨false, rfl, ⟨fun h => (by cases h), fun h => absurd (h.2.2.2.2.2.2.2.1) c7⟩⟩
  rw [if_pos c7]
  by_cases c8 : a8 = b8
  rotate_left
  · rw [if_neg c8]; exact ⟨false, rfl, ⟨fun h => (by cases h), fun h => absurd (h.2.2.2.2.2.2.2.2.1) c8⟩⟩
  rw [if_pos c8]
  by_cases c9 : a9.toList = b9.toList
  rotate_left
  · rw [if_neg c9]; exact ⟨false, rfl, ⟨fun h => (by cases h), fun h => absurd (congrArg ByteArray.toList (h.2.2.2.2.2.2.2.2.2.1)) c9⟩⟩
  rw [if_pos c9]
  by_cases c10 : a10 = b10
  rotate_left
  · rw [bne_iff_ne.mpr c10, no0]; exact ⟨false, rfl, ⟨fun h => (by cases h), fun h => absurd h.2.2.2.2.2.2.2.2.2.2.1 c10⟩⟩
  rw [bne_eq_false_iff_eq.mpr c10]
  simp only [roadbookref07_Same.j0, Bool.false_eq_true, if_false]
  rw [no1]
  by_cases c11 : a11.toList = b11.toList
  rotate_left
  · rw [if_neg c11]; exact ⟨false, rfl, ⟨fun h => (by cases h), fun h => absurd (congrArg ByteArray.toList (h.2.2.2.2.2.2.2.2.2.2.2.1)) c11⟩⟩
  rw [if_pos c11]
  by_cases c12 : a12 = b12
  rotate_left
  · rw [if_neg c12]; exact ⟨false, rfl, ⟨fun h => (by cases h), fun h => absurd (h.2.2.2.2.2.2.2.2.2.2.2.2.1) c12⟩⟩
  rw [if_pos c12]
  by_cases c13 : a13 = b13
  rotate_left
  · rw [if_neg c13]; exact ⟨false, rfl, ⟨fun h => (by cases h), fun h => absurd (h.2.2.2.2.2.2.2.2.2.2.2.2.2.1) c13⟩⟩
  rw [if_pos c13]
  by_cases c14 : a14 = b14
  rotate_left
  · rw [if_neg c14]; exact ⟨false, rfl, ⟨fun h => (by cases h), fun h => absurd (h.2.2.2.2.2.2.2.2.2.2.2.2.2.2.1) c14⟩⟩
  rw [if_pos c14]
  by_cases c15 : a15 = b15
  rotate_left
  · rw [if_neg c15]; exact ⟨false, rfl, ⟨fun h => (by cases h), fun h => absurd (h.2.2.2.2.2.2.2.2.2.2.2.2.2.2.2.1) c15⟩⟩
  rw [if_pos c15]
  by_cases c16 : a16 = b16
  rotate_left
  · rw [if_neg c16]; exact ⟨false, rfl, ⟨fun h => (by cases h), fun h => absurd (h.2.2.2.2.2.2.2.2.2.2.2.2.2.2.2.2.1) c16⟩⟩
  rw [if_pos c16]
  by_cases c17 : a17 = b17
  rotate_left
  · rw [if_neg c17]; exact ⟨false, rfl, ⟨fun h => (by cases h), fun h => absurd (h.2.2.2.2.2.2.2.2.2.2.2.2.2.2.2.2.2.1) c17⟩⟩
  rw [if_pos c17]
  by_cases c18 : a18 = b18
  rotate_left
  · rw [if_neg c18]; exact ⟨false, rfl, ⟨fun h => (by cases h), fun h => absurd (h.2.2.2.2.2.2.2.2.2.2.2.2.2.2.2.2.2.2.1) c18⟩⟩
  rw [if_pos c18]
  by_cases c19 : a19.toList = b19.toList
  rotate_left
  · rw [if_neg c19]; exact ⟨false, rfl, ⟨fun h => (by cases h), fun h => absurd (congrArg ByteArray.toList (h.2.2.2.2.2.2.2.2.2.2.2.2.2.2.2.2.2.2.2.1)) c19⟩⟩
  rw [if_pos c19]
  by_cases c20 : a20.toList = b20.toList
  rotate_left
  · rw [if_neg c20]; exact ⟨false, rfl, ⟨fun h => (by cases h), fun h => absurd (congrArg ByteArray.toList (h.2.2.2.2.2.2.2.2.2.2.2.2.2.2.2.2.2.2.2.2.1)) c20⟩⟩
  rw [if_pos c20]
  by_cases c22 : a22 = b22
  rotate_left
  · rw [if_neg c22]; exact ⟨false, rfl, ⟨fun h => (by cases h), fun h => absurd (h.2.2.2.2.2.2.2.2.2.2.2.2.2.2.2.2.2.2.2.2.2.2.1) c22⟩⟩
  rw [if_pos c22]
  by_cases c23 : a23.toList = b23.toList
  rotate_left
  · rw [bne_iff_ne.mpr c23, no1]; exact ⟨false, rfl, ⟨fun h => (by cases h), fun h => absurd (congrArg ByteArray.toList h.2.2.2.2.2.2.2.2.2.2.2.2.2.2.2.2.2.2.2.2.2.2.2.1) c23⟩⟩
  rw [bne_eq_false_iff_eq.mpr c23]
  simp only [roadbookref07_Same.j1, Bool.false_eq_true, if_false]
  obtain ⟨x, ex, hx⟩ := dests_f a21 b21 hd k (by omega)
  obtain ⟨y, ey, hy⟩ := subs_f a24 b24 hl k (by omega)
  rw [ex, ey, Option.bind_some, Option.bind_some]
  have e3 := toList_inj.mp c3
  have e6 := toList_inj.mp c6
  have e9 := toList_inj.mp c9
  have e11 := toList_inj.mp c11
  have e19 := toList_inj.mp c19
  have e20 := toList_inj.mp c20
  have e23 := toList_inj.mp c23
  cases x with
  | false => rw [if_neg (by decide)]; exact ⟨false, rfl, ⟨fun h => (by cases h), fun h => absurd (hx.mpr h.2.2.2.2.2.2.2.2.2.2.2.2.2.2.2.2.2.2.2.2.2.1) (by decide)⟩⟩
  | true =>
    rw [if_pos rfl]
    have c21 := hx.mp rfl
    exact ⟨y, rfl, ⟨fun h => ⟨c0, c1, c2, e3, c4, c5, e6, c7, c8, e9, c10, e11, c12, c13, c14, c15, c16, c17, c18, e19, e20, c21, c22, e23, hy.mp h⟩, fun h => hy.mpr h.2.2.2.2.2.2.2.2.2.2.2.2.2.2.2.2.2.2.2.2.2.2.2.2⟩⟩
/-- Messages that are the same are told so. -/
theorem same_self (a0 a1 a2 : Int) (a3 : ByteArray) (a4 a5 : Int) (a6 : ByteArray) (a7 a8 : Int) (a9 : ByteArray) (a10 : Int) (a11 : ByteArray) (a12 a13 : Int) (a14 a15 : Int) (a16 a17 a18 : Int) (a19 a20 : ByteArray) (a21 : List S46) (a22 : Int) (a23 : ByteArray) (a24 : List S48) (hd : a21.length ≤ 1000000) (hl : a24.length ≤ 1000000) (k : Nat) (hk : a21.length + a24.length + 3 ≤ k) : roadbookref07_Same.f k a0 a1 a2 a3 a4 a5 a6 a7 a8 a9 a10 a11 a12 a13 a14 a15 a16 a17 a18 a19 a20 a21 a22 a23 a24 a0 a1 a2 a3 a4 a5 a6 a7 a8 a9 a10 a11 a12 a13 a14 a15 a16 a17 a18 a19 a20 a21 a22 a23 a24 = some true := by
  obtain ⟨r, e, hr⟩ := same_f a0 a1 a2 a3 a4 a5 a6 a7 a8 a9 a10 a11 a12 a13 a14 a15 a16 a17 a18 a19 a20 a21 a22 a23 a24 a0 a1 a2 a3 a4 a5 a6 a7 a8 a9 a10 a11 a12 a13 a14 a15 a16 a17 a18 a19 a20 a21 a22 a23 a24 hd hl k hk
  rw [e, hr.mpr ⟨rfl, rfl, rfl, rfl, rfl, rfl, rfl, rfl, rfl, rfl, rfl, rfl, rfl, rfl, rfl, rfl, rfl, rfl, rfl, rfl, rfl, rfl, rfl, rfl, rfl⟩]

theorem refbareq3 (a1 a2 : Int) (a3 : ByteArray) (a4 a5 : Int) (a6 : ByteArray) (a7 a8 : Int) (a9 : ByteArray) (a10 : Int) (a11 : ByteArray) (a12 a13 : Int) (a14 a15 : Int) (a16 a17 a18 : Int) (a19 a20 : ByteArray) (a21 : List S46) (a22 : Int) (a23 : ByteArray) (a24 : List S48) (hd : a21.length ≤ 1000000) (hl : a24.length ≤ 1000000) (k : Nat) (hk : a21.length + a24.length + 2 < k) : ∃ r, roadbookref07_Bare.f k 3 a1 a2 a3 a4 a5 a6 a7 a8 a9 a10 a11 a12 a13 a14 a15 a16 a17 a18 a19 a20 a21 a22 a23 a24 = some r ∧ (r = true ↔ (a1 = 0 ∧ a2 = 0 ∧ a3 = (⟨#[]⟩ : ByteArray) ∧ a4 = 0 ∧ a5 = 0 ∧ a6 = (⟨#[]⟩ : ByteArray) ∧ a7 = 0 ∧ a8 = 0 ∧ a9 = (⟨#[]⟩ : ByteArray) ∧ a10 = 0 ∧ a11 = (⟨#[]⟩ : ByteArray) ∧ a14 = 0 ∧ a18 = 0 ∧ a21 = ([] : List S46) ∧ a22 = 0 ∧ a23 = (⟨#[]⟩ : ByteArray))) := by
  rw [roadbookref07_Bare.f3]
  obtain ⟨r, e, h⟩ := same_f 3 0 0 (⟨#[]⟩ : ByteArray) 0 0 (⟨#[]⟩ : ByteArray) 0 0 (⟨#[]⟩ : ByteArray) 0 (⟨#[]⟩ : ByteArray) a12 a13 0 a15 a16 a17 0 a19 a20 ([] : List S46) 0 (⟨#[]⟩ : ByteArray) a24 3 a1 a2 a3 a4 a5 a6 a7 a8 a9 a10 a11 a12 a13 a14 a15 a16 a17 a18 a19 a20 a21 a22 a23 a24 (by decide) hl k (by (try simp only [List.length_nil]); omega)
  exact ⟨r, e, h.trans ⟨fun h => ⟨h.2.1.symm, h.2.2.1.symm, h.2.2.2.1.symm, h.2.2.2.2.1.symm, h.2.2.2.2.2.1.symm, h.2.2.2.2.2.2.1.symm, h.2.2.2.2.2.2.2.1.symm, h.2.2.2.2.2.2.2.2.1.symm, h.2.2.2.2.2.2.2.2.2.1.symm, h.2.2.2.2.2.2.2.2.2.2.1.symm, h.2.2.2.2.2.2.2.2.2.2.2.1.symm, h.2.2.2.2.2.2.2.2.2.2.2.2.2.2.1.symm, h.2.2.2.2.2.2.2.2.2.2.2.2.2.2.2.2.2.2.1.symm, h.2.2.2.2.2.2.2.2.2.2.2.2.2.2.2.2.2.2.2.2.2.1.symm, h.2.2.2.2.2.2.2.2.2.2.2.2.2.2.2.2.2.2.2.2.2.2.1.symm, h.2.2.2.2.2.2.2.2.2.2.2.2.2.2.2.2.2.2.2.2.2.2.2.1.symm⟩, fun h => ⟨rfl, h.1.symm, h.2.1.symm, h.2.2.1.symm, h.2.2.2.1.symm, h.2.2.2.2.1.symm, h.2.2.2.2.2.1.symm, h.2.2.2.2.2.2.1.symm, h.2.2.2.2.2.2.2.1.symm, h.2.2.2.2.2.2.2.2.1.symm, h.2.2.2.2.2.2.2.2.2.1.symm, h.2.2.2.2.2.2.2.2.2.2.1.symm, rfl, rfl, h.2.2.2.2.2.2.2.2.2.2.2.1.symm, rfl, rfl, rfl, h.2.2.2.2.2.2.2.2.2.2.2.2.1.symm, rfl, rfl, h.2.2.2.2.2.2.2.2.2.2.2.2.2.1.symm, h.2.2.2.2.2.2.2.2.2.2.2.2.2.2.1.symm, h.2.2.2.2.2.2.2.2.2.2.2.2.2.2.2.symm, rfl⟩⟩⟩

theorem bareq3 (a1 a2 : Int) (a3 : ByteArray) (a4 a5 : Int) (a6 : ByteArray) (a7 a8 : Int) (a9 : ByteArray) (a10 : Int) (a11 : ByteArray) (a12 a13 : Int) (a14 a15 : Int) (a16 a17 a18 : Int) (a19 a20 : ByteArray) (a21 : List S46) (a22 : Int) (a23 : ByteArray) (a24 : List S48) : msg_Bare.b 3 a1 a2 a3 a4 a5 a6 a7 a8 a9 a10 a11 a12 a13 a14 a15 a16 a17 a18 a19 a20 a21 a22 a23 a24 = true ↔ (a1 = 0 ∧ a2 = 0 ∧ a3 = (⟨#[]⟩ : ByteArray) ∧ a4 = 0 ∧ a5 = 0 ∧ a6 = (⟨#[]⟩ : ByteArray) ∧ a7 = 0 ∧ a8 = 0 ∧ a9 = (⟨#[]⟩ : ByteArray) ∧ a10 = 0 ∧ a11 = (⟨#[]⟩ : ByteArray) ∧ a14 = 0 ∧ a18 = 0 ∧ a21 = ([] : List S46) ∧ a22 = 0 ∧ a23 = (⟨#[]⟩ : ByteArray)) := by
  rw [msg_Bare.b3]
  unfold msg_Bare.z
  simp only [Bool.and_eq_true, beq_iff_eq, beq_self_eq_true, toList_inj, true_and, and_true, Int.natCast_eq_zero, List.length_eq_zero_iff]
  constructor
  · intro h
    simp only [h, and_self]
  · intro h
    simp only [h, and_self]

/-- The lowest so many bytes of a number, the highest first. -/
def dig : Nat → Int → List Int
  | 0, _ => []
  | s + 1, n => dig s (n / 256) ++ [n % 256]
theorem dig_length (s : Nat) (n : Int) : (dig s n).length = s := by
  induction s generalizing n with
  | zero => rfl
  | succ s ih => simp [dig, ih]
theorem dig_range (s : Nat) (n : Int) : ∀ x ∈ dig s n, 0 ≤ x ∧ x ≤ 255 := by
  induction s generalizing n with
  | zero => intro x hx; cases hx
  | succ s ih =>
    intro x hx
    simp only [dig, List.mem_append, List.mem_singleton] at hx
    rcases hx with hx | rfl
    · exact ih _ x hx
    · omega
def octFits (n size : Int) : Bool := decide (1 ≤ size ∧ size ≤ 7 ∧ 0 ≤ n ∧ n < 256 ^ size.toNat)
def octPut (n size : Int) : ByteArray × Bool := if octFits n size = true then (strOfNums (dig size.toNat n), true) else (⟨#[]⟩, false)
theorem octFits_iff {n size : Int} : octFits n size = true ↔ (1 ≤ size ∧ size ≤ 7 ∧ 0 ≤ n ∧ n < 256 ^ size.toNat) := by simp [octFits]

theorem div_eq_zero_iff {n : Int} {m : Nat} (h : 0 ≤ n) (hm : 0 < (2 : Int) ^ m) : (n / 2 ^ m = 0) ↔ n < 2 ^ m := by
  constructor
  · intro e
    have := Int.lt_mul_ediv_self_add (x := n) (k := 2 ^ m) hm
    rw [e] at this; omega
  · intro e; exact Int.ediv_eq_zero_of_lt h e

theorem pow_le7 (m : Nat) (h : m ≤ 7) : (256 : Int) ^ m ≤ 72057594037927936 := by
  have : m = 0 ∨ m = 1 ∨ m = 2 ∨ m = 3 ∨ m = 4 ∨ m = 5 ∨ m = 6 ∨ m = 7 := by omega
  rcases this with rfl | rfl | rfl | rfl | rfl | rfl | rfl | rfl <;> decide

/-- The number that bytes make, the highest first. -/
def num (l : List Int) : Int := l.foldl (fun a b => a * 256 + b) 0
theorem num_nil : num [] = 0 := rfl
theorem num_snoc (l : List Int) (x : Int) : num (l ++ [x]) = num l * 256 + x := by simp [num, List.foldl_append]
theorem num_take (l : List Int) (i : Nat) (h : i < l.length) : num (l.take (i + 1)) = num (l.take i) * 256 + l.getD i 0 := by
  rw [List.take_succ_eq_append_getElem h, num_snoc, List.getD_eq_getElem?_getD, List.getElem?_eq_getElem h]; rfl
theorem num_foldl (l : List Int) (a : Int) : l.foldl (fun a b => a * 256 + b) a = a * 256 ^ l.length + num l := by
  induction l generalizing a with
  | nil => simp [num]
  | cons x l ih =>
    have e : num (x :: l) = List.foldl (fun a b => a * 256 + b) x l := by simp [num]
    rw [e, ih x]
    simp only [List.foldl_cons, List.length_cons]
    rw [ih (a * 256 + x), Int.pow_succ, Int.add_mul, Int.mul_assoc, Int.mul_comm 256, Int.add_assoc]
theorem num_cons (x : Int) (l : List Int) : num (x :: l) = x * 256 ^ l.length + num l := by
  have e : num (x :: l) = List.foldl (fun a b => a * 256 + b) x l := by simp [num]
  rw [e, num_foldl]
theorem num_range (l : List Int) (h : ∀ x ∈ l, 0 ≤ x ∧ x ≤ 255) : 0 ≤ num l ∧ num l < 256 ^ l.length := by
  induction l with
  | nil => simp [num]
  | cons x l ih =>
    have hx := h x (by simp)
    obtain ⟨h0, h1⟩ := ih fun y hy => h y (by simp [hy])
    rw [num_cons, List.length_cons, Int.pow_succ]
    have hp : (0 : Int) < 256 ^ l.length := Int.pow_pos (by decide)
    have e1 : 0 ≤ x * 256 ^ l.length := Int.mul_nonneg hx.1 (by omega)
    have e2 : x * 256 ^ l.length ≤ 255 * 256 ^ l.length := Int.mul_le_mul_of_nonneg_right hx.2 (by omega)
    omega
theorem num_dig (s : Nat) : ∀ n : Int, 0 ≤ n → n < 256 ^ s → num (dig s n) = n := by
  induction s with
  | zero => intro n h0 h1; simp at h1; simp [dig, num]; omega
  | succ s ih =>
    intro n h0 h1
    rw [dig, num_snoc, ih (n / 256) (by omega) (by rw [Int.pow_succ] at h1; omega)]
    omega
theorem dig_num (l : List Int) (h : ∀ x ∈ l, 0 ≤ x ∧ x ≤ 255) : dig l.length (num l) = l := by
  generalize hs : l.length = s
  induction s generalizing l with
  | zero => rw [List.eq_nil_of_length_eq_zero hs]; rfl
  | succ s ih =>
    have hne : l ≠ [] := fun c => by rw [c] at hs; cases hs
    obtain ⟨a, x, rfl⟩ : ∃ a x, l = a ++ [x] := ⟨_, _, (List.dropLast_concat_getLast hne).symm⟩
    rw [List.length_append, List.length_singleton] at hs
    have hx := h x (by simp)
    rw [dig, num_snoc, show (num a * 256 + x) / 256 = num a by omega, show (num a * 256 + x) % 256 = x by omega, ih a (fun y hy => h y (by simp [hy])) (by omega)]

theorem u8_lt {x y : Int} (hx : 0 ≤ x ∧ x ≤ 255) (hy : 0 ≤ y ∧ y ≤ 255) : (UInt8.ofNat x.toNat < UInt8.ofNat y.toNat) ↔ x < y := by
  rw [UInt8.lt_iff_toNat_lt, UInt8.toNat_ofNat', UInt8.toNat_ofNat']; omega
theorem u8_eq {x y : Int} (hx : 0 ≤ x ∧ x ≤ 255) (hy : 0 ≤ y ∧ y ≤ 255) : (UInt8.ofNat x.toNat = UInt8.ofNat y.toNat) ↔ x = y := by
  rw [← UInt8.toNat_inj, UInt8.toNat_ofNat', UInt8.toNat_ofNat']; omega
/-- Of two texts of one length the lesser is the one whose number is less. -/
theorem less_num (a b : List Int) (ha : ∀ x ∈ a, 0 ≤ x ∧ x ≤ 255) (hb : ∀ x ∈ b, 0 ≤ x ∧ x ≤ 255) (hl : a.length = b.length) :
    Op.bytesLess (strOfNums a).toList (strOfNums b).toList = decide (num a < num b) := by
  rw [ByteArray.toList_eq, ByteArray.toList_eq, data_nums, data_nums]
  induction a generalizing b with
  | nil =>
    cases b with
    | nil => rfl
    | cons y b => cases hl
  | cons x a ih =>
    cases b with
    | nil => cases hl
    | cons y b =>
      have hl' : a.length = b.length := by simpa using hl
      have hx := ha x (by simp)
      have hy := hb y (by simp)
      have ha' : ∀ z ∈ a, 0 ≤ z ∧ z ≤ 255 := fun z hz => ha z (by simp [hz])
      have hb' : ∀ z ∈ b, 0 ≤ z ∧ z ≤ 255 := fun z hz => hb z (by simp [hz])
      simp only [List.map_cons, Op.bytesLess, ih b ha' hb' hl']
      obtain ⟨r0, r1⟩ := num_range a ha'
      obtain ⟨q0, q1⟩ := num_range b hb'
      rw [num_cons, num_cons, hl'] at *
      have hp : (0 : Int) < 256 ^ b.length := Int.pow_pos (by decide)
      rw [Bool.eq_iff_iff]
      simp only [Bool.or_eq_true, Bool.and_eq_true, decide_eq_true_eq, beq_iff_eq, u8_lt hx hy, u8_eq hx hy]
      constructor
      · rintro (h | ⟨rfl, h⟩)
        · have : (x + 1) * 256 ^ b.length ≤ y * 256 ^ b.length := Int.mul_le_mul_of_nonneg_right (by omega) (by omega)
          rw [Int.add_mul] at this; omega
        · omega
      · intro h
        rcases Int.lt_trichotomy x y with c | c | c
        · exact .inl c
        · subst c; exact .inr ⟨rfl, by omega⟩
        · have : (y + 1) * 256 ^ b.length ≤ x * 256 ^ b.length := Int.mul_le_mul_of_nonneg_right (by omega) (by omega)
          rw [Int.add_mul] at this; omega

theorem octet_Fits_f (n size : Int) (hn : -9223372036854775808 ≤ n) (hn' : n ≤ 9223372036854775807) : octet_Fits.f n size = some (octFits n size) := by
  unfold octet_Fits.f octFits
  by_cases h1 : 1 ≤ size
  · rw [if_pos h1]
    by_cases h2 : size ≤ 7
    · rw [if_pos h2]
      by_cases h3 : 0 ≤ n
      · rw [if_pos h3]
        have e : IntKind.u64.wrap (wrap64 (8 * size)) = 8 * size := by rw [wrap64_id (by omega) (by omega), u64_id (by omega) (by omega)]
        rw [e, if_pos (by omega)]
        congr 1
        unfold shr
        have e2 : min (8 * size).toNat IntKind.i64.bits = 8 * size.toNat := by simp [IntKind.bits]; omega
        rw [e2, Bool.eq_iff_iff, beq_iff_eq, decide_eq_true_iff, div_eq_zero_iff h3 (Int.pow_pos (by decide))]
        have e3 : (2 : Int) ^ (8 * size.toNat) = 256 ^ size.toNat := by rw [Int.pow_mul]; rfl
        rw [e3]
        exact ⟨fun h => ⟨h1, h2, h3, h⟩, fun h => h.2.2.2⟩
      · rw [if_neg h3, decide_eq_false (fun h => h3 h.2.2.1)]
    · rw [if_neg h2, decide_eq_false (fun h => h2 h.2.1)]
  · rw [if_neg h1, decide_eq_false (fun h => h1 h.1)]

theorem drop_set_self (l : List Int) (m : Nat) (v : Int) (h : m < l.length) : (l.set m v).drop m = [v] ++ l.drop (m + 1) := by
  apply List.ext_getElem?
  intro i
  rw [List.getElem?_drop, List.getElem?_set]
  cases i with
  | zero => simp [h]
  | succ i => rw [if_neg (by omega)]; simp; congr 1; omega

theorem octet_Put_l (m : Nat) : ∀ (k : Nat) (x : Int) (l : List Int), m < k → m ≤ l.length → m ≤ 100 →
    octet_Put.l0 k x l ((m : Int) - 1) = some (strOfNums (dig m x ++ l.drop m), true) := by
  induction m with
  | zero =>
    intro k x l hk hl _
    obtain ⟨k, rfl⟩ : ∃ j, k = j + 1 := ⟨k - 1, by omega⟩
    simp only [octet_Put.l0]; rw [if_neg (by omega)]; rfl
  | succ m ih =>
    intro k x l hk hl hm
    obtain ⟨k, rfl⟩ : ∃ j, k = j + 1 := ⟨k - 1, by omega⟩
    simp only [octet_Put.l0]
    rw [if_pos (by omega), if_pos (by omega), if_pos (by omega)]
    have e1 : (((m + 1 : Nat) : Int) - 1) = m := by omega
    rw [e1, wrap64_id (by omega) (by omega)]
    have e2 : ((m : Int)).toNat = m := by omega
    rw [e2, ih k (x / 256) (l.set m (x % 256)) (by omega) (by simp; omega) (by omega)]
    congr 3
    rw [dig, List.append_assoc]
    congr 1
    exact drop_set_self l m (x % 256) (by omega)

theorem octet_Put_f (n size : Int) (hn : -9223372036854775808 ≤ n) (hn' : n ≤ 9223372036854775807) (k : Nat) (hk : 8 < k) : octet_Put.f k n size = some (octPut n size) := by
  unfold octet_Put.f octPut
  rw [octet_Fits_f n size hn hn', Option.bind_some]
  by_cases h : octFits n size = true
  · have h' := octFits_iff.mp h
    rw [if_pos h, if_pos h, if_pos (by omega), if_pos (by omega), wrap64_id (by omega) (by omega)]
    have e := octet_Put_l size.toNat k n (List.replicate size.toNat 0) (by omega) (by simp) (by omega)
    have e1 : ((size.toNat : Int) - 1) = size - 1 := by omega
    rw [e1] at e
    rw [e, List.drop_of_length_le (by simp), List.append_nil]
  · rw [if_neg h, if_neg h]

theorem len_dig (m : Nat) : ∀ x : Int, (dig m x).length = m := by
  induction m with
  | zero => intro x; rfl
  | succ m ih => intro x; rw [dig, List.length_append, ih]; rfl
theorem dig_bytes (m : Nat) : ∀ x : Int, ∀ y ∈ dig m x, 0 ≤ y ∧ y ≤ 255 := by
  induction m with
  | zero => intro x y h; simp [dig] at h
  | succ m ih =>
    intro x y h
    rw [dig, List.mem_append, List.mem_singleton] at h
    rcases h with h | rfl
    · exact ih _ _ h
    · omega
/-- Four bytes of a number. -/
def w4 (n : Int) : ByteArray := strOfNums (dig 4 n)
theorem size_w4 (n : Int) : (w4 n).size = 4 := by unfold w4; rw [size_nums, len_dig]
theorem num_w4 (n : Int) (h0 : 0 ≤ n) (h1 : n < 4294967296) : num (bytesOf (w4 n)) = n := by
  unfold w4; rw [bytes_nums _ (dig_bytes 4 n), num_dig 4 n h0 (by simpa using h1)]
theorem w4_num (s : ByteArray) (h : s.size = 4) : w4 (num (bytesOf s)) = s := by
  unfold w4
  have := dig_num (bytesOf s) (bytesOf_range s)
  rw [len_bytesOf, h] at this
  rw [this, nums_bytes]
theorem num4_range (s : ByteArray) (h : s.size = 4) : 0 ≤ num (bytesOf s) ∧ num (bytesOf s) < 4294967296 := by
  have := num_range (bytesOf s) (bytesOf_range s)
  rw [len_bytesOf, h] at this
  simpa using this
theorem fits4 (n : Int) : octFits n 4 = true ↔ 0 ≤ n ∧ n < 4294967296 := by
  rw [octFits_iff]
  constructor
  · rintro ⟨_, _, h, h2⟩; exact ⟨h, by simpa using h2⟩
  · rintro ⟨h, h2⟩; exact ⟨by decide, by decide, h, by simpa using h2⟩
theorem fits1 (n : Int) : octFits n 1 = true ↔ 0 ≤ n ∧ n < 256 := by
  rw [octFits_iff]
  constructor
  · rintro ⟨_, _, h, h2⟩; exact ⟨h, by simpa using h2⟩
  · rintro ⟨h, h2⟩; exact ⟨by decide, by decide, h, by simpa using h2⟩
theorem put4 (n : Int) (h0 : 0 ≤ n) (h1 : n < 4294967296) : octPut n 4 = (w4 n, true) := by
  unfold octPut w4; rw [if_pos ((fits4 n).mpr ⟨h0, h1⟩)]; rfl

theorem rd_mem_48 {l : List S48} {P : S48 → Prop} (h : ∀ j : Nat, j < l.length → P (rd_T48 l (j : Int))) : ∀ x ∈ l, P x := by
  intro x hx
  obtain ⟨j, hj, rfl⟩ := List.getElem_of_mem hx
  have := h j hj
  unfold rd_T48 at this
  rwa [Int.toNat_natCast, List.getD_eq_getElem?_getD, List.getElem?_eq_getElem hj] at this
theorem rd_mem_46 {l : List S46} {P : S46 → Prop} (h : ∀ j : Nat, j < l.length → P (rd_T46 l (j : Int))) : ∀ x ∈ l, P x := by
  intro x hx
  obtain ⟨j, hj, rfl⟩ := List.getElem_of_mem hx
  have := h j hj
  unfold rd_T46 at this
  rwa [Int.toNat_natCast, List.getD_eq_getElem?_getD, List.getElem?_eq_getElem hj] at this

/-- A Sub whose type lies within bounds, and whose bytes are few. -/
def okR (lo hi : Int) (x : S48) : Prop := lo ≤ x.f0 ∧ x.f0 ≤ hi ∧ x.f1.size ≤ 255
instance (lo hi : Int) (x : S48) : Decidable (okR lo hi x) := by unfold okR; infer_instance
theorem drop_rd {l : List S48} {i : Nat} (h : i < l.length) : l.drop i = rd_T48 l (i : Int) :: l.drop (i + 1) := by
  unfold rd_T48
  rw [Int.toNat_natCast, List.drop_eq_getElem_cons h, List.getD_eq_getElem?_getD, List.getElem?_eq_getElem h]; rfl
/-- The bytes of Subs. -/
def bytesS : List S48 → Nat
  | [] => 0
  | x :: l => 2 + x.f1.size + bytesS l
theorem bytesS_le (l : List S48) (c : Nat) (h : ∀ x ∈ l, x.f1.size ≤ c) : bytesS l ≤ l.length * (c + 2) := by
  induction l with
  | nil => simp [bytesS]
  | cons x l ih =>
    have h1 := h x (by simp)
    have h2 := ih fun y hy => h y (by simp [hy])
    rw [bytesS, List.length_cons, Nat.add_mul]; omega

theorem subs_loop (lo hi : Int) (l : List S48) (hl : l.length ≤ 1000000) (m : Nat) : ∀ (k i : Nat), m < k → l.length - i = m → i ≤ l.length →
    msg_Subs.l0 k lo hi l (l.length : Int) i = some (decide (∀ x ∈ l.drop i, okR lo hi x)) := by
  induction m with
  | zero =>
    intro k i hk hm hin
    obtain ⟨k, rfl⟩ : ∃ j, k = j + 1 := ⟨k - 1, by omega⟩
    simp only [msg_Subs.l0]
    rw [if_neg (by omega), List.drop_eq_nil_of_le (by omega)]
    simp
  | succ m ih =>
    intro k i hk hm hin
    obtain ⟨k, rfl⟩ : ∃ j, k = j + 1 := ⟨k - 1, by omega⟩
    simp only [msg_Subs.l0]
    rw [if_pos (by omega), if_pos (by omega), if_pos (by omega), wrap64_id (x := (i : Int) + 1) (by omega) (by omega)]
    have := ih k (i + 1) (by omega) (by omega) (by omega)
    rw [show ((i : Int) + 1) = ((i + 1 : Nat) : Int) by omega, this, drop_rd (i := i) (by omega)]
    generalize rd_T48 l (i : Int) = x
    have e : (∀ y ∈ x :: l.drop (i + 1), okR lo hi y) ↔ okR lo hi x ∧ ∀ y ∈ l.drop (i + 1), okR lo hi y := by simp
    by_cases c1 : x.f0 < lo
    · rw [if_pos c1, decide_eq_false (fun h => by have := (e.mp h).1; unfold okR at this; omega)]
    by_cases c2 : x.f0 > hi
    · rw [if_neg c1, if_pos c2, decide_eq_false (fun h => by have := (e.mp h).1; unfold okR at this; omega)]
    by_cases c3 : (x.f1.size : Int) > 255
    · rw [if_neg c1, if_neg c2, if_pos c3, decide_eq_false (fun h => by have := (e.mp h).1; unfold okR at this; omega)]
    rw [if_neg c1, if_neg c2, if_neg c3]
    have ok : okR lo hi x := by unfold okR; omega
    congr 1
    rw [decide_eq_decide, e]
    exact ⟨fun h => ⟨ok, h⟩, fun h => h.2⟩
theorem psubs_f (l : List S48) (lo hi : Int) (hl : l.length ≤ 1000000) (k : Nat) (hk : l.length < k) : msg_Subs.f k l lo hi = some (decide (∀ x ∈ l, okR lo hi x)) := by
  unfold msg_Subs.f
  have := subs_loop lo hi l hl l.length k 0 hk (by omega) (by omega)
  rw [List.drop_zero] at this
  exact this
theorem bytes_loop (l : List S48) (hl : l.length ≤ 1000000) (hs : ∀ x ∈ l, x.f1.size ≤ 1000) (m : Nat) : ∀ (k i : Nat) (a : Int), m < k → l.length - i = m → i ≤ l.length → 0 ≤ a → a ≤ 1002 * i →
    msg_Bytes.l0 k a l (l.length : Int) i = some (a + bytesS (l.drop i)) := by
  induction m with
  | zero =>
    intro k i a hk hm hi h0 h1
    obtain ⟨k, rfl⟩ : ∃ j, k = j + 1 := ⟨k - 1, by omega⟩
    simp only [msg_Bytes.l0]
    rw [if_neg (by omega), List.drop_eq_nil_of_le (by omega)]
    simp [bytesS]
  | succ m ih =>
    intro k i a hk hm hi h0 h1
    obtain ⟨k, rfl⟩ : ∃ j, k = j + 1 := ⟨k - 1, by omega⟩
    simp only [msg_Bytes.l0]
    have hx : (rd_T48 l (i : Int)).f1.size ≤ 1000 := hs _ (List.mem_of_mem_drop (i := i) (by rw [drop_rd (i := i) (by omega)]; simp))
    rw [if_pos (by omega), if_pos (by omega), if_pos (by omega), wrap64_id (x := (i : Int) + 1) (by omega) (by omega)]
    rw [drop_rd (i := i) (by omega)]
    generalize rd_T48 l (i : Int) = x at hx
    rw [wrap64_id (x := 2 + (x.f1.size : Int)) (by omega) (by omega), wrap64_id (by omega) (by omega)]
    have := ih k (i + 1) (a + (2 + (x.f1.size : Int))) (by omega) (by omega) (by omega) (by omega) (by omega)
    rw [show ((i : Int) + 1) = ((i + 1 : Nat) : Int) by omega, this, bytesS]
    congr 1; omega
theorem pbytes_f (l : List S48) (hl : l.length ≤ 1000000) (hs : ∀ x ∈ l, x.f1.size ≤ 1000) (k : Nat) (hk : l.length < k) : msg_Bytes.f k l = some (bytesS l : Int) := by
  unfold msg_Bytes.f
  have := bytes_loop l hl hs l.length k 0 0 hk (by omega) (by omega) (by omega) (by omega)
  rw [List.drop_zero] at this
  rw [show ((0 : Nat) : Int) = 0 from rfl] at this
  rw [this]; congr 1; omega

/-- The bytes of an extension, and of extensions. -/
def oneS (x : S48) : ByteArray := strOfNums [x.f0, (x.f1.size : Int)] ++ x.f1
def allS : List S48 → ByteArray
  | [] => (⟨#[]⟩ : ByteArray)
  | x :: l => oneS x ++ allS l
theorem size_one (x : S48) : (oneS x).size = 2 + x.f1.size := by unfold oneS; rw [size_app, size_nums]; rfl
theorem size_all (l : List S48) : (allS l).size = bytesS l := by
  induction l with
  | nil => rfl
  | cons x l ih => rw [allS, size_app, size_one, ih, bytesS]
theorem empty_app (a : ByteArray) : (⟨#[]⟩ : ByteArray) ++ a = a := by
  refine ext_bt (by rw [size_app]; exact Nat.zero_add _) fun i _ => ?_
  have z : (⟨#[]⟩ : ByteArray).size = 0 := rfl
  rw [bt_app _ _ _ (by omega), if_neg (by omega), z]
  congr 1 <;> omega
theorem app_empty (a : ByteArray) : a ++ (⟨#[]⟩ : ByteArray) = a := by
  have z : (⟨#[]⟩ : ByteArray).size = 0 := rfl
  refine ext_bt (by rw [size_app]; exact Nat.add_zero _) fun i hi => ?_
  rw [size_app, z] at hi
  rw [bt_app _ _ _ (by omega), if_pos (by omega)]

theorem put_loop (l : List S48) (hl : l.length ≤ 1000000) (ok : ∀ x ∈ l, okR 0 255 x) (m : Nat) : ∀ (k i : Nat) (acc : List Int), m < k → l.length - i = m → i ≤ l.length → acc.length ≤ 257 * i →
    ext_Put.l0 k acc l (l.length : Int) i = some (strOfNums acc ++ allS (l.drop i), true) := by
  induction m with
  | zero =>
    intro k i acc hk hm hi ha
    obtain ⟨k, rfl⟩ : ∃ j, k = j + 1 := ⟨k - 1, by omega⟩
    simp only [ext_Put.l0]
    rw [if_neg (by omega), List.drop_eq_nil_of_le (by omega), allS, app_empty]
  | succ m ih =>
    intro k i acc hk hm hi ha
    obtain ⟨k, rfl⟩ : ∃ j, k = j + 1 := ⟨k - 1, by omega⟩
    simp only [ext_Put.l0]
    have hx : okR 0 255 (rd_T48 l (i : Int)) := ok _ (List.mem_of_mem_drop (i := i) (by rw [drop_rd (i := i) (by omega)]; simp))
    rw [if_pos (by omega), if_pos (by omega), if_pos (by omega), wrap64_id (x := (i : Int) + 1) (by omega) (by omega), drop_rd (i := i) (by omega)]
    generalize rd_T48 l (i : Int) = x at hx
    obtain ⟨x0, x1, x2⟩ := hx
    rw [Int.emod_eq_of_lt x0 (by omega), Int.emod_eq_of_lt (by omega) (by omega)]
    rw [Option.bind_some, if_pos (by simp; omega), Option.bind_some, if_pos (by simp; omega)]
    have := ih k (i + 1) (acc ++ [x.f0, (x.f1.size : Int)] ++ bytesOf x.f1) (by omega) (by omega) (by omega) (by rw [List.length_append, List.length_append, len_bytesOf]; simp only [List.length_cons, List.length_nil]; omega)
    rw [show ((i : Int) + 1) = ((i + 1 : Nat) : Int) by omega, this, nums_app, nums_app, nums_bytes, allS, oneS]
    simp only [ByteArray.append_assoc]
theorem right_f (l : List S48) (hl : l.length ≤ 1000000) (k : Nat) (hk : l.length < k) : ext_Right.f k l = some (decide (∀ x ∈ l, okR 0 255 x)) := by
  unfold ext_Right.f
  rw [psubs_f l 0 255 hl k hk, Option.bind_some]
theorem put_f (l : List S48) (hl : l.length ≤ 1000000) (k : Nat) (hk : l.length < k) : ext_Put.f k l = some (if ∀ x ∈ l, okR 0 255 x then (allS l, true) else ((⟨#[]⟩ : ByteArray), false)) := by
  unfold ext_Put.f
  rw [right_f l hl k hk, Option.bind_some]
  by_cases c : ∀ x ∈ l, okR 0 255 x
  · have hb := bytesS_le l 255 (fun x hx => (c x hx).2.2)
    rw [decide_eq_true c, if_pos rfl, if_pos c, pbytes_f l hl (fun x hx => Nat.le_trans (c x hx).2.2 (by decide)) k hk, Option.bind_some, if_pos (by omega), if_pos (by omega)]
    have := put_loop l hl c l.length k 0 [] hk (by omega) (by omega) (by simp)
    rw [nums_nil, empty_app, List.drop_zero] at this
    exact this
  · rw [decide_eq_false c, if_neg (by decide), if_neg c]

/-- A part of bytes laid one behind the other. -/
theorem cut_at (p q r : ByteArray) (n m : Nat) (hn : p.size = n) (hm : n + q.size = m) : (p ++ (q ++ r)).extract n m = q := by
  refine ext_bt (by rw [size_ext, size_app, size_app]; omega) fun i hi => ?_
  rw [size_ext, size_app, size_app] at hi
  rw [bt_ext _ _ _ _ (by omega), size_app, size_app, if_pos (by omega), bt_app _ _ _ (by omega), if_neg (by omega), bt_app _ _ _ (by omega), if_pos (by omega)]
  congr 1; omega
theorem cut_end (p q : ByteArray) (n m : Nat) (hn : p.size = n) (hm : n + q.size = m) : (p ++ q).extract n m = q := by
  refine ext_bt (by rw [size_ext, size_app]; omega) fun i hi => ?_
  rw [size_ext, size_app] at hi
  rw [bt_ext _ _ _ _ (by omega), size_app, if_pos (by omega), bt_app _ _ _ (by omega), if_neg (by omega)]
  congr 1; omega
theorem cut_join (b : ByteArray) (i j k : Nat) (h1 : i ≤ j) (h2 : j ≤ k) (h3 : j ≤ b.size) : b.extract i j ++ b.extract j k = b.extract i k := by
  refine ext_bt (by rw [size_app, size_ext, size_ext, size_ext]; omega) fun q hq => ?_
  rw [size_app, size_ext, size_ext] at hq
  rw [bt_app _ _ _ (by omega), size_ext]
  by_cases c : q < min j b.size - i
  · rw [if_pos (by omega), bt_ext b i j _ (by omega), if_pos (by omega), bt_ext b i k _ (by omega), if_pos (by omega)]
  · rw [if_neg (by omega), bt_ext b j k _ (by omega), if_pos (by omega), bt_ext b i k _ (by omega), if_pos (by omega)]
    congr 1; omega
theorem cut_all (b : ByteArray) (k : Nat) (h : b.size ≤ k) : b.extract 0 k = b := by
  refine ext_bt (by rw [size_ext]; omega) fun q hq => ?_
  rw [size_ext] at hq
  rw [bt_ext _ _ _ _ (by omega), if_pos (by omega)]
  congr 1; omega
theorem bt_head (l : List Int) (h : ∀ x ∈ l, 0 ≤ x ∧ x ≤ 255) (r : ByteArray) (i : Nat) (hi : i < l.length) : bt (strOfNums l ++ r) (i : Int) = l.getD i 0 := by
  rw [bt_app _ _ _ (by omega), size_nums, if_pos (by omega), bt_bytes _ h]
theorem four_bytes (b : ByteArray) (h : 4 ≤ b.size) : strOfNums [bt b 0, bt b 1, bt b 2, bt b 3] = b.extract 0 4 := by
  have r0 := bt_range b 0; have r1 := bt_range b 1; have r2 := bt_range b 2; have r3 := bt_range b 3
  refine ext_bt (by rw [size_nums, size_ext]; simp only [List.length_cons, List.length_nil]; omega) fun q hq => ?_
  rw [size_nums] at hq
  simp only [List.length_cons, List.length_nil] at hq
  rw [bt_bytes _ (by simp; omega), bt_ext _ _ _ _ (by omega), if_pos (by omega)]
  have : q = 0 ∨ q = 1 ∨ q = 2 ∨ q = 3 := by omega
  rcases this with rfl | rfl | rfl | rfl <;> rfl

/-- A request whose fields may be. -/
def RqOk (fl ho no se s2 : Int) (ad og : ByteArray) (l : List S48) : Prop :=
  (0 ≤ fl ∧ fl ≤ 31) ∧ ad.size = 4 ∧ og.size = 4 ∧ (0 ≤ no ∧ no < 4294967296) ∧ (0 ≤ se ∧ se < 4294967296) ∧ (0 ≤ s2 ∧ s2 < 4294967296) ∧ (0 ≤ ho ∧ ho < 256) ∧ ∀ x ∈ l, okR 0 255 x
/-- Its bytes. -/
def rqBytes (fl ho no se s2 : Int) (ad og : ByteArray) (l : List S48) : ByteArray :=
  strOfNums [1, fl * 8, 0, ho] ++ w4 no ++ ad ++ w4 se ++ og ++ w4 s2 ++ allS l
theorem rreq_right_l (k : Nat) (a0 a1 a2 : Int) (a3 : ByteArray) (a4 a5 : Int) (a6 : ByteArray) (a7 a8 : Int) (a9 : ByteArray) (a10 : Int) (a11 : ByteArray) (a12 a13 : Int) (a14 a15 : Int) (a16 a17 a18 : Int) (a19 a20 : ByteArray) (a21 : List S46) (a22 : Int) (a23 : ByteArray) (a24 : List S48) (hl : a24.length ≤ 1000000) (hk : a24.length < k) (h12 : -9223372036854775808 ≤ a12 ∧ a12 ≤ 9223372036854775807) (h13 : -9223372036854775808 ≤ a13 ∧ a13 ≤ 9223372036854775807) (h16 : -9223372036854775808 ≤ a16 ∧ a16 ≤ 9223372036854775807) (h17 : -9223372036854775808 ≤ a17 ∧ a17 ≤ 9223372036854775807) :
    ∃ r, rreq_Right.l0 (k + 4) [a17, a12, a13] 3 0 a0 a1 a2 a3 a4 a5 a6 a7 a8 a9 a10 a11 a12 a13 a14 a15 a16 a17 a18 a19 a20 a21 a22 a23 a24 = some r ∧ (r = true ↔ (0 ≤ a17 ∧ a17 < 4294967296) ∧ (0 ≤ a12 ∧ a12 < 4294967296) ∧ (0 ≤ a13 ∧ a13 < 4294967296) ∧ (0 ≤ a16 ∧ a16 < 256) ∧ ∀ x ∈ a24, okR 0 255 x) := by
  have e3 : ∃ r, rreq_Right.l0 (k + 1) [a17, a12, a13] 3 3 a0 a1 a2 a3 a4 a5 a6 a7 a8 a9 a10 a11 a12 a13 a14 a15 a16 a17 a18 a19 a20 a21 a22 a23 a24 = some r ∧ (r = true ↔ (0 ≤ a16 ∧ a16 < 256) ∧ ∀ x ∈ a24, okR 0 255 x) := by
    rw [rreq_Right.l0]
    rw [if_neg (by omega), octet_Fits_f a16 1 h16.1 h16.2, Option.bind_some]
    by_cases c : octFits a16 1 = true
    · rw [if_pos c, right_f a24 hl k hk, Option.bind_some]
      exact ⟨_, rfl, by rw [decide_eq_true_eq]; exact ⟨fun h => ⟨(fits1 a16).mp c, h⟩, fun h => h.2⟩⟩
    · rw [if_neg c]
      exact ⟨false, rfl, ⟨fun h => (by cases h), fun h => absurd ((fits1 a16).mpr h.1) c⟩⟩
  have e2 : ∃ r, rreq_Right.l0 (k + 2) [a17, a12, a13] 3 2 a0 a1 a2 a3 a4 a5 a6 a7 a8 a9 a10 a11 a12 a13 a14 a15 a16 a17 a18 a19 a20 a21 a22 a23 a24 = some r ∧ (r = true ↔ (0 ≤ a13 ∧ a13 < 4294967296) ∧ (0 ≤ a16 ∧ a16 < 256) ∧ ∀ x ∈ a24, okR 0 255 x) := by
    obtain ⟨r, e, hr⟩ := e3
    rw [rreq_Right.l0]
    rw [if_pos (by omega), if_pos (by omega), if_pos (by simp), show rd [a17, a12, a13] 2 = a13 from rfl, octet_Fits_f a13 4 h13.1 h13.2, Option.bind_some]
    by_cases c : octFits a13 4 = true
    · rw [if_pos c, wrap64_id (by omega) (by omega), show (2 : Int) + 1 = 3 from rfl, e]
      exact ⟨r, rfl, hr.trans ⟨fun h => ⟨(fits4 a13).mp c, h⟩, fun h => h.2⟩⟩
    · rw [if_neg c]
      exact ⟨false, rfl, ⟨fun h => (by cases h), fun h => absurd ((fits4 a13).mpr h.1) c⟩⟩
  have e1 : ∃ r, rreq_Right.l0 (k + 3) [a17, a12, a13] 3 1 a0 a1 a2 a3 a4 a5 a6 a7 a8 a9 a10 a11 a12 a13 a14 a15 a16 a17 a18 a19 a20 a21 a22 a23 a24 = some r ∧ (r = true ↔ (0 ≤ a12 ∧ a12 < 4294967296) ∧ (0 ≤ a13 ∧ a13 < 4294967296) ∧ (0 ≤ a16 ∧ a16 < 256) ∧ ∀ x ∈ a24, okR 0 255 x) := by
    obtain ⟨r, e, hr⟩ := e2
    rw [rreq_Right.l0]
    rw [if_pos (by omega), if_pos (by omega), if_pos (by simp), show rd [a17, a12, a13] 1 = a12 from rfl, octet_Fits_f a12 4 h12.1 h12.2, Option.bind_some]
    by_cases c : octFits a12 4 = true
    · rw [if_pos c, wrap64_id (by omega) (by omega), show (1 : Int) + 1 = 2 from rfl, e]
      exact ⟨r, rfl, hr.trans ⟨fun h => ⟨(fits4 a12).mp c, h⟩, fun h => h.2⟩⟩
    · rw [if_neg c]
      exact ⟨false, rfl, ⟨fun h => (by cases h), fun h => absurd ((fits4 a12).mpr h.1) c⟩⟩
  obtain ⟨r, e, hr⟩ := e1
  rw [rreq_Right.l0]
  rw [if_pos (by omega), if_pos (by omega), if_pos (by simp), show rd [a17, a12, a13] 0 = a17 from rfl, octet_Fits_f a17 4 h17.1 h17.2, Option.bind_some]
  by_cases c : octFits a17 4 = true
  · rw [if_pos c, wrap64_id (by omega) (by omega), show (0 : Int) + 1 = 1 from rfl, e]
    exact ⟨r, rfl, hr.trans ⟨fun h => ⟨(fits4 a17).mp c, h⟩, fun h => h.2⟩⟩
  · rw [if_neg c]
    exact ⟨false, rfl, ⟨fun h => (by cases h), fun h => absurd ((fits4 a17).mpr h.1) c⟩⟩
theorem rreq_right_f (a0 a1 a2 : Int) (a3 : ByteArray) (a4 a5 : Int) (a6 : ByteArray) (a7 a8 : Int) (a9 : ByteArray) (a10 : Int) (a11 : ByteArray) (a12 a13 : Int) (a14 a15 : Int) (a16 a17 a18 : Int) (a19 a20 : ByteArray) (a21 : List S46) (a22 : Int) (a23 : ByteArray) (a24 : List S48) (hl : a24.length ≤ 1000000) (h12 : -9223372036854775808 ≤ a12 ∧ a12 ≤ 9223372036854775807) (h13 : -9223372036854775808 ≤ a13 ∧ a13 ≤ 9223372036854775807) (h16 : -9223372036854775808 ≤ a16 ∧ a16 ≤ 9223372036854775807) (h17 : -9223372036854775808 ≤ a17 ∧ a17 ≤ 9223372036854775807) (k : Nat) (hk : a24.length + 6 < k) :
    ∃ r, rreq_Right.f k a0 a1 a2 a3 a4 a5 a6 a7 a8 a9 a10 a11 a12 a13 a14 a15 a16 a17 a18 a19 a20 a21 a22 a23 a24 = some r ∧ (r = true ↔ a0 = 3 ∧ msg_Bare.b a0 a1 a2 a3 a4 a5 a6 a7 a8 a9 a10 a11 a12 a13 a14 a15 a16 a17 a18 a19 a20 a21 a22 a23 a24 = true ∧ RqOk a15 a16 a17 a12 a13 a19 a20 a24) := by
  obtain ⟨k, rfl⟩ : ∃ j, k = j + 5 := ⟨k - 5, by omega⟩
  have no : rreq_Right.j0 (k + 5) true a0 a1 a2 a3 a4 a5 a6 a7 a8 a9 a10 a11 a12 a13 a14 a15 a16 a17 a18 a19 a20 a21 a22 a23 a24 = some false := by simp only [rreq_Right.j0, if_true]
  unfold rreq_Right.f RqOk
  rw [no]
  by_cases c0 : a0 = 3
  · rw [if_pos c0]
    unfold msg_Bare.f
    rw [Option.bind_some]
    by_cases c1 : msg_Bare.b a0 a1 a2 a3 a4 a5 a6 a7 a8 a9 a10 a11 a12 a13 a14 a15 a16 a17 a18 a19 a20 a21 a22 a23 a24 = true
    · rw [if_pos c1]
      by_cases c2 : a15 < 0
      · rw [if_pos c2]; exact ⟨false, rfl, ⟨fun h => (by cases h), fun h => by have := h.2.2.1; omega⟩⟩
      rw [if_neg c2]
      by_cases c3 : a15 > 31
      · rw [if_pos c3]; exact ⟨false, rfl, ⟨fun h => (by cases h), fun h => by have := h.2.2.1; omega⟩⟩
      rw [if_neg c3]
      by_cases c4 : (a19.size : Int) = 4
      · rw [if_pos c4]
        by_cases c5 : (a20.size : Int) = 4
        · rw [c5, bne_self_eq_false]
          simp only [rreq_Right.j0, Bool.false_eq_true, if_false]
          rw [Option.bind_some]
          obtain ⟨r, e, hr⟩ := rreq_right_l k a0 a1 a2 a3 a4 a5 a6 a7 a8 a9 a10 a11 a12 a13 a14 a15 a16 a17 a18 a19 a20 a21 a22 a23 a24 hl (by omega) h12 h13 h16 h17
          refine ⟨r, e, hr.trans ⟨fun h => ⟨c0, c1, ⟨by omega, by omega⟩, by omega, by omega, h⟩, fun h => h.2.2.2.2.2⟩⟩
        · rw [bne_iff_ne.mpr c5, no]
          exact ⟨false, rfl, ⟨fun h => (by cases h), fun h => by have := h.2.2.2.2.1; omega⟩⟩
      · rw [if_neg c4]; exact ⟨false, rfl, ⟨fun h => (by cases h), fun h => by have := h.2.2.2.1; omega⟩⟩
    · rw [if_neg c1]; exact ⟨false, rfl, ⟨fun h => (by cases h), fun h => absurd h.2.1 c1⟩⟩
  · rw [if_neg c0]; exact ⟨false, rfl, ⟨fun h => (by cases h), fun h => absurd h.1 c0⟩⟩
theorem rreq_word_f (n : Int) (h0 : 0 ≤ n) (h1 : n < 4294967296) (k : Nat) (hk : 8 < k) : rreq_word.f k n = some (w4 n) := by
  unfold rreq_word.f
  rw [octet_Put_f n 4 (by omega) (by omega) k hk, Option.bind_some, put4 n h0 h1]
theorem rreq_put_f (a0 a1 a2 : Int) (a3 : ByteArray) (a4 a5 : Int) (a6 : ByteArray) (a7 a8 : Int) (a9 : ByteArray) (a10 : Int) (a11 : ByteArray) (a12 a13 : Int) (a14 a15 : Int) (a16 a17 a18 : Int) (a19 a20 : ByteArray) (a21 : List S46) (a22 : Int) (a23 : ByteArray) (a24 : List S48) (hl : a24.length ≤ 1000000) (h12 : -9223372036854775808 ≤ a12 ∧ a12 ≤ 9223372036854775807) (h13 : -9223372036854775808 ≤ a13 ∧ a13 ≤ 9223372036854775807) (h16 : -9223372036854775808 ≤ a16 ∧ a16 ≤ 9223372036854775807) (h17 : -9223372036854775808 ≤ a17 ∧ a17 ≤ 9223372036854775807) (k : Nat) (hk : a24.length + 20 < k) :
    ∃ r, rreq_Right.f k a0 a1 a2 a3 a4 a5 a6 a7 a8 a9 a10 a11 a12 a13 a14 a15 a16 a17 a18 a19 a20 a21 a22 a23 a24 = some r ∧ (r = true ↔ a0 = 3 ∧ msg_Bare.b a0 a1 a2 a3 a4 a5 a6 a7 a8 a9 a10 a11 a12 a13 a14 a15 a16 a17 a18 a19 a20 a21 a22 a23 a24 = true ∧ RqOk a15 a16 a17 a12 a13 a19 a20 a24) ∧ rreq_Put.f k a0 a1 a2 a3 a4 a5 a6 a7 a8 a9 a10 a11 a12 a13 a14 a15 a16 a17 a18 a19 a20 a21 a22 a23 a24 = some (if r = true then (rqBytes a15 a16 a17 a12 a13 a19 a20 a24, true) else ((⟨#[]⟩ : ByteArray), false)) := by
  obtain ⟨r, e, hr⟩ := rreq_right_f a0 a1 a2 a3 a4 a5 a6 a7 a8 a9 a10 a11 a12 a13 a14 a15 a16 a17 a18 a19 a20 a21 a22 a23 a24 hl h12 h13 h16 h17 k (by omega)
  refine ⟨r, e, hr, ?_⟩
  unfold rreq_Put.f
  rw [e, Option.bind_some]
  by_cases c : r = true
  · obtain ⟨_, _, r15, r19, r20, r17, r12, r13, r16, ok⟩ := hr.mp c
    have hb := bytesS_le a24 255 (fun x hx => (ok x hx).2.2)
    have sz : (allS a24).size = bytesS a24 := size_all a24
    have s17 := size_w4 a17; have s12 := size_w4 a12; have s13 := size_w4 a13
    rw [if_pos c, if_pos c, put_f a24 hl k (by omega), if_pos ok, Option.bind_some, Option.bind_some, wrap64_id (by omega) (by omega), Int.emod_eq_of_lt (by omega) (by omega), Int.emod_eq_of_lt (a := a16) (by omega) (by omega)]
    have s0 : (strOfNums [1, a15 * 8, 0, a16]).size = 4 := size_nums _
    rw [rreq_word_f a17 r17.1 r17.2 k (by omega), Option.bind_some, if_pos (by rw [s0, s17]; omega), if_pos (by simp only [size_app]; omega), rreq_word_f a12 r12.1 r12.2 k (by omega), Option.bind_some, if_pos (by simp only [size_app]; omega), if_pos (by simp only [size_app]; omega), rreq_word_f a13 r13.1 r13.2 k (by omega), Option.bind_some, if_pos (by simp only [size_app]; omega), if_pos (by simp only [size_app]; omega)]
    rfl
  · rw [if_neg c, if_neg c]

theorem refsubs_loop (lo hi : Int) (l : List S48) (hl : l.length ≤ 1000000) (m : Nat) : ∀ (k i : Nat), m < k → l.length - i = m → i ≤ l.length →
    roadbookref07_Subs.l0 k l lo hi i = some (decide (∀ x ∈ l.drop i, okR lo hi x)) := by
  induction m with
  | zero =>
    intro k i hk hm hin
    obtain ⟨k, rfl⟩ : ∃ j, k = j + 1 := ⟨k - 1, by omega⟩
    simp only [roadbookref07_Subs.l0]
    rw [if_neg (by omega), List.drop_eq_nil_of_le (by omega)]
    simp
  | succ m ih =>
    intro k i hk hm hin
    obtain ⟨k, rfl⟩ : ∃ j, k = j + 1 := ⟨k - 1, by omega⟩
    simp only [roadbookref07_Subs.l0]
    rw [if_pos (by omega), if_pos (by omega), wrap64_id (x := (i : Int) + 1) (by omega) (by omega)]
    have := ih k (i + 1) (by omega) (by omega) (by omega)
    rw [show ((i : Int) + 1) = ((i + 1 : Nat) : Int) by omega, this, drop_rd (i := i) (by omega)]
    generalize rd_T48 l (i : Int) = x
    have e : (∀ y ∈ x :: l.drop (i + 1), okR lo hi y) ↔ okR lo hi x ∧ ∀ y ∈ l.drop (i + 1), okR lo hi y := by simp
    by_cases c1 : x.f0 < lo
    · rw [if_pos c1, decide_eq_false (fun h => by have := (e.mp h).1; unfold okR at this; omega)]
    by_cases c2 : x.f0 > hi
    · rw [if_neg c1, if_pos c2, decide_eq_false (fun h => by have := (e.mp h).1; unfold okR at this; omega)]
    by_cases c3 : (x.f1.size : Int) > 255
    · rw [if_neg c1, if_neg c2, if_pos c3, decide_eq_false (fun h => by have := (e.mp h).1; unfold okR at this; omega)]
    rw [if_neg c1, if_neg c2, if_neg c3]
    have ok : okR lo hi x := by unfold okR; omega
    congr 1
    rw [decide_eq_decide, e]
    exact ⟨fun h => ⟨ok, h⟩, fun h => h.2⟩
theorem refsubs_f (l : List S48) (lo hi : Int) (hl : l.length ≤ 1000000) (k : Nat) (hk : l.length < k) : roadbookref07_Subs.f k l lo hi = some (decide (∀ x ∈ l, okR lo hi x)) := by
  unfold roadbookref07_Subs.f
  have := refsubs_loop lo hi l hl l.length k 0 hk (by omega) (by omega)
  rw [List.drop_zero] at this
  exact this

theorem refput_loop (l : List S48) (hl : l.length ≤ 1000000) (ok : ∀ x ∈ l, okR 0 255 x) (m : Nat) : ∀ (k i : Nat) (acc : ByteArray), m < k → l.length - i = m → i ≤ l.length → acc.size ≤ 257 * i →
    roadbookref13_Put.l0 k l acc i = some (acc ++ allS (l.drop i), true) := by
  induction m with
  | zero =>
    intro k i acc hk hm hi ha
    obtain ⟨k, rfl⟩ : ∃ j, k = j + 1 := ⟨k - 1, by omega⟩
    simp only [roadbookref13_Put.l0]
    rw [if_neg (by omega), List.drop_eq_nil_of_le (by omega), allS, app_empty]
  | succ m ih =>
    intro k i acc hk hm hi ha
    obtain ⟨k, rfl⟩ : ∃ j, k = j + 1 := ⟨k - 1, by omega⟩
    simp only [roadbookref13_Put.l0]
    have hx : okR 0 255 (rd_T48 l (i : Int)) := ok _ (List.mem_of_mem_drop (i := i) (by rw [drop_rd (i := i) (by omega)]; simp))
    rw [if_pos (by omega), if_pos (by omega), wrap64_id (x := (i : Int) + 1) (by omega) (by omega), drop_rd (i := i) (by omega)]
    generalize rd_T48 l (i : Int) = x at hx
    obtain ⟨x0, x1, x2⟩ := hx
    rw [Int.emod_eq_of_lt x0 (by omega), Int.emod_eq_of_lt (by omega) (by omega)]
    have z : (strOfNums [x.f0, (x.f1.size : Int)]).size = 2 := size_nums _
    rw [Option.bind_some, if_pos (by rw [z]; omega), if_pos (by rw [size_app, z]; omega)]
    have := ih k (i + 1) (acc ++ strOfNums [x.f0, (x.f1.size : Int)] ++ x.f1) (by omega) (by omega) (by omega) (by rw [size_app, size_app, z]; omega)
    rw [show ((i : Int) + 1) = ((i + 1 : Nat) : Int) by omega, this, allS, oneS]
    simp only [ByteArray.append_assoc]
theorem refright_f (l : List S48) (hl : l.length ≤ 1000000) (k : Nat) (hk : l.length < k) : roadbookref13_Right.f k l = some (decide (∀ x ∈ l, okR 0 255 x)) := by
  unfold roadbookref13_Right.f
  rw [refsubs_f l 0 255 hl k hk, Option.bind_some]
theorem refput_f (l : List S48) (hl : l.length ≤ 1000000) (k : Nat) (hk : l.length < k) : roadbookref13_Put.f k l = some (if ∀ x ∈ l, okR 0 255 x then (allS l, true) else ((⟨#[]⟩ : ByteArray), false)) := by
  unfold roadbookref13_Put.f
  rw [refright_f l hl k hk, Option.bind_some]
  by_cases c : ∀ x ∈ l, okR 0 255 x
  · rw [decide_eq_true c, if_pos rfl, if_pos c]
    have := refput_loop l hl c l.length k 0 (⟨#[]⟩ : ByteArray) hk (by omega) (by omega) (by decide)
    rw [empty_app, List.drop_zero] at this
    exact this
  · rw [decide_eq_false c, if_neg (by decide), if_neg c]

theorem refFits_l (m : Nat) : ∀ (k : Nat) (n size t i : Int), m < k → (size - i) = m → 0 ≤ i → size ≤ 7 → t = 256 ^ i.toNat →
    roadbookref02_Fits.l0 k n size t i = some (decide (n < 256 ^ size.toNat)) := by
  induction m with
  | zero =>
    intro k n size t i hk hm hi hs ht
    obtain ⟨k, rfl⟩ : ∃ j, k = j + 1 := ⟨k - 1, by omega⟩
    simp only [roadbookref02_Fits.l0]; rw [if_neg (by omega), ht, show i = size by omega]
  | succ m ih =>
    intro k n size t i hk hm hi hs ht
    obtain ⟨k, rfl⟩ : ∃ j, k = j + 1 := ⟨k - 1, by omega⟩
    simp only [roadbookref02_Fits.l0]; rw [if_pos (by omega)]
    have hp : t * 256 = 256 ^ (i + 1).toNat := by rw [ht, show (i + 1).toNat = i.toNat + 1 by omega, Int.pow_succ]
    have hb := pow_le7 (i + 1).toNat (by omega)
    have hb3 : (0 : Int) < 256 ^ (i + 1).toNat := Int.pow_pos (by decide)
    rw [wrap64_id (by omega) (by omega), wrap64_id (by omega) (by omega)]
    exact ih k n size _ (i + 1) (by omega) (by omega) (by omega) hs hp

theorem refFits_f (n size : Int) (k : Nat) (hk : 10 < k) : roadbookref02_Fits.f k n size = some (octFits n size) := by
  obtain ⟨k, rfl⟩ : ∃ j, k = j + 1 := ⟨k - 1, by omega⟩
  unfold roadbookref02_Fits.f octFits
  simp only [roadbookref02_Fits.j0, if_true]
  by_cases h1 : size < 1
  · rw [if_pos h1, decide_eq_false (fun h => by omega)]
  · rw [if_neg h1]
    by_cases h2 : size > 7
    · rw [if_pos h2, decide_eq_false (fun h => by omega)]
    · rw [if_neg h2]
      by_cases h3 : n < 0
      · rw [decide_eq_true h3, if_pos rfl, decide_eq_false (fun h => by omega)]
      · rw [decide_eq_false h3, if_neg (by decide), refFits_l size.toNat k n size 1 0 (by omega) (by omega) (by omega) (by omega) rfl]
        congr 1
        rw [Bool.eq_iff_iff, decide_eq_true_iff, decide_eq_true_iff]
        exact ⟨fun h => ⟨by omega, by omega, by omega, h⟩, fun h => h.2.2.2⟩

theorem refPut_l (m : Nat) : ∀ (k : Nat) (n size i : Int) (s : ByteArray), m < k → (size - i) = m → 0 ≤ i → size ≤ 7 → 0 ≤ n → n ≤ 9223372036854775807 → s.size ≤ 100 + i →
    roadbookref02_Put.l0 k n size s i = some (strOfNums (dig m n) ++ s, true) := by
  induction m with
  | zero =>
    intro k n size i s hk hm hi hs hn hn' hz
    obtain ⟨k, rfl⟩ : ∃ j, k = j + 1 := ⟨k - 1, by omega⟩
    simp only [roadbookref02_Put.l0]; rw [if_neg (by omega)]
    congr 2
  | succ m ih =>
    intro k n size i s hk hm hi hs hn hn' hz
    obtain ⟨k, rfl⟩ : ∃ j, k = j + 1 := ⟨k - 1, by omega⟩
    simp only [roadbookref02_Put.l0, Option.bind_some]; rw [if_pos (by omega)]
    have e1 : Int.tmod n 256 % 256 = n % 256 := by rw [Int.tmod_eq_emod_of_nonneg hn]; omega
    have e2 : Int.tdiv n 256 = n / 256 := Int.tdiv_eq_ediv_of_nonneg hn
    rw [e1, e2, wrap64_id (by omega) (by omega), wrap64_id (by omega) (by omega), if_pos (by rw [size_nums]; simp; omega)]
    rw [ih k (n / 256) size (i + 1) _ (by omega) (by omega) (by omega) hs (by omega) (by omega) (by rw [size_app, size_nums]; simp; omega)]
    congr 2
    rw [dig, nums_app, ByteArray.append_assoc]

theorem refPut_f (n size : Int) (hn' : n ≤ 9223372036854775807) (k : Nat) (hk : 10 < k) : roadbookref02_Put.f k n size = some (octPut n size) := by
  unfold roadbookref02_Put.f octPut
  rw [refFits_f n size k hk, Option.bind_some]
  by_cases h : octFits n size = true
  · have h' := octFits_iff.mp h
    rw [if_pos h, if_pos h]
    have := refPut_l size.toNat k n size 0 (⟨#[]⟩ : ByteArray) (by omega) (by omega) (by omega) (by omega) (by omega) hn' (by decide)
    rw [this]
    congr 2
    exact ByteArray.append_empty
  · rw [if_neg h, if_neg h]

theorem refright14_f (a0 a1 a2 : Int) (a3 : ByteArray) (a4 a5 : Int) (a6 : ByteArray) (a7 a8 : Int) (a9 : ByteArray) (a10 : Int) (a11 : ByteArray) (a12 a13 : Int) (a14 a15 : Int) (a16 a17 a18 : Int) (a19 a20 : ByteArray) (a21 : List S46) (a22 : Int) (a23 : ByteArray) (a24 : List S48) (hd : a21.length ≤ 1000000) (hl : a24.length ≤ 1000000) (k : Nat) (hk : a21.length + a24.length + 20 < k) :
    ∃ r, roadbookref14_Right.f k a0 a1 a2 a3 a4 a5 a6 a7 a8 a9 a10 a11 a12 a13 a14 a15 a16 a17 a18 a19 a20 a21 a22 a23 a24 = some r ∧ (r = true ↔ a0 = 3 ∧ msg_Bare.b a0 a1 a2 a3 a4 a5 a6 a7 a8 a9 a10 a11 a12 a13 a14 a15 a16 a17 a18 a19 a20 a21 a22 a23 a24 = true ∧ RqOk a15 a16 a17 a12 a13 a19 a20 a24) := by
  unfold roadbookref14_Right.f RqOk
  by_cases c0 : a0 = 3
  · subst c0
    rw [if_pos rfl]
    obtain ⟨b, e, hb⟩ := refbareq3 a1 a2 a3 a4 a5 a6 a7 a8 a9 a10 a11 a12 a13 a14 a15 a16 a17 a18 a19 a20 a21 a22 a23 a24 hd hl k (by omega)
    rw [e, Option.bind_some, bareq3, ← hb]
    by_cases c1 : b = true
    · rw [if_pos c1]
      by_cases c2 : a15 ≥ 0
      · rw [if_pos c2]
        by_cases c3 : a15 ≤ 31
        · rw [if_pos c3, refFits_f a16 1 k (by omega), Option.bind_some]
          by_cases c4 : octFits a16 1 = true
          · rw [if_pos c4, refFits_f a17 4 k (by omega), Option.bind_some]
            by_cases c5 : octFits a17 4 = true
            · rw [if_pos c5, refFits_f a12 4 k (by omega), Option.bind_some]
              by_cases c6 : octFits a12 4 = true
              · rw [if_pos c6, refFits_f a13 4 k (by omega), Option.bind_some]
                by_cases c7 : octFits a13 4 = true
                · rw [if_pos c7]
                  by_cases c8 : (a19.size : Int) = 4
                  · rw [if_pos c8]
                    by_cases c9 : (a20.size : Int) = 4
                    · rw [if_pos c9, refright_f a24 hl k (by omega), Option.bind_some]
                      exact ⟨_, rfl, by rw [decide_eq_true_eq]; exact ⟨fun h => ⟨rfl, c1, ⟨c2, c3⟩, by omega, by omega, (fits4 a17).mp c5, (fits4 a12).mp c6, (fits4 a13).mp c7, (fits1 a16).mp c4, h⟩, fun h => h.2.2.2.2.2.2.2.2.2⟩⟩
                    · rw [if_neg c9]; exact ⟨false, rfl, ⟨fun h => (by cases h), fun h => by have := h.2.2.2.2.1; omega⟩⟩
                  · rw [if_neg c8]; exact ⟨false, rfl, ⟨fun h => (by cases h), fun h => by have := h.2.2.2.1; omega⟩⟩
                · rw [if_neg c7]; exact ⟨false, rfl, ⟨fun h => (by cases h), fun h => absurd ((fits4 a13).mpr h.2.2.2.2.2.2.2.1) c7⟩⟩
              · rw [if_neg c6]; exact ⟨false, rfl, ⟨fun h => (by cases h), fun h => absurd ((fits4 a12).mpr h.2.2.2.2.2.2.1) c6⟩⟩
            · rw [if_neg c5]; exact ⟨false, rfl, ⟨fun h => (by cases h), fun h => absurd ((fits4 a17).mpr h.2.2.2.2.2.1) c5⟩⟩
          · rw [if_neg c4]; exact ⟨false, rfl, ⟨fun h => (by cases h), fun h => absurd ((fits1 a16).mpr h.2.2.2.2.2.2.2.2.1) c4⟩⟩
        · rw [if_neg c3]; exact ⟨false, rfl, ⟨fun h => (by cases h), fun h => by have := h.2.2.1; omega⟩⟩
      · rw [if_neg c2]; exact ⟨false, rfl, ⟨fun h => (by cases h), fun h => by have := h.2.2.1; omega⟩⟩
    · rw [if_neg c1]; exact ⟨false, rfl, ⟨fun h => (by cases h), fun h => absurd h.2.1 c1⟩⟩
  · rw [if_neg c0]; exact ⟨false, rfl, ⟨fun h => (by cases h), fun h => absurd h.1 c0⟩⟩
theorem refOf_f (n : Int) (h0 : 0 ≤ n) (h1 : n < 4294967296) (k : Nat) (hk : 10 < k) : roadbookref02_Of.f k n 4 = some (w4 n) := by
  unfold roadbookref02_Of.f
  rw [refPut_f n 4 (by omega) k hk, Option.bind_some, put4 n h0 h1]
theorem refput14_f (a0 a1 a2 : Int) (a3 : ByteArray) (a4 a5 : Int) (a6 : ByteArray) (a7 a8 : Int) (a9 : ByteArray) (a10 : Int) (a11 : ByteArray) (a12 a13 : Int) (a14 a15 : Int) (a16 a17 a18 : Int) (a19 a20 : ByteArray) (a21 : List S46) (a22 : Int) (a23 : ByteArray) (a24 : List S48) (hd : a21.length ≤ 1000000) (hl : a24.length ≤ 1000000) (k : Nat) (hk : a21.length + a24.length + 20 < k) :
    ∃ r, roadbookref14_Right.f k a0 a1 a2 a3 a4 a5 a6 a7 a8 a9 a10 a11 a12 a13 a14 a15 a16 a17 a18 a19 a20 a21 a22 a23 a24 = some r ∧ (r = true ↔ a0 = 3 ∧ msg_Bare.b a0 a1 a2 a3 a4 a5 a6 a7 a8 a9 a10 a11 a12 a13 a14 a15 a16 a17 a18 a19 a20 a21 a22 a23 a24 = true ∧ RqOk a15 a16 a17 a12 a13 a19 a20 a24) ∧ roadbookref14_Put.f k a0 a1 a2 a3 a4 a5 a6 a7 a8 a9 a10 a11 a12 a13 a14 a15 a16 a17 a18 a19 a20 a21 a22 a23 a24 = some (if r = true then (rqBytes a15 a16 a17 a12 a13 a19 a20 a24, true) else ((⟨#[]⟩ : ByteArray), false)) := by
  obtain ⟨r, e, hr⟩ := refright14_f a0 a1 a2 a3 a4 a5 a6 a7 a8 a9 a10 a11 a12 a13 a14 a15 a16 a17 a18 a19 a20 a21 a22 a23 a24 hd hl k hk
  refine ⟨r, e, hr, ?_⟩
  unfold roadbookref14_Put.f
  rw [e, Option.bind_some]
  by_cases c : r = true
  · obtain ⟨_, _, r15, r19, r20, r17, r12, r13, r16, ok⟩ := hr.mp c
    have hb := bytesS_le a24 255 (fun x hx => (ok x hx).2.2)
    have sz : (allS a24).size = bytesS a24 := size_all a24
    have s17 := size_w4 a17; have s12 := size_w4 a12; have s13 := size_w4 a13
    rw [if_pos c, if_pos c, refput_f a24 hl k (by omega), if_pos ok, Option.bind_some, Option.bind_some, wrap64_id (by omega) (by omega), Int.emod_eq_of_lt (by omega) (by omega), Int.emod_eq_of_lt (a := a16) (by omega) (by omega)]
    have s0 : (strOfNums [8 * a15, 0, a16]).size = 3 := size_nums _
    have s1 : (⟨#[1]⟩ : ByteArray).size = 1 := rfl
    rw [if_pos (by rw [s0]; omega), refOf_f a17 r17.1 r17.2 k (by omega), Option.bind_some, if_pos (by simp only [size_app, s0, s1, s17]; omega), if_pos (by simp only [size_app, s0, s1, s17]; omega), refOf_f a12 r12.1 r12.2 k (by omega), Option.bind_some, if_pos (by simp only [size_app, s0, s1, s17, s12]; omega), if_pos (by simp only [size_app, s0, s1, s17, s12]; omega), refOf_f a13 r13.1 r13.2 k (by omega), Option.bind_some, if_pos (by simp only [size_app, s0, s1, s17, s12, s13]; omega), if_pos (by simp only [size_app, s0, s1, s17, s12, s13]; omega)]
    have e1 : (⟨#[1]⟩ : ByteArray) ++ strOfNums [8 * a15, 0, a16] = strOfNums [1, a15 * 8, 0, a16] := by
      rw [show (⟨#[1]⟩ : ByteArray) = strOfNums [1] from rfl, ← nums_app, Int.mul_comm]; rfl
    rw [e1]
    rfl
  · rw [if_neg c, if_neg c]

theorem refbareq4 (a1 a2 : Int) (a3 : ByteArray) (a4 a5 : Int) (a6 : ByteArray) (a7 a8 : Int) (a9 : ByteArray) (a10 : Int) (a11 : ByteArray) (a12 a13 : Int) (a14 a15 : Int) (a16 a17 a18 : Int) (a19 a20 : ByteArray) (a21 : List S46) (a22 : Int) (a23 : ByteArray) (a24 : List S48) (hd : a21.length ≤ 1000000) (hl : a24.length ≤ 1000000) (k : Nat) (hk : a21.length + a24.length + 2 < k) : ∃ r, roadbookref07_Bare.f k 4 a1 a2 a3 a4 a5 a6 a7 a8 a9 a10 a11 a12 a13 a14 a15 a16 a17 a18 a19 a20 a21 a22 a23 a24 = some r ∧ (r = true ↔ (a1 = 0 ∧ a2 = 0 ∧ a3 = (⟨#[]⟩ : ByteArray) ∧ a4 = 0 ∧ a5 = 0 ∧ a6 = (⟨#[]⟩ : ByteArray) ∧ a8 = 0 ∧ a9 = (⟨#[]⟩ : ByteArray) ∧ a10 = 0 ∧ a11 = (⟨#[]⟩ : ByteArray) ∧ a13 = 0 ∧ a17 = 0 ∧ a18 = 0 ∧ a21 = ([] : List S46) ∧ a22 = 0 ∧ a23 = (⟨#[]⟩ : ByteArray))) := by
  rw [roadbookref07_Bare.f4]
  obtain ⟨r, e, h⟩ := same_f 4 0 0 (⟨#[]⟩ : ByteArray) 0 0 (⟨#[]⟩ : ByteArray) a7 0 (⟨#[]⟩ : ByteArray) 0 (⟨#[]⟩ : ByteArray) a12 0 a14 a15 a16 0 0 a19 a20 ([] : List S46) 0 (⟨#[]⟩ : ByteArray) a24 4 a1 a2 a3 a4 a5 a6 a7 a8 a9 a10 a11 a12 a13 a14 a15 a16 a17 a18 a19 a20 a21 a22 a23 a24 (by decide) hl k (by (try simp only [List.length_nil]); omega)
  exact ⟨r, e, h.trans ⟨fun h => ⟨h.2.1.symm, h.2.2.1.symm, h.2.2.2.1.symm, h.2.2.2.2.1.symm, h.2.2.2.2.2.1.symm, h.2.2.2.2.2.2.1.symm, h.2.2.2.2.2.2.2.2.1.symm, h.2.2.2.2.2.2.2.2.2.1.symm, h.2.2.2.2.2.2.2.2.2.2.1.symm, h.2.2.2.2.2.2.2.2.2.2.2.1.symm, h.2.2.2.2.2.2.2.2.2.2.2.2.2.1.symm, h.2.2.2.2.2.2.2.2.2.2.2.2.2.2.2.2.2.1.symm, h.2.2.2.2.2.2.2.2.2.2.2.2.2.2.2.2.2.2.1.symm, h.2.2.2.2.2.2.2.2.2.2.2.2.2.2.2.2.2.2.2.2.2.1.symm, h.2.2.2.2.2.2.2.2.2.2.2.2.2.2.2.2.2.2.2.2.2.2.1.symm, h.2.2.2.2.2.2.2.2.2.2.2.2.2.2.2.2.2.2.2.2.2.2.2.1.symm⟩, fun h => ⟨rfl, h.1.symm, h.2.1.symm, h.2.2.1.symm, h.2.2.2.1.symm, h.2.2.2.2.1.symm, h.2.2.2.2.2.1.symm, rfl, h.2.2.2.2.2.2.1.symm, h.2.2.2.2.2.2.2.1.symm, h.2.2.2.2.2.2.2.2.1.symm, h.2.2.2.2.2.2.2.2.2.1.symm, rfl, h.2.2.2.2.2.2.2.2.2.2.1.symm, rfl, rfl, rfl, h.2.2.2.2.2.2.2.2.2.2.2.1.symm, h.2.2.2.2.2.2.2.2.2.2.2.2.1.symm, rfl, rfl, h.2.2.2.2.2.2.2.2.2.2.2.2.2.1.symm, h.2.2.2.2.2.2.2.2.2.2.2.2.2.2.1.symm, h.2.2.2.2.2.2.2.2.2.2.2.2.2.2.2.symm, rfl⟩⟩⟩

theorem refbareq6 (a1 a2 : Int) (a3 : ByteArray) (a4 a5 : Int) (a6 : ByteArray) (a7 a8 : Int) (a9 : ByteArray) (a10 : Int) (a11 : ByteArray) (a12 a13 : Int) (a14 a15 : Int) (a16 a17 a18 : Int) (a19 a20 : ByteArray) (a21 : List S46) (a22 : Int) (a23 : ByteArray) (a24 : List S48) (hd : a21.length ≤ 1000000) (hl : a24.length ≤ 1000000) (k : Nat) (hk : a21.length + a24.length + 2 < k) : ∃ r, roadbookref07_Bare.f k 6 a1 a2 a3 a4 a5 a6 a7 a8 a9 a10 a11 a12 a13 a14 a15 a16 a17 a18 a19 a20 a21 a22 a23 a24 = some r ∧ (r = true ↔ (a1 = 0 ∧ a2 = 0 ∧ a3 = (⟨#[]⟩ : ByteArray) ∧ a4 = 0 ∧ a5 = 0 ∧ a6 = (⟨#[]⟩ : ByteArray) ∧ a7 = 0 ∧ a8 = 0 ∧ a9 = (⟨#[]⟩ : ByteArray) ∧ a10 = 0 ∧ a11 = (⟨#[]⟩ : ByteArray) ∧ a12 = 0 ∧ a13 = 0 ∧ a14 = 0 ∧ a15 = 0 ∧ a16 = 0 ∧ a17 = 0 ∧ a18 = 0 ∧ a19 = (⟨#[]⟩ : ByteArray) ∧ a20 = (⟨#[]⟩ : ByteArray) ∧ a21 = ([] : List S46) ∧ a22 = 0 ∧ a23 = (⟨#[]⟩ : ByteArray))) := by
  rw [roadbookref07_Bare.f6]
  obtain ⟨r, e, h⟩ := same_f 6 0 0 (⟨#[]⟩ : ByteArray) 0 0 (⟨#[]⟩ : ByteArray) 0 0 (⟨#[]⟩ : ByteArray) 0 (⟨#[]⟩ : ByteArray) 0 0 0 0 0 0 0 (⟨#[]⟩ : ByteArray) (⟨#[]⟩ : ByteArray) ([] : List S46) 0 (⟨#[]⟩ : ByteArray) a24 6 a1 a2 a3 a4 a5 a6 a7 a8 a9 a10 a11 a12 a13 a14 a15 a16 a17 a18 a19 a20 a21 a22 a23 a24 (by decide) hl k (by (try simp only [List.length_nil]); omega)
  exact ⟨r, e, h.trans ⟨fun h => ⟨h.2.1.symm, h.2.2.1.symm, h.2.2.2.1.symm, h.2.2.2.2.1.symm, h.2.2.2.2.2.1.symm, h.2.2.2.2.2.2.1.symm, h.2.2.2.2.2.2.2.1.symm, h.2.2.2.2.2.2.2.2.1.symm, h.2.2.2.2.2.2.2.2.2.1.symm, h.2.2.2.2.2.2.2.2.2.2.1.symm, h.2.2.2.2.2.2.2.2.2.2.2.1.symm, h.2.2.2.2.2.2.2.2.2.2.2.2.1.symm, h.2.2.2.2.2.2.2.2.2.2.2.2.2.1.symm, h.2.2.2.2.2.2.2.2.2.2.2.2.2.2.1.symm, h.2.2.2.2.2.2.2.2.2.2.2.2.2.2.2.1.symm, h.2.2.2.2.2.2.2.2.2.2.2.2.2.2.2.2.1.symm, h.2.2.2.2.2.2.2.2.2.2.2.2.2.2.2.2.2.1.symm, h.2.2.2.2.2.2.2.2.2.2.2.2.2.2.2.2.2.2.1.symm, h.2.2.2.2.2.2.2.2.2.2.2.2.2.2.2.2.2.2.2.1.symm, h.2.2.2.2.2.2.2.2.2.2.2.2.2.2.2.2.2.2.2.2.1.symm, h.2.2.2.2.2.2.2.2.2.2.2.2.2.2.2.2.2.2.2.2.2.1.symm, h.2.2.2.2.2.2.2.2.2.2.2.2.2.2.2.2.2.2.2.2.2.2.1.symm, h.2.2.2.2.2.2.2.2.2.2.2.2.2.2.2.2.2.2.2.2.2.2.2.1.symm⟩, fun h => ⟨rfl, h.1.symm, h.2.1.symm, h.2.2.1.symm, h.2.2.2.1.symm, h.2.2.2.2.1.symm, h.2.2.2.2.2.1.symm, h.2.2.2.2.2.2.1.symm, h.2.2.2.2.2.2.2.1.symm, h.2.2.2.2.2.2.2.2.1.symm, h.2.2.2.2.2.2.2.2.2.1.symm, h.2.2.2.2.2.2.2.2.2.2.1.symm, h.2.2.2.2.2.2.2.2.2.2.2.1.symm, h.2.2.2.2.2.2.2.2.2.2.2.2.1.symm, h.2.2.2.2.2.2.2.2.2.2.2.2.2.1.symm, h.2.2.2.2.2.2.2.2.2.2.2.2.2.2.1.symm, h.2.2.2.2.2.2.2.2.2.2.2.2.2.2.2.1.symm, h.2.2.2.2.2.2.2.2.2.2.2.2.2.2.2.2.1.symm, h.2.2.2.2.2.2.2.2.2.2.2.2.2.2.2.2.2.1.symm, h.2.2.2.2.2.2.2.2.2.2.2.2.2.2.2.2.2.2.1.symm, h.2.2.2.2.2.2.2.2.2.2.2.2.2.2.2.2.2.2.2.1.symm, h.2.2.2.2.2.2.2.2.2.2.2.2.2.2.2.2.2.2.2.2.1.symm, h.2.2.2.2.2.2.2.2.2.2.2.2.2.2.2.2.2.2.2.2.2.1.symm, h.2.2.2.2.2.2.2.2.2.2.2.2.2.2.2.2.2.2.2.2.2.2.symm, rfl⟩⟩⟩

theorem bareq4 (a1 a2 : Int) (a3 : ByteArray) (a4 a5 : Int) (a6 : ByteArray) (a7 a8 : Int) (a9 : ByteArray) (a10 : Int) (a11 : ByteArray) (a12 a13 : Int) (a14 a15 : Int) (a16 a17 a18 : Int) (a19 a20 : ByteArray) (a21 : List S46) (a22 : Int) (a23 : ByteArray) (a24 : List S48) : msg_Bare.b 4 a1 a2 a3 a4 a5 a6 a7 a8 a9 a10 a11 a12 a13 a14 a15 a16 a17 a18 a19 a20 a21 a22 a23 a24 = true ↔ (a1 = 0 ∧ a2 = 0 ∧ a3 = (⟨#[]⟩ : ByteArray) ∧ a4 = 0 ∧ a5 = 0 ∧ a6 = (⟨#[]⟩ : ByteArray) ∧ a8 = 0 ∧ a9 = (⟨#[]⟩ : ByteArray) ∧ a10 = 0 ∧ a11 = (⟨#[]⟩ : ByteArray) ∧ a13 = 0 ∧ a17 = 0 ∧ a18 = 0 ∧ a21 = ([] : List S46) ∧ a22 = 0 ∧ a23 = (⟨#[]⟩ : ByteArray)) := by
  rw [msg_Bare.b4]
  unfold msg_Bare.z
  simp only [Bool.and_eq_true, beq_iff_eq, beq_self_eq_true, toList_inj, true_and, and_true, Int.natCast_eq_zero, List.length_eq_zero_iff]
  constructor
  · intro h
    simp only [h, and_self]
  · intro h
    simp only [h, and_self]

theorem bareq6 (a1 a2 : Int) (a3 : ByteArray) (a4 a5 : Int) (a6 : ByteArray) (a7 a8 : Int) (a9 : ByteArray) (a10 : Int) (a11 : ByteArray) (a12 a13 : Int) (a14 a15 : Int) (a16 a17 a18 : Int) (a19 a20 : ByteArray) (a21 : List S46) (a22 : Int) (a23 : ByteArray) (a24 : List S48) : msg_Bare.b 6 a1 a2 a3 a4 a5 a6 a7 a8 a9 a10 a11 a12 a13 a14 a15 a16 a17 a18 a19 a20 a21 a22 a23 a24 = true ↔ (a1 = 0 ∧ a2 = 0 ∧ a3 = (⟨#[]⟩ : ByteArray) ∧ a4 = 0 ∧ a5 = 0 ∧ a6 = (⟨#[]⟩ : ByteArray) ∧ a7 = 0 ∧ a8 = 0 ∧ a9 = (⟨#[]⟩ : ByteArray) ∧ a10 = 0 ∧ a11 = (⟨#[]⟩ : ByteArray) ∧ a12 = 0 ∧ a13 = 0 ∧ a14 = 0 ∧ a15 = 0 ∧ a16 = 0 ∧ a17 = 0 ∧ a18 = 0 ∧ a19 = (⟨#[]⟩ : ByteArray) ∧ a20 = (⟨#[]⟩ : ByteArray) ∧ a21 = ([] : List S46) ∧ a22 = 0 ∧ a23 = (⟨#[]⟩ : ByteArray)) := by
  rw [msg_Bare.b6]
  unfold msg_Bare.z
  simp only [Bool.and_eq_true, beq_iff_eq, beq_self_eq_true, toList_inj, true_and, and_true, Int.natCast_eq_zero, List.length_eq_zero_iff]
  constructor
  · intro h
    simp only [h, and_self]
  · intro h
    simp only [h, and_self]

theorem refbare_any (a0 a1 a2 : Int) (a3 : ByteArray) (a4 a5 : Int) (a6 : ByteArray) (a7 a8 : Int) (a9 : ByteArray) (a10 : Int) (a11 : ByteArray) (a12 a13 : Int) (a14 a15 : Int) (a16 a17 a18 : Int) (a19 a20 : ByteArray) (a21 : List S46) (a22 : Int) (a23 : ByteArray) (a24 : List S48) (hd : a21.length ≤ 1000000) (hl : a24.length ≤ 1000000) (k : Nat) (hk : a21.length + a24.length + 2 < k) : ∃ r, roadbookref07_Bare.f k a0 a1 a2 a3 a4 a5 a6 a7 a8 a9 a10 a11 a12 a13 a14 a15 a16 a17 a18 a19 a20 a21 a22 a23 a24 = some r := by
  have s : ∀ x0 x1 x2 x3 x4 x5 x6 x7 x8 x9 x10 x11 x12 x13 x14 x15 x16 x17 x18 x19 x20 x21 x22 x23 x24, x21.length ≤ 1000000 → x24.length ≤ 1000000 → x21.length ≤ a21.length → x24.length ≤ a24.length → ∀ n, ∃ r, roadbookref07_Same.f k x0 x1 x2 x3 x4 x5 x6 x7 x8 x9 x10 x11 x12 x13 x14 x15 x16 x17 x18 x19 x20 x21 x22 x23 x24 n a1 a2 a3 a4 a5 a6 a7 a8 a9 a10 a11 a12 a13 a14 a15 a16 a17 a18 a19 a20 a21 a22 a23 a24 = some r := by
    intro x0 x1 x2 x3 x4 x5 x6 x7 x8 x9 x10 x11 x12 x13 x14 x15 x16 x17 x18 x19 x20 x21 x22 x23 x24 h1 h2 h3 h4 n
    obtain ⟨r, e, _⟩ := same_f x0 x1 x2 x3 x4 x5 x6 x7 x8 x9 x10 x11 x12 x13 x14 x15 x16 x17 x18 x19 x20 x21 x22 x23 x24 n a1 a2 a3 a4 a5 a6 a7 a8 a9 a10 a11 a12 a13 a14 a15 a16 a17 a18 a19 a20 a21 a22 a23 a24 h1 h2 k (by omega)
    exact ⟨r, e⟩
  unfold roadbookref07_Bare.f
  by_cases c1 : a0 = 1
  · rw [if_pos c1]; exact s _ _ _ _ _ _ _ _ _ _ _ _ _ _ _ _ _ _ _ _ _ _ _ _ _ (by first | omega | simp) (by first | omega | simp) (by first | omega | simp) (by first | omega | simp) _
  rw [if_neg c1]
  by_cases c2 : a0 = 2
  · rw [if_pos c2]; exact s _ _ _ _ _ _ _ _ _ _ _ _ _ _ _ _ _ _ _ _ _ _ _ _ _ (by first | omega | simp) (by first | omega | simp) (by first | omega | simp) (by first | omega | simp) _
  rw [if_neg c2]
  by_cases c3 : a0 = 3
  · rw [if_pos c3]; exact s _ _ _ _ _ _ _ _ _ _ _ _ _ _ _ _ _ _ _ _ _ _ _ _ _ (by first | omega | simp) (by first | omega | simp) (by first | omega | simp) (by first | omega | simp) _
  rw [if_neg c3]
  by_cases c4 : a0 = 4
  · rw [if_pos c4]; exact s _ _ _ _ _ _ _ _ _ _ _ _ _ _ _ _ _ _ _ _ _ _ _ _ _ (by first | omega | simp) (by first | omega | simp) (by first | omega | simp) (by first | omega | simp) _
  rw [if_neg c4]
  by_cases c5 : a0 = 5
  · rw [if_pos c5]; exact s _ _ _ _ _ _ _ _ _ _ _ _ _ _ _ _ _ _ _ _ _ _ _ _ _ (by first | omega | simp) (by first | omega | simp) (by first | omega | simp) (by first | omega | simp) _
  rw [if_neg c5]
  by_cases c6 : a0 = 6
  · rw [if_pos c6]; exact s _ _ _ _ _ _ _ _ _ _ _ _ _ _ _ _ _ _ _ _ _ _ _ _ _ (by first | omega | simp) (by first | omega | simp) (by first | omega | simp) (by first | omega | simp) _
  rw [if_neg c6]
  by_cases c7 : a0 = 7
  · rw [if_pos c7]; exact s _ _ _ _ _ _ _ _ _ _ _ _ _ _ _ _ _ _ _ _ _ _ _ _ _ (by first | omega | simp) (by first | omega | simp) (by first | omega | simp) (by first | omega | simp) _
  rw [if_neg c7]
  by_cases c8 : a0 = 8
  · rw [if_pos c8]; exact s _ _ _ _ _ _ _ _ _ _ _ _ _ _ _ _ _ _ _ _ _ _ _ _ _ (by first | omega | simp) (by first | omega | simp) (by first | omega | simp) (by first | omega | simp) _
  rw [if_neg c8]
  by_cases c9 : a0 = 9
  · rw [if_pos c9]; exact s _ _ _ _ _ _ _ _ _ _ _ _ _ _ _ _ _ _ _ _ _ _ _ _ _ (by first | omega | simp) (by first | omega | simp) (by first | omega | simp) (by first | omega | simp) _
  rw [if_neg c9]
  by_cases c10 : a0 = 10
  · rw [if_pos c10]; exact s _ _ _ _ _ _ _ _ _ _ _ _ _ _ _ _ _ _ _ _ _ _ _ _ _ (by first | omega | simp) (by first | omega | simp) (by first | omega | simp) (by first | omega | simp) _
  rw [if_neg c10]
  by_cases c11 : a0 = 11
  · rw [if_pos c11]; exact s _ _ _ _ _ _ _ _ _ _ _ _ _ _ _ _ _ _ _ _ _ _ _ _ _ (by first | omega | simp) (by first | omega | simp) (by first | omega | simp) (by first | omega | simp) _
  rw [if_neg c11]
  by_cases c12 : a0 = 12
  · rw [if_pos c12]; exact s _ _ _ _ _ _ _ _ _ _ _ _ _ _ _ _ _ _ _ _ _ _ _ _ _ (by first | omega | simp) (by first | omega | simp) (by first | omega | simp) (by first | omega | simp) _
  rw [if_neg c12]
  by_cases c13 : a0 = 13
  · rw [if_pos c13]; exact s _ _ _ _ _ _ _ _ _ _ _ _ _ _ _ _ _ _ _ _ _ _ _ _ _ (by first | omega | simp) (by first | omega | simp) (by first | omega | simp) (by first | omega | simp) _
  rw [if_neg c13]
  by_cases c14 : a0 = 14
  · rw [if_pos c14]; exact s _ _ _ _ _ _ _ _ _ _ _ _ _ _ _ _ _ _ _ _ _ _ _ _ _ (by first | omega | simp) (by first | omega | simp) (by first | omega | simp) (by first | omega | simp) _
  rw [if_neg c14]
  exact ⟨false, rfl⟩

/-- A reply whose fields may be. -/
def RpOk (fl pl ho se iv : Int) (ad og : ByteArray) : Prop :=
  (0 ≤ fl ∧ fl ≤ 3) ∧ (0 ≤ pl ∧ pl ≤ 31) ∧ (0 ≤ ho ∧ ho < 256) ∧ (0 ≤ se ∧ se < 4294967296) ∧ (0 ≤ iv ∧ iv < 4294967296) ∧ ad.size = 4 ∧ og.size = 4
def rpBytes (fl pl ho se iv : Int) (ad og : ByteArray) (l : List S48) : ByteArray :=
  strOfNums [2, fl * 64, pl, ho] ++ ad ++ w4 se ++ og ++ w4 iv ++ allS l
def akBytes (l : List S48) : ByteArray := (⟨#[4, 0]⟩ : ByteArray) ++ allS l
def RepOk (a0 a1 a2 : Int) (a3 : ByteArray) (a4 a5 : Int) (a6 : ByteArray) (a7 a8 : Int) (a9 : ByteArray) (a10 : Int) (a11 : ByteArray) (a12 a13 : Int) (a14 a15 : Int) (a16 a17 a18 : Int) (a19 a20 : ByteArray) (a21 : List S46) (a22 : Int) (a23 : ByteArray) (a24 : List S48) : Prop := msg_Bare.b a0 a1 a2 a3 a4 a5 a6 a7 a8 a9 a10 a11 a12 a13 a14 a15 a16 a17 a18 a19 a20 a21 a22 a23 a24 = true ∧ (∀ x ∈ a24, okR 0 255 x) ∧ (a0 = 6 ∨ (a0 = 4 ∧ RpOk a15 a7 a16 a12 a14 a19 a20))
def repBytes (a0 fl pl ho se iv : Int) (ad og : ByteArray) (l : List S48) : ByteArray := if a0 = 6 then akBytes l else rpBytes fl pl ho se iv ad og l
theorem rrep_right_j (a0 a1 a2 : Int) (a3 : ByteArray) (a4 a5 : Int) (a6 : ByteArray) (a7 a8 : Int) (a9 : ByteArray) (a10 : Int) (a11 : ByteArray) (a12 a13 : Int) (a14 a15 : Int) (a16 a17 a18 : Int) (a19 a20 : ByteArray) (a21 : List S46) (a22 : Int) (a23 : ByteArray) (a24 : List S48) (h12 : -9223372036854775808 ≤ a12 ∧ a12 ≤ 9223372036854775807) (h14 : -9223372036854775808 ≤ a14 ∧ a14 ≤ 9223372036854775807) (h16 : -9223372036854775808 ≤ a16 ∧ a16 ≤ 9223372036854775807) (k : Nat) : ∃ r, rrep_Right.j0 (k + 1) false a0 a1 a2 a3 a4 a5 a6 a7 a8 a9 a10 a11 a12 a13 a14 a15 a16 a17 a18 a19 a20 a21 a22 a23 a24 = some r ∧ (r = true ↔ (a0 = 6 ∨ (a0 = 4 ∧ RpOk a15 a7 a16 a12 a14 a19 a20))) := by
  unfold RpOk
  rw [rrep_Right.j0, if_neg (by decide)]
  by_cases c6 : a0 = 6
  · rw [if_pos c6]; exact ⟨true, rfl, ⟨fun _ => .inl c6, fun _ => rfl⟩⟩
  rw [if_neg c6]
  by_cases c4 : a0 = 4
  · rw [if_pos c4]
    by_cases d1 : a15 ≥ 0
    · rw [if_pos d1]
      by_cases d2 : a15 < 4
      · rw [if_pos d2]
        by_cases d3 : a7 ≥ 0
        · rw [if_pos d3]
          by_cases d4 : a7 < 32
          · rw [if_pos d4, octet_Fits_f a16 1 h16.1 h16.2, Option.bind_some]
            by_cases d5 : octFits a16 1 = true
            · rw [if_pos d5, octet_Fits_f a12 4 h12.1 h12.2, Option.bind_some]
              by_cases d6 : octFits a12 4 = true
              · rw [if_pos d6, octet_Fits_f a14 4 h14.1 h14.2, Option.bind_some]
                by_cases d7 : octFits a14 4 = true
                · rw [if_pos d7]
                  by_cases d8 : (a19.size : Int) = 4
                  · rw [if_pos d8]
                    exact ⟨_, rfl, by rw [beq_iff_eq]; exact ⟨fun h => .inr ⟨c4, ⟨d1, by omega⟩, ⟨d3, by omega⟩, (fits1 a16).mp d5, (fits4 a12).mp d6, (fits4 a14).mp d7, by omega, by omega⟩, fun h => h.elim (fun h => absurd h c6) (fun h => by have := h.2.2.2.2.2.2.2; omega)⟩⟩
                  · rw [if_neg d8]; exact ⟨false, rfl, ⟨fun h => (by cases h), fun h => h.elim (fun h => absurd h c6) (fun h => by have := h.2.2.2.2.2.2.1; omega)⟩⟩
                · rw [if_neg d7]; exact ⟨false, rfl, ⟨fun h => (by cases h), fun h => h.elim (fun h => absurd h c6) (fun h => absurd ((fits4 a14).mpr h.2.2.2.2.2.1) d7)⟩⟩
              · rw [if_neg d6]; exact ⟨false, rfl, ⟨fun h => (by cases h), fun h => h.elim (fun h => absurd h c6) (fun h => absurd ((fits4 a12).mpr h.2.2.2.2.1) d6)⟩⟩
            · rw [if_neg d5]; exact ⟨false, rfl, ⟨fun h => (by cases h), fun h => h.elim (fun h => absurd h c6) (fun h => absurd ((fits1 a16).mpr h.2.2.2.1) d5)⟩⟩
          · rw [if_neg d4]; exact ⟨false, rfl, ⟨fun h => (by cases h), fun h => by rcases h with h | h <;> omega⟩⟩
        · rw [if_neg d3]; exact ⟨false, rfl, ⟨fun h => (by cases h), fun h => by rcases h with h | h <;> omega⟩⟩
      · rw [if_neg d2]; exact ⟨false, rfl, ⟨fun h => (by cases h), fun h => by rcases h with h | h <;> omega⟩⟩
    · rw [if_neg d1]; exact ⟨false, rfl, ⟨fun h => (by cases h), fun h => by rcases h with h | h <;> omega⟩⟩
  · rw [if_neg c4]; exact ⟨false, rfl, ⟨fun h => (by cases h), fun h => by rcases h with h | h <;> omega⟩⟩
theorem rrep_right_f (a0 a1 a2 : Int) (a3 : ByteArray) (a4 a5 : Int) (a6 : ByteArray) (a7 a8 : Int) (a9 : ByteArray) (a10 : Int) (a11 : ByteArray) (a12 a13 : Int) (a14 a15 : Int) (a16 a17 a18 : Int) (a19 a20 : ByteArray) (a21 : List S46) (a22 : Int) (a23 : ByteArray) (a24 : List S48) (hl : a24.length ≤ 1000000) (h12 : -9223372036854775808 ≤ a12 ∧ a12 ≤ 9223372036854775807) (h14 : -9223372036854775808 ≤ a14 ∧ a14 ≤ 9223372036854775807) (h16 : -9223372036854775808 ≤ a16 ∧ a16 ≤ 9223372036854775807) (k : Nat) (hk : a24.length + 6 < k) : ∃ r, rrep_Right.f k a0 a1 a2 a3 a4 a5 a6 a7 a8 a9 a10 a11 a12 a13 a14 a15 a16 a17 a18 a19 a20 a21 a22 a23 a24 = some r ∧ (r = true ↔ RepOk a0 a1 a2 a3 a4 a5 a6 a7 a8 a9 a10 a11 a12 a13 a14 a15 a16 a17 a18 a19 a20 a21 a22 a23 a24) := by
  obtain ⟨k, rfl⟩ : ∃ j, k = j + 1 := ⟨k - 1, by omega⟩
  have no : rrep_Right.j0 (k + 1) true a0 a1 a2 a3 a4 a5 a6 a7 a8 a9 a10 a11 a12 a13 a14 a15 a16 a17 a18 a19 a20 a21 a22 a23 a24 = some false := by simp only [rrep_Right.j0, if_true]
  unfold rrep_Right.f RepOk msg_Bare.f
  rw [no, Option.bind_some]
  by_cases c1 : msg_Bare.b a0 a1 a2 a3 a4 a5 a6 a7 a8 a9 a10 a11 a12 a13 a14 a15 a16 a17 a18 a19 a20 a21 a22 a23 a24 = true
  · rw [if_pos c1, right_f a24 hl (k + 1) (by omega), Option.bind_some]
    by_cases c2 : ∀ x ∈ a24, okR 0 255 x
    · rw [decide_eq_true c2]
      obtain ⟨r, e, hr⟩ := rrep_right_j a0 a1 a2 a3 a4 a5 a6 a7 a8 a9 a10 a11 a12 a13 a14 a15 a16 a17 a18 a19 a20 a21 a22 a23 a24 h12 h14 h16 k
      exact ⟨r, e, hr.trans ⟨fun h => ⟨c1, c2, h⟩, fun h => h.2.2⟩⟩
    · rw [decide_eq_false c2]
      exact ⟨false, no, ⟨fun h => (by cases h), fun h => absurd h.2.1 c2⟩⟩
  · rw [if_neg c1]; exact ⟨false, rfl, ⟨fun h => (by cases h), fun h => absurd h.1 c1⟩⟩
theorem rrep_put_f (a0 a1 a2 : Int) (a3 : ByteArray) (a4 a5 : Int) (a6 : ByteArray) (a7 a8 : Int) (a9 : ByteArray) (a10 : Int) (a11 : ByteArray) (a12 a13 : Int) (a14 a15 : Int) (a16 a17 a18 : Int) (a19 a20 : ByteArray) (a21 : List S46) (a22 : Int) (a23 : ByteArray) (a24 : List S48) (hl : a24.length ≤ 1000000) (h12 : -9223372036854775808 ≤ a12 ∧ a12 ≤ 9223372036854775807) (h14 : -9223372036854775808 ≤ a14 ∧ a14 ≤ 9223372036854775807) (h16 : -9223372036854775808 ≤ a16 ∧ a16 ≤ 9223372036854775807) (k : Nat) (hk : a24.length + 20 < k) :
    ∃ r, rrep_Right.f k a0 a1 a2 a3 a4 a5 a6 a7 a8 a9 a10 a11 a12 a13 a14 a15 a16 a17 a18 a19 a20 a21 a22 a23 a24 = some r ∧ (r = true ↔ RepOk a0 a1 a2 a3 a4 a5 a6 a7 a8 a9 a10 a11 a12 a13 a14 a15 a16 a17 a18 a19 a20 a21 a22 a23 a24) ∧ rrep_Put.f k a0 a1 a2 a3 a4 a5 a6 a7 a8 a9 a10 a11 a12 a13 a14 a15 a16 a17 a18 a19 a20 a21 a22 a23 a24 = some (if r = true then (repBytes a0 a15 a7 a16 a12 a14 a19 a20 a24, true) else ((⟨#[]⟩ : ByteArray), false)) := by
  obtain ⟨r, e, hr⟩ := rrep_right_f a0 a1 a2 a3 a4 a5 a6 a7 a8 a9 a10 a11 a12 a13 a14 a15 a16 a17 a18 a19 a20 a21 a22 a23 a24 hl h12 h14 h16 k (by omega)
  refine ⟨r, e, hr, ?_⟩
  unfold rrep_Put.f repBytes
  rw [e, Option.bind_some]
  by_cases c : r = true
  · obtain ⟨_, ok, h⟩ := hr.mp c
    have hb := bytesS_le a24 255 (fun x hx => (ok x hx).2.2)
    have sz : (allS a24).size = bytesS a24 := size_all a24
    rw [if_pos c, if_pos c, put_f a24 hl k (by omega), if_pos ok, Option.bind_some]
    by_cases c6 : a0 = 6
    · rw [if_pos c6, if_pos c6]
      dsimp only
      rw [if_pos (by omega)]
      rfl
    · rw [if_neg c6, if_neg c6]
      rcases h with h | ⟨_, r15, r7, r16, r12, r14, r19, r20⟩
      · exact absurd h c6
      have s12 := size_w4 a12; have s14 := size_w4 a14
      have s0 : (strOfNums [2, a15 * 64, a7, a16]).size = 4 := size_nums _
      rw [octet_Put_f a12 4 (by omega) (by omega) k (by omega), Option.bind_some, put4 a12 r12.1 r12.2, octet_Put_f a14 4 (by omega) (by omega) k (by omega), Option.bind_some, put4 a14 r14.1 r14.2, Option.bind_some, wrap64_id (by omega) (by omega), Int.emod_eq_of_lt (by omega) (by omega), Int.emod_eq_of_lt (a := a7) (by omega) (by omega), Int.emod_eq_of_lt (a := a16) (by omega) (by omega)]
      dsimp only
      rw [if_pos (by rw [s0]; omega), if_pos (by simp only [size_app, s0, s12]; omega), if_pos (by simp only [size_app, s0, s12]; omega), if_pos (by simp only [size_app, s0, s12, s14]; omega), if_pos (by simp only [size_app, s0, s12, s14]; omega)]
      rfl
  · rw [if_neg c, if_neg c]

theorem refbare46 (a0 a1 a2 : Int) (a3 : ByteArray) (a4 a5 : Int) (a6 : ByteArray) (a7 a8 : Int) (a9 : ByteArray) (a10 : Int) (a11 : ByteArray) (a12 a13 : Int) (a14 a15 : Int) (a16 a17 a18 : Int) (a19 a20 : ByteArray) (a21 : List S46) (a22 : Int) (a23 : ByteArray) (a24 : List S48) (hd : a21.length ≤ 1000000) (hl : a24.length ≤ 1000000) (k : Nat) (hk : a21.length + a24.length + 2 < k) : ∃ b, roadbookref07_Bare.f k a0 a1 a2 a3 a4 a5 a6 a7 a8 a9 a10 a11 a12 a13 a14 a15 a16 a17 a18 a19 a20 a21 a22 a23 a24 = some b ∧ ((a0 = 6 ∨ a0 = 4) → (b = true ↔ msg_Bare.b a0 a1 a2 a3 a4 a5 a6 a7 a8 a9 a10 a11 a12 a13 a14 a15 a16 a17 a18 a19 a20 a21 a22 a23 a24 = true)) := by
  by_cases c6 : a0 = 6
  · subst c6
    obtain ⟨b, e, h⟩ := refbareq6 a1 a2 a3 a4 a5 a6 a7 a8 a9 a10 a11 a12 a13 a14 a15 a16 a17 a18 a19 a20 a21 a22 a23 a24 hd hl k hk
    exact ⟨b, e, fun _ => by rw [bareq6]; exact h⟩
  by_cases c4 : a0 = 4
  · subst c4
    obtain ⟨b, e, h⟩ := refbareq4 a1 a2 a3 a4 a5 a6 a7 a8 a9 a10 a11 a12 a13 a14 a15 a16 a17 a18 a19 a20 a21 a22 a23 a24 hd hl k hk
    exact ⟨b, e, fun _ => by rw [bareq4]; exact h⟩
  obtain ⟨b, e⟩ := refbare_any a0 a1 a2 a3 a4 a5 a6 a7 a8 a9 a10 a11 a12 a13 a14 a15 a16 a17 a18 a19 a20 a21 a22 a23 a24 hd hl k hk
  exact ⟨b, e, fun h => h.elim (fun h => absurd h c6) (fun h => absurd h c4)⟩
theorem refright15_j (a0 a1 a2 : Int) (a3 : ByteArray) (a4 a5 : Int) (a6 : ByteArray) (a7 a8 : Int) (a9 : ByteArray) (a10 : Int) (a11 : ByteArray) (a12 a13 : Int) (a14 a15 : Int) (a16 a17 a18 : Int) (a19 a20 : ByteArray) (a21 : List S46) (a22 : Int) (a23 : ByteArray) (a24 : List S48) (k : Nat) (hk : 20 < k) : ∃ r, roadbookref15_Right.j0 (k + 1) false a0 a1 a2 a3 a4 a5 a6 a7 a8 a9 a10 a11 a12 a13 a14 a15 a16 a17 a18 a19 a20 a21 a22 a23 a24 = some r ∧ (r = true ↔ (a0 = 6 ∨ (a0 = 4 ∧ RpOk a15 a7 a16 a12 a14 a19 a20))) := by
  unfold RpOk
  rw [roadbookref15_Right.j0, if_neg (by decide)]
  by_cases c6 : a0 = 6
  · rw [if_pos c6]; exact ⟨true, rfl, ⟨fun _ => .inl c6, fun _ => rfl⟩⟩
  rw [if_neg c6]
  by_cases c4 : a0 = 4
  · rw [if_pos c4]
    by_cases d1 : a15 ≥ 0
    · rw [if_pos d1]
      by_cases d2 : a15 ≤ 3
      · rw [if_pos d2]
        by_cases d3 : a7 ≥ 0
        · rw [if_pos d3]
          by_cases d4 : a7 ≤ 31
          · rw [if_pos d4, refFits_f a16 1 k (by omega), Option.bind_some]
            by_cases d5 : octFits a16 1 = true
            · rw [if_pos d5, refFits_f a12 4 k (by omega), Option.bind_some]
              by_cases d6 : octFits a12 4 = true
              · rw [if_pos d6, refFits_f a14 4 k (by omega), Option.bind_some]
                by_cases d7 : octFits a14 4 = true
                · rw [if_pos d7]
                  by_cases d8 : (a19.size : Int) = 4
                  · rw [if_pos d8]
                    exact ⟨_, rfl, by rw [beq_iff_eq]; exact ⟨fun h => .inr ⟨c4, ⟨d1, by omega⟩, ⟨d3, by omega⟩, (fits1 a16).mp d5, (fits4 a12).mp d6, (fits4 a14).mp d7, by omega, by omega⟩, fun h => h.elim (fun h => absurd h c6) (fun h => by have := h.2.2.2.2.2.2.2; omega)⟩⟩
                  · rw [if_neg d8]; exact ⟨false, rfl, ⟨fun h => (by cases h), fun h => h.elim (fun h => absurd h c6) (fun h => by have := h.2.2.2.2.2.2.1; omega)⟩⟩
                · rw [if_neg d7]; exact ⟨false, rfl, ⟨fun h => (by cases h), fun h => h.elim (fun h => absurd h c6) (fun h => absurd ((fits4 a14).mpr h.2.2.2.2.2.1) d7)⟩⟩
              · rw [if_neg d6]; exact ⟨false, rfl, ⟨fun h => (by cases h), fun h => h.elim (fun h => absurd h c6) (fun h => absurd ((fits4 a12).mpr h.2.2.2.2.1) d6)⟩⟩
            · rw [if_neg d5]; exact ⟨false, rfl, ⟨fun h => (by cases h), fun h => h.elim (fun h => absurd h c6) (fun h => absurd ((fits1 a16).mpr h.2.2.2.1) d5)⟩⟩
          · rw [if_neg d4]; exact ⟨false, rfl, ⟨fun h => (by cases h), fun h => h.elim (fun h => absurd h c6) (fun h => by omega)⟩⟩
        · rw [if_neg d3]; exact ⟨false, rfl, ⟨fun h => (by cases h), fun h => h.elim (fun h => absurd h c6) (fun h => by omega)⟩⟩
      · rw [if_neg d2]; exact ⟨false, rfl, ⟨fun h => (by cases h), fun h => h.elim (fun h => absurd h c6) (fun h => by omega)⟩⟩
    · rw [if_neg d1]; exact ⟨false, rfl, ⟨fun h => (by cases h), fun h => h.elim (fun h => absurd h c6) (fun h => by omega)⟩⟩
  · rw [if_neg c4]; exact ⟨false, rfl, ⟨fun h => (by cases h), fun h => h.elim (fun h => absurd h c6) (fun h => by omega)⟩⟩
theorem refright15_f (a0 a1 a2 : Int) (a3 : ByteArray) (a4 a5 : Int) (a6 : ByteArray) (a7 a8 : Int) (a9 : ByteArray) (a10 : Int) (a11 : ByteArray) (a12 a13 : Int) (a14 a15 : Int) (a16 a17 a18 : Int) (a19 a20 : ByteArray) (a21 : List S46) (a22 : Int) (a23 : ByteArray) (a24 : List S48) (hd : a21.length ≤ 1000000) (hl : a24.length ≤ 1000000) (k : Nat) (hk : a21.length + a24.length + 30 < k) : ∃ r, roadbookref15_Right.f k a0 a1 a2 a3 a4 a5 a6 a7 a8 a9 a10 a11 a12 a13 a14 a15 a16 a17 a18 a19 a20 a21 a22 a23 a24 = some r ∧ (r = true ↔ RepOk a0 a1 a2 a3 a4 a5 a6 a7 a8 a9 a10 a11 a12 a13 a14 a15 a16 a17 a18 a19 a20 a21 a22 a23 a24) := by
  obtain ⟨k, rfl⟩ : ∃ j, k = j + 1 := ⟨k - 1, by omega⟩
  have no : roadbookref15_Right.j0 (k + 1) true a0 a1 a2 a3 a4 a5 a6 a7 a8 a9 a10 a11 a12 a13 a14 a15 a16 a17 a18 a19 a20 a21 a22 a23 a24 = some false := by simp only [roadbookref15_Right.j0, if_true]
  obtain ⟨b, e, hb⟩ := refbare46 a0 a1 a2 a3 a4 a5 a6 a7 a8 a9 a10 a11 a12 a13 a14 a15 a16 a17 a18 a19 a20 a21 a22 a23 a24 hd hl (k + 1) (by omega)
  unfold roadbookref15_Right.f RepOk
  rw [no, e, Option.bind_some]
  by_cases c1 : b = true
  · rw [if_pos c1, refright_f a24 hl (k + 1) (by omega), Option.bind_some]
    by_cases c2 : ∀ x ∈ a24, okR 0 255 x
    · rw [decide_eq_true c2]
      obtain ⟨r, e, hr⟩ := refright15_j a0 a1 a2 a3 a4 a5 a6 a7 a8 a9 a10 a11 a12 a13 a14 a15 a16 a17 a18 a19 a20 a21 a22 a23 a24 k (by omega)
      exact ⟨r, e, hr.trans ⟨fun h => ⟨(hb (h.imp id And.left)).mp c1, c2, h⟩, fun h => h.2.2⟩⟩
    · rw [decide_eq_false c2]
      exact ⟨false, no, ⟨fun h => (by cases h), fun h => absurd h.2.1 c2⟩⟩
  · rw [if_neg c1]; exact ⟨false, rfl, ⟨fun h => (by cases h), fun h => absurd ((hb (h.2.2.imp id And.left)).mpr h.1) c1⟩⟩
theorem refOf15_f (n : Int) (h0 : 0 ≤ n) (h1 : n < 4294967296) (k : Nat) (hk : 10 < k) : roadbookref02_Of.f k n 4 = some (w4 n) := by
  unfold roadbookref02_Of.f
  rw [refPut_f n 4 (by omega) k hk, Option.bind_some, put4 n h0 h1]
theorem refput15_f (a0 a1 a2 : Int) (a3 : ByteArray) (a4 a5 : Int) (a6 : ByteArray) (a7 a8 : Int) (a9 : ByteArray) (a10 : Int) (a11 : ByteArray) (a12 a13 : Int) (a14 a15 : Int) (a16 a17 a18 : Int) (a19 a20 : ByteArray) (a21 : List S46) (a22 : Int) (a23 : ByteArray) (a24 : List S48) (hd : a21.length ≤ 1000000) (hl : a24.length ≤ 1000000) (k : Nat) (hk : a21.length + a24.length + 30 < k) :
    ∃ r, roadbookref15_Right.f k a0 a1 a2 a3 a4 a5 a6 a7 a8 a9 a10 a11 a12 a13 a14 a15 a16 a17 a18 a19 a20 a21 a22 a23 a24 = some r ∧ (r = true ↔ RepOk a0 a1 a2 a3 a4 a5 a6 a7 a8 a9 a10 a11 a12 a13 a14 a15 a16 a17 a18 a19 a20 a21 a22 a23 a24) ∧ roadbookref15_Put.f k a0 a1 a2 a3 a4 a5 a6 a7 a8 a9 a10 a11 a12 a13 a14 a15 a16 a17 a18 a19 a20 a21 a22 a23 a24 = some (if r = true then (repBytes a0 a15 a7 a16 a12 a14 a19 a20 a24, true) else ((⟨#[]⟩ : ByteArray), false)) := by
  obtain ⟨r, e, hr⟩ := refright15_f a0 a1 a2 a3 a4 a5 a6 a7 a8 a9 a10 a11 a12 a13 a14 a15 a16 a17 a18 a19 a20 a21 a22 a23 a24 hd hl k hk
  refine ⟨r, e, hr, ?_⟩
  unfold roadbookref15_Put.f repBytes
  rw [e, Option.bind_some]
  by_cases c : r = true
  · obtain ⟨_, ok, h⟩ := hr.mp c
    have hb := bytesS_le a24 255 (fun x hx => (ok x hx).2.2)
    have sz : (allS a24).size = bytesS a24 := size_all a24
    rw [if_pos c, if_pos c, refput_f a24 hl k (by omega), if_pos ok, Option.bind_some]
    by_cases c6 : a0 = 6
    · rw [if_pos c6, if_pos c6]
      dsimp only
      rw [if_pos (by omega)]
      rfl
    · rw [if_neg c6, if_neg c6]
      rcases h with h | ⟨_, r15, r7, r16, r12, r14, r19, r20⟩
      · exact absurd h c6
      have s12 := size_w4 a12; have s14 := size_w4 a14
      have s0 : (strOfNums [64 * a15, a7, a16]).size = 3 := size_nums _
      have s1 : (⟨#[2]⟩ : ByteArray).size = 1 := rfl
      rw [Option.bind_some, wrap64_id (by omega) (by omega), Int.emod_eq_of_lt (by omega) (by omega), Int.emod_eq_of_lt (a := a7) (by omega) (by omega), Int.emod_eq_of_lt (a := a16) (by omega) (by omega)]
      dsimp only
      rw [if_pos (by rw [s0]; omega), if_pos (by simp only [size_app, s0, s1]; omega), refOf15_f a12 r12.1 r12.2 k (by omega), Option.bind_some, if_pos (by simp only [size_app, s0, s1, s12]; omega), if_pos (by simp only [size_app, s0, s1, s12]; omega), refOf15_f a14 r14.1 r14.2 k (by omega), Option.bind_some, if_pos (by simp only [size_app, s0, s1, s12, s14]; omega), if_pos (by simp only [size_app, s0, s1, s12, s14]; omega)]
      have e1 : (⟨#[2]⟩ : ByteArray) ++ strOfNums [64 * a15, a7, a16] = strOfNums [2, a15 * 64, a7, a16] := by
        rw [show (⟨#[2]⟩ : ByteArray) = strOfNums [2] from rfl, ← nums_app, Int.mul_comm]; rfl
      rw [e1]
      rfl
  · rw [if_neg c, if_neg c]

theorem refbareq5 (a1 a2 : Int) (a3 : ByteArray) (a4 a5 : Int) (a6 : ByteArray) (a7 a8 : Int) (a9 : ByteArray) (a10 : Int) (a11 : ByteArray) (a12 a13 : Int) (a14 a15 : Int) (a16 a17 a18 : Int) (a19 a20 : ByteArray) (a21 : List S46) (a22 : Int) (a23 : ByteArray) (a24 : List S48) (hd : a21.length ≤ 1000000) (hl : a24.length ≤ 1000000) (k : Nat) (hk : a21.length + a24.length + 2 < k) : ∃ r, roadbookref07_Bare.f k 5 a1 a2 a3 a4 a5 a6 a7 a8 a9 a10 a11 a12 a13 a14 a15 a16 a17 a18 a19 a20 a21 a22 a23 a24 = some r ∧ (r = true ↔ (a1 = 0 ∧ a2 = 0 ∧ a3 = (⟨#[]⟩ : ByteArray) ∧ a4 = 0 ∧ a5 = 0 ∧ a6 = (⟨#[]⟩ : ByteArray) ∧ a7 = 0 ∧ a8 = 0 ∧ a9 = (⟨#[]⟩ : ByteArray) ∧ a10 = 0 ∧ a11 = (⟨#[]⟩ : ByteArray) ∧ a12 = 0 ∧ a13 = 0 ∧ a14 = 0 ∧ a16 = 0 ∧ a17 = 0 ∧ a18 = 0 ∧ a19 = (⟨#[]⟩ : ByteArray) ∧ a20 = (⟨#[]⟩ : ByteArray) ∧ a22 = 0 ∧ a23 = (⟨#[]⟩ : ByteArray))) := by
  rw [roadbookref07_Bare.f5]
  obtain ⟨r, e, h⟩ := same_f 5 0 0 (⟨#[]⟩ : ByteArray) 0 0 (⟨#[]⟩ : ByteArray) 0 0 (⟨#[]⟩ : ByteArray) 0 (⟨#[]⟩ : ByteArray) 0 0 0 a15 0 0 0 (⟨#[]⟩ : ByteArray) (⟨#[]⟩ : ByteArray) a21 0 (⟨#[]⟩ : ByteArray) a24 5 a1 a2 a3 a4 a5 a6 a7 a8 a9 a10 a11 a12 a13 a14 a15 a16 a17 a18 a19 a20 a21 a22 a23 a24 hd hl k (by (try simp only [List.length_nil]); omega)
  exact ⟨r, e, h.trans ⟨fun h => ⟨h.2.1.symm, h.2.2.1.symm, h.2.2.2.1.symm, h.2.2.2.2.1.symm, h.2.2.2.2.2.1.symm, h.2.2.2.2.2.2.1.symm, h.2.2.2.2.2.2.2.1.symm, h.2.2.2.2.2.2.2.2.1.symm, h.2.2.2.2.2.2.2.2.2.1.symm, h.2.2.2.2.2.2.2.2.2.2.1.symm, h.2.2.2.2.2.2.2.2.2.2.2.1.symm, h.2.2.2.2.2.2.2.2.2.2.2.2.1.symm, h.2.2.2.2.2.2.2.2.2.2.2.2.2.1.symm, h.2.2.2.2.2.2.2.2.2.2.2.2.2.2.1.symm, h.2.2.2.2.2.2.2.2.2.2.2.2.2.2.2.2.1.symm, h.2.2.2.2.2.2.2.2.2.2.2.2.2.2.2.2.2.1.symm, h.2.2.2.2.2.2.2.2.2.2.2.2.2.2.2.2.2.2.1.symm, h.2.2.2.2.2.2.2.2.2.2.2.2.2.2.2.2.2.2.2.1.symm, h.2.2.2.2.2.2.2.2.2.2.2.2.2.2.2.2.2.2.2.2.1.symm, h.2.2.2.2.2.2.2.2.2.2.2.2.2.2.2.2.2.2.2.2.2.2.1.symm, h.2.2.2.2.2.2.2.2.2.2.2.2.2.2.2.2.2.2.2.2.2.2.2.1.symm⟩, fun h => ⟨rfl, h.1.symm, h.2.1.symm, h.2.2.1.symm, h.2.2.2.1.symm, h.2.2.2.2.1.symm, h.2.2.2.2.2.1.symm, h.2.2.2.2.2.2.1.symm, h.2.2.2.2.2.2.2.1.symm, h.2.2.2.2.2.2.2.2.1.symm, h.2.2.2.2.2.2.2.2.2.1.symm, h.2.2.2.2.2.2.2.2.2.2.1.symm, h.2.2.2.2.2.2.2.2.2.2.2.1.symm, h.2.2.2.2.2.2.2.2.2.2.2.2.1.symm, h.2.2.2.2.2.2.2.2.2.2.2.2.2.1.symm, rfl, h.2.2.2.2.2.2.2.2.2.2.2.2.2.2.1.symm, h.2.2.2.2.2.2.2.2.2.2.2.2.2.2.2.1.symm, h.2.2.2.2.2.2.2.2.2.2.2.2.2.2.2.2.1.symm, h.2.2.2.2.2.2.2.2.2.2.2.2.2.2.2.2.2.1.symm, h.2.2.2.2.2.2.2.2.2.2.2.2.2.2.2.2.2.2.1.symm, rfl, h.2.2.2.2.2.2.2.2.2.2.2.2.2.2.2.2.2.2.2.1.symm, h.2.2.2.2.2.2.2.2.2.2.2.2.2.2.2.2.2.2.2.2.symm, rfl⟩⟩⟩

/-- A destination that may be. -/
def okD (d : S46) : Prop := d.f0.size = 4 ∧ 0 ≤ d.f1 ∧ d.f1 < 4294967296
theorem drop_rdD {l : List S46} {i : Nat} (h : i < l.length) : l.drop i = rd_T46 l (i : Int) :: l.drop (i + 1) := by
  unfold rd_T46
  rw [Int.toNat_natCast, List.drop_eq_getElem_cons h, List.getD_eq_getElem?_getD, List.getElem?_eq_getElem h]; rfl
theorem rd_memD {l : List S46} {i : Nat} (h : i < l.length) : rd_T46 l (i : Int) ∈ l :=
  List.mem_of_mem_drop (i := i) (by rw [drop_rdD h]; simp)
/-- The bytes of destinations. -/
def allD : List S46 → ByteArray
  | [] => (⟨#[]⟩ : ByteArray)
  | d :: l => d.f0 ++ w4 d.f1 ++ allD l
theorem size_allD (l : List S46) (ok : ∀ d ∈ l, okD d) : (allD l).size = 8 * l.length := by
  induction l with
  | nil => rfl
  | cons d l ih =>
    have h := ok d (by simp)
    have := ih fun x hx => ok x (by simp [hx])
    rw [allD, size_app, size_app, size_w4, h.1, this, List.length_cons]; omega
def ReOk (fl : Int) (dl : List S46) (l : List S48) : Prop := (fl = 0 ∨ fl = 1) ∧ 1 ≤ dl.length ∧ dl.length ≤ 255 ∧ (∀ d ∈ dl, okD d) ∧ ∀ x ∈ l, okR 0 255 x
def reBytes (fl : Int) (dl : List S46) (l : List S48) : ByteArray := strOfNums [3, fl * 128, 0, (dl.length : Int)] ++ allD dl ++ allS l
theorem size_re (fl : Int) (dl : List S46) (l : List S48) (ok : ReOk fl dl l) : (reBytes fl dl l).size = 4 + 8 * dl.length + bytesS l := by
  unfold reBytes
  rw [size_app, size_app, size_nums, size_allD dl ok.2.2.2.1, size_all]; rfl
theorem re_cons {x : S46} {l : List S46} : (∀ y ∈ x :: l, okD y) ↔ okD x ∧ ∀ y ∈ l, okD y := by simp

theorem bareq5 (a1 a2 : Int) (a3 : ByteArray) (a4 a5 : Int) (a6 : ByteArray) (a7 a8 : Int) (a9 : ByteArray) (a10 : Int) (a11 : ByteArray) (a12 a13 : Int) (a14 a15 : Int) (a16 a17 a18 : Int) (a19 a20 : ByteArray) (a21 : List S46) (a22 : Int) (a23 : ByteArray) (a24 : List S48) : msg_Bare.b 5 a1 a2 a3 a4 a5 a6 a7 a8 a9 a10 a11 a12 a13 a14 a15 a16 a17 a18 a19 a20 a21 a22 a23 a24 = true ↔ (a1 = 0 ∧ a2 = 0 ∧ a3 = (⟨#[]⟩ : ByteArray) ∧ a4 = 0 ∧ a5 = 0 ∧ a6 = (⟨#[]⟩ : ByteArray) ∧ a7 = 0 ∧ a8 = 0 ∧ a9 = (⟨#[]⟩ : ByteArray) ∧ a10 = 0 ∧ a11 = (⟨#[]⟩ : ByteArray) ∧ a12 = 0 ∧ a13 = 0 ∧ a14 = 0 ∧ a16 = 0 ∧ a17 = 0 ∧ a18 = 0 ∧ a19 = (⟨#[]⟩ : ByteArray) ∧ a20 = (⟨#[]⟩ : ByteArray) ∧ a22 = 0 ∧ a23 = (⟨#[]⟩ : ByteArray)) := by
  rw [msg_Bare.b5]
  unfold msg_Bare.z
  simp only [Bool.and_eq_true, beq_iff_eq, beq_self_eq_true, toList_inj, true_and, and_true, Int.natCast_eq_zero, List.length_eq_zero_iff]
  constructor
  · intro h
    simp only [h, and_self]
  · intro h
    simp only [h, and_self]

theorem rerr_right_l (a0 a1 a2 : Int) (a3 : ByteArray) (a4 a5 : Int) (a6 : ByteArray) (a7 a8 : Int) (a9 : ByteArray) (a10 : Int) (a11 : ByteArray) (a12 a13 : Int) (a14 a15 : Int) (a16 a17 a18 : Int) (a19 a20 : ByteArray) (a21 : List S46) (a22 : Int) (a23 : ByteArray) (a24 : List S48) (hD : ∀ x ∈ a21, -9223372036854775808 ≤ x.f1 ∧ x.f1 ≤ 9223372036854775807) (hl : a24.length ≤ 1000000) (hn : a21.length ≤ 1000) (m : Nat) : ∀ (k i : Nat), m + a24.length + 1 < k → a21.length - i = m → i ≤ a21.length →
    ∃ r, rerr_Right.l0 k a21 (a21.length : Int) i a0 a1 a2 a3 a4 a5 a6 a7 a8 a9 a10 a11 a12 a13 a14 a15 a16 a17 a18 a19 a20 a21 a22 a23 a24 = some r ∧ (r = true ↔ (∀ x ∈ a21.drop i, okD x) ∧ ∀ x ∈ a24, okR 0 255 x) := by
  induction m with
  | zero =>
    intro k i hk hm hi
    obtain ⟨k, rfl⟩ : ∃ j, k = j + 1 := ⟨k - 1, by omega⟩
    rw [rerr_Right.l0]
    rw [if_neg (by omega), right_f a24 hl k (by omega), Option.bind_some, List.drop_eq_nil_of_le (by omega)]
    exact ⟨_, rfl, by rw [decide_eq_true_eq]; exact ⟨fun h => ⟨fun x hx => (by cases hx), h⟩, fun h => h.2⟩⟩
  | succ m ih =>
    intro k i hk hm hi
    obtain ⟨k, rfl⟩ : ∃ j, k = j + 1 := ⟨k - 1, by omega⟩
    have hx := hD _ (rd_memD (i := i) (by omega))
    have := ih k (i + 1) (by omega) (by omega) (by omega)
    rw [rerr_Right.l0]
    rw [if_pos (by omega), if_pos (by omega), if_pos (by omega), drop_rdD (i := i) (by omega), re_cons, wrap64_id (x := (i : Int) + 1) (by omega) (by omega)]
    rw [show ((i : Int) + 1) = ((i + 1 : Nat) : Int) by omega]
    generalize rd_T46 a21 (i : Int) = x at hx
    by_cases c1 : (x.f0.size : Int) = 4
    · rw [if_pos c1, octet_Fits_f x.f1 4 hx.1 hx.2, Option.bind_some]
      by_cases c2 : octFits x.f1 4 = true
      · obtain ⟨r, e, hr⟩ := this
        rw [if_pos c2, e]
        have f := (fits4 x.f1).mp c2
        exact ⟨r, rfl, hr.trans ⟨fun h => ⟨⟨⟨by omega, f⟩, h.1⟩, h.2⟩, fun h => ⟨h.1.2, h.2⟩⟩⟩
      · rw [if_neg c2]; exact ⟨false, rfl, ⟨fun h => (by cases h), fun h => absurd ((fits4 x.f1).mpr h.1.1.2) c2⟩⟩
    · rw [if_neg c1]; exact ⟨false, rfl, ⟨fun h => (by cases h), fun h => by have := h.1.1.1; omega⟩⟩
theorem rerr_right_f (a0 a1 a2 : Int) (a3 : ByteArray) (a4 a5 : Int) (a6 : ByteArray) (a7 a8 : Int) (a9 : ByteArray) (a10 : Int) (a11 : ByteArray) (a12 a13 : Int) (a14 a15 : Int) (a16 a17 a18 : Int) (a19 a20 : ByteArray) (a21 : List S46) (a22 : Int) (a23 : ByteArray) (a24 : List S48) (hD : ∀ x ∈ a21, -9223372036854775808 ≤ x.f1 ∧ x.f1 ≤ 9223372036854775807) (hl : a24.length ≤ 1000000) (hn : a21.length ≤ 1000) (k : Nat) (hk : a21.length + a24.length + 3 < k) :
    ∃ r, rerr_Right.f k a0 a1 a2 a3 a4 a5 a6 a7 a8 a9 a10 a11 a12 a13 a14 a15 a16 a17 a18 a19 a20 a21 a22 a23 a24 = some r ∧ (r = true ↔ a0 = 5 ∧ msg_Bare.b a0 a1 a2 a3 a4 a5 a6 a7 a8 a9 a10 a11 a12 a13 a14 a15 a16 a17 a18 a19 a20 a21 a22 a23 a24 = true ∧ ReOk a15 a21 a24) := by
  obtain ⟨k, rfl⟩ : ∃ j, k = j + 1 := ⟨k - 1, by omega⟩
  have no : rerr_Right.j0 (k + 1) true a0 a1 a2 a3 a4 a5 a6 a7 a8 a9 a10 a11 a12 a13 a14 a15 a16 a17 a18 a19 a20 a21 a22 a23 a24 = some false := by simp only [rerr_Right.j0, if_true]
  have go : ∃ r, rerr_Right.j0 (k + 1) false a0 a1 a2 a3 a4 a5 a6 a7 a8 a9 a10 a11 a12 a13 a14 a15 a16 a17 a18 a19 a20 a21 a22 a23 a24 = some r ∧ (r = true ↔ (∀ x ∈ a21, okD x) ∧ ∀ x ∈ a24, okR 0 255 x) := by
    simp only [rerr_Right.j0, Bool.false_eq_true, if_false]
    have := rerr_right_l a0 a1 a2 a3 a4 a5 a6 a7 a8 a9 a10 a11 a12 a13 a14 a15 a16 a17 a18 a19 a20 a21 a22 a23 a24 hD hl hn a21.length k 0 (by omega) (by omega) (by omega)
    rw [List.drop_zero] at this
    exact this
  have mid : ∃ r, (if (a21.length : Int) = 0 then rerr_Right.j0 (k + 1) true a0 a1 a2 a3 a4 a5 a6 a7 a8 a9 a10 a11 a12 a13 a14 a15 a16 a17 a18 a19 a20 a21 a22 a23 a24 else rerr_Right.j0 (k + 1) (decide ((a21.length : Int) > 255)) a0 a1 a2 a3 a4 a5 a6 a7 a8 a9 a10 a11 a12 a13 a14 a15 a16 a17 a18 a19 a20 a21 a22 a23 a24) = some r ∧ (r = true ↔ 1 ≤ a21.length ∧ a21.length ≤ 255 ∧ (∀ x ∈ a21, okD x) ∧ ∀ x ∈ a24, okR 0 255 x) := by
    by_cases c3 : (a21.length : Int) = 0
    · rw [if_pos c3, no]; exact ⟨false, rfl, ⟨fun h => (by cases h), fun h => by omega⟩⟩
    rw [if_neg c3]
    by_cases c4 : (a21.length : Int) > 255
    · rw [decide_eq_true c4, no]; exact ⟨false, rfl, ⟨fun h => (by cases h), fun h => by omega⟩⟩
    rw [decide_eq_false c4]
    obtain ⟨r, e, hr⟩ := go
    exact ⟨r, e, hr.trans ⟨fun h => ⟨by omega, by omega, h⟩, fun h => h.2.2⟩⟩
  unfold rerr_Right.f ReOk msg_Bare.f
  rw [Option.bind_some]
  obtain ⟨r, e, hr⟩ := mid
  rw [e, no]
  by_cases c0 : a0 = 5
  · rw [if_pos c0]
    by_cases c1 : msg_Bare.b a0 a1 a2 a3 a4 a5 a6 a7 a8 a9 a10 a11 a12 a13 a14 a15 a16 a17 a18 a19 a20 a21 a22 a23 a24 = true
    · rw [if_pos c1]
      by_cases c2 : a15 = 0
      · rw [if_pos c2]; exact ⟨r, rfl, hr.trans ⟨fun h => ⟨c0, c1, .inl c2, h⟩, fun h => h.2.2.2⟩⟩
      rw [if_neg c2]
      by_cases c3 : a15 = 1
      · rw [if_pos c3]; exact ⟨r, rfl, hr.trans ⟨fun h => ⟨c0, c1, .inr c3, h⟩, fun h => h.2.2.2⟩⟩
      rw [if_neg c3]; exact ⟨false, rfl, ⟨fun h => (by cases h), fun h => by have := h.2.2.1; omega⟩⟩
    · rw [if_neg c1]; exact ⟨false, rfl, ⟨fun h => (by cases h), fun h => absurd h.2.1 c1⟩⟩
  · rw [if_neg c0]; exact ⟨false, rfl, ⟨fun h => (by cases h), fun h => absurd h.1 c0⟩⟩
theorem rerr_put_l (a0 a1 a2 : Int) (a3 : ByteArray) (a4 a5 : Int) (a6 : ByteArray) (a7 a8 : Int) (a9 : ByteArray) (a10 : Int) (a11 : ByteArray) (a12 a13 : Int) (a14 a15 : Int) (a16 a17 a18 : Int) (a19 a20 : ByteArray) (a21 : List S46) (a22 : Int) (a23 : ByteArray) (a24 : List S48) (hl : a24.length ≤ 1000000) (hn : a21.length ≤ 1000) (okd : ∀ x ∈ a21, okD x) (oks : ∀ x ∈ a24, okR 0 255 x) (m : Nat) : ∀ (k i : Nat) (acc : List Int), m + a24.length + 10 < k → a21.length - i = m → i ≤ a21.length → acc.length = 4 + 8 * i →
    rerr_Put.l0 k acc a21 (a21.length : Int) i a0 a1 a2 a3 a4 a5 a6 a7 a8 a9 a10 a11 a12 a13 a14 a15 a16 a17 a18 a19 a20 a21 a22 a23 a24 = some (strOfNums acc ++ allD (a21.drop i) ++ allS a24, true) := by
  have hb := bytesS_le a24 255 (fun x hx => (oks x hx).2.2)
  have sz : (allS a24).size = bytesS a24 := size_all a24
  induction m with
  | zero =>
    intro k i acc hk hm hi ha
    obtain ⟨k, rfl⟩ : ∃ j, k = j + 1 := ⟨k - 1, by omega⟩
    simp only [rerr_Put.l0]
    rw [if_neg (by omega), put_f a24 hl k (by omega), if_pos oks, Option.bind_some, if_pos (by rw [size_nums]; dsimp only; omega), List.drop_eq_nil_of_le (by omega), allD, app_empty]
  | succ m ih =>
    intro k i acc hk hm hi ha
    obtain ⟨k, rfl⟩ : ∃ j, k = j + 1 := ⟨k - 1, by omega⟩
    have hx := okd _ (rd_memD (i := i) (by omega))
    simp only [rerr_Put.l0]
    rw [if_pos (by omega), if_pos (by omega), if_pos (by omega), drop_rdD (i := i) (by omega), wrap64_id (x := (i : Int) + 1) (by omega) (by omega)]
    generalize rd_T46 a21 (i : Int) = x at hx
    obtain ⟨x0, x1⟩ := hx
    have s4 := size_w4 x.f1
    rw [octet_Put_f x.f1 4 (by omega) (by omega) k (by omega), Option.bind_some, put4 x.f1 x1.1 x1.2, if_pos (by omega), Option.bind_some, if_pos (by rw [List.length_append, len_bytesOf]; dsimp only; omega)]
    have := ih k (i + 1) (acc ++ bytesOf x.f0 ++ bytesOf (w4 x.f1)) (by omega) (by omega) (by omega) (by rw [List.length_append, List.length_append, len_bytesOf, len_bytesOf]; omega)
    rw [show ((i : Int) + 1) = ((i + 1 : Nat) : Int) by omega, this, nums_app, nums_app, nums_bytes, nums_bytes, allD]
    simp only [ByteArray.append_assoc]
theorem rerr_put_f (a0 a1 a2 : Int) (a3 : ByteArray) (a4 a5 : Int) (a6 : ByteArray) (a7 a8 : Int) (a9 : ByteArray) (a10 : Int) (a11 : ByteArray) (a12 a13 : Int) (a14 a15 : Int) (a16 a17 a18 : Int) (a19 a20 : ByteArray) (a21 : List S46) (a22 : Int) (a23 : ByteArray) (a24 : List S48) (hD : ∀ x ∈ a21, -9223372036854775808 ≤ x.f1 ∧ x.f1 ≤ 9223372036854775807) (hl : a24.length ≤ 1000000) (hn : a21.length ≤ 1000) (k : Nat) (hk : a21.length + a24.length + 20 < k) :
    ∃ r, rerr_Right.f k a0 a1 a2 a3 a4 a5 a6 a7 a8 a9 a10 a11 a12 a13 a14 a15 a16 a17 a18 a19 a20 a21 a22 a23 a24 = some r ∧ (r = true ↔ a0 = 5 ∧ msg_Bare.b a0 a1 a2 a3 a4 a5 a6 a7 a8 a9 a10 a11 a12 a13 a14 a15 a16 a17 a18 a19 a20 a21 a22 a23 a24 = true ∧ ReOk a15 a21 a24) ∧ rerr_Put.f k a0 a1 a2 a3 a4 a5 a6 a7 a8 a9 a10 a11 a12 a13 a14 a15 a16 a17 a18 a19 a20 a21 a22 a23 a24 = some (if r = true then (reBytes a15 a21 a24, true) else ((⟨#[]⟩ : ByteArray), false)) := by
  obtain ⟨r, e, hr⟩ := rerr_right_f a0 a1 a2 a3 a4 a5 a6 a7 a8 a9 a10 a11 a12 a13 a14 a15 a16 a17 a18 a19 a20 a21 a22 a23 a24 hD hl hn k (by omega)
  refine ⟨r, e, hr, ?_⟩
  unfold rerr_Put.f
  rw [e, Option.bind_some]
  by_cases c : r = true
  · obtain ⟨_, _, r15, n1, n2, okd, oks⟩ := hr.mp c
    rw [if_pos c, if_pos c, wrap64_id (by omega) (by omega), Int.emod_eq_of_lt (by omega) (by omega), Int.emod_eq_of_lt (a := (a21.length : Int)) (by omega) (by omega)]
    have := rerr_put_l a0 a1 a2 a3 a4 a5 a6 a7 a8 a9 a10 a11 a12 a13 a14 a15 a16 a17 a18 a19 a20 a21 a22 a23 a24 hl hn okd oks a21.length k 0 [3, a15 * 128, 0, (a21.length : Int)] (by omega) (by omega) (by omega) rfl
    rw [List.drop_zero] at this
    exact this
  · rw [if_neg c, if_neg c]

theorem refright16_l (a0 a1 a2 : Int) (a3 : ByteArray) (a4 a5 : Int) (a6 : ByteArray) (a7 a8 : Int) (a9 : ByteArray) (a10 : Int) (a11 : ByteArray) (a12 a13 : Int) (a14 a15 : Int) (a16 a17 a18 : Int) (a19 a20 : ByteArray) (a21 : List S46) (a22 : Int) (a23 : ByteArray) (a24 : List S48) (hn : a21.length ≤ 1000) (m : Nat) : ∀ (k i : Nat), m + 20 < k → a21.length - i = m → i ≤ a21.length →
    ∃ r, roadbookref16_Right.l0 k i a0 a1 a2 a3 a4 a5 a6 a7 a8 a9 a10 a11 a12 a13 a14 a15 a16 a17 a18 a19 a20 a21 a22 a23 a24 = some r ∧ (r = true ↔ ∀ x ∈ a21.drop i, okD x) := by
  induction m with
  | zero =>
    intro k i hk hm hi
    obtain ⟨k, rfl⟩ : ∃ j, k = j + 1 := ⟨k - 1, by omega⟩
    rw [roadbookref16_Right.l0]
    rw [if_neg (by omega), List.drop_eq_nil_of_le (by omega)]
    exact ⟨true, rfl, ⟨fun _ x hx => (by cases hx), fun _ => rfl⟩⟩
  | succ m ih =>
    intro k i hk hm hi
    obtain ⟨k, rfl⟩ : ∃ j, k = j + 1 := ⟨k - 1, by omega⟩
    have := ih k (i + 1) (by omega) (by omega) (by omega)
    rw [roadbookref16_Right.l0]
    rw [if_pos (by omega), if_pos (by omega), drop_rdD (i := i) (by omega), re_cons, wrap64_id (x := (i : Int) + 1) (by omega) (by omega)]
    rw [show ((i : Int) + 1) = ((i + 1 : Nat) : Int) by omega]
    generalize rd_T46 a21 (i : Int) = x
    by_cases c1 : (x.f0.size : Int) = 4
    · rw [if_pos c1, refFits_f x.f1 4 k (by omega), Option.bind_some]
      by_cases c2 : octFits x.f1 4 = true
      · obtain ⟨r, e, hr⟩ := this
        rw [if_pos c2, e]
        have f := (fits4 x.f1).mp c2
        exact ⟨r, rfl, hr.trans ⟨fun h => ⟨⟨by omega, f⟩, h⟩, fun h => h.2⟩⟩
      · rw [if_neg c2]; exact ⟨false, rfl, ⟨fun h => (by cases h), fun h => absurd ((fits4 x.f1).mpr h.1.2) c2⟩⟩
    · rw [if_neg c1]; exact ⟨false, rfl, ⟨fun h => (by cases h), fun h => by have := h.1.1; omega⟩⟩
theorem refright16_f (a0 a1 a2 : Int) (a3 : ByteArray) (a4 a5 : Int) (a6 : ByteArray) (a7 a8 : Int) (a9 : ByteArray) (a10 : Int) (a11 : ByteArray) (a12 a13 : Int) (a14 a15 : Int) (a16 a17 a18 : Int) (a19 a20 : ByteArray) (a21 : List S46) (a22 : Int) (a23 : ByteArray) (a24 : List S48) (hl : a24.length ≤ 1000000) (hn : a21.length ≤ 1000) (k : Nat) (hk : a21.length + a24.length + 30 < k) :
    ∃ r, roadbookref16_Right.f k a0 a1 a2 a3 a4 a5 a6 a7 a8 a9 a10 a11 a12 a13 a14 a15 a16 a17 a18 a19 a20 a21 a22 a23 a24 = some r ∧ (r = true ↔ a0 = 5 ∧ msg_Bare.b a0 a1 a2 a3 a4 a5 a6 a7 a8 a9 a10 a11 a12 a13 a14 a15 a16 a17 a18 a19 a20 a21 a22 a23 a24 = true ∧ ReOk a15 a21 a24) := by
  obtain ⟨k, rfl⟩ : ∃ j, k = j + 1 := ⟨k - 1, by omega⟩
  have no : roadbookref16_Right.j0 (k + 1) true a0 a1 a2 a3 a4 a5 a6 a7 a8 a9 a10 a11 a12 a13 a14 a15 a16 a17 a18 a19 a20 a21 a22 a23 a24 = some false := by simp only [roadbookref16_Right.j0, if_true]
  have go : ∃ r, roadbookref16_Right.j0 (k + 1) false a0 a1 a2 a3 a4 a5 a6 a7 a8 a9 a10 a11 a12 a13 a14 a15 a16 a17 a18 a19 a20 a21 a22 a23 a24 = some r ∧ (r = true ↔ ∀ x ∈ a21, okD x) := by
    simp only [roadbookref16_Right.j0, Bool.false_eq_true, if_false]
    have := refright16_l a0 a1 a2 a3 a4 a5 a6 a7 a8 a9 a10 a11 a12 a13 a14 a15 a16 a17 a18 a19 a20 a21 a22 a23 a24 hn a21.length k 0 (by omega) (by omega) (by omega)
    rw [List.drop_zero] at this
    exact this
  unfold roadbookref16_Right.f ReOk
  rw [no]
  by_cases c0 : a0 = 5
  · subst c0
    rw [if_pos rfl]
    obtain ⟨b, e, hb⟩ := refbareq5 a1 a2 a3 a4 a5 a6 a7 a8 a9 a10 a11 a12 a13 a14 a15 a16 a17 a18 a19 a20 a21 a22 a23 a24 (by omega) hl (k + 1) (by omega)
    rw [e, Option.bind_some, bareq5, ← hb]
    by_cases c1 : b = true
    · rw [if_pos c1]
      by_cases c2 : a15 < 0
      · rw [if_pos c2]; exact ⟨false, rfl, ⟨fun h => (by cases h), fun h => by have := h.2.2.1; omega⟩⟩
      rw [if_neg c2]
      by_cases c3 : a15 > 1
      · rw [if_pos c3]; exact ⟨false, rfl, ⟨fun h => (by cases h), fun h => by have := h.2.2.1; omega⟩⟩
      rw [if_neg c3]
      by_cases c4 : (a21.length : Int) < 1
      · rw [if_pos c4]; exact ⟨false, rfl, ⟨fun h => (by cases h), fun h => by have := h.2.2.2.1; omega⟩⟩
      rw [if_neg c4]
      by_cases c5 : (a21.length : Int) > 255
      · rw [if_pos c5]; exact ⟨false, rfl, ⟨fun h => (by cases h), fun h => by have := h.2.2.2.2.1; omega⟩⟩
      rw [if_neg c5, refright_f a24 hl (k + 1) (by omega), Option.bind_some]
      by_cases c6 : ∀ x ∈ a24, okR 0 255 x
      · rw [decide_eq_true c6]
        obtain ⟨r, e, hr⟩ := go
        exact ⟨r, e, hr.trans ⟨fun h => ⟨rfl, c1, by omega, by omega, by omega, h, c6⟩, fun h => h.2.2.2.2.2.1⟩⟩
      · rw [decide_eq_false c6]
        exact ⟨false, no, ⟨fun h => (by cases h), fun h => absurd h.2.2.2.2.2.2 c6⟩⟩
    · rw [if_neg c1]; exact ⟨false, rfl, ⟨fun h => (by cases h), fun h => absurd h.2.1 c1⟩⟩
  · rw [if_neg c0]; exact ⟨false, rfl, ⟨fun h => (by cases h), fun h => absurd h.1 c0⟩⟩
theorem refOf16_f (n : Int) (h0 : 0 ≤ n) (h1 : n < 4294967296) (k : Nat) (hk : 10 < k) : roadbookref02_Of.f k n 4 = some (w4 n) := by
  unfold roadbookref02_Of.f
  rw [refPut_f n 4 (by omega) k hk, Option.bind_some, put4 n h0 h1]
theorem refput16_l (a0 a1 a2 : Int) (a3 : ByteArray) (a4 a5 : Int) (a6 : ByteArray) (a7 a8 : Int) (a9 : ByteArray) (a10 : Int) (a11 : ByteArray) (a12 a13 : Int) (a14 a15 : Int) (a16 a17 a18 : Int) (a19 a20 : ByteArray) (a21 : List S46) (a22 : Int) (a23 : ByteArray) (a24 : List S48) (hl : a24.length ≤ 1000000) (hn : a21.length ≤ 1000) (okd : ∀ x ∈ a21, okD x) (oks : ∀ x ∈ a24, okR 0 255 x) (m : Nat) : ∀ (k i : Nat) (acc : ByteArray), m + a24.length + 20 < k → a21.length - i = m → i ≤ a21.length → acc.size = 4 + 8 * i →
    roadbookref16_Put.l0 k acc i a0 a1 a2 a3 a4 a5 a6 a7 a8 a9 a10 a11 a12 a13 a14 a15 a16 a17 a18 a19 a20 a21 a22 a23 a24 = some (acc ++ allD (a21.drop i) ++ allS a24, true) := by
  have hb := bytesS_le a24 255 (fun x hx => (oks x hx).2.2)
  have sz : (allS a24).size = bytesS a24 := size_all a24
  induction m with
  | zero =>
    intro k i acc hk hm hi ha
    obtain ⟨k, rfl⟩ : ∃ j, k = j + 1 := ⟨k - 1, by omega⟩
    simp only [roadbookref16_Put.l0]
    rw [if_neg (by omega), refput_f a24 hl k (by omega), if_pos oks, Option.bind_some, if_pos (by dsimp only; omega), List.drop_eq_nil_of_le (by omega), allD, app_empty]
  | succ m ih =>
    intro k i acc hk hm hi ha
    obtain ⟨k, rfl⟩ : ∃ j, k = j + 1 := ⟨k - 1, by omega⟩
    have hx := okd _ (rd_memD (i := i) (by omega))
    simp only [roadbookref16_Put.l0]
    rw [if_pos (by omega), if_pos (by omega), drop_rdD (i := i) (by omega), wrap64_id (x := (i : Int) + 1) (by omega) (by omega)]
    generalize rd_T46 a21 (i : Int) = x at hx
    obtain ⟨x0, x1⟩ := hx
    have s4 := size_w4 x.f1
    rw [if_pos (by omega), refOf16_f x.f1 x1.1 x1.2 k (by omega), Option.bind_some, if_pos (by rw [size_app]; omega)]
    have := ih k (i + 1) (acc ++ x.f0 ++ w4 x.f1) (by omega) (by omega) (by omega) (by rw [size_app, size_app]; omega)
    rw [show ((i : Int) + 1) = ((i + 1 : Nat) : Int) by omega, this, allD]
    simp only [ByteArray.append_assoc]
theorem refput16_f (a0 a1 a2 : Int) (a3 : ByteArray) (a4 a5 : Int) (a6 : ByteArray) (a7 a8 : Int) (a9 : ByteArray) (a10 : Int) (a11 : ByteArray) (a12 a13 : Int) (a14 a15 : Int) (a16 a17 a18 : Int) (a19 a20 : ByteArray) (a21 : List S46) (a22 : Int) (a23 : ByteArray) (a24 : List S48) (hl : a24.length ≤ 1000000) (hn : a21.length ≤ 1000) (k : Nat) (hk : a21.length + a24.length + 30 < k) :
    ∃ r, roadbookref16_Right.f k a0 a1 a2 a3 a4 a5 a6 a7 a8 a9 a10 a11 a12 a13 a14 a15 a16 a17 a18 a19 a20 a21 a22 a23 a24 = some r ∧ (r = true ↔ a0 = 5 ∧ msg_Bare.b a0 a1 a2 a3 a4 a5 a6 a7 a8 a9 a10 a11 a12 a13 a14 a15 a16 a17 a18 a19 a20 a21 a22 a23 a24 = true ∧ ReOk a15 a21 a24) ∧ roadbookref16_Put.f k a0 a1 a2 a3 a4 a5 a6 a7 a8 a9 a10 a11 a12 a13 a14 a15 a16 a17 a18 a19 a20 a21 a22 a23 a24 = some (if r = true then (reBytes a15 a21 a24, true) else ((⟨#[]⟩ : ByteArray), false)) := by
  obtain ⟨r, e, hr⟩ := refright16_f a0 a1 a2 a3 a4 a5 a6 a7 a8 a9 a10 a11 a12 a13 a14 a15 a16 a17 a18 a19 a20 a21 a22 a23 a24 hl hn k hk
  refine ⟨r, e, hr, ?_⟩
  unfold roadbookref16_Put.f
  rw [e, Option.bind_some]
  by_cases c : r = true
  · obtain ⟨_, _, r15, n1, n2, okd, oks⟩ := hr.mp c
    have s0 : (strOfNums [128 * a15, 0, (a21.length : Int)]).size = 3 := size_nums _
    have s1 : (⟨#[3]⟩ : ByteArray).size = 1 := rfl
    rw [if_pos c, if_pos c, Option.bind_some, wrap64_id (by omega) (by omega), Int.emod_eq_of_lt (by omega) (by omega), Int.emod_eq_of_lt (a := (a21.length : Int)) (by omega) (by omega), if_pos (by rw [s0]; omega)]
    have e1 : (⟨#[3]⟩ : ByteArray) ++ strOfNums [128 * a15, 0, (a21.length : Int)] = strOfNums [3, a15 * 128, 0, (a21.length : Int)] := by
      rw [show (⟨#[3]⟩ : ByteArray) = strOfNums [3] from rfl, ← nums_app, Int.mul_comm]; rfl
    have := refput16_l a0 a1 a2 a3 a4 a5 a6 a7 a8 a9 a10 a11 a12 a13 a14 a15 a16 a17 a18 a19 a20 a21 a22 a23 a24 hl hn okd oks a21.length k 0 (strOfNums [3, a15 * 128, 0, (a21.length : Int)]) (by omega) (by omega) (by omega) (by rw [size_nums]; rfl)
    rw [List.drop_zero] at this
    rw [e1]
    exact this
  · rw [if_neg c, if_neg c]

theorem rd_memM {l : List S25} {i : Nat} (h : i < l.length) : rd_T25 l (i : Int) ∈ l := by
  unfold rd_T25
  rw [Int.toNat_natCast, List.getD_eq_getElem?_getD, List.getElem?_eq_getElem h]
  exact List.getElem_mem h
theorem rd_extM {l m : List S25} (c : l.length = m.length) : (∀ j : Nat, 0 ≤ j → j < l.length → rd_T25 l (j : Int) = rd_T25 m (j : Int)) ↔ l = m := by
  refine ⟨fun h => ?_, fun h j _ _ => by rw [h]⟩
  apply List.ext_getElem c
  intro i h1 h2
  have := h i (by omega) h1
  unfold rd_T25 at this
  rwa [Int.toNat_natCast, List.getD_eq_getElem?_getD, List.getD_eq_getElem?_getD, List.getElem?_eq_getElem h1, List.getElem?_eq_getElem h2] at this

/-- The bounds of a message that the layer's functions are asked of. -/
def AB (x : S25) : Prop := (∀ d ∈ x.f21, -9223372036854775808 ≤ d.f1 ∧ d.f1 ≤ 9223372036854775807) ∧ (-9223372036854775808 ≤ x.f12 ∧ x.f12 ≤ 9223372036854775807) ∧ (-9223372036854775808 ≤ x.f13 ∧ x.f13 ≤ 9223372036854775807) ∧ (-9223372036854775808 ≤ x.f14 ∧ x.f14 ≤ 9223372036854775807) ∧ (-9223372036854775808 ≤ x.f16 ∧ x.f16 ≤ 9223372036854775807) ∧ (-9223372036854775808 ≤ x.f17 ∧ x.f17 ≤ 9223372036854775807) ∧ x.f21.length ≤ 300 ∧ x.f24.length ≤ 60
theorem aright_ex (x : S25) (h : AB x) (k : Nat) (hk : 500 < k) : ∃ r, aodv_Right.f k (x).f0 (x).f1 (x).f2 (x).f3 (x).f4 (x).f5 (x).f6 (x).f7 (x).f8 (x).f9 (x).f10 (x).f11 (x).f12 (x).f13 (x).f14 (x).f15 (x).f16 (x).f17 (x).f18 (x).f19 (x).f20 (x).f21 (x).f22 (x).f23 (x).f24 = some r ∧ roadbookref17_Right.f k (x).f0 (x).f1 (x).f2 (x).f3 (x).f4 (x).f5 (x).f6 (x).f7 (x).f8 (x).f9 (x).f10 (x).f11 (x).f12 (x).f13 (x).f14 (x).f15 (x).f16 (x).f17 (x).f18 (x).f19 (x).f20 (x).f21 (x).f22 (x).f23 (x).f24 = some r := by
  have b1 := h.2.2.2.2.2.2.1
  have b2 := h.2.2.2.2.2.2.2
  obtain ⟨r1, e1, i1, p1⟩ := rreq_put_f (x).f0 (x).f1 (x).f2 (x).f3 (x).f4 (x).f5 (x).f6 (x).f7 (x).f8 (x).f9 (x).f10 (x).f11 (x).f12 (x).f13 (x).f14 (x).f15 (x).f16 (x).f17 (x).f18 (x).f19 (x).f20 (x).f21 (x).f22 (x).f23 (x).f24 (by omega) h.2.1 h.2.2.1 h.2.2.2.2.1 h.2.2.2.2.2.1 k (by omega)
  obtain ⟨r1', f1, j1, q1⟩ := refput14_f (x).f0 (x).f1 (x).f2 (x).f3 (x).f4 (x).f5 (x).f6 (x).f7 (x).f8 (x).f9 (x).f10 (x).f11 (x).f12 (x).f13 (x).f14 (x).f15 (x).f16 (x).f17 (x).f18 (x).f19 (x).f20 (x).f21 (x).f22 (x).f23 (x).f24 (by omega) (by omega) k (by omega)
  have u1 : r1 = r1' := by rw [Bool.eq_iff_iff, i1, j1]
  subst u1
  obtain ⟨r2, e2, i2, p2⟩ := rrep_put_f (x).f0 (x).f1 (x).f2 (x).f3 (x).f4 (x).f5 (x).f6 (x).f7 (x).f8 (x).f9 (x).f10 (x).f11 (x).f12 (x).f13 (x).f14 (x).f15 (x).f16 (x).f17 (x).f18 (x).f19 (x).f20 (x).f21 (x).f22 (x).f23 (x).f24 (by omega) h.2.1 h.2.2.2.1 h.2.2.2.2.1 k (by omega)
  obtain ⟨r2', f2, j2, q2⟩ := refput15_f (x).f0 (x).f1 (x).f2 (x).f3 (x).f4 (x).f5 (x).f6 (x).f7 (x).f8 (x).f9 (x).f10 (x).f11 (x).f12 (x).f13 (x).f14 (x).f15 (x).f16 (x).f17 (x).f18 (x).f19 (x).f20 (x).f21 (x).f22 (x).f23 (x).f24 (by omega) (by omega) k (by omega)
  have u2 : r2 = r2' := by rw [Bool.eq_iff_iff, i2, j2]
  subst u2
  obtain ⟨r3, e3, i3, p3⟩ := rerr_put_f (x).f0 (x).f1 (x).f2 (x).f3 (x).f4 (x).f5 (x).f6 (x).f7 (x).f8 (x).f9 (x).f10 (x).f11 (x).f12 (x).f13 (x).f14 (x).f15 (x).f16 (x).f17 (x).f18 (x).f19 (x).f20 (x).f21 (x).f22 (x).f23 (x).f24 h.1 (by omega) (by omega) k (by omega)
  obtain ⟨r3', f3, j3, q3⟩ := refput16_f (x).f0 (x).f1 (x).f2 (x).f3 (x).f4 (x).f5 (x).f6 (x).f7 (x).f8 (x).f9 (x).f10 (x).f11 (x).f12 (x).f13 (x).f14 (x).f15 (x).f16 (x).f17 (x).f18 (x).f19 (x).f20 (x).f21 (x).f22 (x).f23 (x).f24 (by omega) (by omega) k (by omega)
  have u3 : r3 = r3' := by rw [Bool.eq_iff_iff, i3, j3]
  subst u3
  unfold aodv_Right.f roadbookref17_Right.f
  rw [e1, f1, Option.bind_some, Option.bind_some]
  by_cases c1 : r1 = true
  · rw [if_pos c1, if_pos c1]; exact ⟨true, rfl, rfl⟩
  rw [if_neg c1, if_neg c1, e2, f2, Option.bind_some, Option.bind_some]
  by_cases c2 : r2 = true
  · rw [if_pos c2, if_pos c2]; exact ⟨true, rfl, rfl⟩
  rw [if_neg c2, if_neg c2, e3, f3]
  exact ⟨r3, rfl, rfl⟩
theorem aj1_ex (l : List S25) (hl : 0 < l.length) (h : AB (rd_T25 l 0)) (s : ByteArray) (b : Bool) (k : Nat) (hk : 501 < k) : ∃ X, aodv_Encode.j1 k l s b = some X ∧ roadbookref17_Encode.j1 k l s b = some X := by
  obtain ⟨k, rfl⟩ : ∃ j, k = j + 1 := ⟨k - 1, by omega⟩
  rw [aodv_Encode.j1, roadbookref17_Encode.j1]
  by_cases c : b = true
  · rw [if_pos c, if_pos c]
    by_cases c2 : (s.size : Int) > 65535
    · rw [if_pos c2]; exact ⟨_, rfl, rfl⟩
    · rw [if_neg c2]; exact ⟨_, rfl, rfl⟩
  · have hl' : 0 < (l.length : Int) := by omega
    have b1 := h.2.2.2.2.2.2.1
    have b2 := h.2.2.2.2.2.2.2
    obtain ⟨r3, e3, i3, p3⟩ := rerr_put_f (rd_T25 l 0).f0 (rd_T25 l 0).f1 (rd_T25 l 0).f2 (rd_T25 l 0).f3 (rd_T25 l 0).f4 (rd_T25 l 0).f5 (rd_T25 l 0).f6 (rd_T25 l 0).f7 (rd_T25 l 0).f8 (rd_T25 l 0).f9 (rd_T25 l 0).f10 (rd_T25 l 0).f11 (rd_T25 l 0).f12 (rd_T25 l 0).f13 (rd_T25 l 0).f14 (rd_T25 l 0).f15 (rd_T25 l 0).f16 (rd_T25 l 0).f17 (rd_T25 l 0).f18 (rd_T25 l 0).f19 (rd_T25 l 0).f20 (rd_T25 l 0).f21 (rd_T25 l 0).f22 (rd_T25 l 0).f23 (rd_T25 l 0).f24 h.1 (by omega) (by omega) k (by omega)
    obtain ⟨r3', f3, j3, q3⟩ := refput16_f (rd_T25 l 0).f0 (rd_T25 l 0).f1 (rd_T25 l 0).f2 (rd_T25 l 0).f3 (rd_T25 l 0).f4 (rd_T25 l 0).f5 (rd_T25 l 0).f6 (rd_T25 l 0).f7 (rd_T25 l 0).f8 (rd_T25 l 0).f9 (rd_T25 l 0).f10 (rd_T25 l 0).f11 (rd_T25 l 0).f12 (rd_T25 l 0).f13 (rd_T25 l 0).f14 (rd_T25 l 0).f15 (rd_T25 l 0).f16 (rd_T25 l 0).f17 (rd_T25 l 0).f18 (rd_T25 l 0).f19 (rd_T25 l 0).f20 (rd_T25 l 0).f21 (rd_T25 l 0).f22 (rd_T25 l 0).f23 (rd_T25 l 0).f24 (by omega) (by omega) k (by omega)
    have u3 : r3 = r3' := by rw [Bool.eq_iff_iff, i3, j3]
    subst u3
    rw [if_neg c, if_neg c, if_pos hl', if_pos hl', p3, q3, Option.bind_some]
    generalize (if r3 = true then _ else _ : ByteArray × Bool) = v
    by_cases c2 : (v.1.size : Int) > 65535
    · rw [if_pos c2]; exact ⟨_, rfl, rfl⟩
    · rw [if_neg c2]; exact ⟨_, rfl, rfl⟩
theorem aenc_l (l : List S25) (hl : l.length ≤ 1000) (hs : ∀ x ∈ l, AB x) (q : Nat) : ∀ (k i : Nat), q + 600 < k → l.length - i = q → ∃ X, aodv_Encode.l0 k l (l.length : Int) i = some X ∧ roadbookref17_Encode.l0 k l i = some X := by
  induction q with
  | zero =>
    intro k i hk hq
    obtain ⟨k, rfl⟩ : ∃ j, k = j + 1 := ⟨k - 1, by omega⟩
    have hi : ¬ (i : Int) < (l.length : Int) := by omega
    rw [aodv_Encode.l0, roadbookref17_Encode.l0, if_neg hi, if_neg hi]
    by_cases c0 : (l.length : Int) = 0
    · rw [if_pos c0, if_pos c0]; exact ⟨_, rfl, rfl⟩
    rw [if_neg c0, if_neg c0]
    by_cases c1 : (l.length : Int) > 1
    · rw [if_pos c1, if_pos c1]; exact ⟨_, rfl, rfl⟩
    have hp : 0 < (l.length : Int) := by omega
    rw [if_neg c1, if_neg c1, if_pos hp, if_pos hp]
    have h : AB (rd_T25 l 0) := hs _ (rd_memM (i := 0) (by omega))
    have b1 := h.2.2.2.2.2.2.1
    have b2 := h.2.2.2.2.2.2.2
    obtain ⟨r1, e1, i1, p1⟩ := rreq_put_f (rd_T25 l 0).f0 (rd_T25 l 0).f1 (rd_T25 l 0).f2 (rd_T25 l 0).f3 (rd_T25 l 0).f4 (rd_T25 l 0).f5 (rd_T25 l 0).f6 (rd_T25 l 0).f7 (rd_T25 l 0).f8 (rd_T25 l 0).f9 (rd_T25 l 0).f10 (rd_T25 l 0).f11 (rd_T25 l 0).f12 (rd_T25 l 0).f13 (rd_T25 l 0).f14 (rd_T25 l 0).f15 (rd_T25 l 0).f16 (rd_T25 l 0).f17 (rd_T25 l 0).f18 (rd_T25 l 0).f19 (rd_T25 l 0).f20 (rd_T25 l 0).f21 (rd_T25 l 0).f22 (rd_T25 l 0).f23 (rd_T25 l 0).f24 (by omega) h.2.1 h.2.2.1 h.2.2.2.2.1 h.2.2.2.2.2.1 k (by omega)
    obtain ⟨r1', f1, j1, q1⟩ := refput14_f (rd_T25 l 0).f0 (rd_T25 l 0).f1 (rd_T25 l 0).f2 (rd_T25 l 0).f3 (rd_T25 l 0).f4 (rd_T25 l 0).f5 (rd_T25 l 0).f6 (rd_T25 l 0).f7 (rd_T25 l 0).f8 (rd_T25 l 0).f9 (rd_T25 l 0).f10 (rd_T25 l 0).f11 (rd_T25 l 0).f12 (rd_T25 l 0).f13 (rd_T25 l 0).f14 (rd_T25 l 0).f15 (rd_T25 l 0).f16 (rd_T25 l 0).f17 (rd_T25 l 0).f18 (rd_T25 l 0).f19 (rd_T25 l 0).f20 (rd_T25 l 0).f21 (rd_T25 l 0).f22 (rd_T25 l 0).f23 (rd_T25 l 0).f24 (by omega) (by omega) k (by omega)
    have u1 : r1 = r1' := by rw [Bool.eq_iff_iff, i1, j1]
    subst u1
    obtain ⟨r2, e2, i2, p2⟩ := rrep_put_f (rd_T25 l 0).f0 (rd_T25 l 0).f1 (rd_T25 l 0).f2 (rd_T25 l 0).f3 (rd_T25 l 0).f4 (rd_T25 l 0).f5 (rd_T25 l 0).f6 (rd_T25 l 0).f7 (rd_T25 l 0).f8 (rd_T25 l 0).f9 (rd_T25 l 0).f10 (rd_T25 l 0).f11 (rd_T25 l 0).f12 (rd_T25 l 0).f13 (rd_T25 l 0).f14 (rd_T25 l 0).f15 (rd_T25 l 0).f16 (rd_T25 l 0).f17 (rd_T25 l 0).f18 (rd_T25 l 0).f19 (rd_T25 l 0).f20 (rd_T25 l 0).f21 (rd_T25 l 0).f22 (rd_T25 l 0).f23 (rd_T25 l 0).f24 (by omega) h.2.1 h.2.2.2.1 h.2.2.2.2.1 k (by omega)
    obtain ⟨r2', f2, j2, q2⟩ := refput15_f (rd_T25 l 0).f0 (rd_T25 l 0).f1 (rd_T25 l 0).f2 (rd_T25 l 0).f3 (rd_T25 l 0).f4 (rd_T25 l 0).f5 (rd_T25 l 0).f6 (rd_T25 l 0).f7 (rd_T25 l 0).f8 (rd_T25 l 0).f9 (rd_T25 l 0).f10 (rd_T25 l 0).f11 (rd_T25 l 0).f12 (rd_T25 l 0).f13 (rd_T25 l 0).f14 (rd_T25 l 0).f15 (rd_T25 l 0).f16 (rd_T25 l 0).f17 (rd_T25 l 0).f18 (rd_T25 l 0).f19 (rd_T25 l 0).f20 (rd_T25 l 0).f21 (rd_T25 l 0).f22 (rd_T25 l 0).f23 (rd_T25 l 0).f24 (by omega) (by omega) k (by omega)
    have u2 : r2 = r2' := by rw [Bool.eq_iff_iff, i2, j2]
    subst u2
    obtain ⟨r3, e3, i3, p3⟩ := rerr_put_f (rd_T25 l 0).f0 (rd_T25 l 0).f1 (rd_T25 l 0).f2 (rd_T25 l 0).f3 (rd_T25 l 0).f4 (rd_T25 l 0).f5 (rd_T25 l 0).f6 (rd_T25 l 0).f7 (rd_T25 l 0).f8 (rd_T25 l 0).f9 (rd_T25 l 0).f10 (rd_T25 l 0).f11 (rd_T25 l 0).f12 (rd_T25 l 0).f13 (rd_T25 l 0).f14 (rd_T25 l 0).f15 (rd_T25 l 0).f16 (rd_T25 l 0).f17 (rd_T25 l 0).f18 (rd_T25 l 0).f19 (rd_T25 l 0).f20 (rd_T25 l 0).f21 (rd_T25 l 0).f22 (rd_T25 l 0).f23 (rd_T25 l 0).f24 h.1 (by omega) (by omega) k (by omega)
    obtain ⟨r3', f3, j3, q3⟩ := refput16_f (rd_T25 l 0).f0 (rd_T25 l 0).f1 (rd_T25 l 0).f2 (rd_T25 l 0).f3 (rd_T25 l 0).f4 (rd_T25 l 0).f5 (rd_T25 l 0).f6 (rd_T25 l 0).f7 (rd_T25 l 0).f8 (rd_T25 l 0).f9 (rd_T25 l 0).f10 (rd_T25 l 0).f11 (rd_T25 l 0).f12 (rd_T25 l 0).f13 (rd_T25 l 0).f14 (rd_T25 l 0).f15 (rd_T25 l 0).f16 (rd_T25 l 0).f17 (rd_T25 l 0).f18 (rd_T25 l 0).f19 (rd_T25 l 0).f20 (rd_T25 l 0).f21 (rd_T25 l 0).f22 (rd_T25 l 0).f23 (rd_T25 l 0).f24 (by omega) (by omega) k (by omega)
    have u3 : r3 = r3' := by rw [Bool.eq_iff_iff, i3, j3]
    subst u3
    have J := fun s b => aj1_ex l (by omega) h s b k (by omega)
    rw [p1, q1, Option.bind_some, Option.bind_some, p2, q2, Option.bind_some, Option.bind_some]
    generalize (if r1 = true then _ else _ : ByteArray × Bool) = v1
    generalize (if r2 = true then _ else _ : ByteArray × Bool) = v2
    by_cases d : v1.2 = true
    · rw [if_pos d, if_pos d]; exact J _ _
    · rw [if_neg d, if_neg d]; exact J _ _
  | succ q ih =>
    intro k i hk hq
    obtain ⟨k, rfl⟩ : ∃ j, k = j + 1 := ⟨k - 1, by omega⟩
    have hi : (i : Int) < (l.length : Int) := by omega
    have h0 : 0 ≤ (i : Int) := by omega
    obtain ⟨r, e1, e2⟩ := aright_ex _ (hs _ (rd_memM (i := i) (by omega))) k (by omega)
    rw [aodv_Encode.l0, roadbookref17_Encode.l0, if_pos hi, if_pos h0, if_pos hi, if_pos hi, if_pos h0, e1, e2, Option.bind_some, Option.bind_some]
    by_cases c : r = true
    · rw [if_pos c, if_pos c, wrap64_id (by omega) (by omega)]
      exact ih k (i + 1) (by omega) (by omega)
    · rw [if_neg c, if_neg c]; exact ⟨_, rfl, rfl⟩

theorem aenclaw_l (l : List S25) (hl : l.length ≤ 1000) (hs : ∀ x ∈ l, AB x) (q : Nat) : ∀ (k i : Nat), q + 2000 < k → l.length - i = q → roadbooklaw17_AodvEncodes.l0 k l i = some true := by
  induction q with
  | zero =>
    intro k i hk hq
    obtain ⟨k, rfl⟩ : ∃ j, k = j + 1 := ⟨k - 1, by omega⟩
    have hi : ¬ (i : Int) < (l.length : Int) := by omega
    obtain ⟨X, e1, e2⟩ := aenc_l l hl hs l.length k 0 (by omega) (by omega)
    rw [roadbooklaw17_AodvEncodes.l0, if_neg hi]
    unfold aodv_Encode.f roadbookref17_Encode.f
    rw [show aodv_Encode.l0 k l (l.length : Int) 0 = some X from e1, show roadbookref17_Encode.l0 k l 0 = some X from e2, Option.bind_some, Option.bind_some, aoawake_f k (by omega), Option.bind_some, if_pos rfl, if_pos rfl, if_pos rfl, beq_self_eq_true]
  | succ q ih =>
    intro k i hk hq
    obtain ⟨k, rfl⟩ : ∃ j, k = j + 1 := ⟨k - 1, by omega⟩
    have hi : (i : Int) < (l.length : Int) := by omega
    have h0 : 0 ≤ (i : Int) := by omega
    obtain ⟨r, e1, e2⟩ := aright_ex _ (hs _ (rd_memM (i := i) (by omega))) k (by omega)
    rw [roadbooklaw17_AodvEncodes.l0, if_pos hi, if_pos h0, e1, e2, Option.bind_some, Option.bind_some, if_neg (by simp), wrap64_id (by omega) (by omega)]
    exact ih k (i + 1) (by omega) (by omega)

theorem few_l1 (a0 a1 a2 : Int) (a3 : ByteArray) (a4 a5 : Int) (a6 : ByteArray) (a7 a8 : Int) (a9 : ByteArray) (a10 : Int) (a11 : ByteArray) (a12 a13 : Int) (a14 a15 : Int) (a16 a17 a18 : Int) (a19 a20 : ByteArray) (a21 : List S46) (a22 : Int) (a23 : ByteArray) (a24 : List S48) (hl : a24.length ≤ 1000000) (m : Nat) : ∀ (k i : Nat), m < k → a24.length - i = m → ∃ b, roadbookref07_Few.l1 k i a0 a1 a2 a3 a4 a5 a6 a7 a8 a9 a10 a11 a12 a13 a14 a15 a16 a17 a18 a19 a20 a21 a22 a23 a24 = some b ∧ (b = true → ∀ j : Nat, i ≤ j → j < a24.length → ((rd_T48 a24 (j : Int)).f1).size ≤ 300) := by
  induction m with
  | zero =>
    intro k i hk hm
    obtain ⟨k, rfl⟩ : ∃ j, k = j + 1 := ⟨k - 1, by omega⟩
    simp only [roadbookref07_Few.l1]
    rw [if_neg (by omega)]
    exact ⟨true, rfl, fun _ j h1 h2 => by omega⟩
  | succ m ih =>
    intro k i hk hm
    obtain ⟨k, rfl⟩ : ∃ j, k = j + 1 := ⟨k - 1, by omega⟩
    simp only [roadbookref07_Few.l1]
    rw [if_pos (by omega), if_pos (by omega)]
    by_cases c : (((rd_T48 a24 (i : Int)).f1).size : Int) > 300
    · rw [if_pos c]; exact ⟨false, rfl, fun h => (by cases h)⟩
    · rw [if_neg c, wrap64_id (by omega) (by omega)]
      obtain ⟨b, e, hb⟩ := ih k (i + 1) (by omega) (by omega)
      refine ⟨b, e, fun h j h1 h2 => ?_⟩
      by_cases d : j = i
      · rw [d]; omega
      · exact hb h j (by omega) h2
theorem few_l0 (a0 a1 a2 : Int) (a3 : ByteArray) (a4 a5 : Int) (a6 : ByteArray) (a7 a8 : Int) (a9 : ByteArray) (a10 : Int) (a11 : ByteArray) (a12 a13 : Int) (a14 a15 : Int) (a16 a17 a18 : Int) (a19 a20 : ByteArray) (a21 : List S46) (a22 : Int) (a23 : ByteArray) (a24 : List S48) (hd : a21.length ≤ 1000000) (hl : a24.length ≤ 1000000) (m : Nat) : ∀ (k i : Nat), m + a24.length + 1 < k → a21.length - i = m → ∃ b, roadbookref07_Few.l0 k i a0 a1 a2 a3 a4 a5 a6 a7 a8 a9 a10 a11 a12 a13 a14 a15 a16 a17 a18 a19 a20 a21 a22 a23 a24 = some b ∧ (b = true → (∀ j : Nat, i ≤ j → j < a21.length → ((rd_T46 a21 (j : Int)).f0).size ≤ 50) ∧ ∀ j : Nat, j < a24.length → ((rd_T48 a24 (j : Int)).f1).size ≤ 300) := by
  induction m with
  | zero =>
    intro k i hk hm
    obtain ⟨k, rfl⟩ : ∃ j, k = j + 1 := ⟨k - 1, by omega⟩
    simp only [roadbookref07_Few.l0]
    rw [if_neg (by omega)]
    obtain ⟨b, e, hb⟩ := few_l1 a0 a1 a2 a3 a4 a5 a6 a7 a8 a9 a10 a11 a12 a13 a14 a15 a16 a17 a18 a19 a20 a21 a22 a23 a24 hl a24.length k 0 (by omega) (by omega)
    exact ⟨b, e, fun h => ⟨fun j h1 h2 => by omega, fun j h2 => hb h j (by omega) h2⟩⟩
  | succ m ih =>
    intro k i hk hm
    obtain ⟨k, rfl⟩ : ∃ j, k = j + 1 := ⟨k - 1, by omega⟩
    simp only [roadbookref07_Few.l0]
    rw [if_pos (by omega), if_pos (by omega)]
    by_cases c : (((rd_T46 a21 (i : Int)).f0).size : Int) > 50
    · rw [if_pos c]; exact ⟨false, rfl, fun h => (by cases h)⟩
    · rw [if_neg c, wrap64_id (by omega) (by omega)]
      obtain ⟨b, e, hb⟩ := ih k (i + 1) (by omega) (by omega)
      refine ⟨b, e, fun h => ⟨fun j h1 h2 => ?_, (hb h).2⟩⟩
      by_cases d : j = i
      · rw [d]; omega
      · exact (hb h).1 j (by omega) h2
/-- Few tells something, and where it says yes the parts are few and small. -/
theorem few_f (a0 a1 a2 : Int) (a3 : ByteArray) (a4 a5 : Int) (a6 : ByteArray) (a7 a8 : Int) (a9 : ByteArray) (a10 : Int) (a11 : ByteArray) (a12 a13 : Int) (a14 a15 : Int) (a16 a17 a18 : Int) (a19 a20 : ByteArray) (a21 : List S46) (a22 : Int) (a23 : ByteArray) (a24 : List S48) (h3 : a3.size ≤ 140737488351232) (h6 : a6.size ≤ 140737488351232) (h9 : a9.size ≤ 140737488351232) (h11 : a11.size ≤ 140737488351232) (h19 : a19.size ≤ 140737488351232) (h20 : a20.size ≤ 140737488351232) (k : Nat) (hk : 400 ≤ k) :
    ∃ b, roadbookref07_Few.f k a0 a1 a2 a3 a4 a5 a6 a7 a8 a9 a10 a11 a12 a13 a14 a15 a16 a17 a18 a19 a20 a21 a22 a23 a24 = some b ∧ (b = true → a21.length ≤ 300 ∧ a24.length ≤ 60 ∧ a3.size + a6.size ≤ 200 ∧ a9.size + a11.size ≤ 200 ∧ a19.size + a20.size ≤ 200 ∧ a23.size ≤ 300 ∧ (∀ x ∈ a21, x.f0.size ≤ 50) ∧ ∀ x ∈ a24, x.f1.size ≤ 300) := by
  obtain ⟨k, rfl⟩ : ∃ j, k = j + 1 := ⟨k - 1, by omega⟩
  have no : roadbookref07_Few.j0 (k + 1) true a0 a1 a2 a3 a4 a5 a6 a7 a8 a9 a10 a11 a12 a13 a14 a15 a16 a17 a18 a19 a20 a21 a22 a23 a24 = some false := by simp only [roadbookref07_Few.j0, if_true]
  unfold roadbookref07_Few.f
  rw [no, wrap64_id (x := (a3.size : Int) + a6.size) (by omega) (by omega), wrap64_id (x := (a9.size : Int) + a11.size) (by omega) (by omega), wrap64_id (x := (a19.size : Int) + a20.size) (by omega) (by omega)]
  by_cases c1 : (a21.length : Int) > 300
  · rw [if_pos c1]; exact ⟨false, rfl, fun h => (by cases h)⟩
  rw [if_neg c1]
  by_cases c2 : (a24.length : Int) > 60
  · rw [if_pos c2]; exact ⟨false, rfl, fun h => (by cases h)⟩
  rw [if_neg c2]
  by_cases c3 : (a3.size : Int) + a6.size > 200
  · rw [if_pos c3]; exact ⟨false, rfl, fun h => (by cases h)⟩
  rw [if_neg c3]
  by_cases c4 : (a9.size : Int) + a11.size > 200
  · rw [if_pos c4]; exact ⟨false, rfl, fun h => (by cases h)⟩
  rw [if_neg c4]
  by_cases c5 : (a19.size : Int) + a20.size > 200
  · rw [if_pos c5]; exact ⟨false, rfl, fun h => (by cases h)⟩
  rw [if_neg c5]
  by_cases c6 : (a23.size : Int) > 300
  · rw [decide_eq_true c6, no]; exact ⟨false, rfl, fun h => (by cases h)⟩
  rw [decide_eq_false c6]
  simp only [roadbookref07_Few.j0, Bool.false_eq_true, if_false]
  obtain ⟨b, e, hb⟩ := few_l0 a0 a1 a2 a3 a4 a5 a6 a7 a8 a9 a10 a11 a12 a13 a14 a15 a16 a17 a18 a19 a20 a21 a22 a23 a24 (by omega) (by omega) a21.length k 0 (by omega) (by omega)
  exact ⟨b, e, fun h => ⟨by omega, by omega, by omega, by omega, by omega, by omega, rd_mem_46 fun j hj => (hb h).1 j (by omega) hj, rd_mem_48 (hb h).2⟩⟩

/-- The bounds of a message of few parts. -/
def FewB (x : S25) : Prop := x.f21.length ≤ 300 ∧ x.f24.length ≤ 60 ∧ x.f3.size + x.f6.size ≤ 200 ∧ x.f9.size + x.f11.size ≤ 200 ∧ x.f19.size + x.f20.size ≤ 200 ∧ x.f23.size ≤ 300 ∧ (∀ y ∈ x.f21, y.f0.size ≤ 50) ∧ ∀ y ∈ x.f24, y.f1.size ≤ 300
theorem fewall_l (l : List S25) (hl : l.length ≤ 1000) (hs : ∀ x ∈ l, (x.f3.size ≤ 140737488351232 ∧ x.f6.size ≤ 140737488351232 ∧ x.f9.size ≤ 140737488351232 ∧ x.f11.size ≤ 140737488351232 ∧ x.f19.size ≤ 140737488351232 ∧ x.f20.size ≤ 140737488351232)) (q : Nat) : ∀ (k i : Nat), q + 400 < k → l.length - i = q → ∃ b, roadbookref07_FewAll.l0 k l i = some b ∧ (b = true → ∀ j : Nat, i ≤ j → j < l.length → FewB (rd_T25 l (j : Int))) := by
  induction q with
  | zero =>
    intro k i hk hq
    obtain ⟨k, rfl⟩ : ∃ j, k = j + 1 := ⟨k - 1, by omega⟩
    rw [roadbookref07_FewAll.l0]
    rw [if_neg (by omega)]
    exact ⟨true, rfl, fun _ j h1 h2 => by omega⟩
  | succ q ih =>
    intro k i hk hq
    obtain ⟨k, rfl⟩ : ∃ j, k = j + 1 := ⟨k - 1, by omega⟩
    have h := hs _ (rd_memM (i := i) (by omega))
    rw [roadbookref07_FewAll.l0]
    obtain ⟨r, e, hr⟩ := few_f ((rd_T25 l (i : Int)).f0) ((rd_T25 l (i : Int)).f1) ((rd_T25 l (i : Int)).f2) ((rd_T25 l (i : Int)).f3) ((rd_T25 l (i : Int)).f4) ((rd_T25 l (i : Int)).f5) ((rd_T25 l (i : Int)).f6) ((rd_T25 l (i : Int)).f7) ((rd_T25 l (i : Int)).f8) ((rd_T25 l (i : Int)).f9) ((rd_T25 l (i : Int)).f10) ((rd_T25 l (i : Int)).f11) ((rd_T25 l (i : Int)).f12) ((rd_T25 l (i : Int)).f13) ((rd_T25 l (i : Int)).f14) ((rd_T25 l (i : Int)).f15) ((rd_T25 l (i : Int)).f16) ((rd_T25 l (i : Int)).f17) ((rd_T25 l (i : Int)).f18) ((rd_T25 l (i : Int)).f19) ((rd_T25 l (i : Int)).f20) ((rd_T25 l (i : Int)).f21) ((rd_T25 l (i : Int)).f22) ((rd_T25 l (i : Int)).f23) ((rd_T25 l (i : Int)).f24) h.1 h.2.1 h.2.2.1 h.2.2.2.1 h.2.2.2.2.1 h.2.2.2.2.2 k (by omega)
    rw [if_pos (by omega), if_pos (by omega), e, Option.bind_some]
    cases r with
    | true =>
      rw [if_pos rfl, wrap64_id (by omega) (by omega)]
      obtain ⟨b, e, hb'⟩ := ih k (i + 1) (by omega) (by omega)
      refine ⟨b, e, fun h j h1 h2 => ?_⟩
      by_cases d : j = i
      · rw [d]; exact hr rfl
      · exact hb' h j (by omega) h2
    | false =>
      rw [if_neg (by decide)]
      exact ⟨false, rfl, fun h => (by cases h)⟩
theorem fewall_f (l : List S25) (n : Int) (hn : n ≤ 1000) (hs : ∀ x ∈ l, (x.f3.size ≤ 140737488351232 ∧ x.f6.size ≤ 140737488351232 ∧ x.f9.size ≤ 140737488351232 ∧ x.f11.size ≤ 140737488351232 ∧ x.f19.size ≤ 140737488351232 ∧ x.f20.size ≤ 140737488351232)) (k : Nat) (hk : 1500 ≤ k) : ∃ b, roadbookref07_FewAll.f k l n = some b ∧ (b = true → (l.length : Int) ≤ n ∧ ∀ x ∈ l, FewB x) := by
  unfold roadbookref07_FewAll.f
  by_cases c : (l.length : Int) > n
  · rw [if_pos c]; exact ⟨false, rfl, fun h => (by cases h)⟩
  · rw [if_neg c]
    obtain ⟨b, e, h⟩ := fewall_l l (by omega) hs l.length k 0 (by omega) (by omega)
    refine ⟨b, e, fun hb => ⟨by omega, fun x hx => ?_⟩⟩
    obtain ⟨j, hj, rfl⟩ := List.getElem_of_mem hx
    have := h hb j (Nat.zero_le _) hj
    unfold rd_T25 at this
    rwa [Int.toNat_natCast, List.getD_eq_getElem?_getD, List.getElem?_eq_getElem hj] at this

theorem AodvEncodes : roadbooklaw17_AodvEncodes.Pure := by
  intro l hl
  refine ⟨5000, ?_⟩
  unfold roadbooklaw17_AodvEncodes.f
  obtain ⟨b, e, hb⟩ := fewall_f l 5 (by omega) (fun x hx => by have g := hl.2 x hx; exact ⟨g.2.2.2.1, g.2.2.2.2.2.2.1, g.2.2.2.2.2.2.2.2.2.1, g.2.2.2.2.2.2.2.2.2.2.2.1, g.2.2.2.2.2.2.2.2.2.2.2.2.2.2.2.2.2.2.2.1, g.2.2.2.2.2.2.2.2.2.2.2.2.2.2.2.2.2.2.2.2.1⟩) 5000 (by omega)
  rw [e, Option.bind_some]
  cases b with
  | false => rw [if_neg (by decide), aoawake_f 5000 (by omega)]; rfl
  | true =>
    obtain ⟨h1, h2⟩ := hb rfl
    rw [if_pos rfl]
    refine aenclaw_l l (by omega) (fun x hx => ?_) l.length 5000 0 (by omega) (by omega)
    have g := hl.2 x hx
    have f := h2 x hx
    exact ⟨fun d hd => wf_i64 (g.2.2.2.2.2.2.2.2.2.2.2.2.2.2.2.2.2.2.2.2.2.1.2 d hd).2, wf_i64 g.2.2.2.2.2.2.2.2.2.2.2.2.1, wf_i64 g.2.2.2.2.2.2.2.2.2.2.2.2.2.1, wf_i64 g.2.2.2.2.2.2.2.2.2.2.2.2.2.2.1, wf_i64 g.2.2.2.2.2.2.2.2.2.2.2.2.2.2.2.2.1, wf_i64 g.2.2.2.2.2.2.2.2.2.2.2.2.2.2.2.2.2.1, f.1, f.2.1⟩

end Go.Proofs.Ytccjakjjaemmkaa.Pure
