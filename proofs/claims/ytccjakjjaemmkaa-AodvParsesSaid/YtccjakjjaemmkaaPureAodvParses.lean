/-
The message of any bytes, or where and why there is none, is the document's; for at most 3000 bytes.
-/
import Derived.Test.YtccjakjjaemmkaaPAPxroadbooklaw17AodvParses
import Derived.Test.YtccjakjjaemmkaaBase
import Derived.Test.YtccjakjjaemmkaaConv
namespace Go.Proofs.Ytccjakjjaemmkaa.Pure
open Go.RowKit Go.Proofs.Ytccjakjjaemmkaa.PAP Go.Proofs.YtccjakjjaemmkaaW.PrintWords Go.Proofs.YtccjakjjaemmkaaW.PrintLast Go.Proofs.YtccjakjjaemmkaaW.PrintMore Go.Proofs.Ytccjakjjaemmkaa.Base
set_option linter.unusedVariables false
set_option linter.unusedSimpArgs false

theorem aoawake_f (k : Nat) (hk : 60 ≤ k) : roadbooklaw17_awake.f k = some true := at_rounds (g := fun k => roadbooklaw17_awake.f k) (fun k => roadbooklaw17_awake.mono k) hk (by decide +kernel)

theorem dests_l (l m : List S46) (hm : l.length = m.length) (hl : l.length ≤ 1000000) (q : Nat) : ∀ (k i : Nat), q < k → l.length - i = q → ∃ b, roadbookref07_dests.l0 k l m i = some b ∧ (b = true ↔ ∀ j : Nat, i ≤ j → j < l.length → rd_T46 l (j : Int) = rd_T46 m (j : Int)) := by
  induction q with
  | zero =>
    intro k i hk hq
    obtain ⟨k, rfl⟩ : ∃ j, k = j + 1 := ⟨k - 1, by omega⟩
    simp only [roadbookref07_dests.l0]
    rw [if_neg (by omega)]
    exact ⟨true, rfl, ⟨fun _ j h1 h2 => by omega, fun _ => rfl⟩⟩
  | succ q ih =>
    intro k i hk hq
    obtain ⟨k, rfl⟩ : ∃ j, k = j + 1 := ⟨k - 1, by omega⟩
    simp only [roadbookref07_dests.l0]
    rw [if_pos (by omega), if_pos (by omega), if_pos (by omega)]
    have key : (!((((rd_T46 l (i : Int)).f0).toList) == (((rd_T46 m (i : Int)).f0).toList)) || (!(((rd_T46 l (i : Int)).f1) == ((rd_T46 m (i : Int)).f1)))) = true ↔ ¬ rd_T46 l (i : Int) = rd_T46 m (i : Int) := by
      obtain ⟨x0, x1⟩ := rd_T46 l (i : Int)
      obtain ⟨y0, y1⟩ := rd_T46 m (i : Int)
      simp only [S46.mk.injEq, Bool.or_eq_true, Bool.not_eq_true', beq_eq_false_iff_ne, ne_eq, toList_inj]
      by_cases p : x0 = y0 <;> by_cases r : x1 = y1 <;> simp [p, r]
    by_cases c : rd_T46 l (i : Int) = rd_T46 m (i : Int)
    · rw [if_neg (fun h => key.mp h c), wrap64_id (by omega) (by omega)]
      obtain ⟨b, e, hb⟩ := ih k (i + 1) (by omega) (by omega)
      refine ⟨b, e, hb.trans ⟨fun h j h1 h2 => ?_, fun h j h1 h2 => h j (by omega) h2⟩⟩
      by_cases d : j = i
      · rw [d]; exact c
      · exact h j (by omega) h2
    · rw [if_pos (key.mpr c)]
      exact ⟨false, rfl, ⟨fun h => (by cases h), fun h => absurd (h i (by omega) (by omega)) c⟩⟩
theorem dests_f (l m : List S46) (hl : l.length ≤ 1000000) (k : Nat) (hk : l.length < k) : ∃ b, roadbookref07_dests.f k l m = some b ∧ (b = true ↔ l = m) := by
  unfold roadbookref07_dests.f
  by_cases c : l.length = m.length
  · rw [if_pos (by omega)]
    obtain ⟨b, e, hb⟩ := dests_l l m c hl l.length k 0 hk (by omega)
    refine ⟨b, e, hb.trans ⟨fun h => ?_, fun h j _ _ => by rw [h]⟩⟩
    apply List.ext_getElem c
    intro i h1 h2
    have := h i (by omega) h1
    unfold rd_T46 at this
    rwa [Int.toNat_natCast, List.getD_eq_getElem?_getD, List.getD_eq_getElem?_getD, List.getElem?_eq_getElem h1, List.getElem?_eq_getElem h2] at this
  · rw [if_neg (by omega)]
    exact ⟨false, rfl, ⟨fun h => (by cases h), fun h => absurd (by rw [h]) c⟩⟩
theorem subs_l (l m : List S48) (hm : l.length = m.length) (hl : l.length ≤ 1000000) (q : Nat) : ∀ (k i : Nat), q < k → l.length - i = q → ∃ b, roadbookref07_subs.l0 k l m i = some b ∧ (b = true ↔ ∀ j : Nat, i ≤ j → j < l.length → rd_T48 l (j : Int) = rd_T48 m (j : Int)) := by
  induction q with
  | zero =>
    intro k i hk hq
    obtain ⟨k, rfl⟩ : ∃ j, k = j + 1 := ⟨k - 1, by omega⟩
    simp only [roadbookref07_subs.l0]
    rw [if_neg (by omega)]
    exact ⟨true, rfl, ⟨fun _ j h1 h2 => by omega, fun _ => rfl⟩⟩
  | succ q ih =>
    intro k i hk hq
    obtain ⟨k, rfl⟩ : ∃ j, k = j + 1 := ⟨k - 1, by omega⟩
    simp only [roadbookref07_subs.l0]
    rw [if_pos (by omega), if_pos (by omega), if_pos (by omega)]
    have key : (!(((rd_T48 l (i : Int)).f0) == ((rd_T48 m (i : Int)).f0)) || (!((((rd_T48 l (i : Int)).f1).toList) == (((rd_T48 m (i : Int)).f1).toList)))) = true ↔ ¬ rd_T48 l (i : Int) = rd_T48 m (i : Int) := by
      obtain ⟨x0, x1⟩ := rd_T48 l (i : Int)
      obtain ⟨y0, y1⟩ := rd_T48 m (i : Int)
      simp only [S48.mk.injEq, Bool.or_eq_true, Bool.not_eq_true', beq_eq_false_iff_ne, ne_eq, toList_inj]
      by_cases p : x0 = y0 <;> by_cases r : x1 = y1 <;> simp [p, r]
    by_cases c : rd_T48 l (i : Int) = rd_T48 m (i : Int)
    · rw [if_neg (fun h => key.mp h c), wrap64_id (by omega) (by omega)]
      obtain ⟨b, e, hb⟩ := ih k (i + 1) (by omega) (by omega)
      refine ⟨b, e, hb.trans ⟨fun h j h1 h2 => ?_, fun h j h1 h2 => h j (by omega) h2⟩⟩
      by_cases d : j = i
      · rw [d]; exact c
      · exact h j (by omega) h2
    · rw [if_pos (key.mpr c)]
      exact ⟨false, rfl, ⟨fun h => (by cases h), fun h => absurd (h i (by omega) (by omega)) c⟩⟩
theorem subs_f (l m : List S48) (hl : l.length ≤ 1000000) (k : Nat) (hk : l.length < k) : ∃ b, roadbookref07_subs.f k l m = some b ∧ (b = true ↔ l = m) := by
  unfold roadbookref07_subs.f
  by_cases c : l.length = m.length
  · rw [if_pos (by omega)]
    obtain ⟨b, e, hb⟩ := subs_l l m c hl l.length k 0 hk (by omega)
    refine ⟨b, e, hb.trans ⟨fun h => ?_, fun h j _ _ => by rw [h]⟩⟩
    apply List.ext_getElem c
    intro i h1 h2
    have := h i (by omega) h1
    unfold rd_T48 at this
    rwa [Int.toNat_natCast, List.getD_eq_getElem?_getD, List.getD_eq_getElem?_getD, List.getElem?_eq_getElem h1, List.getElem?_eq_getElem h2] at this
  · rw [if_neg (by omega)]
    exact ⟨false, rfl, ⟨fun h => (by cases h), fun h => absurd (by rw [h]) c⟩⟩
/-- The reference's Same tells whether all fields are the same. -/
theorem same_f (a0 : Int) (a1 : Int) (a2 : Int) (a3 : ByteArray) (a4 : Int) (a5 : Int) (a6 : ByteArray) (a7 : Int) (a8 : Int) (a9 : ByteArray) (a10 : Int) (a11 : ByteArray) (a12 : Int) (a13 : Int) (a14 : Int) (a15 : Int) (a16 : Int) (a17 : Int) (a18 : Int) (a19 : ByteArray) (a20 : ByteArray) (a21 : List S46) (a22 : Int) (a23 : ByteArray) (a24 : List S48) (b0 : Int) (b1 : Int) (b2 : Int) (b3 : ByteArray) (b4 : Int) (b5 : Int) (b6 : ByteArray) (b7 : Int) (b8 : Int) (b9 : ByteArray) (b10 : Int) (b11 : ByteArray) (b12 : Int) (b13 : Int) (b14 : Int) (b15 : Int) (b16 : Int) (b17 : Int) (b18 : Int) (b19 : ByteArray) (b20 : ByteArray) (b21 : List S46) (b22 : Int) (b23 : ByteArray) (b24 : List S48) (hd : a21.length ≤ 1000000) (hl : a24.length ≤ 1000000) (k : Nat) (hk : a21.length + a24.length + 3 ≤ k) :
    ∃ r, roadbookref07_Same.f k a0 a1 a2 a3 a4 a5 a6 a7 a8 a9 a10 a11 a12 a13 a14 a15 a16 a17 a18 a19 a20 a21 a22 a23 a24 b0 b1 b2 b3 b4 b5 b6 b7 b8 b9 b10 b11 b12 b13 b14 b15 b16 b17 b18 b19 b20 b21 b22 b23 b24 = some r ∧ (r = true ↔ a0 = b0 ∧ a1 = b1 ∧ a2 = b2 ∧ a3 = b3 ∧ a4 = b4 ∧ a5 = b5 ∧ a6 = b6 ∧ a7 = b7 ∧ a8 = b8 ∧ a9 = b9 ∧ a10 = b10 ∧ a11 = b11 ∧ a12 = b12 ∧ a13 = b13 ∧ a14 = b14 ∧ a15 = b15 ∧ a16 = b16 ∧ a17 = b17 ∧ a18 = b18 ∧ a19 = b19 ∧ a20 = b20 ∧ a21 = b21 ∧ a22 = b22 ∧ a23 = b23 ∧ a24 = b24) := by
  obtain ⟨k, rfl⟩ : ∃ j, k = j + 2 := ⟨k - 2, by omega⟩
  have no1 : roadbookref07_Same.j1 (k + 1) true a0 a1 a2 a3 a4 a5 a6 a7 a8 a9 a10 a11 a12 a13 a14 a15 a16 a17 a18 a19 a20 a21 a22 a23 a24 b0 b1 b2 b3 b4 b5 b6 b7 b8 b9 b10 b11 b12 b13 b14 b15 b16 b17 b18 b19 b20 b21 b22 b23 b24 = some false := by simp only [roadbookref07_Same.j1, if_true]
  have no0 : roadbookref07_Same.j0 (k + 2) true a0 a1 a2 a3 a4 a5 a6 a7 a8 a9 a10 a11 a12 a13 a14 a15 a16 a17 a18 a19 a20 a21 a22 a23 a24 b0 b1 b2 b3 b4 b5 b6 b7 b8 b9 b10 b11 b12 b13 b14 b15 b16 b17 b18 b19 b20 b21 b22 b23 b24 = some false := by simp only [roadbookref07_Same.j0, if_true]
  unfold roadbookref07_Same.f
  rw [no0]
  by_cases c0 : a0 = b0
  rotate_left
  · rw [if_neg c0]; exact ⟨false, rfl, ⟨fun h => (by cases h), fun h => absurd (h.1) c0⟩⟩
  rw [if_pos c0]
  by_cases c1 : a1 = b1
  rotate_left
  · rw [if_neg c1]; exact ⟨false, rfl, ⟨fun h => (by cases h), fun h => absurd (h.2.1) c1⟩⟩
  rw [if_pos c1]
  by_cases c2 : a2 = b2
  rotate_left
  · rw [if_neg c2]; exact ⟨false, rfl, ⟨fun h => (by cases h), fun h => absurd (h.2.2.1) c2⟩⟩
  rw [if_pos c2]
  by_cases c3 : a3.toList = b3.toList
  rotate_left
  · rw [if_neg c3]; exact ⟨false, rfl, ⟨fun h => (by cases h), fun h => absurd (congrArg ByteArray.toList (h.2.2.2.1)) c3⟩⟩
  rw [if_pos c3]
  by_cases c4 : a4 = b4
  rotate_left
  · rw [if_neg c4]; exact ⟨false, rfl, ⟨fun h => (by cases h), fun h => absurd (h.2.2.2.2.1) c4⟩⟩
  rw [if_pos c4]
  by_cases c5 : a5 = b5
  rotate_left
  · rw [if_neg c5]; exact ⟨false, rfl, ⟨fun h => (by cases h), fun h => absurd (h.2.2.2.2.2.1) c5⟩⟩
  rw [if_pos c5]
  by_cases c6 : a6.toList = b6.toList
  rotate_left
  · rw [if_neg c6]; exact ⟨false, rfl, ⟨fun h => (by cases h), fun h => absurd (congrArg ByteArray.toList (h.2.2.2.2.2.2.1)) c6⟩⟩
  rw [if_pos c6]
  by_cases c7 : a7 = b7
  rotate_left
  · rw [if_neg c7]; exact ⟨false, rfl, ⟨fun h => (by cases h), fun h => absurd (h.2.2.2.2.2.2.2.1) c7⟩⟩
  rw [if_pos c7]
  by_cases c8 : a8 = b8
  rotate_left
  · rw [if_neg c8]; exact ⟨false, rfl, ⟨fun h => (by cases h), fun h => absurd (h.2.2.2.2.2.2.2.2.1) c8⟩⟩
  rw [if_pos c8]
  by_cases c9 : a9.toList = b9.toList
  rotate_left
  · rw [if_neg c9]; exact ⟨false, rfl, ⟨fun h => (by cases h), fun h => absurd (congrArg ByteArray.toList (h.2.2.2.2.2.2.2.2.2.1)) c9⟩⟩
  rw [if_pos c9]
  by_cases c10 : a10 = b10
  rotate_left
  · rw [bne_iff_ne.mpr c10, no0]; exact ⟨false, rfl, ⟨fun h => (by cases h), fun h => absurd h.2.2.2.2.2.2.2.2.2.2.1 c10⟩⟩
  rw [bne_eq_false_iff_eq.mpr c10]
  simp only [roadbookref07_Same.j0, Bool.false_eq_true, if_false]
  rw [no1]
  by_cases c11 : a11.toList = b11.toList
  rotate_left
  · rw [if_neg c11]; exact ⟨false, rfl, ⟨fun h => (by cases h), fun h => absurd (congrArg ByteArray.toList (h.2.2.2.2.2.2.2.2.2.2.2.1)) c11⟩⟩
  rw [if_pos c11]
  by_cases c12 : a12 = b12
  rotate_left
  · rw [if_neg c12]; exact ⟨false, rfl, ⟨fun h => (by cases h), fun h => absurd (h.2.2.2.2.2.2.2.2.2.2.2.2.1) c12⟩⟩
  rw [if_pos c12]
  by_cases c13 : a13 = b13
  rotate_left
  · rw [if_neg c13]; exact ⟨false, rfl, ⟨fun h => (by cases h), fun h => absurd (h.2.2.2.2.2.2.2.2.2.2.2.2.2.1) c13⟩⟩
  rw [if_pos c13]
  by_cases c14 : a14 = b14
  rotate_left
  · rw [if_neg c14]; exact ⟨false, rfl, ⟨fun h => (by cases h), fun h => absurd (h.2.2.2.2.2.2.2.2.2.2.2.2.2.2.1) c14⟩⟩
  rw [if_pos c14]
  by_cases c15 : a15 = b15
  rotate_left
  · rw [if_neg c15]; exact ⟨false, rfl, ⟨fun h => (by cases h), fun h => absurd (h.2.2.2.2.2.2.2.2.2.2.2.2.2.2.2.1) c15⟩⟩
  rw [if_pos c15]
  by_cases c16 : a16 = b16
  rotate_left
  · rw [if_neg c16]; exact ⟨false, rfl, ⟨fun h => (by cases h), fun h => absurd (h.2.2.2.2.2.2.2.2.2.2.2.2.2.2.2.2.1) c16⟩⟩
  rw [if_pos c16]
  by_cases c17 : a17 = b17
  rotate_left
  · rw [if_neg c17]; exact ⟨false, rfl, ⟨fun h => (by cases h), fun h => absurd (h.2.2.2.2.2.2.2.2.2.2.2.2.2.2.2.2.2.1) c17⟩⟩
  rw [if_pos c17]
  by_cases c18 : a18 = b18
  rotate_left
  · rw [if_neg c18]; exact ⟨false, rfl, ⟨fun h => (by cases h), fun h => absurd (h.2.2.2.2.2.2.2.2.2.2.2.2.2.2.2.2.2.2.1) c18⟩⟩
  rw [if_pos c18]
  by_cases c19 : a19.toList = b19.toList
  rotate_left
  · rw [if_neg c19]; exact ⟨false, rfl, ⟨fun h => (by cases h), fun h => absurd (congrArg ByteArray.toList (h.2.2.2.2.2.2.2.2.2.2.2.2.2.2.2.2.2.2.2.1)) c19⟩⟩
  rw [if_pos c19]
  by_cases c20 : a20.toList = b20.toList
  rotate_left
  · rw [if_neg c20]; exact ⟨false, rfl, ⟨fun h => (by cases h), fun h => absurd (congrArg ByteArray.toList (h.2.2.2.2.2.2.2.2.2.2.2.2.2.2.2.2.2.2.2.2.1)) c20⟩⟩
  rw [if_pos c20]
  by_cases c22 : a22 = b22
  rotate_left
  · rw [if_neg c22]; exact ⟨false, rfl, ⟨fun h => (by cases h), fun h => absurd (h.2.2.2.2.2.2.2.2.2.2.2.2.2.2.2.2.2.2.2.2.2.2.1) c22⟩⟩
  rw [if_pos c22]
  by_cases c23 : a23.toList = b23.toList
  rotate_left
  · rw [bne_iff_ne.mpr c23, no1]; exact ⟨false, rfl, ⟨fun h => (by cases h), fun h => absurd (congrArg ByteArray.toList h.2.2.2.2.2.2.2.2.2.2.2.2.2.2.2.2.2.2.2.2.2.2.2.1) c23⟩⟩
  rw [bne_eq_false_iff_eq.mpr c23]
  simp only [roadbookref07_Same.j1, Bool.false_eq_true, if_false]
  obtain ⟨x, ex, hx⟩ := dests_f a21 b21 hd k (by omega)
  obtain ⟨y, ey, hy⟩ := subs_f a24 b24 hl k (by omega)
  rw [ex, ey, Option.bind_some, Option.bind_some]
  have e3 := toList_inj.mp c3
  have e6 := toList_inj.mp c6
  have e9 := toList_inj.mp c9
  have e11 := toList_inj.mp c11
  have e19 := toList_inj.mp c19
  have e20 := toList_inj.mp c20
  have e23 := toList_inj.mp c23
  cases x with
  | false => rw [if_neg (by decide)]; exact ⟨false, rfl, ⟨fun h => (by cases h), fun h => absurd (hx.mpr h.2.2.2.2.2.2.2.2.2.2.2.2.2.2.2.2.2.2.2.2.2.1) (by decide)⟩⟩
  | true =>
    rw [if_pos rfl]
    have c21 := hx.mp rfl
    exact ⟨y, rfl, ⟨fun h => ⟨c0, c1, c2, e3, c4, c5, e6, c7, c8, e9, c10, e11, c12, c13, c14, c15, c16, c17, c18, e19, e20, c21, c22, e23, hy.mp h⟩, fun h => hy.mpr h.2.2.2.2.2.2.2.2.2.2.2.2.2.2.2.2.2.2.2.2.2.2.2.2⟩⟩
/-- Messages that are the same are told so. -/
theorem same_self (a0 : Int) (a1 : Int) (a2 : Int) (a3 : ByteArray) (a4 : Int) (a5 : Int) (a6 : ByteArray) (a7 : Int) (a8 : Int) (a9 : ByteArray) (a10 : Int) (a11 : ByteArray) (a12 : Int) (a13 : Int) (a14 : Int) (a15 : Int) (a16 : Int) (a17 : Int) (a18 : Int) (a19 : ByteArray) (a20 : ByteArray) (a21 : List S46) (a22 : Int) (a23 : ByteArray) (a24 : List S48) (hd : a21.length ≤ 1000000) (hl : a24.length ≤ 1000000) (k : Nat) (hk : a21.length + a24.length + 3 ≤ k) : roadbookref07_Same.f k a0 a1 a2 a3 a4 a5 a6 a7 a8 a9 a10 a11 a12 a13 a14 a15 a16 a17 a18 a19 a20 a21 a22 a23 a24 a0 a1 a2 a3 a4 a5 a6 a7 a8 a9 a10 a11 a12 a13 a14 a15 a16 a17 a18 a19 a20 a21 a22 a23 a24 = some true := by
  obtain ⟨r, e, hr⟩ := same_f a0 a1 a2 a3 a4 a5 a6 a7 a8 a9 a10 a11 a12 a13 a14 a15 a16 a17 a18 a19 a20 a21 a22 a23 a24 a0 a1 a2 a3 a4 a5 a6 a7 a8 a9 a10 a11 a12 a13 a14 a15 a16 a17 a18 a19 a20 a21 a22 a23 a24 hd hl k hk
  rw [e, hr.mpr ⟨rfl, rfl, rfl, rfl, rfl, rfl, rfl, rfl, rfl, rfl, rfl, rfl, rfl, rfl, rfl, rfl, rfl, rfl, rfl, rfl, rfl, rfl, rfl, rfl, rfl⟩]

theorem sameall_nil (k : Nat) (hk : 1 ≤ k) : roadbookref07_SameAll.f k [] [] = some true := by
  obtain ⟨k, rfl⟩ : ∃ j, k = j + 1 := ⟨k - 1, by omega⟩
  unfold roadbookref07_SameAll.f
  rw [if_pos rfl, roadbookref07_SameAll.l0]
  rw [if_neg (by simp)]
theorem sameall_one (x : S25) (h1 : x.f21.length ≤ 1000) (h2 : x.f24.length ≤ 3000) (k : Nat) (hk : 4500 ≤ k) : roadbookref07_SameAll.f k [x] [x] = some true := by
  obtain ⟨k, rfl⟩ : ∃ j, k = j + 2 := ⟨k - 2, by omega⟩
  have e : rd_T25 [x] 0 = x := rfl
  unfold roadbookref07_SameAll.f
  rw [if_pos rfl, roadbookref07_SameAll.l0]
  rw [if_pos (by simp), if_pos (by decide), if_pos (by simp), e, same_self _ _ _ _ _ _ _ _ _ _ _ _ _ _ _ _ _ _ _ _ _ _ _ _ _ (by omega) (by omega) (k + 1) (by omega), Option.bind_some, if_pos rfl, wrap64_id (by decide) (by decide), roadbookref07_SameAll.l0]
  rw [if_neg (by simp)]

theorem rd_mem_48 {l : List S48} {P : S48 → Prop} (h : ∀ j : Nat, j < l.length → P (rd_T48 l (j : Int))) : ∀ x ∈ l, P x := by
  intro x hx
  obtain ⟨j, hj, rfl⟩ := List.getElem_of_mem hx
  have := h j hj
  unfold rd_T48 at this
  rwa [Int.toNat_natCast, List.getD_eq_getElem?_getD, List.getElem?_eq_getElem hj] at this
theorem rd_mem_46 {l : List S46} {P : S46 → Prop} (h : ∀ j : Nat, j < l.length → P (rd_T46 l (j : Int))) : ∀ x ∈ l, P x := by
  intro x hx
  obtain ⟨j, hj, rfl⟩ := List.getElem_of_mem hx
  have := h j hj
  unfold rd_T46 at this
  rwa [Int.toNat_natCast, List.getD_eq_getElem?_getD, List.getElem?_eq_getElem hj] at this

/-- A Sub whose type lies within bounds, and whose bytes are few. -/
def okR (lo hi : Int) (x : S48) : Prop := lo ≤ x.f0 ∧ x.f0 ≤ hi ∧ x.f1.size ≤ 255
instance (lo hi : Int) (x : S48) : Decidable (okR lo hi x) := by unfold okR; infer_instance
theorem drop_rd {l : List S48} {i : Nat} (h : i < l.length) : l.drop i = rd_T48 l (i : Int) :: l.drop (i + 1) := by
  unfold rd_T48
  rw [Int.toNat_natCast, List.drop_eq_getElem_cons h, List.getD_eq_getElem?_getD, List.getElem?_eq_getElem h]; rfl
/-- The bytes of Subs. -/
def bytesS : List S48 → Nat
  | [] => 0
  | x :: l => 2 + x.f1.size + bytesS l
theorem bytesS_le (l : List S48) (c : Nat) (h : ∀ x ∈ l, x.f1.size ≤ c) : bytesS l ≤ l.length * (c + 2) := by
  induction l with
  | nil => simp [bytesS]
  | cons x l ih =>
    have h1 := h x (by simp)
    have h2 := ih fun y hy => h y (by simp [hy])
    rw [bytesS, List.length_cons, Nat.add_mul]; omega

/-- The bytes of an extension, and of extensions. -/
def oneS (x : S48) : ByteArray := strOfNums [x.f0, (x.f1.size : Int)] ++ x.f1
def allS : List S48 → ByteArray
  | [] => (⟨#[]⟩ : ByteArray)
  | x :: l => oneS x ++ allS l
theorem size_one (x : S48) : (oneS x).size = 2 + x.f1.size := by unfold oneS; rw [size_app, size_nums]; rfl
theorem size_all (l : List S48) : (allS l).size = bytesS l := by
  induction l with
  | nil => rfl
  | cons x l ih => rw [allS, size_app, size_one, ih, bytesS]
theorem empty_app (a : ByteArray) : (⟨#[]⟩ : ByteArray) ++ a = a := by
  refine ext_bt (by rw [size_app]; exact Nat.zero_add _) fun i _ => ?_
  have z : (⟨#[]⟩ : ByteArray).size = 0 := rfl
  rw [bt_app _ _ _ (by omega), if_neg (by omega), z]
  congr 1 <;> omega
theorem app_empty (a : ByteArray) : a ++ (⟨#[]⟩ : ByteArray) = a := by
  have z : (⟨#[]⟩ : ByteArray).size = 0 := rfl
  refine ext_bt (by rw [size_app]; exact Nat.add_zero _) fun i hi => ?_
  rw [size_app, z] at hi
  rw [bt_app _ _ _ (by omega), if_pos (by omega)]

/-- From a place to another one stand extensions, one behind the other. -/
inductive Runs (s : ByteArray) : Nat → List S48 → Nat → Prop
  | nil (a : Nat) : Runs s a [] a
  | cons (a b : Nat) (l : List S48) (n : Nat) (hn : n = (bt s ((a + 1 : Nat) : Int)).toNat) (h : a + 2 + n ≤ s.size) (t : Runs s (a + 2 + n) l b) : Runs s a (⟨bt s (a : Int), s.extract (a + 2) (a + 2 + n)⟩ :: l) b
/-- At a place there is something, but no whole extension. -/
def Stuck (s : ByteArray) (b : Nat) : Prop := b < s.size ∧ ¬ b + 2 + (bt s ((b + 1 : Nat) : Int)).toNat ≤ s.size
theorem runs_le {s : ByteArray} {a b : Nat} {l : List S48} (h : Runs s a l b) : a + 2 * l.length ≤ b ∧ (a ≤ s.size → b ≤ s.size) := by
  induction h with
  | nil a => exact ⟨by simp, fun h => h⟩
  | cons a b l n hn h t ih => exact ⟨by rw [List.length_cons]; omega, fun _ => ih.2 h⟩
theorem runs_nil {s : ByteArray} {a b : Nat} (h : Runs s a [] b) : a = b := by cases h; rfl
theorem runs_ex (s : ByteArray) (m : Nat) : ∀ a, a ≤ s.size → s.size - a ≤ m → ∃ l b, Runs s a l b ∧ b ≤ s.size ∧ (b = s.size ∨ Stuck s b) := by
  induction m with
  | zero => intro a h hm; exact ⟨[], a, .nil a, h, .inl (by omega)⟩
  | succ m ih =>
    intro a h hm
    by_cases c : a = s.size
    · exact ⟨[], a, .nil a, h, .inl c⟩
    · by_cases d : a + 2 + (bt s ((a + 1 : Nat) : Int)).toNat ≤ s.size
      · obtain ⟨l, b, r, hb, e⟩ := ih (a + 2 + (bt s ((a + 1 : Nat) : Int)).toNat) d (by omega)
        exact ⟨_, b, .cons a b l _ rfl d r, hb, e⟩
      · exact ⟨[], a, .nil a, h, .inr ⟨by omega, d⟩⟩
theorem runs_trans {s : ByteArray} {a b c : Nat} {l m : List S48} (h : Runs s a l b) (k : Runs s b m c) : Runs s a (l ++ m) c := by
  induction h with
  | nil a => exact k
  | cons a b l n hn h t ih => exact .cons a c _ n hn h (ih k)
theorem runs_split {s : ByteArray} {a c : Nat} {l m : List S48} (h : Runs s a (l ++ m) c) : ∃ b, Runs s a l b ∧ Runs s b m c := by
  induction l generalizing a with
  | nil => exact ⟨a, .nil a, h⟩
  | cons x l ih =>
    cases h with
    | cons _ _ _ n hn h t =>
      obtain ⟨b, r, q⟩ := ih t
      exact ⟨b, .cons a b l n hn h r, q⟩
theorem runs_app {s : ByteArray} (t : ByteArray) {a b : Nat} {l : List S48} (h : Runs s a l b) : Runs (s ++ t) a l b := by
  induction h with
  | nil a => exact .nil a
  | cons a b l n hn h _ ih =>
    have e0 : bt (s ++ t) (a : Int) = bt s (a : Int) := by rw [bt_app _ _ _ (by omega), if_pos (by omega)]
    have e1 : bt (s ++ t) ((a + 1 : Nat) : Int) = bt s ((a + 1 : Nat) : Int) := by rw [bt_app _ _ _ (by omega), if_pos (by omega)]
    have e2 : (s ++ t).extract (a + 2) (a + 2 + n) = s.extract (a + 2) (a + 2 + n) := by
      refine ext_bt (by rw [size_ext, size_ext, size_app]; omega) fun i hi => ?_
      rw [size_ext, size_app] at hi
      rw [bt_ext _ _ _ _ (by omega), bt_ext _ _ _ _ (by omega), size_app, if_pos (by omega), if_pos (by omega), bt_app _ _ _ (by omega), if_pos (by omega)]
    rw [← e0, ← e2]
    exact .cons a b l n (by rw [hn, e1]) (by rw [size_app]; omega) ih
theorem runs_shift (s : ByteArray) {t : ByteArray} {a b : Nat} {l : List S48} (h : Runs t a l b) : Runs (s ++ t) (s.size + a) l (s.size + b) := by
  induction h with
  | nil a => exact .nil _
  | cons a b l n hn h _ ih =>
    have e0 : bt (s ++ t) ((s.size + a : Nat) : Int) = bt t (a : Int) := by rw [bt_app _ _ _ (by omega), if_neg (by omega)]; congr 1; omega
    have e1 : bt (s ++ t) ((s.size + a + 1 : Nat) : Int) = bt t ((a + 1 : Nat) : Int) := by rw [bt_app _ _ _ (by omega), if_neg (by omega)]; congr 1; omega
    have e2 : (s ++ t).extract (s.size + a + 2) (s.size + a + 2 + n) = t.extract (a + 2) (a + 2 + n) := by
      refine ext_bt (by rw [size_ext, size_ext, size_app]; omega) fun i hi => ?_
      rw [size_ext, size_app] at hi
      rw [bt_ext _ _ _ _ (by omega), bt_ext _ _ _ _ (by omega), size_app, if_pos (by omega), if_pos (by omega), bt_app _ _ _ (by omega), if_neg (by omega)]
      congr 1; omega
    rw [← e0, ← e2]
    refine .cons (s.size + a) (s.size + b) l n (by rw [hn, e1]) (by rw [size_app]; omega) ?_
    rw [show s.size + a + 2 + n = s.size + (a + 2 + n) by omega]
    exact ih
theorem runs_cut {s : ByteArray} (c : Nat) (hc : c ≤ s.size) {a b : Nat} {l : List S48} (h : Runs s a l b) (hb : b ≤ c) : Runs (s.extract 0 c) a l b := by
  induction h with
  | nil a => exact .nil a
  | cons a b l n hn h t ih =>
    have hle := (runs_le t).1
    have e0 : bt (s.extract 0 c) (a : Int) = bt s (a : Int) := by rw [bt_ext _ _ _ _ (by omega), if_pos (by omega)]; congr 1; omega
    have e1 : bt (s.extract 0 c) ((a + 1 : Nat) : Int) = bt s ((a + 1 : Nat) : Int) := by rw [bt_ext _ _ _ _ (by omega), if_pos (by omega)]; congr 1; omega
    have e2 : (s.extract 0 c).extract (a + 2) (a + 2 + n) = s.extract (a + 2) (a + 2 + n) := by
      refine ext_bt (by rw [size_ext, size_ext, size_ext]; omega) fun i hi => ?_
      rw [size_ext, size_ext] at hi
      rw [bt_ext _ _ _ _ (by omega), bt_ext _ _ _ _ (by omega), bt_ext _ _ _ _ (by omega), size_ext, if_pos (by omega), if_pos (by omega), if_pos (by omega)]
      congr 1; omega
    rw [← e0, ← e2]
    exact .cons a b l n (by rw [hn, e1]) (by rw [size_ext]; omega) (ih hb)
/-- What stands from a place to another one are the extensions' bytes, and these may be. -/
theorem runs_all {s : ByteArray} {a b : Nat} {l : List S48} (h : Runs s a l b) (ha : a ≤ s.size) : (∀ x ∈ l, okR 0 255 x) ∧ s.extract a b = allS l := by
  induction h with
  | nil a =>
    refine ⟨fun x hx => by simp at hx, ?_⟩
    rw [allS]
    refine ext_bt (by rw [size_ext]; show _ = 0; omega) fun i hi => ?_
    rw [size_ext] at hi; omega
  | cons a b l n hn h t ih =>
    obtain ⟨i1, i2⟩ := ih h
    have hb := (runs_le t).2 h
    have hle := (runs_le t).1
    have r0 := bt_range s (a : Int)
    have r1 := bt_range s ((a + 1 : Nat) : Int)
    refine ⟨fun x hx => ?_, ?_⟩
    · rcases List.mem_cons.mp hx with rfl | hx
      · exact ⟨r0.1, r0.2, by show (s.extract _ _).size ≤ 255; rw [size_ext]; omega⟩
      · exact i1 x hx
    · rw [allS, oneS, ← i2]
      have z : (s.extract (a + 2) (a + 2 + n)).size = n := by rw [size_ext]; omega
      show s.extract a b = strOfNums [bt s (a : Int), ((s.extract (a + 2) (a + 2 + n)).size : Int)] ++ s.extract (a + 2) (a + 2 + n) ++ s.extract (a + 2 + n) b
      rw [z]
      refine ext_bt (by rw [size_app, size_app, size_nums, size_ext, size_ext, size_ext]; simp only [List.length_cons, List.length_nil]; omega) fun i hi => ?_
      rw [size_ext] at hi
      rw [bt_ext _ _ _ _ (by omega), if_pos (by omega), bt_app _ _ _ (by omega), size_app, size_nums, z]
      simp only [List.length_cons, List.length_nil]
      by_cases q : i < 2 + n
      · rw [if_pos (by omega), bt_app _ _ _ (by omega), size_nums]
        simp only [List.length_cons, List.length_nil]
        by_cases q2 : i < 2
        · rw [if_pos (by omega), bt_bytes _ (by simp; omega)]
          have : i = 0 ∨ i = 1 := by omega
          rcases this with rfl | rfl
          · simp
          · simp only [List.getD_cons_succ, List.getD_cons_zero]
            rw [hn, Int.toNat_of_nonneg r1.1]; congr 1
        · rw [if_neg (by omega), bt_ext _ _ _ _ (by omega), if_pos (by omega)]; congr 1; omega
      · rw [if_neg (by omega), bt_ext _ _ _ _ (by omega), if_pos (by omega)]; congr 1; omega
/-- The bytes of extensions that may be are such ones, one behind the other. -/
theorem all_runs (l : List S48) (ok : ∀ x ∈ l, okR 0 255 x) : Runs (allS l) 0 l (allS l).size := by
  induction l with
  | nil => exact .nil 0
  | cons x l ih =>
    have hx := ok x (by simp)
    have r := runs_shift (oneS x) (ih fun y hy => ok y (by simp [hy]))
    have s1 := size_one x
    obtain ⟨h0, h1, h2⟩ := hx
    have b : ∀ y ∈ [x.f0, (x.f1.size : Int)], 0 ≤ y ∧ y ≤ 255 := by simp; omega
    have g : ∀ i : Nat, bt (allS (x :: l)) (i : Int) = if i < 2 then [x.f0, (x.f1.size : Int)].getD i 0 else if i < 2 + x.f1.size then bt x.f1 ((i - 2 : Nat) : Int) else bt (allS l) ((i - (2 + x.f1.size) : Nat) : Int) := by
      intro i
      rw [allS, bt_app _ _ _ (by omega), s1]
      by_cases q : i < 2 + x.f1.size
      · rw [if_pos (by omega), oneS, bt_app _ _ _ (by omega), size_nums]
        simp only [List.length_cons, List.length_nil]
        by_cases q2 : i < 2
        · rw [if_pos (by omega), if_pos q2, bt_bytes _ b]
        · rw [if_neg (by omega), if_neg q2, if_pos q]; congr 1; omega
      · rw [if_neg (by omega), if_neg (by omega), if_neg q]; congr 1; omega
    have g0 := g 0
    have g1 := g 1
    simp only [Nat.zero_lt_two, if_pos, List.getD_cons_zero, Nat.one_lt_two, List.getD_cons_succ] at g0 g1
    have sz : (allS (x :: l)).size = 2 + x.f1.size + (allS l).size := by rw [allS, size_app, s1]
    have e : (allS (x :: l)).extract (0 + 2) (0 + 2 + x.f1.size) = x.f1 := by
      refine ext_bt (by rw [size_ext, sz]; omega) fun i hi => ?_
      rw [size_ext, sz] at hi
      rw [bt_ext _ _ _ _ (by omega), sz, if_pos (by omega), show ((0 + 2 : Nat) : Int) + (i : Int) = ((i + 2 : Nat) : Int) by omega, g (i + 2), if_neg (by omega), if_pos (by omega)]
      congr 1
    have := Runs.cons (s := allS (x :: l)) 0 (allS (x :: l)).size l x.f1.size (by rw [show ((0 + 1 : Nat) : Int) = ((1 : Nat) : Int) from rfl, g1]; rfl) (by rw [sz]; omega) (by
      rw [s1] at r
      rw [show 0 + 2 + x.f1.size = 2 + x.f1.size + 0 by omega, sz]
      exact r)
    rw [e, g0] at this
    exact this
/-- One list alone stands between two places. -/
theorem runs_one {s : ByteArray} {a b c : Nat} {l m : List S48} (h : Runs s a l b) (k : Runs s a m c) (hb : b = s.size) (hc : c = s.size) : l = m := by
  induction h generalizing m with
  | nil a =>
    cases k with
    | nil => rfl
    | cons _ _ l n hn h t => omega
  | cons a b l n hn h t ih =>
    cases k with
    | nil => have := (runs_le t).1; omega
    | cons _ _ l' n' hn' h' t' =>
      have e : n' = n := by rw [hn, hn']
      subst e
      rw [ih t' hb]

theorem refget_step (acc : List S48) (s : ByteArray) (a : Nat) (k : Nat) (h : a < s.size) (hs : s.size ≤ 1000000) (hacc : acc.length ≤ 1000000) :
    roadbookref13_Get.l0 (k + 1) s acc a = if a + 2 + (bt s ((a + 1 : Nat) : Int)).toNat ≤ s.size then roadbookref13_Get.l0 k s (acc ++ [⟨bt s (a : Int), s.extract (a + 2) (a + 2 + (bt s ((a + 1 : Nat) : Int)).toNat)⟩]) ((a + 2 + (bt s ((a + 1 : Nat) : Int)).toNat : Nat) : Int) else some ([], a, 2) := by
  simp only [roadbookref13_Get.l0]
  have r0 := bt_range s (a : Int)
  have r1 := bt_range s ((a + 1 : Nat) : Int)
  rw [if_pos (by omega), wrap64_id (x := (s.size : Int) - a) (by omega) (by omega), wrap64_id (x := (a : Int) + 1) (by omega) (by omega), wrap64_id (x := (a : Int) + 2) (by omega) (by omega), show (a : Int) + 1 = ((a + 1 : Nat) : Int) by omega, wrap64_id (x := bt s ((a + 1 : Nat) : Int)) (by omega) (by omega), wrap64_id (x := bt s (a : Int)) (by omega) (by omega), wrap64_id (x := (s.size : Int) - a - 2) (by omega) (by omega), wrap64_id (x := (a : Int) + 2 + bt s ((a + 1 : Nat) : Int)) (by omega) (by omega)]
  by_cases c : (s.size : Int) - a < 2
  · rw [if_pos c, if_neg (by omega)]
  · rw [if_neg c, if_pos (by omega), if_pos (by omega)]
    by_cases d : (s.size : Int) - a - 2 < bt s ((a + 1 : Nat) : Int)
    · rw [if_pos d, if_neg (by omega)]
    · rw [if_neg d, if_pos (by omega), if_pos (by omega), if_pos (by omega), if_pos (by omega), if_pos (by omega), if_pos (by omega), show (a : Int) + 2 + bt s ((a + 1 : Nat) : Int) = ((a + 2 + (bt s ((a + 1 : Nat) : Int)).toNat : Nat) : Int) by omega, show ((a : Int) + 2).toNat = a + 2 by omega, Int.toNat_natCast]
theorem refget_runs {s : ByteArray} (hs : s.size ≤ 1000000) {a b : Nat} {l : List S48} (r : Runs s a l b) (ha : a ≤ s.size) (e : b = s.size ∨ Stuck s b) : ∀ (acc : List S48) (k : Nat), l.length < k → acc.length + s.size - a ≤ 1000000 →
    roadbookref13_Get.l0 k s acc a = some (if b = s.size then (acc ++ l, 0, 0) else ([], (b : Int), 2)) := by
  induction r with
  | nil a =>
    intro acc k hk hc
    obtain ⟨k, rfl⟩ : ∃ j, k = j + 1 := ⟨k - 1, by omega⟩
    rcases e with e | e
    · rw [if_pos e, e, List.append_nil]
      simp only [roadbookref13_Get.l0]
      rw [if_neg (by omega)]
    · rw [if_neg (by have := e.1; omega), refget_step acc s a k e.1 hs (by have := e.1; omega), if_neg e.2]
  | cons a b l n hn h t ih =>
    intro acc k hk hc
    obtain ⟨k, rfl⟩ : ∃ j, k = j + 1 := ⟨k - 1, by omega⟩
    rw [refget_step acc s a k (by omega) hs (by omega), ← hn, if_pos h]
    rw [List.length_cons] at hk
    rw [ih h e _ k (by omega) (by rw [List.length_append, List.length_singleton]; omega), List.append_assoc]
    rfl
theorem refget_f {s : ByteArray} (hs : s.size ≤ 1000000) {b : Nat} {l : List S48} (r : Runs s 0 l b) (e : b = s.size ∨ Stuck s b) (k : Nat) (hk : l.length < k) : roadbookref13_Get.f k s = some (if b = s.size then (l, 0, 0) else ([], (b : Int), 2)) := by
  unfold roadbookref13_Get.f
  have := refget_runs hs r (Nat.zero_le _) e [] k hk (by simp; omega)
  rw [List.nil_append] at this
  exact this

/-- The lowest so many bytes of a number, the highest first. -/
def dig : Nat → Int → List Int
  | 0, _ => []
  | s + 1, n => dig s (n / 256) ++ [n % 256]
theorem dig_length (s : Nat) (n : Int) : (dig s n).length = s := by
  induction s generalizing n with
  | zero => rfl
  | succ s ih => simp [dig, ih]
theorem dig_range (s : Nat) (n : Int) : ∀ x ∈ dig s n, 0 ≤ x ∧ x ≤ 255 := by
  induction s generalizing n with
  | zero => intro x hx; cases hx
  | succ s ih =>
    intro x hx
    simp only [dig, List.mem_append, List.mem_singleton] at hx
    rcases hx with hx | rfl
    · exact ih _ x hx
    · omega
def octFits (n size : Int) : Bool := decide (1 ≤ size ∧ size ≤ 7 ∧ 0 ≤ n ∧ n < 256 ^ size.toNat)
def octPut (n size : Int) : ByteArray × Bool := if octFits n size = true then (strOfNums (dig size.toNat n), true) else (⟨#[]⟩, false)
theorem octFits_iff {n size : Int} : octFits n size = true ↔ (1 ≤ size ∧ size ≤ 7 ∧ 0 ≤ n ∧ n < 256 ^ size.toNat) := by simp [octFits]

theorem div_eq_zero_iff {n : Int} {m : Nat} (h : 0 ≤ n) (hm : 0 < (2 : Int) ^ m) : (n / 2 ^ m = 0) ↔ n < 2 ^ m := by
  constructor
  · intro e
    have := Int.lt_mul_ediv_self_add (x := n) (k := 2 ^ m) hm
    rw [e] at this; omega
  · intro e; exact Int.ediv_eq_zero_of_lt h e

theorem pow_le7 (m : Nat) (h : m ≤ 7) : (256 : Int) ^ m ≤ 72057594037927936 := by
  have : m = 0 ∨ m = 1 ∨ m = 2 ∨ m = 3 ∨ m = 4 ∨ m = 5 ∨ m = 6 ∨ m = 7 := by omega
  rcases this with rfl | rfl | rfl | rfl | rfl | rfl | rfl | rfl <;> decide

/-- The number that bytes make, the highest first. -/
def num (l : List Int) : Int := l.foldl (fun a b => a * 256 + b) 0
theorem num_nil : num [] = 0 := rfl
theorem num_snoc (l : List Int) (x : Int) : num (l ++ [x]) = num l * 256 + x := by simp [num, List.foldl_append]
theorem num_take (l : List Int) (i : Nat) (h : i < l.length) : num (l.take (i + 1)) = num (l.take i) * 256 + l.getD i 0 := by
  rw [List.take_succ_eq_append_getElem h, num_snoc, List.getD_eq_getElem?_getD, List.getElem?_eq_getElem h]; rfl
theorem num_foldl (l : List Int) (a : Int) : l.foldl (fun a b => a * 256 + b) a = a * 256 ^ l.length + num l := by
  induction l generalizing a with
  | nil => simp [num]
  | cons x l ih =>
    have e : num (x :: l) = List.foldl (fun a b => a * 256 + b) x l := by simp [num]
    rw [e, ih x]
    simp only [List.foldl_cons, List.length_cons]
    rw [ih (a * 256 + x), Int.pow_succ, Int.add_mul, Int.mul_assoc, Int.mul_comm 256, Int.add_assoc]
theorem num_cons (x : Int) (l : List Int) : num (x :: l) = x * 256 ^ l.length + num l := by
  have e : num (x :: l) = List.foldl (fun a b => a * 256 + b) x l := by simp [num]
  rw [e, num_foldl]
theorem num_range (l : List Int) (h : ∀ x ∈ l, 0 ≤ x ∧ x ≤ 255) : 0 ≤ num l ∧ num l < 256 ^ l.length := by
  induction l with
  | nil => simp [num]
  | cons x l ih =>
    have hx := h x (by simp)
    obtain ⟨h0, h1⟩ := ih fun y hy => h y (by simp [hy])
    rw [num_cons, List.length_cons, Int.pow_succ]
    have hp : (0 : Int) < 256 ^ l.length := Int.pow_pos (by decide)
    have e1 : 0 ≤ x * 256 ^ l.length := Int.mul_nonneg hx.1 (by omega)
    have e2 : x * 256 ^ l.length ≤ 255 * 256 ^ l.length := Int.mul_le_mul_of_nonneg_right hx.2 (by omega)
    omega
theorem num_dig (s : Nat) : ∀ n : Int, 0 ≤ n → n < 256 ^ s → num (dig s n) = n := by
  induction s with
  | zero => intro n h0 h1; simp at h1; simp [dig, num]; omega
  | succ s ih =>
    intro n h0 h1
    rw [dig, num_snoc, ih (n / 256) (by omega) (by rw [Int.pow_succ] at h1; omega)]
    omega
theorem dig_num (l : List Int) (h : ∀ x ∈ l, 0 ≤ x ∧ x ≤ 255) : dig l.length (num l) = l := by
  generalize hs : l.length = s
  induction s generalizing l with
  | zero => rw [List.eq_nil_of_length_eq_zero hs]; rfl
  | succ s ih =>
    have hne : l ≠ [] := fun c => by rw [c] at hs; cases hs
    obtain ⟨a, x, rfl⟩ : ∃ a x, l = a ++ [x] := ⟨_, _, (List.dropLast_concat_getLast hne).symm⟩
    rw [List.length_append, List.length_singleton] at hs
    have hx := h x (by simp)
    rw [dig, num_snoc, show (num a * 256 + x) / 256 = num a by omega, show (num a * 256 + x) % 256 = x by omega, ih a (fun y hy => h y (by simp [hy])) (by omega)]

theorem u8_lt {x y : Int} (hx : 0 ≤ x ∧ x ≤ 255) (hy : 0 ≤ y ∧ y ≤ 255) : (UInt8.ofNat x.toNat < UInt8.ofNat y.toNat) ↔ x < y := by
  rw [UInt8.lt_iff_toNat_lt, UInt8.toNat_ofNat', UInt8.toNat_ofNat']; omega
theorem u8_eq {x y : Int} (hx : 0 ≤ x ∧ x ≤ 255) (hy : 0 ≤ y ∧ y ≤ 255) : (UInt8.ofNat x.toNat = UInt8.ofNat y.toNat) ↔ x = y := by
  rw [← UInt8.toNat_inj, UInt8.toNat_ofNat', UInt8.toNat_ofNat']; omega
/-- Of two texts of one length the lesser is the one whose number is less. -/
theorem less_num (a b : List Int) (ha : ∀ x ∈ a, 0 ≤ x ∧ x ≤ 255) (hb : ∀ x ∈ b, 0 ≤ x ∧ x ≤ 255) (hl : a.length = b.length) :
    Op.bytesLess (strOfNums a).toList (strOfNums b).toList = decide (num a < num b) := by
  rw [ByteArray.toList_eq, ByteArray.toList_eq, data_nums, data_nums]
  induction a generalizing b with
  | nil =>
    cases b with
    | nil => rfl
    | cons y b => cases hl
  | cons x a ih =>
    cases b with
    | nil => cases hl
    | cons y b =>
      have hl' : a.length = b.length := by simpa using hl
      have hx := ha x (by simp)
      have hy := hb y (by simp)
      have ha' : ∀ z ∈ a, 0 ≤ z ∧ z ≤ 255 := fun z hz => ha z (by simp [hz])
      have hb' : ∀ z ∈ b, 0 ≤ z ∧ z ≤ 255 := fun z hz => hb z (by simp [hz])
      simp only [List.map_cons, Op.bytesLess, ih b ha' hb' hl']
      obtain ⟨r0, r1⟩ := num_range a ha'
      obtain ⟨q0, q1⟩ := num_range b hb'
      rw [num_cons, num_cons, hl'] at *
      have hp : (0 : Int) < 256 ^ b.length := Int.pow_pos (by decide)
      rw [Bool.eq_iff_iff]
      simp only [Bool.or_eq_true, Bool.and_eq_true, decide_eq_true_eq, beq_iff_eq, u8_lt hx hy, u8_eq hx hy]
      constructor
      · rintro (h | ⟨rfl, h⟩)
        · have : (x + 1) * 256 ^ b.length ≤ y * 256 ^ b.length := Int.mul_le_mul_of_nonneg_right (by omega) (by omega)
          rw [Int.add_mul] at this; omega
        · omega
      · intro h
        rcases Int.lt_trichotomy x y with c | c | c
        · exact .inl c
        · subst c; exact .inr ⟨rfl, by omega⟩
        · have : (y + 1) * 256 ^ b.length ≤ x * 256 ^ b.length := Int.mul_le_mul_of_nonneg_right (by omega) (by omega)
          rw [Int.add_mul] at this; omega

theorem refNumber_l (m : Nat) : ∀ (k : Nat) (s : ByteArray) (i : Nat), m < k → s.size - i = m → i ≤ s.size → s.size ≤ 7 →
    roadbookref08_Number.l0 k s (num ((bytesOf s).take i)) i = some (num (bytesOf s)) := by
  induction m with
  | zero =>
    intro k s i hk hm hi hs
    obtain ⟨k, rfl⟩ : ∃ j, k = j + 1 := ⟨k - 1, by omega⟩
    simp only [roadbookref08_Number.l0]
    rw [if_neg (by omega), List.take_of_length_le (by rw [len_bytesOf]; omega)]
  | succ m ih =>
    intro k s i hk hm hi hs
    obtain ⟨k, rfl⟩ : ∃ j, k = j + 1 := ⟨k - 1, by omega⟩
    simp only [roadbookref08_Number.l0]
    rw [if_pos (by omega), if_pos (by omega), if_pos (by omega)]
    have hr := num_range ((bytesOf s).take i) (fun x hx => bytesOf_range s x (List.mem_of_mem_take hx))
    rw [List.length_take, len_bytesOf] at hr
    have hp := pow_le7 (min i s.size) (by omega)
    have hp6 : (256 : Int) ^ (min i s.size) ≤ 281474976710656 := by
      have : min i s.size ≤ 6 := by omega
      generalize min i s.size = q at this
      have : q = 0 ∨ q = 1 ∨ q = 2 ∨ q = 3 ∨ q = 4 ∨ q = 5 ∨ q = 6 := by omega
      rcases this with rfl | rfl | rfl | rfl | rfl | rfl | rfl <;> decide
    have hb := bt_range s (i : Int)
    rw [wrap64_id (x := num ((bytesOf s).take i) * 256) (by omega) (by omega), wrap64_id (x := bt s (i : Int)) (by omega) (by omega), wrap64_id (by omega) (by omega), wrap64_id (by omega) (by omega)]
    have := ih k s (i + 1) (by omega) (by omega) (by omega) hs
    rw [num_take _ i (by rw [len_bytesOf]; omega), bytesOf_getD] at this
    exact this
theorem refNumber_f (s : ByteArray) (hs : s.size ≤ 7) (k : Nat) (hk : 8 < k) : roadbookref08_Number.f k s = some (num (bytesOf s)) :=
  refNumber_l s.size k s 0 (by omega) (by omega) (by omega) hs

/-- Are there so many bytes ahead of a cursor's end? -/
def has (a e : Int) (b : Bool) (n : Int) : Bool := !b && decide (0 ≤ n ∧ n ≤ e - a)
theorem has_iff {a e : Int} {b : Bool} {n : Int} : has a e b n = true ↔ (b = false ∧ 0 ≤ n ∧ n ≤ e - a) := by simp [has]
theorem step_f (s : ByteArray) (a e : Int) (b : Bool) (n : Int) (h0 : 0 ≤ a) (h1 : a ≤ e) (h2 : e ≤ 1000000) :
    cursor_step.f s a e b n = some (if has a e b n = true then (s, a + n, e, b, true) else (s, a, e, true, false)) := by
  unfold cursor_step.f
  rw [wrap64_id (x := e - a) (by omega) (by omega)]
  cases b with
  | true => simp [has]
  | false =>
    rw [if_neg (by decide)]
    by_cases c : n < 0
    · rw [if_pos c, if_neg (by rw [has_iff]; omega)]
    · rw [if_neg c]
      by_cases d : n > e - a
      · rw [if_pos d, if_neg (by rw [has_iff]; omega)]
      · rw [if_neg d, if_pos (has_iff.mpr ⟨rfl, by omega, by omega⟩), wrap64_id (by omega) (by omega)]
theorem text_f (s : ByteArray) (a e : Int) (b : Bool) (n : Int) (h0 : 0 ≤ a) (h1 : a ≤ e) (h2 : e ≤ s.size) (hs : s.size ≤ 1000000) :
    cursor_Text.f s a e b n = some (if has a e b n = true then (s.extract a.toNat (a + n).toNat, s, a + n, e, b) else ((⟨#[]⟩ : ByteArray), s, a, e, true)) := by
  unfold cursor_Text.f
  rw [step_f s a e b n h0 h1 (by omega), Option.bind_some]
  by_cases c : has a e b n = true
  · have c' := has_iff.mp c
    rw [if_pos c, if_pos c]
    dsimp only
    rw [if_pos rfl, if_pos h0, if_pos (by omega), if_pos (by omega)]
  · rw [if_neg c, if_neg c]
    dsimp only
    rw [if_neg (by decide)]

theorem num_fold (s : ByteArray) : Go.Proofs.Ytccjakjjaemmkaa.Pre.numOf s = num (bytesOf s) := by
  unfold Go.Proofs.Ytccjakjjaemmkaa.Pre.numOf num
  rfl
theorem num_f (s : ByteArray) (a e : Int) (b : Bool) (n : Int) (h0 : 0 ≤ a) (h1 : a ≤ e) (h2 : e ≤ s.size) (hs : s.size ≤ 1000000) :
    cursor_Num.f s a e b n = some (if 1 ≤ n ∧ n ≤ 7 ∧ has a e b n = true then (num (bytesOf (s.extract a.toNat (a + n).toNat)), s, a + n, e, b) else (0, s, a, e, true)) := by
  unfold cursor_Num.f
  by_cases c : n < 1 ∨ 7 < n
  · rw [if_pos c, if_neg (by omega)]
  · rw [if_neg c, step_f s a e b n h0 h1 (by omega), Option.bind_some]
    by_cases d : has a e b n = true
    · have d' := has_iff.mp d
      rw [if_pos d]
      dsimp only
      rw [if_pos rfl, if_pos (by omega), num_fold, if_pos ⟨by omega, by omega, d⟩]
    · rw [if_neg d]
      dsimp only
      rw [if_neg (by decide), if_neg (fun h => d h.2.2)]

theorem num1 (s : ByteArray) (a : Nat) (h : a < s.size) : num (bytesOf (s.extract a (a + 1))) = bt s (a : Int) := by
  have e : bytesOf (s.extract a (a + 1)) = [bt s (a : Int)] := by
    apply List.ext_getElem (by rw [len_bytesOf, size_ext]; simp; omega)
    intro i h1 h2
    have i0 : i = 0 := by simpa using h2
    subst i0
    have := bytesOf_getD (s.extract a (a + 1)) 0
    rw [List.getD_eq_getElem?_getD, List.getElem?_eq_getElem h1, bt_ext _ _ _ _ (by omega), if_pos (by omega)] at this
    simp only [Option.getD_some] at this
    rw [this]; simp
  rw [e]; simp [num]
/-- One round of Get. -/
theorem get_step (acc : List S48) (s : ByteArray) (a : Nat) (k : Nat) (h : a < s.size) (hs : s.size ≤ 1000000) (hacc : acc.length ≤ 1000000) :
    ext_Get.l0 (k + 1) acc s a s.size false = if a + 2 + (bt s ((a + 1 : Nat) : Int)).toNat ≤ s.size then ext_Get.l0 k (acc ++ [⟨bt s (a : Int), s.extract (a + 2) (a + 2 + (bt s ((a + 1 : Nat) : Int)).toNat)⟩]) s ((a + 2 + (bt s ((a + 1 : Nat) : Int)).toNat : Nat) : Int) s.size false else some ([], a, 2) := by
  simp only [ext_Get.l0]
  have r0 := bt_range s (a : Int)
  have r1 := bt_range s ((a + 1 : Nat) : Int)
  have k0 : cursor_Num.f s a s.size false 1 = some (bt s (a : Int), s, (a : Int) + 1, (s.size : Int), false) := by
    rw [num_f s a s.size false 1 (by omega) (by omega) (by omega) hs, if_pos ⟨by omega, by omega, has_iff.mpr ⟨rfl, by omega, by omega⟩⟩, show (a : Int).toNat = a by omega, show ((a : Int) + 1).toNat = a + 1 by omega, num1 s a h]
  unfold cursor_Left.f
  rw [if_neg (by decide), Option.bind_some, wrap64_id (by omega) (by omega), if_pos (by omega), k0, Option.bind_some]
  dsimp only
  by_cases c : a + 1 < s.size
  · have k1 : cursor_Num.f s ((a : Int) + 1) s.size false 1 = some (bt s ((a + 1 : Nat) : Int), s, ((a + 2 : Nat) : Int), (s.size : Int), false) := by
      rw [num_f s ((a : Int) + 1) s.size false 1 (by omega) (by omega) (by omega) hs, if_pos ⟨by omega, by omega, has_iff.mpr ⟨rfl, by omega, by omega⟩⟩, show ((a : Int) + 1).toNat = a + 1 by omega, show ((a : Int) + 1 + 1).toNat = a + 1 + 1 by omega, num1 s (a + 1) c]
      congr 4 <;> omega
    rw [k1, Option.bind_some]
    dsimp only
    by_cases d : a + 2 + (bt s ((a + 1 : Nat) : Int)).toNat ≤ s.size
    · have hd : ((a + 2 : Nat) : Int) + bt s ((a + 1 : Nat) : Int) = ((a + 2 + (bt s ((a + 1 : Nat) : Int)).toNat : Nat) : Int) := by omega
      rw [text_f s _ s.size false _ (by omega) (by omega) (by omega) hs, if_pos (has_iff.mpr ⟨rfl, by omega, by omega⟩), Option.bind_some]
      dsimp only
      rw [if_neg (by decide), if_pos (by omega), if_pos d, hd, Int.toNat_natCast, Int.toNat_natCast]
    · have e : ¬ has ((a + 2 : Nat) : Int) s.size false (bt s ((a + 1 : Nat) : Int)) = true := fun q => by have := has_iff.mp q; omega
      rw [text_f s _ s.size false _ (by omega) (by omega) (by omega) hs, if_neg e, Option.bind_some]
      dsimp only
      rw [if_pos rfl, if_neg d]
  · have e : ¬ has ((a : Int) + 1) s.size false 1 = true := fun q => by have := has_iff.mp q; omega
    have e2 : ¬ has ((a : Int) + 1) s.size true 0 = true := fun q => by have := has_iff.mp q; simp at this
    rw [num_f s _ s.size false 1 (by omega) (by omega) (by omega) hs, if_neg (fun q => e q.2.2), Option.bind_some]
    dsimp only
    rw [text_f s _ s.size true 0 (by omega) (by omega) (by omega) hs, if_neg e2, Option.bind_some]
    dsimp only
    rw [if_pos rfl, if_neg (by omega)]
theorem get_end (acc : List S48) (s : ByteArray) (k : Nat) (hs : s.size ≤ 1000000) : ext_Get.l0 (k + 1) acc s s.size s.size false = some (acc, 0, 0) := by
  simp only [ext_Get.l0]
  unfold cursor_Left.f
  rw [if_neg (by decide), Option.bind_some, wrap64_id (by omega) (by omega), if_neg (by omega)]
theorem get_runs {s : ByteArray} (hs : s.size ≤ 1000000) {a b : Nat} {l : List S48} (r : Runs s a l b) (ha : a ≤ s.size) (e : b = s.size ∨ Stuck s b) : ∀ (acc : List S48) (k : Nat), l.length < k → acc.length + s.size - a ≤ 1000000 →
    ext_Get.l0 k acc s a s.size false = some (if b = s.size then (acc ++ l, 0, 0) else ([], (b : Int), 2)) := by
  induction r with
  | nil a =>
    intro acc k hk hc
    obtain ⟨k, rfl⟩ : ∃ j, k = j + 1 := ⟨k - 1, by omega⟩
    rcases e with e | e
    · rw [if_pos e, e, get_end acc s k hs, List.append_nil]
    · rw [if_neg (by have := e.1; omega), get_step acc s a k e.1 hs (by have := e.1; omega), if_neg e.2]
  | cons a b l n hn h t ih =>
    intro acc k hk hc
    obtain ⟨k, rfl⟩ : ∃ j, k = j + 1 := ⟨k - 1, by omega⟩
    rw [get_step acc s a k (by omega) hs (by omega), ← hn, if_pos h]
    rw [List.length_cons] at hk
    rw [ih h e _ k (by omega) (by rw [List.length_append, List.length_singleton]; omega), List.append_assoc]
    rfl
/-- Get of any bytes: the extensions that they are, or where they break off. -/
theorem get_f {s : ByteArray} (hs : s.size ≤ 1000000) {b : Nat} {l : List S48} (r : Runs s 0 l b) (e : b = s.size ∨ Stuck s b) (k : Nat) (hk : l.length < k) : ext_Get.f k s = some (if b = s.size then (l, 0, 0) else ([], (b : Int), 2)) := by
  unfold ext_Get.f cursor_New.f
  rw [Option.bind_some]
  have := get_runs hs r (Nat.zero_le _) e [] k hk (by simp; omega)
  rw [List.nil_append] at this
  exact this

theorem text_at (b : ByteArray) (hs : b.size ≤ 1000000) (a n : Nat) (h : a + n ≤ b.size) : cursor_Text.f b (a : Int) b.size false (n : Int) = some (b.extract a (a + n), b, ((a + n : Nat) : Int), (b.size : Int), false) := by
  rw [text_f b a b.size false n (by omega) (by omega) (by omega) hs, if_pos (has_iff.mpr ⟨rfl, by omega, by omega⟩), show (a : Int).toNat = a by omega, show ((a : Int) + n).toNat = a + n by omega]
  congr 4
theorem num_at (b : ByteArray) (hs : b.size ≤ 1000000) (a n : Nat) (h : a + n ≤ b.size) (h1 : 1 ≤ n) (h7 : n ≤ 7) : cursor_Num.f b (a : Int) b.size false (n : Int) = some (num (bytesOf (b.extract a (a + n))), b, ((a + n : Nat) : Int), (b.size : Int), false) := by
  rw [num_f b a b.size false n (by omega) (by omega) (by omega) hs, if_pos ⟨by omega, by omega, has_iff.mpr ⟨rfl, by omega, by omega⟩⟩, show (a : Int).toNat = a by omega, show ((a : Int) + n).toNat = a + n by omega]
  congr 4

theorem and7_u8 : ∀ x : Fin 256, Go.bits .and .u8 ((x.val : Nat) : Int) 7 = ((x.val % 8 : Nat) : Int) := by decide +kernel
theorem or_u8 : ∀ x : Fin 8, ∀ y : Fin 256, (Go.bits .or .u8 ((x.val : Nat) : Int) ((y.val : Nat) : Int) = 0) ↔ (x.val = 0 ∧ y.val = 0) := by decide +kernel
theorem low_zero (x y : Int) (hx : 0 ≤ x ∧ x ≤ 255) (hy : 0 ≤ y ∧ y ≤ 255) : Go.bits .or .u8 (Go.bits .and .u8 x 7) y = 0 ↔ (x % 8 = 0 ∧ y = 0) := by
  have h1 := and7_u8 ⟨x.toNat, by omega⟩
  have h2 := or_u8 ⟨x.toNat % 8, by omega⟩ ⟨y.toNat, by omega⟩
  dsimp only at h1 h2
  rw [show ((x.toNat : Nat) : Int) = x by omega] at h1
  rw [show ((y.toNat : Nat) : Int) = y by omega] at h2
  rw [h1, h2]
  omega

/-- A message's fields, a place, and an error. -/
abbrev MsgT := Int × Int × Int × ByteArray × Int × Int × ByteArray × Int × Int × ByteArray × Int × ByteArray × Int × Int × Int × Int × Int × Int × Int × ByteArray × ByteArray × (List S46) × Int × ByteArray × (List S48) × Int × Int
def noMsg (at_ e : Int) : MsgT := (0, 0, 0, (⟨#[]⟩ : ByteArray), 0, 0, (⟨#[]⟩ : ByteArray), 0, 0, (⟨#[]⟩ : ByteArray), 0, (⟨#[]⟩ : ByteArray), 0, 0, 0, 0, 0, 0, 0, (⟨#[]⟩ : ByteArray), (⟨#[]⟩ : ByteArray), [], 0, (⟨#[]⟩ : ByteArray), [], at_, e)

def rqRes (b : ByteArray) (l : List S48) (e : Nat) : MsgT :=
  if b.size < 24 then noMsg b.size 2
  else if bt b 1 % 8 = 0 ∧ bt b 2 = 0 then
    if e = (b.extract 24 b.size).size then (3, 0, 0, (⟨#[]⟩ : ByteArray), 0, 0, (⟨#[]⟩ : ByteArray), 0, 0, (⟨#[]⟩ : ByteArray), 0, (⟨#[]⟩ : ByteArray), num (bytesOf (b.extract 12 16)), num (bytesOf (b.extract 20 24)), 0, bt b 1 / 8, bt b 3, num (bytesOf (b.extract 4 8)), 0, b.extract 8 12, b.extract 16 20, [], 0, (⟨#[]⟩ : ByteArray), l, 0, 0)
    else noMsg (24 + (e : Int)) 2
  else noMsg 1 5
theorem rreq_get_f (b : ByteArray) (hs : b.size ≤ 1000000) (l : List S48) (e : Nat) (r : Runs (b.extract 24 b.size) 0 l e) (he : e = (b.extract 24 b.size).size ∨ Stuck (b.extract 24 b.size) e) (k : Nat) (hk : l.length < k) : rreq_Get.f k b = some (rqRes b l e) := by
  unfold rreq_Get.f rqRes
  by_cases c1 : b.size < 24
  · rw [if_pos (by omega), if_pos c1]; rfl
  rw [if_neg (by omega), if_pos (by omega), if_pos (by omega), if_neg c1]
  have r1 := bt_range b 1
  have r2 := bt_range b 2
  have r3 := bt_range b 3
  have hz := low_zero (bt b 1) (bt b 2) r1 r2
  by_cases c2 : bt b 1 % 8 = 0 ∧ bt b 2 = 0
  · have z : (b.extract 24 b.size).size = b.size - 24 := by rw [size_ext]; omega
    have hle := (runs_le r).2 (by omega)
    rw [if_pos (hz.mpr c2), if_pos c2, if_pos (by omega), get_f (by omega) r he k hk, Option.bind_some]
    by_cases c3 : e = (b.extract 24 b.size).size
    · rw [if_pos c3, if_pos c3]
      dsimp only
      have t1 : cursor_Text.f b 0 b.size false 4 = some (b.extract 0 4, b, 4, (b.size : Int), false) := text_at b hs 0 4 (by omega)
      have n1 : cursor_Num.f b 4 b.size false 4 = some (num (bytesOf (b.extract 4 8)), b, 8, (b.size : Int), false) := num_at b hs 4 4 (by omega) (by omega) (by omega)
      have t2 : cursor_Text.f b 8 b.size false 4 = some (b.extract 8 12, b, 12, (b.size : Int), false) := text_at b hs 8 4 (by omega)
      have n2 : cursor_Num.f b 12 b.size false 4 = some (num (bytesOf (b.extract 12 16)), b, 16, (b.size : Int), false) := num_at b hs 12 4 (by omega) (by omega) (by omega)
      have t3 : cursor_Text.f b 16 b.size false 4 = some (b.extract 16 20, b, 20, (b.size : Int), false) := text_at b hs 16 4 (by omega)
      have n3 : cursor_Num.f b 20 b.size false 4 = some (num (bytesOf (b.extract 20 24)), b, 24, (b.size : Int), false) := num_at b hs 20 4 (by omega) (by omega) (by omega)
      unfold cursor_New.f
      rw [if_pos rfl, if_pos (by omega), Option.bind_some]
      dsimp only
      rw [t1, Option.bind_some]
      dsimp only
      rw [n1, Option.bind_some]
      dsimp only
      rw [t2, Option.bind_some]
      dsimp only
      rw [n2, Option.bind_some]
      dsimp only
      rw [t3, Option.bind_some]
      dsimp only
      rw [n3, Option.bind_some]
      dsimp only
      rw [wrap64_id (x := bt b 1 / 8) (by omega) (by omega), wrap64_id (x := bt b 3) (by omega) (by omega)]
    · rw [if_neg c3, if_neg c3]
      dsimp only
      rw [if_neg (by decide), wrap64_id (by omega) (by omega), Int.add_comm]
      rfl
  · rw [if_neg (fun h => c2 (hz.mp h)), if_neg c2]; rfl

theorem rreq_refget_f (b : ByteArray) (hs : b.size ≤ 1000000) (l : List S48) (e : Nat) (r : Runs (b.extract 24 b.size) 0 l e) (he : e = (b.extract 24 b.size).size ∨ Stuck (b.extract 24 b.size) e) (k : Nat) (hk : l.length + 20 < k) : roadbookref14_Get.f k b = some (rqRes b l e) := by
  obtain ⟨k, rfl⟩ : ∃ j, k = j + 1 := ⟨k - 1, by omega⟩
  have bad : roadbookref14_Get.j0 (k + 1) b true = some (noMsg 1 5) := by
    simp only [roadbookref14_Get.j0, if_true]; rfl
  unfold roadbookref14_Get.f rqRes
  by_cases c1 : b.size < 24
  · rw [if_pos (by omega), if_pos c1]; rfl
  rw [if_neg (by omega), if_pos (by omega), if_neg c1, bad]
  have r1 := bt_range b 1
  have r2 := bt_range b 2
  have r3 := bt_range b 3
  rw [Int.tmod_eq_emod_of_nonneg r1.1]
  by_cases c2 : bt b 1 % 8 = 0
  · rw [if_pos c2, if_pos (by omega)]
    by_cases c3 : bt b 2 = 0
    · have z : (b.extract 24 b.size).size = b.size - 24 := by rw [size_ext]; omega
      have hle := (runs_le r).2 (by omega)
      rw [if_pos ⟨c2, c3⟩, c3, bne_self_eq_false]
      simp only [roadbookref14_Get.j0, Bool.false_eq_true, if_false]
      rw [if_pos (by omega), refget_f (by omega) r he k (by omega), Option.bind_some]
      by_cases c4 : e = (b.extract 24 b.size).size
      · rw [if_pos c4, if_pos c4]
        dsimp only
        rw [if_pos rfl, if_pos (by omega), if_pos (by omega), if_pos (by omega), if_pos (by omega), refNumber_f (b.extract 4 8) (by rw [size_ext]; omega) k (by omega), Option.bind_some, if_pos (by omega), if_pos (by omega), if_pos (by omega), if_pos (by omega), refNumber_f (b.extract 12 16) (by rw [size_ext]; omega) k (by omega), Option.bind_some, if_pos (by omega), if_pos (by omega), if_pos (by omega), refNumber_f (b.extract 20 24) (by rw [size_ext]; omega) k (by omega), Option.bind_some]
        rw [wrap64_id (x := bt b 1) (by omega) (by omega), wrap64_id (x := bt b 3) (by omega) (by omega), Int.tdiv_eq_ediv_of_nonneg r1.1, wrap64_id (by omega) (by omega)]
      · rw [if_neg c4, if_neg c4]
        dsimp only
        rw [if_neg (by decide), wrap64_id (by omega) (by omega)]
        rfl
    · rw [if_neg (fun h => c3 h.2), bne_iff_ne.mpr c3, bad]
  · rw [if_neg c2, if_neg (fun h => c2 h.1)]

theorem and63_u8 : ∀ x : Fin 256, Go.bits .and .u8 ((x.val : Nat) : Int) 63 = ((x.val % 64 : Nat) : Int) := by decide +kernel
theorem and224_u8 : ∀ x : Fin 256, Go.bits .and .u8 ((x.val : Nat) : Int) 224 = ((x.val / 32 * 32 : Nat) : Int) := by decide +kernel
theorem or64_u8 : ∀ x : Fin 64, ∀ y : Fin 8, (Go.bits .or .u8 ((x.val : Nat) : Int) ((y.val * 32 : Nat) : Int) = 0) ↔ (x.val = 0 ∧ y.val = 0) := by decide +kernel
theorem low_zero6 (x y : Int) (hx : 0 ≤ x ∧ x ≤ 255) (hy : 0 ≤ y ∧ y ≤ 255) : Go.bits .or .u8 (Go.bits .and .u8 x 63) (Go.bits .and .u8 y 224) = 0 ↔ (x % 64 = 0 ∧ y < 32) := by
  have h1 := and63_u8 ⟨x.toNat, by omega⟩
  have h2 := and224_u8 ⟨y.toNat, by omega⟩
  have h3 := or64_u8 ⟨x.toNat % 64, by omega⟩ ⟨y.toNat / 32, by omega⟩
  dsimp only at h1 h2 h3
  rw [show ((x.toNat : Nat) : Int) = x by omega] at h1
  rw [show ((y.toNat : Nat) : Int) = y by omega] at h2
  rw [h1, h2, h3]
  omega

theorem list_ne {b : ByteArray} (h : 0 < b.size) : b.toList ≠ ([] : List UInt8) := by
  intro e
  rw [ByteArray.toList_eq] at e
  have z : b.data.toList.length = 0 := by rw [e]; rfl
  rw [Array.length_toList] at z
  have : b.data.size = b.size := rfl
  omega
def akRes (b : ByteArray) (l : List S48) (e : Nat) : MsgT :=
  if b.size < 2 then noMsg b.size 2
  else if bt b 1 = 0 then
    if e = (b.extract 2 b.size).size then (6, 0, 0, (⟨#[]⟩ : ByteArray), 0, 0, (⟨#[]⟩ : ByteArray), 0, 0, (⟨#[]⟩ : ByteArray), 0, (⟨#[]⟩ : ByteArray), 0, 0, 0, 0, 0, 0, 0, (⟨#[]⟩ : ByteArray), (⟨#[]⟩ : ByteArray), [], 0, (⟨#[]⟩ : ByteArray), l, 0, 0)
    else noMsg (2 + (e : Int)) 2
  else noMsg 1 5
def rpRes (b : ByteArray) (l : List S48) (e : Nat) : MsgT :=
  if b.size < 20 then noMsg b.size 2
  else if bt b 1 % 64 = 0 ∧ bt b 2 < 32 then
    if e = (b.extract 20 b.size).size then (4, 0, 0, (⟨#[]⟩ : ByteArray), 0, 0, (⟨#[]⟩ : ByteArray), (bt b 2), 0, (⟨#[]⟩ : ByteArray), 0, (⟨#[]⟩ : ByteArray), (num (bytesOf (b.extract 8 12))), 0, (num (bytesOf (b.extract 16 20))), (bt b 1 / 64), (bt b 3), 0, 0, (b.extract 4 8), (b.extract 12 16), [], 0, (⟨#[]⟩ : ByteArray), l, 0, 0)
    else noMsg (20 + (e : Int)) 2
  else noMsg 1 5
theorem rrep_ack_f (b : ByteArray) (hs : b.size ≤ 1000000) (l : List S48) (e : Nat) (r : Runs (b.extract 2 b.size) 0 l e) (he : e = (b.extract 2 b.size).size ∨ Stuck (b.extract 2 b.size) e) (k : Nat) (hk : l.length < k) : rrep_ack.f k b = some (akRes b l e) := by
  unfold rrep_ack.f akRes
  by_cases c1 : b.size < 2
  · rw [if_pos (by omega), if_pos c1]; rfl
  rw [if_neg (by omega), if_pos (by omega), if_neg c1]
  by_cases c2 : bt b 1 = 0
  · have z : (b.extract 2 b.size).size = b.size - 2 := by rw [size_ext]; omega
    have hle := (runs_le r).2 (by omega)
    rw [if_pos c2, if_pos c2, if_pos (by omega), get_f (by omega) r he k hk, Option.bind_some]
    by_cases c3 : e = (b.extract 2 b.size).size
    · rw [if_pos c3, if_pos c3]
      dsimp only
      rw [if_pos rfl]
    · rw [if_neg c3, if_neg c3]
      dsimp only
      rw [if_neg (by decide), wrap64_id (by omega) (by omega), Int.add_comm]
      rfl
  · rw [if_neg c2, if_neg c2]; rfl
theorem rrep_get4_f (b : ByteArray) (hs : b.size ≤ 1000000) (hp : 0 < b.size) (h4 : bt b 0 = 4) (l : List S48) (e : Nat) (r : Runs (b.extract 2 b.size) 0 l e) (he : e = (b.extract 2 b.size).size ∨ Stuck (b.extract 2 b.size) e) (k : Nat) (hk : l.length + 2 < k) : rrep_Get.f k b = some (akRes b l e) := by
  obtain ⟨k, rfl⟩ : ∃ j, k = j + 1 := ⟨k - 1, by omega⟩
  unfold rrep_Get.f
  rw [if_neg (list_ne hp), if_pos (by omega), h4, show ((4 : Int) == 4) = true from rfl]
  simp only [rrep_Get.j0, if_true]
  rw [rrep_ack_f b hs l e r he k (by omega), Option.bind_some]
theorem rrep_get2_f (b : ByteArray) (hs : b.size ≤ 1000000) (hp : 0 < b.size) (h4 : bt b 0 ≠ 4) (l : List S48) (e : Nat) (r : Runs (b.extract 20 b.size) 0 l e) (he : e = (b.extract 20 b.size).size ∨ Stuck (b.extract 20 b.size) e) (k : Nat) (hk : l.length + 2 < k) : rrep_Get.f k b = some (rpRes b l e) := by
  obtain ⟨k, rfl⟩ : ∃ j, k = j + 1 := ⟨k - 1, by omega⟩
  unfold rrep_Get.f
  rw [if_neg (list_ne hp), if_pos (by omega), beq_eq_false_iff_ne.mpr h4]
  simp only [rrep_Get.j0, Bool.false_eq_true, if_false]
  unfold rpRes
  by_cases c1 : b.size < 20
  · rw [if_pos (by omega), if_pos c1]; rfl
  rw [if_neg (by omega), if_pos (by omega), if_pos (by omega), if_neg c1]
  have r1 := bt_range b 1
  have r2 := bt_range b 2
  have r3 := bt_range b 3
  have hz := low_zero6 (bt b 1) (bt b 2) r1 r2
  by_cases c2 : bt b 1 % 64 = 0 ∧ bt b 2 < 32
  · have z : (b.extract 20 b.size).size = b.size - 20 := by rw [size_ext]; omega
    have hle := (runs_le r).2 (by omega)
    rw [if_pos (hz.mpr c2), if_pos c2, if_pos (by omega), get_f (by omega) r he k (by omega), Option.bind_some]
    by_cases c3 : e = (b.extract 20 b.size).size
    · rw [if_pos c3, if_pos c3]
      dsimp only
      have t1 : cursor_Text.f b 0 b.size false 4 = some (b.extract 0 4, b, 4, (b.size : Int), false) := text_at b hs 0 4 (by omega)
      have t2 : cursor_Text.f b 4 b.size false 4 = some (b.extract 4 8, b, 8, (b.size : Int), false) := text_at b hs 4 4 (by omega)
      have n1 : cursor_Num.f b 8 b.size false 4 = some (num (bytesOf (b.extract 8 12)), b, 12, (b.size : Int), false) := num_at b hs 8 4 (by omega) (by omega) (by omega)
      have t3 : cursor_Text.f b 12 b.size false 4 = some (b.extract 12 16, b, 16, (b.size : Int), false) := text_at b hs 12 4 (by omega)
      have n2 : cursor_Num.f b 16 b.size false 4 = some (num (bytesOf (b.extract 16 20)), b, 20, (b.size : Int), false) := num_at b hs 16 4 (by omega) (by omega) (by omega)
      unfold cursor_New.f
      rw [if_pos rfl, if_pos (by omega), Option.bind_some]
      dsimp only
      rw [t1, Option.bind_some]
      dsimp only
      rw [t2, Option.bind_some]
      dsimp only
      rw [n1, Option.bind_some]
      dsimp only
      rw [t3, Option.bind_some]
      dsimp only
      rw [n2, Option.bind_some]
      dsimp only
      rw [wrap64_id (x := bt b 1 / 64) (by omega) (by omega), wrap64_id (x := bt b 2) (by omega) (by omega), wrap64_id (x := bt b 3) (by omega) (by omega)]
    · rw [if_neg c3, if_neg c3]
      dsimp only
      rw [if_neg (by decide), wrap64_id (by omega) (by omega), Int.add_comm]
      rfl
  · rw [if_neg (fun h => c2 (hz.mp h)), if_neg c2]; rfl

theorem rrep_refget4_f (b : ByteArray) (hs : b.size ≤ 1000000) (hp : 0 < b.size) (h4 : bt b 0 = 4) (l : List S48) (e : Nat) (r : Runs (b.extract 2 b.size) 0 l e) (he : e = (b.extract 2 b.size).size ∨ Stuck (b.extract 2 b.size) e) (k : Nat) (hk : l.length + 20 < k) : roadbookref15_Get.f k b = some (akRes b l e) := by
  obtain ⟨k, rfl⟩ : ∃ j, k = j + 3 := ⟨k - 3, by omega⟩
  have bad : roadbookref15_Get.j2 (k + 1) b 2 true = some (noMsg 1 5) := by
    simp only [roadbookref15_Get.j2, if_true]; rfl
  unfold roadbookref15_Get.f akRes
  rw [if_pos (by omega), if_pos (by omega), h4, show ((4 : Int) == 4) = true from rfl]
  simp only [roadbookref15_Get.j0, if_true]
  rw [roadbookref15_Get.j1]
  by_cases c1 : b.size < 2
  · rw [if_pos (by omega), if_pos c1]; rfl
  rw [if_neg (by omega), if_pos rfl, if_pos (by omega), if_neg c1, if_neg (show ¬ ((2 : Int) = 20) by decide), bad]
  by_cases c2 : bt b 1 = 0
  · have z : (b.extract 2 b.size).size = b.size - 2 := by rw [size_ext]; omega
    have hle := (runs_le r).2 (by omega)
    rw [if_pos c2, if_pos c2]
    simp only [roadbookref15_Get.j2, Bool.false_eq_true, if_false, if_true]
    rw [if_pos (by omega), if_pos (by omega), show ((2 : Int)).toNat = 2 from rfl, refget_f (by omega) r he k (by omega), Option.bind_some]
    by_cases c3 : e = (b.extract 2 b.size).size
    · rw [if_pos c3, if_pos c3]
      dsimp only
      rw [if_pos rfl]
    · rw [if_neg c3, if_neg c3]
      dsimp only
      rw [if_neg (by decide), wrap64_id (by omega) (by omega)]
      rfl
  · rw [if_neg c2, if_neg c2]
theorem rrep_refget2_f (b : ByteArray) (hs : b.size ≤ 1000000) (hp : 0 < b.size) (h4 : bt b 0 ≠ 4) (l : List S48) (e : Nat) (r : Runs (b.extract 20 b.size) 0 l e) (he : e = (b.extract 20 b.size).size ∨ Stuck (b.extract 20 b.size) e) (k : Nat) (hk : l.length + 20 < k) : roadbookref15_Get.f k b = some (rpRes b l e) := by
  obtain ⟨k, rfl⟩ : ∃ j, k = j + 3 := ⟨k - 3, by omega⟩
  have bad : roadbookref15_Get.j2 (k + 1) b 20 true = some (noMsg 1 5) := by
    simp only [roadbookref15_Get.j2, if_true]; rfl
  unfold roadbookref15_Get.f rpRes
  rw [if_pos (by omega), if_pos (by omega), beq_eq_false_iff_ne.mpr h4]
  simp only [roadbookref15_Get.j0, Bool.false_eq_true, if_false]
  rw [roadbookref15_Get.j1]
  have r1 := bt_range b 1
  have r2 := bt_range b 2
  have r3 := bt_range b 3
  by_cases c1 : b.size < 20
  · rw [if_pos (by omega), if_pos c1]; rfl
  rw [if_neg (by omega), if_neg (show ¬ ((20 : Int) = 2) by decide), if_pos rfl, if_pos (show (1 : Int) < b.size by omega), if_neg c1, bad, Int.tmod_eq_emod_of_nonneg r1.1]
  by_cases c2 : bt b 1 % 64 = 0
  · rw [if_pos c2, if_pos (show (2 : Int) < b.size by omega)]
    by_cases c3 : bt b 2 < 32
    · have z : (b.extract 20 b.size).size = b.size - 20 := by rw [size_ext]; omega
      have hle := (runs_le r).2 (by omega)
      rw [if_pos ⟨c2, c3⟩, decide_eq_false (by omega)]
      simp only [roadbookref15_Get.j2, Bool.false_eq_true, if_false]
      rw [if_pos (by omega), if_pos (by omega), show ((20 : Int)).toNat = 20 from rfl, refget_f (by omega) r he k (by omega), Option.bind_some]
      by_cases c4 : e = (b.extract 20 b.size).size
      · rw [if_pos c4, if_pos c4]
        dsimp only
        rw [if_pos rfl, if_neg (show ¬ ((20 : Int) = 2) by decide), if_pos (by omega), if_pos (by omega), if_pos (by omega), if_pos (by omega), if_pos (by omega), if_pos (by omega), if_pos (by omega), refNumber_f (b.extract 8 12) (by rw [size_ext]; omega) k (by omega), Option.bind_some, if_pos (by omega), if_pos (by omega), if_pos (by omega), if_pos (by omega), refNumber_f (b.extract 16 20) (by rw [size_ext]; omega) k (by omega), Option.bind_some]
        rw [wrap64_id (x := bt b 1) (by omega) (by omega), wrap64_id (x := bt b 2) (by omega) (by omega), wrap64_id (x := bt b 3) (by omega) (by omega), Int.tdiv_eq_ediv_of_nonneg r1.1, wrap64_id (by omega) (by omega)]
      · rw [if_neg c4, if_neg c4]
        dsimp only
        rw [if_neg (by decide), wrap64_id (by omega) (by omega)]
        rfl
    · rw [if_neg (fun h => c3 h.2), decide_eq_true (by omega), bad]
  · rw [if_neg c2, if_neg (fun h => c2 h.1)]

theorem and127_u8 : ∀ x : Fin 256, Go.bits .and .u8 ((x.val : Nat) : Int) 127 = ((x.val % 128 : Nat) : Int) := by decide +kernel
theorem or127_u8 : ∀ x : Fin 128, ∀ y : Fin 256, (Go.bits .or .u8 ((x.val : Nat) : Int) ((y.val : Nat) : Int) = 0) ↔ (x.val = 0 ∧ y.val = 0) := by decide +kernel
theorem low_zero7 (x y : Int) (hx : 0 ≤ x ∧ x ≤ 255) (hy : 0 ≤ y ∧ y ≤ 255) : Go.bits .or .u8 (Go.bits .and .u8 x 127) y = 0 ↔ (x % 128 = 0 ∧ y = 0) := by
  have h1 := and127_u8 ⟨x.toNat, by omega⟩
  have h2 := or127_u8 ⟨x.toNat % 128, by omega⟩ ⟨y.toNat, by omega⟩
  dsimp only at h1 h2
  rw [show ((x.toNat : Nat) : Int) = x by omega] at h1
  rw [show ((y.toNat : Nat) : Int) = y by omega] at h2
  rw [h1, h2]
  omega

/-- So many destinations that stand from a place on. -/
def dlist (b : ByteArray) (p : Nat) : Nat → List S46
  | 0 => []
  | m + 1 => ⟨b.extract p (p + 4), num (bytesOf (b.extract (p + 4) (p + 8)))⟩ :: dlist b (p + 8) m
theorem len_dlist (b : ByteArray) (m : Nat) : ∀ p, (dlist b p m).length = m := by
  induction m with
  | zero => intro p; rfl
  | succ m ih => intro p; rw [dlist, List.length_cons, ih]

def reRes (b : ByteArray) (l : List S48) (e : Nat) : MsgT :=
  if b.size < 4 then noMsg b.size 2
  else if bt b 1 % 128 = 0 ∧ bt b 2 = 0 then
    if bt b 3 = 0 then noMsg 3 8
    else if b.size < 4 + 8 * (bt b 3).toNat then noMsg b.size 2
    else if e = (b.extract (4 + 8 * (bt b 3).toNat) b.size).size then (5, 0, 0, (⟨#[]⟩ : ByteArray), 0, 0, (⟨#[]⟩ : ByteArray), 0, 0, (⟨#[]⟩ : ByteArray), 0, (⟨#[]⟩ : ByteArray), 0, 0, 0, (bt b 1 / 128), 0, 0, 0, (⟨#[]⟩ : ByteArray), (⟨#[]⟩ : ByteArray), (dlist b 4 (bt b 3).toNat), 0, (⟨#[]⟩ : ByteArray), l, 0, 0)
    else noMsg (((4 + 8 * (bt b 3).toNat : Nat) : Int) + (e : Int)) 2
  else noMsg 1 5
theorem text_bad (b : ByteArray) (hs : b.size ≤ 1000000) (a : Nat) (h : a ≤ b.size) (n : Int) : cursor_Text.f b (a : Int) b.size true n = some ((⟨#[]⟩ : ByteArray), b, (a : Int), (b.size : Int), true) := by
  rw [text_f b a b.size true n (by omega) (by omega) (by omega) hs, if_neg (fun h => by have := (has_iff.mp h).1; cases this)]
theorem num_bad (b : ByteArray) (hs : b.size ≤ 1000000) (a : Nat) (h : a ≤ b.size) (n : Int) : cursor_Num.f b (a : Int) b.size true n = some (0, b, (a : Int), (b.size : Int), true) := by
  rw [num_f b a b.size true n (by omega) (by omega) (by omega) hs, if_neg (fun h => by have := (has_iff.mp h.2.2).1; cases this)]
theorem text_short (b : ByteArray) (hs : b.size ≤ 1000000) (a n : Nat) (h : a ≤ b.size) (hn : b.size < a + n) : cursor_Text.f b (a : Int) b.size false (n : Int) = some ((⟨#[]⟩ : ByteArray), b, (a : Int), (b.size : Int), true) := by
  rw [text_f b a b.size false n (by omega) (by omega) (by omega) hs, if_neg (fun h => by have := (has_iff.mp h).2; omega)]
theorem num_short (b : ByteArray) (hs : b.size ≤ 1000000) (a n : Nat) (h : a ≤ b.size) (hn : b.size < a + n) : cursor_Num.f b (a : Int) b.size false (n : Int) = some (0, b, (a : Int), (b.size : Int), true) := by
  rw [num_f b a b.size false n (by omega) (by omega) (by omega) hs, if_neg (fun h => by have := (has_iff.mp h.2.2).2; omega)]
theorem rerr_bad (b : ByteArray) (hs : b.size ≤ 1000000) (n : Nat) (hn : n ≤ 1000) (fl : Int) (a : Nat) (ha : a ≤ b.size) (m : Nat) : ∀ (k i : Nat) (acc : List S46), m < k → n - i = m → i ≤ n → acc.length = i →
    rerr_Get.l0 k b n i 5 0 0 (⟨#[]⟩ : ByteArray) 0 0 (⟨#[]⟩ : ByteArray) 0 0 (⟨#[]⟩ : ByteArray) 0 (⟨#[]⟩ : ByteArray) 0 0 0 fl 0 0 0 (⟨#[]⟩ : ByteArray) (⟨#[]⟩ : ByteArray) acc 0 (⟨#[]⟩ : ByteArray) b (a : Int) b.size true = some (noMsg b.size 2) := by
  induction m with
  | zero =>
    intro k i acc hk hm hi hc
    obtain ⟨k, rfl⟩ : ∃ j, k = j + 1 := ⟨k - 1, by omega⟩
    rw [rerr_Get.l0]
    rw [if_neg (by omega), if_pos rfl]
    rfl
  | succ m ih =>
    intro k i acc hk hm hi hc
    obtain ⟨k, rfl⟩ : ∃ j, k = j + 1 := ⟨k - 1, by omega⟩
    rw [rerr_Get.l0]
    rw [if_pos (by omega), text_bad b hs a ha, Option.bind_some]
    dsimp only
    rw [num_bad b hs a ha, Option.bind_some]
    dsimp only
    rw [if_pos (by omega), wrap64_id (x := (i : Int) + 1) (by omega) (by omega), show ((i : Int) + 1) = ((i + 1 : Nat) : Int) by omega]
    exact ih k (i + 1) _ (by omega) (by omega) (by omega) (by rw [List.length_append]; simp; omega)
theorem rerr_good (b : ByteArray) (hs : b.size ≤ 1000000) (n : Nat) (hn : n ≤ 1000) (fl : Int) (l : List S48) (e q : Nat) (r : Runs (b.extract q b.size) 0 l e) (he : e = (b.extract q b.size).size ∨ Stuck (b.extract q b.size) e) (m : Nat) : ∀ (k i p : Nat) (acc : List S46), m + l.length + 1 < k → n - i = m → i ≤ n → acc.length = i → p ≤ b.size → q = p + 8 * m →
    rerr_Get.l0 k b n i 5 0 0 (⟨#[]⟩ : ByteArray) 0 0 (⟨#[]⟩ : ByteArray) 0 0 (⟨#[]⟩ : ByteArray) 0 (⟨#[]⟩ : ByteArray) 0 0 0 fl 0 0 0 (⟨#[]⟩ : ByteArray) (⟨#[]⟩ : ByteArray) acc 0 (⟨#[]⟩ : ByteArray) b (p : Int) b.size false = some (if b.size < q then noMsg b.size 2 else if e = (b.extract q b.size).size then (5, 0, 0, (⟨#[]⟩ : ByteArray), 0, 0, (⟨#[]⟩ : ByteArray), 0, 0, (⟨#[]⟩ : ByteArray), 0, (⟨#[]⟩ : ByteArray), 0, 0, 0, fl, 0, 0, 0, (⟨#[]⟩ : ByteArray), (⟨#[]⟩ : ByteArray), acc ++ dlist b p m, 0, (⟨#[]⟩ : ByteArray), l, 0, 0) else noMsg ((q : Int) + (e : Int)) 2) := by
  have z : (b.extract q b.size).size = b.size - q := by rw [size_ext]; omega
  have hle := (runs_le r).2 (by omega)
  induction m with
  | zero =>
    intro k i p acc hk hm hi hc hp hq
    obtain ⟨k, rfl⟩ : ∃ j, k = j + 1 := ⟨k - 1, by omega⟩
    have : p = q := by omega
    subst this
    rw [rerr_Get.l0]
    rw [if_neg (by omega), if_neg (by decide), if_pos (by omega), if_pos (by omega), show ((p : Int)).toNat = p by omega, get_f (by omega) r he k (by omega), Option.bind_some, if_neg (show ¬ b.size < p by omega)]
    by_cases c : e = (b.extract p b.size).size
    · rw [if_pos c, if_pos c]
      dsimp only
      rw [if_pos rfl, dlist, List.append_nil]
    · rw [if_neg c, if_neg c]
      dsimp only
      rw [if_neg (by decide), wrap64_id (by omega) (by omega)]
      rfl
  | succ m ih =>
    intro k i p acc hk hm hi hc hp hq
    obtain ⟨k, rfl⟩ : ∃ j, k = j + 1 := ⟨k - 1, by omega⟩
    rw [rerr_Get.l0]
    rw [if_pos (by omega)]
    by_cases c4 : p + 4 ≤ b.size
    · have t1 : cursor_Text.f b p b.size false 4 = some (b.extract p (p + 4), b, ((p + 4 : Nat) : Int), (b.size : Int), false) := text_at b hs p 4 c4
      rw [t1, Option.bind_some]
      dsimp only
      by_cases c8 : p + 8 ≤ b.size
      · have n1 : cursor_Num.f b ((p + 4 : Nat) : Int) b.size false 4 = some (num (bytesOf (b.extract (p + 4) (p + 8))), b, ((p + 8 : Nat) : Int), (b.size : Int), false) := num_at b hs (p + 4) 4 (by omega) (by omega) (by omega)
        rw [n1, Option.bind_some]
        dsimp only
        rw [if_pos (by omega), wrap64_id (x := (i : Int) + 1) (by omega) (by omega), show ((i : Int) + 1) = ((i + 1 : Nat) : Int) by omega]
        have := ih k (i + 1) (p + 8) (acc ++ [⟨b.extract p (p + 4), num (bytesOf (b.extract (p + 4) (p + 8)))⟩]) (by omega) (by omega) (by omega) (by rw [List.length_append]; simp; omega) c8 (by omega)
        rw [this, dlist, List.append_assoc]
        rfl
      · have n1 : cursor_Num.f b ((p + 4 : Nat) : Int) b.size false 4 = some (0, b, ((p + 4 : Nat) : Int), (b.size : Int), true) := num_short b hs (p + 4) 4 (by omega) (by omega)
        rw [n1, Option.bind_some]
        dsimp only
        rw [if_pos (by omega), wrap64_id (x := (i : Int) + 1) (by omega) (by omega), show ((i : Int) + 1) = ((i + 1 : Nat) : Int) by omega, if_pos (by omega)]
        exact rerr_bad b hs n hn fl (p + 4) c4 m k (i + 1) _ (by omega) (by omega) (by omega) (by rw [List.length_append]; simp; omega)
    · have t1 : cursor_Text.f b p b.size false 4 = some ((⟨#[]⟩ : ByteArray), b, (p : Int), (b.size : Int), true) := text_short b hs p 4 hp (by omega)
      rw [t1, Option.bind_some]
      dsimp only
      rw [num_bad b hs p hp, Option.bind_some]
      dsimp only
      rw [if_pos (by omega), wrap64_id (x := (i : Int) + 1) (by omega) (by omega), show ((i : Int) + 1) = ((i + 1 : Nat) : Int) by omega, if_pos (by omega)]
      exact rerr_bad b hs n hn fl p hp m k (i + 1) _ (by omega) (by omega) (by omega) (by rw [List.length_append]; simp; omega)
theorem rerr_get_f (b : ByteArray) (hs : b.size ≤ 1000000) (l : List S48) (e : Nat) (r : Runs (b.extract (4 + 8 * (bt b 3).toNat) b.size) 0 l e) (he : e = (b.extract (4 + 8 * (bt b 3).toNat) b.size).size ∨ Stuck (b.extract (4 + 8 * (bt b 3).toNat) b.size) e) (k : Nat) (hk : 255 + l.length + 2 < k) : rerr_Get.f k b = some (reRes b l e) := by
  unfold rerr_Get.f reRes
  by_cases c1 : b.size < 4
  · rw [if_pos (by omega), if_pos c1]; rfl
  rw [if_neg (by omega), if_pos (by omega), if_pos (by omega), if_neg c1]
  have r1 := bt_range b 1
  have r2 := bt_range b 2
  have r3 := bt_range b 3
  have hz := low_zero7 (bt b 1) (bt b 2) r1 r2
  by_cases c2 : bt b 1 % 128 = 0 ∧ bt b 2 = 0
  · rw [if_pos (hz.mpr c2), if_pos c2, if_pos (by omega)]
    by_cases c3 : bt b 3 = 0
    · rw [if_pos c3, if_pos c3]; rfl
    rw [if_neg c3, if_neg c3]
    have t1 : cursor_Text.f b 0 b.size false 4 = some (b.extract 0 4, b, 4, (b.size : Int), false) := text_at b hs 0 4 (by omega)
    unfold cursor_New.f
    rw [Option.bind_some]
    dsimp only
    rw [t1, Option.bind_some]
    dsimp only
    rw [wrap64_id (x := bt b 3) (by omega) (by omega), wrap64_id (x := bt b 1 / 128) (by omega) (by omega)]
    have := rerr_good b hs (bt b 3).toNat (by omega) (bt b 1 / 128) l e _ r he (bt b 3).toNat k 0 4 [] (by omega) (by omega) (by omega) rfl (by omega) rfl
    rw [show (((bt b 3).toNat : Nat) : Int) = bt b 3 by omega, List.nil_append] at this
    exact this
  · rw [if_neg (fun h => c2 (hz.mp h)), if_neg c2]; rfl

theorem rerr_ref_good (b : ByteArray) (hs : b.size ≤ 1000000) (n : Nat) (hn : n ≤ 1000) (fl : Int) (l : List S48) (e : Nat) (hb : 4 + 8 * n ≤ b.size) (r : Runs (b.extract (4 + 8 * n) b.size) 0 l e) (he : e = (b.extract (4 + 8 * n) b.size).size ∨ Stuck (b.extract (4 + 8 * n) b.size) e) (m : Nat) : ∀ (k i : Nat) (acc : List S46), m + l.length + 20 < k → n - i = m → i ≤ n → acc.length = i →
    roadbookref16_Get.l0 k b n i 5 0 0 (⟨#[]⟩ : ByteArray) 0 0 (⟨#[]⟩ : ByteArray) 0 0 (⟨#[]⟩ : ByteArray) 0 (⟨#[]⟩ : ByteArray) 0 0 0 fl 0 0 0 (⟨#[]⟩ : ByteArray) (⟨#[]⟩ : ByteArray) acc 0 (⟨#[]⟩ : ByteArray) = some (if e = (b.extract (4 + 8 * n) b.size).size then (5, 0, 0, (⟨#[]⟩ : ByteArray), 0, 0, (⟨#[]⟩ : ByteArray), 0, 0, (⟨#[]⟩ : ByteArray), 0, (⟨#[]⟩ : ByteArray), 0, 0, 0, fl, 0, 0, 0, (⟨#[]⟩ : ByteArray), (⟨#[]⟩ : ByteArray), acc ++ dlist b (4 + 8 * i) m, 0, (⟨#[]⟩ : ByteArray), l, 0, 0) else noMsg (((4 + 8 * n : Nat) : Int) + (e : Int)) 2) := by
  have z : (b.extract (4 + 8 * n) b.size).size = b.size - (4 + 8 * n) := by rw [size_ext]; omega
  have hle := (runs_le r).2 (by omega)
  induction m with
  | zero =>
    intro k i acc hk hm hi hc
    obtain ⟨k, rfl⟩ : ∃ j, k = j + 1 := ⟨k - 1, by omega⟩
    have hi : i = n := by omega
    subst hi
    rw [roadbookref16_Get.l0]
    rw [if_neg (by omega), wrap64_id (x := 8 * (i : Int)) (by omega) (by omega), wrap64_id (x := 4 + 8 * (i : Int)) (by omega) (by omega), if_pos (by omega), if_pos (by omega), show (4 + 8 * (i : Int)).toNat = 4 + 8 * i by omega, refget_f (by omega) r he k (by omega), Option.bind_some]
    by_cases c : e = (b.extract (4 + 8 * i) b.size).size
    · rw [if_pos c, if_pos c]
      dsimp only
      rw [if_pos rfl, dlist, List.append_nil]
    · rw [if_neg c, if_neg c]
      dsimp only
      rw [if_neg (by decide), wrap64_id (by omega) (by omega), show (4 + 8 * (i : Int)) = ((4 + 8 * i : Nat) : Int) by omega]
      rfl
  | succ m ih =>
    intro k i acc hk hm hi hc
    obtain ⟨k, rfl⟩ : ∃ j, k = j + 1 := ⟨k - 1, by omega⟩
    rw [roadbookref16_Get.l0]
    rw [if_pos (by omega), wrap64_id (x := 8 * (i : Int)) (by omega) (by omega), wrap64_id (x := 4 + 8 * (i : Int)) (by omega) (by omega), wrap64_id (x := 8 + 8 * (i : Int)) (by omega) (by omega), wrap64_id (x := 12 + 8 * (i : Int)) (by omega) (by omega), if_pos (by omega), if_pos (by omega), if_pos (by omega), if_pos (by omega), if_pos (by omega), if_pos (by omega),
      show (4 + 8 * (i : Int)).toNat = 4 + 8 * i by omega, show (8 + 8 * (i : Int)).toNat = 4 + 8 * i + 4 by omega, show (12 + 8 * (i : Int)).toNat = 4 + 8 * i + 8 by omega, refNumber_f _ (by rw [size_ext]; omega) k (by omega), Option.bind_some, if_pos (by omega), wrap64_id (x := (i : Int) + 1) (by omega) (by omega), show ((i : Int) + 1) = ((i + 1 : Nat) : Int) by omega]
    have := ih k (i + 1) (acc ++ [⟨b.extract (4 + 8 * i) (4 + 8 * i + 4), num (bytesOf (b.extract (4 + 8 * i + 4) (4 + 8 * i + 8)))⟩]) (by omega) (by omega) (by omega) (by rw [List.length_append]; simp; omega)
    rw [this, dlist, List.append_assoc, show 4 + 8 * (i + 1) = 4 + 8 * i + 8 by omega]
    rfl
theorem rerr_refget_f (b : ByteArray) (hs : b.size ≤ 1000000) (l : List S48) (e : Nat) (r : Runs (b.extract (4 + 8 * (bt b 3).toNat) b.size) 0 l e) (he : e = (b.extract (4 + 8 * (bt b 3).toNat) b.size).size ∨ Stuck (b.extract (4 + 8 * (bt b 3).toNat) b.size) e) (k : Nat) (hk : 255 + l.length + 30 < k) : roadbookref16_Get.f k b = some (reRes b l e) := by
  obtain ⟨k, rfl⟩ : ∃ j, k = j + 1 := ⟨k - 1, by omega⟩
  have bad : roadbookref16_Get.j0 (k + 1) b true = some (noMsg 1 5) := by
    simp only [roadbookref16_Get.j0, if_true]; rfl
  unfold roadbookref16_Get.f reRes
  by_cases c1 : b.size < 4
  · rw [if_pos (by omega), if_pos c1]; rfl
  have r1 := bt_range b 1
  have r3 := bt_range b 3
  rw [if_neg (by omega), if_pos (by omega), if_neg c1, bad, Int.tmod_eq_emod_of_nonneg r1.1]
  by_cases c2 : bt b 1 % 128 = 0
  · rw [if_pos c2, if_pos (by omega)]
    by_cases c3 : bt b 2 = 0
    · rw [if_pos ⟨c2, c3⟩, c3, bne_self_eq_false]
      simp only [roadbookref16_Get.j0, Bool.false_eq_true, if_false]
      rw [if_pos (by omega), wrap64_id (x := bt b 3) (by omega) (by omega)]
      by_cases c4 : bt b 3 = 0
      · rw [if_pos c4, if_pos c4]; rfl
      rw [if_neg c4, if_neg c4, wrap64_id (x := 8 * bt b 3) (by omega) (by omega), wrap64_id (x := 4 + 8 * bt b 3) (by omega) (by omega)]
      by_cases c5 : b.size < 4 + 8 * (bt b 3).toNat
      · rw [if_pos (by omega), if_pos c5]; rfl
      rw [if_neg (by omega), if_neg c5, if_pos (by omega), wrap64_id (x := bt b 1) (by omega) (by omega), Int.tdiv_eq_ediv_of_nonneg r1.1, wrap64_id (by omega) (by omega)]
      have := rerr_ref_good b hs (bt b 3).toNat (by omega) (bt b 1 / 128) l e (by omega) r he (bt b 3).toNat k 0 [] (by omega) (by omega) (by omega) rfl
      rw [show (((bt b 3).toNat : Nat) : Int) = bt b 3 by omega, List.nil_append] at this
      exact this
    · rw [if_neg (fun h => c3 h.2), bne_iff_ne.mpr c3, bad]
  · rw [if_neg c2, if_neg (fun h => c2 h.1)]

/-- The program and the reference get the same of any bytes. -/
theorem aget_ex (b : ByteArray) (hb : b.size ≤ 3000) (hp : 0 < b.size) (k : Nat) (hk : 4000 ≤ k) : ∃ R : MsgT, aodv_get.f k b = some R ∧ roadbookref17_get.f k b = some R ∧ R.2.2.2.2.2.2.2.2.2.2.2.2.2.2.2.2.2.2.2.2.2.1.length ≤ 255 ∧ R.2.2.2.2.2.2.2.2.2.2.2.2.2.2.2.2.2.2.2.2.2.2.2.2.1.length ≤ 3000 := by
  have r3 := bt_range b 3
  unfold aodv_get.f roadbookref17_get.f
  have hp' : 0 < (b.size : Int) := by omega
  rw [if_pos hp', if_pos hp']
  by_cases c1 : bt b 0 = 1
  · rw [if_pos c1, if_pos c1]
    obtain ⟨l, e, r, hle, he⟩ := runs_ex (b.extract 24 b.size) (b.extract 24 b.size).size 0 (by omega) (by omega)
    have hl := (runs_le r).1
    have z : (b.extract 24 b.size).size ≤ 3000 := by rw [size_ext]; omega
    rw [rreq_get_f b (by omega) l e r he k (by omega), rreq_refget_f b (by omega) l e r he k (by omega), Option.bind_some]
    have hh : (rqRes b l e).2.2.2.2.2.2.2.2.2.2.2.2.2.2.2.2.2.2.2.2.2.1.length ≤ 255 ∧ (rqRes b l e).2.2.2.2.2.2.2.2.2.2.2.2.2.2.2.2.2.2.2.2.2.2.2.2.1.length ≤ 3000 := by
      unfold rqRes; split
      · exact ⟨Nat.zero_le _, Nat.zero_le _⟩
      split
      · split
        · refine ⟨Nat.zero_le _, ?_⟩
          dsimp only; omega
        · exact ⟨Nat.zero_le _, Nat.zero_le _⟩
      · exact ⟨Nat.zero_le _, Nat.zero_le _⟩
    exact ⟨rqRes b l e, rfl, rfl, hh⟩
  rw [if_neg c1, if_neg c1]
  by_cases c3 : bt b 0 = 3
  · rw [if_pos c3, if_pos c3]
    obtain ⟨l, e, r, hle, he⟩ := runs_ex (b.extract (4 + 8 * (bt b 3).toNat) b.size) (b.extract (4 + 8 * (bt b 3).toNat) b.size).size 0 (by omega) (by omega)
    have hl := (runs_le r).1
    have z : (b.extract (4 + 8 * (bt b 3).toNat) b.size).size ≤ 3000 := by rw [size_ext]; omega
    rw [rerr_get_f b (by omega) l e r he k (by omega), rerr_refget_f b (by omega) l e r he k (by omega), Option.bind_some]
    have hh : (reRes b l e).2.2.2.2.2.2.2.2.2.2.2.2.2.2.2.2.2.2.2.2.2.1.length ≤ 255 ∧ (reRes b l e).2.2.2.2.2.2.2.2.2.2.2.2.2.2.2.2.2.2.2.2.2.2.2.2.1.length ≤ 3000 := by
      unfold reRes; split
      · exact ⟨Nat.zero_le _, Nat.zero_le _⟩
      split
      · split
        · exact ⟨Nat.zero_le _, Nat.zero_le _⟩
        split
        · exact ⟨Nat.zero_le _, Nat.zero_le _⟩
        split
        · refine ⟨?_, ?_⟩
          · dsimp only; rw [len_dlist]; omega
          · dsimp only; omega
        · exact ⟨Nat.zero_le _, Nat.zero_le _⟩
      · exact ⟨Nat.zero_le _, Nat.zero_le _⟩
    exact ⟨reRes b l e, rfl, rfl, hh⟩
  rw [if_neg c3, if_neg c3]
  by_cases h4 : bt b 0 = 4
  · skip
    obtain ⟨l, e, r, hle, he⟩ := runs_ex (b.extract 2 b.size) (b.extract 2 b.size).size 0 (by omega) (by omega)
    have hl := (runs_le r).1
    have z : (b.extract 2 b.size).size ≤ 3000 := by rw [size_ext]; omega
    rw [rrep_get4_f b (by omega) hp h4 l e r he k (by omega), rrep_refget4_f b (by omega) hp h4 l e r he k (by omega), Option.bind_some]
    have hh : (akRes b l e).2.2.2.2.2.2.2.2.2.2.2.2.2.2.2.2.2.2.2.2.2.1.length ≤ 255 ∧ (akRes b l e).2.2.2.2.2.2.2.2.2.2.2.2.2.2.2.2.2.2.2.2.2.2.2.2.1.length ≤ 3000 := by
      unfold akRes; split
      · exact ⟨Nat.zero_le _, Nat.zero_le _⟩
      split
      · split
        · refine ⟨Nat.zero_le _, ?_⟩
          dsimp only; omega
        · exact ⟨Nat.zero_le _, Nat.zero_le _⟩
      · exact ⟨Nat.zero_le _, Nat.zero_le _⟩
    exact ⟨akRes b l e, rfl, rfl, hh⟩
  · skip
    obtain ⟨l, e, r, hle, he⟩ := runs_ex (b.extract 20 b.size) (b.extract 20 b.size).size 0 (by omega) (by omega)
    have hl := (runs_le r).1
    have z : (b.extract 20 b.size).size ≤ 3000 := by rw [size_ext]; omega
    rw [rrep_get2_f b (by omega) hp h4 l e r he k (by omega), rrep_refget2_f b (by omega) hp h4 l e r he k (by omega), Option.bind_some]
    have hh : (rpRes b l e).2.2.2.2.2.2.2.2.2.2.2.2.2.2.2.2.2.2.2.2.2.1.length ≤ 255 ∧ (rpRes b l e).2.2.2.2.2.2.2.2.2.2.2.2.2.2.2.2.2.2.2.2.2.2.2.2.1.length ≤ 3000 := by
      unfold rpRes; split
      · exact ⟨Nat.zero_le _, Nat.zero_le _⟩
      split
      · split
        · refine ⟨Nat.zero_le _, ?_⟩
          dsimp only; omega
        · exact ⟨Nat.zero_le _, Nat.zero_le _⟩
      · exact ⟨Nat.zero_le _, Nat.zero_le _⟩
    exact ⟨rpRes b l e, rfl, rfl, hh⟩

theorem aparse_ex (b : ByteArray) (hb : b.size ≤ 3000) (k : Nat) (hk : 4100 ≤ k) : ∃ X : List S25 × Int × Int, aodv_Parse.f k b = some X ∧ roadbookref17_Parse.f k b = some X ∧ (X.1 = [] ∨ ∃ x, X.1 = [x] ∧ x.f21.length ≤ 255 ∧ x.f24.length ≤ 3000) := by
  obtain ⟨k, rfl⟩ : ∃ j, k = j + 1 := ⟨k - 1, by omega⟩
  unfold aodv_Parse.f roadbookref17_Parse.f
  have hbig : ¬ (b.size : Int) > 65535 := by omega
  rw [if_neg hbig, if_neg hbig]
  by_cases c0 : (b.size : Int) = 0
  · rw [if_pos c0, if_pos c0]; exact ⟨_, rfl, rfl, .inl rfl⟩
  have hp' : 0 < (b.size : Int) := by omega
  rw [if_neg c0, if_neg c0, if_pos hp', if_pos hp']
  have no : aodv_Parse.j0 (k + 1) b true = some ([], 0, 4) := by simp only [aodv_Parse.j0, if_true]
  have no' : roadbookref17_Parse.j0 (k + 1) b true = some ([], 0, 4) := by simp only [roadbookref17_Parse.j0, if_true]
  rw [no, no']
  by_cases c1 : bt b 0 < 1
  · rw [if_pos c1, if_pos c1]; exact ⟨_, rfl, rfl, .inl rfl⟩
  rw [if_neg c1, if_neg c1]
  by_cases c2 : bt b 0 > 4
  · rw [decide_eq_true c2, no, no']; exact ⟨_, rfl, rfl, .inl rfl⟩
  rw [decide_eq_false c2]
  obtain ⟨R, e1, e2, h1, h2⟩ := aget_ex b hb (by omega) k (by omega)
  simp only [aodv_Parse.j0, roadbookref17_Parse.j0, Bool.false_eq_true, if_false]
  rw [e1, e2, Option.bind_some]
  by_cases c3 : R.2.2.2.2.2.2.2.2.2.2.2.2.2.2.2.2.2.2.2.2.2.2.2.2.2.2 = 0
  · rw [if_pos c3]; exact ⟨_, rfl, rfl, .inr ⟨_, rfl, h1, h2⟩⟩
  · rw [if_neg c3]; exact ⟨_, rfl, rfl, .inl rfl⟩

theorem AodvParses : roadbooklaw17_AodvParses.Pure := by
  intro b hb
  refine ⟨5000, ?_⟩
  unfold roadbooklaw17_AodvParses.f
  rw [aoawake_f 5000 (by omega)]
  by_cases c1 : (b.size : Int) > 3000
  · rw [if_pos c1]; rfl
  rw [if_neg c1]
  obtain ⟨X, e1, e2, h⟩ := aparse_ex b (by omega) 5000 (by omega)
  rw [e1, e2, Option.bind_some, Option.bind_some, Option.bind_some, if_pos rfl]
  rcases h with h | ⟨x, h, h1, h2⟩
  · rw [h, sameall_nil 5000 (by omega), Option.bind_some, if_pos rfl, if_pos rfl, beq_self_eq_true]
  · rw [h, sameall_one x (by omega) h2 5000 (by omega), Option.bind_some, if_pos rfl, if_pos rfl, beq_self_eq_true]

end Go.Proofs.Ytccjakjjaemmkaa.Pure
