/-
Whatever is taken, at most 60 times, of a cursor over a text of at most 300 bytes: it stays within its end, never goes back, and once it is bad it stays as it is.
-/
import Derived.Test.YtelcciekdoccfaaPCursorStaysx
import Derived.Test.YtelcciekdoccfaaBase
import Derived.Test.YtelcciekdoccfaaConv
namespace Go.Proofs.Ytelcciekdoccfaa.Pure
open Go.RowKit Go.Proofs.Ytelcciekdoccfaa.PCursorStays Go.Proofs.YtelcciekdoccfaaW.PrintWords Go.Proofs.YtelcciekdoccfaaW.PrintLast Go.Proofs.YtelcciekdoccfaaW.PrintMore Go.Proofs.Ytelcciekdoccfaa.Base
set_option linter.unusedVariables false
set_option linter.unusedSimpArgs false

/-- Are there so many bytes ahead of a cursor's end? -/
def has (a e : Int) (b : Bool) (n : Int) : Bool := !b && decide (0 ≤ n ∧ n ≤ e - a)
theorem has_iff {a e : Int} {b : Bool} {n : Int} : has a e b n = true ↔ (b = false ∧ 0 ≤ n ∧ n ≤ e - a) := by simp [has]
theorem step_f (s : ByteArray) (a e : Int) (b : Bool) (n : Int) (h0 : 0 ≤ a) (h1 : a ≤ e) (h2 : e ≤ 1000000) :
    cursor_step.f s a e b n = some (if has a e b n = true then (s, a + n, e, b, true) else (s, a, e, true, false)) := by
  unfold cursor_step.f
  rw [wrap64_id (x := e - a) (by omega) (by omega)]
  cases b with
  | true => simp [has]
  | false =>
    rw [if_neg (by decide)]
    by_cases c : n < 0
    · rw [if_pos c, if_neg (by rw [has_iff]; omega)]
    · rw [if_neg c]
      by_cases d : n > e - a
      · rw [if_pos d, if_neg (by rw [has_iff]; omega)]
      · rw [if_neg d, if_pos (has_iff.mpr ⟨rfl, by omega, by omega⟩), wrap64_id (by omega) (by omega)]
theorem text_f (s : ByteArray) (a e : Int) (b : Bool) (n : Int) (h0 : 0 ≤ a) (h1 : a ≤ e) (h2 : e ≤ s.size) (hs : s.size ≤ 1000000) :
    cursor_Text.f s a e b n = some (if has a e b n = true then (s.extract a.toNat (a + n).toNat, s, a + n, e, b) else ((⟨#[]⟩ : ByteArray), s, a, e, true)) := by
  unfold cursor_Text.f
  rw [step_f s a e b n h0 h1 (by omega), Option.bind_some]
  by_cases c : has a e b n = true
  · have c' := has_iff.mp c
    rw [if_pos c, if_pos c]
    dsimp only
    rw [if_pos rfl, if_pos h0, if_pos (by omega), if_pos (by omega)]
  · rw [if_neg c, if_neg c]
    dsimp only
    rw [if_neg (by decide)]

/-- The lowest so many bytes of a number, the highest first. -/
def dig : Nat → Int → List Int
  | 0, _ => []
  | s + 1, n => dig s (n / 256) ++ [n % 256]
theorem dig_length (s : Nat) (n : Int) : (dig s n).length = s := by
  induction s generalizing n with
  | zero => rfl
  | succ s ih => simp [dig, ih]
theorem dig_range (s : Nat) (n : Int) : ∀ x ∈ dig s n, 0 ≤ x ∧ x ≤ 255 := by
  induction s generalizing n with
  | zero => intro x hx; cases hx
  | succ s ih =>
    intro x hx
    simp only [dig, List.mem_append, List.mem_singleton] at hx
    rcases hx with hx | rfl
    · exact ih _ x hx
    · omega
def octFits (n size : Int) : Bool := decide (1 ≤ size ∧ size ≤ 7 ∧ 0 ≤ n ∧ n < 256 ^ size.toNat)
def octPut (n size : Int) : ByteArray × Bool := if octFits n size = true then (strOfNums (dig size.toNat n), true) else (⟨#[]⟩, false)
theorem octFits_iff {n size : Int} : octFits n size = true ↔ (1 ≤ size ∧ size ≤ 7 ∧ 0 ≤ n ∧ n < 256 ^ size.toNat) := by simp [octFits]

theorem div_eq_zero_iff {n : Int} {m : Nat} (h : 0 ≤ n) (hm : 0 < (2 : Int) ^ m) : (n / 2 ^ m = 0) ↔ n < 2 ^ m := by
  constructor
  · intro e
    have := Int.lt_mul_ediv_self_add (x := n) (k := 2 ^ m) hm
    rw [e] at this; omega
  · intro e; exact Int.ediv_eq_zero_of_lt h e

theorem pow_le7 (m : Nat) (h : m ≤ 7) : (256 : Int) ^ m ≤ 72057594037927936 := by
  have : m = 0 ∨ m = 1 ∨ m = 2 ∨ m = 3 ∨ m = 4 ∨ m = 5 ∨ m = 6 ∨ m = 7 := by omega
  rcases this with rfl | rfl | rfl | rfl | rfl | rfl | rfl | rfl <;> decide

/-- The number that bytes make, the highest first. -/
def num (l : List Int) : Int := l.foldl (fun a b => a * 256 + b) 0
theorem num_nil : num [] = 0 := rfl
theorem num_snoc (l : List Int) (x : Int) : num (l ++ [x]) = num l * 256 + x := by simp [num, List.foldl_append]
theorem num_take (l : List Int) (i : Nat) (h : i < l.length) : num (l.take (i + 1)) = num (l.take i) * 256 + l.getD i 0 := by
  rw [List.take_succ_eq_append_getElem h, num_snoc, List.getD_eq_getElem?_getD, List.getElem?_eq_getElem h]; rfl
theorem num_foldl (l : List Int) (a : Int) : l.foldl (fun a b => a * 256 + b) a = a * 256 ^ l.length + num l := by
  induction l generalizing a with
  | nil => simp [num]
  | cons x l ih =>
    have e : num (x :: l) = List.foldl (fun a b => a * 256 + b) x l := by simp [num]
    rw [e, ih x]
    simp only [List.foldl_cons, List.length_cons]
    rw [ih (a * 256 + x), Int.pow_succ, Int.add_mul, Int.mul_assoc, Int.mul_comm 256, Int.add_assoc]
theorem num_cons (x : Int) (l : List Int) : num (x :: l) = x * 256 ^ l.length + num l := by
  have e : num (x :: l) = List.foldl (fun a b => a * 256 + b) x l := by simp [num]
  rw [e, num_foldl]
theorem num_range (l : List Int) (h : ∀ x ∈ l, 0 ≤ x ∧ x ≤ 255) : 0 ≤ num l ∧ num l < 256 ^ l.length := by
  induction l with
  | nil => simp [num]
  | cons x l ih =>
    have hx := h x (by simp)
    obtain ⟨h0, h1⟩ := ih fun y hy => h y (by simp [hy])
    rw [num_cons, List.length_cons, Int.pow_succ]
    have hp : (0 : Int) < 256 ^ l.length := Int.pow_pos (by decide)
    have e1 : 0 ≤ x * 256 ^ l.length := Int.mul_nonneg hx.1 (by omega)
    have e2 : x * 256 ^ l.length ≤ 255 * 256 ^ l.length := Int.mul_le_mul_of_nonneg_right hx.2 (by omega)
    omega
theorem num_dig (s : Nat) : ∀ n : Int, 0 ≤ n → n < 256 ^ s → num (dig s n) = n := by
  induction s with
  | zero => intro n h0 h1; simp at h1; simp [dig, num]; omega
  | succ s ih =>
    intro n h0 h1
    rw [dig, num_snoc, ih (n / 256) (by omega) (by rw [Int.pow_succ] at h1; omega)]
    omega
theorem dig_num (l : List Int) (h : ∀ x ∈ l, 0 ≤ x ∧ x ≤ 255) : dig l.length (num l) = l := by
  generalize hs : l.length = s
  induction s generalizing l with
  | zero => rw [List.eq_nil_of_length_eq_zero hs]; rfl
  | succ s ih =>
    have hne : l ≠ [] := fun c => by rw [c] at hs; cases hs
    obtain ⟨a, x, rfl⟩ : ∃ a x, l = a ++ [x] := ⟨_, _, (List.dropLast_concat_getLast hne).symm⟩
    rw [List.length_append, List.length_singleton] at hs
    have hx := h x (by simp)
    rw [dig, num_snoc, show (num a * 256 + x) / 256 = num a by omega, show (num a * 256 + x) % 256 = x by omega, ih a (fun y hy => h y (by simp [hy])) (by omega)]

theorem u8_lt {x y : Int} (hx : 0 ≤ x ∧ x ≤ 255) (hy : 0 ≤ y ∧ y ≤ 255) : (UInt8.ofNat x.toNat < UInt8.ofNat y.toNat) ↔ x < y := by
  rw [UInt8.lt_iff_toNat_lt, UInt8.toNat_ofNat', UInt8.toNat_ofNat']; omega
theorem u8_eq {x y : Int} (hx : 0 ≤ x ∧ x ≤ 255) (hy : 0 ≤ y ∧ y ≤ 255) : (UInt8.ofNat x.toNat = UInt8.ofNat y.toNat) ↔ x = y := by
  rw [← UInt8.toNat_inj, UInt8.toNat_ofNat', UInt8.toNat_ofNat']; omega
/-- Of two texts of one length the lesser is the one whose number is less. -/
theorem less_num (a b : List Int) (ha : ∀ x ∈ a, 0 ≤ x ∧ x ≤ 255) (hb : ∀ x ∈ b, 0 ≤ x ∧ x ≤ 255) (hl : a.length = b.length) :
    Op.bytesLess (strOfNums a).toList (strOfNums b).toList = decide (num a < num b) := by
  rw [ByteArray.toList_eq, ByteArray.toList_eq, data_nums, data_nums]
  induction a generalizing b with
  | nil =>
    cases b with
    | nil => rfl
    | cons y b => cases hl
  | cons x a ih =>
    cases b with
    | nil => cases hl
    | cons y b =>
      have hl' : a.length = b.length := by simpa using hl
      have hx := ha x (by simp)
      have hy := hb y (by simp)
      have ha' : ∀ z ∈ a, 0 ≤ z ∧ z ≤ 255 := fun z hz => ha z (by simp [hz])
      have hb' : ∀ z ∈ b, 0 ≤ z ∧ z ≤ 255 := fun z hz => hb z (by simp [hz])
      simp only [List.map_cons, Op.bytesLess, ih b ha' hb' hl']
      obtain ⟨r0, r1⟩ := num_range a ha'
      obtain ⟨q0, q1⟩ := num_range b hb'
      rw [num_cons, num_cons, hl'] at *
      have hp : (0 : Int) < 256 ^ b.length := Int.pow_pos (by decide)
      rw [Bool.eq_iff_iff]
      simp only [Bool.or_eq_true, Bool.and_eq_true, decide_eq_true_eq, beq_iff_eq, u8_lt hx hy, u8_eq hx hy]
      constructor
      · rintro (h | ⟨rfl, h⟩)
        · have : (x + 1) * 256 ^ b.length ≤ y * 256 ^ b.length := Int.mul_le_mul_of_nonneg_right (by omega) (by omega)
          rw [Int.add_mul] at this; omega
        · omega
      · intro h
        rcases Int.lt_trichotomy x y with c | c | c
        · exact .inl c
        · subst c; exact .inr ⟨rfl, by omega⟩
        · have : (y + 1) * 256 ^ b.length ≤ x * 256 ^ b.length := Int.mul_le_mul_of_nonneg_right (by omega) (by omega)
          rw [Int.add_mul] at this; omega

theorem num_fold (s : ByteArray) : Go.Proofs.Ytelcciekdoccfaa.Pre.numOf s = num (bytesOf s) := by
  unfold Go.Proofs.Ytelcciekdoccfaa.Pre.numOf num
  rfl
theorem num_f (s : ByteArray) (a e : Int) (b : Bool) (n : Int) (h0 : 0 ≤ a) (h1 : a ≤ e) (h2 : e ≤ s.size) (hs : s.size ≤ 1000000) :
    cursor_Num.f s a e b n = some (if 1 ≤ n ∧ n ≤ 7 ∧ has a e b n = true then (num (bytesOf (s.extract a.toNat (a + n).toNat)), s, a + n, e, b) else (0, s, a, e, true)) := by
  unfold cursor_Num.f
  by_cases c : n < 1 ∨ 7 < n
  · rw [if_pos c, if_neg (by omega)]
  · rw [if_neg c, step_f s a e b n h0 h1 (by omega), Option.bind_some]
    by_cases d : has a e b n = true
    · have d' := has_iff.mp d
      rw [if_pos d]
      dsimp only
      rw [if_pos rfl, if_pos (by omega), num_fold, if_pos ⟨by omega, by omega, d⟩]
    · rw [if_neg d]
      dsimp only
      rw [if_neg (by decide), if_neg (fun h => d h.2.2)]

theorem carve_f (s : ByteArray) (a e : Int) (b : Bool) (n : Int) (h0 : 0 ≤ a) (h1 : a ≤ e) (h2 : e ≤ 1000000) :
    cursor_Carve.f s a e b n = some (if has a e b n = true then (s, a, a + n, b, s, a + n, e, b) else ((⟨#[]⟩ : ByteArray), 0, 0, false, s, a, e, true)) := by
  unfold cursor_Carve.f
  rw [step_f s a e b n h0 h1 h2, Option.bind_some]
  by_cases c : has a e b n = true
  · rw [if_pos c, if_pos c]; rfl
  · rw [if_neg c, if_neg c]; rfl

theorem awake_f : roadbooklaw01_awake.f = some true := by decide +kernel
theorem right_f (s : ByteArray) (a e : Int) (b : Bool) (h0 : 0 ≤ a) (h1 : a ≤ e) (h2 : e ≤ s.size) : cursor_Right.f s a e b = some true := by
  unfold cursor_Right.f
  rw [if_pos h0, if_pos h1, decide_eq_true h2]
/-- A cursor that went on, or is bad where it was, is found in order. -/
theorem stays_j3 (l : List Int) (i : Int) (s : ByteArray) (a e : Int) (b : Bool) (a' : Int) (b' : Bool) (k : Nat) (h0 : 0 ≤ a) (h1 : a ≤ a') (h2 : a' ≤ e) (h3 : e ≤ s.size) (hb : b = true → a' = a ∧ b' = true) (hb' : b' = true → a' = a) :
    roadbooklaw01_CursorStays.j3 (k + 2) l i s a e b s a' e b' = roadbooklaw01_CursorStays.l0 k l (wrap64 (i + 1)) s a' e b' := by
  have j4 : roadbooklaw01_CursorStays.j4 (k + 1) l i false s a' e b' = roadbooklaw01_CursorStays.l0 k l (wrap64 (i + 1)) s a' e b' := by
    simp only [roadbooklaw01_CursorStays.j4, Bool.false_eq_true, if_false]
  simp only [roadbooklaw01_CursorStays.j3]
  rw [right_f s a' e b' (by omega) h2 h3, Option.bind_some, if_pos rfl, if_neg (by omega), if_pos trivial]
  have tail : (if b' = true then (roadbooklaw01_CursorStays.j4 (k + 1) l i (a' != a) s a' e b') else (roadbooklaw01_CursorStays.j4 (k + 1) l i false s a' e b')) = roadbooklaw01_CursorStays.l0 k l (wrap64 (i + 1)) s a' e b' := by
    by_cases c : b' = true
    · rw [if_pos c, bne_eq_false_iff_eq.mpr (hb' c), j4]
    · rw [if_neg c, j4]
  by_cases c : b = true
  · obtain ⟨e1, e2⟩ := hb c
    rw [if_pos c, if_neg (by rw [e1, e2, c]; simp)]
    exact tail
  · rw [if_neg c]; exact tail
theorem stays_l (l : List Int) (hl : l.length ≤ 60) (s : ByteArray) (e : Int) (he : e ≤ s.size) (hs : s.size ≤ 300) (m : Nat) : ∀ (k i : Nat) (a : Int) (b : Bool), 4 * m + 1 ≤ k → l.length - i = m → 0 ≤ a → a ≤ e →
    roadbooklaw01_CursorStays.l0 k l i s a e b = some true := by
  induction m with
  | zero =>
    intro k i a b hk hm h0 h1
    obtain ⟨k, rfl⟩ : ∃ j, k = j + 1 := ⟨k - 1, by omega⟩
    simp only [roadbooklaw01_CursorStays.l0]
    rw [if_neg (by omega), awake_f]
    rfl
  | succ m ih =>
    intro k i a b hk hm h0 h1
    obtain ⟨k, rfl⟩ : ∃ j, k = j + 4 := ⟨k - 4, by omega⟩
    have ih' : ∀ a b, 0 ≤ a → a ≤ e → roadbooklaw01_CursorStays.l0 k l (wrap64 ((i : Int) + 1)) s a e b = some true := by
      intro a b g0 g1
      rw [wrap64_id (by omega) (by omega)]
      exact ih k (i + 1) a b (by omega) (by omega) g0 g1
    have ih2 : ∀ a b, 0 ≤ a → a ≤ e → roadbooklaw01_CursorStays.l0 (k + 1) l (wrap64 ((i : Int) + 1)) s a e b = some true := by
      intro a b g0 g1
      rw [wrap64_id (by omega) (by omega)]
      exact ih (k + 1) (i + 1) a b (by omega) (by omega) g0 g1
    simp only [roadbooklaw01_CursorStays.l0]
    generalize wrap64 (rd l (i : Int)) = n
    rw [if_pos (by omega)]
    have good : has a e b n = true → roadbooklaw01_CursorStays.j3 (k + 3) l i s a e b s (a + n) e b = some true := by
      intro c
      have c' := has_iff.mp c
      rw [stays_j3 l i s a e b (a + n) b (k + 1) h0 (by omega) (by omega) he (by rw [c'.1]; simp) (by rw [c'.1]; simp)]
      exact ih2 _ _ (by omega) (by omega)
    have bad : roadbooklaw01_CursorStays.j3 (k + 3) l i s a e b s a e true = some true := by
      rw [stays_j3 l i s a e b a true (k + 1) h0 (by omega) h1 he (fun _ => ⟨rfl, rfl⟩) (fun _ => rfl)]
      exact ih2 _ _ h0 h1
    have good2 : has a e b n = true → roadbooklaw01_CursorStays.j3 (k + 2) l i s a e b s (a + n) e b = some true := by
      intro c
      have c' := has_iff.mp c
      rw [stays_j3 l i s a e b (a + n) b k h0 (by omega) (by omega) he (by rw [c'.1]; simp) (by rw [c'.1]; simp)]
      exact ih' _ _ (by omega) (by omega)
    have bad2 : roadbooklaw01_CursorStays.j3 (k + 2) l i s a e b s a e true = some true := by
      rw [stays_j3 l i s a e b a true k h0 (by omega) h1 he (fun _ => ⟨rfl, rfl⟩) (fun _ => rfl)]
      exact ih' _ _ h0 h1
    by_cases q0 : Int.tmod i 3 = 0
    · rw [if_pos q0, if_pos (by omega), num_f s a e b n h0 h1 he (by omega), Option.bind_some]
      by_cases c : 1 ≤ n ∧ n ≤ 7 ∧ has a e b n = true
      · rw [if_pos c]; dsimp only; exact good c.2.2
      · rw [if_neg c]; dsimp only; exact bad
    · rw [if_neg q0]
      by_cases q1 : Int.tmod i 3 = 1
      · rw [if_pos q1, if_pos (by omega), text_f s a e b n h0 h1 he (by omega), Option.bind_some]
        by_cases c : has a e b n = true
        · rw [if_pos c]; dsimp only; exact good c
        · rw [if_neg c]; dsimp only; exact bad
      · rw [if_neg q1, if_pos (by omega), carve_f s a e b n h0 h1 (by omega), Option.bind_some]
        by_cases c : has a e b n = true
        · have c' := has_iff.mp c
          rw [if_pos c]
          dsimp only
          rw [if_neg (by rw [c'.1]; decide), if_pos rfl, if_pos rfl]
          unfold cursor_Left.f
          rw [if_neg (by rw [c'.1]; decide), Option.bind_some, wrap64_id (by omega) (by omega), show a + n - a = n by omega, bne_self_eq_false]
          simp only [roadbooklaw01_CursorStays.j2, Bool.false_eq_true, if_false]
          exact good2 c
        · rw [if_neg c]
          dsimp only
          rw [if_pos rfl]
          simp only [roadbooklaw01_CursorStays.j2, Bool.false_eq_true, if_false]
          exact bad2
theorem CursorStays : roadbooklaw01_CursorStays.Pure := by
  intro s l hg hl _ _
  refine ⟨400, ?_⟩
  unfold roadbooklaw01_CursorStays.f
  by_cases c : (s.size : Int) > 300
  · rw [if_pos c]
    simp only [roadbooklaw01_CursorStays.j0, if_true]
    rw [awake_f]; rfl
  · rw [if_neg c]
    by_cases d : (l.length : Int) > 60
    · rw [decide_eq_true d]
      simp only [roadbooklaw01_CursorStays.j0, if_true]
      rw [awake_f]; rfl
    · rw [decide_eq_false d]
      simp only [roadbooklaw01_CursorStays.j0, Bool.false_eq_true, if_false]
      unfold cursor_New.f
      rw [Option.bind_some]
      dsimp only
      exact stays_l l (by omega) s s.size (by omega) (by omega) l.length 399 0 0 false (by omega) (by omega) (by omega) (by omega)

end Go.Proofs.Ytelcciekdoccfaa.Pure
