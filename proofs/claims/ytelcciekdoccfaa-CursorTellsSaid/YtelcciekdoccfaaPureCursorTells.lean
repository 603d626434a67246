/-
Whether a cursor may be, what is left and what is taken of one that may be are the document's.
-/
import Derived.Test.YtelcciekdoccfaaQCursorTells
import Derived.Test.YtelcciekdoccfaaBase
import Derived.Test.YtelcciekdoccfaaConv
namespace Go.Proofs.Ytelcciekdoccfaa.Pure
open Go.RowKit Go.Proofs.Ytelcciekdoccfaa.PCursorTells Go.Proofs.YtelcciekdoccfaaW.PrintWords Go.Proofs.YtelcciekdoccfaaW.PrintLast Go.Proofs.YtelcciekdoccfaaW.PrintMore Go.Proofs.Ytelcciekdoccfaa.Base
set_option linter.unusedVariables false
set_option linter.unusedSimpArgs false

/-- Are there so many bytes ahead of a cursor's end? -/
def has (a e : Int) (b : Bool) (n : Int) : Bool := !b && decide (0 ≤ n ∧ n ≤ e - a)
theorem has_iff {a e : Int} {b : Bool} {n : Int} : has a e b n = true ↔ (b = false ∧ 0 ≤ n ∧ n ≤ e - a) := by simp [has]
theorem step_f (s : ByteArray) (a e : Int) (b : Bool) (n : Int) (h0 : 0 ≤ a) (h1 : a ≤ e) (h2 : e ≤ 1000000) :
    cursor_step.f s a e b n = some (if has a e b n = true then (s, a + n, e, b, true) else (s, a, e, true, false)) := by
  unfold cursor_step.f
  rw [wrap64_id (x := e - a) (by omega) (by omega)]
  cases b with
  | true => simp [has]
  | false =>
    rw [if_neg (by decide)]
    by_cases c : n < 0
    · rw [if_pos c, if_neg (by rw [has_iff]; omega)]
    · rw [if_neg c]
      by_cases d : n > e - a
      · rw [if_pos d, if_neg (by rw [has_iff]; omega)]
      · rw [if_neg d, if_pos (has_iff.mpr ⟨rfl, by omega, by omega⟩), wrap64_id (by omega) (by omega)]
theorem text_f (s : ByteArray) (a e : Int) (b : Bool) (n : Int) (h0 : 0 ≤ a) (h1 : a ≤ e) (h2 : e ≤ s.size) (hs : s.size ≤ 1000000) :
    cursor_Text.f s a e b n = some (if has a e b n = true then (s.extract a.toNat (a + n).toNat, s, a + n, e, b) else ((⟨#[]⟩ : ByteArray), s, a, e, true)) := by
  unfold cursor_Text.f
  rw [step_f s a e b n h0 h1 (by omega), Option.bind_some]
  by_cases c : has a e b n = true
  · have c' := has_iff.mp c
    rw [if_pos c, if_pos c]
    dsimp only
    rw [if_pos rfl, if_pos h0, if_pos (by omega), if_pos (by omega)]
  · rw [if_neg c, if_neg c]
    dsimp only
    rw [if_neg (by decide)]

/-- The lowest so many bytes of a number, the highest first. -/
def dig : Nat → Int → List Int
  | 0, _ => []
  | s + 1, n => dig s (n / 256) ++ [n % 256]
theorem dig_length (s : Nat) (n : Int) : (dig s n).length = s := by
  induction s generalizing n with
  | zero => rfl
  | succ s ih => simp [dig, ih]
theorem dig_range (s : Nat) (n : Int) : ∀ x ∈ dig s n, 0 ≤ x ∧ x ≤ 255 := by
  induction s generalizing n with
  | zero => intro x hx; cases hx
  | succ s ih =>
    intro x hx
    simp only [dig, List.mem_append, List.mem_singleton] at hx
    rcases hx with hx | rfl
    · exact ih _ x hx
    · omega
def octFits (n size : Int) : Bool := decide (1 ≤ size ∧ size ≤ 7 ∧ 0 ≤ n ∧ n < 256 ^ size.toNat)
def octPut (n size : Int) : ByteArray × Bool := if octFits n size = true then (strOfNums (dig size.toNat n), true) else (⟨#[]⟩, false)
theorem octFits_iff {n size : Int} : octFits n size = true ↔ (1 ≤ size ∧ size ≤ 7 ∧ 0 ≤ n ∧ n < 256 ^ size.toNat) := by simp [octFits]

theorem div_eq_zero_iff {n : Int} {m : Nat} (h : 0 ≤ n) (hm : 0 < (2 : Int) ^ m) : (n / 2 ^ m = 0) ↔ n < 2 ^ m := by
  constructor
  · intro e
    have := Int.lt_mul_ediv_self_add (x := n) (k := 2 ^ m) hm
    rw [e] at this; omega
  · intro e; exact Int.ediv_eq_zero_of_lt h e

theorem pow_le7 (m : Nat) (h : m ≤ 7) : (256 : Int) ^ m ≤ 72057594037927936 := by
  have : m = 0 ∨ m = 1 ∨ m = 2 ∨ m = 3 ∨ m = 4 ∨ m = 5 ∨ m = 6 ∨ m = 7 := by omega
  rcases this with rfl | rfl | rfl | rfl | rfl | rfl | rfl | rfl <;> decide

/-- The number that bytes make, the highest first. -/
def num (l : List Int) : Int := l.foldl (fun a b => a * 256 + b) 0
theorem num_nil : num [] = 0 := rfl
theorem num_snoc (l : List Int) (x : Int) : num (l ++ [x]) = num l * 256 + x := by simp [num, List.foldl_append]
theorem num_take (l : List Int) (i : Nat) (h : i < l.length) : num (l.take (i + 1)) = num (l.take i) * 256 + l.getD i 0 := by
  rw [List.take_succ_eq_append_getElem h, num_snoc, List.getD_eq_getElem?_getD, List.getElem?_eq_getElem h]; rfl
theorem num_foldl (l : List Int) (a : Int) : l.foldl (fun a b => a * 256 + b) a = a * 256 ^ l.length + num l := by
  induction l generalizing a with
  | nil => simp [num]
  | cons x l ih =>
    have e : num (x :: l) = List.foldl (fun a b => a * 256 + b) x l := by simp [num]
    rw [e, ih x]
    simp only [List.foldl_cons, List.length_cons]
    rw [ih (a * 256 + x), Int.pow_succ, Int.add_mul, Int.mul_assoc, Int.mul_comm 256, Int.add_assoc]
theorem num_cons (x : Int) (l : List Int) : num (x :: l) = x * 256 ^ l.length + num l := by
  have e : num (x :: l) = List.foldl (fun a b => a * 256 + b) x l := by simp [num]
  rw [e, num_foldl]
theorem num_range (l : List Int) (h : ∀ x ∈ l, 0 ≤ x ∧ x ≤ 255) : 0 ≤ num l ∧ num l < 256 ^ l.length := by
  induction l with
  | nil => simp [num]
  | cons x l ih =>
    have hx := h x (by simp)
    obtain ⟨h0, h1⟩ := ih fun y hy => h y (by simp [hy])
    rw [num_cons, List.length_cons, Int.pow_succ]
    have hp : (0 : Int) < 256 ^ l.length := Int.pow_pos (by decide)
    have e1 : 0 ≤ x * 256 ^ l.length := Int.mul_nonneg hx.1 (by omega)
    have e2 : x * 256 ^ l.length ≤ 255 * 256 ^ l.length := Int.mul_le_mul_of_nonneg_right hx.2 (by omega)
    omega
theorem num_dig (s : Nat) : ∀ n : Int, 0 ≤ n → n < 256 ^ s → num (dig s n) = n := by
  induction s with
  | zero => intro n h0 h1; simp at h1; simp [dig, num]; omega
  | succ s ih =>
    intro n h0 h1
    rw [dig, num_snoc, ih (n / 256) (by omega) (by rw [Int.pow_succ] at h1; omega)]
    omega
theorem dig_num (l : List Int) (h : ∀ x ∈ l, 0 ≤ x ∧ x ≤ 255) : dig l.length (num l) = l := by
  generalize hs : l.length = s
  induction s generalizing l with
  | zero => rw [List.eq_nil_of_length_eq_zero hs]; rfl
  | succ s ih =>
    have hne : l ≠ [] := fun c => by rw [c] at hs; cases hs
    obtain ⟨a, x, rfl⟩ : ∃ a x, l = a ++ [x] := ⟨_, _, (List.dropLast_concat_getLast hne).symm⟩
    rw [List.length_append, List.length_singleton] at hs
    have hx := h x (by simp)
    rw [dig, num_snoc, show (num a * 256 + x) / 256 = num a by omega, show (num a * 256 + x) % 256 = x by omega, ih a (fun y hy => h y (by simp [hy])) (by omega)]

theorem u8_lt {x y : Int} (hx : 0 ≤ x ∧ x ≤ 255) (hy : 0 ≤ y ∧ y ≤ 255) : (UInt8.ofNat x.toNat < UInt8.ofNat y.toNat) ↔ x < y := by
  rw [UInt8.lt_iff_toNat_lt, UInt8.toNat_ofNat', UInt8.toNat_ofNat']; omega
theorem u8_eq {x y : Int} (hx : 0 ≤ x ∧ x ≤ 255) (hy : 0 ≤ y ∧ y ≤ 255) : (UInt8.ofNat x.toNat = UInt8.ofNat y.toNat) ↔ x = y := by
  rw [← UInt8.toNat_inj, UInt8.toNat_ofNat', UInt8.toNat_ofNat']; omega
/-- Of two texts of one length the lesser is the one whose number is less. -/
theorem less_num (a b : List Int) (ha : ∀ x ∈ a, 0 ≤ x ∧ x ≤ 255) (hb : ∀ x ∈ b, 0 ≤ x ∧ x ≤ 255) (hl : a.length = b.length) :
    Op.bytesLess (strOfNums a).toList (strOfNums b).toList = decide (num a < num b) := by
  rw [ByteArray.toList_eq, ByteArray.toList_eq, data_nums, data_nums]
  induction a generalizing b with
  | nil =>
    cases b with
    | nil => rfl
    | cons y b => cases hl
  | cons x a ih =>
    cases b with
    | nil => cases hl
    | cons y b =>
      have hl' : a.length = b.length := by simpa using hl
      have hx := ha x (by simp)
      have hy := hb y (by simp)
      have ha' : ∀ z ∈ a, 0 ≤ z ∧ z ≤ 255 := fun z hz => ha z (by simp [hz])
      have hb' : ∀ z ∈ b, 0 ≤ z ∧ z ≤ 255 := fun z hz => hb z (by simp [hz])
      simp only [List.map_cons, Op.bytesLess, ih b ha' hb' hl']
      obtain ⟨r0, r1⟩ := num_range a ha'
      obtain ⟨q0, q1⟩ := num_range b hb'
      rw [num_cons, num_cons, hl'] at *
      have hp : (0 : Int) < 256 ^ b.length := Int.pow_pos (by decide)
      rw [Bool.eq_iff_iff]
      simp only [Bool.or_eq_true, Bool.and_eq_true, decide_eq_true_eq, beq_iff_eq, u8_lt hx hy, u8_eq hx hy]
      constructor
      · rintro (h | ⟨rfl, h⟩)
        · have : (x + 1) * 256 ^ b.length ≤ y * 256 ^ b.length := Int.mul_le_mul_of_nonneg_right (by omega) (by omega)
          rw [Int.add_mul] at this; omega
        · omega
      · intro h
        rcases Int.lt_trichotomy x y with c | c | c
        · exact .inl c
        · subst c; exact .inr ⟨rfl, by omega⟩
        · have : (y + 1) * 256 ^ b.length ≤ x * 256 ^ b.length := Int.mul_le_mul_of_nonneg_right (by omega) (by omega)
          rw [Int.add_mul] at this; omega

theorem refHas_f (s : ByteArray) (a e : Int) (b : Bool) (n : Int) (h0 : 0 ≤ a) (h1 : a ≤ e) (h2 : e ≤ 1000000) : roadbookref01_has.f s a e b n = some (has a e b n) := by
  unfold roadbookref01_has.f has
  rw [wrap64_id (x := e - a) (by omega) (by omega)]
  cases b with
  | true => rfl
  | false =>
    rw [if_neg (by decide)]
    by_cases c : n ≥ 0
    · rw [if_pos c]; simp [c]
    · rw [if_neg c]; simp [c]
theorem refText_f (s : ByteArray) (a e : Int) (b : Bool) (n : Int) (h0 : 0 ≤ a) (h1 : a ≤ e) (h2 : e ≤ s.size) (hs : s.size ≤ 1000000) : roadbookref01_Text.f s a e b n = cursor_Text.f s a e b n := by
  rw [text_f s a e b n h0 h1 h2 hs]
  unfold roadbookref01_Text.f roadbookref01_bad.f
  rw [refHas_f s a e b n h0 h1 (by omega), Option.bind_some]
  by_cases c : has a e b n = true
  · have c' := has_iff.mp c
    rw [if_pos c, if_pos c, wrap64_id (by omega) (by omega), if_pos h0, if_pos (by omega), if_pos (by omega)]
  · rw [if_neg c, if_neg c]; rfl
theorem refNum_l (s t : ByteArray) (a e : Int) (b : Bool) (hs : s.size ≤ 7) (m : Nat) : ∀ (k : Nat) (i : Nat), m < k → s.size - i = m → i ≤ s.size →
    roadbookref01_Num.l0 k s (num ((bytesOf s).take i)) i t a e b = some (num (bytesOf s), t, a, e, b) := by
  induction m with
  | zero =>
    intro k i hk hm hi
    obtain ⟨k, rfl⟩ : ∃ j, k = j + 1 := ⟨k - 1, by omega⟩
    simp only [roadbookref01_Num.l0]
    rw [if_neg (by omega), List.take_of_length_le (by rw [len_bytesOf]; omega)]
  | succ m ih =>
    intro k i hk hm hi
    obtain ⟨k, rfl⟩ : ∃ j, k = j + 1 := ⟨k - 1, by omega⟩
    simp only [roadbookref01_Num.l0]
    rw [if_pos (by omega), if_pos (by omega)]
    have hr := num_range ((bytesOf s).take i) (fun x hx => bytesOf_range s x (List.mem_of_mem_take hx))
    rw [List.length_take, len_bytesOf] at hr
    have hp6 : (256 : Int) ^ (min i s.size) ≤ 281474976710656 := by
      have : min i s.size ≤ 6 := by omega
      generalize min i s.size = q at this
      have : q = 0 ∨ q = 1 ∨ q = 2 ∨ q = 3 ∨ q = 4 ∨ q = 5 ∨ q = 6 := by omega
      rcases this with rfl | rfl | rfl | rfl | rfl | rfl | rfl <;> decide
    have hb := bt_range s (i : Int)
    rw [wrap64_id (x := num ((bytesOf s).take i) * 256) (by omega) (by omega), wrap64_id (x := bt s (i : Int)) (by omega) (by omega), wrap64_id (by omega) (by omega), wrap64_id (by omega) (by omega)]
    have := ih k (i + 1) (by omega) (by omega) (by omega)
    rw [num_take _ i (by rw [len_bytesOf]; omega), bytesOf_getD] at this
    exact this
theorem num_fold (s : ByteArray) : Go.Proofs.Ytelcciekdoccfaa.Pre.numOf s = num (bytesOf s) := by
  unfold Go.Proofs.Ytelcciekdoccfaa.Pre.numOf num
  rfl
theorem num_f (s : ByteArray) (a e : Int) (b : Bool) (n : Int) (h0 : 0 ≤ a) (h1 : a ≤ e) (h2 : e ≤ s.size) (hs : s.size ≤ 1000000) :
    cursor_Num.f s a e b n = some (if 1 ≤ n ∧ n ≤ 7 ∧ has a e b n = true then (num (bytesOf (s.extract a.toNat (a + n).toNat)), s, a + n, e, b) else (0, s, a, e, true)) := by
  unfold cursor_Num.f
  by_cases c : n < 1 ∨ 7 < n
  · rw [if_pos c, if_neg (by omega)]
  · rw [if_neg c, step_f s a e b n h0 h1 (by omega), Option.bind_some]
    by_cases d : has a e b n = true
    · have d' := has_iff.mp d
      rw [if_pos d]
      dsimp only
      rw [if_pos rfl, if_pos (by omega), num_fold, if_pos ⟨by omega, by omega, d⟩]
    · rw [if_neg d]
      dsimp only
      rw [if_neg (by decide), if_neg (fun h => d h.2.2)]
theorem refNum_f (s : ByteArray) (a e : Int) (b : Bool) (n : Int) (h0 : 0 ≤ a) (h1 : a ≤ e) (h2 : e ≤ s.size) (hs : s.size ≤ 1000000) (k : Nat) (hk : 20 < k) : roadbookref01_Num.f k s a e b n = cursor_Num.f s a e b n := by
  rw [num_f s a e b n h0 h1 h2 hs]
  obtain ⟨k, rfl⟩ : ∃ j, k = j + 1 := ⟨k - 1, by omega⟩
  unfold roadbookref01_Num.f
  have bad : roadbookref01_Num.j0 (k + 1) n true s a e b = some (0, s, a, e, true) := by
    simp only [roadbookref01_Num.j0, if_true, roadbookref01_bad.f]
    rfl
  by_cases c : n < 1
  · rw [if_pos c, bad, if_neg (by omega)]
  · rw [if_neg c]
    by_cases d : n > 7
    · rw [decide_eq_true d, bad, if_neg (by omega)]
    · rw [decide_eq_false d]
      simp only [roadbookref01_Num.j0, Bool.false_eq_true, if_false]
      rw [refText_f s a e b n h0 h1 h2 hs, text_f s a e b n h0 h1 h2 hs, Option.bind_some]
      by_cases x : has a e b n = true
      · have x' := has_iff.mp x
        rw [if_pos x, if_pos ⟨by omega, by omega, x⟩]
        dsimp only
        have := refNum_l (s.extract a.toNat (a + n).toNat) s (a + n) e b (by rw [size_ext]; omega) (s.extract a.toNat (a + n).toNat).size k 0 (by rw [size_ext]; omega) (by omega) (by omega)
        exact this
      · rw [if_neg x, if_neg (fun h => x h.2.2)]
        dsimp only
        have := refNum_l (⟨#[]⟩ : ByteArray) s a e true (by decide) 0 k 0 (by omega) rfl (by decide)
        exact this
theorem carve_f (s : ByteArray) (a e : Int) (b : Bool) (n : Int) (h0 : 0 ≤ a) (h1 : a ≤ e) (h2 : e ≤ 1000000) :
    cursor_Carve.f s a e b n = some (if has a e b n = true then (s, a, a + n, b, s, a + n, e, b) else ((⟨#[]⟩ : ByteArray), 0, 0, false, s, a, e, true)) := by
  unfold cursor_Carve.f
  rw [step_f s a e b n h0 h1 h2, Option.bind_some]
  by_cases c : has a e b n = true
  · rw [if_pos c, if_pos c]; rfl
  · rw [if_neg c, if_neg c]; rfl
theorem refCarve_f (s : ByteArray) (a e : Int) (b : Bool) (n : Int) (h0 : 0 ≤ a) (h1 : a ≤ e) (h2 : e ≤ 1000000) : roadbookref01_Carve.f s a e b n = cursor_Carve.f s a e b n := by
  rw [carve_f s a e b n h0 h1 h2]
  unfold roadbookref01_Carve.f roadbookref01_bad.f
  rw [refHas_f s a e b n h0 h1 h2, Option.bind_some]
  by_cases c : has a e b n = true
  · have c' := has_iff.mp c
    rw [if_pos c, if_pos c, wrap64_id (by omega) (by omega)]
  · rw [if_neg c, if_neg c]; rfl

theorem awake_f : roadbooklaw01_awake.f = some true := by decide +kernel
theorem CursorTells : roadbooklaw01_CursorTells.Pure := by
  intro s a e b n hg hn
  obtain ⟨hs, ha, he, _⟩ := hg
  have ha := wf_i64 ha; have he := wf_i64 he
  dsimp only at ha he hs
  refine ⟨30, ?_⟩
  unfold roadbooklaw01_CursorTells.f roadbooklaw01_few.f
  rw [Option.bind_some]
  by_cases c : (s.size : Int) ≤ 300
  · rw [decide_eq_true c, if_pos rfl]
    have r1 : cursor_Right.f s a e b = roadbookref01_Right.f s a e b := rfl
    have r2 : roadbookref01_Right.f s a e b = some (decide (0 ≤ a ∧ a ≤ e ∧ e ≤ s.size)) := by
      unfold roadbookref01_Right.f
      by_cases h0 : a ≥ 0
      · rw [if_pos h0]
        by_cases h1 : a ≤ e
        · rw [if_pos h1]; simp [h0, h1]
        · rw [if_neg h1]; simp [h1]
      · rw [if_neg h0]; simp [h0]
    rw [r1, r2, Option.bind_some, Option.bind_some]
    unfold cursor_New.f roadbookref01_New.f
    rw [Option.bind_some, Option.bind_some]
    simp only [bne_self_eq_false, Bool.false_eq_true, if_false, beq_self_eq_true, Bool.not_true, Bool.or_self]
    simp only [roadbooklaw01_CursorTells.j0, Bool.false_eq_true, if_false]
    rw [r2, Option.bind_some]
    by_cases d : 0 ≤ a ∧ a ≤ e ∧ e ≤ s.size
    · obtain ⟨d0, d1, d2⟩ := d
      rw [decide_eq_true (And.intro d0 (And.intro d1 d2)), if_pos rfl, awake_f]
      rw [refNum_f s a e b n d0 d1 d2 (by omega) 29 (by omega), refText_f s a e b n d0 d1 d2 (by omega), refCarve_f s a e b n d0 d1 (by omega)]
      obtain ⟨x, hx⟩ : ∃ x, cursor_Num.f s a e b n = some x := ⟨_, num_f s a e b n d0 d1 d2 (by omega)⟩
      obtain ⟨y, hy⟩ : ∃ x, cursor_Text.f s a e b n = some x := ⟨_, text_f s a e b n d0 d1 d2 (by omega)⟩
      obtain ⟨z, hz⟩ : ∃ x, cursor_Carve.f s a e b n = some x := ⟨_, carve_f s a e b n d0 d1 (by omega)⟩
      obtain ⟨l, hl⟩ : ∃ x, cursor_Left.f s a e b = some x := by unfold cursor_Left.f; split <;> exact ⟨_, rfl⟩
      have hl2 : roadbookref01_Left.f s a e b = some l := hl
      rw [hx, hy, hz, hl, hl2]
      simp only [Option.bind_some, beq_self_eq_true, Bool.and_self, if_true]
    · rw [decide_eq_false d, if_neg (by decide), awake_f]
      rfl
  · rw [decide_eq_false c, if_neg (by decide), awake_f]
    rfl

end Go.Proofs.Ytelcciekdoccfaa.Pure
