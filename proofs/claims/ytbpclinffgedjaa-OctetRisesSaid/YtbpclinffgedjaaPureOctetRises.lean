/-
Greater numbers have greater bytes, and a number that fits into fewer bytes has noughts ahead in more; for any numbers and any size.
-/
import Derived.Test.YtbpclinffgedjaaPOctetRisesx
import Derived.Test.YtbpclinffgedjaaBase
namespace Go.Proofs.Ytbpclinffgedjaa.Pure
open Go.RowKit Go.Proofs.Ytbpclinffgedjaa.POctetRises Go.Proofs.YtbpclinffgedjaaW.PrintWords Go.Proofs.YtbpclinffgedjaaW.PrintLast Go.Proofs.YtbpclinffgedjaaW.PrintMore Go.Proofs.Ytbpclinffgedjaa.Base
set_option linter.unusedVariables false
set_option linter.unusedSimpArgs false

/-- The lowest so many bytes of a number, the highest first. -/
def dig : Nat → Int → List Int
  | 0, _ => []
  | s + 1, n => dig s (n / 256) ++ [n % 256]
theorem dig_length (s : Nat) (n : Int) : (dig s n).length = s := by
  induction s generalizing n with
  | zero => rfl
  | succ s ih => simp [dig, ih]
theorem dig_range (s : Nat) (n : Int) : ∀ x ∈ dig s n, 0 ≤ x ∧ x ≤ 255 := by
  induction s generalizing n with
  | zero => intro x hx; cases hx
  | succ s ih =>
    intro x hx
    simp only [dig, List.mem_append, List.mem_singleton] at hx
    rcases hx with hx | rfl
    · exact ih _ x hx
    · omega
def octFits (n size : Int) : Bool := decide (1 ≤ size ∧ size ≤ 7 ∧ 0 ≤ n ∧ n < 256 ^ size.toNat)
def octPut (n size : Int) : ByteArray × Bool := if octFits n size = true then (strOfNums (dig size.toNat n), true) else (⟨#[]⟩, false)
theorem octFits_iff {n size : Int} : octFits n size = true ↔ (1 ≤ size ∧ size ≤ 7 ∧ 0 ≤ n ∧ n < 256 ^ size.toNat) := by simp [octFits]

theorem div_eq_zero_iff {n : Int} {m : Nat} (h : 0 ≤ n) (hm : 0 < (2 : Int) ^ m) : (n / 2 ^ m = 0) ↔ n < 2 ^ m := by
  constructor
  · intro e
    have := Int.lt_mul_ediv_self_add (x := n) (k := 2 ^ m) hm
    rw [e] at this; omega
  · intro e; exact Int.ediv_eq_zero_of_lt h e

theorem octet_Fits_f (n size : Int) (hn : -9223372036854775808 ≤ n) (hn' : n ≤ 9223372036854775807) : octet_Fits.f n size = some (octFits n size) := by
  unfold octet_Fits.f octFits
  by_cases h1 : 1 ≤ size
  · rw [if_pos h1]
    by_cases h2 : size ≤ 7
    · rw [if_pos h2]
      by_cases h3 : 0 ≤ n
      · rw [if_pos h3]
        have e : IntKind.u64.wrap (wrap64 (8 * size)) = 8 * size := by rw [wrap64_id (by omega) (by omega), u64_id (by omega) (by omega)]
        rw [e, if_pos (by omega)]
        congr 1
        unfold shr
        have e2 : min (8 * size).toNat IntKind.i64.bits = 8 * size.toNat := by simp [IntKind.bits]; omega
        rw [e2, Bool.eq_iff_iff, beq_iff_eq, decide_eq_true_iff, div_eq_zero_iff h3 (Int.pow_pos (by decide))]
        have e3 : (2 : Int) ^ (8 * size.toNat) = 256 ^ size.toNat := by rw [Int.pow_mul]; rfl
        rw [e3]
        exact ⟨fun h => ⟨h1, h2, h3, h⟩, fun h => h.2.2.2⟩
      · rw [if_neg h3, decide_eq_false (fun h => h3 h.2.2.1)]
    · rw [if_neg h2, decide_eq_false (fun h => h2 h.2.1)]
  · rw [if_neg h1, decide_eq_false (fun h => h1 h.1)]

theorem drop_set_self (l : List Int) (m : Nat) (v : Int) (h : m < l.length) : (l.set m v).drop m = [v] ++ l.drop (m + 1) := by
  apply List.ext_getElem?
  intro i
  rw [List.getElem?_drop, List.getElem?_set]
  cases i with
  | zero => simp [h]
  | succ i => rw [if_neg (by omega)]; simp; congr 1; omega

theorem octet_Put_l (m : Nat) : ∀ (k : Nat) (x : Int) (l : List Int), m < k → m ≤ l.length → m ≤ 100 →
    octet_Put.l0 k x l ((m : Int) - 1) = some (strOfNums (dig m x ++ l.drop m), true) := by
  induction m with
  | zero =>
    intro k x l hk hl _
    obtain ⟨k, rfl⟩ : ∃ j, k = j + 1 := ⟨k - 1, by omega⟩
    simp only [octet_Put.l0]; rw [if_neg (by omega)]; rfl
  | succ m ih =>
    intro k x l hk hl hm
    obtain ⟨k, rfl⟩ : ∃ j, k = j + 1 := ⟨k - 1, by omega⟩
    simp only [octet_Put.l0]
    rw [if_pos (by omega), if_pos (by omega), if_pos (by omega)]
    have e1 : (((m + 1 : Nat) : Int) - 1) = m := by omega
    rw [e1, wrap64_id (by omega) (by omega)]
    have e2 : ((m : Int)).toNat = m := by omega
    rw [e2, ih k (x / 256) (l.set m (x % 256)) (by omega) (by simp; omega) (by omega)]
    congr 3
    rw [dig, List.append_assoc]
    congr 1
    exact drop_set_self l m (x % 256) (by omega)

theorem octet_Put_f (n size : Int) (hn : -9223372036854775808 ≤ n) (hn' : n ≤ 9223372036854775807) (k : Nat) (hk : 8 < k) : octet_Put.f k n size = some (octPut n size) := by
  unfold octet_Put.f octPut
  rw [octet_Fits_f n size hn hn', Option.bind_some]
  by_cases h : octFits n size = true
  · have h' := octFits_iff.mp h
    rw [if_pos h, if_pos h, if_pos (by omega), if_pos (by omega), wrap64_id (by omega) (by omega)]
    have e := octet_Put_l size.toNat k n (List.replicate size.toNat 0) (by omega) (by simp) (by omega)
    have e1 : ((size.toNat : Int) - 1) = size - 1 := by omega
    rw [e1] at e
    rw [e, List.drop_of_length_le (by simp), List.append_nil]
  · rw [if_neg h, if_neg h]

theorem pow_le7 (m : Nat) (h : m ≤ 7) : (256 : Int) ^ m ≤ 72057594037927936 := by
  have : m = 0 ∨ m = 1 ∨ m = 2 ∨ m = 3 ∨ m = 4 ∨ m = 5 ∨ m = 6 ∨ m = 7 := by omega
  rcases this with rfl | rfl | rfl | rfl | rfl | rfl | rfl | rfl <;> decide

/-- The number that bytes make, the highest first. -/
def num (l : List Int) : Int := l.foldl (fun a b => a * 256 + b) 0
theorem num_nil : num [] = 0 := rfl
theorem num_snoc (l : List Int) (x : Int) : num (l ++ [x]) = num l * 256 + x := by simp [num, List.foldl_append]
theorem num_take (l : List Int) (i : Nat) (h : i < l.length) : num (l.take (i + 1)) = num (l.take i) * 256 + l.getD i 0 := by
  rw [List.take_succ_eq_append_getElem h, num_snoc, List.getD_eq_getElem?_getD, List.getElem?_eq_getElem h]; rfl
theorem num_foldl (l : List Int) (a : Int) : l.foldl (fun a b => a * 256 + b) a = a * 256 ^ l.length + num l := by
  induction l generalizing a with
  | nil => simp [num]
  | cons x l ih =>
    have e : num (x :: l) = List.foldl (fun a b => a * 256 + b) x l := by simp [num]
    rw [e, ih x]
    simp only [List.foldl_cons, List.length_cons]
    rw [ih (a * 256 + x), Int.pow_succ, Int.add_mul, Int.mul_assoc, Int.mul_comm 256, Int.add_assoc]
theorem num_cons (x : Int) (l : List Int) : num (x :: l) = x * 256 ^ l.length + num l := by
  have e : num (x :: l) = List.foldl (fun a b => a * 256 + b) x l := by simp [num]
  rw [e, num_foldl]
theorem num_range (l : List Int) (h : ∀ x ∈ l, 0 ≤ x ∧ x ≤ 255) : 0 ≤ num l ∧ num l < 256 ^ l.length := by
  induction l with
  | nil => simp [num]
  | cons x l ih =>
    have hx := h x (by simp)
    obtain ⟨h0, h1⟩ := ih fun y hy => h y (by simp [hy])
    rw [num_cons, List.length_cons, Int.pow_succ]
    have hp : (0 : Int) < 256 ^ l.length := Int.pow_pos (by decide)
    have e1 : 0 ≤ x * 256 ^ l.length := Int.mul_nonneg hx.1 (by omega)
    have e2 : x * 256 ^ l.length ≤ 255 * 256 ^ l.length := Int.mul_le_mul_of_nonneg_right hx.2 (by omega)
    omega
theorem num_dig (s : Nat) : ∀ n : Int, 0 ≤ n → n < 256 ^ s → num (dig s n) = n := by
  induction s with
  | zero => intro n h0 h1; simp at h1; simp [dig, num]; omega
  | succ s ih =>
    intro n h0 h1
    rw [dig, num_snoc, ih (n / 256) (by omega) (by rw [Int.pow_succ] at h1; omega)]
    omega
theorem dig_num (l : List Int) (h : ∀ x ∈ l, 0 ≤ x ∧ x ≤ 255) : dig l.length (num l) = l := by
  generalize hs : l.length = s
  induction s generalizing l with
  | zero => rw [List.eq_nil_of_length_eq_zero hs]; rfl
  | succ s ih =>
    have hne : l ≠ [] := fun c => by rw [c] at hs; cases hs
    obtain ⟨a, x, rfl⟩ : ∃ a x, l = a ++ [x] := ⟨_, _, (List.dropLast_concat_getLast hne).symm⟩
    rw [List.length_append, List.length_singleton] at hs
    have hx := h x (by simp)
    rw [dig, num_snoc, show (num a * 256 + x) / 256 = num a by omega, show (num a * 256 + x) % 256 = x by omega, ih a (fun y hy => h y (by simp [hy])) (by omega)]

theorem u8_lt {x y : Int} (hx : 0 ≤ x ∧ x ≤ 255) (hy : 0 ≤ y ∧ y ≤ 255) : (UInt8.ofNat x.toNat < UInt8.ofNat y.toNat) ↔ x < y := by
  rw [UInt8.lt_iff_toNat_lt, UInt8.toNat_ofNat', UInt8.toNat_ofNat']; omega
theorem u8_eq {x y : Int} (hx : 0 ≤ x ∧ x ≤ 255) (hy : 0 ≤ y ∧ y ≤ 255) : (UInt8.ofNat x.toNat = UInt8.ofNat y.toNat) ↔ x = y := by
  rw [← UInt8.toNat_inj, UInt8.toNat_ofNat', UInt8.toNat_ofNat']; omega
/-- Of two texts of one length the lesser is the one whose number is less. -/
theorem less_num (a b : List Int) (ha : ∀ x ∈ a, 0 ≤ x ∧ x ≤ 255) (hb : ∀ x ∈ b, 0 ≤ x ∧ x ≤ 255) (hl : a.length = b.length) :
    Op.bytesLess (strOfNums a).toList (strOfNums b).toList = decide (num a < num b) := by
  rw [ByteArray.toList_eq, ByteArray.toList_eq, data_nums, data_nums]
  induction a generalizing b with
  | nil =>
    cases b with
    | nil => rfl
    | cons y b => cases hl
  | cons x a ih =>
    cases b with
    | nil => cases hl
    | cons y b =>
      have hl' : a.length = b.length := by simpa using hl
      have hx := ha x (by simp)
      have hy := hb y (by simp)
      have ha' : ∀ z ∈ a, 0 ≤ z ∧ z ≤ 255 := fun z hz => ha z (by simp [hz])
      have hb' : ∀ z ∈ b, 0 ≤ z ∧ z ≤ 255 := fun z hz => hb z (by simp [hz])
      simp only [List.map_cons, Op.bytesLess, ih b ha' hb' hl']
      obtain ⟨r0, r1⟩ := num_range a ha'
      obtain ⟨q0, q1⟩ := num_range b hb'
      rw [num_cons, num_cons, hl'] at *
      have hp : (0 : Int) < 256 ^ b.length := Int.pow_pos (by decide)
      rw [Bool.eq_iff_iff]
      simp only [Bool.or_eq_true, Bool.and_eq_true, decide_eq_true_eq, beq_iff_eq, u8_lt hx hy, u8_eq hx hy]
      constructor
      · rintro (h | ⟨rfl, h⟩)
        · have : (x + 1) * 256 ^ b.length ≤ y * 256 ^ b.length := Int.mul_le_mul_of_nonneg_right (by omega) (by omega)
          rw [Int.add_mul] at this; omega
        · omega
      · intro h
        rcases Int.lt_trichotomy x y with c | c | c
        · exact .inl c
        · subst c; exact .inr ⟨rfl, by omega⟩
        · have : (y + 1) * 256 ^ b.length ≤ x * 256 ^ b.length := Int.mul_le_mul_of_nonneg_right (by omega) (by omega)
          rw [Int.add_mul] at this; omega

theorem awake_f : ∃ K, ∀ k, K ≤ k → roadbooklaw02_awake.f k = some true := Ev.of (roadbooklaw02_awake.mono) (k := 12) (by decide +kernel)

theorem dig_more (s : Nat) : ∀ n : Int, 0 ≤ n → n < 256 ^ s → dig (s + 1) n = 0 :: dig s n := by
  induction s with
  | zero => intro n h0 h1; simp at h1; simp [dig]; omega
  | succ s ih =>
    intro n h0 h1
    rw [dig, ih (n / 256) (by omega) (by rw [Int.pow_succ] at h1; omega)]
    rfl

theorem rises_j (K : Nat) (hK : ∀ k, K ≤ k → roadbooklaw02_awake.f k = some true) (a b size : Int) (ha : -9223372036854775808 ≤ a ∧ a ≤ 9223372036854775807) (fa : octFits a size = true) (fb : octFits b size = true)
    (k : Nat) (hk : K + 20 < k) : roadbooklaw02_OctetRises.j0 k a b size (strOfNums (dig size.toNat a)) (strOfNums (dig size.toNat b)) false = some true := by
  have fa' := octFits_iff.mp fa
  have fb' := octFits_iff.mp fb
  obtain ⟨k, rfl⟩ : ∃ j, k = j + 1 := ⟨k - 1, by omega⟩
  simp only [roadbooklaw02_OctetRises.j0, Bool.false_eq_true, if_false]
  have e1 : Op.bytesLess (strOfNums (dig size.toNat a)).toList (strOfNums (dig size.toNat b)).toList = decide (a < b) := by
    rw [less_num _ _ (dig_range _ _) (dig_range _ _) (by rw [dig_length, dig_length]), num_dig _ _ fa'.2.2.1 fa'.2.2.2, num_dig _ _ fb'.2.2.1 fb'.2.2.2]
  have e2 : ((strOfNums (dig size.toNat a)).toList == (strOfNums (dig size.toNat b)).toList) = (a == b) := by
    rw [Bool.eq_iff_iff, beq_iff_eq, beq_iff_eq, toList_inj]
    constructor
    · intro h
      have := nums_inj (dig_range _ _) (dig_range _ _) h
      rw [← num_dig _ _ fa'.2.2.1 fa'.2.2.2, ← num_dig _ _ fb'.2.2.1 fb'.2.2.2, this]
    · rintro rfl; rfl
  rw [e1, e2, hK k (by omega)]
  simp only [Option.bind_some, beq_self_eq_true, if_true]
  by_cases h7 : size < 7
  · rw [if_pos h7, wrap64_id (by omega) (by omega), octet_Put_f a (size + 1) ha.1 ha.2 _ (by omega)]
    have f1 : octFits a (size + 1) = true := by
      rw [octFits_iff]
      refine ⟨by omega, by omega, fa'.2.2.1, ?_⟩
      have hp : (0 : Int) < 256 ^ size.toNat := Int.pow_pos (by decide)
      rw [show (size + 1).toNat = size.toNat + 1 by omega, Int.pow_succ]
      have := fa'.2.2.2
      omega
    unfold octPut
    rw [if_pos f1]
    simp only [Option.bind_some, if_true]
    rw [size_nums, dig_length, if_pos (by omega), if_pos]
    rw [toList_inj, show (size + 1).toNat = size.toNat + 1 by omega, dig_more _ _ fa'.2.2.1 fa'.2.2.2]
    exact nums_app [0] (dig size.toNat a)
  · rw [if_neg h7]

theorem OctetRises : roadbooklaw02_OctetRises.Pure := by
  intro a b size ha hb hsz
  have ha := wf_i64 ha
  have hb := wf_i64 hb
  obtain ⟨K, hK⟩ := awake_f
  refine ⟨K + 100, ?_⟩
  unfold roadbooklaw02_OctetRises.f
  rw [octet_Put_f a size ha.1 ha.2 _ (by omega), octet_Put_f b size hb.1 hb.2 _ (by omega)]
  simp only [Option.bind_some]
  have bad : ∀ s t : ByteArray, roadbooklaw02_OctetRises.j0 (K + 100) a b size s t true = some true := by
    intro s t
    simp only [roadbooklaw02_OctetRises.j0, if_true]
    rw [hK _ (by omega)]; rfl
  unfold octPut
  by_cases fa : octFits a size = true
  · rw [if_pos fa]
    simp only [if_true]
    by_cases fb : octFits b size = true
    · rw [if_pos fb]
      exact rises_j K hK a b size ha fa fb _ (by omega)
    · rw [if_neg fb]; exact bad _ _
  · rw [if_neg fa]
    simp only [Bool.false_eq_true, if_false]
    exact bad _ _

end Go.Proofs.Ytbpclinffgedjaa.Pure
