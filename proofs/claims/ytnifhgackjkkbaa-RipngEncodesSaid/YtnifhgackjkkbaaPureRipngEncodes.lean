/-
Whether any messages may be routes, and their datagram, or why there is none, are the document's; for lists of at most 40 messages of few parts.
-/
import Derived.Test.YtnifhgackjkkbaaQRipngEncodes
import Derived.Test.YtnifhgackjkkbaaBase
namespace Go.Proofs.Ytnifhgackjkkbaa.Pure
open Go.RowKit Go.Proofs.Ytnifhgackjkkbaa.PN Go.Proofs.YtnifhgackjkkbaaW.PrintWords Go.Proofs.YtnifhgackjkkbaaW.PrintLast Go.Proofs.YtnifhgackjkkbaaW.PrintMore Go.Proofs.Ytnifhgackjkkbaa.Base
set_option linter.unusedVariables false
set_option linter.unusedSimpArgs false

/-- The lowest so many bytes of a number, the highest first. -/
def dig : Nat → Int → List Int
  | 0, _ => []
  | s + 1, n => dig s (n / 256) ++ [n % 256]
theorem dig_length (s : Nat) (n : Int) : (dig s n).length = s := by
  induction s generalizing n with
  | zero => rfl
  | succ s ih => simp [dig, ih]
theorem dig_range (s : Nat) (n : Int) : ∀ x ∈ dig s n, 0 ≤ x ∧ x ≤ 255 := by
  induction s generalizing n with
  | zero => intro x hx; cases hx
  | succ s ih =>
    intro x hx
    simp only [dig, List.mem_append, List.mem_singleton] at hx
    rcases hx with hx | rfl
    · exact ih _ x hx
    · omega
def octFits (n size : Int) : Bool := decide (1 ≤ size ∧ size ≤ 7 ∧ 0 ≤ n ∧ n < 256 ^ size.toNat)
def octPut (n size : Int) : ByteArray × Bool := if octFits n size = true then (strOfNums (dig size.toNat n), true) else (⟨#[]⟩, false)
theorem octFits_iff {n size : Int} : octFits n size = true ↔ (1 ≤ size ∧ size ≤ 7 ∧ 0 ≤ n ∧ n < 256 ^ size.toNat) := by simp [octFits]

theorem div_eq_zero_iff {n : Int} {m : Nat} (h : 0 ≤ n) (hm : 0 < (2 : Int) ^ m) : (n / 2 ^ m = 0) ↔ n < 2 ^ m := by
  constructor
  · intro e
    have := Int.lt_mul_ediv_self_add (x := n) (k := 2 ^ m) hm
    rw [e] at this; omega
  · intro e; exact Int.ediv_eq_zero_of_lt h e

theorem pow_le7 (m : Nat) (h : m ≤ 7) : (256 : Int) ^ m ≤ 72057594037927936 := by
  have : m = 0 ∨ m = 1 ∨ m = 2 ∨ m = 3 ∨ m = 4 ∨ m = 5 ∨ m = 6 ∨ m = 7 := by omega
  rcases this with rfl | rfl | rfl | rfl | rfl | rfl | rfl | rfl <;> decide

theorem octet_Fits_f (n size : Int) (hn : -9223372036854775808 ≤ n) (hn' : n ≤ 9223372036854775807) : octet_Fits.f n size = some (octFits n size) := by
  unfold octet_Fits.f octFits
  by_cases h1 : 1 ≤ size
  · rw [if_pos h1]
    by_cases h2 : size ≤ 7
    · rw [if_pos h2]
      by_cases h3 : 0 ≤ n
      · rw [if_pos h3]
        have e : IntKind.u64.wrap (wrap64 (8 * size)) = 8 * size := by rw [wrap64_id (by omega) (by omega), u64_id (by omega) (by omega)]
        rw [e, if_pos (by omega)]
        congr 1
        unfold shr
        have e2 : min (8 * size).toNat IntKind.i64.bits = 8 * size.toNat := by simp [IntKind.bits]; omega
        rw [e2, Bool.eq_iff_iff, beq_iff_eq, decide_eq_true_iff, div_eq_zero_iff h3 (Int.pow_pos (by decide))]
        have e3 : (2 : Int) ^ (8 * size.toNat) = 256 ^ size.toNat := by rw [Int.pow_mul]; rfl
        rw [e3]
        exact ⟨fun h => ⟨h1, h2, h3, h⟩, fun h => h.2.2.2⟩
      · rw [if_neg h3, decide_eq_false (fun h => h3 h.2.2.1)]
    · rw [if_neg h2, decide_eq_false (fun h => h2 h.2.1)]
  · rw [if_neg h1, decide_eq_false (fun h => h1 h.1)]

/-- The number that bytes make, the highest first. -/
def num (l : List Int) : Int := l.foldl (fun a b => a * 256 + b) 0
theorem num_nil : num [] = 0 := rfl
theorem num_snoc (l : List Int) (x : Int) : num (l ++ [x]) = num l * 256 + x := by simp [num, List.foldl_append]
theorem num_take (l : List Int) (i : Nat) (h : i < l.length) : num (l.take (i + 1)) = num (l.take i) * 256 + l.getD i 0 := by
  rw [List.take_succ_eq_append_getElem h, num_snoc, List.getD_eq_getElem?_getD, List.getElem?_eq_getElem h]; rfl
theorem num_foldl (l : List Int) (a : Int) : l.foldl (fun a b => a * 256 + b) a = a * 256 ^ l.length + num l := by
  induction l generalizing a with
  | nil => simp [num]
  | cons x l ih =>
    have e : num (x :: l) = List.foldl (fun a b => a * 256 + b) x l := by simp [num]
    rw [e, ih x]
    simp only [List.foldl_cons, List.length_cons]
    rw [ih (a * 256 + x), Int.pow_succ, Int.add_mul, Int.mul_assoc, Int.mul_comm 256, Int.add_assoc]
theorem num_cons (x : Int) (l : List Int) : num (x :: l) = x * 256 ^ l.length + num l := by
  have e : num (x :: l) = List.foldl (fun a b => a * 256 + b) x l := by simp [num]
  rw [e, num_foldl]
theorem num_range (l : List Int) (h : ∀ x ∈ l, 0 ≤ x ∧ x ≤ 255) : 0 ≤ num l ∧ num l < 256 ^ l.length := by
  induction l with
  | nil => simp [num]
  | cons x l ih =>
    have hx := h x (by simp)
    obtain ⟨h0, h1⟩ := ih fun y hy => h y (by simp [hy])
    rw [num_cons, List.length_cons, Int.pow_succ]
    have hp : (0 : Int) < 256 ^ l.length := Int.pow_pos (by decide)
    have e1 : 0 ≤ x * 256 ^ l.length := Int.mul_nonneg hx.1 (by omega)
    have e2 : x * 256 ^ l.length ≤ 255 * 256 ^ l.length := Int.mul_le_mul_of_nonneg_right hx.2 (by omega)
    omega
theorem num_dig (s : Nat) : ∀ n : Int, 0 ≤ n → n < 256 ^ s → num (dig s n) = n := by
  induction s with
  | zero => intro n h0 h1; simp at h1; simp [dig, num]; omega
  | succ s ih =>
    intro n h0 h1
    rw [dig, num_snoc, ih (n / 256) (by omega) (by rw [Int.pow_succ] at h1; omega)]
    omega
theorem dig_num (l : List Int) (h : ∀ x ∈ l, 0 ≤ x ∧ x ≤ 255) : dig l.length (num l) = l := by
  generalize hs : l.length = s
  induction s generalizing l with
  | zero => rw [List.eq_nil_of_length_eq_zero hs]; rfl
  | succ s ih =>
    have hne : l ≠ [] := fun c => by rw [c] at hs; cases hs
    obtain ⟨a, x, rfl⟩ : ∃ a x, l = a ++ [x] := ⟨_, _, (List.dropLast_concat_getLast hne).symm⟩
    rw [List.length_append, List.length_singleton] at hs
    have hx := h x (by simp)
    rw [dig, num_snoc, show (num a * 256 + x) / 256 = num a by omega, show (num a * 256 + x) % 256 = x by omega, ih a (fun y hy => h y (by simp [hy])) (by omega)]

theorem u8_lt {x y : Int} (hx : 0 ≤ x ∧ x ≤ 255) (hy : 0 ≤ y ∧ y ≤ 255) : (UInt8.ofNat x.toNat < UInt8.ofNat y.toNat) ↔ x < y := by
  rw [UInt8.lt_iff_toNat_lt, UInt8.toNat_ofNat', UInt8.toNat_ofNat']; omega
theorem u8_eq {x y : Int} (hx : 0 ≤ x ∧ x ≤ 255) (hy : 0 ≤ y ∧ y ≤ 255) : (UInt8.ofNat x.toNat = UInt8.ofNat y.toNat) ↔ x = y := by
  rw [← UInt8.toNat_inj, UInt8.toNat_ofNat', UInt8.toNat_ofNat']; omega
/-- Of two texts of one length the lesser is the one whose number is less. -/
theorem less_num (a b : List Int) (ha : ∀ x ∈ a, 0 ≤ x ∧ x ≤ 255) (hb : ∀ x ∈ b, 0 ≤ x ∧ x ≤ 255) (hl : a.length = b.length) :
    Op.bytesLess (strOfNums a).toList (strOfNums b).toList = decide (num a < num b) := by
  rw [ByteArray.toList_eq, ByteArray.toList_eq, data_nums, data_nums]
  induction a generalizing b with
  | nil =>
    cases b with
    | nil => rfl
    | cons y b => cases hl
  | cons x a ih =>
    cases b with
    | nil => cases hl
    | cons y b =>
      have hl' : a.length = b.length := by simpa using hl
      have hx := ha x (by simp)
      have hy := hb y (by simp)
      have ha' : ∀ z ∈ a, 0 ≤ z ∧ z ≤ 255 := fun z hz => ha z (by simp [hz])
      have hb' : ∀ z ∈ b, 0 ≤ z ∧ z ≤ 255 := fun z hz => hb z (by simp [hz])
      simp only [List.map_cons, Op.bytesLess, ih b ha' hb' hl']
      obtain ⟨r0, r1⟩ := num_range a ha'
      obtain ⟨q0, q1⟩ := num_range b hb'
      rw [num_cons, num_cons, hl'] at *
      have hp : (0 : Int) < 256 ^ b.length := Int.pow_pos (by decide)
      rw [Bool.eq_iff_iff]
      simp only [Bool.or_eq_true, Bool.and_eq_true, decide_eq_true_eq, beq_iff_eq, u8_lt hx hy, u8_eq hx hy]
      constructor
      · rintro (h | ⟨rfl, h⟩)
        · have : (x + 1) * 256 ^ b.length ≤ y * 256 ^ b.length := Int.mul_le_mul_of_nonneg_right (by omega) (by omega)
          rw [Int.add_mul] at this; omega
        · omega
      · intro h
        rcases Int.lt_trichotomy x y with c | c | c
        · exact .inl c
        · subst c; exact .inr ⟨rfl, by omega⟩
        · have : (y + 1) * 256 ^ b.length ≤ x * 256 ^ b.length := Int.mul_le_mul_of_nonneg_right (by omega) (by omega)
          rw [Int.add_mul] at this; omega

def rtePut (f t : Int) (ad mk nx : ByteArray) (m : Int) : ByteArray × Bool :=
  if ad.size = 16 ∧ mk.size = 0 ∧ nx.size = 0 ∧ octFits t 2 = true ∧ octFits f 1 = true ∧ octFits m 1 = true then (ad ++ strOfNums [(t / 256) % 256, t % 256, f % 256, m % 256], true) else (⟨#[]⟩, false)
theorem empty_iff (a : ByteArray) : a.toList = ([] : List UInt8) ↔ a.size = 0 := by
  rw [ByteArray.toList_eq, ← data_length, List.length_eq_zero_iff]
theorem rte_Put_f (f t : Int) (ad mk nx : ByteArray) (m : Int) (hf : -9223372036854775808 ≤ f ∧ f ≤ 9223372036854775807) (ht : -9223372036854775808 ≤ t ∧ t ≤ 9223372036854775807) (hm : -9223372036854775808 ≤ m ∧ m ≤ 9223372036854775807)
    (hs : mk.size + nx.size ≤ 1000) : rte_Put.f f t ad mk nx m = some (rtePut f t ad mk nx m) := by
  unfold rte_Put.f rtePut
  by_cases h1 : ad.size = 16
  · rw [if_pos (by omega), if_pos (by omega)]
    by_cases h2 : mk.size = 0 ∧ nx.size = 0
    · rw [if_pos (by rw [empty_iff, size_app]; omega), octet_Fits_f t 2 ht.1 ht.2, Option.bind_some, octet_Fits_f f 1 hf.1 hf.2, octet_Fits_f m 1 hm.1 hm.2]
      by_cases h3 : octFits t 2 = true
      · rw [if_pos h3, Option.bind_some]
        by_cases h4 : octFits f 1 = true
        · rw [if_pos h4, Option.bind_some]
          by_cases h5 : octFits m 1 = true
          · rw [if_pos h5, Option.bind_some, if_pos (by rw [size_nums]; simp only [List.length_cons, List.length_nil]; omega), if_pos ⟨h1, h2.1, h2.2, h3, h4, h5⟩]
          · rw [if_neg h5, if_neg (fun h => h5 h.2.2.2.2.2)]
        · rw [if_neg h4, if_neg (fun h => h4 h.2.2.2.2.1)]
      · rw [if_neg h3, if_neg (fun h => h3 h.2.2.2.1)]
    · rw [if_neg (by rw [empty_iff, size_app]; omega), if_neg (fun h => h2 ⟨h.2.1, h.2.2.1⟩)]
  · rw [if_neg (by omega), if_neg (fun h => h1 h.1)]
theorem rte_Get_f (s : ByteArray) : rte_Get.f s = some (if s.size = 20 then (bt s 18, bt s 16 * 256 + bt s 17, s.extract 0 16, (⟨#[]⟩ : ByteArray), (⟨#[]⟩ : ByteArray), bt s 19, true) else (0, 0, (⟨#[]⟩ : ByteArray), (⟨#[]⟩ : ByteArray), (⟨#[]⟩ : ByteArray), 0, false)) := by
  unfold rte_Get.f
  by_cases h : s.size = 20
  · rw [if_pos h, if_pos h, bt_ext _ _ _ 2 (by decide), bt_ext _ _ _ 0 (by decide), bt_ext _ _ _ 1 (by decide), bt_ext _ _ _ 3 (by decide), if_pos (by omega), if_pos (by omega), if_pos (by omega), if_pos (by omega)]
    rfl
  · rw [if_neg h, if_neg h]

/-- Bit m (the highest is 0) of a byte. -/
def bitAt (b : Int) (m : Nat) : Bool := b.toNat.testBit (7 - m)
/-- Bit i of a text. -/
def bit (s : ByteArray) (i : Int) : Bool := decide (0 ≤ i ∧ i < 8 * s.size) && bitAt (bt s (i / 8)) (i % 8).toNat
/-- The first m bits of a byte alone. -/
def kb (b : Int) (m : Int) : Int := if m ≤ 0 then 0 else if 8 ≤ m then b else b / 2 ^ (8 - m).toNat * 2 ^ (8 - m).toNat
/-- The first n bits of a text alone. -/
def keepL (s : ByteArray) (n : Int) : List Int := (List.range s.size).map fun (j : Nat) => kb (bt s j) (n - 8 * j)
def keep (s : ByteArray) (n : Int) : ByteArray := strOfNums (keepL s n)

theorem kb_mid : ∀ b : Fin 256, ∀ m : Fin 8, Go.bits .andNot .u8 ((b.val : Nat) : Int) (255 / 2 ^ m.val) = kb ((b.val : Nat) : Int) (m.val : Nat) := by decide +kernel
theorem kb_bit : ∀ b : Fin 256, ∀ m : Fin 9, ∀ j : Fin 8, bitAt (kb ((b.val : Nat) : Int) (m.val : Nat)) j.val = (decide (j.val < m.val) && bitAt ((b.val : Nat) : Int) j.val) := by decide +kernel
theorem kb_kb_fin : ∀ b : Fin 256, ∀ m : Fin 9, kb (kb ((b.val : Nat) : Int) (m.val : Nat)) (m.val : Nat) = kb ((b.val : Nat) : Int) (m.val : Nat) := by decide +kernel
theorem kb_range_fin : ∀ b : Fin 256, ∀ m : Fin 9, 0 ≤ kb ((b.val : Nat) : Int) (m.val : Nat) ∧ kb ((b.val : Nat) : Int) (m.val : Nat) ≤ 255 := by decide +kernel
theorem kb_step_fin : ∀ b : Fin 256, ∀ m : Fin 8, kb ((b.val : Nat) : Int) ((m.val + 1 : Nat) : Int) = (kb ((b.val : Nat) : Int) (m.val : Nat) + if bitAt ((b.val : Nat) : Int) m.val = true then 2 ^ (7 - m.val) else 0) := by decide +kernel
theorem bit_and_fin : ∀ b : Fin 256, ∀ m : Fin 8, (Go.bits .and .u8 ((b.val : Nat) : Int) (128 / 2 ^ m.val) != 0) = bitAt ((b.val : Nat) : Int) m.val := by decide +kernel
theorem bit_div_fin : ∀ b : Fin 256, ∀ m : Fin 8, (Int.tmod (((b.val : Nat) : Int) / 2 ^ (7 - m.val)) 2 == 1) = bitAt ((b.val : Nat) : Int) m.val := by decide +kernel

/-- A byte, as one of 256. -/
theorem byte_fin {b : Int} (h : 0 ≤ b ∧ b ≤ 255) : ∃ x : Fin 256, b = ((x.val : Nat) : Int) := ⟨⟨b.toNat, by omega⟩, by simp; omega⟩
/-- How many of a byte's bits are kept, as one of 0 to 8. -/
theorem kb_clip (b m : Int) : ∃ q : Fin 9, kb b m = kb b (q.val : Nat) ∧ (q.val : Int) = max 0 (min 8 m) := by
  by_cases h0 : m ≤ 0
  · exact ⟨⟨0, by omega⟩, by unfold kb; rw [if_pos h0, if_pos (by simp)], by simp; omega⟩
  · by_cases h8 : 8 ≤ m
    · exact ⟨⟨8, by omega⟩, by unfold kb; rw [if_neg h0, if_pos h8, if_neg (by simp), if_pos (by simp)], by simp; omega⟩
    · exact ⟨⟨m.toNat, by omega⟩, by simp only [show ((m.toNat : Nat) : Int) = m by omega], by simp; omega⟩
theorem kb_range {b : Int} (h : 0 ≤ b ∧ b ≤ 255) (m : Int) : 0 ≤ kb b m ∧ kb b m ≤ 255 := by
  obtain ⟨x, rfl⟩ := byte_fin h
  obtain ⟨q, e, _⟩ := kb_clip ((x.val : Nat) : Int) m
  rw [e]; exact kb_range_fin x q
theorem kb_kb {b : Int} (h : 0 ≤ b ∧ b ≤ 255) (m : Int) : kb (kb b m) m = kb b m := by
  obtain ⟨x, rfl⟩ := byte_fin h
  obtain ⟨q, e, hq⟩ := kb_clip ((x.val : Nat) : Int) m
  obtain ⟨q', e', hq'⟩ := kb_clip (kb ((x.val : Nat) : Int) m) m
  have : q' = q := Fin.ext (by omega)
  rw [e', this, e]; exact kb_kb_fin x q
theorem kb_bitAt {b : Int} (h : 0 ≤ b ∧ b ≤ 255) (m : Int) (j : Nat) (hj : j < 8) : bitAt (kb b m) j = (decide ((j : Int) < m) && bitAt b j) := by
  obtain ⟨x, rfl⟩ := byte_fin h
  obtain ⟨q, e, hq⟩ := kb_clip ((x.val : Nat) : Int) m
  rw [e]
  have := kb_bit x q ⟨j, hj⟩
  simp only at this
  rw [this]
  congr 1
  rw [Bool.eq_iff_iff, decide_eq_true_iff, decide_eq_true_iff]; omega

theorem keepL_length (s : ByteArray) (n : Int) : (keepL s n).length = s.size := by simp [keepL]
theorem keepL_getD (s : ByteArray) (n : Int) (j : Nat) (h : j < s.size) : (keepL s n).getD j 0 = kb (bt s j) (n - 8 * j) := by
  simp [keepL, List.getD_eq_getElem?_getD, List.getElem?_map, List.getElem?_range h]
theorem keepL_range (s : ByteArray) (n : Int) : ∀ x ∈ keepL s n, 0 ≤ x ∧ x ≤ 255 := by
  intro x hx
  simp only [keepL, List.mem_map] at hx
  obtain ⟨j, _, rfl⟩ := hx
  exact kb_range (bt_range s j) _
theorem keep_size (s : ByteArray) (n : Int) : (keep s n).size = s.size := by rw [keep, size_nums, keepL_length]
theorem bt_keep (s : ByteArray) (n : Int) (j : Nat) (h : j < s.size) : bt (keep s n) j = kb (bt s j) (n - 8 * j) := by
  rw [keep, bt_bytes _ (keepL_range s n), keepL_getD s n j h]
theorem keep_keep (s : ByteArray) (n : Int) : keep (keep s n) n = keep s n := by
  refine ext_bt (by rw [keep_size]) fun j hj => ?_
  rw [keep_size, keep_size] at hj
  rw [bt_keep _ _ _ (by rw [keep_size]; exact hj), bt_keep _ _ _ hj, kb_kb (bt_range s j)]
theorem bit_keep (s : ByteArray) (n i : Int) : bit (keep s n) i = (decide (i < n) && bit s i) := by
  unfold bit
  rw [keep_size]
  by_cases h : 0 ≤ i ∧ i < 8 * (s.size : Int)
  · rw [decide_eq_true h, Bool.true_and, Bool.true_and]
    have e : bt (keep s n) (i / 8) = kb (bt s (i / 8)) (n - 8 * (i / 8)) := by
      have := bt_keep s n (i / 8).toNat (by omega)
      rwa [show (((i / 8).toNat : Nat) : Int) = i / 8 by omega] at this
    rw [e, kb_bitAt (bt_range s _) _ _ (by omega)]
    congr 1
    rw [Bool.eq_iff_iff, decide_eq_true_iff, decide_eq_true_iff]; omega
  · rw [decide_eq_false h]; simp

theorem and7 {n : Int} (h0 : 0 ≤ n) (h1 : n < 9223372036854775808) : Go.bits .and .i64 n 7 = n % 8 :=
  bits_mask .i64 63 (by decide) (fun m h0 h1 => by rw [IntKind.wrap_i64]; omega) 3 (by decide) n h0 (by simpa using h1)

theorem set_getD {l : List Int} {k j : Nat} (v : Int) (h : j < l.length) : (l.set k v).getD j 0 = if k = j then v else l.getD j 0 := by
  rw [List.getD_eq_getElem?_getD, List.getElem?_set]
  split
  · rename_i e; subst e; rw [if_pos h]; rfl
  · rw [List.getD_eq_getElem?_getD]
theorem rep_getD (m j : Nat) : (List.replicate m (0 : Int)).getD j 0 = 0 := by
  rw [List.getD_eq_getElem?_getD, List.getElem?_replicate]; split <;> rfl

def rightP (a : ByteArray) (n : Int) : Bool := decide ((a.size = 4 ∨ a.size = 16) ∧ 0 ≤ n ∧ n ≤ 8 * a.size ∧ keep a n = a)
def least (n : Int) : Int := if n < 0 then 0 else (n + 7) / 8
def cutP (a : ByteArray) (n : Int) : ByteArray := (keep a n).extract 0 (min (least n) a.size).toNat
def fillP (s : ByteArray) (n : Int) : ByteArray := s ++ strOfNums (List.replicate (n - s.size).toNat 0)
def LeadIs (a b : ByteArray) (r : Int) : Prop := 0 ≤ r ∧ r ≤ a.size ∧ r ≤ b.size ∧ (∀ j : Nat, (j : Int) < r → bt a j = bt b j) ∧ (r < a.size → r < b.size → bt a r ≠ bt b r)
theorem LeadIs.one {a b : ByteArray} {r q : Int} (h : LeadIs a b r) (k : LeadIs a b q) : r = q := by
  obtain ⟨h0, h1, h2, h3, h4⟩ := h
  obtain ⟨k0, k1, k2, k3, k4⟩ := k
  rcases Int.lt_trichotomy r q with c | c | c
  · have := k3 r.toNat (by omega)
    rw [show ((r.toNat : Nat) : Int) = r by omega] at this
    exact absurd this (h4 (by omega) (by omega))
  · exact c
  · have := h3 q.toNat (by omega)
    rw [show ((q.toNat : Nat) : Int) = q by omega] at this
    exact absurd this (k4 (by omega) (by omega))
theorem LeadIs.symm {a b : ByteArray} {r : Int} (h : LeadIs a b r) : LeadIs b a r := by
  obtain ⟨h0, h1, h2, h3, h4⟩ := h
  exact ⟨h0, h2, h1, fun j c => (h3 j c).symm, fun c d e => h4 d c e.symm⟩
theorem bt_fill (s : ByteArray) (n : Int) (i : Nat) : bt (fillP s n) i = if i < s.size then bt s i else 0 := by
  unfold fillP
  rw [bt_app _ _ _ (by omega)]
  by_cases c : i < s.size
  · rw [if_pos (by omega), if_pos c]
  · rw [if_neg (by omega), if_neg c, show (i : Int) - s.size = ((i - s.size : Nat) : Int) by omega, bt_bytes _ (lit_rep _), rep_getD]
theorem size_fill (s : ByteArray) (n : Int) : (fillP s n).size = s.size + (n - s.size).toNat := by
  unfold fillP; rw [size_app, size_nums, List.length_replicate]

theorem bits_Keep_f (s : ByteArray) (n : Int) (hs : s.size ≤ 1000000) (hn : -9223372036854775808 ≤ n) : bits_Keep.f s n = some (keep s n) := by
  unfold bits_Keep.f
  rw [if_pos (by omega)]
  by_cases h1 : 8 * (s.size : Int) ≤ n
  · rw [if_pos h1]
    congr 1
    refine ext_bt (by rw [keep_size]) fun j hj => ?_
    rw [bt_keep s n j hj]
    unfold kb; rw [if_neg (by omega), if_pos (by omega)]
  · rw [if_neg h1]
    by_cases h2 : n ≤ 0
    · rw [if_pos h2]
      congr 1
      refine ext_bt (by rw [keep_size, size_nums, List.length_replicate]) fun j hj => ?_
      rw [size_nums, List.length_replicate] at hj
      rw [bt_keep s n j hj, bt_bytes _ (lit_rep _)]
      unfold kb; rw [if_pos (by omega), rep_getD]
    · rw [if_neg h2]
      congr 1
      have hk0 : 0 ≤ n / 8 := by omega
      have hk1 : n / 8 < (s.size : Int) := by omega
      obtain ⟨k, hk⟩ : ∃ k : Nat, n / 8 = k := ⟨(n / 8).toNat, by omega⟩
      rw [hk, and7 (by omega) (by omega), u64_id (by omega) (by omega)]
      have hv : Go.bits .andNot .u8 (bt s k) (255 / 2 ^ min (n % 8).toNat 8) = kb (bt s k) (n - 8 * k) := by
        obtain ⟨x, hx⟩ := byte_fin (bt_range s k)
        rw [hx]
        have := kb_mid x ⟨(n % 8).toNat, by omega⟩
        simp only at this
        rw [show min (n % 8).toNat 8 = (n % 8).toNat by omega, this]
        congr 1; omega
      rw [hv, show ((k : Int)).toNat = k by omega]
      have he : (s.extract 0 k).size = k := by rw [size_ext]; omega
      rw [he]
      have hlen : (bytesOf (s.extract 0 k) ++ (List.replicate s.size (0 : Int)).drop k).length = s.size := by
        rw [List.length_append, len_bytesOf, he, List.length_drop, List.length_replicate]; omega
      have hgd : ∀ j, j < s.size → ((bytesOf (s.extract 0 k) ++ (List.replicate s.size (0 : Int)).drop k).set k (kb (bt s k) (n - 8 * k))).getD j 0 = kb (bt s j) (n - 8 * j) := by
        intro j hj
        rw [set_getD _ (by rw [hlen]; exact hj)]
        by_cases hkj : k = j
        · rw [if_pos hkj, hkj]
        · rw [if_neg hkj]
          by_cases hlt : j < k
          · rw [List.getD_eq_getElem?_getD, List.getElem?_append_left (by rw [len_bytesOf, he]; exact hlt), ← List.getD_eq_getElem?_getD, bytesOf_getD, bt_ext _ _ _ _ (by omega), if_pos (by omega)]
            unfold kb; rw [if_neg (by omega), if_pos (by omega)]; congr 1; omega
          · rw [List.getD_eq_getElem?_getD, List.getElem?_append_right (by rw [len_bytesOf, he]; omega), List.drop_replicate, ← List.getD_eq_getElem?_getD, rep_getD]
            unfold kb; rw [if_pos (by omega)]
      have hrange : ∀ x ∈ (bytesOf (s.extract 0 k) ++ (List.replicate s.size (0 : Int)).drop k).set k (kb (bt s k) (n - 8 * k)), 0 ≤ x ∧ x ≤ 255 := by
        intro x hx
        obtain ⟨j, hj, rfl⟩ := List.getElem_of_mem hx
        have := hgd j (by rw [List.length_set, hlen] at hj; exact hj)
        rw [List.getD_eq_getElem?_getD, List.getElem?_eq_getElem hj] at this
        simp only [Option.getD_some] at this
        rw [this]; exact kb_range (bt_range s j) _
      refine ext_bt (by rw [keep_size, size_nums, List.length_set, hlen]) fun j hj => ?_
      rw [size_nums, List.length_set, hlen] at hj
      rw [bt_keep s n j hj, bt_bytes _ hrange, hgd j hj]

theorem bits_Clean_f (s : ByteArray) (n : Int) (hs : s.size ≤ 1000000) (hn : -9223372036854775808 ≤ n) : bits_Clean.f s n = some (decide (keep s n = s)) := by
  unfold bits_Clean.f
  rw [bits_Keep_f s n hs hn, Option.bind_some]
  congr 1
  rw [Bool.eq_iff_iff, beq_iff_eq, decide_eq_true_iff, toList_inj]

theorem prefix_Right_f (a : ByteArray) (n : Int) : prefix_Right.f a n = some (rightP a n) := by
  unfold prefix_Right.f rightP
  have main : ∀ (hs : a.size = 4 ∨ a.size = 16), (if n ≥ 0 then (if n ≤ (wrap64 (8 * (a.size : Int))) then ((bits_Clean.f a n).bind fun t => (some t)) else (some false)) else (some false)) = some (decide ((a.size = 4 ∨ a.size = 16) ∧ 0 ≤ n ∧ n ≤ 8 * a.size ∧ keep a n = a)) := by
    intro hs
    rw [wrap64_id (by omega) (by omega)]
    by_cases h0 : n ≥ 0
    · rw [if_pos h0]
      by_cases h1 : n ≤ 8 * (a.size : Int)
      · rw [if_pos h1, bits_Clean_f a n (by omega) (by omega), Option.bind_some]
        congr 1
        rw [Bool.eq_iff_iff, decide_eq_true_iff, decide_eq_true_iff]
        exact ⟨fun h => ⟨hs, h0, h1, h⟩, fun h => h.2.2.2⟩
      · rw [if_neg h1, decide_eq_false (fun h => h1 h.2.2.1)]
    · rw [if_neg h0, decide_eq_false (fun h => h0 h.2.1)]
  by_cases h4 : (a.size : Int) = 4
  · rw [if_pos h4]; exact main (by omega)
  · rw [if_neg h4]
    by_cases h16 : (a.size : Int) = 16
    · rw [if_pos h16]; exact main (by omega)
    · rw [if_neg h16, decide_eq_false (fun h => by omega)]

theorem zeros16 : octet_Zeros.f 16 = some (strOfNums (List.replicate 16 0)) := by decide +kernel
/-- hop's test. -/
theorem or_zero64 (x y : Int) (hx : 0 ≤ x ∧ x ≤ 65535) (hy : 0 ≤ y ∧ y ≤ 255) : Go.bits .or .i64 x y = 0 ↔ x = 0 ∧ y = 0 := by
  have e : ∀ n : Int, 0 ≤ n → n ≤ 65535 → (BitVec.ofInt IntKind.i64.bits n).toNat = n.toNat := by
    intro n h0 h1
    rw [BitVec.toNat_ofInt]
    have : ((2 ^ IntKind.i64.bits : Nat) : Int) = 18446744073709551616 := by decide
    rw [this]
    omega
  unfold Go.bits
  dsimp only
  rw [BitVec.toNat_or, e x hx.1 hx.2, e y hy.1 (by omega)]
  have lt : x.toNat ||| y.toNat < 2 ^ 16 := Nat.or_lt_two_pow (by omega) (by omega)
  have w : IntKind.i64.wrap ((x.toNat ||| y.toNat : Nat) : Int) = ((x.toNat ||| y.toNat : Nat) : Int) := by rw [IntKind.wrap_i64]; omega
  rw [w]
  constructor
  · intro h
    have h0 : x.toNat ||| y.toNat = 0 := by omega
    have := Nat.or_eq_zero_iff.mp h0
    omega
  · rintro ⟨rfl, rfl⟩; rfl
theorem link_ex (a : ByteArray) : ∃ l, addr_Link.f a = some l := by
  unfold addr_Link.f
  by_cases c : (a.size : Int) = 16
  · have z : ((⟨#[254, 128, 0, 0, 0, 0, 0, 0]⟩ : ByteArray).size : Int) = 8 := by decide
    unfold strings_HasPrefix.f stringslite_HasPrefix.f
    rw [if_pos c, if_pos (by rw [z]; omega), if_pos (by rw [z]; omega), if_pos (by rw [z]; omega)]
    exact ⟨_, rfl⟩
  · rw [if_neg c]; exact ⟨_, rfl⟩

def nz : ByteArray := strOfNums (List.replicate 16 0)
def linkP (a : ByteArray) : Bool := (addr_Link.f a).getD false
theorem linkP_f (a : ByteArray) : addr_Link.f a = some (linkP a) := by
  obtain ⟨l, h⟩ := link_ex a
  unfold linkP
  rw [h]; rfl
theorem linkP_size {a : ByteArray} (h : linkP a = true) : a.size = 16 := by
  unfold linkP addr_Link.f at h
  by_cases c : (a.size : Int) = 16
  · omega
  · rw [if_neg c] at h; cases h
theorem nz_size : nz.size = 16 := rfl
def ngNx (a : ByteArray) : ByteArray := if linkP a = true then a else nz
/-- A route's message. -/
def ngM (c : Int) (p : ByteArray) (n t : Int) (nx : ByteArray) (m : Int) : S34 := ⟨2, c, 0, ⟨#[]⟩, 0, 0, p, n, t, nx, m, ⟨#[]⟩, 0, 0, 0, 0, 0, 0, 0, ⟨#[]⟩, ⟨#[]⟩, [], 0, ⟨#[]⟩, []⟩
/-- From a place on, with a next hop, stand the entries of these routes. -/
inductive Got (b : ByteArray) (c : Int) : Nat → ByteArray → List S34 → Prop
  | nil (nx : ByteArray) : Got b c b.size nx []
  | hop (a : Nat) (nx s : ByteArray) (l : List S34) (h : a + 20 ≤ b.size) (e : b.extract a (a + 20) = s) (m : bt s 19 = 255) (z : bt s 16 * 256 + bt s 17 = 0 ∧ bt s 18 = 0) (t : Got b c (a + 20) (ngNx (s.extract 0 16)) l) : Got b c a nx l
  | route (a : Nat) (nx s : ByteArray) (l : List S34) (h : a + 20 ≤ b.size) (e : b.extract a (a + 20) = s) (r : rightP (s.extract 0 16) (bt s 18) = true) (m : 1 ≤ bt s 19 ∧ bt s 19 ≤ 16) (t : Got b c (a + 20) nx l) : Got b c a nx (ngM c (s.extract 0 16) (bt s 18) (bt s 16 * 256 + bt s 17) nx (bt s 19) :: l)
theorem got_len {b : ByteArray} {c : Int} {a : Nat} {nx : ByteArray} {l : List S34} (g : Got b c a nx l) : ∃ q, a + 20 * q = b.size ∧ l.length ≤ q := by
  induction g with
  | nil nx => exact ⟨0, by omega, by simp⟩
  | hop a nx s l h e m z t ih => obtain ⟨q, h1, h2⟩ := ih; exact ⟨q + 1, by omega, by omega⟩
  | route a nx s l h e r m t ih => obtain ⟨q, h1, h2⟩ := ih; exact ⟨q + 1, by omega, by rw [List.length_cons]; omega⟩
theorem hop_f (nx s : ByteArray) (mk n2 : ByteArray) (m : Int) : ripng_reader_hop.f nx (bt s 18) (bt s 16 * 256 + bt s 17) (s.extract 0 16) mk n2 m = if bt s 16 * 256 + bt s 17 = 0 ∧ bt s 18 = 0 then some (0, ngNx (s.extract 0 16)) else some (5, nx) := by
  have f0 := bt_range s 18; have f1 := bt_range s 16; have f2 := bt_range s 17
  have oz := or_zero64 (bt s 16 * 256 + bt s 17) (bt s 18) (by omega) (by omega)
  unfold ripng_reader_hop.f
  by_cases c : Go.bits .or .i64 (bt s 16 * 256 + bt s 17) (bt s 18) = 0
  · rw [if_pos c, if_pos (oz.mp c), zeros16, Option.bind_some, linkP_f, Option.bind_some]
    rfl
  · rw [if_neg c, if_neg (fun h => c (oz.mpr h))]
def ngFin (b : ByteArray) (xs : List S34) : List S34 × Int × Int := if (xs.length : Int) = 0 then ([], (b.size : Int), 8) else (xs, 0, 0)
theorem ngstep (b : ByteArray) (hb : b.size ≤ 100000) (k a : Nat) (nx s : ByteArray) (xs : List S34) (h : a + 20 ≤ b.size) (e : b.extract a (a + 20) = s) : ripng_Parse.l0 (k + 1) b a nx xs = (ripng_reader_entry.f (wrap64 (bt b 0)) nx xs (bt s 18) (bt s 16 * 256 + bt s 17) (s.extract 0 16) (⟨#[]⟩ : ByteArray) (⟨#[]⟩ : ByteArray) (bt s 19)).bind fun r => if r.1 = 0 then ripng_Parse.l0 k b ((a + 20 : Nat) : Int) r.2.1 r.2.2 else some ([], (a : Int), r.1) := by
  have hi : (a : Int) < (b.size : Int) := by omega
  have h0 : 0 ≤ (a : Int) := by omega
  have w : wrap64 ((a : Int) + 20) = ((a + 20 : Nat) : Int) := by rw [wrap64_id (by omega) (by omega)]; omega
  have h1 : (a : Int) ≤ ((a + 20 : Nat) : Int) := by omega
  have h2 : ((a + 20 : Nat) : Int) ≤ (b.size : Int) := by omega
  have s20 : (b.extract (a : Int).toNat ((a + 20 : Nat) : Int).toNat).size = 20 := by rw [size_ext]; omega
  rw [ripng_Parse.l0, if_pos hi, if_pos h0, w, if_pos h1, if_pos h2, rte_Get_f, if_pos s20, Option.bind_some]
  dsimp only
  rw [Int.toNat_natCast, Int.toNat_natCast, e]
theorem ngend (b : ByteArray) (k : Nat) (nx : ByteArray) (xs : List S34) : ripng_Parse.l0 (k + 1) b b.size nx xs = some (ngFin b xs) := by
  rw [ripng_Parse.l0, if_neg (by omega)]
  unfold ngFin
  by_cases c : (xs.length : Int) = 0
  · rw [if_pos c, if_pos c]
  · rw [if_neg c, if_neg c]
theorem got_parse (b : ByteArray) (hb : b.size ≤ 100000) {a : Nat} {nx : ByteArray} {l : List S34} (g : Got b (wrap64 (bt b 0)) a nx l) : ∀ (k : Nat) (xs : List S34), b.size - a < k → xs.length ≤ a → ripng_Parse.l0 k b a nx xs = some (ngFin b (xs ++ l)) := by
  induction g with
  | nil nx =>
    intro k xs hk hx
    obtain ⟨k, rfl⟩ : ∃ j, k = j + 1 := ⟨k - 1, by omega⟩
    rw [ngend, List.append_nil]
  | hop a nx s l h e m z t ih =>
    intro k xs hk hx
    obtain ⟨k, rfl⟩ : ∃ j, k = j + 1 := ⟨k - 1, by omega⟩
    rw [ngstep b hb k a nx s xs h e]
    unfold ripng_reader_entry.f
    rw [if_pos m, hop_f, if_pos z, Option.bind_some, Option.bind_some]
    dsimp only
    rw [if_pos rfl]
    exact ih k xs (by omega) (by omega)
  | route a nx s l h e r m t ih =>
    intro k xs hk hx
    obtain ⟨k, rfl⟩ : ∃ j, k = j + 1 := ⟨k - 1, by omega⟩
    rw [ngstep b hb k a nx s xs h e]
    unfold ripng_reader_entry.f
    rw [if_neg (by omega), prefix_Right_f, r, Option.bind_some, if_pos rfl, if_neg (by omega), if_neg (by omega), if_pos (by omega), Option.bind_some]
    dsimp only
    rw [if_pos rfl, ih k _ (by omega) (by rw [List.length_append]; simp only [List.length_cons, List.length_nil]; omega), List.append_assoc]
    rfl
/-- Entries are routes', or one of them is none. -/
theorem got_or (b : ByteArray) (hb : b.size ≤ 100000) (q : Nat) : ∀ (a : Nat) (nx : ByteArray), a + 20 * q = b.size → (∃ l, Got b (wrap64 (bt b 0)) a nx l) ∨ ∃ i e : Int, e ≠ 0 ∧ (a : Int) ≤ i ∧ i ≤ (b.size : Int) ∧ ∀ (k : Nat) (xs : List S34), b.size - a < k → xs.length ≤ a → ripng_Parse.l0 k b a nx xs = some ([], i, e) := by
  induction q with
  | zero => intro a nx h; exact .inl ⟨[], by rw [show a = b.size by omega]; exact .nil nx⟩
  | succ q ih =>
    intro a nx h
    have h' : a + 20 ≤ b.size := by omega
    generalize e : b.extract a (a + 20) = s
    have f0 := bt_range s 18; have f1 := bt_range s 16; have f2 := bt_range s 17; have f3 := bt_range s 19
    by_cases m : bt s 19 = 255
    · by_cases z : bt s 16 * 256 + bt s 17 = 0 ∧ bt s 18 = 0
      · rcases ih (a + 20) (ngNx (s.extract 0 16)) (by omega) with ⟨l, g⟩ | ⟨i, x, h1, h2, h3, h4⟩
        · exact .inl ⟨l, .hop a nx s l h' e m z g⟩
        · refine .inr ⟨i, x, h1, by omega, h3, fun k xs hk hx => ?_⟩
          obtain ⟨k, rfl⟩ : ∃ j, k = j + 1 := ⟨k - 1, by omega⟩
          rw [ngstep b hb k a nx s xs h' e]
          unfold ripng_reader_entry.f
          rw [if_pos m, hop_f, if_pos z, Option.bind_some, Option.bind_some]
          dsimp only
          rw [if_pos rfl]
          exact h4 k xs (by omega) (by omega)
      · refine .inr ⟨a, 5, by decide, by omega, by omega, fun k xs hk hx => ?_⟩
        obtain ⟨k, rfl⟩ : ∃ j, k = j + 1 := ⟨k - 1, by omega⟩
        rw [ngstep b hb k a nx s xs h' e]
        unfold ripng_reader_entry.f
        rw [if_pos m, hop_f, if_neg z, Option.bind_some, Option.bind_some]
        dsimp only
        rw [if_neg (by decide)]
    · by_cases r : rightP (s.extract 0 16) (bt s 18) = true
      · by_cases c : 1 ≤ bt s 19 ∧ bt s 19 ≤ 16
        · rcases ih (a + 20) nx (by omega) with ⟨l, g⟩ | ⟨i, x, h1, h2, h3, h4⟩
          · exact .inl ⟨_, .route a nx s l h' e r c g⟩
          · refine .inr ⟨i, x, h1, by omega, h3, fun k xs hk hx => ?_⟩
            obtain ⟨k, rfl⟩ : ∃ j, k = j + 1 := ⟨k - 1, by omega⟩
            rw [ngstep b hb k a nx s xs h' e]
            unfold ripng_reader_entry.f
            rw [if_neg m, prefix_Right_f, r, Option.bind_some, if_pos rfl, if_neg (by omega), if_neg (by omega), if_pos (by omega), Option.bind_some]
            dsimp only
            rw [if_pos rfl]
            exact h4 k _ (by omega) (by rw [List.length_append]; simp only [List.length_cons, List.length_nil]; omega)
        · refine .inr ⟨a, 6, by decide, by omega, by omega, fun k xs hk hx => ?_⟩
          obtain ⟨k, rfl⟩ : ∃ j, k = j + 1 := ⟨k - 1, by omega⟩
          rw [ngstep b hb k a nx s xs h' e]
          unfold ripng_reader_entry.f
          rw [if_neg m, prefix_Right_f, r, Option.bind_some, if_pos rfl]
          by_cases c1 : bt s 19 < 1
          · rw [if_pos c1, Option.bind_some]
            dsimp only
            rw [if_neg (by decide)]
          · rw [if_neg c1, if_pos (by omega), Option.bind_some]
            dsimp only
            rw [if_neg (by decide)]
      · refine .inr ⟨a, 7, by decide, by omega, by omega, fun k xs hk hx => ?_⟩
        obtain ⟨k, rfl⟩ : ∃ j, k = j + 1 := ⟨k - 1, by omega⟩
        rw [ngstep b hb k a nx s xs h' e]
        unfold ripng_reader_entry.f
        rw [if_neg m, prefix_Right_f, Option.bind_some, if_neg r, Option.bind_some]
        dsimp only
        rw [if_neg (by decide)]
/-- Where something is wrong ahead of the entries, and why. -/
def ngHd (b : ByteArray) : Int × Int :=
  if (b.size : Int) < 4 then ((b.size : Int), 2) else if ¬ (bt b 0 = 1 ∨ bt b 0 = 2) then (0, 4) else if ¬ bt b 1 = 1 then (1, 4) else if ¬ (bt b 2 = 0 ∧ bt b 3 = 0) then (2, 5) else if ¬ (b.size : Int) % 20 = 4 then ((b.size : Int), 2) else (0, 0)
theorem zero24 (b : ByteArray) (h : 4 ≤ b.size) : octet_Zero.f (b.extract 2 4) = some (decide (bt b 2 = 0 ∧ bt b 3 = 0)) := by
  unfold octet_Zero.f
  have z : (b.extract 2 4).size = 2 := by rw [size_ext]; omega
  rw [if_pos (by omega)]
  congr 1
  have e0 := bt_ext b 2 4 0 (by decide)
  have e1 := bt_ext b 2 4 1 (by decide)
  rw [if_pos (by omega)] at e0 e1
  have d0 := bt_getD (b.extract 2 4) 0
  have d1 := bt_getD (b.extract 2 4) 1
  have z' := data_length (b.extract 2 4)
  rw [z] at z'
  generalize (b.extract 2 4).data.toList = l at d0 d1 z' ⊢
  match l, z' with
  | [x, y], _ =>
    have d0' : bt b 2 = ((x.toNat : Nat) : Int) := by rw [← show ((2 : Nat) : Int) + 0 = 2 by decide, ← e0]; exact d0
    have d1' : bt b 3 = ((y.toNat : Nat) : Int) := by rw [← show ((2 : Nat) : Int) + 1 = 3 by decide, ← e1]; exact d1
    have i0 : x = 0 ↔ bt b 2 = 0 := by rw [d0', ← UInt8.toNat_inj]; simp
    have i1 : y = 0 ↔ bt b 3 = 0 := by rw [d1', ← UInt8.toNat_inj]; simp
    rw [Bool.eq_iff_iff, decide_eq_true_iff, ← i0, ← i1]
    simp
theorem head_f (b : ByteArray) (hb : b.size ≤ 65535) (k : Nat) (hk : 1 ≤ k) : ripng_head.f k b = some (ngHd b) := by
  obtain ⟨k, rfl⟩ : ∃ j, k = j + 1 := ⟨k - 1, by omega⟩
  unfold ripng_head.f ngHd
  rw [if_neg (by omega)]
  by_cases c0 : (b.size : Int) < 4
  · rw [if_pos c0, if_pos c0]
  rw [if_neg c0, if_neg c0, if_pos (by omega)]
  have main : ripng_head.j0 (k + 1) b (b.size : Int) false = some (if ¬ bt b 1 = 1 then (1, 4) else if ¬ (bt b 2 = 0 ∧ bt b 3 = 0) then (2, 5) else if ¬ (b.size : Int) % 20 = 4 then ((b.size : Int), 2) else (0, 0)) := by
    rw [ripng_head.j0, if_neg (by decide), if_pos (by omega)]
    by_cases c1 : bt b 1 = 1
    · rw [if_pos c1, if_pos (by decide), if_pos (by omega), zero24 b (by omega), Option.bind_some, if_neg (not_not_intro c1), Int.tmod_eq_emod_of_nonneg (by omega)]
      by_cases c2 : bt b 2 = 0 ∧ bt b 3 = 0
      · rw [if_pos (decide_eq_true c2), if_neg (not_not_intro c2)]
        by_cases c3 : (b.size : Int) % 20 = 4
        · rw [if_pos c3, if_neg (not_not_intro c3)]
        · rw [if_neg c3, if_pos c3]
      · rw [if_neg (by rw [decide_eq_true_iff]; exact c2), if_pos c2]
    · rw [if_neg c1, if_pos c1]
  by_cases c1 : bt b 0 = 1
  · rw [if_pos c1, if_neg (not_not_intro (.inl c1)), main]
  · rw [if_neg c1]
    by_cases c2 : bt b 0 = 2
    · rw [show (bt b 0 != 2) = false by rw [c2]; rfl, if_neg (not_not_intro (.inr c2)), main]
    · rw [show (bt b 0 != 2) = true from bne_iff_ne.mpr c2, ripng_head.j0, if_pos rfl, if_pos (by omega)]
theorem hd_ok {b : ByteArray} (h : (ngHd b).2 = 0) : 4 ≤ b.size ∧ (bt b 0 = 1 ∨ bt b 0 = 2) ∧ bt b 1 = 1 ∧ bt b 2 = 0 ∧ bt b 3 = 0 ∧ ∃ q, 4 + 20 * q = b.size := by
  unfold ngHd at h
  by_cases c0 : (b.size : Int) < 4
  · rw [if_pos c0] at h; cases h
  rw [if_neg c0] at h
  by_cases c1 : bt b 0 = 1 ∨ bt b 0 = 2
  · rw [if_neg (not_not_intro c1)] at h
    by_cases c2 : bt b 1 = 1
    · rw [if_neg (not_not_intro c2)] at h
      by_cases c3 : bt b 2 = 0 ∧ bt b 3 = 0
      · rw [if_neg (not_not_intro c3)] at h
        by_cases c4 : (b.size : Int) % 20 = 4
        · exact ⟨by omega, c1, c2, c3.1, c3.2, (b.size - 4) / 20, by omega⟩
        · rw [if_pos c4] at h; cases h
      · rw [if_pos c3] at h; cases h
    · rw [if_pos c2] at h; cases h
  · rw [if_pos c1] at h; cases h
theorem hd_at (b : ByteArray) : 0 ≤ (ngHd b).1 ∧ (ngHd b).1 ≤ (b.size : Int) := by
  unfold ngHd
  split
  · exact ⟨by dsimp only; omega, by dsimp only; omega⟩
  · split
    · exact ⟨by dsimp only; omega, by dsimp only; omega⟩
    · split
      · exact ⟨by dsimp only; omega, by dsimp only; omega⟩
      · split
        · exact ⟨by dsimp only; omega, by dsimp only; omega⟩
        · split
          · exact ⟨by dsimp only; omega, by dsimp only; omega⟩
          · exact ⟨by dsimp only; omega, by dsimp only; omega⟩
/-- What the program parses. -/
theorem parse_or (b : ByteArray) (hb : b.size ≤ 65535) : (∃ l, l ≠ [] ∧ (ngHd b).2 = 0 ∧ Got b (wrap64 (bt b 0)) 4 nz l ∧ ∀ k, b.size < k → ripng_Parse.f k b = some (l, 0, 0)) ∨ ∃ i e : Int, e ≠ 0 ∧ 0 ≤ i ∧ i ≤ (b.size : Int) ∧ ∀ k, b.size < k → ripng_Parse.f k b = some ([], i, e) := by
  have at0 := hd_at b
  by_cases h : (ngHd b).2 = 0
  · obtain ⟨h0, h1, h2, h3, h4, q, hq⟩ := hd_ok h
    have go : ∀ k, b.size < k → ripng_Parse.f k b = ripng_Parse.l0 k b (4 : Nat) nz [] := by
      intro k hk
      unfold ripng_Parse.f
      rw [head_f b hb k (by omega), Option.bind_some, if_pos h, if_pos (by omega), zeros16, Option.bind_some]
      rfl
    rcases got_or b (by omega) q 4 nz hq with ⟨l, g⟩ | ⟨i, e, g1, g2, g3, g4⟩
    · cases l with
      | nil =>
        refine .inr ⟨b.size, 8, by decide, by omega, by omega, fun k hk => ?_⟩
        rw [go k hk, got_parse b (by omega) g k [] (by omega) (by simp)]
        rfl
      | cons x l =>
        refine .inl ⟨x :: l, by simp, h, g, fun k hk => ?_⟩
        rw [go k hk, got_parse b (by omega) g k [] (by omega) (by simp), List.nil_append]
        unfold ngFin
        rw [if_neg (by rw [List.length_cons]; omega)]
    · refine .inr ⟨i, e, g1, by omega, g3, fun k hk => ?_⟩
      rw [go k hk, g4 k [] (by omega) (by simp)]
  · refine .inr ⟨(ngHd b).1, (ngHd b).2, h, at0.1, at0.2, fun k hk => ?_⟩
    unfold ripng_Parse.f
    rw [head_f b hb k (by omega), Option.bind_some, if_neg h]

theorem bareq2 (a1 : Int) (a2 : Int) (a3 : ByteArray) (a4 : Int) (a5 : Int) (a6 : ByteArray) (a7 : Int) (a8 : Int) (a9 : ByteArray) (a10 : Int) (a11 : ByteArray) (a12 : Int) (a13 : Int) (a14 : Int) (a15 : Int) (a16 : Int) (a17 : Int) (a18 : Int) (a19 : ByteArray) (a20 : ByteArray) (a21 : List S66) (a22 : Int) (a23 : ByteArray) (a24 : List S68) : msg_Bare.b 2 a1 a2 a3 a4 a5 a6 a7 a8 a9 a10 a11 a12 a13 a14 a15 a16 a17 a18 a19 a20 a21 a22 a23 a24 = true ↔ (a2 = 0 ∧ a3 = (⟨#[]⟩ : ByteArray) ∧ a4 = 0 ∧ a5 = 0 ∧ a11 = (⟨#[]⟩ : ByteArray) ∧ a12 = 0 ∧ a13 = 0 ∧ a14 = 0 ∧ a15 = 0 ∧ a16 = 0 ∧ a17 = 0 ∧ a18 = 0 ∧ a19 = (⟨#[]⟩ : ByteArray) ∧ a20 = (⟨#[]⟩ : ByteArray) ∧ a21 = ([] : List S66) ∧ a22 = 0 ∧ a23 = (⟨#[]⟩ : ByteArray) ∧ a24 = ([] : List S68)) := by
  rw [msg_Bare.b2]
  unfold msg_Bare.z
  simp only [Bool.and_eq_true, beq_iff_eq, beq_self_eq_true, toList_inj, true_and, and_true, Int.natCast_eq_zero, List.length_eq_zero_iff]
  constructor
  · intro h
    simp only [h, and_self]
  · intro h
    simp only [h, and_self]

theorem rd_memM {l : List S34} {i : Nat} (h : i < l.length) : rd_T34 l (i : Int) ∈ l := by
  unfold rd_T34
  rw [Int.toNat_natCast, List.getD_eq_getElem?_getD, List.getElem?_eq_getElem h]
  exact List.getElem_mem h
theorem rd_extM {l m : List S34} (c : l.length = m.length) : (∀ j : Nat, 0 ≤ j → j < l.length → rd_T34 l (j : Int) = rd_T34 m (j : Int)) ↔ l = m := by
  refine ⟨fun h => ?_, fun h j _ _ => by rw [h]⟩
  apply List.ext_getElem c
  intro i h1 h2
  have := h i (by omega) h1
  unfold rd_T34 at this
  rwa [Int.toNat_natCast, List.getD_eq_getElem?_getD, List.getD_eq_getElem?_getD, List.getElem?_eq_getElem h1, List.getElem?_eq_getElem h2] at this

def ent (p : ByteArray) (n t m : Int) : ByteArray := p ++ strOfNums [(t / 256) % 256, t % 256, n % 256, m % 256]
/-- A route's bytes, the next hop's entry ahead of them if it is another one. -/
def enc1 (nx : ByteArray) (x : S34) : ByteArray := if x.f9 = nx then ent x.f6 x.f7 x.f8 x.f10 else ent x.f9 0 0 255 ++ ent x.f6 x.f7 x.f8 x.f10
def enc : ByteArray → List S34 → ByteArray
  | _, [] => ⟨#[]⟩
  | nx, x :: l => enc1 nx x ++ enc x.f9 l
structure RightN (x : S34) : Prop where
  eq : x = ngM x.f1 x.f6 x.f7 x.f8 x.f9 x.f10
  cmd : x.f1 = 1 ∨ x.f1 = 2
  tag : 0 ≤ x.f8 ∧ x.f8 ≤ 65535
  met : 1 ≤ x.f10 ∧ x.f10 ≤ 16
  len : x.f6.size = 16
  pre : rightP x.f6 x.f7 = true
  nxt : x.f9 = nz ∨ linkP x.f9 = true
theorem RightN.nsize {x : S34} (h : RightN x) : x.f9.size = 16 := by
  rcases h.nxt with e | e
  · rw [e]; rfl
  · exact linkP_size e
theorem RightN.plen {x : S34} (h : RightN x) : 0 ≤ x.f7 ∧ x.f7 ≤ 128 := by
  have := h.pre
  unfold rightP at this
  rw [decide_eq_true_iff] at this
  have := h.len
  omega
theorem rightj1 (k : Nat) (q : Bool) (x : S34) : ripng_Right.j1 (k + 1) q x.f0 x.f1 x.f2 x.f3 x.f4 x.f5 x.f6 x.f7 x.f8 x.f9 x.f10 x.f11 x.f12 x.f13 x.f14 x.f15 x.f16 x.f17 x.f18 x.f19 x.f20 x.f21 x.f22 x.f23 x.f24 = some (!q && (decide (x.f9 = nz) || linkP x.f9)) := by
  rw [ripng_Right.j1]
  cases q with
  | true => rw [if_pos rfl]; rfl
  | false =>
    rw [if_neg (by decide), zeros16, Option.bind_some, linkP_f, Option.bind_some]
    by_cases c : x.f9 = nz
    · rw [if_pos (show _ = (strOfNums (List.replicate 16 0)).toList by rw [c]; rfl), decide_eq_true c]; rfl
    · rw [if_neg (show ¬ _ = (strOfNums (List.replicate 16 0)).toList from fun h => c (toList_inj.mp h)), decide_eq_false c]; rfl
/-- j0. -/
theorem rightj0 (k : Nat) (q : Bool) (x : S34) : ripng_Right.j0 (k + 2) q x.f0 x.f1 x.f2 x.f3 x.f4 x.f5 x.f6 x.f7 x.f8 x.f9 x.f10 x.f11 x.f12 x.f13 x.f14 x.f15 x.f16 x.f17 x.f18 x.f19 x.f20 x.f21 x.f22 x.f23 x.f24 = some (!q && (decide (1 ≤ x.f10 ∧ x.f10 ≤ 16 ∧ x.f6.size = 16) && (rightP x.f6 x.f7 && (decide (x.f9 = nz) || linkP x.f9)))) := by
  rw [ripng_Right.j0]
  cases q with
  | true => rw [if_pos rfl]; rfl
  | false =>
    rw [if_neg (by decide)]
    by_cases c1 : x.f10 < 1
    · rw [if_pos c1, rightj1, decide_eq_false (show ¬ (1 ≤ x.f10 ∧ x.f10 ≤ 16 ∧ x.f6.size = 16) by omega)]; rfl
    rw [if_neg c1]
    by_cases c2 : x.f10 > 16
    · rw [if_pos c2, rightj1, decide_eq_false (show ¬ (1 ≤ x.f10 ∧ x.f10 ≤ 16 ∧ x.f6.size = 16) by omega)]; rfl
    rw [if_neg c2]
    by_cases c3 : (x.f6.size : Int) = 16
    · rw [if_pos c3, prefix_Right_f, Option.bind_some, rightj1, decide_eq_true (show 1 ≤ x.f10 ∧ x.f10 ≤ 16 ∧ x.f6.size = 16 by omega)]
      cases rightP x.f6 x.f7 <;> rfl
    · rw [if_neg c3, rightj1, decide_eq_false (show ¬ (1 ≤ x.f10 ∧ x.f10 ≤ 16 ∧ x.f6.size = 16) by omega)]; rfl
theorem eq_ngM (x : S34) (c0 : x.f0 = 2) (B : x.f2 = 0 ∧ x.f3 = (⟨#[]⟩ : ByteArray) ∧ x.f4 = 0 ∧ x.f5 = 0 ∧ x.f11 = (⟨#[]⟩ : ByteArray) ∧ x.f12 = 0 ∧ x.f13 = 0 ∧ x.f14 = 0 ∧ x.f15 = 0 ∧ x.f16 = 0 ∧ x.f17 = 0 ∧ x.f18 = 0 ∧ x.f19 = (⟨#[]⟩ : ByteArray) ∧ x.f20 = (⟨#[]⟩ : ByteArray) ∧ x.f21 = [] ∧ x.f22 = 0 ∧ x.f23 = (⟨#[]⟩ : ByteArray) ∧ x.f24 = []) : x = ngM x.f1 x.f6 x.f7 x.f8 x.f9 x.f10 := by
  obtain ⟨x0, x1, x2, x3, x4, x5, x6, x7, x8, x9, x10, x11, x12, x13, x14, x15, x16, x17, x18, x19, x20, x21, x22, x23, x24⟩ := x
  dsimp only at B c0 ⊢
  obtain ⟨h1, h2, h3, h4, h5, h6, h7, h8, h9, h10, h11, h12, h13, h14, h15, h16, h17, h18⟩ := B
  subst c0 h1 h2 h3 h4 h5 h6 h7 h8 h9 h10 h11 h12 h13 h14 h15 h16 h17 h18
  rfl
theorem right_ex (k : Nat) (x : S34) (ht : -9223372036854775808 ≤ x.f8 ∧ x.f8 ≤ 9223372036854775807) : ∃ r, ripng_Right.f (k + 2) x.f0 x.f1 x.f2 x.f3 x.f4 x.f5 x.f6 x.f7 x.f8 x.f9 x.f10 x.f11 x.f12 x.f13 x.f14 x.f15 x.f16 x.f17 x.f18 x.f19 x.f20 x.f21 x.f22 x.f23 x.f24 = some r ∧ (r = true ↔ RightN x) := by
  unfold ripng_Right.f
  by_cases c0 : x.f0 = 2
  · rw [if_pos c0]
    unfold msg_Bare.f
    rw [if_pos c0, Option.bind_some]
    have B := bareq2 x.f1 x.f2 x.f3 x.f4 x.f5 x.f6 x.f7 x.f8 x.f9 x.f10 x.f11 x.f12 x.f13 x.f14 x.f15 x.f16 x.f17 x.f18 x.f19 x.f20 x.f21 x.f22 x.f23 x.f24
    rw [← c0] at B
    generalize msg_Bare.b x.f0 x.f1 x.f2 x.f3 x.f4 x.f5 x.f6 x.f7 x.f8 x.f9 x.f10 x.f11 x.f12 x.f13 x.f14 x.f15 x.f16 x.f17 x.f18 x.f19 x.f20 x.f21 x.f22 x.f23 x.f24 = bb at B ⊢
    cases bb with
    | false =>
      rw [if_neg (by decide), rightj0]
      refine ⟨_, rfl, by simp, fun h => ?_⟩
      have e := h.eq
      have : false = true := B.mpr (by rw [e]; exact ⟨rfl, rfl, rfl, rfl, rfl, rfl, rfl, rfl, rfl, rfl, rfl, rfl, rfl, rfl, rfl, rfl, rfl, rfl⟩)
      cases this
    | true =>
      rw [if_pos rfl]
      have B' := B.mp rfl
      have fit : octFits x.f8 2 = decide (0 ≤ x.f8 ∧ x.f8 ≤ 65535) := by
        rw [Bool.eq_iff_iff, octFits_iff, decide_eq_true_iff]
        show (_ ∧ _ ∧ _ ∧ x.f8 < 256 ^ 2) ↔ _
        omega
      have eqx := eq_ngM x c0 B'
      have fin : ∀ (q : Bool), (q = true ↔ ¬ (0 ≤ x.f8 ∧ x.f8 ≤ 65535)) → (x.f1 = 1 ∨ x.f1 = 2) → ((!q && (decide (1 ≤ x.f10 ∧ x.f10 ≤ 16 ∧ x.f6.size = 16) && (rightP x.f6 x.f7 && (decide (x.f9 = nz) || linkP x.f9)))) = true ↔ RightN x) := by
        intro q hq hc
        simp only [Bool.and_eq_true, Bool.or_eq_true, decide_eq_true_iff, Bool.not_eq_true']
        constructor
        · rintro ⟨a, ⟨b1, b2, b3⟩, c, d⟩
          exact ⟨eqx, hc, by (by_cases z : 0 ≤ x.f8 ∧ x.f8 ≤ 65535; exact z; rw [hq.mpr z] at a; cases a), ⟨b1, b2⟩, b3, c, d⟩
        · intro h
          refine ⟨?_, ⟨h.met.1, h.met.2, h.len⟩, h.pre, h.nxt⟩
          cases q with
          | false => rfl
          | true => exact absurd h.tag (hq.mp rfl)
      have tq : ((!decide (0 ≤ x.f8 ∧ x.f8 ≤ 65535)) = true ↔ ¬ (0 ≤ x.f8 ∧ x.f8 ≤ 65535)) := by simp only [Bool.not_eq_true', decide_eq_false_iff_not]
      by_cases c1 : x.f1 = 1
      · rw [if_pos c1, octet_Fits_f _ _ ht.1 ht.2, Option.bind_some, rightj0, fit]
        exact ⟨_, rfl, fin _ tq (.inl c1)⟩
      · rw [if_neg c1]
        by_cases c2 : x.f1 = 2
        · rw [if_pos c2, octet_Fits_f _ _ ht.1 ht.2, Option.bind_some, rightj0, fit]
          exact ⟨_, rfl, fin _ tq (.inr c2)⟩
        · rw [if_neg c2, rightj0]
          exact ⟨_, rfl, by simp, fun h => by have := h.cmd; omega⟩
  · rw [if_neg c0, rightj0]
    exact ⟨_, rfl, by simp, fun h => absurd (by rw [h.eq]; rfl) c0⟩
theorem rtePut_ent (p : ByteArray) (n t m : Int) (hp : p.size = 16) (hn : 0 ≤ n ∧ n ≤ 255) (ht : 0 ≤ t ∧ t ≤ 65535) (hm : 0 ≤ m ∧ m ≤ 255) : rte_Put.f n t p ⟨#[]⟩ ⟨#[]⟩ m = some (ent p n t m, true) := by
  rw [rte_Put_f _ _ _ _ _ _ (by omega) (by omega) (by omega) (by decide)]
  unfold rtePut
  rw [if_pos ⟨hp, rfl, rfl, octFits_iff.mpr ⟨by decide, by decide, by omega, by show t < 256 ^ 2; omega⟩, octFits_iff.mpr ⟨by decide, by decide, by omega, by show n < 256 ^ 1; omega⟩, octFits_iff.mpr ⟨by decide, by decide, by omega, by show m < 256 ^ 1; omega⟩⟩]
  rfl
theorem ent_size (p : ByteArray) (n t m : Int) (hp : p.size = 16) : (ent p n t m).size = 20 := by
  unfold ent
  rw [size_app, size_nums, hp]; rfl
theorem put_ent (xs : List Int) (p : ByteArray) (n t m : Int) (hx : xs.length ≤ 1000000) (hp : p.size = 16) (hn : 0 ≤ n ∧ n ≤ 255) (ht : 0 ≤ t ∧ t ≤ 65535) (hm : 0 ≤ m ∧ m ≤ 255) : ripng_writer_put.f xs n t p ⟨#[]⟩ ⟨#[]⟩ m = some (xs ++ bytesOf (ent p n t m)) := by
  unfold ripng_writer_put.f
  rw [rtePut_ent p n t m hp hn ht hm, Option.bind_some]
  dsimp only
  rw [if_pos (by rw [ent_size p n t m hp]; omega)]
theorem bytesOf_app (a b : ByteArray) : bytesOf (a ++ b) = bytesOf a ++ bytesOf b := by
  unfold bytesOf
  rw [ByteArray.data_append, Array.toList_append, List.map_append]
theorem route_ent (xs : List Int) (nx : ByteArray) (x : S34) (hx : xs.length ≤ 100000) (h : RightN x) : ripng_writer_route.f xs nx x.f6 x.f7 x.f8 x.f9 x.f10 = some (xs ++ bytesOf (enc1 nx x), x.f9) := by
  have pl := h.plen
  have mt := h.met
  unfold ripng_writer_route.f enc1
  by_cases c : x.f9 = nx
  · rw [if_pos (by rw [c]), if_pos c, put_ent xs x.f6 x.f7 x.f8 x.f10 (by omega) h.len (by omega) h.tag (by omega), Option.bind_some, c]
  · rw [if_neg (fun e => c (toList_inj.mp e)), if_neg c, put_ent xs x.f9 0 0 255 (by omega) h.nsize (by omega) (by omega) (by omega), Option.bind_some, put_ent _ x.f6 x.f7 x.f8 x.f10 (by rw [List.length_append, len_bytesOf, ent_size _ _ _ _ h.nsize]; omega) h.len (by omega) h.tag (by omega), Option.bind_some, bytesOf_app, List.append_assoc]
theorem enc1_size (nx : ByteArray) (x : S34) (h : RightN x) : (enc1 nx x).size = if x.f9 = nx then 20 else 40 := by
  unfold enc1
  by_cases c : x.f9 = nx
  · rw [if_pos c, if_pos c, ent_size _ _ _ _ h.len]
  · rw [if_neg c, if_neg c, size_app, ent_size _ _ _ _ h.len, ent_size _ _ _ _ h.nsize]
theorem enc_most (l : List S34) : ∀ nx : ByteArray, (∀ x ∈ l, RightN x) → (enc nx l).size ≤ 40 * l.length := by
  induction l with
  | nil => intro nx h; exact Nat.le_refl 0
  | cons x l ih =>
    intro nx h
    have i := ih x.f9 (fun y hy => h y (by simp [hy]))
    have e := enc1_size nx x (h x (by simp))
    rw [enc, size_app, e, List.length_cons]
    split <;> omega
theorem app_empty (a : ByteArray) : a ++ (⟨#[]⟩ : ByteArray) = a := ByteArray.append_empty
theorem drop_rd (l : List S34) (i : Nat) (h : i < l.length) : l.drop i = rd_T34 l (i : Int) :: l.drop (i + 1) := by
  unfold rd_T34
  rw [Int.toNat_natCast, List.getD_eq_getElem?_getD, List.getElem?_eq_getElem h, List.drop_eq_getElem_cons h]
  rfl
/-- The second loop: the bytes, or where the Cmd is another one. -/
theorem enc_lb (l : List S34) (hl : l.length ≤ 1000) (hr : ∀ x ∈ l, RightN x) (q : Nat) : ∀ (k i : Nat) (nx : ByteArray) (xs : List Int), q < k → l.length - i = q → i ≤ l.length → xs.length + 40 * q ≤ 60000 → ((∀ x ∈ l.drop i, x.f1 = (rd_T34 l 0).f1) ∧ ripng_Encode.lb k l i nx xs = some (strOfNums xs ++ enc nx (l.drop i), 0, 0)) ∨ ∃ j : Nat, j < l.length ∧ (rd_T34 l (j : Int)).f1 ≠ (rd_T34 l 0).f1 ∧ ripng_Encode.lb k l i nx xs = some (⟨#[]⟩, (j : Int), 7) := by
  induction q with
  | zero =>
    intro k i nx xs hk hq hi hx
    obtain ⟨k, rfl⟩ : ∃ j, k = j + 1 := ⟨k - 1, by omega⟩
    left
    rw [ripng_Encode.lb, if_neg (by omega), List.drop_of_length_le (by omega), enc, app_empty]
    exact ⟨fun x hx => by simp at hx, rfl⟩
  | succ q ih =>
    intro k i nx xs hk hq hi hx
    obtain ⟨k, rfl⟩ : ∃ j, k = j + 1 := ⟨k - 1, by omega⟩
    have R := hr _ (rd_memM (i := i) (by omega))
    have e1 := enc1_size nx _ R
    have e2 : (enc1 nx (rd_T34 l (i : Int))).size ≤ 40 := by rw [e1]; split <;> omega
    rw [ripng_Encode.lb, if_pos (by omega), if_pos (by omega), drop_rd l i (by omega)]
    by_cases c : (rd_T34 l (i : Int)).f1 = (rd_T34 l 0).f1
    · rw [if_pos c, route_ent xs nx _ (by omega) R, Option.bind_some]
      dsimp only
      rw [if_neg (by rw [List.length_append, len_bytesOf]; omega), wrap64_id (by omega) (by omega)]
      rcases ih k (i + 1) (rd_T34 l (i : Int)).f9 (xs ++ bytesOf (enc1 nx (rd_T34 l (i : Int)))) (by omega) (by omega) (by omega) (by rw [List.length_append, len_bytesOf]; omega) with ⟨h1, h2⟩ | ⟨j, h1, h0, h2⟩
      · refine .inl ⟨fun x hx => ?_, ?_⟩
        · rcases List.mem_cons.mp hx with rfl | hx
          · exact c
          · exact h1 x hx
        · rw [show ((i : Int) + 1) = ((i + 1 : Nat) : Int) by omega, h2, nums_app, nums_bytes, enc, ByteArray.append_assoc]
      · exact .inr ⟨j, h1, h0, by rw [show ((i : Int) + 1) = ((i + 1 : Nat) : Int) by omega]; exact h2⟩
    · rw [if_neg c]
      exact .inr ⟨i, by omega, c, rfl⟩
theorem enc_la (l : List S34) (hl : l.length ≤ 1000) (ht : ∀ x ∈ l, -9223372036854775808 ≤ x.f8 ∧ x.f8 ≤ 9223372036854775807) (k : Nat) (q : Nat) : ∀ (i : Nat), l.length - i = q → i ≤ l.length → ((∀ x ∈ l.drop i, RightN x) ∧ ripng_Encode.la (k + 2 + q + 1) l i = (if (l.length : Int) = 0 then some (⟨#[]⟩, 0, 8) else ripng_Encode.lb (k + 2) l 0 nz [(rd_T34 l 0).f1 % 256, 1, 0, 0])) ∨ ∃ j : Nat, j < l.length ∧ (¬ RightN (rd_T34 l (j : Int))) ∧ ripng_Encode.la (k + 2 + q + 1) l i = some (⟨#[]⟩, (j : Int), 1) := by
  induction q with
  | zero =>
    intro i hq hi
    left
    rw [ripng_Encode.la, if_neg (by omega), List.drop_of_length_le (by omega)]
    refine ⟨fun x hx => by simp at hx, ?_⟩
    by_cases c : (l.length : Int) = 0
    · rw [if_pos c, if_pos c]
    · rw [if_neg c, if_neg c, zeros16, Option.bind_some]
      rfl
  | succ q ih =>
    intro i hq hi
    obtain ⟨r, e, hr⟩ := right_ex (k + q + 1) (rd_T34 l (i : Int)) (ht _ (rd_memM (i := i) (by omega)))
    rw [show k + 2 + (q + 1) + 1 = (k + 2 + q + 1) + 1 by omega, ripng_Encode.la, if_pos (by omega), if_pos (by omega), show k + 2 + q + 1 = k + q + 1 + 2 by omega, e, Option.bind_some, show k + q + 1 + 2 = k + 2 + q + 1 by omega, wrap64_id (by omega) (by omega)]
    cases r with
    | true =>
      rw [if_pos rfl]
      rcases ih (i + 1) (by omega) (by omega) with ⟨h1, h2⟩ | ⟨j, h1, h2, h3⟩
      · refine .inl ⟨fun x hx => ?_, by rw [show ((i : Int) + 1) = ((i + 1 : Nat) : Int) by omega]; exact h2⟩
        rw [drop_rd l i (by omega)] at hx
        rcases List.mem_cons.mp hx with rfl | hx
        · exact hr.mp rfl
        · exact h1 x hx
      · exact .inr ⟨j, h1, h2, by rw [show ((i : Int) + 1) = ((i + 1 : Nat) : Int) by omega]; exact h3⟩
    | false =>
      rw [if_neg (by decide)]
      exact .inr ⟨i, by omega, (fun h => by have := hr.mpr h; cases this), rfl⟩
/-- A datagram's bytes. -/
def dgm (l : List S34) : ByteArray := strOfNums [(rd_T34 l 0).f1 % 256, 1, 0, 0] ++ enc nz l
structure RightAll (l : List S34) : Prop where
  ne : l ≠ []
  all : ∀ x ∈ l, RightN x
  one : ∀ x ∈ l, x.f1 = (rd_T34 l 0).f1
/-- What the program's Encode answers. -/
theorem encode_or (l : List S34) (hl : l.length ≤ 1000) (ht : ∀ x ∈ l, -9223372036854775808 ≤ x.f8 ∧ x.f8 ≤ 9223372036854775807) : (RightAll l ∧ ∀ k, 2 * l.length + 5 ≤ k → ripng_Encode.f k l = some (dgm l, 0, 0)) ∨ ∃ (j : Nat) (e : Int), e ≠ 0 ∧ j ≤ l.length ∧ (¬ RightAll l) ∧ ∀ k, 2 * l.length + 5 ≤ k → ripng_Encode.f k l = some (⟨#[]⟩, (j : Int), e) := by
  have K : ∀ k, 2 * l.length + 5 ≤ k → ∃ k', k = k' + 2 + l.length + 1 ∧ l.length ≤ k' := fun k hk => ⟨k - 3 - l.length, by omega, by omega⟩
  by_cases c : ∀ x ∈ l, RightN x
  · by_cases c0 : l = []
    · refine .inr ⟨0, 8, by decide, by omega, fun h => h.ne c0, fun k hk => ?_⟩
      obtain ⟨k, rfl, hk'⟩ := K k hk
      unfold ripng_Encode.f
      rcases enc_la l hl ht k l.length 0 (by omega) (by omega) with ⟨h1, h2⟩ | ⟨j, h1, h2, h3⟩
      · rw [show (0 : Int) = ((0 : Nat) : Int) by rfl, h2, if_pos (by rw [c0]; rfl)]; rfl
      · exact absurd (c _ (rd_memM h1)) h2
    · have len0 : ¬ (l.length : Int) = 0 := fun h => c0 (List.length_eq_zero_iff.mp (by omega))
      have go : ∀ k, ripng_Encode.f (k + 2 + l.length + 1) l = ripng_Encode.lb (k + 2) l 0 nz [(rd_T34 l 0).f1 % 256, 1, 0, 0] := by
        intro k
        unfold ripng_Encode.f
        rcases enc_la l hl ht k l.length 0 (by omega) (by omega) with ⟨h1, h2⟩ | ⟨j, h1, h2, h3⟩
        · rw [show (0 : Int) = ((0 : Nat) : Int) by rfl, h2, if_neg len0]; rfl
        · exact absurd (c _ (rd_memM h1)) h2
      have hx : ([(rd_T34 l 0).f1 % 256, 1, 0, 0] : List Int).length + 40 * l.length ≤ 60000 := by simp only [List.length_cons, List.length_nil]; omega
      rcases enc_lb l hl c l.length (l.length + 2) 0 nz [(rd_T34 l 0).f1 % 256, 1, 0, 0] (by omega) (by omega) (by omega) hx with ⟨h1, h2⟩ | ⟨j, h1, h0, h2⟩
      · refine .inl ⟨⟨c0, c, fun x hx => h1 x (by simpa using hx)⟩, fun k hk => ?_⟩
        obtain ⟨k, rfl, hk'⟩ := K k hk
        rw [go k]
        exact at_rounds (g := fun k => ripng_Encode.lb k l 0 nz [(rd_T34 l 0).f1 % 256, 1, 0, 0]) (fun k => ripng_Encode.mono_b k _ _ _ _) (show l.length + 2 ≤ k + 2 by omega) (by rw [List.drop_zero] at h2; exact h2)
      · refine .inr ⟨j, 7, by decide, by omega, fun h => h0 (h.one _ (rd_memM h1)), fun k hk => ?_⟩
        obtain ⟨k, rfl, hk'⟩ := K k hk
        rw [go k]
        exact at_rounds (g := fun k => ripng_Encode.lb k l 0 nz [(rd_T34 l 0).f1 % 256, 1, 0, 0]) (fun k => ripng_Encode.mono_b k _ _ _ _) (show l.length + 2 ≤ k + 2 by omega) h2
  · have F : ∃ j : Nat, j ≤ l.length ∧ ∀ k, ripng_Encode.f (k + 2 + l.length + 1) l = some (⟨#[]⟩, (j : Int), 1) := by
      rcases enc_la l hl ht 0 l.length 0 (by omega) (by omega) with ⟨h1, h2⟩ | ⟨j, h1, h2, h3⟩
      · exact absurd (fun x hx => h1 x (by simpa using hx)) c
      · refine ⟨j, by omega, fun k => ?_⟩
        unfold ripng_Encode.f
        exact at_rounds (g := fun k => ripng_Encode.la k l 0) (fun k => ripng_Encode.mono_a k _ _) (show 0 + 2 + l.length + 1 ≤ k + 2 + l.length + 1 by omega) h3
    obtain ⟨j, h1, h2⟩ := F
    refine .inr ⟨j, 1, by decide, h1, fun h => c h.all, fun k hk => ?_⟩
    obtain ⟨k, rfl, hk'⟩ := K k hk
    exact h2 k

theorem getD_ext {a b : List Int} (hl : a.length = b.length) (h : ∀ j, j < a.length → a.getD j 0 = b.getD j 0) : a = b := by
  apply List.ext_getElem hl
  intro i h1 h2
  have := h i h1
  rw [List.getD_eq_getElem?_getD, List.getElem?_eq_getElem h1, List.getD_eq_getElem?_getD, List.getElem?_eq_getElem h2] at this
  exact this
theorem keepL_eq (s : ByteArray) {a b : Int} (h : ∀ j : Nat, j < s.size → kb (bt s j) (a - 8 * j) = kb (bt s j) (b - 8 * j)) : keepL s a = keepL s b := by
  refine getD_ext (by rw [keepL_length, keepL_length]) fun j hj => ?_
  rw [keepL_length] at hj
  rw [keepL_getD _ _ _ hj, keepL_getD _ _ _ hj, h j hj]
theorem kb_low (b : Int) {m : Int} (h : m ≤ 0) : kb b m = 0 := by unfold kb; rw [if_pos h]
theorem kb_high (b : Int) {m : Int} (h : 8 ≤ m) : kb b m = b := by unfold kb; rw [if_neg (by omega), if_pos h]
theorem keepL_step (s : ByteArray) (i : Int) (h0 : 0 ≤ i) (h1 : i < 8 * s.size) :
    keepL s (i + 1) = if bit s i = true then (keepL s i).set (i / 8).toNat (kb (bt s (i / 8)) (i - 8 * (i / 8)) + 2 ^ (7 - (i % 8).toNat)) else keepL s i := by
  obtain ⟨q, hq⟩ : ∃ q : Nat, i / 8 = q := ⟨(i / 8).toNat, by omega⟩
  have hb : bit s i = bitAt (bt s (i / 8)) (i % 8).toNat := by unfold bit; rw [decide_eq_true ⟨h0, h1⟩, Bool.true_and]
  have hstep : kb (bt s q) (i + 1 - 8 * q) = kb (bt s q) (i - 8 * q) + if bitAt (bt s q) (i % 8).toNat = true then 2 ^ (7 - (i % 8).toNat) else 0 := by
    obtain ⟨x, hx⟩ := byte_fin (bt_range s q)
    rw [hx]
    have := kb_step_fin x ⟨(i % 8).toNat, by omega⟩
    simp only at this
    rw [show i + 1 - 8 * (q : Int) = (((i % 8).toNat + 1 : Nat) : Int) by omega, this, show i - 8 * (q : Int) = (((i % 8).toNat : Nat) : Int) by omega]
  have other : ∀ j : Nat, j ≠ q → kb (bt s j) (i + 1 - 8 * j) = kb (bt s j) (i - 8 * j) := by
    intro j hj
    by_cases c : j < q
    · rw [kb_high _ (by omega), kb_high _ (by omega)]
    · rw [kb_low _ (by omega), kb_low _ (by omega)]
  rw [hb, hq]
  rw [show ((q : Int)).toNat = q by omega]
  by_cases c : bitAt (bt s q) (i % 8).toNat = true
  · rw [if_pos c] at hstep ⊢
    refine getD_ext (by rw [keepL_length, List.length_set, keepL_length]) fun j hj => ?_
    rw [keepL_length] at hj
    rw [keepL_getD _ _ _ hj, set_getD _ (by rw [keepL_length]; exact hj)]
    by_cases e : q = j
    · rw [if_pos e, ← e, hstep]
    · rw [if_neg e, keepL_getD _ _ _ hj, other j (fun c => e c.symm)]
  · rw [if_neg c] at hstep ⊢
    refine keepL_eq s fun j hj => ?_
    by_cases e : j = q
    · rw [e, hstep, Int.add_zero]
    · exact other j e

theorem refBit_f (s : ByteArray) (i : Int) (hs : s.size ≤ 1000000) : roadbookref03_Bit.f s i = some (bit s i) := by
  unfold roadbookref03_Bit.f bit
  by_cases h0 : 0 ≤ i
  · rw [if_pos h0, wrap64_id (x := 8 * _) (by omega) (by omega)]
    by_cases h1 : i < 8 * (s.size : Int)
    · have e1 : wrap64 (Int.tdiv i 8) = i / 8 := by rw [Int.tdiv_eq_ediv_of_nonneg h0, wrap64_id (by omega) (by omega)]
      have e2 : IntKind.u64.wrap (wrap64 (7 - Int.tmod i 8)) = 7 - i % 8 := by rw [Int.tmod_eq_emod_of_nonneg h0, wrap64_id (by omega) (by omega), u64_id (by omega) (by omega)]
      have hr := bt_range s (i / 8)
      rw [if_pos h1, e1, e2, if_pos (by omega), if_pos (by omega), if_pos (by omega), decide_eq_true ⟨h0, h1⟩, Bool.true_and, wrap64_id (by omega) (by omega)]
      congr 1
      obtain ⟨x, hx⟩ := byte_fin hr
      rw [hx]
      have := bit_div_fin x ⟨(i % 8).toNat, by omega⟩
      simp only at this
      unfold shr
      rw [show min (7 - i % 8).toNat IntKind.i64.bits = 7 - (i % 8).toNat by simp [IntKind.bits]; omega]
      exact this
    · rw [if_neg h1, decide_eq_false (fun h => h1 h.2)]; rfl
  · rw [if_neg h0, decide_eq_false (fun h => h0 h.1)]; rfl

theorem kb_add_range {b : Int} (h : 0 ≤ b ∧ b ≤ 255) (m : Nat) (hm : m < 8) (hb : bitAt b m = true) : 0 ≤ kb b m + 2 ^ (7 - m) ∧ kb b m + 2 ^ (7 - m) ≤ 255 := by
  obtain ⟨x, rfl⟩ := byte_fin h
  have := kb_step_fin x ⟨m, hm⟩
  simp only at this
  rw [if_pos hb] at this
  rw [← this]; exact kb_range h _

theorem refKeep_l (s : ByteArray) (hs : s.size ≤ 1000000) (n : Int) (m : Nat) :
    ∀ (k : Nat) (i : Int), 2 * m + 2 < k → 0 ≤ i → 8 * (s.size : Int) - i = m → (i ≤ n ∨ i = 0) → roadbookref03_Keep.l0 k s n (keepL s i) i = some (keep s n) := by
  induction m with
  | zero =>
    intro k i hk h0 hm hi
    obtain ⟨k, rfl⟩ : ∃ j, k = j + 2 := ⟨k - 2, by omega⟩
    simp only [roadbookref03_Keep.l0]
    rw [wrap64_id (by omega) (by omega), if_neg (by omega)]
    simp only [roadbookref03_Keep.j1, Bool.false_eq_true, if_false]
    rw [keep, keepL_eq s (a := i) (b := n) (fun j hj => by rw [kb_high _ (by omega), kb_high _ (by omega)])]
  | succ m ih =>
    intro k i hk h0 hm hi
    obtain ⟨k, rfl⟩ : ∃ j, k = j + 2 := ⟨k - 2, by omega⟩
    simp only [roadbookref03_Keep.l0]
    rw [wrap64_id (by omega) (by omega), if_pos (by omega)]
    simp only [roadbookref03_Keep.j1, decide_eq_true_eq]
    by_cases c : i < n
    · rw [if_pos c, refBit_f s i hs, Option.bind_some]
      have hstep := keepL_step s i h0 (by omega)
      have hnext := ih k (i + 1) (by omega) (by omega) (by omega) (by omega)
      rw [wrap64_id (x := i + 1) (by omega) (by omega)]
      by_cases hb : bit s i = true
      · rw [if_pos hb] at hstep ⊢
        have e1 : wrap64 (Int.tdiv i 8) = i / 8 := by rw [Int.tdiv_eq_ediv_of_nonneg h0, wrap64_id (by omega) (by omega)]
        have e2 : IntKind.u64.wrap (wrap64 (7 - Int.tmod i 8)) = 7 - i % 8 := by rw [Int.tmod_eq_emod_of_nonneg h0, wrap64_id (by omega) (by omega), u64_id (by omega) (by omega)]
        rw [e1, e2, if_pos (by omega), if_pos (by rw [keepL_length]; omega), if_pos (by omega)]
        have e3 : rd (keepL s i) (i / 8) = kb (bt s (i / 8)) (i - 8 * (i / 8)) := by
          have := keepL_getD s i (i / 8).toNat (by omega)
          unfold rd
          rw [this, show (((i / 8).toNat : Nat) : Int) = i / 8 by omega]
        have e4 : shl .u8 1 (7 - i % 8) = 2 ^ (7 - (i % 8).toNat) := by
          unfold shl
          rw [show min (7 - i % 8).toNat IntKind.u8.bits = 7 - (i % 8).toNat by simp [IntKind.bits]; omega, Int.one_mul, IntKind.wrap_u8]
          have : (i % 8).toNat < 8 := by omega
          have : ∀ q : Fin 8, (2 : Int) ^ (7 - q.val) % 256 = 2 ^ (7 - q.val) := by decide
          exact this ⟨(i % 8).toNat, by omega⟩
        have hbA : bitAt (bt s (i / 8)) (i % 8).toNat = true := by
          unfold bit at hb
          rwa [decide_eq_true (by omega), Bool.true_and] at hb
        have hr := kb_add_range (bt_range s (i / 8)) (i % 8).toNat (by omega) hbA
        rw [show (((i % 8).toNat : Nat) : Int) = i - 8 * (i / 8) by omega] at hr
        rw [e3, e4, Int.emod_eq_of_lt hr.1 (by omega), ← hstep]
        exact hnext
      · rw [if_neg hb] at hstep ⊢
        rw [← hstep]; exact hnext
    · rw [if_neg c]
      rw [keep, keepL_eq s (a := i) (b := n)]
      intro j hj
      rcases hi with hi | hi
      · rw [show i = n by omega]
      · subst hi; rw [kb_low _ (by omega), kb_low _ (by omega)]

theorem refKeep_f (s : ByteArray) (n : Int) (hs : s.size ≤ 1000000) (k : Nat) (hk : 16 * s.size + 2 < k) : roadbookref03_Keep.f k s n = some (keep s n) := by
  unfold roadbookref03_Keep.f
  rw [if_pos (by omega), if_pos (by omega)]
  have e : List.replicate ((s.size : Int)).toNat (0 : Int) = keepL s 0 := by
    refine getD_ext (by rw [keepL_length, List.length_replicate]; omega) fun j hj => ?_
    rw [List.length_replicate] at hj
    rw [rep_getD, keepL_getD _ _ _ (by omega), kb_low _ (by omega)]
  rw [e]
  exact refKeep_l s hs n (8 * s.size) k 0 (by omega) (by omega) (by omega) (.inr rfl)

theorem refClean_f (s : ByteArray) (n : Int) (hs : s.size ≤ 1000000) (k : Nat) (hk : 16 * s.size + 2 < k) : roadbookref03_Clean.f k s n = some (decide (keep s n = s)) := by
  unfold roadbookref03_Clean.f
  rw [refKeep_f s n hs k hk, Option.bind_some]
  congr 1
  rw [Bool.eq_iff_iff, beq_iff_eq, decide_eq_true_iff, toList_inj]
theorem refRight_f (a : ByteArray) (n : Int) (k : Nat) (hk : 1000 < k) : roadbookref04_Right.f k a n = some (rightP a n) := by
  unfold roadbookref04_Right.f rightP
  have main : ∀ (hs : a.size = 4 ∨ a.size = 16), (if n ≥ 0 then (if n ≤ (wrap64 (8 * (a.size : Int))) then ((roadbookref03_Clean.f k a n).bind fun t => (some t)) else (some false)) else (some false)) = some (decide ((a.size = 4 ∨ a.size = 16) ∧ 0 ≤ n ∧ n ≤ 8 * a.size ∧ keep a n = a)) := by
    intro hs
    rw [wrap64_id (by omega) (by omega)]
    by_cases h0 : n ≥ 0
    · rw [if_pos h0]
      by_cases h1 : n ≤ 8 * (a.size : Int)
      · rw [if_pos h1, refClean_f a n (by omega) k (by omega), Option.bind_some]
        congr 1
        rw [Bool.eq_iff_iff, decide_eq_true_iff, decide_eq_true_iff]
        exact ⟨fun h => ⟨hs, h0, h1, h⟩, fun h => h.2.2.2⟩
      · rw [if_neg h1, decide_eq_false (fun h => h1 h.2.2.1)]
    · rw [if_neg h0, decide_eq_false (fun h => h0 h.2.1)]
  by_cases h4 : (a.size : Int) = 4
  · rw [if_pos h4]; exact main (by omega)
  · rw [if_neg h4]
    by_cases h16 : (a.size : Int) = 16
    · rw [if_pos h16]; exact main (by omega)
    · rw [if_neg h16, decide_eq_false (fun h => by omega)]

theorem none16 : roadbookref12_none.f = some (strOfNums (List.replicate 16 0)) := by decide +kernel
theorem link_same (a : ByteArray) : roadbookref06_Link.f a = addr_Link.f a := by
  unfold roadbookref06_Link.f addr_Link.f
  by_cases c : (a.size : Int) = 16
  · rw [if_pos c, if_pos c, if_pos (by decide), if_pos (by omega)]
    unfold strings_HasPrefix.f stringslite_HasPrefix.f roadbookref06_link.f
    have z : ((⟨#[254, 128, 0, 0, 0, 0, 0, 0]⟩ : ByteArray).size : Int) = 8 := by decide
    rw [if_pos (by rw [z]; omega), if_pos (by rw [z]; omega), if_pos (by rw [z]; omega), z]
    rfl
  · rw [if_neg c, if_neg c]

theorem dests_l (l m : List S66) (hm : l.length = m.length) (hl : l.length ≤ 1000000) (q : Nat) : ∀ (k i : Nat), q < k → l.length - i = q → ∃ b, roadbookref07_dests.l0 k l m i = some b ∧ (b = true ↔ ∀ j : Nat, i ≤ j → j < l.length → rd_T66 l (j : Int) = rd_T66 m (j : Int)) := by
  induction q with
  | zero =>
    intro k i hk hq
    obtain ⟨k, rfl⟩ : ∃ j, k = j + 1 := ⟨k - 1, by omega⟩
    simp only [roadbookref07_dests.l0]
    rw [if_neg (by omega)]
    exact ⟨true, rfl, ⟨fun _ j h1 h2 => by omega, fun _ => rfl⟩⟩
  | succ q ih =>
    intro k i hk hq
    obtain ⟨k, rfl⟩ : ∃ j, k = j + 1 := ⟨k - 1, by omega⟩
    simp only [roadbookref07_dests.l0]
    rw [if_pos (by omega), if_pos (by omega), if_pos (by omega)]
    have key : (!((((rd_T66 l (i : Int)).f0).toList) == (((rd_T66 m (i : Int)).f0).toList)) || (!(((rd_T66 l (i : Int)).f1) == ((rd_T66 m (i : Int)).f1)))) = true ↔ ¬ rd_T66 l (i : Int) = rd_T66 m (i : Int) := by
      obtain ⟨x0, x1⟩ := rd_T66 l (i : Int)
      obtain ⟨y0, y1⟩ := rd_T66 m (i : Int)
      simp only [S66.mk.injEq, Bool.or_eq_true, Bool.not_eq_true', beq_eq_false_iff_ne, ne_eq, toList_inj]
      by_cases p : x0 = y0 <;> by_cases r : x1 = y1 <;> simp [p, r]
    by_cases c : rd_T66 l (i : Int) = rd_T66 m (i : Int)
    · rw [if_neg (fun h => key.mp h c), wrap64_id (by omega) (by omega)]
      obtain ⟨b, e, hb⟩ := ih k (i + 1) (by omega) (by omega)
      refine ⟨b, e, hb.trans ⟨fun h j h1 h2 => ?_, fun h j h1 h2 => h j (by omega) h2⟩⟩
      by_cases d : j = i
      · rw [d]; exact c
      · exact h j (by omega) h2
    · rw [if_pos (key.mpr c)]
      exact ⟨false, rfl, ⟨fun h => (by cases h), fun h => absurd (h i (by omega) (by omega)) c⟩⟩
theorem dests_f (l m : List S66) (hl : l.length ≤ 1000000) (k : Nat) (hk : l.length < k) : ∃ b, roadbookref07_dests.f k l m = some b ∧ (b = true ↔ l = m) := by
  unfold roadbookref07_dests.f
  by_cases c : l.length = m.length
  · rw [if_pos (by omega)]
    obtain ⟨b, e, hb⟩ := dests_l l m c hl l.length k 0 hk (by omega)
    refine ⟨b, e, hb.trans ⟨fun h => ?_, fun h j _ _ => by rw [h]⟩⟩
    apply List.ext_getElem c
    intro i h1 h2
    have := h i (by omega) h1
    unfold rd_T66 at this
    rwa [Int.toNat_natCast, List.getD_eq_getElem?_getD, List.getD_eq_getElem?_getD, List.getElem?_eq_getElem h1, List.getElem?_eq_getElem h2] at this
  · rw [if_neg (by omega)]
    exact ⟨false, rfl, ⟨fun h => (by cases h), fun h => absurd (by rw [h]) c⟩⟩
theorem subs_l (l m : List S68) (hm : l.length = m.length) (hl : l.length ≤ 1000000) (q : Nat) : ∀ (k i : Nat), q < k → l.length - i = q → ∃ b, roadbookref07_subs.l0 k l m i = some b ∧ (b = true ↔ ∀ j : Nat, i ≤ j → j < l.length → rd_T68 l (j : Int) = rd_T68 m (j : Int)) := by
  induction q with
  | zero =>
    intro k i hk hq
    obtain ⟨k, rfl⟩ : ∃ j, k = j + 1 := ⟨k - 1, by omega⟩
    simp only [roadbookref07_subs.l0]
    rw [if_neg (by omega)]
    exact ⟨true, rfl, ⟨fun _ j h1 h2 => by omega, fun _ => rfl⟩⟩
  | succ q ih =>
    intro k i hk hq
    obtain ⟨k, rfl⟩ : ∃ j, k = j + 1 := ⟨k - 1, by omega⟩
    simp only [roadbookref07_subs.l0]
    rw [if_pos (by omega), if_pos (by omega), if_pos (by omega)]
    have key : (!(((rd_T68 l (i : Int)).f0) == ((rd_T68 m (i : Int)).f0)) || (!((((rd_T68 l (i : Int)).f1).toList) == (((rd_T68 m (i : Int)).f1).toList)))) = true ↔ ¬ rd_T68 l (i : Int) = rd_T68 m (i : Int) := by
      obtain ⟨x0, x1⟩ := rd_T68 l (i : Int)
      obtain ⟨y0, y1⟩ := rd_T68 m (i : Int)
      simp only [S68.mk.injEq, Bool.or_eq_true, Bool.not_eq_true', beq_eq_false_iff_ne, ne_eq, toList_inj]
      by_cases p : x0 = y0 <;> by_cases r : x1 = y1 <;> simp [p, r]
    by_cases c : rd_T68 l (i : Int) = rd_T68 m (i : Int)
    · rw [if_neg (fun h => key.mp h c), wrap64_id (by omega) (by omega)]
      obtain ⟨b, e, hb⟩ := ih k (i + 1) (by omega) (by omega)
      refine ⟨b, e, hb.trans ⟨fun h j h1 h2 => ?_, fun h j h1 h2 => h j (by omega) h2⟩⟩
      by_cases d : j = i
      · rw [d]; exact c
      · exact h j (by omega) h2
    · rw [if_pos (key.mpr c)]
      exact ⟨false, rfl, ⟨fun h => (by cases h), fun h => absurd (h i (by omega) (by omega)) c⟩⟩
theorem subs_f (l m : List S68) (hl : l.length ≤ 1000000) (k : Nat) (hk : l.length < k) : ∃ b, roadbookref07_subs.f k l m = some b ∧ (b = true ↔ l = m) := by
  unfold roadbookref07_subs.f
  by_cases c : l.length = m.length
  · rw [if_pos (by omega)]
    obtain ⟨b, e, hb⟩ := subs_l l m c hl l.length k 0 hk (by omega)
    refine ⟨b, e, hb.trans ⟨fun h => ?_, fun h j _ _ => by rw [h]⟩⟩
    apply List.ext_getElem c
    intro i h1 h2
    have := h i (by omega) h1
    unfold rd_T68 at this
    rwa [Int.toNat_natCast, List.getD_eq_getElem?_getD, List.getD_eq_getElem?_getD, List.getElem?_eq_getElem h1, List.getElem?_eq_getElem h2] at this
  · rw [if_neg (by omega)]
    exact ⟨false, rfl, ⟨fun h => (by cases h), fun h => absurd (by rw [h]) c⟩⟩
/-- The reference's Same tells whether all fields are the same. -/
theorem same_f (a0 : Int) (a1 : Int) (a2 : Int) (a3 : ByteArray) (a4 : Int) (a5 : Int) (a6 : ByteArray) (a7 : Int) (a8 : Int) (a9 : ByteArray) (a10 : Int) (a11 : ByteArray) (a12 : Int) (a13 : Int) (a14 : Int) (a15 : Int) (a16 : Int) (a17 : Int) (a18 : Int) (a19 : ByteArray) (a20 : ByteArray) (a21 : List S66) (a22 : Int) (a23 : ByteArray) (a24 : List S68) (b0 : Int) (b1 : Int) (b2 : Int) (b3 : ByteArray) (b4 : Int) (b5 : Int) (b6 : ByteArray) (b7 : Int) (b8 : Int) (b9 : ByteArray) (b10 : Int) (b11 : ByteArray) (b12 : Int) (b13 : Int) (b14 : Int) (b15 : Int) (b16 : Int) (b17 : Int) (b18 : Int) (b19 : ByteArray) (b20 : ByteArray) (b21 : List S66) (b22 : Int) (b23 : ByteArray) (b24 : List S68) (hd : a21.length ≤ 1000000) (hl : a24.length ≤ 1000000) (k : Nat) (hk : a21.length + a24.length + 3 ≤ k) :
    ∃ r, roadbookref07_Same.f k a0 a1 a2 a3 a4 a5 a6 a7 a8 a9 a10 a11 a12 a13 a14 a15 a16 a17 a18 a19 a20 a21 a22 a23 a24 b0 b1 b2 b3 b4 b5 b6 b7 b8 b9 b10 b11 b12 b13 b14 b15 b16 b17 b18 b19 b20 b21 b22 b23 b24 = some r ∧ (r = true ↔ a0 = b0 ∧ a1 = b1 ∧ a2 = b2 ∧ a3 = b3 ∧ a4 = b4 ∧ a5 = b5 ∧ a6 = b6 ∧ a7 = b7 ∧ a8 = b8 ∧ a9 = b9 ∧ a10 = b10 ∧ a11 = b11 ∧ a12 = b12 ∧ a13 = b13 ∧ a14 = b14 ∧ a15 = b15 ∧ a16 = b16 ∧ a17 = b17 ∧ a18 = b18 ∧ a19 = b19 ∧ a20 = b20 ∧ a21 = b21 ∧ a22 = b22 ∧ a23 = b23 ∧ a24 = b24) := by
  obtain ⟨k, rfl⟩ : ∃ j, k = j + 2 := ⟨k - 2, by omega⟩
  have no1 : roadbookref07_Same.j1 (k + 1) true a0 a1 a2 a3 a4 a5 a6 a7 a8 a9 a10 a11 a12 a13 a14 a15 a16 a17 a18 a19 a20 a21 a22 a23 a24 b0 b1 b2 b3 b4 b5 b6 b7 b8 b9 b10 b11 b12 b13 b14 b15 b16 b17 b18 b19 b20 b21 b22 b23 b24 = some false := by simp only [roadbookref07_Same.j1, if_true]
  have no0 : roadbookref07_Same.j0 (k + 2) true a0 a1 a2 a3 a4 a5 a6 a7 a8 a9 a10 a11 a12 a13 a14 a15 a16 a17 a18 a19 a20 a21 a22 a23 a24 b0 b1 b2 b3 b4 b5 b6 b7 b8 b9 b10 b11 b12 b13 b14 b15 b16 b17 b18 b19 b20 b21 b22 b23 b24 = some false := by simp only [roadbookref07_Same.j0, if_true]
  unfold roadbookref07_Same.f
  rw [no0]
  by_cases c0 : a0 = b0
  rotate_left
  · rw [if_neg c0]; exact ⟨false, rfl, ⟨fun h => (by cases h), fun h => absurd (h.1) c0⟩⟩
  rw [if_pos c0]
  by_cases c1 : a1 = b1
  rotate_left
  · rw [if_neg c1]; exact ⟨false, rfl, ⟨fun h => (by cases h), fun h => absurd (h.2.1) c1⟩⟩
  rw [if_pos c1]
  by_cases c2 : a2 = b2
  rotate_left
  · rw [if_neg c2]; exact ⟨false, rfl, ⟨fun h => (by cases h), fun h => absurd (h.2.2.1) c2⟩⟩
  rw [if_pos c2]
  by_cases c3 : a3.toList = b3.toList
  rotate_left
  · rw [if_neg c3]; exact ⟨false, rfl, ⟨fun h => (by cases h), fun h => absurd (congrArg ByteArray.toList (h.2.2.2.1)) c3⟩⟩
  rw [if_pos c3]
  by_cases c4 : a4 = b4
  rotate_left
  · rw [if_neg c4]; exact ⟨false, rfl, ⟨fun h => (by cases h), fun h => absurd (h.2.2.2.2.1) c4⟩⟩
  rw [if_pos c4]
  by_cases c5 : a5 = b5
  rotate_left
  · rw [if_neg c5]; exact ⟨false, rfl, ⟨fun h => (by cases h), fun h => absurd (h.2.2.2.2.2.1) c5⟩⟩
  rw [if_pos c5]
  by_cases c6 : a6.toList = b6.toList
  rotate_left
  · rw [if_neg c6]; exact ⟨false, rfl, ⟨fun h => (by cases h), fun h => absurd (congrArg ByteArray.toList (h.2.2.2.2.2.2.1)) c6⟩⟩
  rw [if_pos c6]
  by_cases c7 : a7 = b7
  rotate_left
  · rw [if_neg c7]; exact ⟨false, rfl, ⟨fun h => (by cases h), fun h => absurd (h.2.2.2.2.2.2.2.1) c7⟩⟩
  rw [if_pos c7]
  by_cases c8 : a8 = b8
  rotate_left
  · rw [if_neg c8]; exact ⟨false, rfl, ⟨fun h => (by cases h), fun h => absurd (h.2.2.2.2.2.2.2.2.1) c8⟩⟩
  rw [if_pos c8]
  by_cases c9 : a9.toList = b9.toList
  rotate_left
  · rw [if_neg c9]; exact ⟨false, rfl, ⟨fun h => (by cases h), fun h => absurd (congrArg ByteArray.toList (h.2.2.2.2.2.2.2.2.2.1)) c9⟩⟩
  rw [if_pos c9]
  by_cases c10 : a10 = b10
  rotate_left
  · rw [bne_iff_ne.mpr c10, no0]; exact ⟨false, rfl, ⟨fun h => (by cases h), fun h => absurd h.2.2.2.2.2.2.2.2.2.2.1 c10⟩⟩
  rw [bne_eq_false_iff_eq.mpr c10]
  simp only [roadbookref07_Same.j0, Bool.false_eq_true, if_false]
  rw [no1]
  by_cases c11 : a11.toList = b11.toList
  rotate_left
  · rw [if_neg c11]; exact ⟨false, rfl, ⟨fun h => (by cases h), fun h => absurd (congrArg ByteArray.toList (h.2.2.2.2.2.2.2.2.2.2.2.1)) c11⟩⟩
  rw [if_pos c11]
  by_cases c12 : a12 = b12
  rotate_left
  · rw [if_neg c12]; exact ⟨false, rfl, ⟨fun h => (by cases h), fun h => absurd (h.2.2.2.2.2.2.2.2.2.2.2.2.1) c12⟩⟩
  rw [if_pos c12]
  by_cases c13 : a13 = b13
  rotate_left
  · rw [if_neg c13]; exact ⟨false, rfl, ⟨fun h => (by cases h), fun h => absurd (h.2.2.2.2.2.2.2.2.2.2.2.2.2.1) c13⟩⟩
  rw [if_pos c13]
  by_cases c14 : a14 = b14
  rotate_left
  · rw [if_neg c14]; exact ⟨false, rfl, ⟨fun h => (by cases h), fun h => absurd (h.2.2.2.2.2.2.2.2.2.2.2.2.2.2.1) c14⟩⟩
  rw [if_pos c14]
  by_cases c15 : a15 = b15
  rotate_left
  · rw [if_neg c15]; exact ⟨false, rfl, ⟨fun h => (by cases h), fun h => absurd (h.2.2.2.2.2.2.2.2.2.2.2.2.2.2.2.1) c15⟩⟩
  rw [if_pos c15]
  by_cases c16 : a16 = b16
  rotate_left
  · rw [if_neg c16]; exact ⟨false, rfl, ⟨fun h => (by cases h), fun h => absurd (h.2.2.2.2.2.2.2.2.2.2.2.2.2.2.2.2.1) c16⟩⟩
  rw [if_pos c16]
  by_cases c17 : a17 = b17
  rotate_left
  · rw [if_neg c17]; exact ⟨false, rfl, ⟨fun h => (by cases h), fun h => absurd (h.2.2.2.2.2.2.2.2.2.2.2.2.2.2.2.2.2.1) c17⟩⟩
  rw [if_pos c17]
  by_cases c18 : a18 = b18
  rotate_left
  · rw [if_neg c18]; exact ⟨false, rfl, ⟨fun h => (by cases h), fun h => absurd (h.2.2.2.2.2.2.2.2.2.2.2.2.2.2.2.2.2.2.1) c18⟩⟩
  rw [if_pos c18]
  by_cases c19 : a19.toList = b19.toList
  rotate_left
  · rw [if_neg c19]; exact ⟨false, rfl, ⟨fun h => (by cases h), fun h => absurd (congrArg ByteArray.toList (h.2.2.2.2.2.2.2.2.2.2.2.2.2.2.2.2.2.2.2.1)) c19⟩⟩
  rw [if_pos c19]
  by_cases c20 : a20.toList = b20.toList
  rotate_left
  · rw [if_neg c20]; exact ⟨false, rfl, ⟨fun h => (by cases h), fun h => absurd (congrArg ByteArray.toList (h.2.2.2.2.2.2.2.2.2.2.2.2.2.2.2.2.2.2.2.2.1)) c20⟩⟩
  rw [if_pos c20]
  by_cases c22 : a22 = b22
  rotate_left
  · rw [if_neg c22]; exact ⟨false, rfl, ⟨fun h => (by cases h), fun h => absurd (h.2.2.2.2.2.2.2.2.2.2.2.2.2.2.2.2.2.2.2.2.2.2.1) c22⟩⟩
  rw [if_pos c22]
  by_cases c23 : a23.toList = b23.toList
  rotate_left
  · rw [bne_iff_ne.mpr c23, no1]; exact ⟨false, rfl, ⟨fun h => (by cases h), fun h => absurd (congrArg ByteArray.toList h.2.2.2.2.2.2.2.2.2.2.2.2.2.2.2.2.2.2.2.2.2.2.2.1) c23⟩⟩
  rw [bne_eq_false_iff_eq.mpr c23]
  simp only [roadbookref07_Same.j1, Bool.false_eq_true, if_false]
  obtain ⟨x, ex, hx⟩ := dests_f a21 b21 hd k (by omega)
  obtain ⟨y, ey, hy⟩ := subs_f a24 b24 hl k (by omega)
  rw [ex, ey, Option.bind_some, Option.bind_some]
  have e3 := toList_inj.mp c3
  have e6 := toList_inj.mp c6
  have e9 := toList_inj.mp c9
  have e11 := toList_inj.mp c11
  have e19 := toList_inj.mp c19
  have e20 := toList_inj.mp c20
  have e23 := toList_inj.mp c23
  cases x with
  | false => rw [if_neg (by decide)]; exact ⟨false, rfl, ⟨fun h => (by cases h), fun h => absurd (hx.mpr h.2.2.2.2.2.2.2.2.2.2.2.2.2.2.2.2.2.2.2.2.2.1) (by decide)⟩⟩
  | true =>
    rw [if_pos rfl]
    have c21 := hx.mp rfl
    exact ⟨y, rfl, ⟨fun h => ⟨c0, c1, c2, e3, c4, c5, e6, c7, c8, e9, c10, e11, c12, c13, c14, c15, c16, c17, c18, e19, e20, c21, c22, e23, hy.mp h⟩, fun h => hy.mpr h.2.2.2.2.2.2.2.2.2.2.2.2.2.2.2.2.2.2.2.2.2.2.2.2⟩⟩
/-- Messages that are the same are told so. -/
theorem same_self (a0 : Int) (a1 : Int) (a2 : Int) (a3 : ByteArray) (a4 : Int) (a5 : Int) (a6 : ByteArray) (a7 : Int) (a8 : Int) (a9 : ByteArray) (a10 : Int) (a11 : ByteArray) (a12 : Int) (a13 : Int) (a14 : Int) (a15 : Int) (a16 : Int) (a17 : Int) (a18 : Int) (a19 : ByteArray) (a20 : ByteArray) (a21 : List S66) (a22 : Int) (a23 : ByteArray) (a24 : List S68) (hd : a21.length ≤ 1000000) (hl : a24.length ≤ 1000000) (k : Nat) (hk : a21.length + a24.length + 3 ≤ k) : roadbookref07_Same.f k a0 a1 a2 a3 a4 a5 a6 a7 a8 a9 a10 a11 a12 a13 a14 a15 a16 a17 a18 a19 a20 a21 a22 a23 a24 a0 a1 a2 a3 a4 a5 a6 a7 a8 a9 a10 a11 a12 a13 a14 a15 a16 a17 a18 a19 a20 a21 a22 a23 a24 = some true := by
  obtain ⟨r, e, hr⟩ := same_f a0 a1 a2 a3 a4 a5 a6 a7 a8 a9 a10 a11 a12 a13 a14 a15 a16 a17 a18 a19 a20 a21 a22 a23 a24 a0 a1 a2 a3 a4 a5 a6 a7 a8 a9 a10 a11 a12 a13 a14 a15 a16 a17 a18 a19 a20 a21 a22 a23 a24 hd hl k hk
  rw [e, hr.mpr ⟨rfl, rfl, rfl, rfl, rfl, rfl, rfl, rfl, rfl, rfl, rfl, rfl, rfl, rfl, rfl, rfl, rfl, rfl, rfl, rfl, rfl, rfl, rfl, rfl, rfl⟩]

theorem refbareq2 (a1 : Int) (a2 : Int) (a3 : ByteArray) (a4 : Int) (a5 : Int) (a6 : ByteArray) (a7 : Int) (a8 : Int) (a9 : ByteArray) (a10 : Int) (a11 : ByteArray) (a12 : Int) (a13 : Int) (a14 : Int) (a15 : Int) (a16 : Int) (a17 : Int) (a18 : Int) (a19 : ByteArray) (a20 : ByteArray) (a21 : List S66) (a22 : Int) (a23 : ByteArray) (a24 : List S68) (hd : a21.length ≤ 1000000) (hl : a24.length ≤ 1000000) (k : Nat) (hk : a21.length + a24.length + 2 < k) : ∃ r, roadbookref07_Bare.f k 2 a1 a2 a3 a4 a5 a6 a7 a8 a9 a10 a11 a12 a13 a14 a15 a16 a17 a18 a19 a20 a21 a22 a23 a24 = some r ∧ (r = true ↔ (a2 = 0 ∧ a3 = (⟨#[]⟩ : ByteArray) ∧ a4 = 0 ∧ a5 = 0 ∧ a11 = (⟨#[]⟩ : ByteArray) ∧ a12 = 0 ∧ a13 = 0 ∧ a14 = 0 ∧ a15 = 0 ∧ a16 = 0 ∧ a17 = 0 ∧ a18 = 0 ∧ a19 = (⟨#[]⟩ : ByteArray) ∧ a20 = (⟨#[]⟩ : ByteArray) ∧ a21 = ([] : List S66) ∧ a22 = 0 ∧ a23 = (⟨#[]⟩ : ByteArray) ∧ a24 = ([] : List S68))) := by
  rw [roadbookref07_Bare.f2]
  obtain ⟨r, e, h⟩ := same_f 2 a1 0 (⟨#[]⟩ : ByteArray) 0 0 a6 a7 a8 a9 a10 (⟨#[]⟩ : ByteArray) 0 0 0 0 0 0 0 (⟨#[]⟩ : ByteArray) (⟨#[]⟩ : ByteArray) ([] : List S66) 0 (⟨#[]⟩ : ByteArray) ([] : List S68) 2 a1 a2 a3 a4 a5 a6 a7 a8 a9 a10 a11 a12 a13 a14 a15 a16 a17 a18 a19 a20 a21 a22 a23 a24 (by decide) (by decide) k (by (try simp only [List.length_nil]); omega)
  exact ⟨r, e, h.trans ⟨fun h => ⟨h.2.2.1.symm, h.2.2.2.1.symm, h.2.2.2.2.1.symm, h.2.2.2.2.2.1.symm, h.2.2.2.2.2.2.2.2.2.2.2.1.symm, h.2.2.2.2.2.2.2.2.2.2.2.2.1.symm, h.2.2.2.2.2.2.2.2.2.2.2.2.2.1.symm, h.2.2.2.2.2.2.2.2.2.2.2.2.2.2.1.symm, h.2.2.2.2.2.2.2.2.2.2.2.2.2.2.2.1.symm, h.2.2.2.2.2.2.2.2.2.2.2.2.2.2.2.2.1.symm, h.2.2.2.2.2.2.2.2.2.2.2.2.2.2.2.2.2.1.symm, h.2.2.2.2.2.2.2.2.2.2.2.2.2.2.2.2.2.2.1.symm, h.2.2.2.2.2.2.2.2.2.2.2.2.2.2.2.2.2.2.2.1.symm, h.2.2.2.2.2.2.2.2.2.2.2.2.2.2.2.2.2.2.2.2.1.symm, h.2.2.2.2.2.2.2.2.2.2.2.2.2.2.2.2.2.2.2.2.2.1.symm, h.2.2.2.2.2.2.2.2.2.2.2.2.2.2.2.2.2.2.2.2.2.2.1.symm, h.2.2.2.2.2.2.2.2.2.2.2.2.2.2.2.2.2.2.2.2.2.2.2.1.symm, h.2.2.2.2.2.2.2.2.2.2.2.2.2.2.2.2.2.2.2.2.2.2.2.2.symm⟩, fun h => ⟨rfl, rfl, h.1.symm, h.2.1.symm, h.2.2.1.symm, h.2.2.2.1.symm, rfl, rfl, rfl, rfl, rfl, h.2.2.2.2.1.symm, h.2.2.2.2.2.1.symm, h.2.2.2.2.2.2.1.symm, h.2.2.2.2.2.2.2.1.symm, h.2.2.2.2.2.2.2.2.1.symm, h.2.2.2.2.2.2.2.2.2.1.symm, h.2.2.2.2.2.2.2.2.2.2.1.symm, h.2.2.2.2.2.2.2.2.2.2.2.1.symm, h.2.2.2.2.2.2.2.2.2.2.2.2.1.symm, h.2.2.2.2.2.2.2.2.2.2.2.2.2.1.symm, h.2.2.2.2.2.2.2.2.2.2.2.2.2.2.1.symm, h.2.2.2.2.2.2.2.2.2.2.2.2.2.2.2.1.symm, h.2.2.2.2.2.2.2.2.2.2.2.2.2.2.2.2.1.symm, h.2.2.2.2.2.2.2.2.2.2.2.2.2.2.2.2.2.symm⟩⟩⟩

theorem refFits_l (m : Nat) : ∀ (k : Nat) (n size t i : Int), m < k → (size - i) = m → 0 ≤ i → size ≤ 7 → t = 256 ^ i.toNat →
    roadbookref02_Fits.l0 k n size t i = some (decide (n < 256 ^ size.toNat)) := by
  induction m with
  | zero =>
    intro k n size t i hk hm hi hs ht
    obtain ⟨k, rfl⟩ : ∃ j, k = j + 1 := ⟨k - 1, by omega⟩
    simp only [roadbookref02_Fits.l0]; rw [if_neg (by omega), ht, show i = size by omega]
  | succ m ih =>
    intro k n size t i hk hm hi hs ht
    obtain ⟨k, rfl⟩ : ∃ j, k = j + 1 := ⟨k - 1, by omega⟩
    simp only [roadbookref02_Fits.l0]; rw [if_pos (by omega)]
    have hp : t * 256 = 256 ^ (i + 1).toNat := by rw [ht, show (i + 1).toNat = i.toNat + 1 by omega, Int.pow_succ]
    have hb := pow_le7 (i + 1).toNat (by omega)
    have hb3 : (0 : Int) < 256 ^ (i + 1).toNat := Int.pow_pos (by decide)
    rw [wrap64_id (by omega) (by omega), wrap64_id (by omega) (by omega)]
    exact ih k n size _ (i + 1) (by omega) (by omega) (by omega) hs hp

theorem refFits_f (n size : Int) (k : Nat) (hk : 10 < k) : roadbookref02_Fits.f k n size = some (octFits n size) := by
  obtain ⟨k, rfl⟩ : ∃ j, k = j + 1 := ⟨k - 1, by omega⟩
  unfold roadbookref02_Fits.f octFits
  simp only [roadbookref02_Fits.j0, if_true]
  by_cases h1 : size < 1
  · rw [if_pos h1, decide_eq_false (fun h => by omega)]
  · rw [if_neg h1]
    by_cases h2 : size > 7
    · rw [if_pos h2, decide_eq_false (fun h => by omega)]
    · rw [if_neg h2]
      by_cases h3 : n < 0
      · rw [decide_eq_true h3, if_pos rfl, decide_eq_false (fun h => by omega)]
      · rw [decide_eq_false h3, if_neg (by decide), refFits_l size.toNat k n size 1 0 (by omega) (by omega) (by omega) (by omega) rfl]
        congr 1
        rw [Bool.eq_iff_iff, decide_eq_true_iff, decide_eq_true_iff]
        exact ⟨fun h => ⟨by omega, by omega, by omega, h⟩, fun h => h.2.2.2⟩

theorem refPut_l (m : Nat) : ∀ (k : Nat) (n size i : Int) (s : ByteArray), m < k → (size - i) = m → 0 ≤ i → size ≤ 7 → 0 ≤ n → n ≤ 9223372036854775807 → s.size ≤ 100 + i →
    roadbookref02_Put.l0 k n size s i = some (strOfNums (dig m n) ++ s, true) := by
  induction m with
  | zero =>
    intro k n size i s hk hm hi hs hn hn' hz
    obtain ⟨k, rfl⟩ : ∃ j, k = j + 1 := ⟨k - 1, by omega⟩
    simp only [roadbookref02_Put.l0]; rw [if_neg (by omega)]
    congr 2
  | succ m ih =>
    intro k n size i s hk hm hi hs hn hn' hz
    obtain ⟨k, rfl⟩ : ∃ j, k = j + 1 := ⟨k - 1, by omega⟩
    simp only [roadbookref02_Put.l0, Option.bind_some]; rw [if_pos (by omega)]
    have e1 : Int.tmod n 256 % 256 = n % 256 := by rw [Int.tmod_eq_emod_of_nonneg hn]; omega
    have e2 : Int.tdiv n 256 = n / 256 := Int.tdiv_eq_ediv_of_nonneg hn
    rw [e1, e2, wrap64_id (by omega) (by omega), wrap64_id (by omega) (by omega), if_pos (by rw [size_nums]; simp; omega)]
    rw [ih k (n / 256) size (i + 1) _ (by omega) (by omega) (by omega) hs (by omega) (by omega) (by rw [size_app, size_nums]; simp; omega)]
    congr 2
    rw [dig, nums_app, ByteArray.append_assoc]

theorem refPut_f (n size : Int) (hn' : n ≤ 9223372036854775807) (k : Nat) (hk : 10 < k) : roadbookref02_Put.f k n size = some (octPut n size) := by
  unfold roadbookref02_Put.f octPut
  rw [refFits_f n size k hk, Option.bind_some]
  by_cases h : octFits n size = true
  · have h' := octFits_iff.mp h
    rw [if_pos h, if_pos h]
    have := refPut_l size.toNat k n size 0 (⟨#[]⟩ : ByteArray) (by omega) (by omega) (by omega) (by omega) (by omega) hn' (by decide)
    rw [this]
    congr 2
    exact ByteArray.append_empty
  · rw [if_neg h, if_neg h]

theorem refPut11_f (f t : Int) (ad mk nx : ByteArray) (m : Int) (hf : f ≤ 9223372036854775807) (ht : t ≤ 9223372036854775807) (hm : m ≤ 9223372036854775807) (k : Nat) (hk : 10 < k) : roadbookref11_Put.f k f t ad mk nx m = some (rtePut f t ad mk nx m) := by
  unfold roadbookref11_Put.f rtePut
  rw [refPut_f t 2 ht k hk, Option.bind_some, refPut_f f 1 hf k hk, Option.bind_some, refPut_f m 1 hm k hk, Option.bind_some]
  unfold octPut
  by_cases h3 : octFits t 2 = true
  · rw [if_pos h3]
    by_cases h4 : octFits f 1 = true
    · rw [if_pos h4]
      by_cases h5 : octFits m 1 = true
      · rw [if_pos h5]
        dsimp only
        rw [if_pos rfl, if_pos rfl, if_pos rfl]
        by_cases h1 : ad.size = 16
        · rw [if_pos (by omega)]
          by_cases h2 : mk.size = 0
          · rw [if_pos ((empty_iff _).mpr h2)]
            by_cases h6 : nx.size = 0
            · rw [if_pos ((empty_iff _).mpr h6)]
              have z2 : (strOfNums (dig (2 : Int).toNat t)).size = 2 := by rw [size_nums, dig_length]; rfl
              have z1 : ∀ n, (strOfNums (dig (1 : Int).toNat n)).size = 1 := fun n => by rw [size_nums, dig_length]; rfl
              rw [if_pos (by rw [z2]; omega), if_pos (by rw [size_app, z2, z1]; omega), if_pos (by rw [size_app, size_app, z2, z1, z1]; omega), if_pos ⟨h1, h2, h6, h3, h4, h5⟩]
              congr 2
              rw [ByteArray.append_assoc, ByteArray.append_assoc, ← nums_app, ← nums_app]
              rfl
            · rw [if_neg (fun h => h6 ((empty_iff _).mp h)), if_neg (fun h => h6 h.2.2.1)]
          · rw [if_neg (fun h => h2 ((empty_iff _).mp h)), if_neg (fun h => h2 h.2.1)]
        · rw [if_neg (by omega), if_neg (fun h => h1 h.1)]
      · rw [if_neg h5]
        dsimp only
        rw [if_pos rfl, if_pos rfl, if_neg (by decide), if_neg (fun h => h5 h.2.2.2.2.2)]
    · rw [if_neg h4]
      dsimp only
      rw [if_pos rfl, if_neg (by decide), if_neg (fun h => h4 h.2.2.2.2.1)]
  · rw [if_neg h3]
    dsimp only
    rw [if_neg (by decide), if_neg (fun h => h3 h.2.2.2.1)]

theorem refright_ex (x : S34) (h1 : x.f21.length ≤ 300) (h2 : x.f24.length ≤ 60) (k : Nat) (hk : 1200 ≤ k) : ∃ r, roadbookref12_Right.f k x.f0 x.f1 x.f2 x.f3 x.f4 x.f5 x.f6 x.f7 x.f8 x.f9 x.f10 x.f11 x.f12 x.f13 x.f14 x.f15 x.f16 x.f17 x.f18 x.f19 x.f20 x.f21 x.f22 x.f23 x.f24 = some r ∧ (r = true ↔ RightN x) := by
  unfold roadbookref12_Right.f
  by_cases c0 : x.f0 = 2
  · rw [if_pos c0]
    obtain ⟨b, eb, B⟩ := refbareq2 x.f1 x.f2 x.f3 x.f4 x.f5 x.f6 x.f7 x.f8 x.f9 x.f10 x.f11 x.f12 x.f13 x.f14 x.f15 x.f16 x.f17 x.f18 x.f19 x.f20 x.f21 x.f22 x.f23 x.f24 (by omega) (by omega) k (by omega)
    rw [← c0] at eb
    rw [eb, Option.bind_some]
    cases b with
    | false =>
      rw [if_neg (by decide)]
      refine ⟨false, rfl, (fun h => by cases h), fun h => ?_⟩
      have e := h.eq
      exact B.mpr (by rw [e]; exact ⟨rfl, rfl, rfl, rfl, rfl, rfl, rfl, rfl, rfl, rfl, rfl, rfl, rfl, rfl, rfl, rfl, rfl, rfl⟩)
    | true =>
      rw [if_pos rfl]
      have B' := B.mp rfl
      have eqx := eq_ngM x c0 B'
      have no : (RightN x → False) → ∃ r, some false = some r ∧ (r = true ↔ RightN x) := fun h => ⟨false, rfl, (fun h => by cases h), fun k => (h k).elim⟩
      by_cases a1 : x.f1 ≥ 1
      · rw [if_pos a1]
        by_cases a2 : x.f1 ≤ 2
        · rw [if_pos a2]
          by_cases a3 : x.f8 ≥ 0
          · rw [if_pos a3]
            by_cases a4 : x.f8 ≤ 65535
            · rw [if_pos a4]
              by_cases a5 : x.f10 ≥ 1
              · rw [if_pos a5]
                by_cases a6 : x.f10 ≤ 16
                · rw [if_pos a6]
                  by_cases a7 : (x.f6.size : Int) = 16
                  · rw [if_pos a7, refRight_f _ _ k (by omega), Option.bind_some]
                    by_cases a8 : rightP x.f6 x.f7 = true
                    · rw [if_pos a8, none16, Option.bind_some, link_same, linkP_f, Option.bind_some]
                      by_cases a9 : x.f9 = nz
                      · rw [if_pos (show _ = (strOfNums (List.replicate 16 0)).toList by rw [a9]; rfl)]
                        exact ⟨true, rfl, fun _ => ⟨eqx, by omega, ⟨a3, a4⟩, ⟨a5, a6⟩, by omega, a8, .inl a9⟩, fun _ => rfl⟩
                      · rw [if_neg (show ¬ _ = (strOfNums (List.replicate 16 0)).toList from fun h => a9 (toList_inj.mp h))]
                        refine ⟨_, rfl, fun h => ⟨eqx, by omega, ⟨a3, a4⟩, ⟨a5, a6⟩, by omega, a8, .inr h⟩, fun h => ?_⟩
                        rcases h.nxt with z | z
                        · exact absurd z a9
                        · exact z
                    · rw [if_neg a8]; exact no fun h => a8 h.pre
                  · rw [if_neg a7]; exact no fun h => a7 (by have := h.len; omega)
                · rw [if_neg a6]; exact no fun h => a6 h.met.2
              · rw [if_neg a5]; exact no fun h => a5 h.met.1
            · rw [if_neg a4]; exact no fun h => a4 h.tag.2
          · rw [if_neg a3]; exact no fun h => a3 h.tag.1
        · rw [if_neg a2]; exact no fun h => a2 (by have := h.cmd; omega)
      · rw [if_neg a1]; exact no fun h => a1 (by have := h.cmd; omega)
  · rw [if_neg c0]
    exact ⟨false, rfl, (fun h => by cases h), fun h => absurd (by rw [h.eq]; rfl) c0⟩
theorem refPut_ent (p : ByteArray) (n t m : Int) (hp : p.size = 16) (hn : 0 ≤ n ∧ n ≤ 255) (ht : 0 ≤ t ∧ t ≤ 65535) (hm : 0 ≤ m ∧ m ≤ 255) (k : Nat) (hk : 10 < k) : roadbookref11_Put.f k n t p ⟨#[]⟩ ⟨#[]⟩ m = some (ent p n t m, true) := by
  rw [refPut11_f _ _ _ _ _ _ (by omega) (by omega) (by omega) k hk, ← rte_Put_f _ _ _ _ _ _ (by omega) (by omega) (by omega) (by decide)]
  exact rtePut_ent p n t m hp hn ht hm
theorem refs_ent (l : List S34) (i : Nat) (o nx : ByteArray) (ho : o.size ≤ 100000) (h : RightN (rd_T34 l (i : Int))) (k : Nat) (hk : 10 < k) : roadbookref12_Encode.s k l o nx (i : Int) = some (o ++ (if (rd_T34 l (i : Int)).f9 = nx then (⟨#[]⟩ : ByteArray) else ent (rd_T34 l (i : Int)).f9 0 0 255), (rd_T34 l (i : Int)).f9) := by
  unfold roadbookref12_Encode.s
  by_cases c : (rd_T34 l (i : Int)).f9 = nx
  · rw [if_pos (by rw [c]), if_pos c, app_empty, c]
  · rw [if_neg (fun e => c (toList_inj.mp e)), if_neg c, refPut_ent _ 0 0 255 h.nsize (by omega) (by omega) (by omega) k hk, Option.bind_some]
    dsimp only
    rw [if_pos (by rw [ent_size _ _ _ _ h.nsize]; omega)]
theorem both_lb (l : List S34) (hl : l.length ≤ 1000) (hr : ∀ x ∈ l, RightN x) (q : Nat) : ∀ (k k' i : Nat) (nx : ByteArray) (xs : List Int), q < k → q + 20 < k' → l.length - i = q → i ≤ l.length → xs.length + 40 * q ≤ 60000 → ∃ X, ripng_Encode.lb k l i nx xs = some X ∧ roadbookref12_Encode.lb k' l (strOfNums xs) nx i = some X := by
  induction q with
  | zero =>
    intro k k' i nx xs hk hk' hq hi hx
    obtain ⟨k, rfl⟩ : ∃ j, k = j + 1 := ⟨k - 1, by omega⟩
    obtain ⟨k', rfl⟩ : ∃ j, k' = j + 1 := ⟨k' - 1, by omega⟩
    rw [ripng_Encode.lb, roadbookref12_Encode.lb, if_neg (by omega), if_neg (by omega)]
    exact ⟨_, rfl, rfl⟩
  | succ q ih =>
    intro k k' i nx xs hk hk' hq hi hx
    obtain ⟨k, rfl⟩ : ∃ j, k = j + 1 := ⟨k - 1, by omega⟩
    obtain ⟨k', rfl⟩ : ∃ j, k' = j + 1 := ⟨k' - 1, by omega⟩
    have R := hr _ (rd_memM (i := i) (by omega))
    have pl := R.plen; have mt := R.met
    have e1 := enc1_size nx _ R
    have e2 : (enc1 nx (rd_T34 l (i : Int))).size ≤ 40 := by rw [e1]; split <;> omega
    have zs := size_nums xs
    have g1 : (i : Int) < (l.length : Int) := by omega
    have g2 : 0 ≤ (i : Int) := by omega
    have g3 : 0 < (l.length : Int) := by omega
    rw [ripng_Encode.lb, roadbookref12_Encode.lb, if_pos g1, if_pos g2, if_pos g1, if_pos g2, if_pos g3]
    by_cases c : (rd_T34 l (i : Int)).f1 = (rd_T34 l 0).f1
    · rw [if_pos c, if_pos c, route_ent xs nx _ (by omega) R, Option.bind_some, refs_ent l i _ nx (by omega) R k' (by omega), Option.bind_some, refPut_ent _ _ _ _ R.len (by omega) R.tag (by omega) k' (by omega), Option.bind_some]
      dsimp only
      have E : strOfNums xs ++ (if (rd_T34 l (i : Int)).f9 = nx then (⟨#[]⟩ : ByteArray) else ent (rd_T34 l (i : Int)).f9 0 0 255) ++ ent (rd_T34 l (i : Int)).f6 (rd_T34 l (i : Int)).f7 (rd_T34 l (i : Int)).f8 (rd_T34 l (i : Int)).f10 = strOfNums (xs ++ bytesOf (enc1 nx (rd_T34 l (i : Int)))) := by
        rw [nums_app, nums_bytes, ByteArray.append_assoc]
        congr 1
        unfold enc1
        by_cases d : (rd_T34 l (i : Int)).f9 = nx
        · rw [if_pos d, if_pos d]; exact ByteArray.empty_append
        · rw [if_neg d, if_neg d]
      have Z := congrArg ByteArray.size E
      rw [size_app, size_nums, List.length_append, len_bytesOf] at Z
      have zl : (xs ++ bytesOf (enc1 nx (rd_T34 l (i : Int)))).length = xs.length + (enc1 nx (rd_T34 l (i : Int))).size := by rw [List.length_append, len_bytesOf]
      rw [if_neg (by omega), if_pos (by omega), E, if_neg (by rw [size_nums]; omega), wrap64_id (by omega) (by omega), show ((i : Int) + 1) = ((i + 1 : Nat) : Int) by omega]
      exact ih k k' (i + 1) _ _ (by omega) (by omega) (by omega) (by omega) (by omega)
    · rw [if_neg c, if_neg c]
      exact ⟨_, rfl, rfl⟩
theorem refOf_cmd (c : Int) (hc : c = 1 ∨ c = 2) (k : Nat) (hk : 10 < k) : roadbookref02_Of.f k c 1 = some (strOfNums [c % 256]) := by
  unfold roadbookref02_Of.f
  rw [refPut_f c 1 (by omega) k hk, Option.bind_some]
  rcases hc with rfl | rfl <;> decide +kernel
theorem hdr_cmd (c : Int) (hc : c = 1 ∨ c = 2) : strOfNums [c % 256] ++ (⟨#[1, 0, 0]⟩ : ByteArray) = strOfNums [c % 256, 1, 0, 0] := by
  rcases hc with rfl | rfl <;> decide +kernel
theorem both_la (l : List S34) (hl : l.length ≤ 1000) (ht : ∀ x ∈ l, -9223372036854775808 ≤ x.f8 ∧ x.f8 ≤ 9223372036854775807) (hw : ∀ x ∈ l, x.f21.length ≤ 300 ∧ x.f24.length ≤ 60) (q : Nat) : ∀ (k i : Nat), l.length + q + 1300 < k → l.length - i = q → i ≤ l.length → (∀ j : Nat, j < i → RightN (rd_T34 l (j : Int))) → ∃ X, ripng_Encode.la k l i = some X ∧ roadbookref12_Encode.la k l i = some X := by
  induction q with
  | zero =>
    intro k i hk hq hi hr
    obtain ⟨k, rfl⟩ : ∃ j, k = j + 1 := ⟨k - 1, by omega⟩
    have g1 : ¬ (i : Int) < (l.length : Int) := by omega
    rw [ripng_Encode.la, roadbookref12_Encode.la, if_neg g1, if_neg g1]
    by_cases c : (l.length : Int) = 0
    · rw [if_pos c, if_pos c]; exact ⟨_, rfl, rfl⟩
    · have all : ∀ x ∈ l, RightN x := by
        intro x hx
        obtain ⟨j, hj, rfl⟩ := List.getElem_of_mem hx
        have := hr j (by omega)
        unfold rd_T34 at this
        rwa [Int.toNat_natCast, List.getD_eq_getElem?_getD, List.getElem?_eq_getElem hj] at this
      have R : RightN (rd_T34 l 0) := all _ (rd_memM (i := 0) (by omega))
      have g3 : 0 < (l.length : Int) := by omega
      rw [if_neg c, if_neg c, if_pos g3, zeros16, Option.bind_some, refOf_cmd _ R.cmd k (by omega), Option.bind_some, if_pos (by rw [size_nums]; simp only [List.length_cons, List.length_nil]; omega), none16, Option.bind_some, hdr_cmd _ R.cmd]
      exact both_lb l hl all l.length k k 0 _ _ (by omega) (by omega) (by omega) (by omega) (by simp only [List.length_cons, List.length_nil]; omega)
  | succ q ih =>
    intro k i hk hq hi hr
    obtain ⟨k, rfl⟩ : ∃ j, k = j + 2 + 1 := ⟨k - 3, by omega⟩
    have mem := rd_memM (l := l) (i := i) (by omega)
    obtain ⟨r, e, h⟩ := right_ex k (rd_T34 l (i : Int)) (ht _ mem)
    obtain ⟨r', e', h'⟩ := refright_ex (rd_T34 l (i : Int)) (hw _ mem).1 (hw _ mem).2 (k + 2) (by omega)
    have er : r' = r := by rw [Bool.eq_iff_iff, h, h']
    subst er
    have g1 : (i : Int) < (l.length : Int) := by omega
    have g2 : 0 ≤ (i : Int) := by omega
    rw [ripng_Encode.la, roadbookref12_Encode.la, if_pos g1, if_pos g2, if_pos g1, if_pos g2, e, e', Option.bind_some, Option.bind_some, wrap64_id (by omega) (by omega), show ((i : Int) + 1) = ((i + 1 : Nat) : Int) by omega]
    cases r' with
    | true =>
      rw [if_pos rfl, if_pos rfl]
      refine ih (k + 2) (i + 1) (by omega) (by omega) (by omega) fun j hj => ?_
      by_cases d : j = i
      · rw [d]; exact h.mp rfl
      · exact hr j (by omega)
    | false =>
      rw [if_neg (by decide), if_neg (by decide)]
      exact ⟨_, rfl, rfl⟩

theorem ngawake_f (k : Nat) (hk : 80 ≤ k) : roadbooklaw12_awake.f k = some true := at_rounds (g := fun k => roadbooklaw12_awake.f k) (fun k => roadbooklaw12_awake.mono k) hk (by decide +kernel)

theorem rd_mem_68 {l : List S68} {P : S68 → Prop} (h : ∀ j : Nat, j < l.length → P (rd_T68 l (j : Int))) : ∀ x ∈ l, P x := by
  intro x hx
  obtain ⟨j, hj, rfl⟩ := List.getElem_of_mem hx
  have := h j hj
  unfold rd_T68 at this
  rwa [Int.toNat_natCast, List.getD_eq_getElem?_getD, List.getElem?_eq_getElem hj] at this
theorem rd_mem_66 {l : List S66} {P : S66 → Prop} (h : ∀ j : Nat, j < l.length → P (rd_T66 l (j : Int))) : ∀ x ∈ l, P x := by
  intro x hx
  obtain ⟨j, hj, rfl⟩ := List.getElem_of_mem hx
  have := h j hj
  unfold rd_T66 at this
  rwa [Int.toNat_natCast, List.getD_eq_getElem?_getD, List.getElem?_eq_getElem hj] at this

theorem few_l1 (a0 : Int) (a1 : Int) (a2 : Int) (a3 : ByteArray) (a4 : Int) (a5 : Int) (a6 : ByteArray) (a7 : Int) (a8 : Int) (a9 : ByteArray) (a10 : Int) (a11 : ByteArray) (a12 : Int) (a13 : Int) (a14 : Int) (a15 : Int) (a16 : Int) (a17 : Int) (a18 : Int) (a19 : ByteArray) (a20 : ByteArray) (a21 : List S66) (a22 : Int) (a23 : ByteArray) (a24 : List S68) (hl : a24.length ≤ 1000000) (m : Nat) : ∀ (k i : Nat), m < k → a24.length - i = m → ∃ b, roadbookref07_Few.l1 k i a0 a1 a2 a3 a4 a5 a6 a7 a8 a9 a10 a11 a12 a13 a14 a15 a16 a17 a18 a19 a20 a21 a22 a23 a24 = some b ∧ (b = true → ∀ j : Nat, i ≤ j → j < a24.length → ((rd_T68 a24 (j : Int)).f1).size ≤ 300) := by
  induction m with
  | zero =>
    intro k i hk hm
    obtain ⟨k, rfl⟩ : ∃ j, k = j + 1 := ⟨k - 1, by omega⟩
    simp only [roadbookref07_Few.l1]
    rw [if_neg (by omega)]
    exact ⟨true, rfl, fun _ j h1 h2 => by omega⟩
  | succ m ih =>
    intro k i hk hm
    obtain ⟨k, rfl⟩ : ∃ j, k = j + 1 := ⟨k - 1, by omega⟩
    simp only [roadbookref07_Few.l1]
    rw [if_pos (by omega), if_pos (by omega)]
    by_cases c : (((rd_T68 a24 (i : Int)).f1).size : Int) > 300
    · rw [if_pos c]; exact ⟨false, rfl, fun h => (by cases h)⟩
    · rw [if_neg c, wrap64_id (by omega) (by omega)]
      obtain ⟨b, e, hb⟩ := ih k (i + 1) (by omega) (by omega)
      refine ⟨b, e, fun h j h1 h2 => ?_⟩
      by_cases d : j = i
      · rw [d]; omega
      · exact hb h j (by omega) h2
theorem few_l0 (a0 : Int) (a1 : Int) (a2 : Int) (a3 : ByteArray) (a4 : Int) (a5 : Int) (a6 : ByteArray) (a7 : Int) (a8 : Int) (a9 : ByteArray) (a10 : Int) (a11 : ByteArray) (a12 : Int) (a13 : Int) (a14 : Int) (a15 : Int) (a16 : Int) (a17 : Int) (a18 : Int) (a19 : ByteArray) (a20 : ByteArray) (a21 : List S66) (a22 : Int) (a23 : ByteArray) (a24 : List S68) (hd : a21.length ≤ 1000000) (hl : a24.length ≤ 1000000) (m : Nat) : ∀ (k i : Nat), m + a24.length + 1 < k → a21.length - i = m → ∃ b, roadbookref07_Few.l0 k i a0 a1 a2 a3 a4 a5 a6 a7 a8 a9 a10 a11 a12 a13 a14 a15 a16 a17 a18 a19 a20 a21 a22 a23 a24 = some b ∧ (b = true → (∀ j : Nat, i ≤ j → j < a21.length → ((rd_T66 a21 (j : Int)).f0).size ≤ 50) ∧ ∀ j : Nat, j < a24.length → ((rd_T68 a24 (j : Int)).f1).size ≤ 300) := by
  induction m with
  | zero =>
    intro k i hk hm
    obtain ⟨k, rfl⟩ : ∃ j, k = j + 1 := ⟨k - 1, by omega⟩
    simp only [roadbookref07_Few.l0]
    rw [if_neg (by omega)]
    obtain ⟨b, e, hb⟩ := few_l1 a0 a1 a2 a3 a4 a5 a6 a7 a8 a9 a10 a11 a12 a13 a14 a15 a16 a17 a18 a19 a20 a21 a22 a23 a24 hl a24.length k 0 (by omega) (by omega)
    exact ⟨b, e, fun h => ⟨fun j h1 h2 => by omega, fun j h2 => hb h j (by omega) h2⟩⟩
  | succ m ih =>
    intro k i hk hm
    obtain ⟨k, rfl⟩ : ∃ j, k = j + 1 := ⟨k - 1, by omega⟩
    simp only [roadbookref07_Few.l0]
    rw [if_pos (by omega), if_pos (by omega)]
    by_cases c : (((rd_T66 a21 (i : Int)).f0).size : Int) > 50
    · rw [if_pos c]; exact ⟨false, rfl, fun h => (by cases h)⟩
    · rw [if_neg c, wrap64_id (by omega) (by omega)]
      obtain ⟨b, e, hb⟩ := ih k (i + 1) (by omega) (by omega)
      refine ⟨b, e, fun h => ⟨fun j h1 h2 => ?_, (hb h).2⟩⟩
      by_cases d : j = i
      · rw [d]; omega
      · exact (hb h).1 j (by omega) h2
/-- Few tells something, and where it says yes the parts are few and small. -/
theorem few_f (a0 : Int) (a1 : Int) (a2 : Int) (a3 : ByteArray) (a4 : Int) (a5 : Int) (a6 : ByteArray) (a7 : Int) (a8 : Int) (a9 : ByteArray) (a10 : Int) (a11 : ByteArray) (a12 : Int) (a13 : Int) (a14 : Int) (a15 : Int) (a16 : Int) (a17 : Int) (a18 : Int) (a19 : ByteArray) (a20 : ByteArray) (a21 : List S66) (a22 : Int) (a23 : ByteArray) (a24 : List S68) (h3 : a3.size ≤ 140737488351232) (h6 : a6.size ≤ 140737488351232) (h9 : a9.size ≤ 140737488351232) (h11 : a11.size ≤ 140737488351232) (h19 : a19.size ≤ 140737488351232) (h20 : a20.size ≤ 140737488351232) (k : Nat) (hk : 400 ≤ k) :
    ∃ b, roadbookref07_Few.f k a0 a1 a2 a3 a4 a5 a6 a7 a8 a9 a10 a11 a12 a13 a14 a15 a16 a17 a18 a19 a20 a21 a22 a23 a24 = some b ∧ (b = true → a21.length ≤ 300 ∧ a24.length ≤ 60 ∧ a3.size + a6.size ≤ 200 ∧ a9.size + a11.size ≤ 200 ∧ a19.size + a20.size ≤ 200 ∧ a23.size ≤ 300 ∧ (∀ x ∈ a21, x.f0.size ≤ 50) ∧ ∀ x ∈ a24, x.f1.size ≤ 300) := by
  obtain ⟨k, rfl⟩ : ∃ j, k = j + 1 := ⟨k - 1, by omega⟩
  have no : roadbookref07_Few.j0 (k + 1) true a0 a1 a2 a3 a4 a5 a6 a7 a8 a9 a10 a11 a12 a13 a14 a15 a16 a17 a18 a19 a20 a21 a22 a23 a24 = some false := by simp only [roadbookref07_Few.j0, if_true]
  unfold roadbookref07_Few.f
  rw [no, wrap64_id (x := (a3.size : Int) + a6.size) (by omega) (by omega), wrap64_id (x := (a9.size : Int) + a11.size) (by omega) (by omega), wrap64_id (x := (a19.size : Int) + a20.size) (by omega) (by omega)]
  by_cases c1 : (a21.length : Int) > 300
  · rw [if_pos c1]; exact ⟨false, rfl, fun h => (by cases h)⟩
  rw [if_neg c1]
  by_cases c2 : (a24.length : Int) > 60
  · rw [if_pos c2]; exact ⟨false, rfl, fun h => (by cases h)⟩
  rw [if_neg c2]
  by_cases c3 : (a3.size : Int) + a6.size > 200
  · rw [if_pos c3]; exact ⟨false, rfl, fun h => (by cases h)⟩
  rw [if_neg c3]
  by_cases c4 : (a9.size : Int) + a11.size > 200
  · rw [if_pos c4]; exact ⟨false, rfl, fun h => (by cases h)⟩
  rw [if_neg c4]
  by_cases c5 : (a19.size : Int) + a20.size > 200
  · rw [if_pos c5]; exact ⟨false, rfl, fun h => (by cases h)⟩
  rw [if_neg c5]
  by_cases c6 : (a23.size : Int) > 300
  · rw [decide_eq_true c6, no]; exact ⟨false, rfl, fun h => (by cases h)⟩
  rw [decide_eq_false c6]
  simp only [roadbookref07_Few.j0, Bool.false_eq_true, if_false]
  obtain ⟨b, e, hb⟩ := few_l0 a0 a1 a2 a3 a4 a5 a6 a7 a8 a9 a10 a11 a12 a13 a14 a15 a16 a17 a18 a19 a20 a21 a22 a23 a24 (by omega) (by omega) a21.length k 0 (by omega) (by omega)
  exact ⟨b, e, fun h => ⟨by omega, by omega, by omega, by omega, by omega, by omega, rd_mem_66 fun j hj => (hb h).1 j (by omega) hj, rd_mem_68 (hb h).2⟩⟩

/-- The bounds of a message of few parts. -/
def FewB (x : S34) : Prop := x.f21.length ≤ 300 ∧ x.f24.length ≤ 60 ∧ x.f3.size + x.f6.size ≤ 200 ∧ x.f9.size + x.f11.size ≤ 200 ∧ x.f19.size + x.f20.size ≤ 200 ∧ x.f23.size ≤ 300 ∧ (∀ y ∈ x.f21, y.f0.size ≤ 50) ∧ ∀ y ∈ x.f24, y.f1.size ≤ 300
theorem fewall_l (l : List S34) (hl : l.length ≤ 1000) (hs : ∀ x ∈ l, (x.f3.size ≤ 140737488351232 ∧ x.f6.size ≤ 140737488351232 ∧ x.f9.size ≤ 140737488351232 ∧ x.f11.size ≤ 140737488351232 ∧ x.f19.size ≤ 140737488351232 ∧ x.f20.size ≤ 140737488351232)) (q : Nat) : ∀ (k i : Nat), q + 400 < k → l.length - i = q → ∃ b, roadbookref07_FewAll.l0 k l i = some b ∧ (b = true → ∀ j : Nat, i ≤ j → j < l.length → FewB (rd_T34 l (j : Int))) := by
  induction q with
  | zero =>
    intro k i hk hq
    obtain ⟨k, rfl⟩ : ∃ j, k = j + 1 := ⟨k - 1, by omega⟩
    rw [roadbookref07_FewAll.l0]
    rw [if_neg (by omega)]
    exact ⟨true, rfl, fun _ j h1 h2 => by omega⟩
  | succ q ih =>
    intro k i hk hq
    obtain ⟨k, rfl⟩ : ∃ j, k = j + 1 := ⟨k - 1, by omega⟩
    have h := hs _ (rd_memM (i := i) (by omega))
    rw [roadbookref07_FewAll.l0]
    obtain ⟨r, e, hr⟩ := few_f ((rd_T34 l (i : Int)).f0) ((rd_T34 l (i : Int)).f1) ((rd_T34 l (i : Int)).f2) ((rd_T34 l (i : Int)).f3) ((rd_T34 l (i : Int)).f4) ((rd_T34 l (i : Int)).f5) ((rd_T34 l (i : Int)).f6) ((rd_T34 l (i : Int)).f7) ((rd_T34 l (i : Int)).f8) ((rd_T34 l (i : Int)).f9) ((rd_T34 l (i : Int)).f10) ((rd_T34 l (i : Int)).f11) ((rd_T34 l (i : Int)).f12) ((rd_T34 l (i : Int)).f13) ((rd_T34 l (i : Int)).f14) ((rd_T34 l (i : Int)).f15) ((rd_T34 l (i : Int)).f16) ((rd_T34 l (i : Int)).f17) ((rd_T34 l (i : Int)).f18) ((rd_T34 l (i : Int)).f19) ((rd_T34 l (i : Int)).f20) ((rd_T34 l (i : Int)).f21) ((rd_T34 l (i : Int)).f22) ((rd_T34 l (i : Int)).f23) ((rd_T34 l (i : Int)).f24) h.1 h.2.1 h.2.2.1 h.2.2.2.1 h.2.2.2.2.1 h.2.2.2.2.2 k (by omega)
    rw [if_pos (by omega), if_pos (by omega), e, Option.bind_some]
    cases r with
    | true =>
      rw [if_pos rfl, wrap64_id (by omega) (by omega)]
      obtain ⟨b, e, hb'⟩ := ih k (i + 1) (by omega) (by omega)
      refine ⟨b, e, fun h j h1 h2 => ?_⟩
      by_cases d : j = i
      · rw [d]; exact hr rfl
      · exact hb' h j (by omega) h2
    | false =>
      rw [if_neg (by decide)]
      exact ⟨false, rfl, fun h => (by cases h)⟩
theorem fewall_f (l : List S34) (n : Int) (hn : n ≤ 1000) (hs : ∀ x ∈ l, (x.f3.size ≤ 140737488351232 ∧ x.f6.size ≤ 140737488351232 ∧ x.f9.size ≤ 140737488351232 ∧ x.f11.size ≤ 140737488351232 ∧ x.f19.size ≤ 140737488351232 ∧ x.f20.size ≤ 140737488351232)) (k : Nat) (hk : 1500 ≤ k) : ∃ b, roadbookref07_FewAll.f k l n = some b ∧ (b = true → (l.length : Int) ≤ n ∧ ∀ x ∈ l, FewB x) := by
  unfold roadbookref07_FewAll.f
  by_cases c : (l.length : Int) > n
  · rw [if_pos c]; exact ⟨false, rfl, fun h => (by cases h)⟩
  · rw [if_neg c]
    obtain ⟨b, e, h⟩ := fewall_l l (by omega) hs l.length k 0 (by omega) (by omega)
    refine ⟨b, e, fun hb => ⟨by omega, fun x hx => ?_⟩⟩
    obtain ⟨j, hj, rfl⟩ := List.getElem_of_mem hx
    have := h hb j (Nat.zero_le _) hj
    unfold rd_T34 at this
    rwa [Int.toNat_natCast, List.getD_eq_getElem?_getD, List.getElem?_eq_getElem hj] at this

theorem ngenc_l0 (l : List S34) (hl : l.length ≤ 1000) (ht : ∀ x ∈ l, -9223372036854775808 ≤ x.f8 ∧ x.f8 ≤ 9223372036854775807) (hw : ∀ x ∈ l, x.f21.length ≤ 300 ∧ x.f24.length ≤ 60) (q : Nat) : ∀ (k i : Nat), l.length + l.length + q + 1500 < k → l.length - i = q → i ≤ l.length → roadbooklaw12_RipngEncodes.l0 k l i = some true := by
  induction q with
  | zero =>
    intro k i hk hq hi
    obtain ⟨k, rfl⟩ : ∃ j, k = j + 1 := ⟨k - 1, by omega⟩
    obtain ⟨X, e1, e2⟩ := both_la l hl ht hw l.length k 0 (by omega) (by omega) (by omega) (fun j hj => by omega)
    have e1' : ripng_Encode.f k l = some X := e1
    have e2' : roadbookref12_Encode.f k l = some X := e2
    rw [roadbooklaw12_RipngEncodes.l0, if_neg (by omega), e1', e2', Option.bind_some, Option.bind_some, ngawake_f k (by omega), Option.bind_some, if_pos rfl, if_pos rfl, if_pos rfl, beq_self_eq_true]
  | succ q ih =>
    intro k i hk hq hi
    obtain ⟨k, rfl⟩ : ∃ j, k = j + 2 + 1 := ⟨k - 3, by omega⟩
    have mem := rd_memM (l := l) (i := i) (by omega)
    obtain ⟨r, e, h⟩ := right_ex k (rd_T34 l (i : Int)) (ht _ mem)
    obtain ⟨r', e', h'⟩ := refright_ex (rd_T34 l (i : Int)) (hw _ mem).1 (hw _ mem).2 (k + 2) (by omega)
    have er : r' = r := by rw [Bool.eq_iff_iff, h, h']
    subst er
    rw [roadbooklaw12_RipngEncodes.l0, if_pos (by omega), if_pos (by omega), e, e', Option.bind_some, Option.bind_some, if_neg (by cases r' <;> decide), wrap64_id (by omega) (by omega), show ((i : Int) + 1) = ((i + 1 : Nat) : Int) by omega]
    exact ih (k + 2) (i + 1) (by omega) (by omega) (by omega)
theorem RipngEncodes : roadbooklaw12_RipngEncodes.Pure := by
  intro l g
  refine ⟨5002, ?_⟩
  have hs : ∀ (x : S34), good34 x → (x.f3.size ≤ 140737488351232 ∧ x.f6.size ≤ 140737488351232 ∧ x.f9.size ≤ 140737488351232 ∧ x.f11.size ≤ 140737488351232 ∧ x.f19.size ≤ 140737488351232 ∧ x.f20.size ≤ 140737488351232) := fun x h => ⟨h.2.2.2.1, h.2.2.2.2.2.2.1, h.2.2.2.2.2.2.2.2.2.1, h.2.2.2.2.2.2.2.2.2.2.2.1, h.2.2.2.2.2.2.2.2.2.2.2.2.2.2.2.2.2.2.2.1, h.2.2.2.2.2.2.2.2.2.2.2.2.2.2.2.2.2.2.2.2.1⟩
  have ht : ∀ x ∈ l, -9223372036854775808 ≤ x.f8 ∧ x.f8 ≤ 9223372036854775807 := fun x hx => wf_i64 (g.2 x hx).2.2.2.2.2.2.2.2.1
  unfold roadbooklaw12_RipngEncodes.f
  rw [ngawake_f 5002 (by omega)]
  obtain ⟨b, e, hb⟩ := fewall_f l 40 (by omega) (fun x hx => hs x (g.2 x hx)) 5002 (by omega)
  rw [e, Option.bind_some]
  cases b with
  | false => rw [if_neg (by decide)]; rfl
  | true =>
    obtain ⟨h40, few⟩ := hb rfl
    rw [if_pos rfl]
    exact ngenc_l0 l (by omega) ht (fun x hx => ⟨(few x hx).1, (few x hx).2.1⟩) l.length 5002 0 (by omega) (by omega) (by omega)

end Go.Proofs.Ytnifhgackjkkbaa.Pure
