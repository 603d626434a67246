/-
Whether any address and length are a prefix, how it is cut and filled, and how many bytes are alike, are the document's.
-/
import Derived.Test.YtelcciekdoccfaaQPrefixTells
import Derived.Test.YtelcciekdoccfaaBase
namespace Go.Proofs.Ytelcciekdoccfaa.Pure
open Go.RowKit Go.Proofs.Ytelcciekdoccfaa.PPrefixTells Go.Proofs.YtelcciekdoccfaaW.PrintWords Go.Proofs.YtelcciekdoccfaaW.PrintLast Go.Proofs.YtelcciekdoccfaaW.PrintMore Go.Proofs.Ytelcciekdoccfaa.Base
set_option linter.unusedVariables false
set_option linter.unusedSimpArgs false

/-- Bit m (the highest is 0) of a byte. -/
def bitAt (b : Int) (m : Nat) : Bool := b.toNat.testBit (7 - m)
/-- Bit i of a text. -/
def bit (s : ByteArray) (i : Int) : Bool := decide (0 ≤ i ∧ i < 8 * s.size) && bitAt (bt s (i / 8)) (i % 8).toNat
/-- The first m bits of a byte alone. -/
def kb (b : Int) (m : Int) : Int := if m ≤ 0 then 0 else if 8 ≤ m then b else b / 2 ^ (8 - m).toNat * 2 ^ (8 - m).toNat
/-- The first n bits of a text alone. -/
def keepL (s : ByteArray) (n : Int) : List Int := (List.range s.size).map fun (j : Nat) => kb (bt s j) (n - 8 * j)
def keep (s : ByteArray) (n : Int) : ByteArray := strOfNums (keepL s n)

theorem kb_mid : ∀ b : Fin 256, ∀ m : Fin 8, Go.bits .andNot .u8 ((b.val : Nat) : Int) (255 / 2 ^ m.val) = kb ((b.val : Nat) : Int) (m.val : Nat) := by decide +kernel
theorem kb_bit : ∀ b : Fin 256, ∀ m : Fin 9, ∀ j : Fin 8, bitAt (kb ((b.val : Nat) : Int) (m.val : Nat)) j.val = (decide (j.val < m.val) && bitAt ((b.val : Nat) : Int) j.val) := by decide +kernel
theorem kb_kb_fin : ∀ b : Fin 256, ∀ m : Fin 9, kb (kb ((b.val : Nat) : Int) (m.val : Nat)) (m.val : Nat) = kb ((b.val : Nat) : Int) (m.val : Nat) := by decide +kernel
theorem kb_range_fin : ∀ b : Fin 256, ∀ m : Fin 9, 0 ≤ kb ((b.val : Nat) : Int) (m.val : Nat) ∧ kb ((b.val : Nat) : Int) (m.val : Nat) ≤ 255 := by decide +kernel
theorem kb_step_fin : ∀ b : Fin 256, ∀ m : Fin 8, kb ((b.val : Nat) : Int) ((m.val + 1 : Nat) : Int) = (kb ((b.val : Nat) : Int) (m.val : Nat) + if bitAt ((b.val : Nat) : Int) m.val = true then 2 ^ (7 - m.val) else 0) := by decide +kernel
theorem bit_and_fin : ∀ b : Fin 256, ∀ m : Fin 8, (Go.bits .and .u8 ((b.val : Nat) : Int) (128 / 2 ^ m.val) != 0) = bitAt ((b.val : Nat) : Int) m.val := by decide +kernel
theorem bit_div_fin : ∀ b : Fin 256, ∀ m : Fin 8, (Int.tmod (((b.val : Nat) : Int) / 2 ^ (7 - m.val)) 2 == 1) = bitAt ((b.val : Nat) : Int) m.val := by decide +kernel

/-- A byte, as one of 256. -/
theorem byte_fin {b : Int} (h : 0 ≤ b ∧ b ≤ 255) : ∃ x : Fin 256, b = ((x.val : Nat) : Int) := ⟨⟨b.toNat, by omega⟩, by simp; omega⟩
/-- How many of a byte's bits are kept, as one of 0 to 8. -/
theorem kb_clip (b m : Int) : ∃ q : Fin 9, kb b m = kb b (q.val : Nat) ∧ (q.val : Int) = max 0 (min 8 m) := by
  by_cases h0 : m ≤ 0
  · exact ⟨⟨0, by omega⟩, by unfold kb; rw [if_pos h0, if_pos (by simp)], by simp; omega⟩
  · by_cases h8 : 8 ≤ m
    · exact ⟨⟨8, by omega⟩, by unfold kb; rw [if_neg h0, if_pos h8, if_neg (by simp), if_pos (by simp)], by simp; omega⟩
    · exact ⟨⟨m.toNat, by omega⟩, by simp only [show ((m.toNat : Nat) : Int) = m by omega], by simp; omega⟩
theorem kb_range {b : Int} (h : 0 ≤ b ∧ b ≤ 255) (m : Int) : 0 ≤ kb b m ∧ kb b m ≤ 255 := by
  obtain ⟨x, rfl⟩ := byte_fin h
  obtain ⟨q, e, _⟩ := kb_clip ((x.val : Nat) : Int) m
  rw [e]; exact kb_range_fin x q
theorem kb_kb {b : Int} (h : 0 ≤ b ∧ b ≤ 255) (m : Int) : kb (kb b m) m = kb b m := by
  obtain ⟨x, rfl⟩ := byte_fin h
  obtain ⟨q, e, hq⟩ := kb_clip ((x.val : Nat) : Int) m
  obtain ⟨q', e', hq'⟩ := kb_clip (kb ((x.val : Nat) : Int) m) m
  have : q' = q := Fin.ext (by omega)
  rw [e', this, e]; exact kb_kb_fin x q
theorem kb_bitAt {b : Int} (h : 0 ≤ b ∧ b ≤ 255) (m : Int) (j : Nat) (hj : j < 8) : bitAt (kb b m) j = (decide ((j : Int) < m) && bitAt b j) := by
  obtain ⟨x, rfl⟩ := byte_fin h
  obtain ⟨q, e, hq⟩ := kb_clip ((x.val : Nat) : Int) m
  rw [e]
  have := kb_bit x q ⟨j, hj⟩
  simp only at this
  rw [this]
  congr 1
  rw [Bool.eq_iff_iff, decide_eq_true_iff, decide_eq_true_iff]; omega

theorem keepL_length (s : ByteArray) (n : Int) : (keepL s n).length = s.size := by simp [keepL]
theorem keepL_getD (s : ByteArray) (n : Int) (j : Nat) (h : j < s.size) : (keepL s n).getD j 0 = kb (bt s j) (n - 8 * j) := by
  simp [keepL, List.getD_eq_getElem?_getD, List.getElem?_map, List.getElem?_range h]
theorem keepL_range (s : ByteArray) (n : Int) : ∀ x ∈ keepL s n, 0 ≤ x ∧ x ≤ 255 := by
  intro x hx
  simp only [keepL, List.mem_map] at hx
  obtain ⟨j, _, rfl⟩ := hx
  exact kb_range (bt_range s j) _
theorem keep_size (s : ByteArray) (n : Int) : (keep s n).size = s.size := by rw [keep, size_nums, keepL_length]
theorem bt_keep (s : ByteArray) (n : Int) (j : Nat) (h : j < s.size) : bt (keep s n) j = kb (bt s j) (n - 8 * j) := by
  rw [keep, bt_bytes _ (keepL_range s n), keepL_getD s n j h]
theorem keep_keep (s : ByteArray) (n : Int) : keep (keep s n) n = keep s n := by
  refine ext_bt (by rw [keep_size]) fun j hj => ?_
  rw [keep_size, keep_size] at hj
  rw [bt_keep _ _ _ (by rw [keep_size]; exact hj), bt_keep _ _ _ hj, kb_kb (bt_range s j)]
theorem bit_keep (s : ByteArray) (n i : Int) : bit (keep s n) i = (decide (i < n) && bit s i) := by
  unfold bit
  rw [keep_size]
  by_cases h : 0 ≤ i ∧ i < 8 * (s.size : Int)
  · rw [decide_eq_true h, Bool.true_and, Bool.true_and]
    have e : bt (keep s n) (i / 8) = kb (bt s (i / 8)) (n - 8 * (i / 8)) := by
      have := bt_keep s n (i / 8).toNat (by omega)
      rwa [show (((i / 8).toNat : Nat) : Int) = i / 8 by omega] at this
    rw [e, kb_bitAt (bt_range s _) _ _ (by omega)]
    congr 1
    rw [Bool.eq_iff_iff, decide_eq_true_iff, decide_eq_true_iff]; omega
  · rw [decide_eq_false h]; simp

theorem and7 {n : Int} (h0 : 0 ≤ n) (h1 : n < 9223372036854775808) : Go.bits .and .i64 n 7 = n % 8 :=
  bits_mask .i64 63 (by decide) (fun m h0 h1 => by rw [IntKind.wrap_i64]; omega) 3 (by decide) n h0 (by simpa using h1)

theorem set_getD {l : List Int} {k j : Nat} (v : Int) (h : j < l.length) : (l.set k v).getD j 0 = if k = j then v else l.getD j 0 := by
  rw [List.getD_eq_getElem?_getD, List.getElem?_set]
  split
  · rename_i e; subst e; rw [if_pos h]; rfl
  · rw [List.getD_eq_getElem?_getD]
theorem rep_getD (m j : Nat) : (List.replicate m (0 : Int)).getD j 0 = 0 := by
  rw [List.getD_eq_getElem?_getD, List.getElem?_replicate]; split <;> rfl

def rightP (a : ByteArray) (n : Int) : Bool := decide ((a.size = 4 ∨ a.size = 16) ∧ 0 ≤ n ∧ n ≤ 8 * a.size ∧ keep a n = a)
def least (n : Int) : Int := if n < 0 then 0 else (n + 7) / 8
def cutP (a : ByteArray) (n : Int) : ByteArray := (keep a n).extract 0 (min (least n) a.size).toNat
def fillP (s : ByteArray) (n : Int) : ByteArray := s ++ strOfNums (List.replicate (n - s.size).toNat 0)
def LeadIs (a b : ByteArray) (r : Int) : Prop := 0 ≤ r ∧ r ≤ a.size ∧ r ≤ b.size ∧ (∀ j : Nat, (j : Int) < r → bt a j = bt b j) ∧ (r < a.size → r < b.size → bt a r ≠ bt b r)
theorem LeadIs.one {a b : ByteArray} {r q : Int} (h : LeadIs a b r) (k : LeadIs a b q) : r = q := by
  obtain ⟨h0, h1, h2, h3, h4⟩ := h
  obtain ⟨k0, k1, k2, k3, k4⟩ := k
  rcases Int.lt_trichotomy r q with c | c | c
  · have := k3 r.toNat (by omega)
    rw [show ((r.toNat : Nat) : Int) = r by omega] at this
    exact absurd this (h4 (by omega) (by omega))
  · exact c
  · have := h3 q.toNat (by omega)
    rw [show ((q.toNat : Nat) : Int) = q by omega] at this
    exact absurd this (k4 (by omega) (by omega))
theorem LeadIs.symm {a b : ByteArray} {r : Int} (h : LeadIs a b r) : LeadIs b a r := by
  obtain ⟨h0, h1, h2, h3, h4⟩ := h
  exact ⟨h0, h2, h1, fun j c => (h3 j c).symm, fun c d e => h4 d c e.symm⟩
theorem bt_fill (s : ByteArray) (n : Int) (i : Nat) : bt (fillP s n) i = if i < s.size then bt s i else 0 := by
  unfold fillP
  rw [bt_app _ _ _ (by omega)]
  by_cases c : i < s.size
  · rw [if_pos (by omega), if_pos c]
  · rw [if_neg (by omega), if_neg c, show (i : Int) - s.size = ((i - s.size : Nat) : Int) by omega, bt_bytes _ (lit_rep _), rep_getD]
theorem size_fill (s : ByteArray) (n : Int) : (fillP s n).size = s.size + (n - s.size).toNat := by
  unfold fillP; rw [size_app, size_nums, List.length_replicate]

theorem bits_Keep_f (s : ByteArray) (n : Int) (hs : s.size ≤ 1000000) (hn : -9223372036854775808 ≤ n) : bits_Keep.f s n = some (keep s n) := by
  unfold bits_Keep.f
  rw [if_pos (by omega)]
  by_cases h1 : 8 * (s.size : Int) ≤ n
  · rw [if_pos h1]
    congr 1
    refine ext_bt (by rw [keep_size]) fun j hj => ?_
    rw [bt_keep s n j hj]
    unfold kb; rw [if_neg (by omega), if_pos (by omega)]
  · rw [if_neg h1]
    by_cases h2 : n ≤ 0
    · rw [if_pos h2]
      congr 1
      refine ext_bt (by rw [keep_size, size_nums, List.length_replicate]) fun j hj => ?_
      rw [size_nums, List.length_replicate] at hj
      rw [bt_keep s n j hj, bt_bytes _ (lit_rep _)]
      unfold kb; rw [if_pos (by omega), rep_getD]
    · rw [if_neg h2]
      congr 1
      have hk0 : 0 ≤ n / 8 := by omega
      have hk1 : n / 8 < (s.size : Int) := by omega
      obtain ⟨k, hk⟩ : ∃ k : Nat, n / 8 = k := ⟨(n / 8).toNat, by omega⟩
      rw [hk, and7 (by omega) (by omega), u64_id (by omega) (by omega)]
      have hv : Go.bits .andNot .u8 (bt s k) (255 / 2 ^ min (n % 8).toNat 8) = kb (bt s k) (n - 8 * k) := by
        obtain ⟨x, hx⟩ := byte_fin (bt_range s k)
        rw [hx]
        have := kb_mid x ⟨(n % 8).toNat, by omega⟩
        simp only at this
        rw [show min (n % 8).toNat 8 = (n % 8).toNat by omega, this]
        congr 1; omega
      rw [hv, show ((k : Int)).toNat = k by omega]
      have he : (s.extract 0 k).size = k := by rw [size_ext]; omega
      rw [he]
      have hlen : (bytesOf (s.extract 0 k) ++ (List.replicate s.size (0 : Int)).drop k).length = s.size := by
        rw [List.length_append, len_bytesOf, he, List.length_drop, List.length_replicate]; omega
      have hgd : ∀ j, j < s.size → ((bytesOf (s.extract 0 k) ++ (List.replicate s.size (0 : Int)).drop k).set k (kb (bt s k) (n - 8 * k))).getD j 0 = kb (bt s j) (n - 8 * j) := by
        intro j hj
        rw [set_getD _ (by rw [hlen]; exact hj)]
        by_cases hkj : k = j
        · rw [if_pos hkj, hkj]
        · rw [if_neg hkj]
          by_cases hlt : j < k
          · rw [List.getD_eq_getElem?_getD, List.getElem?_append_left (by rw [len_bytesOf, he]; exact hlt), ← List.getD_eq_getElem?_getD, bytesOf_getD, bt_ext _ _ _ _ (by omega), if_pos (by omega)]
            unfold kb; rw [if_neg (by omega), if_pos (by omega)]; congr 1; omega
          · rw [List.getD_eq_getElem?_getD, List.getElem?_append_right (by rw [len_bytesOf, he]; omega), List.drop_replicate, ← List.getD_eq_getElem?_getD, rep_getD]
            unfold kb; rw [if_pos (by omega)]
      have hrange : ∀ x ∈ (bytesOf (s.extract 0 k) ++ (List.replicate s.size (0 : Int)).drop k).set k (kb (bt s k) (n - 8 * k)), 0 ≤ x ∧ x ≤ 255 := by
        intro x hx
        obtain ⟨j, hj, rfl⟩ := List.getElem_of_mem hx
        have := hgd j (by rw [List.length_set, hlen] at hj; exact hj)
        rw [List.getD_eq_getElem?_getD, List.getElem?_eq_getElem hj] at this
        simp only [Option.getD_some] at this
        rw [this]; exact kb_range (bt_range s j) _
      refine ext_bt (by rw [keep_size, size_nums, List.length_set, hlen]) fun j hj => ?_
      rw [size_nums, List.length_set, hlen] at hj
      rw [bt_keep s n j hj, bt_bytes _ hrange, hgd j hj]

theorem bits_Clean_f (s : ByteArray) (n : Int) (hs : s.size ≤ 1000000) (hn : -9223372036854775808 ≤ n) : bits_Clean.f s n = some (decide (keep s n = s)) := by
  unfold bits_Clean.f
  rw [bits_Keep_f s n hs hn, Option.bind_some]
  congr 1
  rw [Bool.eq_iff_iff, beq_iff_eq, decide_eq_true_iff, toList_inj]

theorem prefix_Right_f (a : ByteArray) (n : Int) : prefix_Right.f a n = some (rightP a n) := by
  unfold prefix_Right.f rightP
  have main : ∀ (hs : a.size = 4 ∨ a.size = 16), (if n ≥ 0 then (if n ≤ (wrap64 (8 * (a.size : Int))) then ((bits_Clean.f a n).bind fun t => (some t)) else (some false)) else (some false)) = some (decide ((a.size = 4 ∨ a.size = 16) ∧ 0 ≤ n ∧ n ≤ 8 * a.size ∧ keep a n = a)) := by
    intro hs
    rw [wrap64_id (by omega) (by omega)]
    by_cases h0 : n ≥ 0
    · rw [if_pos h0]
      by_cases h1 : n ≤ 8 * (a.size : Int)
      · rw [if_pos h1, bits_Clean_f a n (by omega) (by omega), Option.bind_some]
        congr 1
        rw [Bool.eq_iff_iff, decide_eq_true_iff, decide_eq_true_iff]
        exact ⟨fun h => ⟨hs, h0, h1, h⟩, fun h => h.2.2.2⟩
      · rw [if_neg h1, decide_eq_false (fun h => h1 h.2.2.1)]
    · rw [if_neg h0, decide_eq_false (fun h => h0 h.2.1)]
  by_cases h4 : (a.size : Int) = 4
  · rw [if_pos h4]; exact main (by omega)
  · rw [if_neg h4]
    by_cases h16 : (a.size : Int) = 16
    · rw [if_pos h16]; exact main (by omega)
    · rw [if_neg h16, decide_eq_false (fun h => by omega)]
theorem prefix_Least_f (n : Int) (hn : n ≤ 1099511627776) : prefix_Least.f n = some (least n) := by
  unfold prefix_Least.f least mx
  congr 1
  by_cases h : n < 0
  · rw [if_pos h, if_pos h, wrap64_id (by decide) (by decide)]; rfl
  · rw [if_neg h, if_neg h, wrap64_id (by omega) (by omega)]
theorem prefix_Cut_f (a : ByteArray) (n : Int) (hn : n ≤ 1099511627776) (hn' : -9223372036854775808 ≤ n) (hs : a.size ≤ 1000000) : prefix_Cut.f a n = some (cutP a n) := by
  unfold prefix_Cut.f cutP
  rw [prefix_Least_f n hn, Option.bind_some]
  have e : mn (least n) (a.size : Int) = min (least n) a.size := by unfold mn; split <;> omega
  have hl : 0 ≤ least n := by unfold least; split <;> omega
  rw [e, if_pos (by omega), if_pos (by omega), bits_Keep_f _ n (by rw [size_ext]; omega) hn', Option.bind_some]
  congr 1
  refine ext_bt (by rw [keep_size, size_ext, size_ext, keep_size]) fun j hj => ?_
  rw [keep_size, size_ext] at hj
  rw [bt_keep _ _ _ (by rw [size_ext]; omega), bt_ext _ _ _ _ (by omega), bt_ext _ _ _ _ (by omega), if_pos (by omega), if_pos (by rw [keep_size]; omega)]
  have := bt_keep a n j (by omega)
  rw [show ((0 : Nat) : Int) + (j : Int) = j by omega, this]
theorem prefix_Fill_f (s : ByteArray) (n : Int) (hn : n ≤ 281474976710656) (hs : s.size ≤ 1000000) : prefix_Fill.f s n = some (fillP s n) := by
  unfold prefix_Fill.f
  rw [if_pos (by omega)]
  by_cases h : n ≤ (s.size : Int)
  · rw [if_pos h]
    congr 1
    refine ext_bt (by rw [size_fill]; omega) fun j hj => ?_
    rw [bt_fill, if_pos hj]
  · rw [if_neg h, if_pos hn]
    congr 1
    have hr : ∀ x ∈ bytesOf s ++ (List.replicate n.toNat (0 : Int)).drop s.size, 0 ≤ x ∧ x ≤ 255 := by
      intro x hx
      rcases List.mem_append.mp hx with hx | hx
      · exact bytesOf_range s x hx
      · exact lit_rep _ x (List.mem_of_mem_drop hx)
    have hl : (bytesOf s ++ (List.replicate n.toNat (0 : Int)).drop s.size).length = s.size + (n - s.size).toNat := by
      rw [List.length_append, len_bytesOf, List.length_drop, List.length_replicate]; omega
    refine ext_bt (by rw [size_fill, size_nums, hl]) fun j hj => ?_
    rw [bt_bytes _ hr, bt_fill]
    by_cases c : j < s.size
    · rw [if_pos c, List.getD_eq_getElem?_getD, List.getElem?_append_left (by rw [len_bytesOf]; exact c), ← List.getD_eq_getElem?_getD, bytesOf_getD]
    · rw [if_neg c, List.getD_eq_getElem?_getD, List.getElem?_append_right (by rw [len_bytesOf]; omega), List.drop_replicate, ← List.getD_eq_getElem?_getD, rep_getD]

/-- So many first bits are alike, and one more isn't (where both have one more). -/
def IsAlike (s t : ByteArray) (r : Int) : Prop := 0 ≤ r ∧ r ≤ 8 * s.size ∧ r ≤ 8 * t.size ∧ (∀ i, 0 ≤ i → i < r → bit s i = bit t i) ∧ (r < 8 * s.size → r < 8 * t.size → bit s r ≠ bit t r)
theorem IsAlike.one {s t : ByteArray} {r q : Int} (h : IsAlike s t r) (k : IsAlike s t q) : r = q := by
  obtain ⟨h0, h1, h2, h3, h4⟩ := h
  obtain ⟨k0, k1, k2, k3, k4⟩ := k
  rcases Int.lt_trichotomy r q with c | c | c
  · exact absurd (k3 r h0 c) (h4 (by omega) (by omega))
  · exact c
  · exact absurd (h3 q k0 c) (k4 (by omega) (by omega))
theorem IsAlike.symm {s t : ByteArray} {r : Int} (h : IsAlike s t r) : IsAlike t s r := by
  obtain ⟨h0, h1, h2, h3, h4⟩ := h
  exact ⟨h0, h2, h1, fun i a b => (h3 i a b).symm, fun a b c => h4 b a c.symm⟩

theorem xor_nat {a b : Int} (ha : 0 ≤ a ∧ a ≤ 255) (hb : 0 ≤ b ∧ b ≤ 255) : Go.bits .xor .u8 a b = ((a.toNat ^^^ b.toNat : Nat) : Int) := by
  obtain ⟨x, rfl⟩ : ∃ x : Nat, a = x := ⟨a.toNat, by omega⟩
  obtain ⟨y, rfl⟩ : ∃ y : Nat, b = y := ⟨b.toNat, by omega⟩
  have hx : x % 2 ^ IntKind.u8.bits = x := Nat.mod_eq_of_lt (by simp [IntKind.bits]; omega)
  have hy : y % 2 ^ IntKind.u8.bits = y := Nat.mod_eq_of_lt (by simp [IntKind.bits]; omega)
  have hz : x ^^^ y < 2 ^ 8 := Nat.xor_lt_two_pow (by omega) (by omega)
  simp only [Go.bits, BitVec.ofInt_natCast, BitVec.toNat_xor, BitVec.toNat_ofNat, hx, hy, Int.toNat_natCast]
  exact wraps_u8 _ (by omega) (by omega)
theorem lead_top : ∀ x : Fin 256, x.val ≠ 0 → 1 ≤ Lib.bitLen x.val ∧ Lib.bitLen x.val ≤ 8 ∧ x.val.testBit (Lib.bitLen x.val - 1) = true := by decide +kernel
theorem lead_rest : ∀ x : Fin 256, ∀ j : Fin 8, Lib.bitLen x.val ≤ j.val → x.val.testBit j.val = false := by decide +kernel

theorem bits_Alike_l (s t : ByteArray) (hs : s.size ≤ 1000000) (ht : t.size ≤ 1000000) (M : Int) (hM : M = min (s.size : Int) t.size) (m : Nat) :
    ∀ (k : Nat) (i : Int), m < k → 0 ≤ i → M - i = m → (∀ j : Int, 0 ≤ j → j < i → bt s j = bt t j) → ∃ r, bits_Alike.l0 k s t M i = some r ∧ IsAlike s t r := by
  have low : ∀ i : Int, i ≤ M → (∀ j : Int, 0 ≤ j → j < i → bt s j = bt t j) → ∀ q, 0 ≤ q → q < 8 * i → bit s q = bit t q := by
    intro i hi h q h0 h1
    unfold bit
    rw [h (q / 8) (by omega) (by omega), decide_eq_true (by omega), decide_eq_true (by omega)]
  induction m with
  | zero =>
    intro k i hk h0 hm hz
    obtain ⟨k, rfl⟩ : ∃ j, k = j + 1 := ⟨k - 1, by omega⟩
    simp only [bits_Alike.l0]
    have e : mn (s.size : Int) (t.size : Int) = M := by rw [hM]; unfold mn; split <;> omega
    rw [if_neg (by omega), e, wrap64_id (by omega) (by omega)]
    exact ⟨_, rfl, by omega, by omega, by omega, low M (by omega) (fun j a b => hz j a (by omega)), fun a b => by omega⟩
  | succ m ih =>
    intro k i hk h0 hm hz
    obtain ⟨k, rfl⟩ : ∃ j, k = j + 1 := ⟨k - 1, by omega⟩
    simp only [bits_Alike.l0]
    rw [if_pos (by omega), if_pos h0, if_pos (by omega), if_pos (by omega)]
    have ra := bt_range s i
    have rb := bt_range t i
    rw [xor_nat ra rb]
    have hx256 : (bt s i).toNat ^^^ (bt t i).toNat < 256 := Nat.xor_lt_two_pow (n := 8) (by omega) (by omega)
    obtain ⟨x, hx⟩ : ∃ x : Fin 256, x.val = (bt s i).toNat ^^^ (bt t i).toNat := ⟨⟨_, hx256⟩, rfl⟩
    rw [← hx]
    by_cases hz0 : x.val = 0
    · rw [if_pos (by omega), wrap64_id (by omega) (by omega)]
      refine ih k (i + 1) (by omega) (by omega) (by omega) fun j a b => ?_
      by_cases hj : j = i
      · subst hj
        have : (bt s j).toNat = (bt t j).toNat := by
          have h := hx.symm.trans hz0
          apply Nat.eq_of_testBit_eq
          intro q
          have h2 := Nat.testBit_xor (bt s j).toNat (bt t j).toNat q
          rw [h, Nat.zero_testBit] at h2
          simpa using h2.symm
        omega
      · exact hz j a (by omega)
    · rw [if_neg (by omega)]
      obtain ⟨l1, l8, ltop⟩ := lead_top x hz0
      have hb : bits_LeadingZeros8.f ((x.val : Nat) : Int) = some (8 - (Lib.bitLen x.val : Int)) := by
        unfold bits_LeadingZeros8.f bits_Len8.f
        rw [if_pos (by omega), Option.bind_some, wrap64_id (by simp; omega) (by simp; omega)]
        simp
      rw [hb, Option.bind_some, wrap64_id (x := 8 * i) (by omega) (by omega), wrap64_id (by omega) (by omega)]
      have tb : ∀ j, x.val.testBit j = ((bt s i).toNat.testBit j ^^ (bt t i).toNat.testBit j) := by intro j; rw [hx, Nat.testBit_xor]
      refine ⟨_, rfl, by omega, by omega, by omega, ?_, ?_⟩
      · intro q q0 q1
        by_cases hq : q < 8 * i
        · exact low i (by omega) hz q q0 hq
        · unfold bit
          rw [show q / 8 = i by omega, decide_eq_true (by omega), decide_eq_true (by omega), Bool.true_and, Bool.true_and]
          unfold bitAt
          have h := lead_rest x ⟨7 - (q % 8).toNat, by omega⟩ (by simp; omega)
          simp only at h
          rw [tb] at h
          simpa using h
      · intro _ _
        unfold bit
        rw [show (8 * i + (8 - (Lib.bitLen x.val : Int))) / 8 = i by omega, decide_eq_true (by omega), decide_eq_true (by omega), Bool.true_and, Bool.true_and]
        unfold bitAt
        rw [show (8 * i + (8 - (Lib.bitLen x.val : Int))) % 8 = 8 - (Lib.bitLen x.val : Int) by omega, show 7 - (8 - (Lib.bitLen x.val : Int)).toNat = Lib.bitLen x.val - 1 by omega]
        rw [tb] at ltop
        simpa using ltop

/-- How many first bits are alike. -/
theorem alike_ex (s t : ByteArray) (hs : s.size ≤ 1000000) (ht : t.size ≤ 1000000) : ∃ r, IsAlike s t r ∧ ∀ k, s.size < k → bits_Alike.f k s t = some r := by
  have e : mn (s.size : Int) (t.size : Int) = min (s.size : Int) t.size := by unfold mn; split <;> omega
  obtain ⟨r, h, ha⟩ := bits_Alike_l s t hs ht _ rfl (min (s.size : Int) t.size).toNat (s.size + 1) 0 (by omega) (by omega) (by omega) (fun j _ _ => by omega)
  refine ⟨r, ha, fun k hk => ?_⟩
  unfold bits_Alike.f
  rw [e]
  obtain ⟨q, h', hq⟩ := bits_Alike_l s t hs ht _ rfl (min (s.size : Int) t.size).toNat k 0 (by omega) (by omega) (by omega) (fun j _ _ => by omega)
  rw [h', hq.one ha]

theorem byte_eq {a b : Int} (ha : 0 ≤ a ∧ a ≤ 255) (hb : 0 ≤ b ∧ b ≤ 255) (h : ∀ m, m < 8 → bitAt a m = bitAt b m) : a = b := by
  have : a.toNat = b.toNat := by
    apply Nat.eq_of_testBit_eq
    intro i
    by_cases hi : i < 8
    · have := h (7 - i) (by omega)
      unfold bitAt at this
      rwa [show 7 - (7 - i) = i by omega] at this
    · rw [Nat.testBit_lt_two_pow (Nat.lt_of_lt_of_le (show a.toNat < 2 ^ 8 by omega) (Nat.pow_le_pow_right (by decide) (by omega))), Nat.testBit_lt_two_pow (Nat.lt_of_lt_of_le (show b.toNat < 2 ^ 8 by omega) (Nat.pow_le_pow_right (by decide) (by omega)))]
  omega
theorem eq_of_bits {s t : ByteArray} (hl : s.size = t.size) (h : ∀ i : Int, 0 ≤ i → i < 8 * s.size → bit s i = bit t i) : s = t := by
  refine ext_bt hl fun j hj => byte_eq (bt_range s j) (bt_range t j) fun m hm => ?_
  have := h (8 * j + m) (by omega) (by omega)
  unfold bit at this
  rw [decide_eq_true (by omega), decide_eq_true (by omega), Bool.true_and, Bool.true_and, show (8 * (j : Int) + m) / 8 = j by omega, show (8 * (j : Int) + m) % 8 = m by omega] at this
  exact this

theorem lead_of_alike {a b : ByteArray} {q : Int} (h : IsAlike a b q) : LeadIs a b (q / 8) := by
  obtain ⟨h0, h1, h2, h3, h4⟩ := h
  refine ⟨by omega, by omega, by omega, fun j hj => ?_, fun c d e => ?_⟩
  · refine byte_eq (bt_range a j) (bt_range b j) fun m hm => ?_
    have := h3 (8 * j + m) (by omega) (by omega)
    unfold bit at this
    rw [decide_eq_true (by omega), decide_eq_true (by omega), Bool.true_and, Bool.true_and, show (8 * (j : Int) + m) / 8 = j by omega, show (8 * (j : Int) + m) % 8 = m by omega] at this
    exact this
  · refine h4 (by omega) (by omega) ?_
    unfold bit
    rw [decide_eq_true (by omega), decide_eq_true (by omega), e]
theorem prefix_Lead_ex (a b : ByteArray) (ha : a.size ≤ 1000000) (hb : b.size ≤ 1000000) : ∃ r, LeadIs a b r ∧ ∀ k, a.size < k → prefix_Lead.f k a b = some r := by
  obtain ⟨q, hq, hf⟩ := alike_ex a b ha hb
  refine ⟨q / 8, lead_of_alike hq, fun k hk => ?_⟩
  unfold prefix_Lead.f
  rw [hf k hk, Option.bind_some]

theorem getD_ext {a b : List Int} (hl : a.length = b.length) (h : ∀ j, j < a.length → a.getD j 0 = b.getD j 0) : a = b := by
  apply List.ext_getElem hl
  intro i h1 h2
  have := h i h1
  rw [List.getD_eq_getElem?_getD, List.getElem?_eq_getElem h1, List.getD_eq_getElem?_getD, List.getElem?_eq_getElem h2] at this
  exact this
theorem keepL_eq (s : ByteArray) {a b : Int} (h : ∀ j : Nat, j < s.size → kb (bt s j) (a - 8 * j) = kb (bt s j) (b - 8 * j)) : keepL s a = keepL s b := by
  refine getD_ext (by rw [keepL_length, keepL_length]) fun j hj => ?_
  rw [keepL_length] at hj
  rw [keepL_getD _ _ _ hj, keepL_getD _ _ _ hj, h j hj]
theorem kb_low (b : Int) {m : Int} (h : m ≤ 0) : kb b m = 0 := by unfold kb; rw [if_pos h]
theorem kb_high (b : Int) {m : Int} (h : 8 ≤ m) : kb b m = b := by unfold kb; rw [if_neg (by omega), if_pos h]
theorem keepL_step (s : ByteArray) (i : Int) (h0 : 0 ≤ i) (h1 : i < 8 * s.size) :
    keepL s (i + 1) = if bit s i = true then (keepL s i).set (i / 8).toNat (kb (bt s (i / 8)) (i - 8 * (i / 8)) + 2 ^ (7 - (i % 8).toNat)) else keepL s i := by
  obtain ⟨q, hq⟩ : ∃ q : Nat, i / 8 = q := ⟨(i / 8).toNat, by omega⟩
  have hb : bit s i = bitAt (bt s (i / 8)) (i % 8).toNat := by unfold bit; rw [decide_eq_true ⟨h0, h1⟩, Bool.true_and]
  have hstep : kb (bt s q) (i + 1 - 8 * q) = kb (bt s q) (i - 8 * q) + if bitAt (bt s q) (i % 8).toNat = true then 2 ^ (7 - (i % 8).toNat) else 0 := by
    obtain ⟨x, hx⟩ := byte_fin (bt_range s q)
    rw [hx]
    have := kb_step_fin x ⟨(i % 8).toNat, by omega⟩
    simp only at this
    rw [show i + 1 - 8 * (q : Int) = (((i % 8).toNat + 1 : Nat) : Int) by omega, this, show i - 8 * (q : Int) = (((i % 8).toNat : Nat) : Int) by omega]
  have other : ∀ j : Nat, j ≠ q → kb (bt s j) (i + 1 - 8 * j) = kb (bt s j) (i - 8 * j) := by
    intro j hj
    by_cases c : j < q
    · rw [kb_high _ (by omega), kb_high _ (by omega)]
    · rw [kb_low _ (by omega), kb_low _ (by omega)]
  rw [hb, hq]
  rw [show ((q : Int)).toNat = q by omega]
  by_cases c : bitAt (bt s q) (i % 8).toNat = true
  · rw [if_pos c] at hstep ⊢
    refine getD_ext (by rw [keepL_length, List.length_set, keepL_length]) fun j hj => ?_
    rw [keepL_length] at hj
    rw [keepL_getD _ _ _ hj, set_getD _ (by rw [keepL_length]; exact hj)]
    by_cases e : q = j
    · rw [if_pos e, ← e, hstep]
    · rw [if_neg e, keepL_getD _ _ _ hj, other j (fun c => e c.symm)]
  · rw [if_neg c] at hstep ⊢
    refine keepL_eq s fun j hj => ?_
    by_cases e : j = q
    · rw [e, hstep, Int.add_zero]
    · exact other j e

theorem refBit_f (s : ByteArray) (i : Int) (hs : s.size ≤ 1000000) : roadbookref03_Bit.f s i = some (bit s i) := by
  unfold roadbookref03_Bit.f bit
  by_cases h0 : 0 ≤ i
  · rw [if_pos h0, wrap64_id (x := 8 * _) (by omega) (by omega)]
    by_cases h1 : i < 8 * (s.size : Int)
    · have e1 : wrap64 (Int.tdiv i 8) = i / 8 := by rw [Int.tdiv_eq_ediv_of_nonneg h0, wrap64_id (by omega) (by omega)]
      have e2 : IntKind.u64.wrap (wrap64 (7 - Int.tmod i 8)) = 7 - i % 8 := by rw [Int.tmod_eq_emod_of_nonneg h0, wrap64_id (by omega) (by omega), u64_id (by omega) (by omega)]
      have hr := bt_range s (i / 8)
      rw [if_pos h1, e1, e2, if_pos (by omega), if_pos (by omega), if_pos (by omega), decide_eq_true ⟨h0, h1⟩, Bool.true_and, wrap64_id (by omega) (by omega)]
      congr 1
      obtain ⟨x, hx⟩ := byte_fin hr
      rw [hx]
      have := bit_div_fin x ⟨(i % 8).toNat, by omega⟩
      simp only at this
      unfold shr
      rw [show min (7 - i % 8).toNat IntKind.i64.bits = 7 - (i % 8).toNat by simp [IntKind.bits]; omega]
      exact this
    · rw [if_neg h1, decide_eq_false (fun h => h1 h.2)]; rfl
  · rw [if_neg h0, decide_eq_false (fun h => h0 h.1)]; rfl

theorem kb_add_range {b : Int} (h : 0 ≤ b ∧ b ≤ 255) (m : Nat) (hm : m < 8) (hb : bitAt b m = true) : 0 ≤ kb b m + 2 ^ (7 - m) ∧ kb b m + 2 ^ (7 - m) ≤ 255 := by
  obtain ⟨x, rfl⟩ := byte_fin h
  have := kb_step_fin x ⟨m, hm⟩
  simp only at this
  rw [if_pos hb] at this
  rw [← this]; exact kb_range h _

theorem refKeep_l (s : ByteArray) (hs : s.size ≤ 1000000) (n : Int) (m : Nat) :
    ∀ (k : Nat) (i : Int), 2 * m + 2 < k → 0 ≤ i → 8 * (s.size : Int) - i = m → (i ≤ n ∨ i = 0) → roadbookref03_Keep.l0 k s n (keepL s i) i = some (keep s n) := by
  induction m with
  | zero =>
    intro k i hk h0 hm hi
    obtain ⟨k, rfl⟩ : ∃ j, k = j + 2 := ⟨k - 2, by omega⟩
    simp only [roadbookref03_Keep.l0]
    rw [wrap64_id (by omega) (by omega), if_neg (by omega)]
    simp only [roadbookref03_Keep.j1, Bool.false_eq_true, if_false]
    rw [keep, keepL_eq s (a := i) (b := n) (fun j hj => by rw [kb_high _ (by omega), kb_high _ (by omega)])]
  | succ m ih =>
    intro k i hk h0 hm hi
    obtain ⟨k, rfl⟩ : ∃ j, k = j + 2 := ⟨k - 2, by omega⟩
    simp only [roadbookref03_Keep.l0]
    rw [wrap64_id (by omega) (by omega), if_pos (by omega)]
    simp only [roadbookref03_Keep.j1, decide_eq_true_eq]
    by_cases c : i < n
    · rw [if_pos c, refBit_f s i hs, Option.bind_some]
      have hstep := keepL_step s i h0 (by omega)
      have hnext := ih k (i + 1) (by omega) (by omega) (by omega) (by omega)
      rw [wrap64_id (x := i + 1) (by omega) (by omega)]
      by_cases hb : bit s i = true
      · rw [if_pos hb] at hstep ⊢
        have e1 : wrap64 (Int.tdiv i 8) = i / 8 := by rw [Int.tdiv_eq_ediv_of_nonneg h0, wrap64_id (by omega) (by omega)]
        have e2 : IntKind.u64.wrap (wrap64 (7 - Int.tmod i 8)) = 7 - i % 8 := by rw [Int.tmod_eq_emod_of_nonneg h0, wrap64_id (by omega) (by omega), u64_id (by omega) (by omega)]
        rw [e1, e2, if_pos (by omega), if_pos (by rw [keepL_length]; omega), if_pos (by omega)]
        have e3 : rd (keepL s i) (i / 8) = kb (bt s (i / 8)) (i - 8 * (i / 8)) := by
          have := keepL_getD s i (i / 8).toNat (by omega)
          unfold rd
          rw [this, show (((i / 8).toNat : Nat) : Int) = i / 8 by omega]
        have e4 : shl .u8 1 (7 - i % 8) = 2 ^ (7 - (i % 8).toNat) := by
          unfold shl
          rw [show min (7 - i % 8).toNat IntKind.u8.bits = 7 - (i % 8).toNat by simp [IntKind.bits]; omega, Int.one_mul, IntKind.wrap_u8]
          have : (i % 8).toNat < 8 := by omega
          have : ∀ q : Fin 8, (2 : Int) ^ (7 - q.val) % 256 = 2 ^ (7 - q.val) := by decide
          exact this ⟨(i % 8).toNat, by omega⟩
        have hbA : bitAt (bt s (i / 8)) (i % 8).toNat = true := by
          unfold bit at hb
          rwa [decide_eq_true (by omega), Bool.true_and] at hb
        have hr := kb_add_range (bt_range s (i / 8)) (i % 8).toNat (by omega) hbA
        rw [show (((i % 8).toNat : Nat) : Int) = i - 8 * (i / 8) by omega] at hr
        rw [e3, e4, Int.emod_eq_of_lt hr.1 (by omega), ← hstep]
        exact hnext
      · rw [if_neg hb] at hstep ⊢
        rw [← hstep]; exact hnext
    · rw [if_neg c]
      rw [keep, keepL_eq s (a := i) (b := n)]
      intro j hj
      rcases hi with hi | hi
      · rw [show i = n by omega]
      · subst hi; rw [kb_low _ (by omega), kb_low _ (by omega)]

theorem refKeep_f (s : ByteArray) (n : Int) (hs : s.size ≤ 1000000) (k : Nat) (hk : 16 * s.size + 2 < k) : roadbookref03_Keep.f k s n = some (keep s n) := by
  unfold roadbookref03_Keep.f
  rw [if_pos (by omega), if_pos (by omega)]
  have e : List.replicate ((s.size : Int)).toNat (0 : Int) = keepL s 0 := by
    refine getD_ext (by rw [keepL_length, List.length_replicate]; omega) fun j hj => ?_
    rw [List.length_replicate] at hj
    rw [rep_getD, keepL_getD _ _ _ (by omega), kb_low _ (by omega)]
  rw [e]
  exact refKeep_l s hs n (8 * s.size) k 0 (by omega) (by omega) (by omega) (.inr rfl)

theorem awake_f : ∃ K, ∀ k, K ≤ k → roadbooklaw04_awake.f k = some true := Ev.of (roadbooklaw04_awake.mono) (k := 12) (by decide +kernel)
theorem refClean_f (s : ByteArray) (n : Int) (hs : s.size ≤ 1000000) (k : Nat) (hk : 16 * s.size + 2 < k) : roadbookref03_Clean.f k s n = some (decide (keep s n = s)) := by
  unfold roadbookref03_Clean.f
  rw [refKeep_f s n hs k hk, Option.bind_some]
  congr 1
  rw [Bool.eq_iff_iff, beq_iff_eq, decide_eq_true_iff, toList_inj]
theorem refRight_f (a : ByteArray) (n : Int) (k : Nat) (hk : 1000 < k) : roadbookref04_Right.f k a n = some (rightP a n) := by
  unfold roadbookref04_Right.f rightP
  have main : ∀ (hs : a.size = 4 ∨ a.size = 16), (if n ≥ 0 then (if n ≤ (wrap64 (8 * (a.size : Int))) then ((roadbookref03_Clean.f k a n).bind fun t => (some t)) else (some false)) else (some false)) = some (decide ((a.size = 4 ∨ a.size = 16) ∧ 0 ≤ n ∧ n ≤ 8 * a.size ∧ keep a n = a)) := by
    intro hs
    rw [wrap64_id (by omega) (by omega)]
    by_cases h0 : n ≥ 0
    · rw [if_pos h0]
      by_cases h1 : n ≤ 8 * (a.size : Int)
      · rw [if_pos h1, refClean_f a n (by omega) k (by omega), Option.bind_some]
        congr 1
        rw [Bool.eq_iff_iff, decide_eq_true_iff, decide_eq_true_iff]
        exact ⟨fun h => ⟨hs, h0, h1, h⟩, fun h => h.2.2.2⟩
      · rw [if_neg h1, decide_eq_false (fun h => h1 h.2.2.1)]
    · rw [if_neg h0, decide_eq_false (fun h => h0 h.2.1)]
  by_cases h4 : (a.size : Int) = 4
  · rw [if_pos h4]; exact main (by omega)
  · rw [if_neg h4]
    by_cases h16 : (a.size : Int) = 16
    · rw [if_pos h16]; exact main (by omega)
    · rw [if_neg h16, decide_eq_false (fun h => by omega)]
theorem refLeast_f (n : Int) (hn : n ≤ 1099511627776) : roadbookref04_Least.f n = some (least n) := by
  unfold roadbookref04_Least.f least
  by_cases h : n < 0
  · rw [if_pos h, if_pos h]
  · rw [if_neg h, if_neg h, wrap64_id (x := n + 7) (by omega) (by omega), Int.tdiv_eq_ediv_of_nonneg (by omega), wrap64_id (by omega) (by omega)]
theorem refCut_f (a : ByteArray) (n : Int) (hn : n ≤ 1099511627776) (hs : a.size ≤ 1000000) (k : Nat) (hk : 16 * a.size + 2 < k) : roadbookref04_Cut.f k a n = some (cutP a n) := by
  unfold roadbookref04_Cut.f cutP
  rw [refKeep_f a n hs k hk, Option.bind_some, refLeast_f n hn, Option.bind_some]
  have e : mn (least n) (a.size : Int) = min (least n) a.size := by unfold mn; split <;> omega
  have hl : 0 ≤ least n := by unfold least; split <;> omega
  rw [e, if_pos (by omega), if_pos (by rw [keep_size]; omega)]
theorem refFill_l (m : Nat) : ∀ (k : Nat) (s : ByteArray) (n : Int), m < k → (n - s.size).toNat = m → n ≤ 1000 → s.size ≤ 1000000 → roadbookref04_Fill.l0 k s n = some (fillP s n) := by
  induction m with
  | zero =>
    intro k s n hk hm hn hs
    obtain ⟨k, rfl⟩ : ∃ j, k = j + 1 := ⟨k - 1, by omega⟩
    simp only [roadbookref04_Fill.l0]
    rw [if_neg (by omega)]
    unfold fillP
    rw [hm]
    congr 1
    exact ByteArray.append_empty.symm
  | succ m ih =>
    intro k s n hk hm hn hs
    obtain ⟨k, rfl⟩ : ∃ j, k = j + 1 := ⟨k - 1, by omega⟩
    simp only [roadbookref04_Fill.l0]
    have z : (s ++ (⟨#[0]⟩ : ByteArray)).size = s.size + 1 := by rw [size_app]; rfl
    rw [if_pos (by omega), if_pos (by omega), ih k _ n (by omega) (by rw [z]; omega) hn (by rw [z]; omega)]
    congr 1
    refine ext_bt (by rw [size_fill, size_fill, z]; omega) fun j hj => ?_
    rw [bt_fill, bt_fill, z]
    by_cases c : j < s.size
    · rw [if_pos (by omega), if_pos c, bt_app _ _ _ (by omega), if_pos (by omega)]
    · rw [if_neg c]
      by_cases d : j < s.size + 1
      · rw [if_pos d, bt_app _ _ _ (by omega), if_neg (by omega), show (j : Int) - s.size = 0 by omega]
        rfl
      · rw [if_neg d]
theorem refLead_l (a b : ByteArray) (ha : a.size ≤ 1000000) (m : Nat) : ∀ (k : Nat) (i : Int), m < k → ((a.size : Int) - i).toNat = m → 0 ≤ i → i ≤ a.size → i ≤ b.size → (∀ j : Nat, (j : Int) < i → bt a j = bt b j) → ∃ r, roadbookref04_Lead.l0 k a b i = some r ∧ LeadIs a b r := by
  induction m with
  | zero =>
    intro k i hk hm h0 h1 h2 h3
    obtain ⟨k, rfl⟩ : ∃ j, k = j + 1 := ⟨k - 1, by omega⟩
    simp only [roadbookref04_Lead.l0]
    rw [if_neg (by omega)]
    exact ⟨i, rfl, h0, h1, h2, h3, fun c => by omega⟩
  | succ m ih =>
    intro k i hk hm h0 h1 h2 h3
    obtain ⟨k, rfl⟩ : ∃ j, k = j + 1 := ⟨k - 1, by omega⟩
    simp only [roadbookref04_Lead.l0]
    rw [if_pos (by omega)]
    by_cases c : i < (b.size : Int)
    · rw [if_pos c, if_pos h0]
      by_cases d : bt a i = bt b i
      · rw [if_pos d, wrap64_id (by omega) (by omega)]
        refine ih k (i + 1) (by omega) (by omega) (by omega) (by omega) (by omega) fun j hj => ?_
        by_cases q : (j : Int) < i
        · exact h3 j q
        · rw [show (j : Int) = i by omega]; exact d
      · rw [if_neg d]
        exact ⟨i, rfl, h0, h1, h2, h3, fun _ _ => d⟩
    · rw [if_neg c]
      exact ⟨i, rfl, h0, h1, h2, h3, fun _ e => by omega⟩
theorem PrefixTells : roadbooklaw04_PrefixTells.Pure := by
  intro a b n z hg
  obtain ⟨ha, hb, hn, hz⟩ := hg
  have hn := wf_i64 hn; have hz := wf_i64 hz
  dsimp only at ha hb hn hz
  obtain ⟨K, hK⟩ := awake_f
  refine ⟨K + 10000, ?_⟩
  have big : roadbooklaw04_PrefixTells.j0 (K + 10000) a b n z true = some true := by
    simp only [roadbooklaw04_PrefixTells.j0, if_true]
    rw [hK _ (by omega), Option.bind_some]
  unfold roadbooklaw04_PrefixTells.f
  by_cases c1 : (a.size : Int) > 100
  · rw [if_pos c1]; exact big
  rw [if_neg c1]
  by_cases c2 : (b.size : Int) > 100
  · rw [if_pos c2]; exact big
  rw [if_neg c2]
  by_cases c3 : n > 1099511627776
  · rw [if_pos c3]; exact big
  rw [if_neg c3]
  by_cases c4 : z > 1000
  · rw [decide_eq_true c4]; exact big
  rw [decide_eq_false c4]
  simp only [roadbooklaw04_PrefixTells.j0, Bool.false_eq_true, if_false]
  obtain ⟨r, hr, hf⟩ := prefix_Lead_ex a b (by omega) (by omega)
  obtain ⟨q, hq, hq2⟩ := refLead_l a b (by omega) ((a.size : Int) - 0).toNat (K + 9999) 0 (by omega) rfl (by omega) (by omega) (by omega) (fun j _ => by omega)
  have e : r = q := hr.one hq2
  subst e
  have hl : roadbookref04_Lead.f (K + 9999) a b = some r := hq
  have hfl : roadbookref04_Fill.f (K + 9999) a z = some (fillP a z) := refFill_l (z - a.size).toNat (K + 9999) a z (by omega) rfl (by omega) (by omega)
  rw [hK _ (by omega), Option.bind_some, if_pos rfl, prefix_Right_f, Option.bind_some, refRight_f a n _ (by omega), Option.bind_some, beq_self_eq_true, if_pos rfl, prefix_Least_f n (by omega), Option.bind_some, refLeast_f n (by omega), Option.bind_some, if_pos rfl]
  rw [prefix_Cut_f a n (by omega) hn.1 (by omega), Option.bind_some, refCut_f a n (by omega) (by omega) _ (by omega), Option.bind_some, if_pos rfl, prefix_Fill_f a z (by omega) (by omega), Option.bind_some, hfl, Option.bind_some, if_pos rfl, hf _ (by omega), Option.bind_some, hl, Option.bind_some, beq_self_eq_true]

end Go.Proofs.Ytelcciekdoccfaa.Pure
