/-
A prefix, cut and filled, is that prefix; for any address of 4 or 16 bytes and any length.
-/
import Derived.Test.YtelcciekdoccfaaPPrefixBackx
import Derived.Test.YtelcciekdoccfaaBase
namespace Go.Proofs.Ytelcciekdoccfaa.Pure
open Go.RowKit Go.Proofs.Ytelcciekdoccfaa.PPrefixBack Go.Proofs.YtelcciekdoccfaaW.PrintWords Go.Proofs.YtelcciekdoccfaaW.PrintLast Go.Proofs.YtelcciekdoccfaaW.PrintMore Go.Proofs.Ytelcciekdoccfaa.Base
set_option linter.unusedVariables false
set_option linter.unusedSimpArgs false

/-- Bit m (the highest is 0) of a byte. -/
def bitAt (b : Int) (m : Nat) : Bool := b.toNat.testBit (7 - m)
/-- Bit i of a text. -/
def bit (s : ByteArray) (i : Int) : Bool := decide (0 ≤ i ∧ i < 8 * s.size) && bitAt (bt s (i / 8)) (i % 8).toNat
/-- The first m bits of a byte alone. -/
def kb (b : Int) (m : Int) : Int := if m ≤ 0 then 0 else if 8 ≤ m then b else b / 2 ^ (8 - m).toNat * 2 ^ (8 - m).toNat
/-- The first n bits of a text alone. -/
def keepL (s : ByteArray) (n : Int) : List Int := (List.range s.size).map fun (j : Nat) => kb (bt s j) (n - 8 * j)
def keep (s : ByteArray) (n : Int) : ByteArray := strOfNums (keepL s n)

theorem kb_mid : ∀ b : Fin 256, ∀ m : Fin 8, Go.bits .andNot .u8 ((b.val : Nat) : Int) (255 / 2 ^ m.val) = kb ((b.val : Nat) : Int) (m.val : Nat) := by decide +kernel
theorem kb_bit : ∀ b : Fin 256, ∀ m : Fin 9, ∀ j : Fin 8, bitAt (kb ((b.val : Nat) : Int) (m.val : Nat)) j.val = (decide (j.val < m.val) && bitAt ((b.val : Nat) : Int) j.val) := by decide +kernel
theorem kb_kb_fin : ∀ b : Fin 256, ∀ m : Fin 9, kb (kb ((b.val : Nat) : Int) (m.val : Nat)) (m.val : Nat) = kb ((b.val : Nat) : Int) (m.val : Nat) := by decide +kernel
theorem kb_range_fin : ∀ b : Fin 256, ∀ m : Fin 9, 0 ≤ kb ((b.val : Nat) : Int) (m.val : Nat) ∧ kb ((b.val : Nat) : Int) (m.val : Nat) ≤ 255 := by decide +kernel
theorem kb_step_fin : ∀ b : Fin 256, ∀ m : Fin 8, kb ((b.val : Nat) : Int) ((m.val + 1 : Nat) : Int) = (kb ((b.val : Nat) : Int) (m.val : Nat) + if bitAt ((b.val : Nat) : Int) m.val = true then 2 ^ (7 - m.val) else 0) := by decide +kernel
theorem bit_and_fin : ∀ b : Fin 256, ∀ m : Fin 8, (Go.bits .and .u8 ((b.val : Nat) : Int) (128 / 2 ^ m.val) != 0) = bitAt ((b.val : Nat) : Int) m.val := by decide +kernel
theorem bit_div_fin : ∀ b : Fin 256, ∀ m : Fin 8, (Int.tmod (((b.val : Nat) : Int) / 2 ^ (7 - m.val)) 2 == 1) = bitAt ((b.val : Nat) : Int) m.val := by decide +kernel

/-- A byte, as one of 256. -/
theorem byte_fin {b : Int} (h : 0 ≤ b ∧ b ≤ 255) : ∃ x : Fin 256, b = ((x.val : Nat) : Int) := ⟨⟨b.toNat, by omega⟩, by simp; omega⟩
/-- How many of a byte's bits are kept, as one of 0 to 8. -/
theorem kb_clip (b m : Int) : ∃ q : Fin 9, kb b m = kb b (q.val : Nat) ∧ (q.val : Int) = max 0 (min 8 m) := by
  by_cases h0 : m ≤ 0
  · exact ⟨⟨0, by omega⟩, by unfold kb; rw [if_pos h0, if_pos (by simp)], by simp; omega⟩
  · by_cases h8 : 8 ≤ m
    · exact ⟨⟨8, by omega⟩, by unfold kb; rw [if_neg h0, if_pos h8, if_neg (by simp), if_pos (by simp)], by simp; omega⟩
    · exact ⟨⟨m.toNat, by omega⟩, by simp only [show ((m.toNat : Nat) : Int) = m by omega], by simp; omega⟩
theorem kb_range {b : Int} (h : 0 ≤ b ∧ b ≤ 255) (m : Int) : 0 ≤ kb b m ∧ kb b m ≤ 255 := by
  obtain ⟨x, rfl⟩ := byte_fin h
  obtain ⟨q, e, _⟩ := kb_clip ((x.val : Nat) : Int) m
  rw [e]; exact kb_range_fin x q
theorem kb_kb {b : Int} (h : 0 ≤ b ∧ b ≤ 255) (m : Int) : kb (kb b m) m = kb b m := by
  obtain ⟨x, rfl⟩ := byte_fin h
  obtain ⟨q, e, hq⟩ := kb_clip ((x.val : Nat) : Int) m
  obtain ⟨q', e', hq'⟩ := kb_clip (kb ((x.val : Nat) : Int) m) m
  have : q' = q := Fin.ext (by omega)
  rw [e', this, e]; exact kb_kb_fin x q
theorem kb_bitAt {b : Int} (h : 0 ≤ b ∧ b ≤ 255) (m : Int) (j : Nat) (hj : j < 8) : bitAt (kb b m) j = (decide ((j : Int) < m) && bitAt b j) := by
  obtain ⟨x, rfl⟩ := byte_fin h
  obtain ⟨q, e, hq⟩ := kb_clip ((x.val : Nat) : Int) m
  rw [e]
  have := kb_bit x q ⟨j, hj⟩
  simp only at this
  rw [this]
  congr 1
  rw [Bool.eq_iff_iff, decide_eq_true_iff, decide_eq_true_iff]; omega

theorem keepL_length (s : ByteArray) (n : Int) : (keepL s n).length = s.size := by simp [keepL]
theorem keepL_getD (s : ByteArray) (n : Int) (j : Nat) (h : j < s.size) : (keepL s n).getD j 0 = kb (bt s j) (n - 8 * j) := by
  simp [keepL, List.getD_eq_getElem?_getD, List.getElem?_map, List.getElem?_range h]
theorem keepL_range (s : ByteArray) (n : Int) : ∀ x ∈ keepL s n, 0 ≤ x ∧ x ≤ 255 := by
  intro x hx
  simp only [keepL, List.mem_map] at hx
  obtain ⟨j, _, rfl⟩ := hx
  exact kb_range (bt_range s j) _
theorem keep_size (s : ByteArray) (n : Int) : (keep s n).size = s.size := by rw [keep, size_nums, keepL_length]
theorem bt_keep (s : ByteArray) (n : Int) (j : Nat) (h : j < s.size) : bt (keep s n) j = kb (bt s j) (n - 8 * j) := by
  rw [keep, bt_bytes _ (keepL_range s n), keepL_getD s n j h]
theorem keep_keep (s : ByteArray) (n : Int) : keep (keep s n) n = keep s n := by
  refine ext_bt (by rw [keep_size]) fun j hj => ?_
  rw [keep_size, keep_size] at hj
  rw [bt_keep _ _ _ (by rw [keep_size]; exact hj), bt_keep _ _ _ hj, kb_kb (bt_range s j)]
theorem bit_keep (s : ByteArray) (n i : Int) : bit (keep s n) i = (decide (i < n) && bit s i) := by
  unfold bit
  rw [keep_size]
  by_cases h : 0 ≤ i ∧ i < 8 * (s.size : Int)
  · rw [decide_eq_true h, Bool.true_and, Bool.true_and]
    have e : bt (keep s n) (i / 8) = kb (bt s (i / 8)) (n - 8 * (i / 8)) := by
      have := bt_keep s n (i / 8).toNat (by omega)
      rwa [show (((i / 8).toNat : Nat) : Int) = i / 8 by omega] at this
    rw [e, kb_bitAt (bt_range s _) _ _ (by omega)]
    congr 1
    rw [Bool.eq_iff_iff, decide_eq_true_iff, decide_eq_true_iff]; omega
  · rw [decide_eq_false h]; simp

theorem and7 {n : Int} (h0 : 0 ≤ n) (h1 : n < 9223372036854775808) : Go.bits .and .i64 n 7 = n % 8 :=
  bits_mask .i64 63 (by decide) (fun m h0 h1 => by rw [IntKind.wrap_i64]; omega) 3 (by decide) n h0 (by simpa using h1)

theorem set_getD {l : List Int} {k j : Nat} (v : Int) (h : j < l.length) : (l.set k v).getD j 0 = if k = j then v else l.getD j 0 := by
  rw [List.getD_eq_getElem?_getD, List.getElem?_set]
  split
  · rename_i e; subst e; rw [if_pos h]; rfl
  · rw [List.getD_eq_getElem?_getD]
theorem rep_getD (m j : Nat) : (List.replicate m (0 : Int)).getD j 0 = 0 := by
  rw [List.getD_eq_getElem?_getD, List.getElem?_replicate]; split <;> rfl

def rightP (a : ByteArray) (n : Int) : Bool := decide ((a.size = 4 ∨ a.size = 16) ∧ 0 ≤ n ∧ n ≤ 8 * a.size ∧ keep a n = a)
def least (n : Int) : Int := if n < 0 then 0 else (n + 7) / 8
def cutP (a : ByteArray) (n : Int) : ByteArray := (keep a n).extract 0 (min (least n) a.size).toNat
def fillP (s : ByteArray) (n : Int) : ByteArray := s ++ strOfNums (List.replicate (n - s.size).toNat 0)
def LeadIs (a b : ByteArray) (r : Int) : Prop := 0 ≤ r ∧ r ≤ a.size ∧ r ≤ b.size ∧ (∀ j : Nat, (j : Int) < r → bt a j = bt b j) ∧ (r < a.size → r < b.size → bt a r ≠ bt b r)
theorem LeadIs.one {a b : ByteArray} {r q : Int} (h : LeadIs a b r) (k : LeadIs a b q) : r = q := by
  obtain ⟨h0, h1, h2, h3, h4⟩ := h
  obtain ⟨k0, k1, k2, k3, k4⟩ := k
  rcases Int.lt_trichotomy r q with c | c | c
  · have := k3 r.toNat (by omega)
    rw [show ((r.toNat : Nat) : Int) = r by omega] at this
    exact absurd this (h4 (by omega) (by omega))
  · exact c
  · have := h3 q.toNat (by omega)
    rw [show ((q.toNat : Nat) : Int) = q by omega] at this
    exact absurd this (k4 (by omega) (by omega))
theorem LeadIs.symm {a b : ByteArray} {r : Int} (h : LeadIs a b r) : LeadIs b a r := by
  obtain ⟨h0, h1, h2, h3, h4⟩ := h
  exact ⟨h0, h2, h1, fun j c => (h3 j c).symm, fun c d e => h4 d c e.symm⟩
theorem bt_fill (s : ByteArray) (n : Int) (i : Nat) : bt (fillP s n) i = if i < s.size then bt s i else 0 := by
  unfold fillP
  rw [bt_app _ _ _ (by omega)]
  by_cases c : i < s.size
  · rw [if_pos (by omega), if_pos c]
  · rw [if_neg (by omega), if_neg c, show (i : Int) - s.size = ((i - s.size : Nat) : Int) by omega, bt_bytes _ (lit_rep _), rep_getD]
theorem size_fill (s : ByteArray) (n : Int) : (fillP s n).size = s.size + (n - s.size).toNat := by
  unfold fillP; rw [size_app, size_nums, List.length_replicate]

theorem bits_Keep_f (s : ByteArray) (n : Int) (hs : s.size ≤ 1000000) (hn : -9223372036854775808 ≤ n) : bits_Keep.f s n = some (keep s n) := by
  unfold bits_Keep.f
  rw [if_pos (by omega)]
  by_cases h1 : 8 * (s.size : Int) ≤ n
  · rw [if_pos h1]
    congr 1
    refine ext_bt (by rw [keep_size]) fun j hj => ?_
    rw [bt_keep s n j hj]
    unfold kb; rw [if_neg (by omega), if_pos (by omega)]
  · rw [if_neg h1]
    by_cases h2 : n ≤ 0
    · rw [if_pos h2]
      congr 1
      refine ext_bt (by rw [keep_size, size_nums, List.length_replicate]) fun j hj => ?_
      rw [size_nums, List.length_replicate] at hj
      rw [bt_keep s n j hj, bt_bytes _ (lit_rep _)]
      unfold kb; rw [if_pos (by omega), rep_getD]
    · rw [if_neg h2]
      congr 1
      have hk0 : 0 ≤ n / 8 := by omega
      have hk1 : n / 8 < (s.size : Int) := by omega
      obtain ⟨k, hk⟩ : ∃ k : Nat, n / 8 = k := ⟨(n / 8).toNat, by omega⟩
      rw [hk, and7 (by omega) (by omega), u64_id (by omega) (by omega)]
      have hv : Go.bits .andNot .u8 (bt s k) (255 / 2 ^ min (n % 8).toNat 8) = kb (bt s k) (n - 8 * k) := by
        obtain ⟨x, hx⟩ := byte_fin (bt_range s k)
        rw [hx]
        have := kb_mid x ⟨(n % 8).toNat, by omega⟩
        simp only at this
        rw [show min (n % 8).toNat 8 = (n % 8).toNat by omega, this]
        congr 1; omega
      rw [hv, show ((k : Int)).toNat = k by omega]
      have he : (s.extract 0 k).size = k := by rw [size_ext]; omega
      rw [he]
      have hlen : (bytesOf (s.extract 0 k) ++ (List.replicate s.size (0 : Int)).drop k).length = s.size := by
        rw [List.length_append, len_bytesOf, he, List.length_drop, List.length_replicate]; omega
      have hgd : ∀ j, j < s.size → ((bytesOf (s.extract 0 k) ++ (List.replicate s.size (0 : Int)).drop k).set k (kb (bt s k) (n - 8 * k))).getD j 0 = kb (bt s j) (n - 8 * j) := by
        intro j hj
        rw [set_getD _ (by rw [hlen]; exact hj)]
        by_cases hkj : k = j
        · rw [if_pos hkj, hkj]
        · rw [if_neg hkj]
          by_cases hlt : j < k
          · rw [List.getD_eq_getElem?_getD, List.getElem?_append_left (by rw [len_bytesOf, he]; exact hlt), ← List.getD_eq_getElem?_getD, bytesOf_getD, bt_ext _ _ _ _ (by omega), if_pos (by omega)]
            unfold kb; rw [if_neg (by omega), if_pos (by omega)]; congr 1; omega
          · rw [List.getD_eq_getElem?_getD, List.getElem?_append_right (by rw [len_bytesOf, he]; omega), List.drop_replicate, ← List.getD_eq_getElem?_getD, rep_getD]
            unfold kb; rw [if_pos (by omega)]
      have hrange : ∀ x ∈ (bytesOf (s.extract 0 k) ++ (List.replicate s.size (0 : Int)).drop k).set k (kb (bt s k) (n - 8 * k)), 0 ≤ x ∧ x ≤ 255 := by
        intro x hx
        obtain ⟨j, hj, rfl⟩ := List.getElem_of_mem hx
        have := hgd j (by rw [List.length_set, hlen] at hj; exact hj)
        rw [List.getD_eq_getElem?_getD, List.getElem?_eq_getElem hj] at this
        simp only [Option.getD_some] at this
        rw [this]; exact kb_range (bt_range s j) _
      refine ext_bt (by rw [keep_size, size_nums, List.length_set, hlen]) fun j hj => ?_
      rw [size_nums, List.length_set, hlen] at hj
      rw [bt_keep s n j hj, bt_bytes _ hrange, hgd j hj]

theorem bits_Clean_f (s : ByteArray) (n : Int) (hs : s.size ≤ 1000000) (hn : -9223372036854775808 ≤ n) : bits_Clean.f s n = some (decide (keep s n = s)) := by
  unfold bits_Clean.f
  rw [bits_Keep_f s n hs hn, Option.bind_some]
  congr 1
  rw [Bool.eq_iff_iff, beq_iff_eq, decide_eq_true_iff, toList_inj]

theorem prefix_Right_f (a : ByteArray) (n : Int) : prefix_Right.f a n = some (rightP a n) := by
  unfold prefix_Right.f rightP
  have main : ∀ (hs : a.size = 4 ∨ a.size = 16), (if n ≥ 0 then (if n ≤ (wrap64 (8 * (a.size : Int))) then ((bits_Clean.f a n).bind fun t => (some t)) else (some false)) else (some false)) = some (decide ((a.size = 4 ∨ a.size = 16) ∧ 0 ≤ n ∧ n ≤ 8 * a.size ∧ keep a n = a)) := by
    intro hs
    rw [wrap64_id (by omega) (by omega)]
    by_cases h0 : n ≥ 0
    · rw [if_pos h0]
      by_cases h1 : n ≤ 8 * (a.size : Int)
      · rw [if_pos h1, bits_Clean_f a n (by omega) (by omega), Option.bind_some]
        congr 1
        rw [Bool.eq_iff_iff, decide_eq_true_iff, decide_eq_true_iff]
        exact ⟨fun h => ⟨hs, h0, h1, h⟩, fun h => h.2.2.2⟩
      · rw [if_neg h1, decide_eq_false (fun h => h1 h.2.2.1)]
    · rw [if_neg h0, decide_eq_false (fun h => h0 h.2.1)]
  by_cases h4 : (a.size : Int) = 4
  · rw [if_pos h4]; exact main (by omega)
  · rw [if_neg h4]
    by_cases h16 : (a.size : Int) = 16
    · rw [if_pos h16]; exact main (by omega)
    · rw [if_neg h16, decide_eq_false (fun h => by omega)]
theorem prefix_Least_f (n : Int) (hn : n ≤ 1099511627776) : prefix_Least.f n = some (least n) := by
  unfold prefix_Least.f least mx
  congr 1
  by_cases h : n < 0
  · rw [if_pos h, if_pos h, wrap64_id (by decide) (by decide)]; rfl
  · rw [if_neg h, if_neg h, wrap64_id (by omega) (by omega)]
theorem prefix_Cut_f (a : ByteArray) (n : Int) (hn : n ≤ 1099511627776) (hn' : -9223372036854775808 ≤ n) (hs : a.size ≤ 1000000) : prefix_Cut.f a n = some (cutP a n) := by
  unfold prefix_Cut.f cutP
  rw [prefix_Least_f n hn, Option.bind_some]
  have e : mn (least n) (a.size : Int) = min (least n) a.size := by unfold mn; split <;> omega
  have hl : 0 ≤ least n := by unfold least; split <;> omega
  rw [e, if_pos (by omega), if_pos (by omega), bits_Keep_f _ n (by rw [size_ext]; omega) hn', Option.bind_some]
  congr 1
  refine ext_bt (by rw [keep_size, size_ext, size_ext, keep_size]) fun j hj => ?_
  rw [keep_size, size_ext] at hj
  rw [bt_keep _ _ _ (by rw [size_ext]; omega), bt_ext _ _ _ _ (by omega), bt_ext _ _ _ _ (by omega), if_pos (by omega), if_pos (by rw [keep_size]; omega)]
  have := bt_keep a n j (by omega)
  rw [show ((0 : Nat) : Int) + (j : Int) = j by omega, this]
theorem prefix_Fill_f (s : ByteArray) (n : Int) (hn : n ≤ 281474976710656) (hs : s.size ≤ 1000000) : prefix_Fill.f s n = some (fillP s n) := by
  unfold prefix_Fill.f
  rw [if_pos (by omega)]
  by_cases h : n ≤ (s.size : Int)
  · rw [if_pos h]
    congr 1
    refine ext_bt (by rw [size_fill]; omega) fun j hj => ?_
    rw [bt_fill, if_pos hj]
  · rw [if_neg h, if_pos hn]
    congr 1
    have hr : ∀ x ∈ bytesOf s ++ (List.replicate n.toNat (0 : Int)).drop s.size, 0 ≤ x ∧ x ≤ 255 := by
      intro x hx
      rcases List.mem_append.mp hx with hx | hx
      · exact bytesOf_range s x hx
      · exact lit_rep _ x (List.mem_of_mem_drop hx)
    have hl : (bytesOf s ++ (List.replicate n.toNat (0 : Int)).drop s.size).length = s.size + (n - s.size).toNat := by
      rw [List.length_append, len_bytesOf, List.length_drop, List.length_replicate]; omega
    refine ext_bt (by rw [size_fill, size_nums, hl]) fun j hj => ?_
    rw [bt_bytes _ hr, bt_fill]
    by_cases c : j < s.size
    · rw [if_pos c, List.getD_eq_getElem?_getD, List.getElem?_append_left (by rw [len_bytesOf]; exact c), ← List.getD_eq_getElem?_getD, bytesOf_getD]
    · rw [if_neg c, List.getD_eq_getElem?_getD, List.getElem?_append_right (by rw [len_bytesOf]; omega), List.drop_replicate, ← List.getD_eq_getElem?_getD, rep_getD]

theorem getD_ext {a b : List Int} (hl : a.length = b.length) (h : ∀ j, j < a.length → a.getD j 0 = b.getD j 0) : a = b := by
  apply List.ext_getElem hl
  intro i h1 h2
  have := h i h1
  rw [List.getD_eq_getElem?_getD, List.getElem?_eq_getElem h1, List.getD_eq_getElem?_getD, List.getElem?_eq_getElem h2] at this
  exact this
theorem keepL_eq (s : ByteArray) {a b : Int} (h : ∀ j : Nat, j < s.size → kb (bt s j) (a - 8 * j) = kb (bt s j) (b - 8 * j)) : keepL s a = keepL s b := by
  refine getD_ext (by rw [keepL_length, keepL_length]) fun j hj => ?_
  rw [keepL_length] at hj
  rw [keepL_getD _ _ _ hj, keepL_getD _ _ _ hj, h j hj]
theorem kb_low (b : Int) {m : Int} (h : m ≤ 0) : kb b m = 0 := by unfold kb; rw [if_pos h]
theorem kb_high (b : Int) {m : Int} (h : 8 ≤ m) : kb b m = b := by unfold kb; rw [if_neg (by omega), if_pos h]
theorem keepL_step (s : ByteArray) (i : Int) (h0 : 0 ≤ i) (h1 : i < 8 * s.size) :
    keepL s (i + 1) = if bit s i = true then (keepL s i).set (i / 8).toNat (kb (bt s (i / 8)) (i - 8 * (i / 8)) + 2 ^ (7 - (i % 8).toNat)) else keepL s i := by
  obtain ⟨q, hq⟩ : ∃ q : Nat, i / 8 = q := ⟨(i / 8).toNat, by omega⟩
  have hb : bit s i = bitAt (bt s (i / 8)) (i % 8).toNat := by unfold bit; rw [decide_eq_true ⟨h0, h1⟩, Bool.true_and]
  have hstep : kb (bt s q) (i + 1 - 8 * q) = kb (bt s q) (i - 8 * q) + if bitAt (bt s q) (i % 8).toNat = true then 2 ^ (7 - (i % 8).toNat) else 0 := by
    obtain ⟨x, hx⟩ := byte_fin (bt_range s q)
    rw [hx]
    have := kb_step_fin x ⟨(i % 8).toNat, by omega⟩
    simp only at this
    rw [show i + 1 - 8 * (q : Int) = (((i % 8).toNat + 1 : Nat) : Int) by omega, this, show i - 8 * (q : Int) = (((i % 8).toNat : Nat) : Int) by omega]
  have other : ∀ j : Nat, j ≠ q → kb (bt s j) (i + 1 - 8 * j) = kb (bt s j) (i - 8 * j) := by
    intro j hj
    by_cases c : j < q
    · rw [kb_high _ (by omega), kb_high _ (by omega)]
    · rw [kb_low _ (by omega), kb_low _ (by omega)]
  rw [hb, hq]
  rw [show ((q : Int)).toNat = q by omega]
  by_cases c : bitAt (bt s q) (i % 8).toNat = true
  · rw [if_pos c] at hstep ⊢
    refine getD_ext (by rw [keepL_length, List.length_set, keepL_length]) fun j hj => ?_
    rw [keepL_length] at hj
    rw [keepL_getD _ _ _ hj, set_getD _ (by rw [keepL_length]; exact hj)]
    by_cases e : q = j
    · rw [if_pos e, ← e, hstep]
    · rw [if_neg e, keepL_getD _ _ _ hj, other j (fun c => e c.symm)]
  · rw [if_neg c] at hstep ⊢
    refine keepL_eq s fun j hj => ?_
    by_cases e : j = q
    · rw [e, hstep, Int.add_zero]
    · exact other j e

theorem refBit_f (s : ByteArray) (i : Int) (hs : s.size ≤ 1000000) : roadbookref03_Bit.f s i = some (bit s i) := by
  unfold roadbookref03_Bit.f bit
  by_cases h0 : 0 ≤ i
  · rw [if_pos h0, wrap64_id (x := 8 * _) (by omega) (by omega)]
    by_cases h1 : i < 8 * (s.size : Int)
    · have e1 : wrap64 (Int.tdiv i 8) = i / 8 := by rw [Int.tdiv_eq_ediv_of_nonneg h0, wrap64_id (by omega) (by omega)]
      have e2 : IntKind.u64.wrap (wrap64 (7 - Int.tmod i 8)) = 7 - i % 8 := by rw [Int.tmod_eq_emod_of_nonneg h0, wrap64_id (by omega) (by omega), u64_id (by omega) (by omega)]
      have hr := bt_range s (i / 8)
      rw [if_pos h1, e1, e2, if_pos (by omega), if_pos (by omega), if_pos (by omega), decide_eq_true ⟨h0, h1⟩, Bool.true_and, wrap64_id (by omega) (by omega)]
      congr 1
      obtain ⟨x, hx⟩ := byte_fin hr
      rw [hx]
      have := bit_div_fin x ⟨(i % 8).toNat, by omega⟩
      simp only at this
      unfold shr
      rw [show min (7 - i % 8).toNat IntKind.i64.bits = 7 - (i % 8).toNat by simp [IntKind.bits]; omega]
      exact this
    · rw [if_neg h1, decide_eq_false (fun h => h1 h.2)]; rfl
  · rw [if_neg h0, decide_eq_false (fun h => h0 h.1)]; rfl

theorem kb_add_range {b : Int} (h : 0 ≤ b ∧ b ≤ 255) (m : Nat) (hm : m < 8) (hb : bitAt b m = true) : 0 ≤ kb b m + 2 ^ (7 - m) ∧ kb b m + 2 ^ (7 - m) ≤ 255 := by
  obtain ⟨x, rfl⟩ := byte_fin h
  have := kb_step_fin x ⟨m, hm⟩
  simp only at this
  rw [if_pos hb] at this
  rw [← this]; exact kb_range h _

theorem refKeep_l (s : ByteArray) (hs : s.size ≤ 1000000) (n : Int) (m : Nat) :
    ∀ (k : Nat) (i : Int), 2 * m + 2 < k → 0 ≤ i → 8 * (s.size : Int) - i = m → (i ≤ n ∨ i = 0) → roadbookref03_Keep.l0 k s n (keepL s i) i = some (keep s n) := by
  induction m with
  | zero =>
    intro k i hk h0 hm hi
    obtain ⟨k, rfl⟩ : ∃ j, k = j + 2 := ⟨k - 2, by omega⟩
    simp only [roadbookref03_Keep.l0]
    rw [wrap64_id (by omega) (by omega), if_neg (by omega)]
    simp only [roadbookref03_Keep.j1, Bool.false_eq_true, if_false]
    rw [keep, keepL_eq s (a := i) (b := n) (fun j hj => by rw [kb_high _ (by omega), kb_high _ (by omega)])]
  | succ m ih =>
    intro k i hk h0 hm hi
    obtain ⟨k, rfl⟩ : ∃ j, k = j + 2 := ⟨k - 2, by omega⟩
    simp only [roadbookref03_Keep.l0]
    rw [wrap64_id (by omega) (by omega), if_pos (by omega)]
    simp only [roadbookref03_Keep.j1, decide_eq_true_eq]
    by_cases c : i < n
    · rw [if_pos c, refBit_f s i hs, Option.bind_some]
      have hstep := keepL_step s i h0 (by omega)
      have hnext := ih k (i + 1) (by omega) (by omega) (by omega) (by omega)
      rw [wrap64_id (x := i + 1) (by omega) (by omega)]
      by_cases hb : bit s i = true
      · rw [if_pos hb] at hstep ⊢
        have e1 : wrap64 (Int.tdiv i 8) = i / 8 := by rw [Int.tdiv_eq_ediv_of_nonneg h0, wrap64_id (by omega) (by omega)]
        have e2 : IntKind.u64.wrap (wrap64 (7 - Int.tmod i 8)) = 7 - i % 8 := by rw [Int.tmod_eq_emod_of_nonneg h0, wrap64_id (by omega) (by omega), u64_id (by omega) (by omega)]
        rw [e1, e2, if_pos (by omega), if_pos (by rw [keepL_length]; omega), if_pos (by omega)]
        have e3 : rd (keepL s i) (i / 8) = kb (bt s (i / 8)) (i - 8 * (i / 8)) := by
          have := keepL_getD s i (i / 8).toNat (by omega)
          unfold rd
          rw [this, show (((i / 8).toNat : Nat) : Int) = i / 8 by omega]
        have e4 : shl .u8 1 (7 - i % 8) = 2 ^ (7 - (i % 8).toNat) := by
          unfold shl
          rw [show min (7 - i % 8).toNat IntKind.u8.bits = 7 - (i % 8).toNat by simp [IntKind.bits]; omega, Int.one_mul, IntKind.wrap_u8]
          have : (i % 8).toNat < 8 := by omega
          have : ∀ q : Fin 8, (2 : Int) ^ (7 - q.val) % 256 = 2 ^ (7 - q.val) := by decide
          exact this ⟨(i % 8).toNat, by omega⟩
        have hbA : bitAt (bt s (i / 8)) (i % 8).toNat = true := by
          unfold bit at hb
          rwa [decide_eq_true (by omega), Bool.true_and] at hb
        have hr := kb_add_range (bt_range s (i / 8)) (i % 8).toNat (by omega) hbA
        rw [show (((i % 8).toNat : Nat) : Int) = i - 8 * (i / 8) by omega] at hr
        rw [e3, e4, Int.emod_eq_of_lt hr.1 (by omega), ← hstep]
        exact hnext
      · rw [if_neg hb] at hstep ⊢
        rw [← hstep]; exact hnext
    · rw [if_neg c]
      rw [keep, keepL_eq s (a := i) (b := n)]
      intro j hj
      rcases hi with hi | hi
      · rw [show i = n by omega]
      · subst hi; rw [kb_low _ (by omega), kb_low _ (by omega)]

theorem refKeep_f (s : ByteArray) (n : Int) (hs : s.size ≤ 1000000) (k : Nat) (hk : 16 * s.size + 2 < k) : roadbookref03_Keep.f k s n = some (keep s n) := by
  unfold roadbookref03_Keep.f
  rw [if_pos (by omega), if_pos (by omega)]
  have e : List.replicate ((s.size : Int)).toNat (0 : Int) = keepL s 0 := by
    refine getD_ext (by rw [keepL_length, List.length_replicate]; omega) fun j hj => ?_
    rw [List.length_replicate] at hj
    rw [rep_getD, keepL_getD _ _ _ (by omega), kb_low _ (by omega)]
  rw [e]
  exact refKeep_l s hs n (8 * s.size) k 0 (by omega) (by omega) (by omega) (.inr rfl)

theorem awake_f : ∃ K, ∀ k, K ≤ k → roadbooklaw04_awake.f k = some true := Ev.of (roadbooklaw04_awake.mono) (k := 12) (by decide +kernel)

theorem back_j (K : Nat) (hK : ∀ k, K ≤ k → roadbooklaw04_awake.f k = some true) (a : ByteArray) (hs : a.size = 4 ∨ a.size = 16) (n : Int) (hn : 0 ≤ n ∧ n ≤ 255) (k : Nat) (hk : K + 1000 < k) : roadbooklaw04_PrefixBack.j0 k a n false = some true := by
  obtain ⟨k, rfl⟩ : ∃ j, k = j + 1 := ⟨k - 1, by omega⟩
  simp only [roadbooklaw04_PrefixBack.j0, Bool.false_eq_true, if_false]
  rw [wrap64_id (x := n) (by omega) (by omega), wrap64_id (x := 8 * (a.size : Int)) (by omega) (by omega), wrap64_id (x := 8 * (a.size : Int) + 1) (by omega) (by omega), if_neg (by omega), Int.tmod_eq_emod_of_nonneg hn.1]
  obtain ⟨m, hm⟩ : ∃ m, m = n % (8 * (a.size : Int) + 1) := ⟨_, rfl⟩
  have hm0 : 0 ≤ m := by rw [hm]; exact Int.emod_nonneg _ (by omega)
  have hm1 : m < 8 * (a.size : Int) + 1 := by rw [hm]; exact Int.emod_lt_of_pos _ (by omega)
  rw [← hm]
  have hl : least m = (m + 7) / 8 := by unfold least; rw [if_neg (by omega)]
  have hcz : (cutP a m).size = (least m).toNat := by unfold cutP; rw [size_ext, keep_size]; omega
  have hr : rightP (keep a m) m = true := by
    unfold rightP
    rw [decide_eq_true_iff, keep_size]
    exact ⟨hs, hm0, by omega, keep_keep a m⟩
  have hc : cutP (keep a m) m = cutP a m := by unfold cutP; rw [keep_keep, keep_size]
  have hf : fillP (cutP a m) a.size = keep a m := by
    refine ext_bt (by rw [size_fill, hcz, keep_size]; omega) fun j hj => ?_
    rw [size_fill, hcz] at hj
    rw [bt_fill, hcz, bt_keep a m j (by omega)]
    by_cases c : j < (least m).toNat
    · rw [if_pos c]
      unfold cutP
      rw [bt_ext _ _ _ _ (by omega), if_pos (by rw [keep_size]; omega), show ((0 : Nat) : Int) + (j : Int) = j by omega, bt_keep a m j (by omega)]
    · rw [if_neg c]
      unfold kb; rw [if_pos (by omega)]
  rw [refKeep_f a m (by omega) k (by omega), Option.bind_some, prefix_Cut_f a m (by omega) (by omega) (by omega), Option.bind_some, hK _ (by omega), Option.bind_some, if_pos rfl, prefix_Right_f, Option.bind_some, if_pos hr]
  rw [prefix_Cut_f (keep a m) m (by omega) (by omega) (by rw [keep_size]; omega), Option.bind_some, hc, if_pos rfl, prefix_Fill_f _ _ (by omega) (by rw [hcz]; omega), Option.bind_some, hf, if_pos rfl, prefix_Least_f m (by omega), Option.bind_some, hcz]
  congr 1
  rw [beq_iff_eq]; omega

theorem PrefixBack : roadbooklaw04_PrefixBack.Pure := by
  intro a n _ hn
  have hn := wf_u8 hn
  obtain ⟨K, hK⟩ := awake_f
  refine ⟨K + 2000, ?_⟩
  unfold roadbooklaw04_PrefixBack.f
  by_cases h4 : (a.size : Int) = 4
  · rw [if_pos h4]; exact back_j K hK a (by omega) n hn _ (by omega)
  · rw [if_neg h4]
    by_cases h16 : (a.size : Int) = 16
    · rw [h16]; exact back_j K hK a (by omega) n hn _ (by omega)
    · have e : ((a.size : Int) != 16) = true := by rw [bne_iff_ne]; exact h16
      rw [e]
      simp only [roadbooklaw04_PrefixBack.j0, if_true]
      have hr : rightP a (wrap64 n) = false := by unfold rightP; exact decide_eq_false (fun h => by omega)
      rw [hK _ (by omega), Option.bind_some, if_pos rfl, prefix_Right_f, Option.bind_some, hr]
      rfl

end Go.Proofs.Ytelcciekdoccfaa.Pure
