/-
What is kept of at most 100 bytes has the first bits and no others, and kept again it is the same.
-/
import Derived.Test.YtbpclinffgedjaaPBitsKeepsx
import Derived.Test.YtbpclinffgedjaaBase
namespace Go.Proofs.Ytbpclinffgedjaa.Pure
open Go.RowKit Go.Proofs.Ytbpclinffgedjaa.PBitsKeeps Go.Proofs.YtbpclinffgedjaaW.PrintWords Go.Proofs.YtbpclinffgedjaaW.PrintLast Go.Proofs.YtbpclinffgedjaaW.PrintMore Go.Proofs.Ytbpclinffgedjaa.Base
set_option linter.unusedVariables false
set_option linter.unusedSimpArgs false

/-- Bit m (the highest is 0) of a byte. -/
def bitAt (b : Int) (m : Nat) : Bool := b.toNat.testBit (7 - m)
/-- Bit i of a text. -/
def bit (s : ByteArray) (i : Int) : Bool := decide (0 ≤ i ∧ i < 8 * s.size) && bitAt (bt s (i / 8)) (i % 8).toNat
/-- The first m bits of a byte alone. -/
def kb (b : Int) (m : Int) : Int := if m ≤ 0 then 0 else if 8 ≤ m then b else b / 2 ^ (8 - m).toNat * 2 ^ (8 - m).toNat
/-- The first n bits of a text alone. -/
def keepL (s : ByteArray) (n : Int) : List Int := (List.range s.size).map fun (j : Nat) => kb (bt s j) (n - 8 * j)
def keep (s : ByteArray) (n : Int) : ByteArray := strOfNums (keepL s n)

theorem kb_mid : ∀ b : Fin 256, ∀ m : Fin 8, Go.bits .andNot .u8 ((b.val : Nat) : Int) (255 / 2 ^ m.val) = kb ((b.val : Nat) : Int) (m.val : Nat) := by decide +kernel
theorem kb_bit : ∀ b : Fin 256, ∀ m : Fin 9, ∀ j : Fin 8, bitAt (kb ((b.val : Nat) : Int) (m.val : Nat)) j.val = (decide (j.val < m.val) && bitAt ((b.val : Nat) : Int) j.val) := by decide +kernel
theorem kb_kb_fin : ∀ b : Fin 256, ∀ m : Fin 9, kb (kb ((b.val : Nat) : Int) (m.val : Nat)) (m.val : Nat) = kb ((b.val : Nat) : Int) (m.val : Nat) := by decide +kernel
theorem kb_range_fin : ∀ b : Fin 256, ∀ m : Fin 9, 0 ≤ kb ((b.val : Nat) : Int) (m.val : Nat) ∧ kb ((b.val : Nat) : Int) (m.val : Nat) ≤ 255 := by decide +kernel
theorem kb_step_fin : ∀ b : Fin 256, ∀ m : Fin 8, kb ((b.val : Nat) : Int) ((m.val + 1 : Nat) : Int) = (kb ((b.val : Nat) : Int) (m.val : Nat) + if bitAt ((b.val : Nat) : Int) m.val = true then 2 ^ (7 - m.val) else 0) := by decide +kernel
theorem bit_and_fin : ∀ b : Fin 256, ∀ m : Fin 8, (Go.bits .and .u8 ((b.val : Nat) : Int) (128 / 2 ^ m.val) != 0) = bitAt ((b.val : Nat) : Int) m.val := by decide +kernel
theorem bit_div_fin : ∀ b : Fin 256, ∀ m : Fin 8, (Int.tmod (((b.val : Nat) : Int) / 2 ^ (7 - m.val)) 2 == 1) = bitAt ((b.val : Nat) : Int) m.val := by decide +kernel

/-- A byte, as one of 256. -/
theorem byte_fin {b : Int} (h : 0 ≤ b ∧ b ≤ 255) : ∃ x : Fin 256, b = ((x.val : Nat) : Int) := ⟨⟨b.toNat, by omega⟩, by simp; omega⟩
/-- How many of a byte's bits are kept, as one of 0 to 8. -/
theorem kb_clip (b m : Int) : ∃ q : Fin 9, kb b m = kb b (q.val : Nat) ∧ (q.val : Int) = max 0 (min 8 m) := by
  by_cases h0 : m ≤ 0
  · exact ⟨⟨0, by omega⟩, by unfold kb; rw [if_pos h0, if_pos (by simp)], by simp; omega⟩
  · by_cases h8 : 8 ≤ m
    · exact ⟨⟨8, by omega⟩, by unfold kb; rw [if_neg h0, if_pos h8, if_neg (by simp), if_pos (by simp)], by simp; omega⟩
    · exact ⟨⟨m.toNat, by omega⟩, by simp only [show ((m.toNat : Nat) : Int) = m by omega], by simp; omega⟩
theorem kb_range {b : Int} (h : 0 ≤ b ∧ b ≤ 255) (m : Int) : 0 ≤ kb b m ∧ kb b m ≤ 255 := by
  obtain ⟨x, rfl⟩ := byte_fin h
  obtain ⟨q, e, _⟩ := kb_clip ((x.val : Nat) : Int) m
  rw [e]; exact kb_range_fin x q
theorem kb_kb {b : Int} (h : 0 ≤ b ∧ b ≤ 255) (m : Int) : kb (kb b m) m = kb b m := by
  obtain ⟨x, rfl⟩ := byte_fin h
  obtain ⟨q, e, hq⟩ := kb_clip ((x.val : Nat) : Int) m
  obtain ⟨q', e', hq'⟩ := kb_clip (kb ((x.val : Nat) : Int) m) m
  have : q' = q := Fin.ext (by omega)
  rw [e', this, e]; exact kb_kb_fin x q
theorem kb_bitAt {b : Int} (h : 0 ≤ b ∧ b ≤ 255) (m : Int) (j : Nat) (hj : j < 8) : bitAt (kb b m) j = (decide ((j : Int) < m) && bitAt b j) := by
  obtain ⟨x, rfl⟩ := byte_fin h
  obtain ⟨q, e, hq⟩ := kb_clip ((x.val : Nat) : Int) m
  rw [e]
  have := kb_bit x q ⟨j, hj⟩
  simp only at this
  rw [this]
  congr 1
  rw [Bool.eq_iff_iff, decide_eq_true_iff, decide_eq_true_iff]; omega

theorem keepL_length (s : ByteArray) (n : Int) : (keepL s n).length = s.size := by simp [keepL]
theorem keepL_getD (s : ByteArray) (n : Int) (j : Nat) (h : j < s.size) : (keepL s n).getD j 0 = kb (bt s j) (n - 8 * j) := by
  simp [keepL, List.getD_eq_getElem?_getD, List.getElem?_map, List.getElem?_range h]
theorem keepL_range (s : ByteArray) (n : Int) : ∀ x ∈ keepL s n, 0 ≤ x ∧ x ≤ 255 := by
  intro x hx
  simp only [keepL, List.mem_map] at hx
  obtain ⟨j, _, rfl⟩ := hx
  exact kb_range (bt_range s j) _
theorem keep_size (s : ByteArray) (n : Int) : (keep s n).size = s.size := by rw [keep, size_nums, keepL_length]
theorem bt_keep (s : ByteArray) (n : Int) (j : Nat) (h : j < s.size) : bt (keep s n) j = kb (bt s j) (n - 8 * j) := by
  rw [keep, bt_bytes _ (keepL_range s n), keepL_getD s n j h]
theorem keep_keep (s : ByteArray) (n : Int) : keep (keep s n) n = keep s n := by
  refine ext_bt (by rw [keep_size]) fun j hj => ?_
  rw [keep_size, keep_size] at hj
  rw [bt_keep _ _ _ (by rw [keep_size]; exact hj), bt_keep _ _ _ hj, kb_kb (bt_range s j)]
theorem bit_keep (s : ByteArray) (n i : Int) : bit (keep s n) i = (decide (i < n) && bit s i) := by
  unfold bit
  rw [keep_size]
  by_cases h : 0 ≤ i ∧ i < 8 * (s.size : Int)
  · rw [decide_eq_true h, Bool.true_and, Bool.true_and]
    have e : bt (keep s n) (i / 8) = kb (bt s (i / 8)) (n - 8 * (i / 8)) := by
      have := bt_keep s n (i / 8).toNat (by omega)
      rwa [show (((i / 8).toNat : Nat) : Int) = i / 8 by omega] at this
    rw [e, kb_bitAt (bt_range s _) _ _ (by omega)]
    congr 1
    rw [Bool.eq_iff_iff, decide_eq_true_iff, decide_eq_true_iff]; omega
  · rw [decide_eq_false h]; simp

theorem and7 {n : Int} (h0 : 0 ≤ n) (h1 : n < 9223372036854775808) : Go.bits .and .i64 n 7 = n % 8 :=
  bits_mask .i64 63 (by decide) (fun m h0 h1 => by rw [IntKind.wrap_i64]; omega) 3 (by decide) n h0 (by simpa using h1)

theorem bits_Bit_f (s : ByteArray) (i : Int) (hs : s.size ≤ 1000000) : bits_Bit.f s i = some (bit s i) := by
  unfold bits_Bit.f bit
  by_cases h0 : 0 ≤ i
  · rw [if_pos h0, wrap64_id (by omega) (by omega)]
    by_cases h1 : i < 8 * (s.size : Int)
    · rw [if_pos h1, if_pos (by omega), if_pos (by omega), and7 h0 (by omega), u64_id (by omega) (by omega), if_pos (by omega), decide_eq_true ⟨h0, h1⟩, Bool.true_and]
      congr 1
      obtain ⟨x, hx⟩ := byte_fin (bt_range s (i / 8))
      rw [hx]
      have := bit_and_fin x ⟨(i % 8).toNat, by omega⟩
      simp only at this
      unfold shr
      rw [show min (i % 8).toNat IntKind.u8.bits = (i % 8).toNat by simp [IntKind.bits]; omega]
      exact this
    · rw [if_neg h1, decide_eq_false (fun h => h1 h.2)]; rfl
  · rw [if_neg h0, decide_eq_false (fun h => h0 h.1)]; rfl

theorem set_getD {l : List Int} {k j : Nat} (v : Int) (h : j < l.length) : (l.set k v).getD j 0 = if k = j then v else l.getD j 0 := by
  rw [List.getD_eq_getElem?_getD, List.getElem?_set]
  split
  · rename_i e; subst e; rw [if_pos h]; rfl
  · rw [List.getD_eq_getElem?_getD]
theorem rep_getD (m j : Nat) : (List.replicate m (0 : Int)).getD j 0 = 0 := by
  rw [List.getD_eq_getElem?_getD, List.getElem?_replicate]; split <;> rfl

theorem bits_Keep_f (s : ByteArray) (n : Int) (hs : s.size ≤ 1000000) (hn : -9223372036854775808 ≤ n) : bits_Keep.f s n = some (keep s n) := by
  unfold bits_Keep.f
  rw [if_pos (by omega)]
  by_cases h1 : 8 * (s.size : Int) ≤ n
  · rw [if_pos h1]
    congr 1
    refine ext_bt (by rw [keep_size]) fun j hj => ?_
    rw [bt_keep s n j hj]
    unfold kb; rw [if_neg (by omega), if_pos (by omega)]
  · rw [if_neg h1]
    by_cases h2 : n ≤ 0
    · rw [if_pos h2]
      congr 1
      refine ext_bt (by rw [keep_size, size_nums, List.length_replicate]) fun j hj => ?_
      rw [size_nums, List.length_replicate] at hj
      rw [bt_keep s n j hj, bt_bytes _ (lit_rep _)]
      unfold kb; rw [if_pos (by omega), rep_getD]
    · rw [if_neg h2]
      congr 1
      have hk0 : 0 ≤ n / 8 := by omega
      have hk1 : n / 8 < (s.size : Int) := by omega
      obtain ⟨k, hk⟩ : ∃ k : Nat, n / 8 = k := ⟨(n / 8).toNat, by omega⟩
      rw [hk, and7 (by omega) (by omega), u64_id (by omega) (by omega)]
      have hv : Go.bits .andNot .u8 (bt s k) (255 / 2 ^ min (n % 8).toNat 8) = kb (bt s k) (n - 8 * k) := by
        obtain ⟨x, hx⟩ := byte_fin (bt_range s k)
        rw [hx]
        have := kb_mid x ⟨(n % 8).toNat, by omega⟩
        simp only at this
        rw [show min (n % 8).toNat 8 = (n % 8).toNat by omega, this]
        congr 1; omega
      rw [hv, show ((k : Int)).toNat = k by omega]
      have he : (s.extract 0 k).size = k := by rw [size_ext]; omega
      rw [he]
      have hlen : (bytesOf (s.extract 0 k) ++ (List.replicate s.size (0 : Int)).drop k).length = s.size := by
        rw [List.length_append, len_bytesOf, he, List.length_drop, List.length_replicate]; omega
      have hgd : ∀ j, j < s.size → ((bytesOf (s.extract 0 k) ++ (List.replicate s.size (0 : Int)).drop k).set k (kb (bt s k) (n - 8 * k))).getD j 0 = kb (bt s j) (n - 8 * j) := by
        intro j hj
        rw [set_getD _ (by rw [hlen]; exact hj)]
        by_cases hkj : k = j
        · rw [if_pos hkj, hkj]
        · rw [if_neg hkj]
          by_cases hlt : j < k
          · rw [List.getD_eq_getElem?_getD, List.getElem?_append_left (by rw [len_bytesOf, he]; exact hlt), ← List.getD_eq_getElem?_getD, bytesOf_getD, bt_ext _ _ _ _ (by omega), if_pos (by omega)]
            unfold kb; rw [if_neg (by omega), if_pos (by omega)]; congr 1; omega
          · rw [List.getD_eq_getElem?_getD, List.getElem?_append_right (by rw [len_bytesOf, he]; omega), List.drop_replicate, ← List.getD_eq_getElem?_getD, rep_getD]
            unfold kb; rw [if_pos (by omega)]
      have hrange : ∀ x ∈ (bytesOf (s.extract 0 k) ++ (List.replicate s.size (0 : Int)).drop k).set k (kb (bt s k) (n - 8 * k)), 0 ≤ x ∧ x ≤ 255 := by
        intro x hx
        obtain ⟨j, hj, rfl⟩ := List.getElem_of_mem hx
        have := hgd j (by rw [List.length_set, hlen] at hj; exact hj)
        rw [List.getD_eq_getElem?_getD, List.getElem?_eq_getElem hj] at this
        simp only [Option.getD_some] at this
        rw [this]; exact kb_range (bt_range s j) _
      refine ext_bt (by rw [keep_size, size_nums, List.length_set, hlen]) fun j hj => ?_
      rw [size_nums, List.length_set, hlen] at hj
      rw [bt_keep s n j hj, bt_bytes _ hrange, hgd j hj]

theorem bits_Clean_f (s : ByteArray) (n : Int) (hs : s.size ≤ 1000000) (hn : -9223372036854775808 ≤ n) : bits_Clean.f s n = some (decide (keep s n = s)) := by
  unfold bits_Clean.f
  rw [bits_Keep_f s n hs hn, Option.bind_some]
  congr 1
  rw [Bool.eq_iff_iff, beq_iff_eq, decide_eq_true_iff, toList_inj]

theorem awake_f : ∃ K, ∀ k, K ≤ k → roadbooklaw03_awake.f k = some true := Ev.of (roadbooklaw03_awake.mono) (k := 12) (by decide +kernel)

theorem keeps_l (K : Nat) (hK : ∀ k, K ≤ k → roadbooklaw03_awake.f k = some true) (s : ByteArray) (hs : s.size ≤ 100) (n : Int) (hn : 0 ≤ n ∧ n ≤ 255) (m : Nat) :
    ∀ (k : Nat) (i : Int), m + K < k → 0 ≤ i → 8 * (s.size : Int) - i = m → roadbooklaw03_BitsKeeps.l0 k s n (keep s n) i = some true := by
  induction m with
  | zero =>
    intro k i hk h0 hm
    obtain ⟨k, rfl⟩ : ∃ j, k = j + 1 := ⟨k - 1, by omega⟩
    simp only [roadbooklaw03_BitsKeeps.l0]
    rw [wrap64_id (by omega) (by omega), if_neg (by omega), hK k (by omega)]; rfl
  | succ m ih =>
    intro k i hk h0 hm
    obtain ⟨k, rfl⟩ : ∃ j, k = j + 1 := ⟨k - 1, by omega⟩
    simp only [roadbooklaw03_BitsKeeps.l0]
    have hi := ih k (i + 1) (by omega) (by omega) (by omega)
    rw [wrap64_id (x := 8 * _) (by omega) (by omega), if_pos (by omega), bits_Bit_f _ i (by rw [keep_size]; omega), Option.bind_some, bit_keep, wrap64_id (x := n) (by omega) (by omega), wrap64_id (by omega) (by omega)]
    by_cases c : i < n
    · rw [if_pos c, bits_Bit_f s i (by omega), Option.bind_some, decide_eq_true c, Bool.true_and]
      rw [show (bit s i != bit s i) = false by simp, if_neg (by decide)]
      exact hi
    · rw [if_neg c, decide_eq_false c, Bool.false_and, show (false != false) = false by rfl, if_neg (by decide)]
      exact hi

theorem BitsKeeps : roadbooklaw03_BitsKeeps.Pure := by
  intro s n _ hn
  have hn := wf_u8 hn
  obtain ⟨K, hK⟩ := awake_f
  refine ⟨K + 1000, ?_⟩
  unfold roadbooklaw03_BitsKeeps.f
  by_cases h : (s.size : Int) > 100
  · rw [if_pos h, hK _ (by omega)]; rfl
  · rw [if_neg h, wrap64_id (by omega) (by omega), bits_Keep_f s n (by omega) (by omega), Option.bind_some, keep_size, if_pos rfl, bits_Clean_f _ n (by rw [keep_size]; omega) (by omega), Option.bind_some, keep_keep, decide_eq_true rfl, if_pos rfl, bits_Keep_f _ n (by rw [keep_size]; omega) (by omega), keep_keep, Option.bind_some]
    rw [show ((keep s n).toList != (keep s n).toList) = false by simp]
    simp only [roadbooklaw03_BitsKeeps.j0, Bool.false_eq_true, if_false]
    exact keeps_l K hK s (by omega) n hn (8 * s.size) _ 0 (by omega) (by omega) (by omega)

end Go.Proofs.Ytbpclinffgedjaa.Pure
