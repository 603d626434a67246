/-
Any bit of any text of at most 100 bytes, its first bits, whether the rest is clean, and how many bits it has alike with another one, are the reference's.
-/
import Derived.Test.YtbpclinffgedjaaPBitsTellsx
import Derived.Test.YtbpclinffgedjaaBase
namespace Go.Proofs.Ytbpclinffgedjaa.Pure
open Go.RowKit Go.Proofs.Ytbpclinffgedjaa.PBitsTells Go.Proofs.YtbpclinffgedjaaW.PrintWords Go.Proofs.YtbpclinffgedjaaW.PrintLast Go.Proofs.YtbpclinffgedjaaW.PrintMore Go.Proofs.Ytbpclinffgedjaa.Base
set_option linter.unusedVariables false
set_option linter.unusedSimpArgs false

/-- Bit m (the highest is 0) of a byte. -/
def bitAt (b : Int) (m : Nat) : Bool := b.toNat.testBit (7 - m)
/-- Bit i of a text. -/
def bit (s : ByteArray) (i : Int) : Bool := decide (0 ≤ i ∧ i < 8 * s.size) && bitAt (bt s (i / 8)) (i % 8).toNat
/-- The first m bits of a byte alone. -/
def kb (b : Int) (m : Int) : Int := if m ≤ 0 then 0 else if 8 ≤ m then b else b / 2 ^ (8 - m).toNat * 2 ^ (8 - m).toNat
/-- The first n bits of a text alone. -/
def keepL (s : ByteArray) (n : Int) : List Int := (List.range s.size).map fun (j : Nat) => kb (bt s j) (n - 8 * j)
def keep (s : ByteArray) (n : Int) : ByteArray := strOfNums (keepL s n)

theorem kb_mid : ∀ b : Fin 256, ∀ m : Fin 8, Go.bits .andNot .u8 ((b.val : Nat) : Int) (255 / 2 ^ m.val) = kb ((b.val : Nat) : Int) (m.val : Nat) := by decide +kernel
theorem kb_bit : ∀ b : Fin 256, ∀ m : Fin 9, ∀ j : Fin 8, bitAt (kb ((b.val : Nat) : Int) (m.val : Nat)) j.val = (decide (j.val < m.val) && bitAt ((b.val : Nat) : Int) j.val) := by decide +kernel
theorem kb_kb_fin : ∀ b : Fin 256, ∀ m : Fin 9, kb (kb ((b.val : Nat) : Int) (m.val : Nat)) (m.val : Nat) = kb ((b.val : Nat) : Int) (m.val : Nat) := by decide +kernel
theorem kb_range_fin : ∀ b : Fin 256, ∀ m : Fin 9, 0 ≤ kb ((b.val : Nat) : Int) (m.val : Nat) ∧ kb ((b.val : Nat) : Int) (m.val : Nat) ≤ 255 := by decide +kernel
theorem kb_step_fin : ∀ b : Fin 256, ∀ m : Fin 8, kb ((b.val : Nat) : Int) ((m.val + 1 : Nat) : Int) = (kb ((b.val : Nat) : Int) (m.val : Nat) + if bitAt ((b.val : Nat) : Int) m.val = true then 2 ^ (7 - m.val) else 0) := by decide +kernel
theorem bit_and_fin : ∀ b : Fin 256, ∀ m : Fin 8, (Go.bits .and .u8 ((b.val : Nat) : Int) (128 / 2 ^ m.val) != 0) = bitAt ((b.val : Nat) : Int) m.val := by decide +kernel
theorem bit_div_fin : ∀ b : Fin 256, ∀ m : Fin 8, (Int.tmod (((b.val : Nat) : Int) / 2 ^ (7 - m.val)) 2 == 1) = bitAt ((b.val : Nat) : Int) m.val := by decide +kernel

/-- A byte, as one of 256. -/
theorem byte_fin {b : Int} (h : 0 ≤ b ∧ b ≤ 255) : ∃ x : Fin 256, b = ((x.val : Nat) : Int) := ⟨⟨b.toNat, by omega⟩, by simp; omega⟩
/-- How many of a byte's bits are kept, as one of 0 to 8. -/
theorem kb_clip (b m : Int) : ∃ q : Fin 9, kb b m = kb b (q.val : Nat) ∧ (q.val : Int) = max 0 (min 8 m) := by
  by_cases h0 : m ≤ 0
  · exact ⟨⟨0, by omega⟩, by unfold kb; rw [if_pos h0, if_pos (by simp)], by simp; omega⟩
  · by_cases h8 : 8 ≤ m
    · exact ⟨⟨8, by omega⟩, by unfold kb; rw [if_neg h0, if_pos h8, if_neg (by simp), if_pos (by simp)], by simp; omega⟩
    · exact ⟨⟨m.toNat, by omega⟩, by simp only [show ((m.toNat : Nat) : Int) = m by omega], by simp; omega⟩
theorem kb_range {b : Int} (h : 0 ≤ b ∧ b ≤ 255) (m : Int) : 0 ≤ kb b m ∧ kb b m ≤ 255 := by
  obtain ⟨x, rfl⟩ := byte_fin h
  obtain ⟨q, e, _⟩ := kb_clip ((x.val : Nat) : Int) m
  rw [e]; exact kb_range_fin x q
theorem kb_kb {b : Int} (h : 0 ≤ b ∧ b ≤ 255) (m : Int) : kb (kb b m) m = kb b m := by
  obtain ⟨x, rfl⟩ := byte_fin h
  obtain ⟨q, e, hq⟩ := kb_clip ((x.val : Nat) : Int) m
  obtain ⟨q', e', hq'⟩ := kb_clip (kb ((x.val : Nat) : Int) m) m
  have : q' = q := Fin.ext (by omega)
  rw [e', this, e]; exact kb_kb_fin x q
theorem kb_bitAt {b : Int} (h : 0 ≤ b ∧ b ≤ 255) (m : Int) (j : Nat) (hj : j < 8) : bitAt (kb b m) j = (decide ((j : Int) < m) && bitAt b j) := by
  obtain ⟨x, rfl⟩ := byte_fin h
  obtain ⟨q, e, hq⟩ := kb_clip ((x.val : Nat) : Int) m
  rw [e]
  have := kb_bit x q ⟨j, hj⟩
  simp only at this
  rw [this]
  congr 1
  rw [Bool.eq_iff_iff, decide_eq_true_iff, decide_eq_true_iff]; omega

theorem keepL_length (s : ByteArray) (n : Int) : (keepL s n).length = s.size := by simp [keepL]
theorem keepL_getD (s : ByteArray) (n : Int) (j : Nat) (h : j < s.size) : (keepL s n).getD j 0 = kb (bt s j) (n - 8 * j) := by
  simp [keepL, List.getD_eq_getElem?_getD, List.getElem?_map, List.getElem?_range h]
theorem keepL_range (s : ByteArray) (n : Int) : ∀ x ∈ keepL s n, 0 ≤ x ∧ x ≤ 255 := by
  intro x hx
  simp only [keepL, List.mem_map] at hx
  obtain ⟨j, _, rfl⟩ := hx
  exact kb_range (bt_range s j) _
theorem keep_size (s : ByteArray) (n : Int) : (keep s n).size = s.size := by rw [keep, size_nums, keepL_length]
theorem bt_keep (s : ByteArray) (n : Int) (j : Nat) (h : j < s.size) : bt (keep s n) j = kb (bt s j) (n - 8 * j) := by
  rw [keep, bt_bytes _ (keepL_range s n), keepL_getD s n j h]
theorem keep_keep (s : ByteArray) (n : Int) : keep (keep s n) n = keep s n := by
  refine ext_bt (by rw [keep_size]) fun j hj => ?_
  rw [keep_size, keep_size] at hj
  rw [bt_keep _ _ _ (by rw [keep_size]; exact hj), bt_keep _ _ _ hj, kb_kb (bt_range s j)]
theorem bit_keep (s : ByteArray) (n i : Int) : bit (keep s n) i = (decide (i < n) && bit s i) := by
  unfold bit
  rw [keep_size]
  by_cases h : 0 ≤ i ∧ i < 8 * (s.size : Int)
  · rw [decide_eq_true h, Bool.true_and, Bool.true_and]
    have e : bt (keep s n) (i / 8) = kb (bt s (i / 8)) (n - 8 * (i / 8)) := by
      have := bt_keep s n (i / 8).toNat (by omega)
      rwa [show (((i / 8).toNat : Nat) : Int) = i / 8 by omega] at this
    rw [e, kb_bitAt (bt_range s _) _ _ (by omega)]
    congr 1
    rw [Bool.eq_iff_iff, decide_eq_true_iff, decide_eq_true_iff]; omega
  · rw [decide_eq_false h]; simp

theorem and7 {n : Int} (h0 : 0 ≤ n) (h1 : n < 9223372036854775808) : Go.bits .and .i64 n 7 = n % 8 :=
  bits_mask .i64 63 (by decide) (fun m h0 h1 => by rw [IntKind.wrap_i64]; omega) 3 (by decide) n h0 (by simpa using h1)

theorem bits_Bit_f (s : ByteArray) (i : Int) (hs : s.size ≤ 1000000) : bits_Bit.f s i = some (bit s i) := by
  unfold bits_Bit.f bit
  by_cases h0 : 0 ≤ i
  · rw [if_pos h0, wrap64_id (by omega) (by omega)]
    by_cases h1 : i < 8 * (s.size : Int)
    · rw [if_pos h1, if_pos (by omega), if_pos (by omega), and7 h0 (by omega), u64_id (by omega) (by omega), if_pos (by omega), decide_eq_true ⟨h0, h1⟩, Bool.true_and]
      congr 1
      obtain ⟨x, hx⟩ := byte_fin (bt_range s (i / 8))
      rw [hx]
      have := bit_and_fin x ⟨(i % 8).toNat, by omega⟩
      simp only at this
      unfold shr
      rw [show min (i % 8).toNat IntKind.u8.bits = (i % 8).toNat by simp [IntKind.bits]; omega]
      exact this
    · rw [if_neg h1, decide_eq_false (fun h => h1 h.2)]; rfl
  · rw [if_neg h0, decide_eq_false (fun h => h0 h.1)]; rfl

theorem set_getD {l : List Int} {k j : Nat} (v : Int) (h : j < l.length) : (l.set k v).getD j 0 = if k = j then v else l.getD j 0 := by
  rw [List.getD_eq_getElem?_getD, List.getElem?_set]
  split
  · rename_i e; subst e; rw [if_pos h]; rfl
  · rw [List.getD_eq_getElem?_getD]
theorem rep_getD (m j : Nat) : (List.replicate m (0 : Int)).getD j 0 = 0 := by
  rw [List.getD_eq_getElem?_getD, List.getElem?_replicate]; split <;> rfl

theorem bits_Keep_f (s : ByteArray) (n : Int) (hs : s.size ≤ 1000000) (hn : -9223372036854775808 ≤ n) : bits_Keep.f s n = some (keep s n) := by
  unfold bits_Keep.f
  rw [if_pos (by omega)]
  by_cases h1 : 8 * (s.size : Int) ≤ n
  · rw [if_pos h1]
    congr 1
    refine ext_bt (by rw [keep_size]) fun j hj => ?_
    rw [bt_keep s n j hj]
    unfold kb; rw [if_neg (by omega), if_pos (by omega)]
  · rw [if_neg h1]
    by_cases h2 : n ≤ 0
    · rw [if_pos h2]
      congr 1
      refine ext_bt (by rw [keep_size, size_nums, List.length_replicate]) fun j hj => ?_
      rw [size_nums, List.length_replicate] at hj
      rw [bt_keep s n j hj, bt_bytes _ (lit_rep _)]
      unfold kb; rw [if_pos (by omega), rep_getD]
    · rw [if_neg h2]
      congr 1
      have hk0 : 0 ≤ n / 8 := by omega
      have hk1 : n / 8 < (s.size : Int) := by omega
      obtain ⟨k, hk⟩ : ∃ k : Nat, n / 8 = k := ⟨(n / 8).toNat, by omega⟩
      rw [hk, and7 (by omega) (by omega), u64_id (by omega) (by omega)]
      have hv : Go.bits .andNot .u8 (bt s k) (255 / 2 ^ min (n % 8).toNat 8) = kb (bt s k) (n - 8 * k) := by
        obtain ⟨x, hx⟩ := byte_fin (bt_range s k)
        rw [hx]
        have := kb_mid x ⟨(n % 8).toNat, by omega⟩
        simp only at this
        rw [show min (n % 8).toNat 8 = (n % 8).toNat by omega, this]
        congr 1; omega
      rw [hv, show ((k : Int)).toNat = k by omega]
      have he : (s.extract 0 k).size = k := by rw [size_ext]; omega
      rw [he]
      have hlen : (bytesOf (s.extract 0 k) ++ (List.replicate s.size (0 : Int)).drop k).length = s.size := by
        rw [List.length_append, len_bytesOf, he, List.length_drop, List.length_replicate]; omega
      have hgd : ∀ j, j < s.size → ((bytesOf (s.extract 0 k) ++ (List.replicate s.size (0 : Int)).drop k).set k (kb (bt s k) (n - 8 * k))).getD j 0 = kb (bt s j) (n - 8 * j) := by
        intro j hj
        rw [set_getD _ (by rw [hlen]; exact hj)]
        by_cases hkj : k = j
        · rw [if_pos hkj, hkj]
        · rw [if_neg hkj]
          by_cases hlt : j < k
          · rw [List.getD_eq_getElem?_getD, List.getElem?_append_left (by rw [len_bytesOf, he]; exact hlt), ← List.getD_eq_getElem?_getD, bytesOf_getD, bt_ext _ _ _ _ (by omega), if_pos (by omega)]
            unfold kb; rw [if_neg (by omega), if_pos (by omega)]; congr 1; omega
          · rw [List.getD_eq_getElem?_getD, List.getElem?_append_right (by rw [len_bytesOf, he]; omega), List.drop_replicate, ← List.getD_eq_getElem?_getD, rep_getD]
            unfold kb; rw [if_pos (by omega)]
      have hrange : ∀ x ∈ (bytesOf (s.extract 0 k) ++ (List.replicate s.size (0 : Int)).drop k).set k (kb (bt s k) (n - 8 * k)), 0 ≤ x ∧ x ≤ 255 := by
        intro x hx
        obtain ⟨j, hj, rfl⟩ := List.getElem_of_mem hx
        have := hgd j (by rw [List.length_set, hlen] at hj; exact hj)
        rw [List.getD_eq_getElem?_getD, List.getElem?_eq_getElem hj] at this
        simp only [Option.getD_some] at this
        rw [this]; exact kb_range (bt_range s j) _
      refine ext_bt (by rw [keep_size, size_nums, List.length_set, hlen]) fun j hj => ?_
      rw [size_nums, List.length_set, hlen] at hj
      rw [bt_keep s n j hj, bt_bytes _ hrange, hgd j hj]

theorem bits_Clean_f (s : ByteArray) (n : Int) (hs : s.size ≤ 1000000) (hn : -9223372036854775808 ≤ n) : bits_Clean.f s n = some (decide (keep s n = s)) := by
  unfold bits_Clean.f
  rw [bits_Keep_f s n hs hn, Option.bind_some]
  congr 1
  rw [Bool.eq_iff_iff, beq_iff_eq, decide_eq_true_iff, toList_inj]

/-- So many first bits are alike, and one more isn't (where both have one more). -/
def IsAlike (s t : ByteArray) (r : Int) : Prop := 0 ≤ r ∧ r ≤ 8 * s.size ∧ r ≤ 8 * t.size ∧ (∀ i, 0 ≤ i → i < r → bit s i = bit t i) ∧ (r < 8 * s.size → r < 8 * t.size → bit s r ≠ bit t r)
theorem IsAlike.one {s t : ByteArray} {r q : Int} (h : IsAlike s t r) (k : IsAlike s t q) : r = q := by
  obtain ⟨h0, h1, h2, h3, h4⟩ := h
  obtain ⟨k0, k1, k2, k3, k4⟩ := k
  rcases Int.lt_trichotomy r q with c | c | c
  · exact absurd (k3 r h0 c) (h4 (by omega) (by omega))
  · exact c
  · exact absurd (h3 q k0 c) (k4 (by omega) (by omega))
theorem IsAlike.symm {s t : ByteArray} {r : Int} (h : IsAlike s t r) : IsAlike t s r := by
  obtain ⟨h0, h1, h2, h3, h4⟩ := h
  exact ⟨h0, h2, h1, fun i a b => (h3 i a b).symm, fun a b c => h4 b a c.symm⟩

theorem xor_nat {a b : Int} (ha : 0 ≤ a ∧ a ≤ 255) (hb : 0 ≤ b ∧ b ≤ 255) : Go.bits .xor .u8 a b = ((a.toNat ^^^ b.toNat : Nat) : Int) := by
  obtain ⟨x, rfl⟩ : ∃ x : Nat, a = x := ⟨a.toNat, by omega⟩
  obtain ⟨y, rfl⟩ : ∃ y : Nat, b = y := ⟨b.toNat, by omega⟩
  have hx : x % 2 ^ IntKind.u8.bits = x := Nat.mod_eq_of_lt (by simp [IntKind.bits]; omega)
  have hy : y % 2 ^ IntKind.u8.bits = y := Nat.mod_eq_of_lt (by simp [IntKind.bits]; omega)
  have hz : x ^^^ y < 2 ^ 8 := Nat.xor_lt_two_pow (by omega) (by omega)
  simp only [Go.bits, BitVec.ofInt_natCast, BitVec.toNat_xor, BitVec.toNat_ofNat, hx, hy, Int.toNat_natCast]
  exact wraps_u8 _ (by omega) (by omega)
theorem lead_top : ∀ x : Fin 256, x.val ≠ 0 → 1 ≤ Lib.bitLen x.val ∧ Lib.bitLen x.val ≤ 8 ∧ x.val.testBit (Lib.bitLen x.val - 1) = true := by decide +kernel
theorem lead_rest : ∀ x : Fin 256, ∀ j : Fin 8, Lib.bitLen x.val ≤ j.val → x.val.testBit j.val = false := by decide +kernel

theorem bits_Alike_l (s t : ByteArray) (hs : s.size ≤ 1000000) (ht : t.size ≤ 1000000) (M : Int) (hM : M = min (s.size : Int) t.size) (m : Nat) :
    ∀ (k : Nat) (i : Int), m < k → 0 ≤ i → M - i = m → (∀ j : Int, 0 ≤ j → j < i → bt s j = bt t j) → ∃ r, bits_Alike.l0 k s t M i = some r ∧ IsAlike s t r := by
  have low : ∀ i : Int, i ≤ M → (∀ j : Int, 0 ≤ j → j < i → bt s j = bt t j) → ∀ q, 0 ≤ q → q < 8 * i → bit s q = bit t q := by
    intro i hi h q h0 h1
    unfold bit
    rw [h (q / 8) (by omega) (by omega), decide_eq_true (by omega), decide_eq_true (by omega)]
  induction m with
  | zero =>
    intro k i hk h0 hm hz
    obtain ⟨k, rfl⟩ : ∃ j, k = j + 1 := ⟨k - 1, by omega⟩
    simp only [bits_Alike.l0]
    have e : mn (s.size : Int) (t.size : Int) = M := by rw [hM]; unfold mn; split <;> omega
    rw [if_neg (by omega), e, wrap64_id (by omega) (by omega)]
    exact ⟨_, rfl, by omega, by omega, by omega, low M (by omega) (fun j a b => hz j a (by omega)), fun a b => by omega⟩
  | succ m ih =>
    intro k i hk h0 hm hz
    obtain ⟨k, rfl⟩ : ∃ j, k = j + 1 := ⟨k - 1, by omega⟩
    simp only [bits_Alike.l0]
    rw [if_pos (by omega), if_pos h0, if_pos (by omega), if_pos (by omega)]
    have ra := bt_range s i
    have rb := bt_range t i
    rw [xor_nat ra rb]
    have hx256 : (bt s i).toNat ^^^ (bt t i).toNat < 256 := Nat.xor_lt_two_pow (n := 8) (by omega) (by omega)
    obtain ⟨x, hx⟩ : ∃ x : Fin 256, x.val = (bt s i).toNat ^^^ (bt t i).toNat := ⟨⟨_, hx256⟩, rfl⟩
    rw [← hx]
    by_cases hz0 : x.val = 0
    · rw [if_pos (by omega), wrap64_id (by omega) (by omega)]
      refine ih k (i + 1) (by omega) (by omega) (by omega) fun j a b => ?_
      by_cases hj : j = i
      · subst hj
        have : (bt s j).toNat = (bt t j).toNat := by
          have h := hx.symm.trans hz0
          apply Nat.eq_of_testBit_eq
          intro q
          have h2 := Nat.testBit_xor (bt s j).toNat (bt t j).toNat q
          rw [h, Nat.zero_testBit] at h2
          simpa using h2.symm
        omega
      · exact hz j a (by omega)
    · rw [if_neg (by omega)]
      obtain ⟨l1, l8, ltop⟩ := lead_top x hz0
      have hb : bits_LeadingZeros8.f ((x.val : Nat) : Int) = some (8 - (Lib.bitLen x.val : Int)) := by
        unfold bits_LeadingZeros8.f bits_Len8.f
        rw [if_pos (by omega), Option.bind_some, wrap64_id (by simp; omega) (by simp; omega)]
        simp
      rw [hb, Option.bind_some, wrap64_id (x := 8 * i) (by omega) (by omega), wrap64_id (by omega) (by omega)]
      have tb : ∀ j, x.val.testBit j = ((bt s i).toNat.testBit j ^^ (bt t i).toNat.testBit j) := by intro j; rw [hx, Nat.testBit_xor]
      refine ⟨_, rfl, by omega, by omega, by omega, ?_, ?_⟩
      · intro q q0 q1
        by_cases hq : q < 8 * i
        · exact low i (by omega) hz q q0 hq
        · unfold bit
          rw [show q / 8 = i by omega, decide_eq_true (by omega), decide_eq_true (by omega), Bool.true_and, Bool.true_and]
          unfold bitAt
          have h := lead_rest x ⟨7 - (q % 8).toNat, by omega⟩ (by simp; omega)
          simp only at h
          rw [tb] at h
          simpa using h
      · intro _ _
        unfold bit
        rw [show (8 * i + (8 - (Lib.bitLen x.val : Int))) / 8 = i by omega, decide_eq_true (by omega), decide_eq_true (by omega), Bool.true_and, Bool.true_and]
        unfold bitAt
        rw [show (8 * i + (8 - (Lib.bitLen x.val : Int))) % 8 = 8 - (Lib.bitLen x.val : Int) by omega, show 7 - (8 - (Lib.bitLen x.val : Int)).toNat = Lib.bitLen x.val - 1 by omega]
        rw [tb] at ltop
        simpa using ltop

/-- How many first bits are alike. -/
theorem alike_ex (s t : ByteArray) (hs : s.size ≤ 1000000) (ht : t.size ≤ 1000000) : ∃ r, IsAlike s t r ∧ ∀ k, s.size < k → bits_Alike.f k s t = some r := by
  have e : mn (s.size : Int) (t.size : Int) = min (s.size : Int) t.size := by unfold mn; split <;> omega
  obtain ⟨r, h, ha⟩ := bits_Alike_l s t hs ht _ rfl (min (s.size : Int) t.size).toNat (s.size + 1) 0 (by omega) (by omega) (by omega) (fun j _ _ => by omega)
  refine ⟨r, ha, fun k hk => ?_⟩
  unfold bits_Alike.f
  rw [e]
  obtain ⟨q, h', hq⟩ := bits_Alike_l s t hs ht _ rfl (min (s.size : Int) t.size).toNat k 0 (by omega) (by omega) (by omega) (fun j _ _ => by omega)
  rw [h', hq.one ha]

theorem getD_ext {a b : List Int} (hl : a.length = b.length) (h : ∀ j, j < a.length → a.getD j 0 = b.getD j 0) : a = b := by
  apply List.ext_getElem hl
  intro i h1 h2
  have := h i h1
  rw [List.getD_eq_getElem?_getD, List.getElem?_eq_getElem h1, List.getD_eq_getElem?_getD, List.getElem?_eq_getElem h2] at this
  exact this
theorem keepL_eq (s : ByteArray) {a b : Int} (h : ∀ j : Nat, j < s.size → kb (bt s j) (a - 8 * j) = kb (bt s j) (b - 8 * j)) : keepL s a = keepL s b := by
  refine getD_ext (by rw [keepL_length, keepL_length]) fun j hj => ?_
  rw [keepL_length] at hj
  rw [keepL_getD _ _ _ hj, keepL_getD _ _ _ hj, h j hj]
theorem kb_low (b : Int) {m : Int} (h : m ≤ 0) : kb b m = 0 := by unfold kb; rw [if_pos h]
theorem kb_high (b : Int) {m : Int} (h : 8 ≤ m) : kb b m = b := by unfold kb; rw [if_neg (by omega), if_pos h]
theorem keepL_step (s : ByteArray) (i : Int) (h0 : 0 ≤ i) (h1 : i < 8 * s.size) :
    keepL s (i + 1) = if bit s i = true then (keepL s i).set (i / 8).toNat (kb (bt s (i / 8)) (i - 8 * (i / 8)) + 2 ^ (7 - (i % 8).toNat)) else keepL s i := by
  obtain ⟨q, hq⟩ : ∃ q : Nat, i / 8 = q := ⟨(i / 8).toNat, by omega⟩
  have hb : bit s i = bitAt (bt s (i / 8)) (i % 8).toNat := by unfold bit; rw [decide_eq_true ⟨h0, h1⟩, Bool.true_and]
  have hstep : kb (bt s q) (i + 1 - 8 * q) = kb (bt s q) (i - 8 * q) + if bitAt (bt s q) (i % 8).toNat = true then 2 ^ (7 - (i % 8).toNat) else 0 := by
    obtain ⟨x, hx⟩ := byte_fin (bt_range s q)
    rw [hx]
    have := kb_step_fin x ⟨(i % 8).toNat, by omega⟩
    simp only at this
    rw [show i + 1 - 8 * (q : Int) = (((i % 8).toNat + 1 : Nat) : Int) by omega, this, show i - 8 * (q : Int) = (((i % 8).toNat : Nat) : Int) by omega]
  have other : ∀ j : Nat, j ≠ q → kb (bt s j) (i + 1 - 8 * j) = kb (bt s j) (i - 8 * j) := by
    intro j hj
    by_cases c : j < q
    · rw [kb_high _ (by omega), kb_high _ (by omega)]
    · rw [kb_low _ (by omega), kb_low _ (by omega)]
  rw [hb, hq]
  rw [show ((q : Int)).toNat = q by omega]
  by_cases c : bitAt (bt s q) (i % 8).toNat = true
  · rw [if_pos c] at hstep ⊢
    refine getD_ext (by rw [keepL_length, List.length_set, keepL_length]) fun j hj => ?_
    rw [keepL_length] at hj
    rw [keepL_getD _ _ _ hj, set_getD _ (by rw [keepL_length]; exact hj)]
    by_cases e : q = j
    · rw [if_pos e, ← e, hstep]
    · rw [if_neg e, keepL_getD _ _ _ hj, other j (fun c => e c.symm)]
  · rw [if_neg c] at hstep ⊢
    refine keepL_eq s fun j hj => ?_
    by_cases e : j = q
    · rw [e, hstep, Int.add_zero]
    · exact other j e

theorem refBit_f (s : ByteArray) (i : Int) (hs : s.size ≤ 1000000) : roadbookref03_Bit.f s i = some (bit s i) := by
  unfold roadbookref03_Bit.f bit
  by_cases h0 : 0 ≤ i
  · rw [if_pos h0, wrap64_id (x := 8 * _) (by omega) (by omega)]
    by_cases h1 : i < 8 * (s.size : Int)
    · have e1 : wrap64 (Int.tdiv i 8) = i / 8 := by rw [Int.tdiv_eq_ediv_of_nonneg h0, wrap64_id (by omega) (by omega)]
      have e2 : IntKind.u64.wrap (wrap64 (7 - Int.tmod i 8)) = 7 - i % 8 := by rw [Int.tmod_eq_emod_of_nonneg h0, wrap64_id (by omega) (by omega), u64_id (by omega) (by omega)]
      have hr := bt_range s (i / 8)
      rw [if_pos h1, e1, e2, if_pos (by omega), if_pos (by omega), if_pos (by omega), decide_eq_true ⟨h0, h1⟩, Bool.true_and, wrap64_id (by omega) (by omega)]
      congr 1
      obtain ⟨x, hx⟩ := byte_fin hr
      rw [hx]
      have := bit_div_fin x ⟨(i % 8).toNat, by omega⟩
      simp only at this
      unfold shr
      rw [show min (7 - i % 8).toNat IntKind.i64.bits = 7 - (i % 8).toNat by simp [IntKind.bits]; omega]
      exact this
    · rw [if_neg h1, decide_eq_false (fun h => h1 h.2)]; rfl
  · rw [if_neg h0, decide_eq_false (fun h => h0 h.1)]; rfl

theorem kb_add_range {b : Int} (h : 0 ≤ b ∧ b ≤ 255) (m : Nat) (hm : m < 8) (hb : bitAt b m = true) : 0 ≤ kb b m + 2 ^ (7 - m) ∧ kb b m + 2 ^ (7 - m) ≤ 255 := by
  obtain ⟨x, rfl⟩ := byte_fin h
  have := kb_step_fin x ⟨m, hm⟩
  simp only at this
  rw [if_pos hb] at this
  rw [← this]; exact kb_range h _

theorem refKeep_l (s : ByteArray) (hs : s.size ≤ 1000000) (n : Int) (m : Nat) :
    ∀ (k : Nat) (i : Int), 2 * m + 2 < k → 0 ≤ i → 8 * (s.size : Int) - i = m → (i ≤ n ∨ i = 0) → roadbookref03_Keep.l0 k s n (keepL s i) i = some (keep s n) := by
  induction m with
  | zero =>
    intro k i hk h0 hm hi
    obtain ⟨k, rfl⟩ : ∃ j, k = j + 2 := ⟨k - 2, by omega⟩
    simp only [roadbookref03_Keep.l0]
    rw [wrap64_id (by omega) (by omega), if_neg (by omega)]
    simp only [roadbookref03_Keep.j1, Bool.false_eq_true, if_false]
    rw [keep, keepL_eq s (a := i) (b := n) (fun j hj => by rw [kb_high _ (by omega), kb_high _ (by omega)])]
  | succ m ih =>
    intro k i hk h0 hm hi
    obtain ⟨k, rfl⟩ : ∃ j, k = j + 2 := ⟨k - 2, by omega⟩
    simp only [roadbookref03_Keep.l0]
    rw [wrap64_id (by omega) (by omega), if_pos (by omega)]
    simp only [roadbookref03_Keep.j1, decide_eq_true_eq]
    by_cases c : i < n
    · rw [if_pos c, refBit_f s i hs, Option.bind_some]
      have hstep := keepL_step s i h0 (by omega)
      have hnext := ih k (i + 1) (by omega) (by omega) (by omega) (by omega)
      rw [wrap64_id (x := i + 1) (by omega) (by omega)]
      by_cases hb : bit s i = true
      · rw [if_pos hb] at hstep ⊢
        have e1 : wrap64 (Int.tdiv i 8) = i / 8 := by rw [Int.tdiv_eq_ediv_of_nonneg h0, wrap64_id (by omega) (by omega)]
        have e2 : IntKind.u64.wrap (wrap64 (7 - Int.tmod i 8)) = 7 - i % 8 := by rw [Int.tmod_eq_emod_of_nonneg h0, wrap64_id (by omega) (by omega), u64_id (by omega) (by omega)]
        rw [e1, e2, if_pos (by omega), if_pos (by rw [keepL_length]; omega), if_pos (by omega)]
        have e3 : rd (keepL s i) (i / 8) = kb (bt s (i / 8)) (i - 8 * (i / 8)) := by
          have := keepL_getD s i (i / 8).toNat (by omega)
          unfold rd
          rw [this, show (((i / 8).toNat : Nat) : Int) = i / 8 by omega]
        have e4 : shl .u8 1 (7 - i % 8) = 2 ^ (7 - (i % 8).toNat) := by
          unfold shl
          rw [show min (7 - i % 8).toNat IntKind.u8.bits = 7 - (i % 8).toNat by simp [IntKind.bits]; omega, Int.one_mul, IntKind.wrap_u8]
          have : (i % 8).toNat < 8 := by omega
          have : ∀ q : Fin 8, (2 : Int) ^ (7 - q.val) % 256 = 2 ^ (7 - q.val) := by decide
          exact this ⟨(i % 8).toNat, by omega⟩
        have hbA : bitAt (bt s (i / 8)) (i % 8).toNat = true := by
          unfold bit at hb
          rwa [decide_eq_true (by omega), Bool.true_and] at hb
        have hr := kb_add_range (bt_range s (i / 8)) (i % 8).toNat (by omega) hbA
        rw [show (((i % 8).toNat : Nat) : Int) = i - 8 * (i / 8) by omega] at hr
        rw [e3, e4, Int.emod_eq_of_lt hr.1 (by omega), ← hstep]
        exact hnext
      · rw [if_neg hb] at hstep ⊢
        rw [← hstep]; exact hnext
    · rw [if_neg c]
      rw [keep, keepL_eq s (a := i) (b := n)]
      intro j hj
      rcases hi with hi | hi
      · rw [show i = n by omega]
      · subst hi; rw [kb_low _ (by omega), kb_low _ (by omega)]

theorem refKeep_f (s : ByteArray) (n : Int) (hs : s.size ≤ 1000000) (k : Nat) (hk : 16 * s.size + 2 < k) : roadbookref03_Keep.f k s n = some (keep s n) := by
  unfold roadbookref03_Keep.f
  rw [if_pos (by omega), if_pos (by omega)]
  have e : List.replicate ((s.size : Int)).toNat (0 : Int) = keepL s 0 := by
    refine getD_ext (by rw [keepL_length, List.length_replicate]; omega) fun j hj => ?_
    rw [List.length_replicate] at hj
    rw [rep_getD, keepL_getD _ _ _ (by omega), kb_low _ (by omega)]
  rw [e]
  exact refKeep_l s hs n (8 * s.size) k 0 (by omega) (by omega) (by omega) (.inr rfl)

theorem refAlike_l (s t : ByteArray) (hs : s.size ≤ 1000000) (ht : t.size ≤ 1000000) (m : Nat) :
    ∀ (k : Nat) (i : Int), m < k → 0 ≤ i → i ≤ 8 * (t.size : Int) → 8 * (s.size : Int) - i = m → (∀ j, 0 ≤ j → j < i → bit s j = bit t j) → ∃ r, roadbookref03_Alike.l0 k s t i = some r ∧ IsAlike s t r := by
  induction m with
  | zero =>
    intro k i hk h0 h1 hm hz
    obtain ⟨k, rfl⟩ : ∃ j, k = j + 1 := ⟨k - 1, by omega⟩
    simp only [roadbookref03_Alike.l0]
    rw [wrap64_id (by omega) (by omega), if_neg (by omega)]
    exact ⟨_, rfl, h0, by omega, h1, hz, fun a => by omega⟩
  | succ m ih =>
    intro k i hk h0 h1 hm hz
    obtain ⟨k, rfl⟩ : ∃ j, k = j + 1 := ⟨k - 1, by omega⟩
    simp only [roadbookref03_Alike.l0]
    rw [wrap64_id (x := 8 * (s.size : Int)) (by omega) (by omega), if_pos (by omega), wrap64_id (x := 8 * (t.size : Int)) (by omega) (by omega)]
    by_cases c : i < 8 * (t.size : Int)
    · rw [if_pos c, refBit_f s i hs, refBit_f t i ht, Option.bind_some, Option.bind_some]
      by_cases e : bit s i = bit t i
      · rw [e, if_pos (by simp), wrap64_id (by omega) (by omega)]
        refine ih k (i + 1) (by omega) (by omega) (by omega) (by omega) fun j a b => ?_
        by_cases hj : j = i
        · rw [hj, e]
        · exact hz j a (by omega)
      · rw [if_neg (by simpa using e)]
        exact ⟨_, rfl, h0, by omega, by omega, hz, fun _ _ => e⟩
    · rw [if_neg c]
      exact ⟨_, rfl, h0, by omega, h1, hz, fun _ a => absurd a c⟩

theorem awake_f : ∃ K, ∀ k, K ≤ k → roadbooklaw03_awake.f k = some true := Ev.of (roadbooklaw03_awake.mono) (k := 12) (by decide +kernel)

theorem BitsTells : roadbooklaw03_BitsTells.Pure := by
  intro s t n _ _ hn
  have hn := wf_i64 hn
  obtain ⟨K, hK⟩ := awake_f
  refine ⟨K + 10000, ?_⟩
  unfold roadbooklaw03_BitsTells.f
  have bad : roadbooklaw03_BitsTells.j0 (K + 10000) s t n true = some true := by
    simp only [roadbooklaw03_BitsTells.j0, if_true]; rw [hK _ (by omega)]; rfl
  by_cases h : (s.size : Int) > 100
  · rw [if_pos h]; exact bad
  · rw [if_neg h]
    by_cases h2 : (t.size : Int) > 100
    · rw [decide_eq_true h2]; exact bad
    · rw [decide_eq_false h2]
      simp only [roadbooklaw03_BitsTells.j0, Bool.false_eq_true, if_false]
      obtain ⟨r, ha, hf⟩ := alike_ex s t (by omega) (by omega)
      obtain ⟨q, hg, hb⟩ := refAlike_l s t (by omega) (by omega) (8 * s.size) (K + 9999) 0 (by omega) (by omega) (by omega) (by omega) (fun j _ _ => by omega)
      have e : q = r := hb.one ha
      subst e
      have hc : roadbookref03_Clean.f (K + 9999) s n = some (decide (keep s n = s)) := by
        unfold roadbookref03_Clean.f
        rw [refKeep_f s n (by omega) _ (by omega), Option.bind_some]
        congr 1
        rw [Bool.eq_iff_iff, beq_iff_eq, decide_eq_true_iff, toList_inj]
      have hA : roadbookref03_Alike.f (K + 9999) s t = some q := hg
      rw [hK _ (by omega), bits_Bit_f s n (by omega), refBit_f s n (by omega), bits_Keep_f s n (by omega) hn.1, refKeep_f s n (by omega) _ (by omega), bits_Clean_f s n (by omega) hn.1, hc, hf _ (by omega), hA]
      simp

end Go.Proofs.Ytbpclinffgedjaa.Pure
