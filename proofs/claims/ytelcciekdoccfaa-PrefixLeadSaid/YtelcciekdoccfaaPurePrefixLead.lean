/-
Bytes of two texts of at most 100 bytes are alike, and one more, that isn't, either way round.
-/
import Derived.Test.YtelcciekdoccfaaPPrefixLeadx
import Derived.Test.YtelcciekdoccfaaBase
namespace Go.Proofs.Ytelcciekdoccfaa.Pure
open Go.RowKit Go.Proofs.Ytelcciekdoccfaa.PPrefixLead Go.Proofs.YtelcciekdoccfaaW.PrintWords Go.Proofs.YtelcciekdoccfaaW.PrintLast Go.Proofs.YtelcciekdoccfaaW.PrintMore Go.Proofs.Ytelcciekdoccfaa.Base
set_option linter.unusedVariables false
set_option linter.unusedSimpArgs false

/-- Bit m (the highest is 0) of a byte. -/
def bitAt (b : Int) (m : Nat) : Bool := b.toNat.testBit (7 - m)
/-- Bit i of a text. -/
def bit (s : ByteArray) (i : Int) : Bool := decide (0 ≤ i ∧ i < 8 * s.size) && bitAt (bt s (i / 8)) (i % 8).toNat
/-- The first m bits of a byte alone. -/
def kb (b : Int) (m : Int) : Int := if m ≤ 0 then 0 else if 8 ≤ m then b else b / 2 ^ (8 - m).toNat * 2 ^ (8 - m).toNat
/-- The first n bits of a text alone. -/
def keepL (s : ByteArray) (n : Int) : List Int := (List.range s.size).map fun (j : Nat) => kb (bt s j) (n - 8 * j)
def keep (s : ByteArray) (n : Int) : ByteArray := strOfNums (keepL s n)

theorem kb_mid : ∀ b : Fin 256, ∀ m : Fin 8, Go.bits .andNot .u8 ((b.val : Nat) : Int) (255 / 2 ^ m.val) = kb ((b.val : Nat) : Int) (m.val : Nat) := by decide +kernel
theorem kb_bit : ∀ b : Fin 256, ∀ m : Fin 9, ∀ j : Fin 8, bitAt (kb ((b.val : Nat) : Int) (m.val : Nat)) j.val = (decide (j.val < m.val) && bitAt ((b.val : Nat) : Int) j.val) := by decide +kernel
theorem kb_kb_fin : ∀ b : Fin 256, ∀ m : Fin 9, kb (kb ((b.val : Nat) : Int) (m.val : Nat)) (m.val : Nat) = kb ((b.val : Nat) : Int) (m.val : Nat) := by decide +kernel
theorem kb_range_fin : ∀ b : Fin 256, ∀ m : Fin 9, 0 ≤ kb ((b.val : Nat) : Int) (m.val : Nat) ∧ kb ((b.val : Nat) : Int) (m.val : Nat) ≤ 255 := by decide +kernel
theorem kb_step_fin : ∀ b : Fin 256, ∀ m : Fin 8, kb ((b.val : Nat) : Int) ((m.val + 1 : Nat) : Int) = (kb ((b.val : Nat) : Int) (m.val : Nat) + if bitAt ((b.val : Nat) : Int) m.val = true then 2 ^ (7 - m.val) else 0) := by decide +kernel
theorem bit_and_fin : ∀ b : Fin 256, ∀ m : Fin 8, (Go.bits .and .u8 ((b.val : Nat) : Int) (128 / 2 ^ m.val) != 0) = bitAt ((b.val : Nat) : Int) m.val := by decide +kernel
theorem bit_div_fin : ∀ b : Fin 256, ∀ m : Fin 8, (Int.tmod (((b.val : Nat) : Int) / 2 ^ (7 - m.val)) 2 == 1) = bitAt ((b.val : Nat) : Int) m.val := by decide +kernel

/-- A byte, as one of 256. -/
theorem byte_fin {b : Int} (h : 0 ≤ b ∧ b ≤ 255) : ∃ x : Fin 256, b = ((x.val : Nat) : Int) := ⟨⟨b.toNat, by omega⟩, by simp; omega⟩
/-- How many of a byte's bits are kept, as one of 0 to 8. -/
theorem kb_clip (b m : Int) : ∃ q : Fin 9, kb b m = kb b (q.val : Nat) ∧ (q.val : Int) = max 0 (min 8 m) := by
  by_cases h0 : m ≤ 0
  · exact ⟨⟨0, by omega⟩, by unfold kb; rw [if_pos h0, if_pos (by simp)], by simp; omega⟩
  · by_cases h8 : 8 ≤ m
    · exact ⟨⟨8, by omega⟩, by unfold kb; rw [if_neg h0, if_pos h8, if_neg (by simp), if_pos (by simp)], by simp; omega⟩
    · exact ⟨⟨m.toNat, by omega⟩, by simp only [show ((m.toNat : Nat) : Int) = m by omega], by simp; omega⟩
theorem kb_range {b : Int} (h : 0 ≤ b ∧ b ≤ 255) (m : Int) : 0 ≤ kb b m ∧ kb b m ≤ 255 := by
  obtain ⟨x, rfl⟩ := byte_fin h
  obtain ⟨q, e, _⟩ := kb_clip ((x.val : Nat) : Int) m
  rw [e]; exact kb_range_fin x q
theorem kb_kb {b : Int} (h : 0 ≤ b ∧ b ≤ 255) (m : Int) : kb (kb b m) m = kb b m := by
  obtain ⟨x, rfl⟩ := byte_fin h
  obtain ⟨q, e, hq⟩ := kb_clip ((x.val : Nat) : Int) m
  obtain ⟨q', e', hq'⟩ := kb_clip (kb ((x.val : Nat) : Int) m) m
  have : q' = q := Fin.ext (by omega)
  rw [e', this, e]; exact kb_kb_fin x q
theorem kb_bitAt {b : Int} (h : 0 ≤ b ∧ b ≤ 255) (m : Int) (j : Nat) (hj : j < 8) : bitAt (kb b m) j = (decide ((j : Int) < m) && bitAt b j) := by
  obtain ⟨x, rfl⟩ := byte_fin h
  obtain ⟨q, e, hq⟩ := kb_clip ((x.val : Nat) : Int) m
  rw [e]
  have := kb_bit x q ⟨j, hj⟩
  simp only at this
  rw [this]
  congr 1
  rw [Bool.eq_iff_iff, decide_eq_true_iff, decide_eq_true_iff]; omega

theorem keepL_length (s : ByteArray) (n : Int) : (keepL s n).length = s.size := by simp [keepL]
theorem keepL_getD (s : ByteArray) (n : Int) (j : Nat) (h : j < s.size) : (keepL s n).getD j 0 = kb (bt s j) (n - 8 * j) := by
  simp [keepL, List.getD_eq_getElem?_getD, List.getElem?_map, List.getElem?_range h]
theorem keepL_range (s : ByteArray) (n : Int) : ∀ x ∈ keepL s n, 0 ≤ x ∧ x ≤ 255 := by
  intro x hx
  simp only [keepL, List.mem_map] at hx
  obtain ⟨j, _, rfl⟩ := hx
  exact kb_range (bt_range s j) _
theorem keep_size (s : ByteArray) (n : Int) : (keep s n).size = s.size := by rw [keep, size_nums, keepL_length]
theorem bt_keep (s : ByteArray) (n : Int) (j : Nat) (h : j < s.size) : bt (keep s n) j = kb (bt s j) (n - 8 * j) := by
  rw [keep, bt_bytes _ (keepL_range s n), keepL_getD s n j h]
theorem keep_keep (s : ByteArray) (n : Int) : keep (keep s n) n = keep s n := by
  refine ext_bt (by rw [keep_size]) fun j hj => ?_
  rw [keep_size, keep_size] at hj
  rw [bt_keep _ _ _ (by rw [keep_size]; exact hj), bt_keep _ _ _ hj, kb_kb (bt_range s j)]
theorem bit_keep (s : ByteArray) (n i : Int) : bit (keep s n) i = (decide (i < n) && bit s i) := by
  unfold bit
  rw [keep_size]
  by_cases h : 0 ≤ i ∧ i < 8 * (s.size : Int)
  · rw [decide_eq_true h, Bool.true_and, Bool.true_and]
    have e : bt (keep s n) (i / 8) = kb (bt s (i / 8)) (n - 8 * (i / 8)) := by
      have := bt_keep s n (i / 8).toNat (by omega)
      rwa [show (((i / 8).toNat : Nat) : Int) = i / 8 by omega] at this
    rw [e, kb_bitAt (bt_range s _) _ _ (by omega)]
    congr 1
    rw [Bool.eq_iff_iff, decide_eq_true_iff, decide_eq_true_iff]; omega
  · rw [decide_eq_false h]; simp

theorem and7 {n : Int} (h0 : 0 ≤ n) (h1 : n < 9223372036854775808) : Go.bits .and .i64 n 7 = n % 8 :=
  bits_mask .i64 63 (by decide) (fun m h0 h1 => by rw [IntKind.wrap_i64]; omega) 3 (by decide) n h0 (by simpa using h1)

theorem set_getD {l : List Int} {k j : Nat} (v : Int) (h : j < l.length) : (l.set k v).getD j 0 = if k = j then v else l.getD j 0 := by
  rw [List.getD_eq_getElem?_getD, List.getElem?_set]
  split
  · rename_i e; subst e; rw [if_pos h]; rfl
  · rw [List.getD_eq_getElem?_getD]
theorem rep_getD (m j : Nat) : (List.replicate m (0 : Int)).getD j 0 = 0 := by
  rw [List.getD_eq_getElem?_getD, List.getElem?_replicate]; split <;> rfl

def rightP (a : ByteArray) (n : Int) : Bool := decide ((a.size = 4 ∨ a.size = 16) ∧ 0 ≤ n ∧ n ≤ 8 * a.size ∧ keep a n = a)
def least (n : Int) : Int := if n < 0 then 0 else (n + 7) / 8
def cutP (a : ByteArray) (n : Int) : ByteArray := (keep a n).extract 0 (min (least n) a.size).toNat
def fillP (s : ByteArray) (n : Int) : ByteArray := s ++ strOfNums (List.replicate (n - s.size).toNat 0)
def LeadIs (a b : ByteArray) (r : Int) : Prop := 0 ≤ r ∧ r ≤ a.size ∧ r ≤ b.size ∧ (∀ j : Nat, (j : Int) < r → bt a j = bt b j) ∧ (r < a.size → r < b.size → bt a r ≠ bt b r)
theorem LeadIs.one {a b : ByteArray} {r q : Int} (h : LeadIs a b r) (k : LeadIs a b q) : r = q := by
  obtain ⟨h0, h1, h2, h3, h4⟩ := h
  obtain ⟨k0, k1, k2, k3, k4⟩ := k
  rcases Int.lt_trichotomy r q with c | c | c
  · have := k3 r.toNat (by omega)
    rw [show ((r.toNat : Nat) : Int) = r by omega] at this
    exact absurd this (h4 (by omega) (by omega))
  · exact c
  · have := h3 q.toNat (by omega)
    rw [show ((q.toNat : Nat) : Int) = q by omega] at this
    exact absurd this (k4 (by omega) (by omega))
theorem LeadIs.symm {a b : ByteArray} {r : Int} (h : LeadIs a b r) : LeadIs b a r := by
  obtain ⟨h0, h1, h2, h3, h4⟩ := h
  exact ⟨h0, h2, h1, fun j c => (h3 j c).symm, fun c d e => h4 d c e.symm⟩
theorem bt_fill (s : ByteArray) (n : Int) (i : Nat) : bt (fillP s n) i = if i < s.size then bt s i else 0 := by
  unfold fillP
  rw [bt_app _ _ _ (by omega)]
  by_cases c : i < s.size
  · rw [if_pos (by omega), if_pos c]
  · rw [if_neg (by omega), if_neg c, show (i : Int) - s.size = ((i - s.size : Nat) : Int) by omega, bt_bytes _ (lit_rep _), rep_getD]
theorem size_fill (s : ByteArray) (n : Int) : (fillP s n).size = s.size + (n - s.size).toNat := by
  unfold fillP; rw [size_app, size_nums, List.length_replicate]

/-- So many first bits are alike, and one more isn't (where both have one more). -/
def IsAlike (s t : ByteArray) (r : Int) : Prop := 0 ≤ r ∧ r ≤ 8 * s.size ∧ r ≤ 8 * t.size ∧ (∀ i, 0 ≤ i → i < r → bit s i = bit t i) ∧ (r < 8 * s.size → r < 8 * t.size → bit s r ≠ bit t r)
theorem IsAlike.one {s t : ByteArray} {r q : Int} (h : IsAlike s t r) (k : IsAlike s t q) : r = q := by
  obtain ⟨h0, h1, h2, h3, h4⟩ := h
  obtain ⟨k0, k1, k2, k3, k4⟩ := k
  rcases Int.lt_trichotomy r q with c | c | c
  · exact absurd (k3 r h0 c) (h4 (by omega) (by omega))
  · exact c
  · exact absurd (h3 q k0 c) (k4 (by omega) (by omega))
theorem IsAlike.symm {s t : ByteArray} {r : Int} (h : IsAlike s t r) : IsAlike t s r := by
  obtain ⟨h0, h1, h2, h3, h4⟩ := h
  exact ⟨h0, h2, h1, fun i a b => (h3 i a b).symm, fun a b c => h4 b a c.symm⟩

theorem xor_nat {a b : Int} (ha : 0 ≤ a ∧ a ≤ 255) (hb : 0 ≤ b ∧ b ≤ 255) : Go.bits .xor .u8 a b = ((a.toNat ^^^ b.toNat : Nat) : Int) := by
  obtain ⟨x, rfl⟩ : ∃ x : Nat, a = x := ⟨a.toNat, by omega⟩
  obtain ⟨y, rfl⟩ : ∃ y : Nat, b = y := ⟨b.toNat, by omega⟩
  have hx : x % 2 ^ IntKind.u8.bits = x := Nat.mod_eq_of_lt (by simp [IntKind.bits]; omega)
  have hy : y % 2 ^ IntKind.u8.bits = y := Nat.mod_eq_of_lt (by simp [IntKind.bits]; omega)
  have hz : x ^^^ y < 2 ^ 8 := Nat.xor_lt_two_pow (by omega) (by omega)
  simp only [Go.bits, BitVec.ofInt_natCast, BitVec.toNat_xor, BitVec.toNat_ofNat, hx, hy, Int.toNat_natCast]
  exact wraps_u8 _ (by omega) (by omega)
theorem lead_top : ∀ x : Fin 256, x.val ≠ 0 → 1 ≤ Lib.bitLen x.val ∧ Lib.bitLen x.val ≤ 8 ∧ x.val.testBit (Lib.bitLen x.val - 1) = true := by decide +kernel
theorem lead_rest : ∀ x : Fin 256, ∀ j : Fin 8, Lib.bitLen x.val ≤ j.val → x.val.testBit j.val = false := by decide +kernel

theorem bits_Alike_l (s t : ByteArray) (hs : s.size ≤ 1000000) (ht : t.size ≤ 1000000) (M : Int) (hM : M = min (s.size : Int) t.size) (m : Nat) :
    ∀ (k : Nat) (i : Int), m < k → 0 ≤ i → M - i = m → (∀ j : Int, 0 ≤ j → j < i → bt s j = bt t j) → ∃ r, bits_Alike.l0 k s t M i = some r ∧ IsAlike s t r := by
  have low : ∀ i : Int, i ≤ M → (∀ j : Int, 0 ≤ j → j < i → bt s j = bt t j) → ∀ q, 0 ≤ q → q < 8 * i → bit s q = bit t q := by
    intro i hi h q h0 h1
    unfold bit
    rw [h (q / 8) (by omega) (by omega), decide_eq_true (by omega), decide_eq_true (by omega)]
  induction m with
  | zero =>
    intro k i hk h0 hm hz
    obtain ⟨k, rfl⟩ : ∃ j, k = j + 1 := ⟨k - 1, by omega⟩
    simp only [bits_Alike.l0]
    have e : mn (s.size : Int) (t.size : Int) = M := by rw [hM]; unfold mn; split <;> omega
    rw [if_neg (by omega), e, wrap64_id (by omega) (by omega)]
    exact ⟨_, rfl, by omega, by omega, by omega, low M (by omega) (fun j a b => hz j a (by omega)), fun a b => by omega⟩
  | succ m ih =>
    intro k i hk h0 hm hz
    obtain ⟨k, rfl⟩ : ∃ j, k = j + 1 := ⟨k - 1, by omega⟩
    simp only [bits_Alike.l0]
    rw [if_pos (by omega), if_pos h0, if_pos (by omega), if_pos (by omega)]
    have ra := bt_range s i
    have rb := bt_range t i
    rw [xor_nat ra rb]
    have hx256 : (bt s i).toNat ^^^ (bt t i).toNat < 256 := Nat.xor_lt_two_pow (n := 8) (by omega) (by omega)
    obtain ⟨x, hx⟩ : ∃ x : Fin 256, x.val = (bt s i).toNat ^^^ (bt t i).toNat := ⟨⟨_, hx256⟩, rfl⟩
    rw [← hx]
    by_cases hz0 : x.val = 0
    · rw [if_pos (by omega), wrap64_id (by omega) (by omega)]
      refine ih k (i + 1) (by omega) (by omega) (by omega) fun j a b => ?_
      by_cases hj : j = i
      · subst hj
        have : (bt s j).toNat = (bt t j).toNat := by
          have h := hx.symm.trans hz0
          apply Nat.eq_of_testBit_eq
          intro q
          have h2 := Nat.testBit_xor (bt s j).toNat (bt t j).toNat q
          rw [h, Nat.zero_testBit] at h2
          simpa using h2.symm
        omega
      · exact hz j a (by omega)
    · rw [if_neg (by omega)]
      obtain ⟨l1, l8, ltop⟩ := lead_top x hz0
      have hb : bits_LeadingZeros8.f ((x.val : Nat) : Int) = some (8 - (Lib.bitLen x.val : Int)) := by
        unfold bits_LeadingZeros8.f bits_Len8.f
        rw [if_pos (by omega), Option.bind_some, wrap64_id (by simp; omega) (by simp; omega)]
        simp
      rw [hb, Option.bind_some, wrap64_id (x := 8 * i) (by omega) (by omega), wrap64_id (by omega) (by omega)]
      have tb : ∀ j, x.val.testBit j = ((bt s i).toNat.testBit j ^^ (bt t i).toNat.testBit j) := by intro j; rw [hx, Nat.testBit_xor]
      refine ⟨_, rfl, by omega, by omega, by omega, ?_, ?_⟩
      · intro q q0 q1
        by_cases hq : q < 8 * i
        · exact low i (by omega) hz q q0 hq
        · unfold bit
          rw [show q / 8 = i by omega, decide_eq_true (by omega), decide_eq_true (by omega), Bool.true_and, Bool.true_and]
          unfold bitAt
          have h := lead_rest x ⟨7 - (q % 8).toNat, by omega⟩ (by simp; omega)
          simp only at h
          rw [tb] at h
          simpa using h
      · intro _ _
        unfold bit
        rw [show (8 * i + (8 - (Lib.bitLen x.val : Int))) / 8 = i by omega, decide_eq_true (by omega), decide_eq_true (by omega), Bool.true_and, Bool.true_and]
        unfold bitAt
        rw [show (8 * i + (8 - (Lib.bitLen x.val : Int))) % 8 = 8 - (Lib.bitLen x.val : Int) by omega, show 7 - (8 - (Lib.bitLen x.val : Int)).toNat = Lib.bitLen x.val - 1 by omega]
        rw [tb] at ltop
        simpa using ltop

/-- How many first bits are alike. -/
theorem alike_ex (s t : ByteArray) (hs : s.size ≤ 1000000) (ht : t.size ≤ 1000000) : ∃ r, IsAlike s t r ∧ ∀ k, s.size < k → bits_Alike.f k s t = some r := by
  have e : mn (s.size : Int) (t.size : Int) = min (s.size : Int) t.size := by unfold mn; split <;> omega
  obtain ⟨r, h, ha⟩ := bits_Alike_l s t hs ht _ rfl (min (s.size : Int) t.size).toNat (s.size + 1) 0 (by omega) (by omega) (by omega) (fun j _ _ => by omega)
  refine ⟨r, ha, fun k hk => ?_⟩
  unfold bits_Alike.f
  rw [e]
  obtain ⟨q, h', hq⟩ := bits_Alike_l s t hs ht _ rfl (min (s.size : Int) t.size).toNat k 0 (by omega) (by omega) (by omega) (fun j _ _ => by omega)
  rw [h', hq.one ha]

theorem byte_eq {a b : Int} (ha : 0 ≤ a ∧ a ≤ 255) (hb : 0 ≤ b ∧ b ≤ 255) (h : ∀ m, m < 8 → bitAt a m = bitAt b m) : a = b := by
  have : a.toNat = b.toNat := by
    apply Nat.eq_of_testBit_eq
    intro i
    by_cases hi : i < 8
    · have := h (7 - i) (by omega)
      unfold bitAt at this
      rwa [show 7 - (7 - i) = i by omega] at this
    · rw [Nat.testBit_lt_two_pow (Nat.lt_of_lt_of_le (show a.toNat < 2 ^ 8 by omega) (Nat.pow_le_pow_right (by decide) (by omega))), Nat.testBit_lt_two_pow (Nat.lt_of_lt_of_le (show b.toNat < 2 ^ 8 by omega) (Nat.pow_le_pow_right (by decide) (by omega)))]
  omega
theorem eq_of_bits {s t : ByteArray} (hl : s.size = t.size) (h : ∀ i : Int, 0 ≤ i → i < 8 * s.size → bit s i = bit t i) : s = t := by
  refine ext_bt hl fun j hj => byte_eq (bt_range s j) (bt_range t j) fun m hm => ?_
  have := h (8 * j + m) (by omega) (by omega)
  unfold bit at this
  rw [decide_eq_true (by omega), decide_eq_true (by omega), Bool.true_and, Bool.true_and, show (8 * (j : Int) + m) / 8 = j by omega, show (8 * (j : Int) + m) % 8 = m by omega] at this
  exact this

theorem lead_of_alike {a b : ByteArray} {q : Int} (h : IsAlike a b q) : LeadIs a b (q / 8) := by
  obtain ⟨h0, h1, h2, h3, h4⟩ := h
  refine ⟨by omega, by omega, by omega, fun j hj => ?_, fun c d e => ?_⟩
  · refine byte_eq (bt_range a j) (bt_range b j) fun m hm => ?_
    have := h3 (8 * j + m) (by omega) (by omega)
    unfold bit at this
    rw [decide_eq_true (by omega), decide_eq_true (by omega), Bool.true_and, Bool.true_and, show (8 * (j : Int) + m) / 8 = j by omega, show (8 * (j : Int) + m) % 8 = m by omega] at this
    exact this
  · refine h4 (by omega) (by omega) ?_
    unfold bit
    rw [decide_eq_true (by omega), decide_eq_true (by omega), e]
theorem prefix_Lead_ex (a b : ByteArray) (ha : a.size ≤ 1000000) (hb : b.size ≤ 1000000) : ∃ r, LeadIs a b r ∧ ∀ k, a.size < k → prefix_Lead.f k a b = some r := by
  obtain ⟨q, hq, hf⟩ := alike_ex a b ha hb
  refine ⟨q / 8, lead_of_alike hq, fun k hk => ?_⟩
  unfold prefix_Lead.f
  rw [hf k hk, Option.bind_some]

theorem awake_f : ∃ K, ∀ k, K ≤ k → roadbooklaw04_awake.f k = some true := Ev.of (roadbooklaw04_awake.mono) (k := 12) (by decide +kernel)

theorem PrefixLead : roadbooklaw04_PrefixLead.Pure := by
  intro a b _ _
  obtain ⟨K, hK⟩ := awake_f
  refine ⟨K + 1000, ?_⟩
  unfold roadbooklaw04_PrefixLead.f
  have bad : roadbooklaw04_PrefixLead.j0 (K + 1000) a b true = some true := by
    simp only [roadbooklaw04_PrefixLead.j0, if_true]; rw [hK _ (by omega)]; rfl
  by_cases h : (a.size : Int) > 100
  · rw [if_pos h]; exact bad
  · rw [if_neg h]
    by_cases h2 : (b.size : Int) > 100
    · rw [decide_eq_true h2]; exact bad
    · rw [decide_eq_false h2]
      simp only [roadbooklaw04_PrefixLead.j0, Bool.false_eq_true, if_false]
      obtain ⟨r, hr, hf⟩ := prefix_Lead_ex a b (by omega) (by omega)
      obtain ⟨q, hq, hg⟩ := prefix_Lead_ex b a (by omega) (by omega)
      have e : q = r := hq.one hr.symm
      subst e
      obtain ⟨h0, h1, h2, h3, h4⟩ := hr
      have he : a.extract 0 q.toNat = b.extract 0 q.toNat := by
        refine ext_bt (by rw [size_ext, size_ext]; omega) fun j hj => ?_
        rw [size_ext] at hj
        rw [bt_ext _ _ _ _ (by omega), bt_ext _ _ _ _ (by omega), if_pos (by omega), if_pos (by omega), show ((0 : Nat) : Int) + (j : Int) = j by omega, h3 j (by omega)]
      rw [hf _ (by omega), Option.bind_some, if_neg (by omega), if_neg (by omega), if_neg (by omega), if_pos h0, if_pos h1, if_pos h2, he, if_pos rfl, hg _ (by omega), Option.bind_some, show (q != q) = false by simp]
      simp only [roadbooklaw04_PrefixLead.j1, Bool.false_eq_true, if_false]
      rw [hK _ (by omega), Option.bind_some, if_pos rfl]
      by_cases c : q = (a.size : Int)
      · rw [if_pos c]
      · rw [if_neg c]
        by_cases d : q = (b.size : Int)
        · rw [if_pos d]
        · rw [if_neg d, if_pos h0, if_pos (by omega), if_pos (by omega)]
          congr 1
          rw [bne_iff_ne]
          exact h4 (by omega) (by omega)

end Go.Proofs.Ytelcciekdoccfaa.Pure
