/-
Of Babel the meaning of each Update, as the document's fold over the datagram's TLVs tells it, is that written in the messages; for lists of at most 40 messages of few parts.
-/
import Derived.Test.YtnllanjoebjeiaaGreatQWholeResolved
import Derived.Test.YtnllanjoebjeiaaGreatBase
namespace Go.Proofs.YtnllanjoebjeiaaGreat.Pure
open Go.RowKit Go.Proofs.YtnllanjoebjeiaaGreat.PV Go.Proofs.YtnllanjoebjeiaaGreatW.PrintWords Go.Proofs.YtnllanjoebjeiaaGreatW.PrintLast Go.Proofs.YtnllanjoebjeiaaGreatW.PrintMore Go.Proofs.YtnllanjoebjeiaaGreat.Base
set_option linter.unusedVariables false
set_option linter.unusedSimpArgs false

/-- TLVs' bytes, one behind the other. -/
def fl : List (Int × ByteArray) → ByteArray
  | [] => ⟨#[]⟩
  | (t, d) :: r => strOfNums [t, d.size] ++ d ++ fl r
def Okt (p : Int × ByteArray) : Prop := 1 ≤ p.1 ∧ p.1 ≤ 255 ∧ p.2.size ≤ 255
theorem fl_app (a b : List (Int × ByteArray)) : fl (a ++ b) = fl a ++ fl b := by
  induction a with
  | nil => exact (ByteArray.empty_append).symm
  | cons p a ih => obtain ⟨t, d⟩ := p; simp only [List.cons_append, fl, ih, ByteArray.append_assoc]
theorem fl_size (t : Int) (d : ByteArray) (r : List (Int × ByteArray)) : (fl ((t, d) :: r)).size = 2 + d.size + (fl r).size := by
  rw [fl, size_app, size_app, size_nums]; rfl
theorem bytesOf_app (a b : ByteArray) : bytesOf (a ++ b) = bytesOf a ++ bytesOf b := by
  simp only [bytesOf, ByteArray.data_append, Array.toList_append, List.map_append]
/-- The one TLV that is laid, or none. -/
def one (t : Int) (d : ByteArray) : List (Int × ByteArray) := if 1 ≤ t ∧ t ≤ 255 ∧ d.size ≤ 255 then [(t, d)] else []
theorem one_ok (t : Int) (d : ByteArray) : ∀ p ∈ one t d, Okt p ∧ p.1 = t := by
  intro p hp
  unfold one at hp
  split at hp
  · next h => rw [List.mem_singleton] at hp; subst hp; exact ⟨h, rfl⟩
  · cases hp
theorem one_len (t : Int) (d : ByteArray) : (one t d).length ≤ 1 := by unfold one; split <;> simp
theorem one_size (t : Int) (d : ByteArray) : (fl (one t d)).size ≤ 2 + d.size ∧ (fl (one t d)).size ≤ 257 := by
  unfold one
  split
  · next h => rw [fl_size]; have : (fl []).size = 0 := rfl; omega
  · have : (fl []).size = 0 := rfl; omega
theorem fput_f (t : Int) (d : ByteArray) : ∃ b, frame_Put.f t d = some (fl (one t d), b) := by
  unfold frame_Put.f one
  by_cases h1 : t < 1
  · rw [if_pos h1, if_neg (by omega)]; exact ⟨_, rfl⟩
  rw [if_neg h1]
  by_cases h2 : t > 255
  · rw [if_pos h2, if_neg (by omega)]; exact ⟨_, rfl⟩
  rw [if_neg h2]
  by_cases h3 : (d.size : Int) > 255
  · rw [if_pos h3, if_neg (by omega)]; exact ⟨_, rfl⟩
  rw [if_neg h3, if_pos (by omega), Option.bind_some, size_nums, if_pos (by simp only [List.length_cons, List.length_nil]; omega), fl, Int.emod_eq_of_lt (by omega) (by omega), Int.emod_eq_of_lt (by omega) (by omega)]
  exact ⟨true, by rw [fl]; congr 2; exact (ByteArray.append_empty).symm⟩
theorem wput_f (xs : List Int) (t : Int) (d : ByteArray) (h : xs.length ≤ 1000000) : lean_writer_put.f xs t d = some (xs ++ bytesOf (fl (one t d))) := by
  unfold lean_writer_put.f
  obtain ⟨b, e⟩ := fput_f t d
  have := one_size t d
  rw [e, Option.bind_some, if_pos (by dsimp only; omega)]

/-- Bit m (the highest is 0) of a byte. -/
def bitAt (b : Int) (m : Nat) : Bool := b.toNat.testBit (7 - m)
/-- Bit i of a text. -/
def bit (s : ByteArray) (i : Int) : Bool := decide (0 ≤ i ∧ i < 8 * s.size) && bitAt (bt s (i / 8)) (i % 8).toNat
/-- The first m bits of a byte alone. -/
def kb (b : Int) (m : Int) : Int := if m ≤ 0 then 0 else if 8 ≤ m then b else b / 2 ^ (8 - m).toNat * 2 ^ (8 - m).toNat
/-- The first n bits of a text alone. -/
def keepL (s : ByteArray) (n : Int) : List Int := (List.range s.size).map fun (j : Nat) => kb (bt s j) (n - 8 * j)
def keep (s : ByteArray) (n : Int) : ByteArray := strOfNums (keepL s n)

theorem kb_mid : ∀ b : Fin 256, ∀ m : Fin 8, Go.bits .andNot .u8 ((b.val : Nat) : Int) (255 / 2 ^ m.val) = kb ((b.val : Nat) : Int) (m.val : Nat) := by decide +kernel
theorem kb_range_fin : ∀ b : Fin 256, ∀ m : Fin 9, 0 ≤ kb ((b.val : Nat) : Int) (m.val : Nat) ∧ kb ((b.val : Nat) : Int) (m.val : Nat) ≤ 255 := by decide +kernel
theorem kb_step_fin : ∀ b : Fin 256, ∀ m : Fin 8, kb ((b.val : Nat) : Int) ((m.val + 1 : Nat) : Int) = (kb ((b.val : Nat) : Int) (m.val : Nat) + if bitAt ((b.val : Nat) : Int) m.val = true then 2 ^ (7 - m.val) else 0) := by decide +kernel
theorem bit_div_fin : ∀ b : Fin 256, ∀ m : Fin 8, (Int.tmod (((b.val : Nat) : Int) / 2 ^ (7 - m.val)) 2 == 1) = bitAt ((b.val : Nat) : Int) m.val := by decide +kernel

/-- A byte, as one of 256. -/
theorem byte_fin {b : Int} (h : 0 ≤ b ∧ b ≤ 255) : ∃ x : Fin 256, b = ((x.val : Nat) : Int) := ⟨⟨b.toNat, by omega⟩, by simp; omega⟩
/-- How many of a byte's bits are kept, as one of 0 to 8. -/
theorem kb_clip (b m : Int) : ∃ q : Fin 9, kb b m = kb b (q.val : Nat) ∧ (q.val : Int) = max 0 (min 8 m) := by
  by_cases h0 : m ≤ 0
  · exact ⟨⟨0, by omega⟩, by unfold kb; rw [if_pos h0, if_pos (by simp)], by simp; omega⟩
  · by_cases h8 : 8 ≤ m
    · exact ⟨⟨8, by omega⟩, by unfold kb; rw [if_neg h0, if_pos h8, if_neg (by simp), if_pos (by simp)], by simp; omega⟩
    · exact ⟨⟨m.toNat, by omega⟩, by simp only [show ((m.toNat : Nat) : Int) = m by omega], by simp; omega⟩
theorem kb_range {b : Int} (h : 0 ≤ b ∧ b ≤ 255) (m : Int) : 0 ≤ kb b m ∧ kb b m ≤ 255 := by
  obtain ⟨x, rfl⟩ := byte_fin h
  obtain ⟨q, e, _⟩ := kb_clip ((x.val : Nat) : Int) m
  rw [e]; exact kb_range_fin x q
theorem keepL_length (s : ByteArray) (n : Int) : (keepL s n).length = s.size := by simp [keepL]
theorem keepL_getD (s : ByteArray) (n : Int) (j : Nat) (h : j < s.size) : (keepL s n).getD j 0 = kb (bt s j) (n - 8 * j) := by
  simp [keepL, List.getD_eq_getElem?_getD, List.getElem?_map, List.getElem?_range h]
theorem keepL_range (s : ByteArray) (n : Int) : ∀ x ∈ keepL s n, 0 ≤ x ∧ x ≤ 255 := by
  intro x hx
  simp only [keepL, List.mem_map] at hx
  obtain ⟨j, _, rfl⟩ := hx
  exact kb_range (bt_range s j) _
theorem keep_size (s : ByteArray) (n : Int) : (keep s n).size = s.size := by rw [keep, size_nums, keepL_length]
theorem bt_keep (s : ByteArray) (n : Int) (j : Nat) (h : j < s.size) : bt (keep s n) j = kb (bt s j) (n - 8 * j) := by
  rw [keep, bt_bytes _ (keepL_range s n), keepL_getD s n j h]
theorem and7 {n : Int} (h0 : 0 ≤ n) (h1 : n < 9223372036854775808) : Go.bits .and .i64 n 7 = n % 8 :=
  bits_mask .i64 63 (by decide) (fun m h0 h1 => by rw [IntKind.wrap_i64]; omega) 3 (by decide) n h0 (by simpa using h1)

theorem set_getD {l : List Int} {k j : Nat} (v : Int) (h : j < l.length) : (l.set k v).getD j 0 = if k = j then v else l.getD j 0 := by
  rw [List.getD_eq_getElem?_getD, List.getElem?_set]
  split
  · rename_i e; subst e; rw [if_pos h]; rfl
  · rw [List.getD_eq_getElem?_getD]
theorem rep_getD (m j : Nat) : (List.replicate m (0 : Int)).getD j 0 = 0 := by
  rw [List.getD_eq_getElem?_getD, List.getElem?_replicate]; split <;> rfl

def least (n : Int) : Int := if n < 0 then 0 else (n + 7) / 8
def cutP (a : ByteArray) (n : Int) : ByteArray := (keep a n).extract 0 (min (least n) a.size).toNat
def fillP (s : ByteArray) (n : Int) : ByteArray := s ++ strOfNums (List.replicate (n - s.size).toNat 0)
def LeadIs (a b : ByteArray) (r : Int) : Prop := 0 ≤ r ∧ r ≤ a.size ∧ r ≤ b.size ∧ (∀ j : Nat, (j : Int) < r → bt a j = bt b j) ∧ (r < a.size → r < b.size → bt a r ≠ bt b r)
theorem LeadIs.one {a b : ByteArray} {r q : Int} (h : LeadIs a b r) (k : LeadIs a b q) : r = q := by
  obtain ⟨h0, h1, h2, h3, h4⟩ := h
  obtain ⟨k0, k1, k2, k3, k4⟩ := k
  rcases Int.lt_trichotomy r q with c | c | c
  · have := k3 r.toNat (by omega)
    rw [show ((r.toNat : Nat) : Int) = r by omega] at this
    exact absurd this (h4 (by omega) (by omega))
  · exact c
  · have := h3 q.toNat (by omega)
    rw [show ((q.toNat : Nat) : Int) = q by omega] at this
    exact absurd this (k4 (by omega) (by omega))
theorem LeadIs.symm {a b : ByteArray} {r : Int} (h : LeadIs a b r) : LeadIs b a r := by
  obtain ⟨h0, h1, h2, h3, h4⟩ := h
  exact ⟨h0, h2, h1, fun j c => (h3 j c).symm, fun c d e => h4 d c e.symm⟩
theorem bt_fill (s : ByteArray) (n : Int) (i : Nat) : bt (fillP s n) i = if i < s.size then bt s i else 0 := by
  unfold fillP
  rw [bt_app _ _ _ (by omega)]
  by_cases c : i < s.size
  · rw [if_pos (by omega), if_pos c]
  · rw [if_neg (by omega), if_neg c, show (i : Int) - s.size = ((i - s.size : Nat) : Int) by omega, bt_bytes _ (lit_rep _), rep_getD]
theorem size_fill (s : ByteArray) (n : Int) : (fillP s n).size = s.size + (n - s.size).toNat := by
  unfold fillP; rw [size_app, size_nums, List.length_replicate]

theorem bits_Keep_f (s : ByteArray) (n : Int) (hs : s.size ≤ 1000000) (hn : -9223372036854775808 ≤ n) : bits_Keep.f s n = some (keep s n) := by
  unfold bits_Keep.f
  rw [if_pos (by omega)]
  by_cases h1 : 8 * (s.size : Int) ≤ n
  · rw [if_pos h1]
    congr 1
    refine ext_bt (by rw [keep_size]) fun j hj => ?_
    rw [bt_keep s n j hj]
    unfold kb; rw [if_neg (by omega), if_pos (by omega)]
  · rw [if_neg h1]
    by_cases h2 : n ≤ 0
    · rw [if_pos h2]
      congr 1
      refine ext_bt (by rw [keep_size, size_nums, List.length_replicate]) fun j hj => ?_
      rw [size_nums, List.length_replicate] at hj
      rw [bt_keep s n j hj, bt_bytes _ (lit_rep _)]
      unfold kb; rw [if_pos (by omega), rep_getD]
    · rw [if_neg h2]
      congr 1
      have hk0 : 0 ≤ n / 8 := by omega
      have hk1 : n / 8 < (s.size : Int) := by omega
      obtain ⟨k, hk⟩ : ∃ k : Nat, n / 8 = k := ⟨(n / 8).toNat, by omega⟩
      rw [hk, and7 (by omega) (by omega), u64_id (by omega) (by omega)]
      have hv : Go.bits .andNot .u8 (bt s k) (255 / 2 ^ min (n % 8).toNat 8) = kb (bt s k) (n - 8 * k) := by
        obtain ⟨x, hx⟩ := byte_fin (bt_range s k)
        rw [hx]
        have := kb_mid x ⟨(n % 8).toNat, by omega⟩
        simp only at this
        rw [show min (n % 8).toNat 8 = (n % 8).toNat by omega, this]
        congr 1; omega
      rw [hv, show ((k : Int)).toNat = k by omega]
      have he : (s.extract 0 k).size = k := by rw [size_ext]; omega
      rw [he]
      have hlen : (bytesOf (s.extract 0 k) ++ (List.replicate s.size (0 : Int)).drop k).length = s.size := by
        rw [List.length_append, len_bytesOf, he, List.length_drop, List.length_replicate]; omega
      have hgd : ∀ j, j < s.size → ((bytesOf (s.extract 0 k) ++ (List.replicate s.size (0 : Int)).drop k).set k (kb (bt s k) (n - 8 * k))).getD j 0 = kb (bt s j) (n - 8 * j) := by
        intro j hj
        rw [set_getD _ (by rw [hlen]; exact hj)]
        by_cases hkj : k = j
        · rw [if_pos hkj, hkj]
        · rw [if_neg hkj]
          by_cases hlt : j < k
          · rw [List.getD_eq_getElem?_getD, List.getElem?_append_left (by rw [len_bytesOf, he]; exact hlt), ← List.getD_eq_getElem?_getD, bytesOf_getD, bt_ext _ _ _ _ (by omega), if_pos (by omega)]
            unfold kb; rw [if_neg (by omega), if_pos (by omega)]; congr 1; omega
          · rw [List.getD_eq_getElem?_getD, List.getElem?_append_right (by rw [len_bytesOf, he]; omega), List.drop_replicate, ← List.getD_eq_getElem?_getD, rep_getD]
            unfold kb; rw [if_pos (by omega)]
      have hrange : ∀ x ∈ (bytesOf (s.extract 0 k) ++ (List.replicate s.size (0 : Int)).drop k).set k (kb (bt s k) (n - 8 * k)), 0 ≤ x ∧ x ≤ 255 := by
        intro x hx
        obtain ⟨j, hj, rfl⟩ := List.getElem_of_mem hx
        have := hgd j (by rw [List.length_set, hlen] at hj; exact hj)
        rw [List.getD_eq_getElem?_getD, List.getElem?_eq_getElem hj] at this
        simp only [Option.getD_some] at this
        rw [this]; exact kb_range (bt_range s j) _
      refine ext_bt (by rw [keep_size, size_nums, List.length_set, hlen]) fun j hj => ?_
      rw [size_nums, List.length_set, hlen] at hj
      rw [bt_keep s n j hj, bt_bytes _ hrange, hgd j hj]

theorem bits_Clean_f (s : ByteArray) (n : Int) (hs : s.size ≤ 1000000) (hn : -9223372036854775808 ≤ n) : bits_Clean.f s n = some (decide (keep s n = s)) := by
  unfold bits_Clean.f
  rw [bits_Keep_f s n hs hn, Option.bind_some]
  congr 1
  rw [Bool.eq_iff_iff, beq_iff_eq, decide_eq_true_iff, toList_inj]

theorem prefix_Least_f (n : Int) (hn : n ≤ 1099511627776) : prefix_Least.f n = some (least n) := by
  unfold prefix_Least.f least mx
  congr 1
  by_cases h : n < 0
  · rw [if_pos h, if_pos h, wrap64_id (by decide) (by decide)]; rfl
  · rw [if_neg h, if_neg h, wrap64_id (by omega) (by omega)]
theorem prefix_Cut_f (a : ByteArray) (n : Int) (hn : n ≤ 1099511627776) (hn' : -9223372036854775808 ≤ n) (hs : a.size ≤ 1000000) : prefix_Cut.f a n = some (cutP a n) := by
  unfold prefix_Cut.f cutP
  rw [prefix_Least_f n hn, Option.bind_some]
  have e : mn (least n) (a.size : Int) = min (least n) a.size := by unfold mn; split <;> omega
  have hl : 0 ≤ least n := by unfold least; split <;> omega
  rw [e, if_pos (by omega), if_pos (by omega), bits_Keep_f _ n (by rw [size_ext]; omega) hn', Option.bind_some]
  congr 1
  refine ext_bt (by rw [keep_size, size_ext, size_ext, keep_size]) fun j hj => ?_
  rw [keep_size, size_ext] at hj
  rw [bt_keep _ _ _ (by rw [size_ext]; omega), bt_ext _ _ _ _ (by omega), bt_ext _ _ _ _ (by omega), if_pos (by omega), if_pos (by rw [keep_size]; omega)]
  have := bt_keep a n j (by omega)
  rw [show ((0 : Nat) : Int) + (j : Int) = j by omega, this]

/-- So many first bits are alike, and one more isn't (where both have one more). -/
def IsAlike (s t : ByteArray) (r : Int) : Prop := 0 ≤ r ∧ r ≤ 8 * s.size ∧ r ≤ 8 * t.size ∧ (∀ i, 0 ≤ i → i < r → bit s i = bit t i) ∧ (r < 8 * s.size → r < 8 * t.size → bit s r ≠ bit t r)
theorem IsAlike.one {s t : ByteArray} {r q : Int} (h : IsAlike s t r) (k : IsAlike s t q) : r = q := by
  obtain ⟨h0, h1, h2, h3, h4⟩ := h
  obtain ⟨k0, k1, k2, k3, k4⟩ := k
  rcases Int.lt_trichotomy r q with c | c | c
  · exact absurd (k3 r h0 c) (h4 (by omega) (by omega))
  · exact c
  · exact absurd (h3 q k0 c) (k4 (by omega) (by omega))
theorem IsAlike.symm {s t : ByteArray} {r : Int} (h : IsAlike s t r) : IsAlike t s r := by
  obtain ⟨h0, h1, h2, h3, h4⟩ := h
  exact ⟨h0, h2, h1, fun i a b => (h3 i a b).symm, fun a b c => h4 b a c.symm⟩

theorem xor_nat {a b : Int} (ha : 0 ≤ a ∧ a ≤ 255) (hb : 0 ≤ b ∧ b ≤ 255) : Go.bits .xor .u8 a b = ((a.toNat ^^^ b.toNat : Nat) : Int) := by
  obtain ⟨x, rfl⟩ : ∃ x : Nat, a = x := ⟨a.toNat, by omega⟩
  obtain ⟨y, rfl⟩ : ∃ y : Nat, b = y := ⟨b.toNat, by omega⟩
  have hx : x % 2 ^ IntKind.u8.bits = x := Nat.mod_eq_of_lt (by simp [IntKind.bits]; omega)
  have hy : y % 2 ^ IntKind.u8.bits = y := Nat.mod_eq_of_lt (by simp [IntKind.bits]; omega)
  have hz : x ^^^ y < 2 ^ 8 := Nat.xor_lt_two_pow (by omega) (by omega)
  simp only [Go.bits, BitVec.ofInt_natCast, BitVec.toNat_xor, BitVec.toNat_ofNat, hx, hy, Int.toNat_natCast]
  exact wraps_u8 _ (by omega) (by omega)
theorem lead_top : ∀ x : Fin 256, x.val ≠ 0 → 1 ≤ Lib.bitLen x.val ∧ Lib.bitLen x.val ≤ 8 ∧ x.val.testBit (Lib.bitLen x.val - 1) = true := by decide +kernel
theorem lead_rest : ∀ x : Fin 256, ∀ j : Fin 8, Lib.bitLen x.val ≤ j.val → x.val.testBit j.val = false := by decide +kernel

theorem bits_Alike_l (s t : ByteArray) (hs : s.size ≤ 1000000) (ht : t.size ≤ 1000000) (M : Int) (hM : M = min (s.size : Int) t.size) (m : Nat) :
    ∀ (k : Nat) (i : Int), m < k → 0 ≤ i → M - i = m → (∀ j : Int, 0 ≤ j → j < i → bt s j = bt t j) → ∃ r, bits_Alike.l0 k s t M i = some r ∧ IsAlike s t r := by
  have low : ∀ i : Int, i ≤ M → (∀ j : Int, 0 ≤ j → j < i → bt s j = bt t j) → ∀ q, 0 ≤ q → q < 8 * i → bit s q = bit t q := by
    intro i hi h q h0 h1
    unfold bit
    rw [h (q / 8) (by omega) (by omega), decide_eq_true (by omega), decide_eq_true (by omega)]
  induction m with
  | zero =>
    intro k i hk h0 hm hz
    obtain ⟨k, rfl⟩ : ∃ j, k = j + 1 := ⟨k - 1, by omega⟩
    simp only [bits_Alike.l0]
    have e : mn (s.size : Int) (t.size : Int) = M := by rw [hM]; unfold mn; split <;> omega
    rw [if_neg (by omega), e, wrap64_id (by omega) (by omega)]
    exact ⟨_, rfl, by omega, by omega, by omega, low M (by omega) (fun j a b => hz j a (by omega)), fun a b => by omega⟩
  | succ m ih =>
    intro k i hk h0 hm hz
    obtain ⟨k, rfl⟩ : ∃ j, k = j + 1 := ⟨k - 1, by omega⟩
    simp only [bits_Alike.l0]
    rw [if_pos (by omega), if_pos h0, if_pos (by omega), if_pos (by omega)]
    have ra := bt_range s i
    have rb := bt_range t i
    rw [xor_nat ra rb]
    have hx256 : (bt s i).toNat ^^^ (bt t i).toNat < 256 := Nat.xor_lt_two_pow (n := 8) (by omega) (by omega)
    obtain ⟨x, hx⟩ : ∃ x : Fin 256, x.val = (bt s i).toNat ^^^ (bt t i).toNat := ⟨⟨_, hx256⟩, rfl⟩
    rw [← hx]
    by_cases hz0 : x.val = 0
    · rw [if_pos (by omega), wrap64_id (by omega) (by omega)]
      refine ih k (i + 1) (by omega) (by omega) (by omega) fun j a b => ?_
      by_cases hj : j = i
      · subst hj
        have : (bt s j).toNat = (bt t j).toNat := by
          have h := hx.symm.trans hz0
          apply Nat.eq_of_testBit_eq
          intro q
          have h2 := Nat.testBit_xor (bt s j).toNat (bt t j).toNat q
          rw [h, Nat.zero_testBit] at h2
          simpa using h2.symm
        omega
      · exact hz j a (by omega)
    · rw [if_neg (by omega)]
      obtain ⟨l1, l8, ltop⟩ := lead_top x hz0
      have hb : bits_LeadingZeros8.f ((x.val : Nat) : Int) = some (8 - (Lib.bitLen x.val : Int)) := by
        unfold bits_LeadingZeros8.f bits_Len8.f
        rw [if_pos (by omega), Option.bind_some, wrap64_id (by simp; omega) (by simp; omega)]
        simp
      rw [hb, Option.bind_some, wrap64_id (x := 8 * i) (by omega) (by omega), wrap64_id (by omega) (by omega)]
      have tb : ∀ j, x.val.testBit j = ((bt s i).toNat.testBit j ^^ (bt t i).toNat.testBit j) := by intro j; rw [hx, Nat.testBit_xor]
      refine ⟨_, rfl, by omega, by omega, by omega, ?_, ?_⟩
      · intro q q0 q1
        by_cases hq : q < 8 * i
        · exact low i (by omega) hz q q0 hq
        · unfold bit
          rw [show q / 8 = i by omega, decide_eq_true (by omega), decide_eq_true (by omega), Bool.true_and, Bool.true_and]
          unfold bitAt
          have h := lead_rest x ⟨7 - (q % 8).toNat, by omega⟩ (by simp; omega)
          simp only at h
          rw [tb] at h
          simpa using h
      · intro _ _
        unfold bit
        rw [show (8 * i + (8 - (Lib.bitLen x.val : Int))) / 8 = i by omega, decide_eq_true (by omega), decide_eq_true (by omega), Bool.true_and, Bool.true_and]
        unfold bitAt
        rw [show (8 * i + (8 - (Lib.bitLen x.val : Int))) % 8 = 8 - (Lib.bitLen x.val : Int) by omega, show 7 - (8 - (Lib.bitLen x.val : Int)).toNat = Lib.bitLen x.val - 1 by omega]
        rw [tb] at ltop
        simpa using ltop

/-- How many first bits are alike. -/
theorem alike_ex (s t : ByteArray) (hs : s.size ≤ 1000000) (ht : t.size ≤ 1000000) : ∃ r, IsAlike s t r ∧ ∀ k, s.size < k → bits_Alike.f k s t = some r := by
  have e : mn (s.size : Int) (t.size : Int) = min (s.size : Int) t.size := by unfold mn; split <;> omega
  obtain ⟨r, h, ha⟩ := bits_Alike_l s t hs ht _ rfl (min (s.size : Int) t.size).toNat (s.size + 1) 0 (by omega) (by omega) (by omega) (fun j _ _ => by omega)
  refine ⟨r, ha, fun k hk => ?_⟩
  unfold bits_Alike.f
  rw [e]
  obtain ⟨q, h', hq⟩ := bits_Alike_l s t hs ht _ rfl (min (s.size : Int) t.size).toNat k 0 (by omega) (by omega) (by omega) (fun j _ _ => by omega)
  rw [h', hq.one ha]

theorem byte_eq {a b : Int} (ha : 0 ≤ a ∧ a ≤ 255) (hb : 0 ≤ b ∧ b ≤ 255) (h : ∀ m, m < 8 → bitAt a m = bitAt b m) : a = b := by
  have : a.toNat = b.toNat := by
    apply Nat.eq_of_testBit_eq
    intro i
    by_cases hi : i < 8
    · have := h (7 - i) (by omega)
      unfold bitAt at this
      rwa [show 7 - (7 - i) = i by omega] at this
    · rw [Nat.testBit_lt_two_pow (Nat.lt_of_lt_of_le (show a.toNat < 2 ^ 8 by omega) (Nat.pow_le_pow_right (by decide) (by omega))), Nat.testBit_lt_two_pow (Nat.lt_of_lt_of_le (show b.toNat < 2 ^ 8 by omega) (Nat.pow_le_pow_right (by decide) (by omega)))]
  omega
theorem lead_of_alike {a b : ByteArray} {q : Int} (h : IsAlike a b q) : LeadIs a b (q / 8) := by
  obtain ⟨h0, h1, h2, h3, h4⟩ := h
  refine ⟨by omega, by omega, by omega, fun j hj => ?_, fun c d e => ?_⟩
  · refine byte_eq (bt_range a j) (bt_range b j) fun m hm => ?_
    have := h3 (8 * j + m) (by omega) (by omega)
    unfold bit at this
    rw [decide_eq_true (by omega), decide_eq_true (by omega), Bool.true_and, Bool.true_and, show (8 * (j : Int) + m) / 8 = j by omega, show (8 * (j : Int) + m) % 8 = m by omega] at this
    exact this
  · refine h4 (by omega) (by omega) ?_
    unfold bit
    rw [decide_eq_true (by omega), decide_eq_true (by omega), e]
theorem prefix_Lead_ex (a b : ByteArray) (ha : a.size ≤ 1000000) (hb : b.size ≤ 1000000) : ∃ r, LeadIs a b r ∧ ∀ k, a.size < k → prefix_Lead.f k a b = some r := by
  obtain ⟨q, hq, hf⟩ := alike_ex a b ha hb
  refine ⟨q / 8, lead_of_alike hq, fun k hk => ?_⟩
  unfold prefix_Lead.f
  rw [hf k hk, Option.bind_some]

theorem rd_mem_80 {l : List S80} {P : S80 → Prop} (h : ∀ j : Nat, j < l.length → P (rd_T80 l (j : Int))) : ∀ x ∈ l, P x := by
  intro x hx
  obtain ⟨j, hj, rfl⟩ := List.getElem_of_mem hx
  have := h j hj
  unfold rd_T80 at this
  rwa [Int.toNat_natCast, List.getD_eq_getElem?_getD, List.getElem?_eq_getElem hj] at this
theorem rd_mem_78 {l : List S78} {P : S78 → Prop} (h : ∀ j : Nat, j < l.length → P (rd_T78 l (j : Int))) : ∀ x ∈ l, P x := by
  intro x hx
  obtain ⟨j, hj, rfl⟩ := List.getElem_of_mem hx
  have := h j hj
  unfold rd_T78 at this
  rwa [Int.toNat_natCast, List.getD_eq_getElem?_getD, List.getElem?_eq_getElem hj] at this

/-- A Sub whose type lies within bounds, and whose bytes are few. -/
def okR (lo hi : Int) (x : S80) : Prop := lo ≤ x.f0 ∧ x.f0 ≤ hi ∧ x.f1.size ≤ 255
instance (lo hi : Int) (x : S80) : Decidable (okR lo hi x) := by unfold okR; infer_instance
theorem drop_rd {l : List S80} {i : Nat} (h : i < l.length) : l.drop i = rd_T80 l (i : Int) :: l.drop (i + 1) := by
  unfold rd_T80
  rw [Int.toNat_natCast, List.drop_eq_getElem_cons h, List.getD_eq_getElem?_getD, List.getElem?_eq_getElem h]; rfl
/-- The bytes of Subs. -/
def bytesS : List S80 → Nat
  | [] => 0
  | x :: l => 2 + x.f1.size + bytesS l
theorem subs_loop (lo hi : Int) (l : List S80) (hl : l.length ≤ 1000000) (m : Nat) : ∀ (k i : Nat), m < k → l.length - i = m → i ≤ l.length →
    msg_Subs.l0 k lo hi l (l.length : Int) i = some (decide (∀ x ∈ l.drop i, okR lo hi x)) := by
  induction m with
  | zero =>
    intro k i hk hm hin
    obtain ⟨k, rfl⟩ : ∃ j, k = j + 1 := ⟨k - 1, by omega⟩
    simp only [msg_Subs.l0]
    rw [if_neg (by omega), List.drop_eq_nil_of_le (by omega)]
    simp
  | succ m ih =>
    intro k i hk hm hin
    obtain ⟨k, rfl⟩ : ∃ j, k = j + 1 := ⟨k - 1, by omega⟩
    simp only [msg_Subs.l0]
    rw [if_pos (by omega), if_pos (by omega), if_pos (by omega), wrap64_id (x := (i : Int) + 1) (by omega) (by omega)]
    have := ih k (i + 1) (by omega) (by omega) (by omega)
    rw [show ((i : Int) + 1) = ((i + 1 : Nat) : Int) by omega, this, drop_rd (i := i) (by omega)]
    generalize rd_T80 l (i : Int) = x
    have e : (∀ y ∈ x :: l.drop (i + 1), okR lo hi y) ↔ okR lo hi x ∧ ∀ y ∈ l.drop (i + 1), okR lo hi y := by simp
    by_cases c1 : x.f0 < lo
    · rw [if_pos c1, decide_eq_false (fun h => by have := (e.mp h).1; unfold okR at this; omega)]
    by_cases c2 : x.f0 > hi
    · rw [if_neg c1, if_pos c2, decide_eq_false (fun h => by have := (e.mp h).1; unfold okR at this; omega)]
    by_cases c3 : (x.f1.size : Int) > 255
    · rw [if_neg c1, if_neg c2, if_pos c3, decide_eq_false (fun h => by have := (e.mp h).1; unfold okR at this; omega)]
    rw [if_neg c1, if_neg c2, if_neg c3]
    have ok : okR lo hi x := by unfold okR; omega
    congr 1
    rw [decide_eq_decide, e]
    exact ⟨fun h => ⟨ok, h⟩, fun h => h.2⟩
theorem psubs_f (l : List S80) (lo hi : Int) (hl : l.length ≤ 1000000) (k : Nat) (hk : l.length < k) : msg_Subs.f k l lo hi = some (decide (∀ x ∈ l, okR lo hi x)) := by
  unfold msg_Subs.f
  have := subs_loop lo hi l hl l.length k 0 hk (by omega) (by omega)
  rw [List.drop_zero] at this
  exact this
theorem bytes_loop (l : List S80) (hl : l.length ≤ 1000000) (hs : ∀ x ∈ l, x.f1.size ≤ 1000) (m : Nat) : ∀ (k i : Nat) (a : Int), m < k → l.length - i = m → i ≤ l.length → 0 ≤ a → a ≤ 1002 * i →
    msg_Bytes.l0 k a l (l.length : Int) i = some (a + bytesS (l.drop i)) := by
  induction m with
  | zero =>
    intro k i a hk hm hi h0 h1
    obtain ⟨k, rfl⟩ : ∃ j, k = j + 1 := ⟨k - 1, by omega⟩
    simp only [msg_Bytes.l0]
    rw [if_neg (by omega), List.drop_eq_nil_of_le (by omega)]
    simp [bytesS]
  | succ m ih =>
    intro k i a hk hm hi h0 h1
    obtain ⟨k, rfl⟩ : ∃ j, k = j + 1 := ⟨k - 1, by omega⟩
    simp only [msg_Bytes.l0]
    have hx : (rd_T80 l (i : Int)).f1.size ≤ 1000 := hs _ (List.mem_of_mem_drop (i := i) (by rw [drop_rd (i := i) (by omega)]; simp))
    rw [if_pos (by omega), if_pos (by omega), if_pos (by omega), wrap64_id (x := (i : Int) + 1) (by omega) (by omega)]
    rw [drop_rd (i := i) (by omega)]
    generalize rd_T80 l (i : Int) = x at hx
    rw [wrap64_id (x := 2 + (x.f1.size : Int)) (by omega) (by omega), wrap64_id (by omega) (by omega)]
    have := ih k (i + 1) (a + (2 + (x.f1.size : Int))) (by omega) (by omega) (by omega) (by omega) (by omega)
    rw [show ((i : Int) + 1) = ((i + 1 : Nat) : Int) by omega, this, bytesS]
    congr 1; omega
theorem pbytes_f (l : List S80) (hl : l.length ≤ 1000000) (hs : ∀ x ∈ l, x.f1.size ≤ 1000) (k : Nat) (hk : l.length < k) : msg_Bytes.f k l = some (bytesS l : Int) := by
  unfold msg_Bytes.f
  have := bytes_loop l hl hs l.length k 0 0 hk (by omega) (by omega) (by omega) (by omega)
  rw [List.drop_zero] at this
  rw [show ((0 : Nat) : Int) = 0 from rfl] at this
  rw [this]; congr 1; omega

/-- The lowest so many bytes of a number, the highest first. -/
def dig : Nat → Int → List Int
  | 0, _ => []
  | s + 1, n => dig s (n / 256) ++ [n % 256]
theorem dig_length (s : Nat) (n : Int) : (dig s n).length = s := by
  induction s generalizing n with
  | zero => rfl
  | succ s ih => simp [dig, ih]
def octFits (n size : Int) : Bool := decide (1 ≤ size ∧ size ≤ 7 ∧ 0 ≤ n ∧ n < 256 ^ size.toNat)
def octPut (n size : Int) : ByteArray × Bool := if octFits n size = true then (strOfNums (dig size.toNat n), true) else (⟨#[]⟩, false)
theorem octFits_iff {n size : Int} : octFits n size = true ↔ (1 ≤ size ∧ size ≤ 7 ∧ 0 ≤ n ∧ n < 256 ^ size.toNat) := by simp [octFits]

theorem div_eq_zero_iff {n : Int} {m : Nat} (h : 0 ≤ n) (hm : 0 < (2 : Int) ^ m) : (n / 2 ^ m = 0) ↔ n < 2 ^ m := by
  constructor
  · intro e
    have := Int.lt_mul_ediv_self_add (x := n) (k := 2 ^ m) hm
    rw [e] at this; omega
  · intro e; exact Int.ediv_eq_zero_of_lt h e

theorem pow_le7 (m : Nat) (h : m ≤ 7) : (256 : Int) ^ m ≤ 72057594037927936 := by
  have : m = 0 ∨ m = 1 ∨ m = 2 ∨ m = 3 ∨ m = 4 ∨ m = 5 ∨ m = 6 ∨ m = 7 := by omega
  rcases this with rfl | rfl | rfl | rfl | rfl | rfl | rfl | rfl <;> decide

theorem octet_Fits_f (n size : Int) (hn : -9223372036854775808 ≤ n) (hn' : n ≤ 9223372036854775807) : octet_Fits.f n size = some (octFits n size) := by
  unfold octet_Fits.f octFits
  by_cases h1 : 1 ≤ size
  · rw [if_pos h1]
    by_cases h2 : size ≤ 7
    · rw [if_pos h2]
      by_cases h3 : 0 ≤ n
      · rw [if_pos h3]
        have e : IntKind.u64.wrap (wrap64 (8 * size)) = 8 * size := by rw [wrap64_id (by omega) (by omega), u64_id (by omega) (by omega)]
        rw [e, if_pos (by omega)]
        congr 1
        unfold shr
        have e2 : min (8 * size).toNat IntKind.i64.bits = 8 * size.toNat := by simp [IntKind.bits]; omega
        rw [e2, Bool.eq_iff_iff, beq_iff_eq, decide_eq_true_iff, div_eq_zero_iff h3 (Int.pow_pos (by decide))]
        have e3 : (2 : Int) ^ (8 * size.toNat) = 256 ^ size.toNat := by rw [Int.pow_mul]; rfl
        rw [e3]
        exact ⟨fun h => ⟨h1, h2, h3, h⟩, fun h => h.2.2.2⟩
      · rw [if_neg h3, decide_eq_false (fun h => h3 h.2.2.1)]
    · rw [if_neg h2, decide_eq_false (fun h => h2 h.2.1)]
  · rw [if_neg h1, decide_eq_false (fun h => h1 h.1)]

theorem drop_set_self (l : List Int) (m : Nat) (v : Int) (h : m < l.length) : (l.set m v).drop m = [v] ++ l.drop (m + 1) := by
  apply List.ext_getElem?
  intro i
  rw [List.getElem?_drop, List.getElem?_set]
  cases i with
  | zero => simp [h]
  | succ i => rw [if_neg (by omega)]; simp; congr 1; omega

theorem octet_Put_l (m : Nat) : ∀ (k : Nat) (x : Int) (l : List Int), m < k → m ≤ l.length → m ≤ 100 →
    octet_Put.l0 k x l ((m : Int) - 1) = some (strOfNums (dig m x ++ l.drop m), true) := by
  induction m with
  | zero =>
    intro k x l hk hl _
    obtain ⟨k, rfl⟩ : ∃ j, k = j + 1 := ⟨k - 1, by omega⟩
    simp only [octet_Put.l0]; rw [if_neg (by omega)]; rfl
  | succ m ih =>
    intro k x l hk hl hm
    obtain ⟨k, rfl⟩ : ∃ j, k = j + 1 := ⟨k - 1, by omega⟩
    simp only [octet_Put.l0]
    rw [if_pos (by omega), if_pos (by omega), if_pos (by omega)]
    have e1 : (((m + 1 : Nat) : Int) - 1) = m := by omega
    rw [e1, wrap64_id (by omega) (by omega)]
    have e2 : ((m : Int)).toNat = m := by omega
    rw [e2, ih k (x / 256) (l.set m (x % 256)) (by omega) (by simp; omega) (by omega)]
    congr 3
    rw [dig, List.append_assoc]
    congr 1
    exact drop_set_self l m (x % 256) (by omega)

theorem octet_Put_f (n size : Int) (hn : -9223372036854775808 ≤ n) (hn' : n ≤ 9223372036854775807) (k : Nat) (hk : 8 < k) : octet_Put.f k n size = some (octPut n size) := by
  unfold octet_Put.f octPut
  rw [octet_Fits_f n size hn hn', Option.bind_some]
  by_cases h : octFits n size = true
  · have h' := octFits_iff.mp h
    rw [if_pos h, if_pos h, if_pos (by omega), if_pos (by omega), wrap64_id (by omega) (by omega)]
    have e := octet_Put_l size.toNat k n (List.replicate size.toNat 0) (by omega) (by simp) (by omega)
    have e1 : ((size.toNat : Int) - 1) = size - 1 := by omega
    rw [e1] at e
    rw [e, List.drop_of_length_le (by simp), List.append_nil]
  · rw [if_neg h, if_neg h]

def LinkIs (a : ByteArray) : Prop := a.size = 16 ∧ a.extract 0 8 = (⟨#[254, 128, 0, 0, 0, 0, 0, 0]⟩ : ByteArray)
theorem link_ex (a : ByteArray) : ∃ r, addr_Link.f a = some r ∧ (r = true → LinkIs a) := by
  unfold addr_Link.f
  by_cases c : (a.size : Int) = 16
  · have z : ((⟨#[254, 128, 0, 0, 0, 0, 0, 0]⟩ : ByteArray).size : Int) = 8 := by decide
    unfold strings_HasPrefix.f stringslite_HasPrefix.f
    rw [if_pos c, if_pos (by rw [z]; omega), if_pos (by rw [z]; omega), if_pos (by rw [z]; omega), Option.bind_some, Option.bind_some]
    refine ⟨_, rfl, fun h => ⟨by omega, ?_⟩⟩
    rw [beq_iff_eq, toList_inj, z] at h
    exact h
  · rw [if_neg c]; exact ⟨false, rfl, fun h => (by cases h)⟩
theorem short_ex (a : ByteArray) : ∃ s b, addr_Short.f a = some (s, b) ∧ s.size ≤ a.size := by
  unfold addr_Short.f
  obtain ⟨r, e, h⟩ := link_ex a
  rw [e, Option.bind_some]
  cases r with
  | false => rw [if_neg Bool.false_ne_true]; exact ⟨_, _, rfl, Nat.zero_le _⟩
  | true =>
    have := (h rfl).1
    rw [if_pos rfl, if_pos (by omega)]
    exact ⟨_, _, rfl, by rw [size_ext]; omega⟩
theorem sright_f (l : List S80) (hl : l.length ≤ 60) (hs : ∀ x ∈ l, x.f1.size ≤ 300) (k : Nat) (hk : 60 < k) : ∃ r, sub_Right.f k l = some r ∧ (r = true → (∀ x ∈ l, okR 2 127 x) ∧ bytesS l ≤ 200) := by
  unfold sub_Right.f
  rw [psubs_f l 2 127 (by omega) k (by omega), Option.bind_some]
  by_cases c : ∀ x ∈ l, okR 2 127 x
  · rw [if_pos (decide_eq_true c), pbytes_f l (by omega) (fun x hx => Nat.le_trans (hs x hx) (by decide)) k (by omega), Option.bind_some]
    exact ⟨_, rfl, fun h => ⟨c, by have := of_decide_eq_true h; omega⟩⟩
  · rw [if_neg (by rw [decide_eq_true_iff]; exact c)]
    exact ⟨false, rfl, fun h => (by cases h)⟩
theorem sput_l (l : List S80) (hl : l.length ≤ 60) (m : Nat) : ∀ (k i : Nat) (acc : List Int), m < k → l.length - i = m → i ≤ l.length → acc.length + bytesS (l.drop i) ≤ 200 → ∃ s, sub_Put.l0 k acc l (l.length : Int) i = some (s, true) ∧ s.size ≤ 200 := by
  induction m with
  | zero =>
    intro k i acc hk hm hi ha
    obtain ⟨k, rfl⟩ : ∃ j, k = j + 1 := ⟨k - 1, by omega⟩
    rw [sub_Put.l0, if_neg (by omega)]
    exact ⟨_, rfl, by rw [size_nums]; omega⟩
  | succ m ih =>
    intro k i acc hk hm hi ha
    obtain ⟨k, rfl⟩ : ∃ j, k = j + 1 := ⟨k - 1, by omega⟩
    rw [drop_rd (by omega), bytesS] at ha
    obtain ⟨b, e⟩ := fput_f (rd_T80 l (i : Int)).f0 (rd_T80 l (i : Int)).f1
    have z := one_size (rd_T80 l (i : Int)).f0 (rd_T80 l (i : Int)).f1
    rw [sub_Put.l0, if_pos (by omega), if_pos (by omega), if_pos (by omega), e, Option.bind_some, if_pos (by dsimp only; omega), wrap64_id (by omega) (by omega)]
    exact ih k (i + 1) _ (by omega) (by omega) (by omega) (by rw [List.length_append, len_bytesOf]; dsimp only; omega)
theorem sput_ex (l : List S80) (hl : l.length ≤ 60) (hs : ∀ x ∈ l, x.f1.size ≤ 300) (k : Nat) (hk : 60 < k) : ∃ s b, sub_Put.f k l = some (s, b) ∧ s.size ≤ 200 := by
  unfold sub_Put.f
  obtain ⟨r, e, h⟩ := sright_f l hl hs k hk
  rw [e, Option.bind_some]
  cases r with
  | false => rw [if_neg Bool.false_ne_true]; exact ⟨_, _, rfl, Nat.zero_le _⟩
  | true =>
    rw [if_pos rfl]
    obtain ⟨s, e, h⟩ := sput_l l hl l.length k 0 [] (by omega) (by omega) (by omega) (by rw [List.drop_zero]; exact Nat.le_trans (Nat.le_of_eq (Nat.zero_add _)) (h rfl).2)
    exact ⟨s, true, e, h⟩
/-- A prefix in an encoding. -/
def InOk (ae : Int) (a : ByteArray) (n : Int) : Prop := keep a n = a ∧ ((ae = 0 ∧ a.size = 0 ∧ n = 0) ∨ (ae = 1 ∧ a.size = 4 ∧ 0 ≤ n ∧ n ≤ 32) ∨ (ae = 2 ∧ a.size = 16 ∧ 0 ≤ n ∧ n ≤ 128) ∨ (ae = 3 ∧ a.size = 16 ∧ 64 ≤ n ∧ n ≤ 128 ∧ LinkIs a))
theorem inc_ex (sz lo hi ae : Int) (a : ByteArray) (n : Int) (hs : a.size ≤ 1000000) (hn : -9223372036854775808 ≤ n) : ∃ r, route_In.c sz lo hi ae a n = some r ∧ (r = true → (a.size : Int) = sz ∧ lo ≤ n ∧ n ≤ hi ∧ keep a n = a ∧ (ae = 3 → LinkIs a)) := by
  unfold route_In.c
  by_cases c1 : (a.size : Int) = sz
  rotate_left
  · rw [if_neg c1]; exact ⟨false, rfl, fun h => (by cases h)⟩
  rw [if_pos c1]
  by_cases c2 : n ≥ lo
  rotate_left
  · rw [if_neg c2]; exact ⟨false, rfl, fun h => (by cases h)⟩
  rw [if_pos c2]
  by_cases c3 : n ≤ hi
  rotate_left
  · rw [if_neg c3]; exact ⟨false, rfl, fun h => (by cases h)⟩
  rw [if_pos c3, bits_Clean_f a n hs hn, Option.bind_some]
  by_cases c4 : keep a n = a
  rotate_left
  · rw [if_neg (by rw [decide_eq_true_iff]; exact c4)]; exact ⟨false, rfl, fun h => (by cases h)⟩
  rw [if_pos (decide_eq_true c4)]
  by_cases c5 : ae = 3
  · rw [if_pos c5]
    obtain ⟨r, e, h⟩ := link_ex a
    rw [e, Option.bind_some]
    exact ⟨r, rfl, fun hr => ⟨c1, c2, c3, c4, fun _ => h hr⟩⟩
  · rw [if_neg c5]; exact ⟨true, rfl, fun _ => ⟨c1, c2, c3, c4, fun h => absurd h c5⟩⟩
theorem in_ex (ae : Int) (a : ByteArray) (n : Int) (hs : a.size ≤ 1000000) (hn : -9223372036854775808 ≤ n) : ∃ r, route_In.f ae a n = some r ∧ (r = true → InOk ae a n) := by
  unfold route_In.f
  by_cases c0 : ae < 0
  · rw [if_pos c0]; exact ⟨false, rfl, fun h => (by cases h)⟩
  rw [if_neg c0]
  by_cases c1 : ae > 3
  · rw [if_pos c1]; exact ⟨false, rfl, fun h => (by cases h)⟩
  rw [if_neg c1]
  by_cases d0 : ae = 0
  · rw [if_pos d0]
    obtain ⟨r, e, h⟩ := inc_ex 0 0 0 ae a n hs hn
    exact ⟨r, e, fun hr => ⟨(h hr).2.2.2.1, Or.inl ⟨d0, by have := (h hr).1; omega, by have := (h hr).2.1; have := (h hr).2.2.1; omega⟩⟩⟩
  rw [if_neg d0]
  by_cases d1 : ae = 1
  · rw [if_pos d1]
    obtain ⟨r, e, h⟩ := inc_ex 4 0 32 ae a n hs hn
    exact ⟨r, e, fun hr => ⟨(h hr).2.2.2.1, Or.inr (Or.inl ⟨d1, by have := (h hr).1; omega, (h hr).2.1, (h hr).2.2.1⟩)⟩⟩
  rw [if_neg d1]
  by_cases d2 : ae = 2
  · rw [if_pos d2]
    obtain ⟨r, e, h⟩ := inc_ex 16 0 128 ae a n hs hn
    exact ⟨r, e, fun hr => ⟨(h hr).2.2.2.1, Or.inr (Or.inr (Or.inl ⟨d2, by have := (h hr).1; omega, (h hr).2.1, (h hr).2.2.1⟩))⟩⟩
  rw [if_neg d2]
  obtain ⟨r, e, h⟩ := inc_ex 16 64 128 ae a n hs hn
  exact ⟨r, e, fun hr => ⟨(h hr).2.2.2.1, Or.inr (Or.inr (Or.inr ⟨by omega, by have := (h hr).1; omega, (h hr).2.1, (h hr).2.2.1, (h hr).2.2.2.2 (by omega)⟩))⟩⟩
theorem fits_ex (n s : Int) (h : -9223372036854775808 ≤ n ∧ n ≤ 9223372036854775807) : ∃ r, octet_Fits.f n s = some r := ⟨_, octet_Fits_f n s h.1 h.2⟩
theorem two_l (l : List Int) (hl : l.length ≤ 100) (m : Nat) : ∀ (k i : Nat) (xs : List Int), m < k → l.length - i = m → i ≤ l.length → xs.length ≤ 1000 → xs.length + 2 * m ≤ 1000 → ∃ zs, field_writer_two.l k l xs i = some (xs ++ zs) ∧ zs.length = 2 * m := by
  induction m with
  | zero =>
    intro k i xs hk hm hi hx hz
    obtain ⟨k, rfl⟩ : ∃ j, k = j + 1 := ⟨k - 1, by omega⟩
    rw [field_writer_two.l, if_neg (by omega)]
    exact ⟨[], by rw [List.append_nil], rfl⟩
  | succ m ih =>
    intro k i xs hk hm hi hx hz
    obtain ⟨k, rfl⟩ : ∃ j, k = j + 1 := ⟨k - 1, by omega⟩
    rw [field_writer_two.l, if_pos (by omega), if_pos (by omega), if_pos (by omega), wrap64_id (by omega) (by omega)]
    obtain ⟨zs, e, h⟩ := ih k (i + 1) (xs ++ [rd l i / 256 % 256, rd l i % 256]) (by omega) (by omega) (by omega) (by simp only [List.length_append, List.length_cons, List.length_nil]; omega) (by simp only [List.length_append, List.length_cons, List.length_nil]; omega)
    rw [show ((i : Int) + 1) = ((i + 1 : Nat) : Int) by omega, e, List.append_assoc]
    exact ⟨_, rfl, by simp only [List.length_append, List.length_cons, List.length_nil]; omega⟩
theorem two_ex (l : List Int) (hl : l.length ≤ 100) (k : Nat) (xs : List Int) (hk : l.length < k) (hx : xs.length + 2 * l.length ≤ 1000) : ∃ zs, field_writer_two.l k l xs 0 = some (xs ++ zs) ∧ zs.length = 2 * l.length := two_l l hl l.length k 0 xs hk (by omega) (by omega) (by omega) hx

/-- What TLVs are split into. -/
def tls (q0 : Int) : Nat → List (Int × ByteArray) → List S48
  | _, [] => []
  | a, (t, d) :: r => ⟨t, wrap64 (q0 + a), d⟩ :: tls q0 (a + 2 + d.size) r
theorem tls_map (q0 : Int) (ts : List (Int × ByteArray)) : ∀ a, (tls q0 a ts).map (fun t => (t.f0, t.f2)) = ts := by
  induction ts with
  | nil => intro a; rfl
  | cons p r ih => intro a; obtain ⟨t, d⟩ := p; rw [tls, List.map_cons, ih]
theorem mid_ext (A B C : ByteArray) : (A ++ (B ++ C)).extract A.size (A.size + B.size) = B := by
  refine ext_bt (by simp only [size_ext, size_app]; omega) (fun i hi => ?_)
  simp only [size_ext, size_app] at hi
  rw [bt_ext _ _ _ _ (by omega), if_pos (by simp only [size_app]; omega), bt_app _ _ _ (by omega), if_neg (by omega), bt_app _ _ _ (by omega), if_pos (by omega)]
  congr 1
  omega
theorem split_w (p n m : Nat) (h : p + (2 + n + m) ≤ 100000) : wrap64 ((p : Int) + 1) = p + 1 ∧ wrap64 ((p : Int) + 2) = p + 2 ∧ wrap64 (n : Int) = n ∧ wrap64 ((p : Int) + 2 + n) = p + 2 + n ∧ wrap64 (((p + (2 + n + m) : Nat) : Int) - p) = 2 + n + m ∧ wrap64 ((2 : Int) + n + m - 2) = (n : Int) + m := by
  unfold wrap64
  omega
theorem split_eq (k : Nat) (X : ByteArray) (a : Int) (acc : List S48) (p : Int) : roadbookref18_Split.l0 (k + 1) X a acc p = if p < (X.size : Int) then (if 0 ≤ p then (if (bt X p) = 0 then (if acc.length < 4398046511104 then (roadbookref18_Split.l0 k X a (acc ++ [(⟨0, wrap64 (a + p), (⟨#[]⟩ : ByteArray)⟩ : S48)]) (wrap64 (p + 1))) else (none)) else (if (wrap64 ((X.size : Int) - p)) < 2 then (some (([] : List (S48)), wrap64 (a + p), 2)) else (if 0 ≤ (wrap64 (p + 1)) then (if (wrap64 (p + 1)) < (X.size : Int) then (if (wrap64 ((wrap64 ((X.size : Int) - p)) - 2)) < (wrap64 (bt X (wrap64 (p + 1)))) then (some (([] : List (S48)), wrap64 (a + p), 2)) else (if 0 ≤ (wrap64 (p + 2)) then (if (wrap64 (p + 2)) ≤ (wrap64 ((wrap64 (p + 2)) + (wrap64 (bt X (wrap64 (p + 1)))))) then (if (wrap64 ((wrap64 (p + 2)) + (wrap64 (bt X (wrap64 (p + 1)))))) ≤ (X.size : Int) then (if acc.length < 4398046511104 then (roadbookref18_Split.l0 k X a (acc ++ [(⟨wrap64 (bt X p), wrap64 (a + p), X.extract ((wrap64 (p + 2)) : Int).toNat ((wrap64 ((wrap64 (p + 2)) + (wrap64 (bt X (wrap64 (p + 1)))))) : Int).toNat⟩ : S48)]) (wrap64 ((wrap64 (p + 2)) + (wrap64 (bt X (wrap64 (p + 1))))))) else (none)) else (none)) else (none)) else (none))) else (none)) else (none)))) else (none)) else (some (acc, 0, 0)) := rfl

theorem split_c (p n m q : Nat) (t : Int) (h0 : 1 ≤ t) (h1 : t ≤ 255) (h : p + (2 + n + m) ≤ 100000) (ha : q ≤ 100000) : wrap64 t = t ∧ ((p : Int) < ((p + (2 + n + m) : Nat) : Int)) ∧ (¬ t = 0) ∧ (¬ (2 : Int) + n + m < 2) ∧ ((0 : Int) ≤ (p : Int) + 1) ∧ ((p : Int) + 1 < ((p + (2 + n + m) : Nat) : Int)) ∧ (¬ (n : Int) + m < n) ∧ ((0 : Int) ≤ (p : Int) + 2) ∧ ((p : Int) + 2 ≤ (p : Int) + 2 + n) ∧ ((p : Int) + 2 + n ≤ ((p + (2 + n + m) : Nat) : Int)) ∧ (q < 4398046511104) ∧ ((0 : Int) ≤ (p : Int)) ∧ ((p : Int) + 2).toNat = p + 2 ∧ ((p : Int) + 2 + n).toNat = p + 2 + n :=
  ⟨wrap64_id (by omega) (by omega), by omega, by omega, by omega, by omega, by omega, by omega, by omega, by omega, by omega, by omega, by omega, by omega, by omega⟩
theorem l0_step (q0 : Int) (k : Nat) (X : ByteArray) (acc : List S48) (p n m : Nat) (t : Int) (hsz : X.size = p + (2 + n + m)) (b0 : bt X (p : Int) = t) (b1 : bt X ((p : Int) + 1) = n) (h0 : 1 ≤ t) (h1 : t ≤ 255) (h : p + (2 + n + m) ≤ 100000) (ha : acc.length ≤ 100000) : roadbookref18_Split.l0 (k + 1) X q0 acc p = roadbookref18_Split.l0 k X q0 (acc ++ [⟨t, wrap64 (q0 + (p : Int)), X.extract (p + 2) (p + 2 + n)⟩]) ((p : Int) + 2 + n) := by
  obtain ⟨w1, w2, w3, w4, w5, w6⟩ := split_w p n m h
  obtain ⟨w7, c1, c2, c3, c4, c5, c6, c7, c8, c9, c10, c11, u1, u2⟩ := split_c p n m acc.length t h0 h1 h ha
  refine (split_eq k X q0 acc p).trans ?_
  rw [hsz, if_pos c1, if_pos c11, b0, if_neg c2, w5, if_neg c3, w1, if_pos c4, if_pos c5, b1, w3, w6, if_neg c6, w2, if_pos c7, w4, if_pos c8, if_pos c9, if_pos c10, w7, u1, u2]
theorem split_l (q0 : Int) (ts : List (Int × ByteArray)) : ∀ (k : Nat) (P : ByteArray) (acc : List S48), (∀ p ∈ ts, Okt p) → P.size + (fl ts).size ≤ 100000 → ts.length < k → acc.length + ts.length ≤ 100000 → roadbookref18_Split.l0 k (P ++ fl ts) q0 acc P.size = some (acc ++ tls q0 P.size ts, 0, 0) := by
  induction ts with
  | nil =>
    intro k P acc h1 h2 h3 h4
    obtain ⟨k, rfl⟩ : ∃ j, k = j + 1 := ⟨k - 1, by simp at h3; omega⟩
    have e0 : (fl []).size = 0 := rfl
    rw [split_eq, if_neg (by rw [size_app, e0]; omega), tls, List.append_nil]
  | cons p ts ih =>
    intro k P acc h1 h2 h3 h4
    obtain ⟨t, d⟩ := p
    obtain ⟨k, rfl⟩ : ∃ j, k = j + 1 := ⟨k - 1, by simp at h3; omega⟩
    obtain ⟨o1, o2, o3⟩ := h1 (t, d) List.mem_cons_self
    dsimp only at o1 o2 o3
    have hN : ∀ x ∈ [t, (d.size : Int)], 0 ≤ x ∧ x ≤ 255 := fun x hx => by simp at hx; rcases hx with rfl | rfl <;> omega
    have e2 : (strOfNums [t, (d.size : Int)]).size = 2 := size_nums _
    have ef : fl ((t, d) :: ts) = strOfNums [t, (d.size : Int)] ++ (d ++ fl ts) := by rw [fl, ByteArray.append_assoc]
    have es : (fl ((t, d) :: ts)).size = 2 + d.size + (fl ts).size := fl_size t d ts
    rw [es] at h2
    have b0 : bt (P ++ fl ((t, d) :: ts)) (P.size : Int) = t := by
      rw [bt_app _ _ _ (by omega), if_neg (by omega), Int.sub_self, ef, bt_app _ _ _ (by omega), if_pos (by omega)]
      exact bt_bytes _ hN 0
    have b1 : bt (P ++ fl ((t, d) :: ts)) ((P.size : Int) + 1) = d.size := by
      rw [bt_app _ _ _ (by omega), if_neg (by omega), show (P.size : Int) + 1 - P.size = ((1 : Nat) : Int) by omega, ef, bt_app _ _ _ (by omega), if_pos (by omega)]
      exact bt_bytes _ hN 1
    have hx : (P ++ fl ((t, d) :: ts)).extract (P.size + 2) (P.size + 2 + d.size) = d := by
      have := mid_ext (P ++ strOfNums [t, (d.size : Int)]) d (fl ts)
      rw [size_app, e2] at this
      rw [ef, ← ByteArray.append_assoc]
      exact this
    have hsz : (P ++ fl ((t, d) :: ts)).size = P.size + (2 + d.size + (fl ts).size) := by rw [size_app, es]
    have e3 : P ++ fl ((t, d) :: ts) = (P ++ strOfNums [t, (d.size : Int)] ++ d) ++ fl ts := by rw [ef, ByteArray.append_assoc, ByteArray.append_assoc]
    rw [l0_step q0 k _ acc P.size d.size (fl ts).size t hsz b0 b1 o1 o2 h2 (by omega), hx, e3]
    have e4 : (P ++ strOfNums [t, (d.size : Int)] ++ d).size = P.size + 2 + d.size := by rw [size_app, size_app, e2]
    have := ih k (P ++ strOfNums [t, (d.size : Int)] ++ d) (acc ++ [⟨t, wrap64 (q0 + (P.size : Int)), d⟩]) (fun p hp => h1 p (List.mem_cons_of_mem _ hp)) (by rw [e4]; omega) (by simp at h3; omega) (by simp at h4 ⊢; omega)
    rw [e4, show ((P.size + 2 + d.size : Nat) : Int) = (P.size : Int) + 2 + d.size by omega] at this
    rw [this, tls, List.append_assoc, List.singleton_append]
theorem split_f (q0 : Int) (ts : List (Int × ByteArray)) (h : ∀ p ∈ ts, Okt p) (hs : (fl ts).size ≤ 100000) (hl : ts.length ≤ 100000) (k : Nat) (hk : ts.length < k) : roadbookref18_Split.f k (fl ts) q0 = some (tls q0 0 ts, 0, 0) := by
  have := split_l q0 ts k ByteArray.empty [] h (by have z : ByteArray.empty.size = 0 := rfl; omega) hk (by have z : ([] : List S48).length = 0 := rfl; omega)
  rw [ByteArray.empty_append, List.nil_append] at this
  exact this
theorem fl_len (ts : List (Int × ByteArray)) : ts.length ≤ (fl ts).size := by
  induction ts with
  | nil => exact Nat.zero_le _
  | cons p r ih => obtain ⟨t, d⟩ := p; rw [fl_size, List.length_cons]; omega
/-- The body of a datagram. -/
theorem body_f (h l : Int) (b : ByteArray) (hh : 0 ≤ h ∧ h ≤ 255) (hl : 0 ≤ l ∧ l ≤ 255) (e : (b.size : Int) = 256 * h + l) (hb : b.size ≤ 65531) : roadbookref18_Body.f (strOfNums [42, 2, h, l] ++ b) = some (b, 0, 0) := by
  have hN : ∀ x ∈ [42, 2, h, l], 0 ≤ x ∧ x ≤ 255 := fun x hx => by simp at hx; rcases hx with rfl | rfl | rfl | rfl <;> omega
  have z : (strOfNums [42, 2, h, l]).size = 4 := size_nums _
  have g : ∀ i : Nat, i < 4 → bt (strOfNums [42, 2, h, l] ++ b) (i : Int) = [42, 2, h, l].getD i 0 := fun i hi => by rw [bt_app _ _ _ (by omega), if_pos (by omega)]; exact bt_bytes _ hN i
  have g0 : bt (strOfNums [42, 2, h, l] ++ b) 0 = 42 := g 0 (by omega)
  have g1 : bt (strOfNums [42, 2, h, l] ++ b) 1 = 2 := g 1 (by omega)
  have g2 : bt (strOfNums [42, 2, h, l] ++ b) 2 = h := g 2 (by omega)
  have g3 : bt (strOfNums [42, 2, h, l] ++ b) 3 = l := g 3 (by omega)
  have sz : (strOfNums [42, 2, h, l] ++ b).size = 4 + b.size := by rw [size_app, z]
  have x : (strOfNums [42, 2, h, l] ++ b).extract 4 (4 + b.size) = b := by
    have x := mid_ext (strOfNums [42, 2, h, l]) b ByteArray.empty
    rw [ByteArray.append_empty, z] at x
    exact x
  unfold roadbookref18_Body.f
  rw [g0, g1, g2, g3, sz, wrap64_id (x := h) (by omega) (by omega), wrap64_id (x := l) (by omega) (by omega), wrap64_id (x := 256 * h) (by omega) (by omega), wrap64_id (x := 256 * h + l) (by omega) (by omega), wrap64_id (x := 4 + (256 * h + l)) (by omega) (by omega), if_neg (by omega), if_neg (by omega), if_pos (by omega), if_pos rfl, if_pos (by omega), if_pos rfl, if_pos (by omega), if_pos (by omega), if_neg (by omega), if_pos (by omega), if_pos (by omega), show (4 + (256 * h + l)).toNat = 4 + b.size by omega, x]

theorem refbytes_loop (l : List S80) (hl : l.length ≤ 1000000) (hs : ∀ x ∈ l, x.f1.size ≤ 1000) (m : Nat) : ∀ (k i : Nat) (a : Int), m < k → l.length - i = m → i ≤ l.length → 0 ≤ a → a ≤ 1002 * i →
    roadbookref07_Bytes.l0 k l a i = some (a + bytesS (l.drop i)) := by
  induction m with
  | zero =>
    intro k i a hk hm hi h0 h1
    obtain ⟨k, rfl⟩ : ∃ j, k = j + 1 := ⟨k - 1, by omega⟩
    simp only [roadbookref07_Bytes.l0]
    rw [if_neg (by omega), List.drop_eq_nil_of_le (by omega)]
    simp [bytesS]
  | succ m ih =>
    intro k i a hk hm hi h0 h1
    obtain ⟨k, rfl⟩ : ∃ j, k = j + 1 := ⟨k - 1, by omega⟩
    simp only [roadbookref07_Bytes.l0]
    have hx : (rd_T80 l (i : Int)).f1.size ≤ 1000 := hs _ (List.mem_of_mem_drop (i := i) (by rw [drop_rd (i := i) (by omega)]; simp))
    rw [if_pos (by omega), if_pos (by omega), wrap64_id (x := (i : Int) + 1) (by omega) (by omega)]
    rw [drop_rd (i := i) (by omega)]
    generalize rd_T80 l (i : Int) = x at hx
    rw [wrap64_id (x := a + 2) (by omega) (by omega), wrap64_id (by omega) (by omega)]
    have := ih k (i + 1) (a + 2 + (x.f1.size : Int)) (by omega) (by omega) (by omega) (by omega) (by omega)
    rw [show ((i : Int) + 1) = ((i + 1 : Nat) : Int) by omega, this, bytesS]
    congr 1; omega
theorem refbytes_f (l : List S80) (hl : l.length ≤ 1000000) (hs : ∀ x ∈ l, x.f1.size ≤ 1000) (k : Nat) (hk : l.length < k) : roadbookref07_Bytes.f k l = some (bytesS l : Int) := by
  unfold roadbookref07_Bytes.f
  have := refbytes_loop l hl hs l.length k 0 0 hk (by omega) (by omega) (by omega) (by omega)
  rw [List.drop_zero] at this
  rw [show ((0 : Nat) : Int) = 0 from rfl] at this
  rw [this]; congr 1; omega

theorem few_l1 (a0 : Int) (a1 : Int) (a2 : Int) (a3 : ByteArray) (a4 : Int) (a5 : Int) (a6 : ByteArray) (a7 : Int) (a8 : Int) (a9 : ByteArray) (a10 : Int) (a11 : ByteArray) (a12 : Int) (a13 : Int) (a14 : Int) (a15 : Int) (a16 : Int) (a17 : Int) (a18 : Int) (a19 : ByteArray) (a20 : ByteArray) (a21 : List S78) (a22 : Int) (a23 : ByteArray) (a24 : List S80) (hl : a24.length ≤ 1000000) (m : Nat) : ∀ (k i : Nat), m < k → a24.length - i = m → ∃ b, roadbookref07_Few.l1 k i a0 a1 a2 a3 a4 a5 a6 a7 a8 a9 a10 a11 a12 a13 a14 a15 a16 a17 a18 a19 a20 a21 a22 a23 a24 = some b ∧ (b = true → ∀ j : Nat, i ≤ j → j < a24.length → ((rd_T80 a24 (j : Int)).f1).size ≤ 300) := by
  induction m with
  | zero =>
    intro k i hk hm
    obtain ⟨k, rfl⟩ : ∃ j, k = j + 1 := ⟨k - 1, by omega⟩
    simp only [roadbookref07_Few.l1]
    rw [if_neg (by omega)]
    exact ⟨true, rfl, fun _ j h1 h2 => by omega⟩
  | succ m ih =>
    intro k i hk hm
    obtain ⟨k, rfl⟩ : ∃ j, k = j + 1 := ⟨k - 1, by omega⟩
    simp only [roadbookref07_Few.l1]
    rw [if_pos (by omega), if_pos (by omega)]
    by_cases c : (((rd_T80 a24 (i : Int)).f1).size : Int) > 300
    · rw [if_pos c]; exact ⟨false, rfl, fun h => (by cases h)⟩
    · rw [if_neg c, wrap64_id (by omega) (by omega)]
      obtain ⟨b, e, hb⟩ := ih k (i + 1) (by omega) (by omega)
      refine ⟨b, e, fun h j h1 h2 => ?_⟩
      by_cases d : j = i
      · rw [d]; omega
      · exact hb h j (by omega) h2
theorem few_l0 (a0 : Int) (a1 : Int) (a2 : Int) (a3 : ByteArray) (a4 : Int) (a5 : Int) (a6 : ByteArray) (a7 : Int) (a8 : Int) (a9 : ByteArray) (a10 : Int) (a11 : ByteArray) (a12 : Int) (a13 : Int) (a14 : Int) (a15 : Int) (a16 : Int) (a17 : Int) (a18 : Int) (a19 : ByteArray) (a20 : ByteArray) (a21 : List S78) (a22 : Int) (a23 : ByteArray) (a24 : List S80) (hd : a21.length ≤ 1000000) (hl : a24.length ≤ 1000000) (m : Nat) : ∀ (k i : Nat), m + a24.length + 1 < k → a21.length - i = m → ∃ b, roadbookref07_Few.l0 k i a0 a1 a2 a3 a4 a5 a6 a7 a8 a9 a10 a11 a12 a13 a14 a15 a16 a17 a18 a19 a20 a21 a22 a23 a24 = some b ∧ (b = true → (∀ j : Nat, i ≤ j → j < a21.length → ((rd_T78 a21 (j : Int)).f0).size ≤ 50) ∧ ∀ j : Nat, j < a24.length → ((rd_T80 a24 (j : Int)).f1).size ≤ 300) := by
  induction m with
  | zero =>
    intro k i hk hm
    obtain ⟨k, rfl⟩ : ∃ j, k = j + 1 := ⟨k - 1, by omega⟩
    simp only [roadbookref07_Few.l0]
    rw [if_neg (by omega)]
    obtain ⟨b, e, hb⟩ := few_l1 a0 a1 a2 a3 a4 a5 a6 a7 a8 a9 a10 a11 a12 a13 a14 a15 a16 a17 a18 a19 a20 a21 a22 a23 a24 hl a24.length k 0 (by omega) (by omega)
    exact ⟨b, e, fun h => ⟨fun j h1 h2 => by omega, fun j h2 => hb h j (by omega) h2⟩⟩
  | succ m ih =>
    intro k i hk hm
    obtain ⟨k, rfl⟩ : ∃ j, k = j + 1 := ⟨k - 1, by omega⟩
    simp only [roadbookref07_Few.l0]
    rw [if_pos (by omega), if_pos (by omega)]
    by_cases c : (((rd_T78 a21 (i : Int)).f0).size : Int) > 50
    · rw [if_pos c]; exact ⟨false, rfl, fun h => (by cases h)⟩
    · rw [if_neg c, wrap64_id (by omega) (by omega)]
      obtain ⟨b, e, hb⟩ := ih k (i + 1) (by omega) (by omega)
      refine ⟨b, e, fun h => ⟨fun j h1 h2 => ?_, (hb h).2⟩⟩
      by_cases d : j = i
      · rw [d]; omega
      · exact (hb h).1 j (by omega) h2
/-- Few tells something, and where it says yes the parts are few and small. -/
theorem few_f (a0 : Int) (a1 : Int) (a2 : Int) (a3 : ByteArray) (a4 : Int) (a5 : Int) (a6 : ByteArray) (a7 : Int) (a8 : Int) (a9 : ByteArray) (a10 : Int) (a11 : ByteArray) (a12 : Int) (a13 : Int) (a14 : Int) (a15 : Int) (a16 : Int) (a17 : Int) (a18 : Int) (a19 : ByteArray) (a20 : ByteArray) (a21 : List S78) (a22 : Int) (a23 : ByteArray) (a24 : List S80) (h3 : a3.size ≤ 140737488351232) (h6 : a6.size ≤ 140737488351232) (h9 : a9.size ≤ 140737488351232) (h11 : a11.size ≤ 140737488351232) (h19 : a19.size ≤ 140737488351232) (h20 : a20.size ≤ 140737488351232) (k : Nat) (hk : 400 ≤ k) :
    ∃ b, roadbookref07_Few.f k a0 a1 a2 a3 a4 a5 a6 a7 a8 a9 a10 a11 a12 a13 a14 a15 a16 a17 a18 a19 a20 a21 a22 a23 a24 = some b ∧ (b = true → a21.length ≤ 300 ∧ a24.length ≤ 60 ∧ a3.size + a6.size ≤ 200 ∧ a9.size + a11.size ≤ 200 ∧ a19.size + a20.size ≤ 200 ∧ a23.size ≤ 300 ∧ (∀ x ∈ a21, x.f0.size ≤ 50) ∧ ∀ x ∈ a24, x.f1.size ≤ 300) := by
  obtain ⟨k, rfl⟩ : ∃ j, k = j + 1 := ⟨k - 1, by omega⟩
  have no : roadbookref07_Few.j0 (k + 1) true a0 a1 a2 a3 a4 a5 a6 a7 a8 a9 a10 a11 a12 a13 a14 a15 a16 a17 a18 a19 a20 a21 a22 a23 a24 = some false := by simp only [roadbookref07_Few.j0, if_true]
  unfold roadbookref07_Few.f
  rw [no, wrap64_id (x := (a3.size : Int) + a6.size) (by omega) (by omega), wrap64_id (x := (a9.size : Int) + a11.size) (by omega) (by omega), wrap64_id (x := (a19.size : Int) + a20.size) (by omega) (by omega)]
  by_cases c1 : (a21.length : Int) > 300
  · rw [if_pos c1]; exact ⟨false, rfl, fun h => (by cases h)⟩
  rw [if_neg c1]
  by_cases c2 : (a24.length : Int) > 60
  · rw [if_pos c2]; exact ⟨false, rfl, fun h => (by cases h)⟩
  rw [if_neg c2]
  by_cases c3 : (a3.size : Int) + a6.size > 200
  · rw [if_pos c3]; exact ⟨false, rfl, fun h => (by cases h)⟩
  rw [if_neg c3]
  by_cases c4 : (a9.size : Int) + a11.size > 200
  · rw [if_pos c4]; exact ⟨false, rfl, fun h => (by cases h)⟩
  rw [if_neg c4]
  by_cases c5 : (a19.size : Int) + a20.size > 200
  · rw [if_pos c5]; exact ⟨false, rfl, fun h => (by cases h)⟩
  rw [if_neg c5]
  by_cases c6 : (a23.size : Int) > 300
  · rw [decide_eq_true c6, no]; exact ⟨false, rfl, fun h => (by cases h)⟩
  rw [decide_eq_false c6]
  simp only [roadbookref07_Few.j0, Bool.false_eq_true, if_false]
  obtain ⟨b, e, hb⟩ := few_l0 a0 a1 a2 a3 a4 a5 a6 a7 a8 a9 a10 a11 a12 a13 a14 a15 a16 a17 a18 a19 a20 a21 a22 a23 a24 (by omega) (by omega) a21.length k 0 (by omega) (by omega)
  exact ⟨b, e, fun h => ⟨by omega, by omega, by omega, by omega, by omega, by omega, rd_mem_78 fun j hj => (hb h).1 j (by omega) hj, rd_mem_80 (hb h).2⟩⟩

theorem rd_memM {l : List S32} {i : Nat} (h : i < l.length) : rd_T32 l (i : Int) ∈ l := by
  unfold rd_T32
  rw [Int.toNat_natCast, List.getD_eq_getElem?_getD, List.getElem?_eq_getElem h]
  exact List.getElem_mem h
/-- The bounds of a message of few parts. -/
def FewB (x : S32) : Prop := x.f21.length ≤ 300 ∧ x.f24.length ≤ 60 ∧ x.f3.size + x.f6.size ≤ 200 ∧ x.f9.size + x.f11.size ≤ 200 ∧ x.f19.size + x.f20.size ≤ 200 ∧ x.f23.size ≤ 300 ∧ (∀ y ∈ x.f21, y.f0.size ≤ 50) ∧ ∀ y ∈ x.f24, y.f1.size ≤ 300
theorem fewall_l (l : List S32) (hl : l.length ≤ 1000) (hs : ∀ x ∈ l, (x.f3.size ≤ 140737488351232 ∧ x.f6.size ≤ 140737488351232 ∧ x.f9.size ≤ 140737488351232 ∧ x.f11.size ≤ 140737488351232 ∧ x.f19.size ≤ 140737488351232 ∧ x.f20.size ≤ 140737488351232)) (q : Nat) : ∀ (k i : Nat), q + 400 < k → l.length - i = q → ∃ b, roadbookref07_FewAll.l0 k l i = some b ∧ (b = true → ∀ j : Nat, i ≤ j → j < l.length → FewB (rd_T32 l (j : Int))) := by
  induction q with
  | zero =>
    intro k i hk hq
    obtain ⟨k, rfl⟩ : ∃ j, k = j + 1 := ⟨k - 1, by omega⟩
    rw [roadbookref07_FewAll.l0]
    rw [if_neg (by omega)]
    exact ⟨true, rfl, fun _ j h1 h2 => by omega⟩
  | succ q ih =>
    intro k i hk hq
    obtain ⟨k, rfl⟩ : ∃ j, k = j + 1 := ⟨k - 1, by omega⟩
    have h := hs _ (rd_memM (i := i) (by omega))
    rw [roadbookref07_FewAll.l0]
    obtain ⟨r, e, hr⟩ := few_f ((rd_T32 l (i : Int)).f0) ((rd_T32 l (i : Int)).f1) ((rd_T32 l (i : Int)).f2) ((rd_T32 l (i : Int)).f3) ((rd_T32 l (i : Int)).f4) ((rd_T32 l (i : Int)).f5) ((rd_T32 l (i : Int)).f6) ((rd_T32 l (i : Int)).f7) ((rd_T32 l (i : Int)).f8) ((rd_T32 l (i : Int)).f9) ((rd_T32 l (i : Int)).f10) ((rd_T32 l (i : Int)).f11) ((rd_T32 l (i : Int)).f12) ((rd_T32 l (i : Int)).f13) ((rd_T32 l (i : Int)).f14) ((rd_T32 l (i : Int)).f15) ((rd_T32 l (i : Int)).f16) ((rd_T32 l (i : Int)).f17) ((rd_T32 l (i : Int)).f18) ((rd_T32 l (i : Int)).f19) ((rd_T32 l (i : Int)).f20) ((rd_T32 l (i : Int)).f21) ((rd_T32 l (i : Int)).f22) ((rd_T32 l (i : Int)).f23) ((rd_T32 l (i : Int)).f24) h.1 h.2.1 h.2.2.1 h.2.2.2.1 h.2.2.2.2.1 h.2.2.2.2.2 k (by omega)
    rw [if_pos (by omega), if_pos (by omega), e, Option.bind_some]
    cases r with
    | true =>
      rw [if_pos rfl, wrap64_id (by omega) (by omega)]
      obtain ⟨b, e, hb'⟩ := ih k (i + 1) (by omega) (by omega)
      refine ⟨b, e, fun h j h1 h2 => ?_⟩
      by_cases d : j = i
      · rw [d]; exact hr rfl
      · exact hb' h j (by omega) h2
    | false =>
      rw [if_neg (by decide)]
      exact ⟨false, rfl, fun h => (by cases h)⟩
theorem fewall_f (l : List S32) (n : Int) (hn : n ≤ 1000) (hs : ∀ x ∈ l, (x.f3.size ≤ 140737488351232 ∧ x.f6.size ≤ 140737488351232 ∧ x.f9.size ≤ 140737488351232 ∧ x.f11.size ≤ 140737488351232 ∧ x.f19.size ≤ 140737488351232 ∧ x.f20.size ≤ 140737488351232)) (k : Nat) (hk : 1500 ≤ k) : ∃ b, roadbookref07_FewAll.f k l n = some b ∧ (b = true → (l.length : Int) ≤ n ∧ ∀ x ∈ l, FewB x) := by
  unfold roadbookref07_FewAll.f
  by_cases c : (l.length : Int) > n
  · rw [if_pos c]; exact ⟨false, rfl, fun h => (by cases h)⟩
  · rw [if_neg c]
    obtain ⟨b, e, h⟩ := fewall_l l (by omega) hs l.length k 0 (by omega) (by omega)
    refine ⟨b, e, fun hb => ⟨by omega, fun x hx => ?_⟩⟩
    obtain ⟨j, hj, rfl⟩ := List.getElem_of_mem hx
    have := h hb j (Nat.zero_le _) hj
    unfold rd_T32 at this
    rwa [Int.toNat_natCast, List.getD_eq_getElem?_getD, List.getElem?_eq_getElem hj] at this

/-- The TLVs of Subs. -/
def stl (l : List S80) : List (Int × ByteArray) := l.map fun x => (x.f0, x.f1)
theorem nil_eq : strOfNums [] = fl [] := rfl
theorem sput_lx (l : List S80) (hl : l.length ≤ 60) (ok : ∀ x ∈ l, okR 2 127 x) (m : Nat) : ∀ (k i : Nat) (acc : List Int), m < k → l.length - i = m → i ≤ l.length → acc.length ≤ 1000 + 257 * i → sub_Put.l0 k acc l (l.length : Int) i = some (strOfNums acc ++ fl (stl (l.drop i)), true) := by
  induction m with
  | zero =>
    intro k i acc hk hm hi ha
    obtain ⟨k, rfl⟩ : ∃ j, k = j + 1 := ⟨k - 1, by omega⟩
    rw [sub_Put.l0, if_neg (by omega), List.drop_of_length_le (by omega)]
    have : fl (stl []) = ByteArray.empty := rfl
    rw [this, ByteArray.append_empty]
  | succ m ih =>
    intro k i acc hk hm hi ha
    obtain ⟨k, rfl⟩ : ∃ j, k = j + 1 := ⟨k - 1, by omega⟩
    have mem : rd_T80 l (i : Int) ∈ l := by
      unfold rd_T80
      rw [Int.toNat_natCast, List.getD_eq_getElem?_getD, List.getElem?_eq_getElem (by omega)]
      exact List.getElem_mem _
    have o := ok _ mem
    have e1 : one (rd_T80 l (i : Int)).f0 (rd_T80 l (i : Int)).f1 = [((rd_T80 l (i : Int)).f0, (rd_T80 l (i : Int)).f1)] := by
      unfold one
      rw [if_pos ⟨by have := o.1; omega, by have := o.2.1; omega, o.2.2⟩]
    obtain ⟨b, e⟩ := fput_f (rd_T80 l (i : Int)).f0 (rd_T80 l (i : Int)).f1
    have z := one_size (rd_T80 l (i : Int)).f0 (rd_T80 l (i : Int)).f1
    rw [sub_Put.l0, if_pos (by omega), if_pos (by omega), if_pos (by omega), e, Option.bind_some, if_pos (by dsimp only; omega), wrap64_id (by omega) (by omega)]
    have := ih k (i + 1) (acc ++ bytesOf (fl (one (rd_T80 l (i : Int)).f0 (rd_T80 l (i : Int)).f1))) (by omega) (by omega) (by omega) (by rw [List.length_append, len_bytesOf]; omega)
    rw [show ((i + 1 : Nat) : Int) = (i : Int) + 1 by omega] at this
    refine this.trans ?_
    rw [nums_app, nums_bytes, e1, drop_rd (i := i) (by omega), ByteArray.append_assoc, ← fl_app]
    rfl
theorem sput_ok (l : List S80) (hl : l.length ≤ 60) (hs : ∀ x ∈ l, x.f1.size ≤ 300) (ok : (∀ x ∈ l, okR 2 127 x) ∧ bytesS l ≤ 200) (k : Nat) (hk : 60 < k) : sub_Put.f k l = some (fl (stl l), true) := by
  unfold sub_Put.f sub_Right.f
  rw [psubs_f l 2 127 (by omega) k (by omega), Option.bind_some, if_pos (decide_eq_true ok.1), pbytes_f l (by omega) (fun x hx => Nat.le_trans (hs x hx) (by decide)) k (by omega), Option.bind_some, Option.bind_some, if_pos (decide_eq_true (by have := ok.2; omega))]
  have := sput_lx l hl ok.1 l.length k 0 [] (by omega) (by omega) (by omega) (by simp)
  rw [List.drop_zero] at this
  refine this.trans ?_
  rw [nil_eq, show fl [] = ByteArray.empty from rfl, ByteArray.empty_append]
theorem fl_stl (l : List S80) : (fl (stl l)).size = bytesS l := by
  induction l with
  | nil => rfl
  | cons x l ih =>
    show (fl ((x.f0, x.f1) :: stl l)).size = _
    rw [fl_size, ih, bytesS]
theorem rget_l (tl : List S48) (ht : tl.length ≤ 1000) (l : List S80) (hl : l.length ≤ 60) (ok : (∀ x ∈ l, okR 2 127 x) ∧ bytesS l ≤ 200) (m : Nat) : ∀ (k i : Nat) (acc : List S80), m + 100 < k → tl.length - i = m → i ≤ tl.length → acc.length ≤ i → (∀ j : Nat, i ≤ j → j < tl.length → 2 ≤ (rd_T48 tl (j : Int)).f0 ∧ (rd_T48 tl (j : Int)).f0 ≤ 127) → acc ++ (tl.drop i).map (fun t => (⟨t.f0, t.f2⟩ : S80)) = l → roadbookref19_Get.l0 k tl acc true (i : Int) = some (l, true, 0) := by
  induction m with
  | zero =>
    intro k i acc hk hm hi ha h he
    obtain ⟨k, rfl⟩ : ∃ j, k = j + 1 := ⟨k - 1, by omega⟩
    rw [List.drop_of_length_le (by omega), List.map_nil, List.append_nil] at he
    subst he
    rw [roadbookref19_Get.l0, if_neg (by omega), refbytes_f acc (by omega) (fun x hx => Nat.le_trans (ok.1 x hx).2.2 (by decide)) k (by omega), Option.bind_some, if_neg (by have := ok.2; omega)]
  | succ m ih =>
    intro k i acc hk hm hi ha h he
    obtain ⟨k, rfl⟩ : ∃ j, k = j + 1 := ⟨k - 1, by omega⟩
    obtain ⟨h2, h127⟩ := h i (Nat.le_refl _) (by omega)
    have ed : tl.drop i = rd_T48 tl (i : Int) :: tl.drop (i + 1) := by
      unfold rd_T48
      rw [Int.toNat_natCast, List.drop_eq_getElem_cons (by omega), List.getD_eq_getElem?_getD, List.getElem?_eq_getElem (by omega)]; rfl
    rw [roadbookref19_Get.l0, if_pos (by omega), if_pos (by omega), if_pos h2, if_pos h127, if_pos (by omega), Option.bind_some, if_pos rfl, decide_eq_true h127, wrap64_id (by omega) (by omega)]
    refine ih k (i + 1) _ (by omega) (by omega) (by omega) (by rw [List.length_append]; simp; omega) (fun j h1 h2 => h j (by omega) h2) ?_
    rw [ed, List.map_cons] at he
    rw [← he, List.append_assoc]; rfl
theorem tls_subs (q0 : Int) (l : List S80) : ∀ a, (tls q0 a (stl l)).map (fun t => (⟨t.f0, t.f2⟩ : S80)) = l := by
  induction l with
  | nil => intro a; rfl
  | cons x l ih =>
    intro a
    show (⟨x.f0, x.f1⟩ : S80) :: (tls q0 (a + 2 + x.f1.size) (stl l)).map (fun t => (⟨t.f0, t.f2⟩ : S80)) = _
    rw [ih]
theorem rget_f (l : List S80) (hl : l.length ≤ 60) (ok : (∀ x ∈ l, okR 2 127 x) ∧ bytesS l ≤ 200) (k : Nat) (hk : 200 < k) : roadbookref19_Get.f k (fl (stl l)) = some (l, true, 0) := by
  have z := fl_stl l
  have lz : (stl l).length = l.length := List.length_map _
  have lt : (tls 0 0 (stl l)).length = l.length := by
    have := congrArg List.length (tls_map 0 (stl l) 0)
    rwa [List.length_map, lz] at this
  unfold roadbookref19_Get.f
  rw [split_f 0 (stl l) (fun p hp => by
    obtain ⟨x, hx, rfl⟩ := List.mem_map.mp hp
    obtain ⟨a, b, c⟩ := ok.1 x hx
    exact ⟨by dsimp only; omega, by dsimp only; omega, c⟩) (by have := ok.2; omega) (by omega) k (by omega), Option.bind_some, if_pos rfl]
  refine rget_l (tls 0 0 (stl l)) (by omega) l hl ok l.length k 0 [] (by omega) (by omega) (by omega) (by simp) (fun j _ hj => ?_) ?_
  · have hm : (⟨(rd_T48 (tls 0 0 (stl l)) (j : Int)).f0, (rd_T48 (tls 0 0 (stl l)) (j : Int)).f2⟩ : S80) ∈ l := by
      have e : rd_T48 (tls 0 0 (stl l)) (j : Int) ∈ tls 0 0 (stl l) := by
        unfold rd_T48
        rw [Int.toNat_natCast, List.getD_eq_getElem?_getD, List.getElem?_eq_getElem hj]
        exact List.getElem_mem _
      have := List.mem_map_of_mem (f := fun t => (⟨t.f0, t.f2⟩ : S80)) e
      rwa [tls_subs] at this
    exact ⟨(ok.1 _ hm).1, (ok.1 _ hm).2.1⟩
  · rw [List.drop_zero, List.nil_append, tls_subs]
theorem rfixed_f (d : ByteArray) (n : Int) (hn : (d.size : Int) = n) (k : Nat) (hk : 200 < k) : roadbookref22_fixed.f k d n = some (true, 0) := by
  unfold roadbookref22_fixed.f
  have e : d.extract n.toNat d.size = fl (stl []) := by
    refine ext_bt ?_ (fun i hi => ?_)
    · rw [size_ext]; show _ = 0; omega
    · rw [size_ext] at hi; omega
  rw [if_neg (by omega), if_pos (by omega), if_pos (by omega), e, rget_f [] (by simp) ⟨fun x hx => (by cases hx), by show 0 ≤ 200; omega⟩ k hk, Option.bind_some]

theorem getD_ext {a b : List Int} (hl : a.length = b.length) (h : ∀ j, j < a.length → a.getD j 0 = b.getD j 0) : a = b := by
  apply List.ext_getElem hl
  intro i h1 h2
  have := h i h1
  rw [List.getD_eq_getElem?_getD, List.getElem?_eq_getElem h1, List.getD_eq_getElem?_getD, List.getElem?_eq_getElem h2] at this
  exact this
theorem keepL_eq (s : ByteArray) {a b : Int} (h : ∀ j : Nat, j < s.size → kb (bt s j) (a - 8 * j) = kb (bt s j) (b - 8 * j)) : keepL s a = keepL s b := by
  refine getD_ext (by rw [keepL_length, keepL_length]) fun j hj => ?_
  rw [keepL_length] at hj
  rw [keepL_getD _ _ _ hj, keepL_getD _ _ _ hj, h j hj]
theorem kb_low (b : Int) {m : Int} (h : m ≤ 0) : kb b m = 0 := by unfold kb; rw [if_pos h]
theorem kb_high (b : Int) {m : Int} (h : 8 ≤ m) : kb b m = b := by unfold kb; rw [if_neg (by omega), if_pos h]
theorem keepL_step (s : ByteArray) (i : Int) (h0 : 0 ≤ i) (h1 : i < 8 * s.size) :
    keepL s (i + 1) = if bit s i = true then (keepL s i).set (i / 8).toNat (kb (bt s (i / 8)) (i - 8 * (i / 8)) + 2 ^ (7 - (i % 8).toNat)) else keepL s i := by
  obtain ⟨q, hq⟩ : ∃ q : Nat, i / 8 = q := ⟨(i / 8).toNat, by omega⟩
  have hb : bit s i = bitAt (bt s (i / 8)) (i % 8).toNat := by unfold bit; rw [decide_eq_true ⟨h0, h1⟩, Bool.true_and]
  have hstep : kb (bt s q) (i + 1 - 8 * q) = kb (bt s q) (i - 8 * q) + if bitAt (bt s q) (i % 8).toNat = true then 2 ^ (7 - (i % 8).toNat) else 0 := by
    obtain ⟨x, hx⟩ := byte_fin (bt_range s q)
    rw [hx]
    have := kb_step_fin x ⟨(i % 8).toNat, by omega⟩
    simp only at this
    rw [show i + 1 - 8 * (q : Int) = (((i % 8).toNat + 1 : Nat) : Int) by omega, this, show i - 8 * (q : Int) = (((i % 8).toNat : Nat) : Int) by omega]
  have other : ∀ j : Nat, j ≠ q → kb (bt s j) (i + 1 - 8 * j) = kb (bt s j) (i - 8 * j) := by
    intro j hj
    by_cases c : j < q
    · rw [kb_high _ (by omega), kb_high _ (by omega)]
    · rw [kb_low _ (by omega), kb_low _ (by omega)]
  rw [hb, hq]
  rw [show ((q : Int)).toNat = q by omega]
  by_cases c : bitAt (bt s q) (i % 8).toNat = true
  · rw [if_pos c] at hstep ⊢
    refine getD_ext (by rw [keepL_length, List.length_set, keepL_length]) fun j hj => ?_
    rw [keepL_length] at hj
    rw [keepL_getD _ _ _ hj, set_getD _ (by rw [keepL_length]; exact hj)]
    by_cases e : q = j
    · rw [if_pos e, ← e, hstep]
    · rw [if_neg e, keepL_getD _ _ _ hj, other j (fun c => e c.symm)]
  · rw [if_neg c] at hstep ⊢
    refine keepL_eq s fun j hj => ?_
    by_cases e : j = q
    · rw [e, hstep, Int.add_zero]
    · exact other j e

theorem refBit_f (s : ByteArray) (i : Int) (hs : s.size ≤ 1000000) : roadbookref03_Bit.f s i = some (bit s i) := by
  unfold roadbookref03_Bit.f bit
  by_cases h0 : 0 ≤ i
  · rw [if_pos h0, wrap64_id (x := 8 * _) (by omega) (by omega)]
    by_cases h1 : i < 8 * (s.size : Int)
    · have e1 : wrap64 (Int.tdiv i 8) = i / 8 := by rw [Int.tdiv_eq_ediv_of_nonneg h0, wrap64_id (by omega) (by omega)]
      have e2 : IntKind.u64.wrap (wrap64 (7 - Int.tmod i 8)) = 7 - i % 8 := by rw [Int.tmod_eq_emod_of_nonneg h0, wrap64_id (by omega) (by omega), u64_id (by omega) (by omega)]
      have hr := bt_range s (i / 8)
      rw [if_pos h1, e1, e2, if_pos (by omega), if_pos (by omega), if_pos (by omega), decide_eq_true ⟨h0, h1⟩, Bool.true_and, wrap64_id (by omega) (by omega)]
      congr 1
      obtain ⟨x, hx⟩ := byte_fin hr
      rw [hx]
      have := bit_div_fin x ⟨(i % 8).toNat, by omega⟩
      simp only at this
      unfold shr
      rw [show min (7 - i % 8).toNat IntKind.i64.bits = 7 - (i % 8).toNat by simp [IntKind.bits]; omega]
      exact this
    · rw [if_neg h1, decide_eq_false (fun h => h1 h.2)]; rfl
  · rw [if_neg h0, decide_eq_false (fun h => h0 h.1)]; rfl

theorem kb_add_range {b : Int} (h : 0 ≤ b ∧ b ≤ 255) (m : Nat) (hm : m < 8) (hb : bitAt b m = true) : 0 ≤ kb b m + 2 ^ (7 - m) ∧ kb b m + 2 ^ (7 - m) ≤ 255 := by
  obtain ⟨x, rfl⟩ := byte_fin h
  have := kb_step_fin x ⟨m, hm⟩
  simp only at this
  rw [if_pos hb] at this
  rw [← this]; exact kb_range h _

theorem refKeep_l (s : ByteArray) (hs : s.size ≤ 1000000) (n : Int) (m : Nat) :
    ∀ (k : Nat) (i : Int), 2 * m + 2 < k → 0 ≤ i → 8 * (s.size : Int) - i = m → (i ≤ n ∨ i = 0) → roadbookref03_Keep.l0 k s n (keepL s i) i = some (keep s n) := by
  induction m with
  | zero =>
    intro k i hk h0 hm hi
    obtain ⟨k, rfl⟩ : ∃ j, k = j + 2 := ⟨k - 2, by omega⟩
    simp only [roadbookref03_Keep.l0]
    rw [wrap64_id (by omega) (by omega), if_neg (by omega)]
    simp only [roadbookref03_Keep.j1, Bool.false_eq_true, if_false]
    rw [keep, keepL_eq s (a := i) (b := n) (fun j hj => by rw [kb_high _ (by omega), kb_high _ (by omega)])]
  | succ m ih =>
    intro k i hk h0 hm hi
    obtain ⟨k, rfl⟩ : ∃ j, k = j + 2 := ⟨k - 2, by omega⟩
    simp only [roadbookref03_Keep.l0]
    rw [wrap64_id (by omega) (by omega), if_pos (by omega)]
    simp only [roadbookref03_Keep.j1, decide_eq_true_eq]
    by_cases c : i < n
    · rw [if_pos c, refBit_f s i hs, Option.bind_some]
      have hstep := keepL_step s i h0 (by omega)
      have hnext := ih k (i + 1) (by omega) (by omega) (by omega) (by omega)
      rw [wrap64_id (x := i + 1) (by omega) (by omega)]
      by_cases hb : bit s i = true
      · rw [if_pos hb] at hstep ⊢
        have e1 : wrap64 (Int.tdiv i 8) = i / 8 := by rw [Int.tdiv_eq_ediv_of_nonneg h0, wrap64_id (by omega) (by omega)]
        have e2 : IntKind.u64.wrap (wrap64 (7 - Int.tmod i 8)) = 7 - i % 8 := by rw [Int.tmod_eq_emod_of_nonneg h0, wrap64_id (by omega) (by omega), u64_id (by omega) (by omega)]
        rw [e1, e2, if_pos (by omega), if_pos (by rw [keepL_length]; omega), if_pos (by omega)]
        have e3 : rd (keepL s i) (i / 8) = kb (bt s (i / 8)) (i - 8 * (i / 8)) := by
          have := keepL_getD s i (i / 8).toNat (by omega)
          unfold rd
          rw [this, show (((i / 8).toNat : Nat) : Int) = i / 8 by omega]
        have e4 : shl .u8 1 (7 - i % 8) = 2 ^ (7 - (i % 8).toNat) := by
          unfold shl
          rw [show min (7 - i % 8).toNat IntKind.u8.bits = 7 - (i % 8).toNat by simp [IntKind.bits]; omega, Int.one_mul, IntKind.wrap_u8]
          have : (i % 8).toNat < 8 := by omega
          have : ∀ q : Fin 8, (2 : Int) ^ (7 - q.val) % 256 = 2 ^ (7 - q.val) := by decide
          exact this ⟨(i % 8).toNat, by omega⟩
        have hbA : bitAt (bt s (i / 8)) (i % 8).toNat = true := by
          unfold bit at hb
          rwa [decide_eq_true (by omega), Bool.true_and] at hb
        have hr := kb_add_range (bt_range s (i / 8)) (i % 8).toNat (by omega) hbA
        rw [show (((i % 8).toNat : Nat) : Int) = i - 8 * (i / 8) by omega] at hr
        rw [e3, e4, Int.emod_eq_of_lt hr.1 (by omega), ← hstep]
        exact hnext
      · rw [if_neg hb] at hstep ⊢
        rw [← hstep]; exact hnext
    · rw [if_neg c]
      rw [keep, keepL_eq s (a := i) (b := n)]
      intro j hj
      rcases hi with hi | hi
      · rw [show i = n by omega]
      · subst hi; rw [kb_low _ (by omega), kb_low _ (by omega)]

theorem refKeep_f (s : ByteArray) (n : Int) (hs : s.size ≤ 1000000) (k : Nat) (hk : 16 * s.size + 2 < k) : roadbookref03_Keep.f k s n = some (keep s n) := by
  unfold roadbookref03_Keep.f
  rw [if_pos (by omega), if_pos (by omega)]
  have e : List.replicate ((s.size : Int)).toNat (0 : Int) = keepL s 0 := by
    refine getD_ext (by rw [keepL_length, List.length_replicate]; omega) fun j hj => ?_
    rw [List.length_replicate] at hj
    rw [rep_getD, keepL_getD _ _ _ (by omega), kb_low _ (by omega)]
  rw [e]
  exact refKeep_l s hs n (8 * s.size) k 0 (by omega) (by omega) (by omega) (.inr rfl)

/-- The number that bytes make, the highest first. -/
def num (l : List Int) : Int := l.foldl (fun a b => a * 256 + b) 0
theorem num_snoc (l : List Int) (x : Int) : num (l ++ [x]) = num l * 256 + x := by simp [num, List.foldl_append]
theorem num_take (l : List Int) (i : Nat) (h : i < l.length) : num (l.take (i + 1)) = num (l.take i) * 256 + l.getD i 0 := by
  rw [List.take_succ_eq_append_getElem h, num_snoc, List.getD_eq_getElem?_getD, List.getElem?_eq_getElem h]; rfl
theorem num_foldl (l : List Int) (a : Int) : l.foldl (fun a b => a * 256 + b) a = a * 256 ^ l.length + num l := by
  induction l generalizing a with
  | nil => simp [num]
  | cons x l ih =>
    have e : num (x :: l) = List.foldl (fun a b => a * 256 + b) x l := by simp [num]
    rw [e, ih x]
    simp only [List.foldl_cons, List.length_cons]
    rw [ih (a * 256 + x), Int.pow_succ, Int.add_mul, Int.mul_assoc, Int.mul_comm 256, Int.add_assoc]
theorem num_cons (x : Int) (l : List Int) : num (x :: l) = x * 256 ^ l.length + num l := by
  have e : num (x :: l) = List.foldl (fun a b => a * 256 + b) x l := by simp [num]
  rw [e, num_foldl]
theorem num_range (l : List Int) (h : ∀ x ∈ l, 0 ≤ x ∧ x ≤ 255) : 0 ≤ num l ∧ num l < 256 ^ l.length := by
  induction l with
  | nil => simp [num]
  | cons x l ih =>
    have hx := h x (by simp)
    obtain ⟨h0, h1⟩ := ih fun y hy => h y (by simp [hy])
    rw [num_cons, List.length_cons, Int.pow_succ]
    have hp : (0 : Int) < 256 ^ l.length := Int.pow_pos (by decide)
    have e1 : 0 ≤ x * 256 ^ l.length := Int.mul_nonneg hx.1 (by omega)
    have e2 : x * 256 ^ l.length ≤ 255 * 256 ^ l.length := Int.mul_le_mul_of_nonneg_right hx.2 (by omega)
    omega
theorem refNumber_l (m : Nat) : ∀ (k : Nat) (s : ByteArray) (i : Nat), m < k → s.size - i = m → i ≤ s.size → s.size ≤ 7 →
    roadbookref08_Number.l0 k s (num ((bytesOf s).take i)) i = some (num (bytesOf s)) := by
  induction m with
  | zero =>
    intro k s i hk hm hi hs
    obtain ⟨k, rfl⟩ : ∃ j, k = j + 1 := ⟨k - 1, by omega⟩
    simp only [roadbookref08_Number.l0]
    rw [if_neg (by omega), List.take_of_length_le (by rw [len_bytesOf]; omega)]
  | succ m ih =>
    intro k s i hk hm hi hs
    obtain ⟨k, rfl⟩ : ∃ j, k = j + 1 := ⟨k - 1, by omega⟩
    simp only [roadbookref08_Number.l0]
    rw [if_pos (by omega), if_pos (by omega), if_pos (by omega)]
    have hr := num_range ((bytesOf s).take i) (fun x hx => bytesOf_range s x (List.mem_of_mem_take hx))
    rw [List.length_take, len_bytesOf] at hr
    have hp := pow_le7 (min i s.size) (by omega)
    have hp6 : (256 : Int) ^ (min i s.size) ≤ 281474976710656 := by
      have : min i s.size ≤ 6 := by omega
      generalize min i s.size = q at this
      have : q = 0 ∨ q = 1 ∨ q = 2 ∨ q = 3 ∨ q = 4 ∨ q = 5 ∨ q = 6 := by omega
      rcases this with rfl | rfl | rfl | rfl | rfl | rfl | rfl <;> decide
    have hb := bt_range s (i : Int)
    rw [wrap64_id (x := num ((bytesOf s).take i) * 256) (by omega) (by omega), wrap64_id (x := bt s (i : Int)) (by omega) (by omega), wrap64_id (by omega) (by omega), wrap64_id (by omega) (by omega)]
    have := ih k s (i + 1) (by omega) (by omega) (by omega) hs
    rw [num_take _ i (by rw [len_bytesOf]; omega), bytesOf_getD] at this
    exact this
theorem refNumber_f (s : ByteArray) (hs : s.size ≤ 7) (k : Nat) (hk : 8 < k) : roadbookref08_Number.f k s = some (num (bytesOf s)) :=
  refNumber_l s.size k s 0 (by omega) (by omega) (by omega) hs

/-- A part of bytes laid one behind the other. -/
theorem cut_at (p q r : ByteArray) (n m : Nat) (hn : p.size = n) (hm : n + q.size = m) : (p ++ (q ++ r)).extract n m = q := by
  refine ext_bt (by rw [size_ext, size_app, size_app]; omega) fun i hi => ?_
  rw [size_ext, size_app, size_app] at hi
  rw [bt_ext _ _ _ _ (by omega), size_app, size_app, if_pos (by omega), bt_app _ _ _ (by omega), if_neg (by omega), bt_app _ _ _ (by omega), if_pos (by omega)]
  congr 1; omega
theorem cut_end (p q : ByteArray) (n m : Nat) (hn : p.size = n) (hm : n + q.size = m) : (p ++ q).extract n m = q := by
  refine ext_bt (by rw [size_ext, size_app]; omega) fun i hi => ?_
  rw [size_ext, size_app] at hi
  rw [bt_ext _ _ _ _ (by omega), size_app, if_pos (by omega), bt_app _ _ _ (by omega), if_neg (by omega)]
  congr 1; omega
theorem cut_join (b : ByteArray) (i j k : Nat) (h1 : i ≤ j) (h2 : j ≤ k) (h3 : j ≤ b.size) : b.extract i j ++ b.extract j k = b.extract i k := by
  refine ext_bt (by rw [size_app, size_ext, size_ext, size_ext]; omega) fun q hq => ?_
  rw [size_app, size_ext, size_ext] at hq
  rw [bt_app _ _ _ (by omega), size_ext]
  by_cases c : q < min j b.size - i
  · rw [if_pos (by omega), bt_ext b i j _ (by omega), if_pos (by omega), bt_ext b i k _ (by omega), if_pos (by omega)]
  · rw [if_neg (by omega), bt_ext b j k _ (by omega), if_pos (by omega), bt_ext b i k _ (by omega), if_pos (by omega)]
    congr 1; omega
theorem cut_all (b : ByteArray) (k : Nat) (h : b.size ≤ k) : b.extract 0 k = b := by
  refine ext_bt (by rw [size_ext]; omega) fun q hq => ?_
  rw [size_ext] at hq
  rw [bt_ext _ _ _ _ (by omega), if_pos (by omega)]
  congr 1; omega
theorem bt_head (l : List Int) (h : ∀ x ∈ l, 0 ≤ x ∧ x ≤ 255) (r : ByteArray) (i : Nat) (hi : i < l.length) : bt (strOfNums l ++ r) (i : Int) = l.getD i 0 := by
  rw [bt_app _ _ _ (by omega), size_nums, if_pos (by omega), bt_bytes _ h]
theorem rleast_f (n : Int) (h0 : 0 ≤ n) (h1 : n ≤ 1000) : roadbookref04_Least.f n = some (least n) := by
  unfold roadbookref04_Least.f least
  rw [if_neg (by omega), if_neg (by omega), wrap64_id (x := n + 7) (by omega) (by omega), Int.tdiv_eq_ediv_of_nonneg (by omega), wrap64_id (by omega) (by omega)]
theorem fill_at (s : ByteArray) (n : Int) (h : n ≤ s.size) : fillP s n = s := by
  unfold fillP
  rw [show (n - (s.size : Int)).toNat = 0 by omega, List.replicate_zero, nums_nil]
  exact ByteArray.append_empty
theorem rfill_f (m : Nat) : ∀ (k : Nat) (s : ByteArray) (n : Int), m < k → (n - s.size).toNat = m → n ≤ 1000 → s.size ≤ 1000 → roadbookref04_Fill.f k s n = some (fillP s n) := by
  induction m with
  | zero =>
    intro k s n hk hm hn hs
    obtain ⟨k, rfl⟩ : ∃ j, k = j + 1 := ⟨k - 1, by omega⟩
    unfold roadbookref04_Fill.f
    rw [roadbookref04_Fill.l0, if_neg (by omega), fill_at s n (by omega)]
  | succ m ih =>
    intro k s n hk hm hn hs
    obtain ⟨k, rfl⟩ : ∃ j, k = j + 1 := ⟨k - 1, by omega⟩
    have z : (⟨#[0]⟩ : ByteArray).size = 1 := rfl
    have := ih k (s ++ ⟨#[0]⟩) n (by omega) (by rw [size_app, z]; omega) hn (by rw [size_app, z]; omega)
    unfold roadbookref04_Fill.f at this ⊢
    rw [roadbookref04_Fill.l0, if_pos (by omega), if_pos (by omega), this]
    congr 1
    unfold fillP
    have e : strOfNums (0 :: List.replicate (n - ((s.size + 1 : Nat) : Int)).toNat 0) = (⟨#[0]⟩ : ByteArray) ++ strOfNums (List.replicate (n - ((s.size + 1 : Nat) : Int)).toNat 0) := nums_app [0] _
    rw [size_app, z, show (n - (s.size : Int)).toNat = (n - ((s.size + 1 : Nat) : Int)).toNat + 1 by omega, List.replicate_succ, e, ← ByteArray.append_assoc]
theorem keep_fill (a : ByteArray) (n : Int) (h : keep a n = a) (h0 : 0 ≤ n) (h1 : n ≤ 8 * a.size) (ha : a.size ≤ 16) : fillP (cutP a n) a.size = a := by
  have hl : least n = (n + 7) / 8 := by unfold least; rw [if_neg (by omega)]
  have hcz : (cutP a n).size = (least n).toNat := by unfold cutP; rw [size_ext, keep_size]; omega
  conv => rhs; rw [← h]
  refine ext_bt (by rw [size_fill, hcz, keep_size]; omega) fun j hj => ?_
  rw [size_fill, hcz] at hj
  rw [bt_fill, hcz, bt_keep a n j (by omega)]
  by_cases c : j < (least n).toNat
  · rw [if_pos c]
    unfold cutP
    rw [bt_ext _ _ _ _ (by omega), if_pos (by rw [keep_size]; omega), show ((0 : Nat) : Int) + (j : Int) = j by omega, bt_keep a n j (by omega)]
  · rw [if_neg c]
    unfold kb; rw [if_pos (by omega)]
theorem cut_z (a : ByteArray) (n : Int) (h0 : 0 ≤ n) (h1 : n ≤ 8 * a.size) : (cutP a n).size = ((n + 7) / 8).toNat := by
  unfold cutP least
  rw [size_ext, keep_size, if_neg (by omega)]; omega
theorem cut_link (a L : ByteArray) (n : Int) (hz : a.size = 16) (hkp : keep a n = a) (h0 : 64 ≤ n) (h1 : n ≤ 128) (hl : a.extract 0 8 = L) : L ++ (cutP a n).extract 8 (cutP a n).size = cutP a n := by
  have zc := cut_z a n (by omega) (by omega)
  have h8 : (cutP a n).extract 0 8 = L := by
    rw [← hl]
    have e : cutP a n = a.extract 0 ((n + 7) / 8).toNat := by
      unfold cutP least
      rw [hkp, if_neg (by omega)]
      congr 1
      omega
    rw [e]
    refine ext_bt (by rw [size_ext, size_ext, size_ext]; omega) fun i hi => ?_
    rw [size_ext, size_ext] at hi
    rw [bt_ext _ _ _ _ (by omega), size_ext, if_pos (by omega), bt_ext _ _ _ _ (by omega), if_pos (by omega), bt_ext _ _ _ _ (by omega), if_pos (by omega)]
    congr 1
    omega
  rw [← h8, cut_join _ 0 8 _ (by omega) (by omega) (by omega), cut_all _ _ (Nat.le_refl _)]
theorem fill_link (L y : ByteArray) (hL : L.size = 8) (hy : y.size ≤ 8) : L ++ fillP y 8 = fillP (L ++ y) 16 := by
  unfold fillP
  rw [ByteArray.append_assoc, size_app, hL, show ((8 : Int) - y.size).toNat = ((16 : Int) - ((8 + y.size : Nat) : Int)).toNat by omega]
theorem rlong_f (y : ByteArray) (hy : y.size = 8) : roadbookref06_Long.f y = some ((⟨#[254, 128, 0, 0, 0, 0, 0, 0]⟩ : ByteArray) ++ y, true) := by
  have zl : (⟨#[254, 128, 0, 0, 0, 0, 0, 0]⟩ : ByteArray).size = 8 := rfl
  unfold roadbookref06_Long.f roadbookref06_link.f
  rw [if_pos (by omega), Option.bind_some, if_pos (by omega)]
theorem rwhole3 (a : ByteArray) (n : Int) (hz : a.size = 16) (hkp : keep a n = a) (h0 : 64 ≤ n) (h1 : n ≤ 128) (hl : LinkIs a) (k : Nat) (hk : 400 ≤ k) : roadbookref21_Whole.f k 3 ((cutP a n).extract 8 (cutP a n).size) n = some a := by
  have e := keep_fill a n hkp (by omega) (by omega) (by omega)
  have zc := cut_z a n (by omega) (by omega)
  have zl : (⟨#[254, 128, 0, 0, 0, 0, 0, 0]⟩ : ByteArray).size = 8 := rfl
  have c := cut_link a _ n hz hkp h0 h1 hl.2
  have zy : ((cutP a n).extract 8 (cutP a n).size).size ≤ 8 := by rw [size_ext, Nat.min_self, zc]; omega
  generalize (cutP a n).extract 8 (cutP a n).size = y at c zy ⊢
  have ef : (⟨#[254, 128, 0, 0, 0, 0, 0, 0]⟩ : ByteArray) ++ fillP y 8 = a := by
    rw [fill_link _ y zl zy, c]
    rw [hz] at e
    exact e
  unfold roadbookref21_Whole.f
  rw [if_neg (by decide), if_neg (by decide), if_pos rfl, rfill_f _ k y 8 (by omega) rfl (by omega) (by omega), Option.bind_some, rlong_f _ (by rw [size_fill]; omega), Option.bind_some]
  dsimp only
  rw [ef, refKeep_f a n (by omega) k (by omega), Option.bind_some, hkp]
def base (ae : Int) : Nat := if ae = 3 then 8 else 0
theorem rwhole_f (ae : Int) (a : ByteArray) (n : Int) (I : InOk ae a n) (k : Nat) (hk : 400 ≤ k) : roadbookref21_Whole.f k ae ((cutP a n).extract (base ae) (cutP a n).size) n = some a := by
  unfold roadbookref21_Whole.f base
  obtain ⟨hkp, I⟩ := I
  rcases I with q | q | q | q
  · rw [if_neg (by omega), if_neg (by omega), if_neg (by omega)]
    congr 1
    exact ext_bt (by have := q.2.1; have z : (⟨#[]⟩ : ByteArray).size = 0 := rfl; omega) (fun i hi => by have z : (⟨#[]⟩ : ByteArray).size = 0 := rfl; omega)
  · have e := keep_fill a n hkp q.2.2.1 (by omega) (by omega)
    have zc : (cutP a n).size ≤ 16 := by unfold cutP; rw [size_ext, keep_size]; omega
    rw [if_pos q.1, if_neg (by omega), cut_all _ _ (Nat.le_refl _), rfill_f _ k _ 4 (by omega) rfl (by omega) (by omega), Option.bind_some, show (4 : Int) = a.size by omega, e, refKeep_f a n (by omega) k (by omega), Option.bind_some, hkp]
  · have e := keep_fill a n hkp q.2.2.1 (by omega) (by omega)
    have zc : (cutP a n).size ≤ 16 := by unfold cutP; rw [size_ext, keep_size]; omega
    rw [if_neg (by omega), if_pos q.1, if_neg (by omega), cut_all _ _ (Nat.le_refl _), rfill_f _ k _ 16 (by omega) rfl (by omega) (by omega), Option.bind_some, show (16 : Int) = a.size by omega, e, refKeep_f a n (by omega) k (by omega), Option.bind_some, hkp]
  · obtain ⟨rfl, z, h0, h1, hl⟩ := q
    have := rwhole3 a n z hkp h0 h1 hl k hk
    unfold roadbookref21_Whole.f at this
    exact this

theorem bareq11 (a1 : Int) (a2 : Int) (a3 : ByteArray) (a4 : Int) (a5 : Int) (a6 : ByteArray) (a7 : Int) (a8 : Int) (a9 : ByteArray) (a10 : Int) (a11 : ByteArray) (a12 : Int) (a13 : Int) (a14 : Int) (a15 : Int) (a16 : Int) (a17 : Int) (a18 : Int) (a19 : ByteArray) (a20 : ByteArray) (a21 : List S78) (a22 : Int) (a23 : ByteArray) (a24 : List S80) : msg_Bare.b 11 a1 a2 a3 a4 a5 a6 a7 a8 a9 a10 a11 a12 a13 a14 a15 a16 a17 a18 a19 a20 a21 a22 a23 a24 = true ↔ (a1 = 0 ∧ a2 = 0 ∧ a3 = (⟨#[]⟩ : ByteArray) ∧ a4 = 0 ∧ a8 = 0 ∧ a13 = 0 ∧ a15 = 0 ∧ a16 = 0 ∧ a17 = 0 ∧ a18 = 0 ∧ a19 = (⟨#[]⟩ : ByteArray) ∧ a20 = (⟨#[]⟩ : ByteArray) ∧ a21 = ([] : List S78) ∧ a22 = 0 ∧ a23 = (⟨#[]⟩ : ByteArray)) := by
  rw [msg_Bare.b11]
  unfold msg_Bare.z
  simp only [Bool.and_eq_true, beq_iff_eq, beq_self_eq_true, toList_inj, true_and, and_true, Int.natCast_eq_zero, List.length_eq_zero_iff]
  constructor
  · intro h
    simp only [h, and_self]
  · intro h
    simp only [h, and_self]

def I64 (n : Int) : Prop := -9223372036854775808 ≤ n ∧ n ≤ 9223372036854775807
/-- The numbers that are looked at are such. -/
def Wf (x : S32) : Prop := I64 x.f7 ∧ I64 x.f10 ∧ I64 x.f12 ∧ I64 x.f14 ∧ I64 x.f16 ∧ I64 x.f17 ∧ I64 x.f18
/-- What an Update's metric, router-id and next hop are. -/
def MF (x : S32) : Prop := (x.f10 = 65535 ∧ x.f11 = (⟨#[]⟩ : ByteArray) ∧ x.f9 = (⟨#[]⟩ : ByteArray)) ∨ (x.f10 ≠ 65535 ∧ 0 < x.f5 ∧ x.f11.size = 8 ∧ (x.f9 = (⟨#[]⟩ : ByteArray) ∨ ∃ u, addr_Family.f x.f9 = some u ∧ ctx_Family.f x.f5 = some u))
def F2 (x : S32) : Prop := (0 ≤ x.f14 ∧ x.f14 < 65536) ∧ (0 ≤ x.f12 ∧ x.f12 < 65536) ∧ 0 ≤ x.f10 ∧ x.f10 < 65536
def UpdOk (x : S32) : Prop := InOk x.f5 x.f6 x.f7 ∧ (MF x ∧ F2 x) ∧ ((∀ y ∈ x.f24, okR 2 127 y) ∧ bytesS x.f24 ≤ 200) ∧ x = ⟨11, 0, 0, (⟨#[]⟩ : ByteArray), 0, x.f5, x.f6, x.f7, 0, x.f9, x.f10, x.f11, x.f12, 0, x.f14, 0, 0, 0, 0, (⟨#[]⟩ : ByteArray), (⟨#[]⟩ : ByteArray), [], 0, (⟨#[]⟩ : ByteArray), x.f24⟩
theorem fits2 (n : Int) (h : I64 n) : ∃ r, octet_Fits.f n 2 = some r ∧ (r = true → 0 ≤ n ∧ n < 65536) := ⟨_, octet_Fits_f n 2 h.1 h.2, fun hr => ⟨(octFits_iff.mp hr).2.2.1, by have := (octFits_iff.mp hr).2.2.2; exact this⟩⟩
theorem nil_iff (a : ByteArray) : a.toList = ([] : List UInt8) ↔ a = (⟨#[]⟩ : ByteArray) := by
  have e : (⟨#[]⟩ : ByteArray).toList = [] := by rw [ByteArray.toList_eq]
  have h := toList_inj (a := a) (b := (⟨#[]⟩ : ByteArray))
  rwa [e] at h
theorem no_ {P : Prop} (h : false = true) : P := Bool.noConfusion h
theorem ctxj1_ex (x : S32) (F : FewB x) (k : Nat) (hk : 1 ≤ k) (b : Bool) : ∃ r, ctx_Right.j1 k b x.f0 x.f1 x.f2 x.f3 x.f4 x.f5 x.f6 x.f7 x.f8 x.f9 x.f10 x.f11 x.f12 x.f13 x.f14 x.f15 x.f16 x.f17 x.f18 x.f19 x.f20 x.f21 x.f22 x.f23 x.f24 = some r ∧ (r = true → b = false ∧ MF x) := by
  obtain ⟨k, rfl⟩ : ∃ j, k = j + 1 := ⟨k - 1, by omega⟩
  rw [ctx_Right.j1]
  cases b
  rotate_left
  · rw [if_pos rfl]; exact ⟨false, rfl, no_⟩
  rw [if_neg Bool.false_ne_true]
  by_cases c : x.f10 = 65535
  · have := F.2.2.2.1
    rw [if_pos c, if_pos (by omega)]
    refine ⟨_, rfl, fun h => ⟨rfl, Or.inl ⟨c, ?_⟩⟩⟩
    have h := congrArg ByteArray.size ((nil_iff _).mp (beq_iff_eq.mp h))
    rw [size_app] at h
    have z : (⟨#[]⟩ : ByteArray).size = 0 := rfl
    have n0 : ∀ a : ByteArray, a.size = 0 → a = ⟨#[]⟩ := fun a ha => ext_bt (by omega) (fun i hi => by omega)
    exact ⟨n0 _ (by omega), n0 _ (by omega)⟩
  rw [if_neg c]
  by_cases d : x.f5 > 0
  rotate_left
  · rw [if_neg d]; exact ⟨false, rfl, no_⟩
  rw [if_pos d]
  by_cases e : (x.f11.size : Int) = 8
  rotate_left
  · rw [if_neg e]; exact ⟨false, rfl, no_⟩
  rw [if_pos e]
  obtain ⟨u, hu⟩ : ∃ u, addr_Family.f x.f9 = some u := by unfold addr_Family.f; split; exact ⟨_, rfl⟩; split <;> exact ⟨_, rfl⟩
  obtain ⟨v, hv⟩ : ∃ v, ctx_Family.f x.f5 = some v := by unfold ctx_Family.f; split; exact ⟨_, rfl⟩; split; exact ⟨_, rfl⟩; split <;> exact ⟨_, rfl⟩
  obtain ⟨z, hz, hzt⟩ : ∃ z, ctx_either.f x.f9 (u == v) = some z ∧ (z = true → x.f9 = ⟨#[]⟩ ∨ u = v) := by
    unfold ctx_either.f
    split
    · next h => exact ⟨_, rfl, fun _ => Or.inl ((nil_iff _).mp h)⟩
    · exact ⟨_, rfl, fun h => Or.inr (beq_iff_eq.mp h)⟩
  rw [hu, Option.bind_some, hv, Option.bind_some, hz, Option.bind_some]
  exact ⟨_, rfl, fun hr => ⟨rfl, Or.inr ⟨c, d, by omega, (hzt hr).imp id (fun e => ⟨u, hu, by rw [hv, e]⟩)⟩⟩⟩
theorem ctxj0_ex (x : S32) (F : FewB x) (W : Wf x) (k : Nat) (hk : 2 ≤ k) (b : Bool) : ∃ r, ctx_Right.j0 k b x.f0 x.f1 x.f2 x.f3 x.f4 x.f5 x.f6 x.f7 x.f8 x.f9 x.f10 x.f11 x.f12 x.f13 x.f14 x.f15 x.f16 x.f17 x.f18 x.f19 x.f20 x.f21 x.f22 x.f23 x.f24 = some r ∧ (r = true → b = false ∧ MF x ∧ F2 x) := by
  obtain ⟨k, rfl⟩ : ∃ j, k = j + 1 := ⟨k - 1, by omega⟩
  rw [ctx_Right.j0]
  cases b
  rotate_left
  · rw [if_pos rfl]; exact ⟨false, rfl, no_⟩
  rw [if_neg Bool.false_ne_true]
  obtain ⟨r1, e1, i1⟩ := fits2 x.f14 W.2.2.2.1
  obtain ⟨r2, e2, i2⟩ := fits2 x.f12 W.2.2.1
  obtain ⟨r3, e3, i3⟩ := fits2 x.f10 W.2.1
  rw [e1, Option.bind_some]
  have no : ∃ r, ctx_Right.j1 k true x.f0 x.f1 x.f2 x.f3 x.f4 x.f5 x.f6 x.f7 x.f8 x.f9 x.f10 x.f11 x.f12 x.f13 x.f14 x.f15 x.f16 x.f17 x.f18 x.f19 x.f20 x.f21 x.f22 x.f23 x.f24 = some r ∧ (r = true → false = false ∧ MF x ∧ F2 x) := by
    obtain ⟨r, e, h⟩ := ctxj1_ex x F k (by omega) true
    exact ⟨r, e, fun hr => no_ (h hr).1.symm⟩
  cases r1
  · rw [if_neg Bool.false_ne_true]; exact no
  rw [if_pos rfl, e2, Option.bind_some]
  cases r2
  · rw [if_neg Bool.false_ne_true]; exact no
  rw [if_pos rfl, e3, Option.bind_some]
  obtain ⟨r, e, h⟩ := ctxj1_ex x F k (by omega) (!r3)
  exact ⟨r, e, fun hr => ⟨rfl, (h hr).2, i1 rfl, i2 rfl, i3 (by have := (h hr).1; cases r3; exact no_ this.symm; rfl)⟩⟩
theorem ctxright_ex (x : S32) (F : FewB x) (W : Wf x) (k : Nat) (hk : 100 ≤ k) : ∃ r, ctx_Right.f k x.f0 x.f1 x.f2 x.f3 x.f4 x.f5 x.f6 x.f7 x.f8 x.f9 x.f10 x.f11 x.f12 x.f13 x.f14 x.f15 x.f16 x.f17 x.f18 x.f19 x.f20 x.f21 x.f22 x.f23 x.f24 = some r ∧ (r = true → UpdOk x) := by
  have no : ∃ r, ctx_Right.j0 k true x.f0 x.f1 x.f2 x.f3 x.f4 x.f5 x.f6 x.f7 x.f8 x.f9 x.f10 x.f11 x.f12 x.f13 x.f14 x.f15 x.f16 x.f17 x.f18 x.f19 x.f20 x.f21 x.f22 x.f23 x.f24 = some r ∧ (r = true → UpdOk x) := by
    obtain ⟨r, e, h⟩ := ctxj0_ex x F W k (by omega) true
    exact ⟨r, e, fun hr => no_ (h hr).1.symm⟩
  unfold ctx_Right.f msg_Bare.f
  by_cases c : x.f0 = 11
  rotate_left
  · rw [if_neg c]; exact no
  rw [if_pos c, Option.bind_some]
  cases hb : msg_Bare.b x.f0 x.f1 x.f2 x.f3 x.f4 x.f5 x.f6 x.f7 x.f8 x.f9 x.f10 x.f11 x.f12 x.f13 x.f14 x.f15 x.f16 x.f17 x.f18 x.f19 x.f20 x.f21 x.f22 x.f23 x.f24
  · rw [if_neg Bool.false_ne_true]; exact no
  rw [if_pos rfl]
  obtain ⟨s, e, hs⟩ := sright_f x.f24 F.2.1 F.2.2.2.2.2.2.2 k (by omega)
  rw [e, Option.bind_some]
  cases s
  · rw [if_neg Bool.false_ne_true]; exact no
  obtain ⟨i, e, hi⟩ := in_ex x.f5 x.f6 x.f7 (by have := F.2.2.1; omega) W.1.1
  rw [if_pos rfl, e, Option.bind_some]
  obtain ⟨r, e, h⟩ := ctxj0_ex x F W k (by omega) (!i)
  refine ⟨r, e, fun hr => ⟨hi (by have := (h hr).1; cases i; exact no_ this.symm; rfl), (h hr).2, hs rfl, ?_⟩⟩
  rw [c] at hb
  obtain ⟨b1, b2, b3, b4, b5, b6, b7, b8, b9, b10, b11, b12, b13, b14, b15⟩ := (bareq11 x.f1 x.f2 x.f3 x.f4 x.f5 x.f6 x.f7 x.f8 x.f9 x.f10 x.f11 x.f12 x.f13 x.f14 x.f15 x.f16 x.f17 x.f18 x.f19 x.f20 x.f21 x.f22 x.f23 x.f24).mp hb
  cases x
  dsimp only at c b1 b2 b3 b4 b5 b6 b7 b8 b9 b10 b11 b12 b13 b14 b15 ⊢
  subst c b1 b2 b3 b4 b5 b6 b7 b8 b9 b10 b11 b12 b13 b14 b15
  rfl
theorem routej_ex (x : S32) (W : Wf x) (k : Nat) (hk : 1 ≤ k) (b : Bool) : ∃ r, route_Right.j0 k b x.f0 x.f1 x.f2 x.f3 x.f4 x.f5 x.f6 x.f7 x.f8 x.f9 x.f10 x.f11 x.f12 x.f13 x.f14 x.f15 x.f16 x.f17 x.f18 x.f19 x.f20 x.f21 x.f22 x.f23 x.f24 = some r ∧ (r = true → b = false) := by
  obtain ⟨k, rfl⟩ : ∃ j, k = j + 1 := ⟨k - 1, by omega⟩
  rw [route_Right.j0]
  cases b
  rotate_left
  · rw [if_pos rfl]; exact ⟨false, rfl, no_⟩
  rw [if_neg Bool.false_ne_true]
  obtain ⟨r1, e1⟩ := fits_ex x.f12 2 W.2.2.1
  obtain ⟨r2, e2⟩ := fits_ex x.f16 1 W.2.2.2.2.1
  rw [e1, Option.bind_some, e2, Option.bind_some]
  repeat' split
  all_goals exact ⟨_, rfl, fun _ => rfl⟩
theorem routeright_ex (x : S32) (F : FewB x) (W : Wf x) (k : Nat) (hk : 100 ≤ k) : ∃ r, route_Right.f k x.f0 x.f1 x.f2 x.f3 x.f4 x.f5 x.f6 x.f7 x.f8 x.f9 x.f10 x.f11 x.f12 x.f13 x.f14 x.f15 x.f16 x.f17 x.f18 x.f19 x.f20 x.f21 x.f22 x.f23 x.f24 = some r ∧ (r = true → InOk x.f5 x.f6 x.f7) := by
  have no : ∃ r, route_Right.j0 k true x.f0 x.f1 x.f2 x.f3 x.f4 x.f5 x.f6 x.f7 x.f8 x.f9 x.f10 x.f11 x.f12 x.f13 x.f14 x.f15 x.f16 x.f17 x.f18 x.f19 x.f20 x.f21 x.f22 x.f23 x.f24 = some r ∧ (r = true → InOk x.f5 x.f6 x.f7) := by
    obtain ⟨r, e, h⟩ := routej_ex x W k (by omega) true
    exact ⟨r, e, fun hr => no_ (h hr).symm⟩
  unfold route_Right.f msg_Bare.f
  rw [Option.bind_some]
  cases hb : msg_Bare.b x.f0 x.f1 x.f2 x.f3 x.f4 x.f5 x.f6 x.f7 x.f8 x.f9 x.f10 x.f11 x.f12 x.f13 x.f14 x.f15 x.f16 x.f17 x.f18 x.f19 x.f20 x.f21 x.f22 x.f23 x.f24
  · rw [if_neg Bool.false_ne_true]; exact no
  rw [if_pos rfl]
  obtain ⟨s, e, hs⟩ := sright_f x.f24 F.2.1 F.2.2.2.2.2.2.2 k (by omega)
  rw [e, Option.bind_some]
  cases s
  · rw [if_neg Bool.false_ne_true]; exact no
  obtain ⟨i, e, hi⟩ := in_ex x.f5 x.f6 x.f7 (by have := F.2.2.1; omega) W.1.1
  rw [if_pos rfl, e, Option.bind_some]
  obtain ⟨r, e, h⟩ := routej_ex x W k (by omega) (!i)
  exact ⟨r, e, fun hr => hi (by have := h hr; cases i; exact no_ this.symm; rfl)⟩
theorem faddr_ex (n : Int) (a : ByteArray) : ∃ r, field_address.f n a = some r := by
  unfold field_address.f
  obtain ⟨u, hu⟩ : ∃ u, addr_Family.f a = some u := by unfold addr_Family.f; split; exact ⟨_, rfl⟩; split <;> exact ⟨_, rfl⟩
  obtain ⟨l, hl, _⟩ := link_ex a
  rw [hu, hl]
  repeat' split
  all_goals exact ⟨_, rfl⟩
theorem fieldj2_ex (x : S32) (k : Nat) (hk : 1 ≤ k) (b : Bool) (hb : b = true → x.f0 = 7 ∨ x.f0 = 8) : ∃ r, field_Right.j2 k x.f0 b x.f0 x.f1 x.f2 x.f3 x.f4 x.f5 x.f6 x.f7 x.f8 x.f9 x.f10 x.f11 x.f12 x.f13 x.f14 x.f15 x.f16 x.f17 x.f18 x.f19 x.f20 x.f21 x.f22 x.f23 x.f24 = some r ∧ (r = true → 7 ≤ x.f0 ∧ x.f0 ≤ 10) := by
  obtain ⟨k, rfl⟩ : ∃ j, k = j + 1 := ⟨k - 1, by omega⟩
  rw [field_Right.j2]
  cases b
  rotate_left
  · rw [if_pos rfl]; exact ⟨true, rfl, fun _ => by have := hb rfl; omega⟩
  rw [if_neg Bool.false_ne_true]
  by_cases c : x.f0 = 9
  · rw [if_pos c]
    split
    · exact ⟨_, rfl, fun _ => by omega⟩
    · exact ⟨_, rfl, fun _ => by omega⟩
  rw [if_neg c]
  by_cases d : x.f0 = 10
  · obtain ⟨r, e⟩ := faddr_ex x.f5 x.f19
    rw [if_pos d, e, Option.bind_some]; exact ⟨_, rfl, fun _ => by omega⟩
  rw [if_neg d]; exact ⟨false, rfl, no_⟩
theorem fieldj1_ex (x : S32) (k : Nat) (hk : 2 ≤ k) (b : Bool) : ∃ r, field_Right.j1 k b x.f0 x.f1 x.f2 x.f3 x.f4 x.f5 x.f6 x.f7 x.f8 x.f9 x.f10 x.f11 x.f12 x.f13 x.f14 x.f15 x.f16 x.f17 x.f18 x.f19 x.f20 x.f21 x.f22 x.f23 x.f24 = some r ∧ (r = true → 7 ≤ x.f0 ∧ x.f0 ≤ 10) := by
  obtain ⟨k, rfl⟩ : ∃ j, k = j + 1 := ⟨k - 1, by omega⟩
  rw [field_Right.j1]
  cases b
  rotate_left
  · rw [if_pos rfl]; exact ⟨false, rfl, no_⟩
  rw [if_neg Bool.false_ne_true]
  by_cases c : x.f0 = 7
  · rw [if_pos c]; exact fieldj2_ex x k (by omega) _ (fun h => Or.inl (beq_iff_eq.mp h))
  · rw [if_neg c]; exact fieldj2_ex x k (by omega) _ (fun h => Or.inr (beq_iff_eq.mp h))
theorem fieldl_ex (x : S32) (F : FewB x) (l : List Int) (hl : ∀ n ∈ l, I64 n) (h4 : l.length ≤ 4) (m : Nat) : ∀ (k i : Nat), 100 + m ≤ k → l.length - i = m → i ≤ l.length → ∃ r, field_Right.l0 k l (l.length : Int) (i : Int) x.f0 x.f1 x.f2 x.f3 x.f4 x.f5 x.f6 x.f7 x.f8 x.f9 x.f10 x.f11 x.f12 x.f13 x.f14 x.f15 x.f16 x.f17 x.f18 x.f19 x.f20 x.f21 x.f22 x.f23 x.f24 = some r ∧ (r = true → 7 ≤ x.f0 ∧ x.f0 ≤ 10) := by
  induction m with
  | zero =>
    intro k i hk hm hi
    obtain ⟨k, rfl⟩ : ∃ j, k = j + 1 := ⟨k - 1, by omega⟩
    rw [field_Right.l0]
    unfold msg_Bare.f
    rw [if_neg (by omega), Option.bind_some]
    cases hb : msg_Bare.b x.f0 x.f1 x.f2 x.f3 x.f4 x.f5 x.f6 x.f7 x.f8 x.f9 x.f10 x.f11 x.f12 x.f13 x.f14 x.f15 x.f16 x.f17 x.f18 x.f19 x.f20 x.f21 x.f22 x.f23 x.f24
    · rw [if_neg Bool.false_ne_true]; exact fieldj1_ex x k (by omega) true
    obtain ⟨s, e, hs⟩ := sright_f x.f24 F.2.1 F.2.2.2.2.2.2.2 k (by omega)
    rw [if_pos rfl, e, Option.bind_some]
    exact fieldj1_ex x k (by omega) _
  | succ m ih =>
    intro k i hk hm hi
    obtain ⟨k, rfl⟩ : ∃ j, k = j + 1 := ⟨k - 1, by omega⟩
    have hr : I64 (rd l (i : Int)) := by
      unfold rd
      rw [Int.toNat_natCast, List.getD_eq_getElem?_getD, List.getElem?_eq_getElem (by omega)]
      exact hl _ (List.getElem_mem _)
    obtain ⟨r, e⟩ := fits_ex (rd l (i : Int)) 2 hr
    rw [field_Right.l0]
    rw [if_pos (by omega), if_pos (by omega), if_pos (by omega), e, Option.bind_some]
    cases r
    · rw [if_neg Bool.false_ne_true]; exact ⟨false, rfl, no_⟩
    rw [if_pos rfl, wrap64_id (by omega) (by omega)]
    exact ih k (i + 1) (by omega) (by omega) (by omega)
theorem fieldright_ex (x : S32) (F : FewB x) (W : Wf x) (k : Nat) (hk : 104 ≤ k) : ∃ r, field_Right.f k x.f0 x.f1 x.f2 x.f3 x.f4 x.f5 x.f6 x.f7 x.f8 x.f9 x.f10 x.f11 x.f12 x.f13 x.f14 x.f15 x.f16 x.f17 x.f18 x.f19 x.f20 x.f21 x.f22 x.f23 x.f24 = some r ∧ (r = true → 7 ≤ x.f0 ∧ x.f0 ≤ 10) := by
  unfold field_Right.f
  rw [Option.bind_some]
  exact fieldl_ex x F [x.f17, x.f14, x.f12, x.f18] (fun n hn => by simp only [List.mem_cons, List.not_mem_nil, or_false] at hn; rcases hn with rfl | rfl | rfl | rfl; exact W.2.2.2.2.2.1; exact W.2.2.2.1; exact W.2.2.1; exact W.2.2.2.2.2.2) (Nat.le_refl _) 4 k 0 (by omega) rfl (Nat.zero_le _)
theorem leanj_ex (x : S32) (F : FewB x) (W : Wf x) (k : Nat) (hk : 105 ≤ k) (b : Bool) (hb : b = true → x.f0 = 12 ∨ x.f0 = 13) : ∃ r, lean_Right.j0 k x.f0 b x.f0 x.f1 x.f2 x.f3 x.f4 x.f5 x.f6 x.f7 x.f8 x.f9 x.f10 x.f11 x.f12 x.f13 x.f14 x.f15 x.f16 x.f17 x.f18 x.f19 x.f20 x.f21 x.f22 x.f23 x.f24 = some r ∧ (r = true → x.f0 = 14 → 10 < x.f22) := by
  obtain ⟨k, rfl⟩ : ∃ j, k = j + 1 := ⟨k - 1, by omega⟩
  rw [lean_Right.j0]
  unfold msg_Bare.f
  cases b
  rotate_left
  · obtain ⟨r, e, _⟩ := routeright_ex x F W k (by omega)
    rw [if_pos rfl, e, Option.bind_some]
    exact ⟨_, rfl, fun _ h => by have := hb rfl; omega⟩
  rw [if_neg Bool.false_ne_true]
  by_cases c : x.f0 = 14
  · rw [if_pos c, Option.bind_some]
    split
    · split
      · next h => split <;> exact ⟨_, rfl, fun _ _ => h⟩
      · exact ⟨false, rfl, no_⟩
    · exact ⟨false, rfl, no_⟩
  · obtain ⟨r, e, _⟩ := fieldright_ex x F W k (by omega)
    rw [if_neg c, e, Option.bind_some]
    exact ⟨_, rfl, fun _ h => absurd h c⟩
theorem leanright_ex (x : S32) (F : FewB x) (W : Wf x) (k : Nat) (hk : 105 ≤ k) : ∃ r, lean_Right.f k x.f0 x.f1 x.f2 x.f3 x.f4 x.f5 x.f6 x.f7 x.f8 x.f9 x.f10 x.f11 x.f12 x.f13 x.f14 x.f15 x.f16 x.f17 x.f18 x.f19 x.f20 x.f21 x.f22 x.f23 x.f24 = some r ∧ (r = true → (x.f0 = 11 → UpdOk x) ∧ (x.f0 = 14 → 10 < x.f22)) := by
  unfold lean_Right.f
  by_cases c : x.f0 = 11
  · obtain ⟨r, e, h⟩ := ctxright_ex x F W k (by omega)
    rw [if_pos c, e, Option.bind_some]
    exact ⟨_, rfl, fun hr => ⟨fun _ => h hr, fun h => by omega⟩⟩
  rw [if_neg c]
  by_cases d : x.f0 = 12
  · rw [if_pos d]
    obtain ⟨r, e, h⟩ := leanj_ex x F W k hk _ (fun h => Or.inl (beq_iff_eq.mp h))
    exact ⟨r, e, fun hr => ⟨fun g => absurd g c, h hr⟩⟩
  · rw [if_neg d]
    obtain ⟨r, e, h⟩ := leanj_ex x F W k hk _ (fun h => Or.inr (beq_iff_eq.mp h))
    exact ⟨r, e, fun hr => ⟨fun g => absurd g c, h hr⟩⟩

/-- TLVs of other kinds than an Update, at most so many. -/
def Oth (n : Nat) (a : List (Int × ByteArray)) : Prop := a.length ≤ n ∧ (fl a).size ≤ 257 * n ∧ ∀ p ∈ a, Okt p ∧ p.1 ≠ 8
theorem Oth.one {t : Int} {d : ByteArray} (h : t ≠ 8) : Oth 1 (one t d) := ⟨one_len t d, by have := one_size t d; omega, fun p hp => ⟨(one_ok t d p hp).1, by rw [(one_ok t d p hp).2]; exact h⟩⟩
theorem Oth.nil : Oth 0 [] := ⟨Nat.le_refl _, Nat.le_refl _, fun p hp => (by cases hp)⟩
theorem Oth.app {m n : Nat} {a b : List (Int × ByteArray)} (h : Oth m a) (g : Oth n b) : Oth (m + n) (a ++ b) := ⟨by rw [List.length_append]; have := h.1; have := g.1; omega, by rw [fl_app, size_app]; have := h.2.1; have := g.2.1; omega, fun p hp => by rcases List.mem_append.mp hp with q | q; exact h.2.2 p q; exact g.2.2 p q⟩
theorem Oth.up {m n : Nat} {a : List (Int × ByteArray)} (h : Oth m a) (g : m ≤ n) : Oth n a := ⟨by have := h.1; omega, by have := h.2.1; have := Nat.mul_le_mul_left 257 g; omega, h.2.2⟩
def Far (a : List (Int × ByteArray)) : Prop := ∀ p ∈ a, p.1 < 6 ∨ 8 < p.1
theorem far_one {t : Int} {d : ByteArray} (h : t < 6 ∨ 8 < t) : Far (one t d) := fun p hp => by rw [(one_ok t d p hp).2]; exact h
theorem far_nil : Far [] := fun p hp => (by cases hp)
theorem fieldw_ex (x : S32) (F : FewB x) (h7 : 7 ≤ x.f0) (h10 : x.f0 ≤ 10) (k : Nat) (hk : 10 ≤ k) : ∃ ys, field_Put.w k x.f0 x.f5 x.f12 x.f14 x.f15 x.f17 x.f18 x.f19 = some ys ∧ ys.length ≤ 1000 := by
  unfold field_Put.w
  by_cases c7 : x.f0 = 7
  · obtain ⟨zs, e, h⟩ := two_ex [0, x.f17, x.f14] (by simp) k [] (by simp only [List.length_cons, List.length_nil]; omega) (by simp)
    rw [if_pos c7, e]
    exact ⟨_, rfl, by simp only [List.length_append, List.length_cons, List.length_nil] at h ⊢; omega⟩
  rw [if_neg c7]
  by_cases c8 : x.f0 = 8
  · obtain ⟨zs, e, h⟩ := two_ex [x.f17] (by simp) k [] (by simp only [List.length_cons, List.length_nil]; omega) (by simp)
    rw [if_pos c8, e]
    exact ⟨_, rfl, by simp only [List.length_append, List.length_cons, List.length_nil] at h ⊢; omega⟩
  rw [if_neg c8]
  by_cases c9 : x.f0 = 9
  · obtain ⟨zs, e, h⟩ := two_ex [wrap64 (x.f15 * 32768), x.f12, x.f14] (by simp) k [] (by simp only [List.length_cons, List.length_nil]; omega) (by simp)
    rw [if_pos c9, e]
    exact ⟨_, rfl, by simp only [List.length_append, List.length_cons, List.length_nil] at h ⊢; omega⟩
  rw [if_neg c9, if_pos (by omega)]
  obtain ⟨zs, e, h⟩ := two_ex [wrap64 (x.f5 * 256), x.f18, x.f14] (by simp) k [] (by simp only [List.length_cons, List.length_nil]; omega) (by simp)
  obtain ⟨s, b, e2, hs⟩ := short_ex x.f19
  have z : (if b = true ∧ x.f5 = 3 then s else x.f19).size ≤ 200 := by have := F.2.2.2.2.1; split <;> omega
  rw [e, Option.bind_some, e2, Option.bind_some]
  dsimp only
  rw [List.nil_append, if_pos (by simp only [List.length_cons, List.length_nil] at h; omega)]
  exact ⟨_, rfl, by simp only [List.length_append, List.length_cons, List.length_nil, len_bytesOf] at h ⊢; omega⟩
theorem fieldput_ex (x : S32) (F : FewB x) (W : Wf x) (k : Nat) (hk : 104 ≤ k) : ∃ a b, field_Put.f k x.f0 x.f1 x.f2 x.f3 x.f4 x.f5 x.f6 x.f7 x.f8 x.f9 x.f10 x.f11 x.f12 x.f13 x.f14 x.f15 x.f16 x.f17 x.f18 x.f19 x.f20 x.f21 x.f22 x.f23 x.f24 = some (fl a, b) ∧ Oth 1 a ∧ Far a := by
  unfold field_Put.f
  obtain ⟨r, e, h⟩ := fieldright_ex x F W k hk
  rw [e, Option.bind_some]
  cases r
  · rw [if_neg Bool.false_ne_true]; exact ⟨[], false, rfl, Oth.nil.up (by decide), far_nil⟩
  obtain ⟨h7, h10⟩ := h rfl
  obtain ⟨ys, e, hy⟩ := fieldw_ex x F h7 h10 k (by omega)
  obtain ⟨s, b, e2, hs⟩ := sput_ex x.f24 F.2.1 F.2.2.2.2.2.2.2 k (by omega)
  rw [if_pos rfl, e, Option.bind_some]
  unfold field_Put.c
  rw [e2, Option.bind_some, if_pos (by dsimp only; omega), wrap64_id (x := x.f0 - 7) (by omega) (by omega), wrap64_id (x := x.f0 - 7 + 2) (by omega) (by omega)]
  obtain ⟨c, e3⟩ := fput_f (x.f0 - 7 + 2) (strOfNums ys ++ s)
  exact ⟨_, c, e3, Oth.one (by omega), far_one (by omega)⟩
theorem cut_size (a : ByteArray) (n : Int) : ((cutP a n).size : Int) = min (least n) a.size := by
  unfold cutP
  have : 0 ≤ least n := by unfold least; split <;> omega
  rw [size_ext, keep_size]; omega
theorem routeput_ex (x : S32) (F : FewB x) (W : Wf x) (k : Nat) (hk : 104 ≤ k) : ∃ a b, route_Put.f k x.f0 x.f1 x.f2 x.f3 x.f4 x.f5 x.f6 x.f7 x.f8 x.f9 x.f10 x.f11 x.f12 x.f13 x.f14 x.f15 x.f16 x.f17 x.f18 x.f19 x.f20 x.f21 x.f22 x.f23 x.f24 = some (fl a, b) ∧ Oth 1 a ∧ Far a := by
  unfold route_Put.f
  obtain ⟨r, e, h⟩ := routeright_ex x F W k (by omega)
  rw [e, Option.bind_some]
  cases r
  · rw [if_neg Bool.false_ne_true]; exact ⟨[], false, rfl, Oth.nil.up (by decide), far_nil⟩
  have hin := h rfl
  obtain ⟨s, b, e2, hs⟩ := sput_ex x.f24 F.2.1 F.2.2.2.2.2.2.2 k (by omega)
  rw [if_pos rfl, e2, Option.bind_some]
  obtain ⟨ys, e3, hy⟩ : ∃ ys, route_Put.w x.f0 x.f5 x.f7 x.f12 x.f16 x.f11 = some ys ∧ ys.length ≤ 1000 := by
    have := F.2.2.2.1
    unfold route_Put.w
    split
    · rw [if_pos (by omega)]
      exact ⟨_, rfl, by simp only [List.length_append, List.length_cons, List.length_nil, len_bytesOf]; omega⟩
    · exact ⟨_, rfl, by simp⟩
  have n7 := W.1
  have n6 := F.2.2.1
  have h7 : x.f7 ≤ 128 := by rcases hin.2 with q | q | q | q <;> omega
  have zc := cut_size x.f6 x.f7
  obtain ⟨o, e4, ho, ho2⟩ : ∃ o, route_Put.b x.f5 = some o ∧ o ≤ ((cutP x.f6 x.f7).size : Int) ∧ 0 ≤ o := by
    unfold route_Put.b
    rcases hin.2 with q | q | q | q
    · rw [if_pos q.1]; exact ⟨0, rfl, by omega, by omega⟩
    · rw [if_neg (by omega), if_pos q.1]; exact ⟨0, rfl, by omega, by omega⟩
    · rw [if_neg (by omega), if_neg (by omega), if_pos q.1]; exact ⟨0, rfl, by omega, by omega⟩
    · have : least x.f7 = (x.f7 + 7) / 8 := by unfold least; rw [if_neg (by omega)]
      rw [if_neg (by omega), if_neg (by omega), if_neg (by omega), if_pos q.1]; exact ⟨8, rfl, by omega, by omega⟩
  have zx : ((cutP x.f6 x.f7).extract o.toNat (cutP x.f6 x.f7).size).size ≤ 200 := by rw [size_ext]; omega
  rw [e3, Option.bind_some]
  unfold route_Put.c
  rw [prefix_Cut_f x.f6 x.f7 (by omega) n7.1 (by omega), Option.bind_some, e4, Option.bind_some, if_pos ho, if_pos (by omega), if_pos (by rw [List.length_append, len_bytesOf]; dsimp only; omega)]
  obtain ⟨c, e5⟩ := fput_f (if x.f0 = 13 then 10 else 9) (strOfNums (ys ++ bytesOf ((cutP x.f6 x.f7).extract o.toNat (cutP x.f6 x.f7).size)) ++ s)
  exact ⟨_, c, e5, Oth.one (by split <;> decide), far_one (by split <;> decide)⟩
theorem otherj_ex (x : S32) (F : FewB x) (W : Wf x) (h : x.f0 = 14 → 10 < x.f22) (k : Nat) (hk : 105 ≤ k) (b : Bool) : ∃ a, lean_other.j0 k x.f0 b x.f0 x.f1 x.f2 x.f3 x.f4 x.f5 x.f6 x.f7 x.f8 x.f9 x.f10 x.f11 x.f12 x.f13 x.f14 x.f15 x.f16 x.f17 x.f18 x.f19 x.f20 x.f21 x.f22 x.f23 x.f24 = some (fl a) ∧ Oth 1 a ∧ Far a := by
  obtain ⟨k, rfl⟩ : ∃ j, k = j + 1 := ⟨k - 1, by omega⟩
  rw [lean_other.j0]
  cases b
  rotate_left
  · obtain ⟨a, b, e, h⟩ := routeput_ex x F W k (by omega)
    rw [if_pos rfl, e, Option.bind_some]; exact ⟨a, rfl, h⟩
  rw [if_neg Bool.false_ne_true]
  by_cases c : x.f0 = 14
  · obtain ⟨b, e⟩ := fput_f x.f22 x.f23
    rw [if_pos c, e, Option.bind_some]; exact ⟨_, rfl, Oth.one (by have := h c; omega), far_one (by have := h c; omega)⟩
  · obtain ⟨a, b, e, h⟩ := fieldput_ex x F W k (by omega)
    rw [if_neg c, e, Option.bind_some]; exact ⟨a, rfl, h⟩
theorem other_ex (x : S32) (F : FewB x) (W : Wf x) (h : x.f0 = 14 → 10 < x.f22) (k : Nat) (hk : 105 ≤ k) : ∃ a, lean_other.f k x.f0 x.f1 x.f2 x.f3 x.f4 x.f5 x.f6 x.f7 x.f8 x.f9 x.f10 x.f11 x.f12 x.f13 x.f14 x.f15 x.f16 x.f17 x.f18 x.f19 x.f20 x.f21 x.f22 x.f23 x.f24 = some (fl a) ∧ Oth 1 a ∧ Far a := by
  unfold lean_other.f
  split
  · exact otherj_ex x F W h k hk _
  · exact otherj_ex x F W h k hk _

/-- What is known of the default prefixes. -/
def PInv (p1 p2 p3 : ByteArray) : Prop := (p1 = ⟨#[]⟩ ∨ p1.size = 4) ∧ (p2 = ⟨#[]⟩ ∨ p2.size = 16) ∧ (p3 = ⟨#[]⟩ ∨ LinkIs p3)
theorem bytes_ex (x : S32) (F : FewB x) (W : Wf x) (I : InOk x.f5 x.f6 x.f7) : lean_bytes.f x.f0 x.f1 x.f2 x.f3 x.f4 x.f5 x.f6 x.f7 x.f8 x.f9 x.f10 x.f11 x.f12 x.f13 x.f14 x.f15 x.f16 x.f17 x.f18 x.f19 x.f20 x.f21 x.f22 x.f23 x.f24 = some ((cutP x.f6 x.f7).extract (base x.f5) (cutP x.f6 x.f7).size) ∧ base x.f5 ≤ (cutP x.f6 x.f7).size ∧ (cutP x.f6 x.f7).size ≤ 16 := by
  have n6 := F.2.2.1
  have h7 : x.f7 ≤ 128 := by rcases I.2 with q | q | q | q <;> omega
  have zc := cut_size x.f6 x.f7
  have hb : base x.f5 ≤ (cutP x.f6 x.f7).size := by
    unfold base
    split
    · have : least x.f7 = (x.f7 + 7) / 8 := by unfold least; rw [if_neg (by rcases I.2 with q | q | q | q <;> omega)]
      rcases I.2 with q | q | q | q <;> omega
    · exact Nat.zero_le _
  unfold lean_bytes.f lean_base.f
  rw [prefix_Cut_f x.f6 x.f7 (by omega) W.1.1 (by omega), Option.bind_some]
  refine ⟨?_, hb, by rcases I.2 with q | q | q | q <;> omega⟩
  unfold base at hb ⊢
  by_cases c : x.f5 = 3
  · rw [if_pos c] at hb
    rw [if_pos c, if_pos c, Option.bind_some, if_pos (by omega), if_pos (by omega)]; rfl
  · rw [if_neg c, if_neg c, Option.bind_some, if_pos (by omega), if_pos (by omega)]; rfl
/-- The default prefix of an encoding. -/
def defp (ae : Int) (p1 p2 p3 : ByteArray) : ByteArray := if ae = 1 then p1 else if ae = 2 then p2 else if ae = 3 then p3 else ⟨#[]⟩
/-- So many bytes are left out. -/
def Omit (x : S32) (q : ByteArray) (n : Int) : Prop := (q = ⟨#[]⟩ ∧ n = 0) ∨ (q ≠ ⟨#[]⟩ ∧ LeadIs (q.extract (base x.f5) q.size) ((cutP x.f6 x.f7).extract (base x.f5) (cutP x.f6 x.f7).size) n)
theorem defp_size {x : S32} {p1 p2 p3 : ByteArray} (P : PInv p1 p2 p3) (I : InOk x.f5 x.f6 x.f7) (h : defp x.f5 p1 p2 p3 ≠ ⟨#[]⟩) : (defp x.f5 p1 p2 p3).size = x.f6.size ∧ (x.f5 = 3 → LinkIs (defp x.f5 p1 p2 p3)) ∧ 1 ≤ x.f5 ∧ x.f5 ≤ 3 ∧ 4 ≤ x.f6.size := by
  unfold defp at h ⊢
  rcases I.2 with q | q | q | q
  · exact absurd (by rw [if_neg (by omega), if_neg (by omega), if_neg (by omega)]) h
  · rw [if_pos q.1] at h ⊢
    exact ⟨by rcases P.1 with e | e; exact absurd e h; omega, fun e => by omega, by omega, by omega, by omega⟩
  · rw [if_neg (by omega), if_pos q.1] at h ⊢
    exact ⟨by rcases P.2.1 with e | e; exact absurd e h; omega, fun e => by omega, by omega, by omega, by omega⟩
  · rw [if_neg (by omega), if_neg (by omega), if_pos q.1] at h ⊢
    rcases P.2.2 with e | e
    · exact absurd e h
    · exact ⟨by have := e.1; omega, fun _ => e, by omega, by omega, by omega⟩
theorem omitted_ex (x : S32) (F : FewB x) (W : Wf x) (I : InOk x.f5 x.f6 x.f7) (p1 p2 p3 : ByteArray) (P : PInv p1 p2 p3) (k : Nat) (hk : 300 ≤ k) : ∃ n, lean_writer_omitted.f k ⟨#[]⟩ p1 p2 p3 x.f0 x.f1 x.f2 x.f3 x.f4 x.f5 x.f6 x.f7 x.f8 x.f9 x.f10 x.f11 x.f12 x.f13 x.f14 x.f15 x.f16 x.f17 x.f18 x.f19 x.f20 x.f21 x.f22 x.f23 x.f24 = some n ∧ Omit x (defp x.f5 p1 p2 p3) n := by
  unfold lean_writer_omitted.f
  have eq : lean_writer_omitted.q ⟨#[]⟩ p1 p2 p3 x.f5 = some (defp x.f5 p1 p2 p3) := by
    unfold lean_writer_omitted.q defp
    rcases I.2 with q | q | q | q
    · rw [if_pos q.1, if_neg (by omega), if_neg (by omega), if_neg (by omega)]
    · rw [if_neg (by omega), if_pos q.1, if_pos q.1]
    · rw [if_neg (by omega), if_neg (by omega), if_pos q.1, if_neg (by omega), if_pos q.1]
    · rw [if_neg (by omega), if_neg (by omega), if_neg (by omega), if_pos q.1, if_neg (by omega), if_neg (by omega), if_pos q.1]
  obtain ⟨eb, hb, hb16⟩ := bytes_ex x F W I
  have n6 := F.2.2.1
  rw [eq, Option.bind_some]
  by_cases c : defp x.f5 p1 p2 p3 = ⟨#[]⟩
  · rw [if_pos ((nil_iff _).mpr c)]; exact ⟨0, rfl, Or.inl ⟨c, rfl⟩⟩
  rw [if_neg (fun h => c ((nil_iff _).mp h))]
  obtain ⟨z1, z2, z3, z4, z5⟩ := defp_size P I c
  have eb0 : lean_base.f x.f5 = some ((base x.f5 : Nat) : Int) := by unfold lean_base.f base; split <;> rfl
  have hq : base x.f5 ≤ (defp x.f5 p1 p2 p3).size := by have := cut_size x.f6 x.f7; omega
  obtain ⟨n, hn, en⟩ := prefix_Lead_ex ((defp x.f5 p1 p2 p3).extract (base x.f5) (defp x.f5 p1 p2 p3).size) ((cutP x.f6 x.f7).extract (base x.f5) (cutP x.f6 x.f7).size) (by rw [size_ext, Nat.min_self]; omega) (by rw [size_ext, Nat.min_self]; omega)
  rw [eb0, Option.bind_some, eb, Option.bind_some, if_pos (by omega), if_pos (by omega), Int.toNat_natCast, en k (by rw [size_ext, Nat.min_self]; omega)]
  exact ⟨n, rfl, Or.inr ⟨c, hn⟩⟩
theorem omit_size {x : S32} {q : ByteArray} {n : Int} (zc : (cutP x.f6 x.f7).size ≤ 16) (hb : base x.f5 ≤ (cutP x.f6 x.f7).size) (O : Omit x q n) : 0 ≤ n ∧ n ≤ 16 ∧ (q = ⟨#[]⟩ ∧ n = 0 ∨ n ≤ ((cutP x.f6 x.f7).size : Int) - base x.f5) := by
  rcases O with ⟨h, rfl⟩ | ⟨_, h⟩
  · exact ⟨by omega, by omega, Or.inl ⟨h, rfl⟩⟩
  · have l2 := h.2.2.1
    rw [size_ext, Nat.min_self] at l2
    have := h.1
    exact ⟨h.1, by omega, Or.inr (by omega)⟩

structure Cx where
  p1 : ByteArray
  p2 : ByteArray
  p3 : ByteArray
  h0 : ByteArray
  h1 : ByteArray
  id : ByteArray
/-- What a TLV does to what is known, and what it tells. -/
def St (k : Nat) (t : Int) (d : ByteArray) (c c' : Cx) (mo : Option S32) : Prop := roadbooktop_WholeResolved.st k t d c.p1 c.p2 c.p3 c.h0 c.h1 c.id c'.p1 c'.p2 c'.p3 c'.h0 c'.h1 c'.id mo
/-- TLVs that tell nothing but what is known. -/
def Ups : List (Int × ByteArray) → Cx → Cx → Prop
  | [], c, c' => c' = c
  | p :: r, c, c' => (p.1 = 6 ∨ p.1 = 7) ∧ Okt p ∧ ∃ c2, (∀ k, 500 ≤ k → St k p.1 p.2 c c2 none) ∧ Ups r c2 c'
theorem Ups.app {a b : List (Int × ByteArray)} : ∀ {c c1 c2 : Cx}, Ups a c c1 → Ups b c1 c2 → Ups (a ++ b) c c2 := by
  induction a with
  | nil => intro c c1 c2 h g; obtain rfl : c1 = c := h; exact g
  | cons p a ih => intro c c1 c2 h g; obtain ⟨h1, h2, c3, h3, h4⟩ := h; exact ⟨h1, h2, c3, h3, ih h4 g⟩
theorem Ups.ok {a : List (Int × ByteArray)} : ∀ {c c1 : Cx}, Ups a c c1 → ∀ p ∈ a, Okt p := by
  induction a with
  | nil => intro c c1 h p hp; cases hp
  | cons p a ih =>
    intro c c1 h q hq
    obtain ⟨h1, h2, c3, h3, h4⟩ := h
    rcases List.mem_cons.mp hq with rfl | hq
    · exact h2
    · exact ih h4 q hq
theorem ups_id (c : Cx) (a : ByteArray) (ha : a.size = 8) : Ups (one 6 ((⟨#[0, 0]⟩ : ByteArray) ++ a)) c { c with id := a } := by
  have z : (⟨#[0, 0]⟩ : ByteArray).size = 2 := rfl
  have zd : ((⟨#[0, 0]⟩ : ByteArray) ++ a).size = 10 := by rw [size_app, z]; omega
  unfold one
  rw [if_pos ⟨by decide, by decide, by omega⟩]
  refine ⟨Or.inl rfl, ⟨(by decide : (1 : Int) ≤ 6), (by decide : (6 : Int) ≤ 255), by dsimp only; omega⟩, { c with id := a }, fun k hk => ?_, rfl⟩
  refine Or.inl ⟨rfl, rfl, by dsimp only; omega, rfixed_f _ 10 (by dsimp only; omega) k (by omega), rfl, rfl, rfl, rfl, rfl, ?_⟩
  exact (cut_end (⟨#[0, 0]⟩ : ByteArray) a 2 10 rfl (by omega)).symm
theorem short_x (a : ByteArray) : ∃ s b, addr_Short.f a = some (s, b) ∧ s.size ≤ a.size ∧ (b = true → LinkIs a ∧ s = a.extract 8 a.size) := by
  unfold addr_Short.f
  obtain ⟨r, e, h⟩ := link_ex a
  rw [e, Option.bind_some]
  cases r with
  | false => rw [if_neg Bool.false_ne_true]; exact ⟨_, _, rfl, Nat.zero_le _, no_⟩
  | true =>
    have := (h rfl).1
    rw [if_pos rfl, if_pos (by omega)]
    exact ⟨_, _, rfl, by rw [size_ext]; omega, fun _ => ⟨h rfl, rfl⟩⟩
/-- What a next hop's TLV says. -/
theorem ho_of (c : Cx) (ae n0 f : Int) (x y : ByteArray) (b : Bool) (j : Nat) (g0 g1 : ByteArray) (h1 : 1 ≤ ae) (h3 : ae ≤ 3) (e0 : roadbookref20_Long.f ae = some n0) (hx : (x.size : Int) = n0) (hn : 0 ≤ n0 ∧ n0 ≤ 16) (hy : (ae ≠ 3 ∧ x = y) ∨ (ae = 3 ∧ roadbookref06_Long.f x = some (y, b))) (e3 : roadbookref22_Family.f ae = some f) (hia : ∀ g w, (Instr.indexAt 44 (.pointer (some ⟨g, 4, none⟩)) (.int .i64 f)).run Tryz.prog w = .ok (.pointer (some ⟨g, j, none⟩)) w) (hs7 : (#[.string (⟨#[]⟩ : ByteArray), .string c.p1, .string c.p2, .string c.p3, .string c.h0, .string c.h1, .string c.id] : Array Value).setIfInBounds j (.string y) = #[.string (⟨#[]⟩ : ByteArray), .string c.p1, .string c.p2, .string c.p3, .string g0, .string g1, .string c.id]) (hf : Nat.ble (j + 1) 7 = true) : Ups (one 7 (strOfNums [ae, 0] ++ x)) c { c with h0 := g0, h1 := g1 } := by
  have zd : (strOfNums [ae, 0] ++ x).size = 2 + x.size := by rw [size_app, size_nums]; rfl
  have b0 : bt (strOfNums [ae, 0] ++ x) 0 = ae := by
    have := bt_head [ae, 0] (fun v hv => by simp only [List.mem_cons, List.not_mem_nil, or_false] at hv; rcases hv with rfl | rfl <;> omega) x 0 (by simp)
    exact this
  unfold one
  rw [if_pos ⟨by decide, by decide, by omega⟩]
  refine ⟨Or.inr rfl, ⟨(by decide : (1 : Int) ≤ 7), (by decide : (7 : Int) ≤ 255), by dsimp only; omega⟩, { c with h0 := g0, h1 := g1 }, fun k hk => ?_, rfl⟩
  have w2 : wrap64 (2 + n0) = 2 + n0 := wrap64_id (by omega) (by omega)
  refine Or.inr (Or.inl ⟨rfl, rfl, rfl, rfl, rfl, rfl, x, y, ae, n0, f, b, j, ?_⟩)
  unfold roadbookref22_Step.Ho
  dsimp only
  refine ⟨by omega, by rw [b0]; exact wrap64_id (by omega) (by omega), ⟨h1, h3⟩, e0, ?_, by rw [w2]; omega, ?_, hy, e3, hia, hs7, hf⟩
  · rw [w2]; exact rfixed_f _ _ (by omega) k (by omega)
  · rw [w2]; exact cut_end _ x 2 _ (size_nums _) (by omega)
theorem hop_x (xs : List Int) (c : Cx) (ae f : Int) (a : ByteArray) (hx : xs.length ≤ 1000000) (ef : ctx_Family.f ae = some f) (ha : addr_Family.f a = some f) (hf : f = 0 ∨ f = 1) : ∃ d g0 g1, lean_writer_hop.f xs c.h0 c.h1 f a = some (xs ++ bytesOf (fl (one 7 d)), g0, g1) ∧ Ups (one 7 d) c { c with h0 := g0, h1 := g1 } ∧ ((f = 0 ∧ g0 = a ∧ g1 = c.h1) ∨ (f = 1 ∧ g0 = c.h0 ∧ g1 = a)) := by
  unfold lean_writer_hop.f
  obtain ⟨s, b, e, hs, hb⟩ := short_x a
  rw [e, Option.bind_some]
  rcases hf with rfl | rfl
  · have za : a.size = 4 := by
      unfold addr_Family.f at ha
      split at ha
      · omega
      · split at ha <;> simp at ha
    rw [if_pos rfl]
    cases b
    rotate_left
    · have := (hb rfl).1.1; omega
    rw [if_neg Bool.false_ne_true, if_pos (by omega), wput_f _ _ _ hx, Option.bind_some]
    exact ⟨_, _, _, rfl, ho_of c 1 4 0 a a false 4 a c.h1 (by decide) (by decide) rfl (by omega) (by decide) (Or.inl ⟨by decide, rfl⟩) rfl (by intro g w; kernel_rfl) rfl rfl, Or.inl ⟨rfl, rfl, rfl⟩⟩
  · have za : a.size = 16 := by
      unfold addr_Family.f at ha
      split at ha
      · simp at ha
      · split at ha
        · omega
        · simp at ha
    rw [if_neg (by decide), if_pos rfl]
    cases b
    · rw [if_neg Bool.false_ne_true, if_pos (by omega), wput_f _ _ _ hx, Option.bind_some]
      exact ⟨_, _, _, rfl, ho_of c 2 16 1 a a false 5 c.h0 a (by decide) (by decide) rfl (by omega) (by decide) (Or.inl ⟨by decide, rfl⟩) rfl (by intro g w; kernel_rfl) rfl rfl, Or.inr ⟨rfl, rfl, rfl⟩⟩
    · obtain ⟨hl, es⟩ := hb rfl
      have zs : s.size = 8 := by rw [es, size_ext]; omega
      have el : roadbookref06_Long.f s = some (a, true) := by
        rw [rlong_f s zs, ← hl.2, es, cut_join a 0 8 a.size (by omega) (by omega) (by omega), cut_all a _ (Nat.le_refl _)]
      rw [if_pos rfl, if_pos (by dsimp only; omega), wput_f _ _ _ hx, Option.bind_some]
      exact ⟨_, _, _, rfl, ho_of c 3 8 1 s a true 5 c.h0 a (by decide) (by decide) rfl (by omega) (by decide) (Or.inr ⟨rfl, el⟩) rfl (by intro g w; kernel_rfl) rfl rfl, Or.inr ⟨rfl, rfl, rfl⟩⟩
theorem fam_ref (ae : Int) : roadbookref22_Family.f ae = ctx_Family.f ae := rfl
theorem put_id2 (xs : List Int) (a : ByteArray) (hx : xs.length ≤ 1000000) (ha : a.size ≤ 200) : lean_writer_id.f xs a = some (xs ++ bytesOf (fl (one 6 ((⟨#[0, 0]⟩ : ByteArray) ++ a)))) := by
  unfold lean_writer_id.f
  rw [if_pos (by omega)]; exact wput_f _ _ _ hx
theorem putm2 (x : S32) (F : FewB x) (U : UpdOk x) (c : Cx) : ∃ a b g0 g1 i, lean_Put.m c.h0 c.h1 c.id x.f5 x.f9 x.f10 x.f11 = some (b, bytesOf (fl a), g0, g1, i) ∧ Oth 2 a ∧ (b = false → Ups a c ⟨c.p1, c.p2, c.p3, g0, g1, i⟩ ∧ roadbookref22_update.To x.f5 x.f10 g0 g1 i x.f11 x.f9) := by
  unfold lean_Put.m roadbookref22_update.To
  rcases U.2.1.1 with ⟨cm, c11, c9⟩ | ⟨cm, h5, z11, h9⟩
  · rw [if_pos cm]; exact ⟨[], _, _, _, _, rfl, Oth.nil.up (by decide), fun _ => ⟨rfl, Or.inl ⟨cm, c11, c9⟩⟩⟩
  have hs := F.2.2.2.1
  obtain ⟨f, e, hf⟩ : ∃ f, ctx_Family.f x.f5 = some f ∧ (f = 0 ∨ f = 1) := by
    unfold ctx_Family.f
    rcases U.1.2 with q | q | q | q
    · omega
    · rw [if_pos q.1]; exact ⟨0, rfl, Or.inl rfl⟩
    · rw [if_neg (by omega), if_pos q.1]; exact ⟨1, rfl, Or.inr rfl⟩
    · rw [if_neg (by omega), if_neg (by omega), if_pos q.1]; exact ⟨1, rfl, Or.inr rfl⟩
  obtain ⟨hp, e2, hp2⟩ : ∃ hp, (if f = 0 then some c.h0 else if f = 1 then some c.h1 else none) = some hp ∧ ((f = 0 ∧ hp = c.h0) ∨ (f = 1 ∧ hp = c.h1)) := by
    rcases hf with rfl | rfl
    · exact ⟨c.h0, rfl, Or.inl ⟨rfl, rfl⟩⟩
    · exact ⟨c.h1, rfl, Or.inr ⟨rfl, rfl⟩⟩
  rw [if_neg cm, e, Option.bind_some, e2, Option.bind_some]
  by_cases d : x.f9.toList = [] ∧ hp.toList ≠ []
  · rw [if_pos d]; exact ⟨[], _, _, _, _, rfl, Oth.nil.up (by decide), fun h => no_ h.symm⟩
  rw [if_neg d]
  have n11 : x.f11 ≠ (⟨#[]⟩ : ByteArray) := fun h => by rw [h] at z11; have z : ((⟨#[]⟩ : ByteArray)).size = 0 := rfl; omega
  obtain ⟨a1, e3, o1, u1⟩ : ∃ a1, (if x.f11.toList = c.id.toList then some (([] : List Int), c.id) else (lean_writer_id.f [] x.f11).bind fun y => some (y, x.f11)) = some (bytesOf (fl a1), x.f11) ∧ Oth 1 a1 ∧ Ups a1 c { c with id := x.f11 } := by
    split
    · next h => rw [toList_inj] at h; exact ⟨[], by rw [h]; rfl, Oth.nil.up (by decide), by rw [h]; rfl⟩
    · rw [put_id2 [] x.f11 (Nat.zero_le _) (by omega), Option.bind_some, List.nil_append]
      exact ⟨_, rfl, Oth.one (by decide), ups_id c x.f11 z11⟩
  rw [e3, Option.bind_some]
  dsimp only
  by_cases g : x.f9.toList = hp.toList
  · rw [if_pos g, Option.bind_some]
    rw [toList_inj] at g
    refine ⟨a1, _, _, _, _, rfl, o1.up (by decide), fun _ => ⟨u1, Or.inr ⟨cm, by omega, n11, rfl, ?_⟩⟩⟩
    rw [fam_ref, e, g]
    rcases hp2 with ⟨rfl, h⟩ | ⟨rfl, h⟩
    · exact Or.inl ⟨rfl, h.symm⟩
    · exact Or.inr ⟨rfl, h.symm⟩
  · have ha : addr_Family.f x.f9 = some f := by
      rcases h9 with h9 | ⟨u, hu, hv⟩
      · exfalso
        have h0 : x.f9.toList = [] := (nil_iff _).mpr h9
        exact d ⟨h0, fun hn => g (by rw [h0, hn])⟩
      · rw [hu, ← hv, e]
    obtain ⟨d, g0, g1, e4, u2, hg⟩ := hop_x (bytesOf (fl a1)) { c with id := x.f11 } x.f5 f x.f9 (by rw [len_bytesOf]; have := o1.2.1; omega) e ha hf
    rw [if_neg g, e4, Option.bind_some]
    refine ⟨a1 ++ one 7 d, _, _, _, _, by rw [fl_app, bytesOf_app], o1.app (Oth.one (by decide)), fun _ => ⟨u1.app u2, Or.inr ⟨cm, by omega, n11, rfl, ?_⟩⟩⟩
    rw [fam_ref, e]
    rcases hg with ⟨rfl, h, _⟩ | ⟨rfl, _, h⟩
    · exact Or.inl ⟨rfl, h⟩
    · exact Or.inr ⟨rfl, h⟩

theorem two_lx (l : List Int) (hl : l.length ≤ 100) (m : Nat) : ∀ (k i : Nat) (xs : List Int), m < k → l.length - i = m → i ≤ l.length → xs.length + 2 * m ≤ 1000 → field_writer_two.l k l xs i = some (xs ++ (l.drop i).flatMap fun v => [v / 256 % 256, v % 256]) := by
  induction m with
  | zero =>
    intro k i xs hk hm hi hz
    obtain ⟨k, rfl⟩ : ∃ j, k = j + 1 := ⟨k - 1, by omega⟩
    rw [field_writer_two.l, if_neg (by omega), List.drop_of_length_le (by omega), List.flatMap_nil, List.append_nil]
  | succ m ih =>
    intro k i xs hk hm hi hz
    obtain ⟨k, rfl⟩ : ∃ j, k = j + 1 := ⟨k - 1, by omega⟩
    have ed : l.drop i = rd l (i : Int) :: l.drop (i + 1) := by
      unfold rd
      rw [Int.toNat_natCast, List.drop_eq_getElem_cons (by omega), List.getD_eq_getElem?_getD, List.getElem?_eq_getElem (by omega)]; rfl
    rw [field_writer_two.l, if_pos (by omega), if_pos (by omega), if_pos (by omega), wrap64_id (by omega) (by omega), show ((i : Int) + 1) = ((i + 1 : Nat) : Int) by omega, ih k (i + 1) _ (by omega) (by omega) (by omega) (by simp only [List.length_append, List.length_cons, List.length_nil]; omega), ed, List.flatMap_cons, List.append_assoc]
theorem num2 (b : ByteArray) (h : b.size = 2) : num (bytesOf b) = 256 * bt b 0 + bt b 1 := by
  have e : bytesOf b = [bt b 0, bt b 1] := by
    apply List.ext_getElem
    · rw [len_bytesOf, h]; rfl
    · intro i h1 h2
      rw [len_bytesOf] at h1
      have := bytesOf_getD b i
      rw [List.getD_eq_getElem?_getD, List.getElem?_eq_getElem (by rw [len_bytesOf]; exact h1)] at this
      match i, h1, h2 with
      | 0, h1, h2 => exact this
      | 1, h1, h2 => exact this
      | i + 2, h1, h2 => omega
  rw [e]
  show (0 * 256 + bt b 0) * 256 + bt b 1 = _
  omega
/-- A number that stands in two bytes. -/
theorem numat (d : ByteArray) (i : Nat) (v : Int) (hd : i + 2 ≤ d.size) (h0 : bt d (i : Int) = v / 256 % 256) (h1 : bt d ((i : Int) + 1) = v % 256) (hv : 0 ≤ v ∧ v < 65536) (k : Nat) (hk : 8 < k) : roadbookref08_Number.f k (d.extract i (i + 2)) = some v := by
  have z : (d.extract i (i + 2)).size = 2 := by rw [size_ext]; omega
  rw [refNumber_f _ (by omega) k hk, num2 _ z, bt_ext _ _ _ _ (by omega), if_pos (by omega), bt_ext _ _ _ _ (by omega), if_pos (by omega), show (i : Int) + 0 = i by omega, h0, h1]
  congr 1
  omega
theorem great_ok (ae : Int) (a : ByteArray) (n : Int) (I : InOk ae a n) : roadbookref21_great.f ae n = some false := by
  unfold roadbookref21_great.f
  rcases I.2 with q | q | q | q
  · rw [if_pos q.1, q.2.2]; rfl
  · rw [if_neg (by omega), if_pos q.1, decide_eq_false (by omega)]
  · rw [if_neg (by omega), if_neg (by omega), if_pos q.1, decide_eq_false (by omega)]
  · rw [if_neg (by omega), if_neg (by omega), if_neg (by omega), if_neg (by omega), decide_eq_false (by omega)]
/-- What is left out is what the default prefix has. -/
theorem ahead_eq (dp yb : ByteArray) (b n : Nat) (L : LeadIs (dp.extract b dp.size) yb n) : (dp.extract b dp.size).extract 0 n = yb.extract 0 n := by
  have l1 := L.2.1
  have l2 := L.2.2.1
  generalize dp.extract b dp.size = A at L l1 ⊢
  refine ext_bt (by rw [size_ext, size_ext]; omega) fun i hi => ?_
  rw [size_ext] at hi
  rw [bt_ext _ _ _ _ (by omega), if_pos (by omega), bt_ext _ _ _ _ (by omega), if_pos (by omega), show ((0 : Nat) : Int) + (i : Int) = i by omega]
  exact L.2.2.2.1 i (by omega)
/-- The bytes of an Update, and what they say. -/
theorem dat (x : S32) (I : InOk x.f5 x.f6 x.f7) (H : F2 x) (n : Nat) (yb t : ByteArray) (hy : yb.size = (least x.f7).toNat - base x.f5) (hb : base x.f5 ≤ (least x.f7).toNat) (hn : n ≤ yb.size) (hz : yb.size ≤ 16) (ht : t.size ≤ 200) : let d := strOfNums ([x.f5 % 256, if x.f5 = 0 then 0 else 128, x.f7 % 256, (n : Int) % 256] ++ [x.f14 / 256 % 256, x.f14 % 256, x.f12 / 256 % 256, x.f12 % 256, x.f10 / 256 % 256, x.f10 % 256]) ++ yb.extract n yb.size ++ t
    d.size = 10 + (yb.size - n) + t.size ∧ bt d 0 = x.f5 ∧ bt d 1 = (if x.f5 = 0 then 0 else 128) ∧ bt d 2 = x.f7 ∧ bt d 3 = n ∧ (∀ k, 8 < k → roadbookref08_Number.f k (d.extract 4 6) = some x.f14 ∧ roadbookref08_Number.f k (d.extract 6 8) = some x.f12 ∧ roadbookref08_Number.f k (d.extract 8 10) = some x.f10) ∧ d.extract 10 (10 + (yb.size - n)) = yb.extract n yb.size ∧ d.extract (10 + (yb.size - n)) d.size = t := by
  intro d
  have i5 : 0 ≤ x.f5 ∧ x.f5 ≤ 3 := by rcases I.2 with q | q | q | q <;> omega
  have i7 : 0 ≤ x.f7 ∧ x.f7 ≤ 128 := by rcases I.2 with q | q | q | q <;> omega
  obtain ⟨⟨a0, a1⟩, ⟨b0, b1⟩, c0, c1⟩ := H
  have hr : ∀ v ∈ [x.f5 % 256, if x.f5 = 0 then 0 else 128, x.f7 % 256, (n : Int) % 256] ++ [x.f14 / 256 % 256, x.f14 % 256, x.f12 / 256 % 256, x.f12 % 256, x.f10 / 256 % 256, x.f10 % 256], 0 ≤ v ∧ v ≤ 255 := fun v hv => by
    simp only [List.cons_append, List.nil_append, List.mem_cons, List.not_mem_nil, or_false] at hv
    rcases hv with rfl | rfl | rfl | rfl | rfl | rfl | rfl | rfl | rfl | rfl
    all_goals first | omega | (split <;> omega)
  have ed : d = strOfNums ([x.f5 % 256, if x.f5 = 0 then 0 else 128, x.f7 % 256, (n : Int) % 256] ++ [x.f14 / 256 % 256, x.f14 % 256, x.f12 / 256 % 256, x.f12 % 256, x.f10 / 256 % 256, x.f10 % 256]) ++ (yb.extract n yb.size ++ t) := ByteArray.append_assoc
  have hd := fun (i : Nat) (hi : i < 10) => bt_head _ hr (yb.extract n yb.size ++ t) i hi
  rw [← ed] at hd
  have z0 : (yb.extract n yb.size).size = yb.size - n := by rw [size_ext, Nat.min_self]
  have zd : d.size = 10 + (yb.size - n) + t.size := by
    show (_ ++ _ ++ _ : ByteArray).size = _
    rw [size_app, size_app, size_nums, z0]; rfl
  have g0 : bt d 0 = x.f5 % 256 := hd 0 (by omega)
  have g1 : bt d 1 = if x.f5 = 0 then 0 else 128 := hd 1 (by omega)
  have g2 : bt d 2 = x.f7 % 256 := hd 2 (by omega)
  have g3 : bt d 3 = (n : Int) % 256 := hd 3 (by omega)
  have g4 : bt d ((4 : Nat) : Int) = x.f14 / 256 % 256 := hd 4 (by omega)
  have g5 : bt d (((4 : Nat) : Int) + 1) = x.f14 % 256 := hd 5 (by omega)
  have g6 : bt d ((6 : Nat) : Int) = x.f12 / 256 % 256 := hd 6 (by omega)
  have g7 : bt d (((6 : Nat) : Int) + 1) = x.f12 % 256 := hd 7 (by omega)
  have g8 : bt d ((8 : Nat) : Int) = x.f10 / 256 % 256 := hd 8 (by omega)
  have g9 : bt d (((8 : Nat) : Int) + 1) = x.f10 % 256 := hd 9 (by omega)
  have x1 : d.extract 10 (10 + (yb.size - n)) = yb.extract n yb.size := by rw [ed]; exact cut_at _ _ _ 10 _ (size_nums _) (by rw [z0])
  have x2 : d.extract (10 + (yb.size - n)) d.size = t := by
    rw [zd]
    exact cut_end (strOfNums ([x.f5 % 256, if x.f5 = 0 then 0 else 128, x.f7 % 256, (n : Int) % 256] ++ [x.f14 / 256 % 256, x.f14 % 256, x.f12 / 256 % 256, x.f12 % 256, x.f10 / 256 % 256, x.f10 % 256]) ++ yb.extract n yb.size) t _ _ (by rw [size_app, size_nums, z0]; rfl) rfl
  clear_value d
  clear hd ed hr
  refine ⟨zd, by rw [g0]; omega, g1, by rw [g2]; omega, by rw [g3]; omega, fun k hk => ⟨?_, ?_, ?_⟩, x1, x2⟩
  · exact numat d 4 x.f14 (by omega) g4 g5 ⟨a0, a1⟩ k hk
  · exact numat d 6 x.f12 (by omega) g6 g7 ⟨b0, b1⟩ k hk
  · exact numat d 8 x.f10 (by omega) g8 g9 ⟨c0, c1⟩ k hk

theorem st8 (x : S32) (U : UpdOk x) (hl : x.f24.length ≤ 60) (c : Cx) (P : PInv c.p1 c.p2 c.p3) (n : Nat) (O : Omit x (defp x.f5 c.p1 c.p2 c.p3) n) (q1 q2 q3 : ByteArray) (hq : lean_writer_update.p c.p1 c.p2 c.p3 x.f5 x.f6 = some (q1, q2, q3)) (T : roadbookref22_update.To x.f5 x.f10 c.h0 c.h1 c.id x.f11 x.f9) (k : Nat) (hk : 500 ≤ k) : St k 8 (strOfNums ([x.f5 % 256, if x.f5 = 0 then 0 else 128, x.f7 % 256, (n : Int) % 256] ++ [x.f14 / 256 % 256, x.f14 % 256, x.f12 / 256 % 256, x.f12 % 256, x.f10 / 256 % 256, x.f10 % 256]) ++ ((cutP x.f6 x.f7).extract (base x.f5) (cutP x.f6 x.f7).size).extract n ((cutP x.f6 x.f7).extract (base x.f5) (cutP x.f6 x.f7).size).size ++ fl (stl x.f24)) c ⟨q1, q2, q3, c.h0, c.h1, c.id⟩ (some x) := by
  have I := U.1
  have i5 : 0 ≤ x.f5 ∧ x.f5 ≤ 3 := by rcases I.2 with q | q | q | q <;> omega
  have i7 : 0 ≤ x.f7 ∧ x.f7 ≤ 128 := by rcases I.2 with q | q | q | q <;> omega
  have hz6 : x.f6.size ≤ 16 := by rcases I.2 with q | q | q | q <;> omega
  have el : least x.f7 = (x.f7 + 7) / 8 := by unfold least; rw [if_neg (by omega)]
  have zc : (cutP x.f6 x.f7).size = (least x.f7).toNat := by rw [cut_z _ _ i7.1 (by rcases I.2 with q | q | q | q <;> omega), el]
  have hb : base x.f5 ≤ (least x.f7).toNat := by unfold base; split <;> rcases I.2 with q | q | q | q <;> omega
  have W := rwhole_f x.f5 x.f6 x.f7 I k (by omega)
  have zy : ((cutP x.f6 x.f7).extract (base x.f5) (cutP x.f6 x.f7).size).size = (least x.f7).toNat - base x.f5 := by rw [size_ext, Nat.min_self, zc]
  obtain ⟨_, _, on⟩ := omit_size (by rw [zc, el]; omega) (by rw [zc]; exact hb) O
  unfold Omit at O
  generalize (cutP x.f6 x.f7).extract (base x.f5) (cutP x.f6 x.f7).size = yb at W zy O ⊢
  have hn : n ≤ yb.size := by rcases on with ⟨_, h⟩ | h <;> omega
  have zs := fl_stl x.f24
  have so := U.2.2.1
  obtain ⟨d1, d2, d3, d4, d5, d6, d7, d8⟩ := dat x I U.2.1.2 n yb (fl (stl x.f24)) zy hb hn (by omega) (by omega)
  generalize strOfNums ([x.f5 % 256, if x.f5 = 0 then 0 else 128, x.f7 % 256, (n : Int) % 256] ++ [x.f14 / 256 % 256, x.f14 % 256, x.f12 / 256 % 256, x.f12 % 256, x.f10 / 256 % 256, x.f10 % 256]) ++ yb.extract n yb.size ++ fl (stl x.f24) = d at d1 d2 d3 d4 d5 d6 d7 d8 ⊢
  obtain ⟨e1, e2, e3⟩ := d6 k (by omega)
  have zn : (yb.extract n yb.size).size = yb.size - n := by rw [size_ext, Nat.min_self]
  have eb : roadbookref21_Base.f x.f5 = some (base x.f5 : Int) := by unfold roadbookref21_Base.f base; split <;> rfl
  have en : wrap64 (wrap64 (least x.f7 - (base x.f5 : Int)) - (n : Int)) = ((yb.size - n : Nat) : Int) := by rw [wrap64_id (x := least x.f7 - (base x.f5 : Int)) (by omega) (by omega), wrap64_id (by omega) (by omega)]; omega
  have et : (10 + ((yb.size - n : Nat) : Int)).toNat = 10 + (yb.size - n) := by omega
  have rg := rget_f x.f24 hl so k (by omega)
  refine Or.inr (Or.inr ⟨rfl, rfl, rfl, rfl, x, yb.extract n yb.size, yb.extract 0 n, x.f6, x.f5, if x.f5 = 0 then 0 else 128, x.f7, n, x.f14, x.f12, x.f10, least x.f7, base x.f5, ((yb.size - n : Nat) : Int), x.f24, x.f11, x.f9, defp x.f5 c.p1 c.p2 c.p3, x.f5.toNat, rfl, ?_⟩)
  refine ⟨?_, ?_, ?_, T, ?_, U.2.2.2⟩
  · unfold roadbookref22_update.Ta
    refine ⟨by omega, by rw [d2]; exact wrap64_id (by omega) (by omega), by rw [d3]; split <;> exact wrap64_id (by decide) (by decide), by rw [d4]; exact wrap64_id (by omega) (by omega), by rw [d5]; exact wrap64_id (by omega) (by omega), e1, e2, e3, i5.2, great_ok _ _ _ I, rleast_f _ i7.1 (by omega), eb, en, by omega, wrap64_id (by omega) (by omega), by omega, ?_, ?_⟩
    · rw [et, d8]; exact rg
    · rw [et]; exact d7
  · rw [cut_join yb 0 n yb.size (by omega) (by omega) (by omega), cut_all _ _ (Nat.le_refl _)]
    exact W
  · rw [zn, size_ext]; omega
  · dsimp only
    unfold lean_writer_update.p at hq
    rcases I.2 with q | q | q | q
    · rw [if_pos q.1] at hq
      simp only [Option.some.injEq, Prod.mk.injEq] at hq
      refine Or.inl ⟨q.1, if_pos q.1, ⟨by omega, ?_⟩, hq.1.symm, hq.2.1.symm, hq.2.2.symm⟩
      exact ext_bt (by rw [size_ext]; show _ = 0; omega) (fun i hi => by rw [size_ext] at hi; omega)
    all_goals
      have AH : (((n : Int) = 0 ∧ yb.extract 0 n = (⟨#[]⟩ : ByteArray)) ∨ (0 < (n : Int) ∧ defp x.f5 c.p1 c.p2 c.p3 ≠ (⟨#[]⟩ : ByteArray) ∧ (base x.f5 : Int) ≤ ((defp x.f5 c.p1 c.p2 c.p3).size : Int) ∧ 0 ≤ (base x.f5 : Int) ∧ (n : Int) ≤ (((defp x.f5 c.p1 c.p2 c.p3).size - (base x.f5 : Int).toNat : Nat) : Int) ∧ ((defp x.f5 c.p1 c.p2 c.p3).extract (base x.f5 : Int).toNat (defp x.f5 c.p1 c.p2 c.p3).size).extract 0 ((n : Int)).toNat = yb.extract 0 n)) := by
        by_cases c0 : n = 0
        · refine Or.inl ⟨by omega, ?_⟩
          exact ext_bt (by rw [size_ext]; show _ = 0; omega) (fun i hi => by rw [size_ext] at hi; omega)
        · rcases O with ⟨_, h⟩ | ⟨h, L⟩
          · omega
          · have z1 := (defp_size P I h).1
            have l1 := L.2.1
            rw [size_ext, Nat.min_self] at l1
            rw [Int.toNat_natCast, Int.toNat_natCast]
            refine Or.inr ⟨by omega, h, ?_, by omega, l1, ahead_eq _ yb _ n L⟩
            have : base x.f5 ≤ x.f6.size := by unfold base; split <;> omega
            omega
      have f128 : (if x.f5 = 0 then (0 : Int) else 128) = 128 := if_neg (by omega)
      refine Or.inr ⟨by omega, f128, AH, ?_⟩
    · rw [if_neg (by omega), if_pos q.1] at hq
      simp only [Option.some.injEq, Prod.mk.injEq] at hq
      obtain ⟨rfl, rfl, rfl⟩ := hq
      unfold defp
      rw [q.1]
      exact ⟨by intro g w; kernel_rfl, rfl, rfl, rfl⟩
    · rw [if_neg (by omega), if_neg (by omega), if_pos q.1] at hq
      simp only [Option.some.injEq, Prod.mk.injEq] at hq
      obtain ⟨rfl, rfl, rfl⟩ := hq
      unfold defp
      rw [q.1]
      exact ⟨by intro g w; kernel_rfl, rfl, rfl, rfl⟩
    · rw [if_neg (by omega), if_neg (by omega), if_neg (by omega), if_pos q.1] at hq
      simp only [Option.some.injEq, Prod.mk.injEq] at hq
      obtain ⟨rfl, rfl, rfl⟩ := hq
      unfold defp
      rw [q.1]
      exact ⟨by intro g w; kernel_rfl, rfl, rfl, rfl⟩

theorem updp_ex (x : S32) (I : InOk x.f5 x.f6 x.f7) (p1 p2 p3 : ByteArray) (P : PInv p1 p2 p3) : ∃ q1 q2 q3, lean_writer_update.p p1 p2 p3 x.f5 x.f6 = some (q1, q2, q3) ∧ PInv q1 q2 q3 := by
  unfold lean_writer_update.p
  rcases I.2 with q | q | q | q
  · rw [if_pos q.1]; exact ⟨_, _, _, rfl, P⟩
  · rw [if_neg (by omega), if_pos q.1]; exact ⟨_, _, _, rfl, Or.inr q.2.1, P.2.1, P.2.2⟩
  · rw [if_neg (by omega), if_neg (by omega), if_pos q.1]; exact ⟨_, _, _, rfl, P.1, Or.inr q.2.1, P.2.2⟩
  · rw [if_neg (by omega), if_neg (by omega), if_neg (by omega), if_pos q.1]; exact ⟨_, _, _, rfl, P.1, P.2.1, Or.inr q.2.2.2.2⟩
theorem update2 (x : S32) (F : FewB x) (W : Wf x) (U : UpdOk x) (c : Cx) (P : PInv c.p1 c.p2 c.p3) (n : Int) (O : Omit x (defp x.f5 c.p1 c.p2 c.p3) n) (T : roadbookref22_update.To x.f5 x.f10 c.h0 c.h1 c.id x.f11 x.f9) (xs : List Int) (hx : xs.length ≤ 1000000) (k : Nat) (hk : 100 ≤ k) : ∃ d q1 q2 q3, lean_writer_update.f k xs c.p1 c.p2 c.p3 x.f0 x.f1 x.f2 x.f3 x.f4 x.f5 x.f6 x.f7 x.f8 x.f9 x.f10 x.f11 x.f12 x.f13 x.f14 x.f15 x.f16 x.f17 x.f18 x.f19 x.f20 x.f21 x.f22 x.f23 x.f24 n = some (xs ++ bytesOf (fl [(8, d)]), q1, q2, q3) ∧ PInv q1 q2 q3 ∧ Okt (8, d) ∧ ∀ k, 500 ≤ k → St k 8 d c ⟨q1, q2, q3, c.h0, c.h1, c.id⟩ (some x) := by
  obtain ⟨eb, hb, zc⟩ := bytes_ex x F W U.1
  obtain ⟨n0, n16, hn⟩ := omit_size zc hb O
  obtain ⟨q1, q2, q3, e1, P'⟩ := updp_ex x U.1 c.p1 c.p2 c.p3 P
  obtain ⟨n, rfl⟩ := Int.eq_ofNat_of_zero_le n0
  have S := fun k hk => st8 x U F.2.1 c P n O q1 q2 q3 e1 T k hk
  have e2 : field_writer_two.l k [x.f14, x.f12, x.f10] (lean_writer_update.h x.f5 x.f7 n) 0 = some (lean_writer_update.h x.f5 x.f7 n ++ [x.f14 / 256 % 256, x.f14 % 256, x.f12 / 256 % 256, x.f12 % 256, x.f10 / 256 % 256, x.f10 % 256]) := two_lx [x.f14, x.f12, x.f10] (by simp) 3 k 0 _ (by omega) rfl (Nat.zero_le _) (by simp [lean_writer_update.h])
  have e3 := sput_ok x.f24 F.2.1 F.2.2.2.2.2.2.2 U.2.2.1 k (by omega)
  have zs := fl_stl x.f24
  have so := U.2.2.1.2
  have ny : n ≤ ((cutP x.f6 x.f7).extract (base x.f5) (cutP x.f6 x.f7).size).size := by
    rw [size_ext, Nat.min_self]
    rcases hn with ⟨_, h⟩ | h <;> omega
  have zy : ((cutP x.f6 x.f7).extract (base x.f5) (cutP x.f6 x.f7).size).size ≤ 16 := by rw [size_ext]; omega
  generalize (cutP x.f6 x.f7).extract (base x.f5) (cutP x.f6 x.f7).size = y at eb ny zy S
  have zl : (lean_writer_update.h x.f5 x.f7 n ++ [x.f14 / 256 % 256, x.f14 % 256, x.f12 / 256 % 256, x.f12 % 256, x.f10 / 256 % 256, x.f10 % 256]).length = 10 := rfl
  unfold lean_writer_update.f lean_writer_update.c
  rw [e1, Option.bind_some, e2, Option.bind_some, e3, Option.bind_some, eb, Option.bind_some, if_pos n0, if_pos (by omega), if_pos (by rw [zl, size_ext]; dsimp only; omega)]
  dsimp only
  have dz : (strOfNums (lean_writer_update.h x.f5 x.f7 n ++ [x.f14 / 256 % 256, x.f14 % 256, x.f12 / 256 % 256, x.f12 % 256, x.f10 / 256 % 256, x.f10 % 256]) ++ y.extract n y.size ++ fl (stl x.f24)).size = 10 + (y.size - n) + (fl (stl x.f24)).size := by rw [size_app, size_app, size_nums, zl, size_ext, Nat.min_self]
  rw [Int.toNat_natCast]
  have hh : lean_writer_update.h x.f5 x.f7 n = [x.f5 % 256, if x.f5 = 0 then 0 else 128, x.f7 % 256, (n : Int) % 256] := rfl
  rw [← hh] at S
  generalize strOfNums (lean_writer_update.h x.f5 x.f7 n ++ [x.f14 / 256 % 256, x.f14 % 256, x.f12 / 256 % 256, x.f12 % 256, x.f10 / 256 % 256, x.f10 % 256]) ++ y.extract n y.size ++ fl (stl x.f24) = d at dz S ⊢
  have d1 : one 8 d = [(8, d)] := by unfold one; rw [if_pos ⟨by decide, by decide, by omega⟩]
  rw [wput_f xs 8 d hx, Option.bind_some, d1]
  exact ⟨d, q1, q2, q3, rfl, P', ⟨(by decide : (1 : Int) ≤ 8), (by decide : (8 : Int) ≤ 255), by show d.size ≤ 255; omega⟩, S⟩
/-- What a message's TLVs are, and what is known behind them. -/
def Step (m : S32) (c : Cx) (a : List (Int × ByteArray)) (c' : Cx) : Prop :=
  if m.f0 = 11 then ∃ u d c1, a = u ++ [(8, d)] ∧ Ups u c c1 ∧ Okt (8, d) ∧ ∀ k, 500 ≤ k → St k 8 d c1 c' (some m)
  else (∀ t ∈ a, Okt t ∧ (t.1 < 6 ∨ 8 < t.1)) ∧ c' = c
theorem leanput2 (x : S32) (F : FewB x) (W : Wf x) (c : Cx) (P : PInv c.p1 c.p2 c.p3) (k : Nat) (hk : 300 ≤ k) : ∃ a c' e, lean_Put.f k (⟨#[]⟩ : ByteArray) c.p1 c.p2 c.p3 c.h0 c.h1 c.id x.f0 x.f1 x.f2 x.f3 x.f4 x.f5 x.f6 x.f7 x.f8 x.f9 x.f10 x.f11 x.f12 x.f13 x.f14 x.f15 x.f16 x.f17 x.f18 x.f19 x.f20 x.f21 x.f22 x.f23 x.f24 = some (fl a, ((⟨#[]⟩ : ByteArray), c'.p1, c'.p2, c'.p3, c'.h0, c'.h1, c'.id), e) ∧ (fl a).size ≤ 1000 ∧ (e = 0 → PInv c'.p1 c'.p2 c'.p3 ∧ Step x c a c') := by
  unfold lean_Put.f
  obtain ⟨r, e, h⟩ := leanright_ex x F W k (by omega)
  rw [e, Option.bind_some]
  cases r
  · rw [if_neg Bool.false_ne_true]; exact ⟨[], c, 1, rfl, Nat.zero_le _, fun h => absurd h (by decide)⟩
  rw [if_pos rfl]
  by_cases cc : x.f0 = 11
  · rw [if_pos cc]
    have U := (h rfl).1 cc
    obtain ⟨a, b, g0, g1, i, e1, o, hu⟩ := putm2 x F U c
    rw [e1, Option.bind_some]
    cases b
    rotate_left
    · rw [if_pos rfl]; exact ⟨[], c, 9, rfl, Nat.zero_le _, fun h => absurd h (by decide)⟩
    obtain ⟨u, T⟩ := hu rfl
    rw [if_neg Bool.false_ne_true]
    unfold lean_Put.t
    dsimp only
    obtain ⟨n, e2, O⟩ := omitted_ex x F W U.1 c.p1 c.p2 c.p3 P k hk
    obtain ⟨d, q1, q2, q3, e3, P', ok, S⟩ := update2 x F W U ⟨c.p1, c.p2, c.p3, g0, g1, i⟩ P n O T (bytesOf (fl a)) (by rw [len_bytesOf]; have := o.2.1; omega) k (by omega)
    dsimp only at e3
    rw [e2, Option.bind_some, e3, Option.bind_some, ← bytesOf_app, ← fl_app, nums_bytes]
    refine ⟨a ++ [(8, d)], ⟨q1, q2, q3, g0, g1, i⟩, 0, rfl, ?_, fun _ => ⟨P', ?_⟩⟩
    · have z : (fl []).size = 0 := rfl
      rw [fl_app, size_app, fl_size, z]; have := o.2.1; have := ok.2.2; dsimp only at this; omega
    · unfold Step
      rw [if_pos cc]
      exact ⟨a, d, _, rfl, u, ok, S⟩
  · obtain ⟨a, e1, o, fa⟩ := other_ex x F W (h rfl).2 k (by omega)
    rw [if_neg cc, e1, Option.bind_some]
    refine ⟨a, c, 0, rfl, by have := o.2.1; omega, fun _ => ⟨P, ?_⟩⟩
    unfold Step
    rw [if_neg cc]
    exact ⟨fun t ht => ⟨(o.2.2 t ht).1, fa t ht⟩, rfl⟩
/-- The TLVs of messages, one behind the other, where something is known. -/
def Tr : List S32 → Cx → List (Int × ByteArray) → Prop
  | [], _, ts => ts = []
  | m :: r, c, ts => ∃ a b c', ts = a ++ b ∧ Step m c a c' ∧ Tr r c' b
theorem drop_rdM {l : List S32} {i : Nat} (h : i < l.length) : l.drop i = (rd_T32 l (i : Int)) :: l.drop (i + 1) := by
  unfold rd_T32
  rw [Int.toNat_natCast, List.drop_eq_getElem_cons h, List.getD_eq_getElem?_getD, List.getElem?_eq_getElem h]; rfl
theorem wrap_ex (b : ByteArray) (hb : b.size ≤ 65531) (k : Nat) (hk : 8 < k) : ∃ h l f, frame_Wrap.f k b = some (strOfNums [42, 2, h, l] ++ b, f) ∧ (0 ≤ h ∧ h ≤ 255) ∧ (0 ≤ l ∧ l ≤ 255) ∧ (b.size : Int) = 256 * h + l := by
  unfold frame_Wrap.f
  have of : octFits (b.size : Int) 2 = true := octFits_iff.mpr ⟨by decide, by decide, by omega, by show (b.size : Int) < 256 ^ 2; omega⟩
  have z : (⟨#[42, 2]⟩ : ByteArray).size = 2 := rfl
  rw [octet_Put_f (b.size : Int) 2 (by omega) (by omega) k hk, Option.bind_some]
  unfold octPut
  rw [if_pos of]
  dsimp only
  rw [if_pos rfl, if_neg (by omega), size_nums, dig_length, if_pos (by decide), size_app, z, size_nums, dig_length, if_pos (by show 2 + 2 + b.size ≤ _; omega)]
  have e2 : (⟨#[42, 2]⟩ : ByteArray) ++ strOfNums (dig (Int.toNat 2) (b.size : Int)) = strOfNums [42, 2, (b.size : Int) / 256 % 256, (b.size : Int) % 256] := (nums_app [42, 2] [(b.size : Int) / 256 % 256, (b.size : Int) % 256]).symm
  rw [e2]
  exact ⟨(b.size : Int) / 256 % 256, (b.size : Int) % 256, true, rfl, by omega, by omega, by omega⟩
theorem lb_ex (l : List S32) (hl : l.length ≤ 1000) (F : ∀ x ∈ l, FewB x ∧ Wf x) (m : Nat) : ∀ (k i : Nat) (xs : List Int) (c : Cx), m + 310 ≤ k → l.length - i = m → i ≤ l.length → xs.length ≤ 65531 → PInv c.p1 c.p2 c.p3 → ∃ b n e, outlet_Encode.lb k l (i : Int) xs ⟨#[]⟩ c.p1 c.p2 c.p3 c.h0 c.h1 c.id = some (b, n, e) ∧ (e = 0 → ∃ ts h w, Tr (l.drop i) c ts ∧ b = strOfNums [42, 2, h, w] ++ (strOfNums xs ++ fl ts) ∧ (0 ≤ h ∧ h ≤ 255) ∧ (0 ≤ w ∧ w ≤ 255) ∧ ((strOfNums xs ++ fl ts).size : Int) = 256 * h + w ∧ (strOfNums xs ++ fl ts).size ≤ 65531) := by
  induction m with
  | zero =>
    intro k i xs c hk hm hi hx P
    obtain ⟨k, rfl⟩ : ∃ j, k = j + 1 := ⟨k - 1, by omega⟩
    obtain ⟨h, w, f, e, hh, hw, hs⟩ := wrap_ex (strOfNums xs) (by rw [size_nums]; exact hx) k (by omega)
    rw [outlet_Encode.lb, if_neg (by omega), e, Option.bind_some]
    have e0 : strOfNums xs ++ fl [] = strOfNums xs := ByteArray.append_empty
    refine ⟨_, _, _, rfl, fun _ => ⟨[], h, w, ?_, ?_, hh, hw, ?_, ?_⟩⟩
    · rw [List.drop_of_length_le (by omega)]; rfl
    · rw [e0]
    · rw [e0]; exact hs
    · rw [e0, size_nums]; exact hx
  | succ m ih =>
    intro k i xs c hk hm hi hx P
    obtain ⟨k, rfl⟩ : ∃ j, k = j + 1 := ⟨k - 1, by omega⟩
    have mem := rd_memM (l := l) (i := i) (by omega)
    obtain ⟨a, c', e, eq, za, hq⟩ := leanput2 (rd_T32 l (i : Int)) (F _ mem).1 (F _ mem).2 c P k (by omega)
    rw [outlet_Encode.lb, if_pos (by omega), if_pos (by omega), eq, Option.bind_some]
    dsimp only
    by_cases ce : e = 0
    rotate_left
    · rw [if_neg ce]; exact ⟨_, _, _, rfl, fun h => absurd h ce⟩
    obtain ⟨P', S⟩ := hq ce
    rw [if_pos ce, if_pos (by omega), List.length_append, len_bytesOf]
    by_cases d : ((xs.length + (fl a).size : Nat) : Int) > 65531
    · rw [if_pos d]; exact ⟨_, _, _, rfl, fun h => absurd h (by decide)⟩
    rw [if_neg d, wrap64_id (by omega) (by omega), show ((i : Int) + 1) = ((i + 1 : Nat) : Int) by omega]
    obtain ⟨b, n, e', er, he⟩ := ih k (i + 1) (xs ++ bytesOf (fl a)) c' (by omega) (by omega) (by omega) (by rw [List.length_append, len_bytesOf]; omega) P'
    refine ⟨b, n, e', er, fun z => ?_⟩
    obtain ⟨ts, h, w, T, eb, hh, hw, hs, hz⟩ := he z
    rw [nums_app, nums_bytes, ByteArray.append_assoc, ← fl_app] at eb hs hz
    refine ⟨a ++ ts, h, w, ?_, eb, hh, hw, hs, hz⟩
    rw [drop_rdM (by omega)]
    exact ⟨a, ts, c', rfl, S, T⟩
theorem la_ex (l : List S32) (hl : l.length ≤ 1000) (F : ∀ x ∈ l, FewB x ∧ Wf x) (m : Nat) : ∀ (k i : Nat), m + l.length + 320 ≤ k → l.length - i = m → i ≤ l.length → ∃ b n e, outlet_Encode.la k l (i : Int) = some (b, n, e) ∧ (e = 0 → ∃ ts h w, Tr l ⟨⟨#[]⟩, ⟨#[]⟩, ⟨#[]⟩, ⟨#[]⟩, ⟨#[]⟩, ⟨#[]⟩⟩ ts ∧ b = strOfNums [42, 2, h, w] ++ fl ts ∧ (0 ≤ h ∧ h ≤ 255) ∧ (0 ≤ w ∧ w ≤ 255) ∧ ((fl ts).size : Int) = 256 * h + w ∧ (fl ts).size ≤ 65531) := by
  induction m with
  | zero =>
    intro k i hk hm hi
    obtain ⟨k, rfl⟩ : ∃ j, k = j + 1 := ⟨k - 1, by omega⟩
    rw [outlet_Encode.la, if_neg (by omega)]
    obtain ⟨b, n, e, er, he⟩ := lb_ex l hl F l.length k 0 [] ⟨⟨#[]⟩, ⟨#[]⟩, ⟨#[]⟩, ⟨#[]⟩, ⟨#[]⟩, ⟨#[]⟩⟩ (by omega) (by omega) (by omega) (Nat.zero_le _) ⟨Or.inl rfl, Or.inl rfl, Or.inl rfl⟩
    refine ⟨b, n, e, er, fun z => ?_⟩
    obtain ⟨ts, h, w, T, eb, hh, hw, hs, hz⟩ := he z
    have e0 : strOfNums [] ++ fl ts = fl ts := ByteArray.empty_append
    rw [e0] at eb hs hz
    exact ⟨ts, h, w, T, eb, hh, hw, hs, hz⟩
  | succ m ih =>
    intro k i hk hm hi
    obtain ⟨k, rfl⟩ : ∃ j, k = j + 1 := ⟨k - 1, by omega⟩
    have mem := rd_memM (l := l) (i := i) (by omega)
    obtain ⟨r, e, _⟩ := leanright_ex (rd_T32 l (i : Int)) (F _ mem).1 (F _ mem).2 k (by omega)
    rw [outlet_Encode.la, if_pos (by omega), if_pos (by omega), e, Option.bind_some]
    cases r
    · rw [if_neg Bool.false_ne_true]; exact ⟨_, _, _, rfl, fun h => absurd h (by decide)⟩
    rw [if_pos rfl, wrap64_id (by omega) (by omega)]
    exact ih k (i + 1) (by omega) (by omega) (by omega)

theorem whrawake_f : roadbooktop_awake.f 80 = some true := by decide +kernel
/-- The next Update, or the list's end. -/
def Next (l : List S32) (n x : Nat) : Prop := n ≤ x ∧ x ≤ l.length ∧ (∀ j : Nat, n ≤ j → j < x → (rd_T32 l (j : Int)).f0 ≠ 11) ∧ (x < l.length → (rd_T32 l (x : Int)).f0 = 11)
theorem nx_ex (l : List S32) (hl : l.length ≤ 1000) (x : Nat) (m : Nat) : ∀ (k n : Nat), m < k → x - n = m → Next l n x → roadbooktop_WholeResolved.nx k l (n : Int) = some (x : Int) := by
  induction m with
  | zero =>
    intro k n hk hm h
    obtain ⟨k, rfl⟩ : ∃ j, k = j + 1 := ⟨k - 1, by omega⟩
    obtain ⟨h1, h2, h3, h4⟩ := h
    obtain rfl : n = x := by omega
    rw [roadbooktop_WholeResolved.nx]
    by_cases c : n < l.length
    · rw [if_pos (by omega), if_pos (by omega), if_pos (h4 c)]
    · rw [if_neg (by omega)]
  | succ m ih =>
    intro k n hk hm h
    obtain ⟨k, rfl⟩ : ∃ j, k = j + 1 := ⟨k - 1, by omega⟩
    obtain ⟨h1, h2, h3, h4⟩ := h
    rw [roadbooktop_WholeResolved.nx, if_pos (by omega), if_pos (by omega), if_neg (h3 n (Nat.le_refl _) (by omega)), wrap64_id (by omega) (by omega)]
    exact ih k (n + 1) (by omega) (by omega) ⟨by omega, h2, fun j a b => h3 j (by omega) b, h4⟩
theorem Next.self {l : List S32} {n x : Nat} (h : Next l n x) : Next l x x := ⟨Nat.le_refl _, h.2.1, fun j a b => by omega, h.2.2.2⟩
/-- From a place on the TLVs are these. -/
def At (tl : List S48) (i : Nat) (ts : List (Int × ByteArray)) : Prop := (tl.drop i).map (fun t => (t.f0, t.f2)) = ts
theorem At.cons {tl : List S48} {i : Nat} {p : Int × ByteArray} {r : List (Int × ByteArray)} (h : At tl i (p :: r)) : i < tl.length ∧ (rd_T48 tl (i : Int)).f0 = p.1 ∧ (rd_T48 tl (i : Int)).f2 = p.2 ∧ At tl (i + 1) r := by
  unfold At at h
  by_cases c : i < tl.length
  · rw [List.drop_eq_getElem_cons c, List.map_cons] at h
    obtain ⟨h1, h2⟩ := List.cons.inj h
    have e : (rd_T48 tl (i : Int)) = tl[i] := by
      unfold rd_T48
      rw [Int.toNat_natCast, List.getD_eq_getElem?_getD, List.getElem?_eq_getElem c]; rfl
    rw [e, ← h1]
    exact ⟨c, rfl, rfl, h2⟩
  · rw [List.drop_of_length_le (by omega)] at h
    cases h
theorem At.nil {tl : List S48} {i : Nat} (h : At tl i []) : tl.length ≤ i := by
  unfold At at h
  have := congrArg List.length h
  rw [List.length_map, List.length_drop, List.length_nil] at this
  omega

def Lo (k : Nat) (l : List S32) (tl : List S48) (i n : Int) (c : Cx) : Prop := roadbooktop_WholeResolved.lo k l tl i n c.p1 c.p2 c.p3 c.h0 c.h1 c.id
theorem lo_skip (l : List S32) (tl : List S48) (ht : tl.length ≤ 100000) (n : Int) (c : Cx) (k : Nat) (a : List (Int × ByteArray)) : ∀ (r : List (Int × ByteArray)) (i : Nat), (∀ t ∈ a, Okt t ∧ (t.1 < 6 ∨ 8 < t.1)) → At tl i (a ++ r) → (At tl (i + a.length) r → Lo k l tl ((i + a.length : Nat) : Int) n c) → Lo (k + a.length) l tl (i : Int) n c := by
  induction a with
  | nil => intro r i h H g; exact g H
  | cons p a ih =>
    intro r i h H g
    rw [List.cons_append] at H
    obtain ⟨q, e1, e2, H'⟩ := H.cons
    have I := ih r (i + 1) (fun t ht => h t (List.mem_cons_of_mem _ ht)) H' (by rw [List.length_cons, show i + (a.length + 1) = i + 1 + a.length by omega] at g; exact g)
    unfold Lo at I ⊢
    rw [List.length_cons, show k + (a.length + 1) = (k + a.length) + 1 by omega, roadbooktop_WholeResolved.lo]
    refine ⟨fun _ => ⟨by omega, Or.inl ⟨by rw [e1]; exact (h p List.mem_cons_self).2, ?_⟩⟩, fun hn => absurd (by omega) hn⟩
    rw [wrap64_id (by omega) (by omega)]
    exact I
theorem lo_ups (l : List S32) (hl : l.length ≤ 1000) (tl : List S48) (ht : tl.length ≤ 100000) (x : Nat) (k : Nat) (hk : 1100 ≤ k) (c1 : Cx) (a : List (Int × ByteArray)) : ∀ (r : List (Int × ByteArray)) (i n : Nat) (c : Cx), Next l n x → Ups a c c1 → At tl i (a ++ r) → (∀ n', Next l n' x → At tl (i + a.length) r → Lo k l tl ((i + a.length : Nat) : Int) (n' : Int) c1) → Lo (k + a.length) l tl (i : Int) (n : Int) c := by
  induction a with
  | nil =>
    intro r i n c N u H g
    obtain rfl : c1 = c := u
    exact g n N H
  | cons p a ih =>
    intro r i n c N u H g
    rw [List.cons_append] at H
    obtain ⟨q, e1, e2, H'⟩ := H.cons
    obtain ⟨h1, h2, c2, h3, h4⟩ := u
    have I := ih r (i + 1) x c2 N.self h4 H' (by rw [List.length_cons, show i + (a.length + 1) = i + 1 + a.length by omega] at g; exact g)
    unfold Lo at I ⊢
    rw [List.length_cons, show k + (a.length + 1) = (k + a.length) + 1 by omega, roadbooktop_WholeResolved.lo]
    refine ⟨fun _ => ⟨by omega, Or.inr ⟨by rw [e1]; omega, by rw [e1]; omega, c2.p1, c2.p2, c2.p3, c2.h0, c2.h1, c2.id, none, (x : Int), ?_, nx_ex l hl x (x - n) _ n (by have := N.2.1; omega) rfl N, ?_, fun M hM => (by cases hM)⟩⟩, fun hn => absurd (by omega) hn⟩
    · rw [e1, e2]; exact h3 _ (by omega)
    · intro _
      rw [wrap64_id (by omega) (by omega)]
      exact I
theorem lo_tr (l : List S32) (tl : List S48) (hl : l.length ≤ 1000) (ht : tl.length ≤ 100000) (ms : List S32) : ∀ (k i n x : Nat) (c : Cx) (ts : List (Int × ByteArray)), l.drop x = ms → x ≤ l.length → At tl i ts → Tr ms c ts → n ≤ x → (∀ j : Nat, n ≤ j → j < x → (rd_T32 l (j : Int)).f0 ≠ 11) → ts.length + 1200 ≤ k → Lo k l tl (i : Int) (n : Int) c := by
  induction ms with
  | nil =>
    intro k i n x c ts hd hx A T hn hj hk
    obtain rfl : ts = [] := T
    have := A.nil
    have hx' : x = l.length := by
      have := congrArg List.length hd
      rw [List.length_drop, List.length_nil] at this
      omega
    obtain ⟨k, rfl⟩ : ∃ j, k = j + 1 := ⟨k - 1, by omega⟩
    unfold Lo
    rw [roadbooktop_WholeResolved.lo]
    exact ⟨fun h => absurd h (by omega), fun _ => ⟨by rw [← hx']; exact nx_ex l hl x (x - n) k n (by omega) rfl ⟨hn, hx, hj, fun h => by omega⟩, whrawake_f⟩⟩
  | cons m ms ih =>
    intro k i n x c ts hd hx A T hn hj hk
    have hx' : x < l.length := by
      have := congrArg List.length hd
      rw [List.length_drop, List.length_cons] at this
      omega
    rw [drop_rdM hx'] at hd
    obtain ⟨em, hd'⟩ := List.cons.inj hd
    obtain ⟨a, b, c', rfl, S, T'⟩ := T
    unfold Step at S
    rw [← em] at S
    by_cases cc : (rd_T32 l (x : Int)).f0 = 11
    · rw [if_pos cc] at S
      obtain ⟨u, d, c1, rfl, hu, ok, G⟩ := S
      rw [List.append_assoc] at A
      have hlen : (u ++ [(8, d)] ++ b).length = u.length + 1 + b.length := by rw [List.length_append, List.length_append]; rfl
      rw [hlen] at hk
      obtain ⟨k, rfl⟩ : ∃ j, k = j + 1 + u.length := ⟨k - 1 - u.length, by omega⟩
      refine lo_ups l hl tl ht x (k + 1) (by omega) c1 u _ i n c ⟨hn, by omega, hj, fun _ => cc⟩ hu A (fun n' N A' => ?_)
      rw [List.singleton_append] at A'
      obtain ⟨t1, t2, t3, t4⟩ := A'.cons
      unfold Lo
      rw [roadbooktop_WholeResolved.lo]
      refine ⟨fun _ => ⟨by omega, Or.inr ⟨by rw [t2]; exact (by decide : (6 : Int) ≤ 8), by rw [t2]; exact (by decide : (8 : Int) ≤ 8), c'.p1, c'.p2, c'.p3, c'.h0, c'.h1, c'.id, some (rd_T32 l (x : Int)), (x : Int), ?_, nx_ex l hl x (x - n') k n' (by omega) rfl N, fun h => (by cases h), fun M hM => ⟨by omega, by omega, Option.some.inj hM, ?_⟩⟩⟩, fun h => absurd (by omega) h⟩
      · rw [t2, t3]; exact G k (by omega)
      · rw [wrap64_id (x := ((i + u.length : Nat) : Int) + 1) (by omega) (by omega), wrap64_id (x := (x : Int) + 1) (by omega) (by omega)]
        exact ih k (i + u.length + 1) (x + 1) (x + 1) c' b hd' (by omega) t4 T' (Nat.le_refl _) (fun j h1 h2 => by omega) (by omega)
    · rw [if_neg cc] at S
      obtain ⟨hu, rfl⟩ := S
      rw [List.length_append] at hk
      obtain ⟨k, rfl⟩ : ∃ j, k = j + a.length := ⟨k - a.length, by omega⟩
      refine lo_skip l tl ht n c' k a b i hu A (fun A' => ?_)
      exact ih k (i + a.length) n (x + 1) c' b hd' (by omega) A' T' (by omega) (fun j h1 h2 => by
        by_cases e : j = x
        · rw [e]; exact cc
        · exact hj j h1 (by omega)) (by omega)
theorem Tr.ok {ms : List S32} : ∀ {c : Cx} {ts : List (Int × ByteArray)}, Tr ms c ts → ∀ t ∈ ts, Okt t := by
  induction ms with
  | nil => intro c ts h t ht; obtain rfl : ts = [] := h; cases ht
  | cons m ms ih =>
    intro c ts h t ht
    obtain ⟨a, b, c', rfl, S, T⟩ := h
    rcases List.mem_append.mp ht with q | q
    · unfold Step at S
      split at S
      · obtain ⟨u, d, c1, rfl, hu, ok, G⟩ := S
        rcases List.mem_append.mp q with q | q
        · exact hu.ok t q
        · rw [List.mem_singleton] at q; subst q; exact ok
      · exact (S.1 t q).1
    · exact ih T t q

theorem WholeResolved : roadbooktop_WholeResolved.Pure := by
  intro l g
  refine ⟨70000, ?_⟩
  unfold roadbooktop_WholeResolved.f
  have hs : ∀ (x : S32), good32 x → (x.f3.size ≤ 140737488351232 ∧ x.f6.size ≤ 140737488351232 ∧ x.f9.size ≤ 140737488351232 ∧ x.f11.size ≤ 140737488351232 ∧ x.f19.size ≤ 140737488351232 ∧ x.f20.size ≤ 140737488351232) := fun x h => ⟨h.2.2.2.1, h.2.2.2.2.2.2.1, h.2.2.2.2.2.2.2.2.2.1, h.2.2.2.2.2.2.2.2.2.2.2.1, h.2.2.2.2.2.2.2.2.2.2.2.2.2.2.2.2.2.2.2.1, h.2.2.2.2.2.2.2.2.2.2.2.2.2.2.2.2.2.2.2.2.1⟩
  have hw : ∀ (x : S32), good32 x → Wf x := fun x h => ⟨wf_i64 h.2.2.2.2.2.2.2.1, wf_i64 h.2.2.2.2.2.2.2.2.2.2.1, wf_i64 h.2.2.2.2.2.2.2.2.2.2.2.2.1, wf_i64 h.2.2.2.2.2.2.2.2.2.2.2.2.2.2.1, wf_i64 h.2.2.2.2.2.2.2.2.2.2.2.2.2.2.2.2.1, wf_i64 h.2.2.2.2.2.2.2.2.2.2.2.2.2.2.2.2.2.1, wf_i64 h.2.2.2.2.2.2.2.2.2.2.2.2.2.2.2.2.2.2.1⟩
  obtain ⟨b, e, hb⟩ := fewall_f l 40 (by omega) (fun x hx => hs x (g.2 x hx)) 70000 (by omega)
  refine ⟨b, e, fun _ => whrawake_f, fun hb' => ?_⟩
  obtain ⟨h40, few⟩ := hb hb'
  obtain ⟨b, n, e, er, he⟩ := la_ex l (by omega) (fun x hx => ⟨few x hx, hw x (g.2 x hx)⟩) l.length 70000 0 (by omega) (by omega) (by omega)
  refine ⟨b, n, e, er, fun _ => whrawake_f, fun c => ?_⟩
  obtain ⟨ts, h, w, T, eb, hh, hw, hs, hz⟩ := he c
  have hlen := fl_len ts
  have zt : (tls 4 0 ts).length = ts.length := by
    have := congrArg List.length (tls_map 4 ts 0)
    rwa [List.length_map] at this
  rw [eb]
  exact ⟨fl ts, 0, tls 4 0 ts, 0, body_f h w (fl ts) hh hw hs hz, split_f 4 ts T.ok (by omega) (by omega) 70000 (by omega), lo_tr l (tls 4 0 ts) (by omega) (by omega) l 70000 0 0 0 ⟨⟨#[]⟩, ⟨#[]⟩, ⟨#[]⟩, ⟨#[]⟩, ⟨#[]⟩, ⟨#[]⟩⟩ ts rfl (Nat.zero_le _) (tls_map 4 ts 0) T (Nat.le_refl _) (fun j h1 h2 => absurd h2 (Nat.not_lt_zero _)) (by omega)⟩

end Go.Proofs.YtnllanjoebjeiaaGreat.Pure
