/-
A longer mask begins with a shorter one, and is another one; for any two lengths.
-/
import Derived.Test.YtelcciekdoccfaaPMaskRisesx
import Derived.Test.YtelcciekdoccfaaBase
namespace Go.Proofs.Ytelcciekdoccfaa.Pure
open Go.RowKit Go.Proofs.Ytelcciekdoccfaa.PMaskRises Go.Proofs.YtelcciekdoccfaaW.PrintWords Go.Proofs.YtelcciekdoccfaaW.PrintLast Go.Proofs.YtelcciekdoccfaaW.PrintMore Go.Proofs.Ytelcciekdoccfaa.Base
set_option linter.unusedVariables false
set_option linter.unusedSimpArgs false

/-- Bit m (the highest is 0) of a byte. -/
def bitAt (b : Int) (m : Nat) : Bool := b.toNat.testBit (7 - m)
/-- Bit i of a text. -/
def bit (s : ByteArray) (i : Int) : Bool := decide (0 ≤ i ∧ i < 8 * s.size) && bitAt (bt s (i / 8)) (i % 8).toNat
/-- The first m bits of a byte alone. -/
def kb (b : Int) (m : Int) : Int := if m ≤ 0 then 0 else if 8 ≤ m then b else b / 2 ^ (8 - m).toNat * 2 ^ (8 - m).toNat
/-- The first n bits of a text alone. -/
def keepL (s : ByteArray) (n : Int) : List Int := (List.range s.size).map fun (j : Nat) => kb (bt s j) (n - 8 * j)
def keep (s : ByteArray) (n : Int) : ByteArray := strOfNums (keepL s n)

theorem kb_mid : ∀ b : Fin 256, ∀ m : Fin 8, Go.bits .andNot .u8 ((b.val : Nat) : Int) (255 / 2 ^ m.val) = kb ((b.val : Nat) : Int) (m.val : Nat) := by decide +kernel
theorem kb_bit : ∀ b : Fin 256, ∀ m : Fin 9, ∀ j : Fin 8, bitAt (kb ((b.val : Nat) : Int) (m.val : Nat)) j.val = (decide (j.val < m.val) && bitAt ((b.val : Nat) : Int) j.val) := by decide +kernel
theorem kb_kb_fin : ∀ b : Fin 256, ∀ m : Fin 9, kb (kb ((b.val : Nat) : Int) (m.val : Nat)) (m.val : Nat) = kb ((b.val : Nat) : Int) (m.val : Nat) := by decide +kernel
theorem kb_range_fin : ∀ b : Fin 256, ∀ m : Fin 9, 0 ≤ kb ((b.val : Nat) : Int) (m.val : Nat) ∧ kb ((b.val : Nat) : Int) (m.val : Nat) ≤ 255 := by decide +kernel
theorem kb_step_fin : ∀ b : Fin 256, ∀ m : Fin 8, kb ((b.val : Nat) : Int) ((m.val + 1 : Nat) : Int) = (kb ((b.val : Nat) : Int) (m.val : Nat) + if bitAt ((b.val : Nat) : Int) m.val = true then 2 ^ (7 - m.val) else 0) := by decide +kernel
theorem bit_and_fin : ∀ b : Fin 256, ∀ m : Fin 8, (Go.bits .and .u8 ((b.val : Nat) : Int) (128 / 2 ^ m.val) != 0) = bitAt ((b.val : Nat) : Int) m.val := by decide +kernel
theorem bit_div_fin : ∀ b : Fin 256, ∀ m : Fin 8, (Int.tmod (((b.val : Nat) : Int) / 2 ^ (7 - m.val)) 2 == 1) = bitAt ((b.val : Nat) : Int) m.val := by decide +kernel

/-- A byte, as one of 256. -/
theorem byte_fin {b : Int} (h : 0 ≤ b ∧ b ≤ 255) : ∃ x : Fin 256, b = ((x.val : Nat) : Int) := ⟨⟨b.toNat, by omega⟩, by simp; omega⟩
/-- How many of a byte's bits are kept, as one of 0 to 8. -/
theorem kb_clip (b m : Int) : ∃ q : Fin 9, kb b m = kb b (q.val : Nat) ∧ (q.val : Int) = max 0 (min 8 m) := by
  by_cases h0 : m ≤ 0
  · exact ⟨⟨0, by omega⟩, by unfold kb; rw [if_pos h0, if_pos (by simp)], by simp; omega⟩
  · by_cases h8 : 8 ≤ m
    · exact ⟨⟨8, by omega⟩, by unfold kb; rw [if_neg h0, if_pos h8, if_neg (by simp), if_pos (by simp)], by simp; omega⟩
    · exact ⟨⟨m.toNat, by omega⟩, by simp only [show ((m.toNat : Nat) : Int) = m by omega], by simp; omega⟩
theorem kb_range {b : Int} (h : 0 ≤ b ∧ b ≤ 255) (m : Int) : 0 ≤ kb b m ∧ kb b m ≤ 255 := by
  obtain ⟨x, rfl⟩ := byte_fin h
  obtain ⟨q, e, _⟩ := kb_clip ((x.val : Nat) : Int) m
  rw [e]; exact kb_range_fin x q
theorem kb_kb {b : Int} (h : 0 ≤ b ∧ b ≤ 255) (m : Int) : kb (kb b m) m = kb b m := by
  obtain ⟨x, rfl⟩ := byte_fin h
  obtain ⟨q, e, hq⟩ := kb_clip ((x.val : Nat) : Int) m
  obtain ⟨q', e', hq'⟩ := kb_clip (kb ((x.val : Nat) : Int) m) m
  have : q' = q := Fin.ext (by omega)
  rw [e', this, e]; exact kb_kb_fin x q
theorem kb_bitAt {b : Int} (h : 0 ≤ b ∧ b ≤ 255) (m : Int) (j : Nat) (hj : j < 8) : bitAt (kb b m) j = (decide ((j : Int) < m) && bitAt b j) := by
  obtain ⟨x, rfl⟩ := byte_fin h
  obtain ⟨q, e, hq⟩ := kb_clip ((x.val : Nat) : Int) m
  rw [e]
  have := kb_bit x q ⟨j, hj⟩
  simp only at this
  rw [this]
  congr 1
  rw [Bool.eq_iff_iff, decide_eq_true_iff, decide_eq_true_iff]; omega

theorem keepL_length (s : ByteArray) (n : Int) : (keepL s n).length = s.size := by simp [keepL]
theorem keepL_getD (s : ByteArray) (n : Int) (j : Nat) (h : j < s.size) : (keepL s n).getD j 0 = kb (bt s j) (n - 8 * j) := by
  simp [keepL, List.getD_eq_getElem?_getD, List.getElem?_map, List.getElem?_range h]
theorem keepL_range (s : ByteArray) (n : Int) : ∀ x ∈ keepL s n, 0 ≤ x ∧ x ≤ 255 := by
  intro x hx
  simp only [keepL, List.mem_map] at hx
  obtain ⟨j, _, rfl⟩ := hx
  exact kb_range (bt_range s j) _
theorem keep_size (s : ByteArray) (n : Int) : (keep s n).size = s.size := by rw [keep, size_nums, keepL_length]
theorem bt_keep (s : ByteArray) (n : Int) (j : Nat) (h : j < s.size) : bt (keep s n) j = kb (bt s j) (n - 8 * j) := by
  rw [keep, bt_bytes _ (keepL_range s n), keepL_getD s n j h]
theorem keep_keep (s : ByteArray) (n : Int) : keep (keep s n) n = keep s n := by
  refine ext_bt (by rw [keep_size]) fun j hj => ?_
  rw [keep_size, keep_size] at hj
  rw [bt_keep _ _ _ (by rw [keep_size]; exact hj), bt_keep _ _ _ hj, kb_kb (bt_range s j)]
theorem bit_keep (s : ByteArray) (n i : Int) : bit (keep s n) i = (decide (i < n) && bit s i) := by
  unfold bit
  rw [keep_size]
  by_cases h : 0 ≤ i ∧ i < 8 * (s.size : Int)
  · rw [decide_eq_true h, Bool.true_and, Bool.true_and]
    have e : bt (keep s n) (i / 8) = kb (bt s (i / 8)) (n - 8 * (i / 8)) := by
      have := bt_keep s n (i / 8).toNat (by omega)
      rwa [show (((i / 8).toNat : Nat) : Int) = i / 8 by omega] at this
    rw [e, kb_bitAt (bt_range s _) _ _ (by omega)]
    congr 1
    rw [Bool.eq_iff_iff, decide_eq_true_iff, decide_eq_true_iff]; omega
  · rw [decide_eq_false h]; simp

theorem and7 {n : Int} (h0 : 0 ≤ n) (h1 : n < 9223372036854775808) : Go.bits .and .i64 n 7 = n % 8 :=
  bits_mask .i64 63 (by decide) (fun m h0 h1 => by rw [IntKind.wrap_i64]; omega) 3 (by decide) n h0 (by simpa using h1)

theorem set_getD {l : List Int} {k j : Nat} (v : Int) (h : j < l.length) : (l.set k v).getD j 0 = if k = j then v else l.getD j 0 := by
  rw [List.getD_eq_getElem?_getD, List.getElem?_set]
  split
  · rename_i e; subst e; rw [if_pos h]; rfl
  · rw [List.getD_eq_getElem?_getD]
theorem rep_getD (m j : Nat) : (List.replicate m (0 : Int)).getD j 0 = 0 := by
  rw [List.getD_eq_getElem?_getD, List.getElem?_replicate]; split <;> rfl

def mk (n : Nat) : ByteArray := keep (⟨#[255, 255, 255, 255]⟩ : ByteArray) n
theorem mk_size (n : Nat) : (mk n).size = 4 := keep_size _ _
theorem of_fin : ∀ p : Fin 33, mask_Of.f ((p.val : Nat) : Int) = some (mk p.val, true) := by decide +kernel
theorem plen_fin : ∀ p : Fin 33, mask_Plen.f (mk p.val) = some (((p.val : Nat) : Int), true) := by decide +kernel
theorem mask_Of_f (n : Int) : mask_Of.f n = some (if 0 ≤ n ∧ n ≤ 32 then (mk n.toNat, true) else ((⟨#[]⟩ : ByteArray), false)) := by
  by_cases h : 0 ≤ n ∧ n ≤ 32
  · rw [if_pos h]
    have := of_fin ⟨n.toNat, by omega⟩
    simp only at this
    rwa [show ((n.toNat : Nat) : Int) = n by omega] at this
  · rw [if_neg h]
    unfold mask_Of.f
    by_cases h0 : n < 0
    · rw [if_pos h0]
    · rw [if_neg h0, if_pos (by omega)]
theorem mk_inj {n m : Nat} (hn : n ≤ 32) (hm : m ≤ 32) (h : mk n = mk m) : n = m := by
  have a := plen_fin ⟨n, by omega⟩
  have b := plen_fin ⟨m, by omega⟩
  simp only at a b
  rw [h, b] at a
  simp at a
  omega
theorem u32_range (op : BinOp) (x y : Int) : 0 ≤ Go.bits op .u32 x y ∧ Go.bits op .u32 x y ≤ 4294967295 := by
  unfold Go.bits
  rw [IntKind.wrap_u32]
  omega
/-- The length of a text that is a mask. -/
def PlenIs (s : ByteArray) (r : Int × Bool) : Prop := (∃ n : Nat, n ≤ 32 ∧ s = mk n ∧ r = ((n : Int), true)) ∨ ((∀ n : Nat, n ≤ 32 → s ≠ mk n) ∧ r = (0, false))
theorem PlenIs.one {s : ByteArray} {r q : Int × Bool} (h : PlenIs s r) (k : PlenIs s q) : r = q := by
  rcases h with ⟨n, hn, rfl, rfl⟩ | ⟨h, rfl⟩
  · rcases k with ⟨m, hm, e, rfl⟩ | ⟨k, rfl⟩
    · rw [mk_inj hn hm e]
    · exact absurd rfl (k n hn)
  · rcases k with ⟨m, hm, e, rfl⟩ | ⟨k, rfl⟩
    · exact absurd e (h m hm)
    · rfl
theorem mask_Plen_f (s : ByteArray) : ∃ r, mask_Plen.f s = some r ∧ PlenIs s r := by
  by_cases c : ∃ n : Nat, n ≤ 32 ∧ s = mk n
  · obtain ⟨n, hn, rfl⟩ := c
    have := plen_fin ⟨n, by omega⟩
    exact ⟨_, this, .inl ⟨n, hn, rfl, rfl⟩⟩
  · refine ⟨(0, false), ?_, .inr ⟨fun n hn e => c ⟨n, hn, e⟩, rfl⟩⟩
    unfold mask_Plen.f
    by_cases h4 : (s.size : Int) = 4
    · rw [if_pos h4, if_pos (by omega), if_pos (by omega), if_pos (by omega), if_pos (by omega)]
      unfold bits_LeadingZeros32.f bits_Len32.f
      rw [if_pos (u32_range _ _ _), Option.bind_some, Option.bind_some, mask_Of_f, Option.bind_some, if_neg]
      rw [toList_inj]
      split
      · rename_i h
        intro e
        exact c ⟨_, by omega, e.symm⟩
      · intro e
        rw [← e] at h4
        exact absurd h4 (by decide)
    · rw [if_neg h4]

theorem getD_ext {a b : List Int} (hl : a.length = b.length) (h : ∀ j, j < a.length → a.getD j 0 = b.getD j 0) : a = b := by
  apply List.ext_getElem hl
  intro i h1 h2
  have := h i h1
  rw [List.getD_eq_getElem?_getD, List.getElem?_eq_getElem h1, List.getD_eq_getElem?_getD, List.getElem?_eq_getElem h2] at this
  exact this
theorem keepL_eq (s : ByteArray) {a b : Int} (h : ∀ j : Nat, j < s.size → kb (bt s j) (a - 8 * j) = kb (bt s j) (b - 8 * j)) : keepL s a = keepL s b := by
  refine getD_ext (by rw [keepL_length, keepL_length]) fun j hj => ?_
  rw [keepL_length] at hj
  rw [keepL_getD _ _ _ hj, keepL_getD _ _ _ hj, h j hj]
theorem kb_low (b : Int) {m : Int} (h : m ≤ 0) : kb b m = 0 := by unfold kb; rw [if_pos h]
theorem kb_high (b : Int) {m : Int} (h : 8 ≤ m) : kb b m = b := by unfold kb; rw [if_neg (by omega), if_pos h]
theorem keepL_step (s : ByteArray) (i : Int) (h0 : 0 ≤ i) (h1 : i < 8 * s.size) :
    keepL s (i + 1) = if bit s i = true then (keepL s i).set (i / 8).toNat (kb (bt s (i / 8)) (i - 8 * (i / 8)) + 2 ^ (7 - (i % 8).toNat)) else keepL s i := by
  obtain ⟨q, hq⟩ : ∃ q : Nat, i / 8 = q := ⟨(i / 8).toNat, by omega⟩
  have hb : bit s i = bitAt (bt s (i / 8)) (i % 8).toNat := by unfold bit; rw [decide_eq_true ⟨h0, h1⟩, Bool.true_and]
  have hstep : kb (bt s q) (i + 1 - 8 * q) = kb (bt s q) (i - 8 * q) + if bitAt (bt s q) (i % 8).toNat = true then 2 ^ (7 - (i % 8).toNat) else 0 := by
    obtain ⟨x, hx⟩ := byte_fin (bt_range s q)
    rw [hx]
    have := kb_step_fin x ⟨(i % 8).toNat, by omega⟩
    simp only at this
    rw [show i + 1 - 8 * (q : Int) = (((i % 8).toNat + 1 : Nat) : Int) by omega, this, show i - 8 * (q : Int) = (((i % 8).toNat : Nat) : Int) by omega]
  have other : ∀ j : Nat, j ≠ q → kb (bt s j) (i + 1 - 8 * j) = kb (bt s j) (i - 8 * j) := by
    intro j hj
    by_cases c : j < q
    · rw [kb_high _ (by omega), kb_high _ (by omega)]
    · rw [kb_low _ (by omega), kb_low _ (by omega)]
  rw [hb, hq]
  rw [show ((q : Int)).toNat = q by omega]
  by_cases c : bitAt (bt s q) (i % 8).toNat = true
  · rw [if_pos c] at hstep ⊢
    refine getD_ext (by rw [keepL_length, List.length_set, keepL_length]) fun j hj => ?_
    rw [keepL_length] at hj
    rw [keepL_getD _ _ _ hj, set_getD _ (by rw [keepL_length]; exact hj)]
    by_cases e : q = j
    · rw [if_pos e, ← e, hstep]
    · rw [if_neg e, keepL_getD _ _ _ hj, other j (fun c => e c.symm)]
  · rw [if_neg c] at hstep ⊢
    refine keepL_eq s fun j hj => ?_
    by_cases e : j = q
    · rw [e, hstep, Int.add_zero]
    · exact other j e

theorem refBit_f (s : ByteArray) (i : Int) (hs : s.size ≤ 1000000) : roadbookref03_Bit.f s i = some (bit s i) := by
  unfold roadbookref03_Bit.f bit
  by_cases h0 : 0 ≤ i
  · rw [if_pos h0, wrap64_id (x := 8 * _) (by omega) (by omega)]
    by_cases h1 : i < 8 * (s.size : Int)
    · have e1 : wrap64 (Int.tdiv i 8) = i / 8 := by rw [Int.tdiv_eq_ediv_of_nonneg h0, wrap64_id (by omega) (by omega)]
      have e2 : IntKind.u64.wrap (wrap64 (7 - Int.tmod i 8)) = 7 - i % 8 := by rw [Int.tmod_eq_emod_of_nonneg h0, wrap64_id (by omega) (by omega), u64_id (by omega) (by omega)]
      have hr := bt_range s (i / 8)
      rw [if_pos h1, e1, e2, if_pos (by omega), if_pos (by omega), if_pos (by omega), decide_eq_true ⟨h0, h1⟩, Bool.true_and, wrap64_id (by omega) (by omega)]
      congr 1
      obtain ⟨x, hx⟩ := byte_fin hr
      rw [hx]
      have := bit_div_fin x ⟨(i % 8).toNat, by omega⟩
      simp only at this
      unfold shr
      rw [show min (7 - i % 8).toNat IntKind.i64.bits = 7 - (i % 8).toNat by simp [IntKind.bits]; omega]
      exact this
    · rw [if_neg h1, decide_eq_false (fun h => h1 h.2)]; rfl
  · rw [if_neg h0, decide_eq_false (fun h => h0 h.1)]; rfl

theorem kb_add_range {b : Int} (h : 0 ≤ b ∧ b ≤ 255) (m : Nat) (hm : m < 8) (hb : bitAt b m = true) : 0 ≤ kb b m + 2 ^ (7 - m) ∧ kb b m + 2 ^ (7 - m) ≤ 255 := by
  obtain ⟨x, rfl⟩ := byte_fin h
  have := kb_step_fin x ⟨m, hm⟩
  simp only at this
  rw [if_pos hb] at this
  rw [← this]; exact kb_range h _

theorem refKeep_l (s : ByteArray) (hs : s.size ≤ 1000000) (n : Int) (m : Nat) :
    ∀ (k : Nat) (i : Int), 2 * m + 2 < k → 0 ≤ i → 8 * (s.size : Int) - i = m → (i ≤ n ∨ i = 0) → roadbookref03_Keep.l0 k s n (keepL s i) i = some (keep s n) := by
  induction m with
  | zero =>
    intro k i hk h0 hm hi
    obtain ⟨k, rfl⟩ : ∃ j, k = j + 2 := ⟨k - 2, by omega⟩
    simp only [roadbookref03_Keep.l0]
    rw [wrap64_id (by omega) (by omega), if_neg (by omega)]
    simp only [roadbookref03_Keep.j1, Bool.false_eq_true, if_false]
    rw [keep, keepL_eq s (a := i) (b := n) (fun j hj => by rw [kb_high _ (by omega), kb_high _ (by omega)])]
  | succ m ih =>
    intro k i hk h0 hm hi
    obtain ⟨k, rfl⟩ : ∃ j, k = j + 2 := ⟨k - 2, by omega⟩
    simp only [roadbookref03_Keep.l0]
    rw [wrap64_id (by omega) (by omega), if_pos (by omega)]
    simp only [roadbookref03_Keep.j1, decide_eq_true_eq]
    by_cases c : i < n
    · rw [if_pos c, refBit_f s i hs, Option.bind_some]
      have hstep := keepL_step s i h0 (by omega)
      have hnext := ih k (i + 1) (by omega) (by omega) (by omega) (by omega)
      rw [wrap64_id (x := i + 1) (by omega) (by omega)]
      by_cases hb : bit s i = true
      · rw [if_pos hb] at hstep ⊢
        have e1 : wrap64 (Int.tdiv i 8) = i / 8 := by rw [Int.tdiv_eq_ediv_of_nonneg h0, wrap64_id (by omega) (by omega)]
        have e2 : IntKind.u64.wrap (wrap64 (7 - Int.tmod i 8)) = 7 - i % 8 := by rw [Int.tmod_eq_emod_of_nonneg h0, wrap64_id (by omega) (by omega), u64_id (by omega) (by omega)]
        rw [e1, e2, if_pos (by omega), if_pos (by rw [keepL_length]; omega), if_pos (by omega)]
        have e3 : rd (keepL s i) (i / 8) = kb (bt s (i / 8)) (i - 8 * (i / 8)) := by
          have := keepL_getD s i (i / 8).toNat (by omega)
          unfold rd
          rw [this, show (((i / 8).toNat : Nat) : Int) = i / 8 by omega]
        have e4 : shl .u8 1 (7 - i % 8) = 2 ^ (7 - (i % 8).toNat) := by
          unfold shl
          rw [show min (7 - i % 8).toNat IntKind.u8.bits = 7 - (i % 8).toNat by simp [IntKind.bits]; omega, Int.one_mul, IntKind.wrap_u8]
          have : (i % 8).toNat < 8 := by omega
          have : ∀ q : Fin 8, (2 : Int) ^ (7 - q.val) % 256 = 2 ^ (7 - q.val) := by decide
          exact this ⟨(i % 8).toNat, by omega⟩
        have hbA : bitAt (bt s (i / 8)) (i % 8).toNat = true := by
          unfold bit at hb
          rwa [decide_eq_true (by omega), Bool.true_and] at hb
        have hr := kb_add_range (bt_range s (i / 8)) (i % 8).toNat (by omega) hbA
        rw [show (((i % 8).toNat : Nat) : Int) = i - 8 * (i / 8) by omega] at hr
        rw [e3, e4, Int.emod_eq_of_lt hr.1 (by omega), ← hstep]
        exact hnext
      · rw [if_neg hb] at hstep ⊢
        rw [← hstep]; exact hnext
    · rw [if_neg c]
      rw [keep, keepL_eq s (a := i) (b := n)]
      intro j hj
      rcases hi with hi | hi
      · rw [show i = n by omega]
      · subst hi; rw [kb_low _ (by omega), kb_low _ (by omega)]

theorem refKeep_f (s : ByteArray) (n : Int) (hs : s.size ≤ 1000000) (k : Nat) (hk : 16 * s.size + 2 < k) : roadbookref03_Keep.f k s n = some (keep s n) := by
  unfold roadbookref03_Keep.f
  rw [if_pos (by omega), if_pos (by omega)]
  have e : List.replicate ((s.size : Int)).toNat (0 : Int) = keepL s 0 := by
    refine getD_ext (by rw [keepL_length, List.length_replicate]; omega) fun j hj => ?_
    rw [List.length_replicate] at hj
    rw [rep_getD, keepL_getD _ _ _ (by omega), kb_low _ (by omega)]
  rw [e]
  exact refKeep_l s hs n (8 * s.size) k 0 (by omega) (by omega) (by omega) (.inr rfl)

theorem awake_f : roadbooklaw05_awake.f = some true := by decide +kernel

theorem rise_fin : ∀ n m : Fin 33, n.val ≤ m.val → keep (mk m.val) ((n.val : Nat) : Int) = mk n.val ∧ (Op.bytesLess (mk n.val).toList (mk m.val).toList || (mk n.val).toList == (mk m.val).toList) = true := by decide +kernel

theorem rises_j (n m : Nat) (hn : n ≤ m) (hm : m ≤ 32) (k : Nat) (hk : 200 < k) : roadbooklaw05_MaskRises.j0 k n m = some true := by
  obtain ⟨k, rfl⟩ : ∃ j, k = j + 1 := ⟨k - 1, by omega⟩
  obtain ⟨e1, e2⟩ := rise_fin ⟨n, by omega⟩ ⟨m, by omega⟩ hn
  simp only at e1 e2
  simp only [roadbooklaw05_MaskRises.j0]
  rw [awake_f, mask_Of_f, mask_Of_f, if_pos (by omega), if_pos (by omega)]
  simp only [Option.bind_some, Int.toNat_natCast, if_true]
  rw [refKeep_f _ n (by rw [mk_size]; omega) k (by rw [mk_size]; omega)]
  simp only [Option.bind_some, e1]
  have e3 : ((mk n).toList == (mk m).toList) = ((n : Int) == (m : Int)) := by
    rw [Bool.eq_iff_iff, beq_iff_eq, beq_iff_eq, toList_inj]
    constructor
    · intro h
      rw [mk_inj (by omega) hm h]
    · intro h
      rw [show n = m by omega]
  rw [e2, e3]
  simp

theorem MaskRises : roadbooklaw05_MaskRises.Pure := by
  intro a b ha hb
  have ha := wf_u8 ha
  have hb := wf_u8 hb
  refine ⟨1000, ?_⟩
  unfold roadbooklaw05_MaskRises.f
  rw [Int.tmod_eq_emod_of_nonneg (by omega), Int.tmod_eq_emod_of_nonneg (by omega), wrap64_id (by omega) (by omega), wrap64_id (by omega) (by omega)]
  obtain ⟨n, hn⟩ : ∃ q : Nat, a % 33 = q := ⟨(a % 33).toNat, by omega⟩
  obtain ⟨m, hm⟩ : ∃ q : Nat, b % 33 = q := ⟨(b % 33).toNat, by omega⟩
  rw [hn, hm]
  by_cases c : (n : Int) > m
  · rw [if_pos c]; exact rises_j m n (by omega) (by omega) _ (by omega)
  · rw [if_neg c]; exact rises_j n m (by omega) (by omega) _ (by omega)

end Go.Proofs.Ytelcciekdoccfaa.Pure
