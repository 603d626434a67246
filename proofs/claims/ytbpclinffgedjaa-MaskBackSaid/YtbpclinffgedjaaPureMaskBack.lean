/-
A length's mask has that length, and a mask is its length's; for any length and any text of at most 100 bytes.
-/
import Derived.Test.YtbpclinffgedjaaPMaskBackx
import Derived.Test.YtbpclinffgedjaaBase
namespace Go.Proofs.Ytbpclinffgedjaa.Pure
open Go.RowKit Go.Proofs.Ytbpclinffgedjaa.PMaskBack Go.Proofs.YtbpclinffgedjaaW.PrintWords Go.Proofs.YtbpclinffgedjaaW.PrintLast Go.Proofs.YtbpclinffgedjaaW.PrintMore Go.Proofs.Ytbpclinffgedjaa.Base
set_option linter.unusedVariables false
set_option linter.unusedSimpArgs false

/-- Bit m (the highest is 0) of a byte. -/
def bitAt (b : Int) (m : Nat) : Bool := b.toNat.testBit (7 - m)
/-- Bit i of a text. -/
def bit (s : ByteArray) (i : Int) : Bool := decide (0 ≤ i ∧ i < 8 * s.size) && bitAt (bt s (i / 8)) (i % 8).toNat
/-- The first m bits of a byte alone. -/
def kb (b : Int) (m : Int) : Int := if m ≤ 0 then 0 else if 8 ≤ m then b else b / 2 ^ (8 - m).toNat * 2 ^ (8 - m).toNat
/-- The first n bits of a text alone. -/
def keepL (s : ByteArray) (n : Int) : List Int := (List.range s.size).map fun (j : Nat) => kb (bt s j) (n - 8 * j)
def keep (s : ByteArray) (n : Int) : ByteArray := strOfNums (keepL s n)

theorem kb_mid : ∀ b : Fin 256, ∀ m : Fin 8, Go.bits .andNot .u8 ((b.val : Nat) : Int) (255 / 2 ^ m.val) = kb ((b.val : Nat) : Int) (m.val : Nat) := by decide +kernel
theorem kb_bit : ∀ b : Fin 256, ∀ m : Fin 9, ∀ j : Fin 8, bitAt (kb ((b.val : Nat) : Int) (m.val : Nat)) j.val = (decide (j.val < m.val) && bitAt ((b.val : Nat) : Int) j.val) := by decide +kernel
theorem kb_kb_fin : ∀ b : Fin 256, ∀ m : Fin 9, kb (kb ((b.val : Nat) : Int) (m.val : Nat)) (m.val : Nat) = kb ((b.val : Nat) : Int) (m.val : Nat) := by decide +kernel
theorem kb_range_fin : ∀ b : Fin 256, ∀ m : Fin 9, 0 ≤ kb ((b.val : Nat) : Int) (m.val : Nat) ∧ kb ((b.val : Nat) : Int) (m.val : Nat) ≤ 255 := by decide +kernel
theorem kb_step_fin : ∀ b : Fin 256, ∀ m : Fin 8, kb ((b.val : Nat) : Int) ((m.val + 1 : Nat) : Int) = (kb ((b.val : Nat) : Int) (m.val : Nat) + if bitAt ((b.val : Nat) : Int) m.val = true then 2 ^ (7 - m.val) else 0) := by decide +kernel
theorem bit_and_fin : ∀ b : Fin 256, ∀ m : Fin 8, (Go.bits .and .u8 ((b.val : Nat) : Int) (128 / 2 ^ m.val) != 0) = bitAt ((b.val : Nat) : Int) m.val := by decide +kernel
theorem bit_div_fin : ∀ b : Fin 256, ∀ m : Fin 8, (Int.tmod (((b.val : Nat) : Int) / 2 ^ (7 - m.val)) 2 == 1) = bitAt ((b.val : Nat) : Int) m.val := by decide +kernel

/-- A byte, as one of 256. -/
theorem byte_fin {b : Int} (h : 0 ≤ b ∧ b ≤ 255) : ∃ x : Fin 256, b = ((x.val : Nat) : Int) := ⟨⟨b.toNat, by omega⟩, by simp; omega⟩
/-- How many of a byte's bits are kept, as one of 0 to 8. -/
theorem kb_clip (b m : Int) : ∃ q : Fin 9, kb b m = kb b (q.val : Nat) ∧ (q.val : Int) = max 0 (min 8 m) := by
  by_cases h0 : m ≤ 0
  · exact ⟨⟨0, by omega⟩, by unfold kb; rw [if_pos h0, if_pos (by simp)], by simp; omega⟩
  · by_cases h8 : 8 ≤ m
    · exact ⟨⟨8, by omega⟩, by unfold kb; rw [if_neg h0, if_pos h8, if_neg (by simp), if_pos (by simp)], by simp; omega⟩
    · exact ⟨⟨m.toNat, by omega⟩, by simp only [show ((m.toNat : Nat) : Int) = m by omega], by simp; omega⟩
theorem kb_range {b : Int} (h : 0 ≤ b ∧ b ≤ 255) (m : Int) : 0 ≤ kb b m ∧ kb b m ≤ 255 := by
  obtain ⟨x, rfl⟩ := byte_fin h
  obtain ⟨q, e, _⟩ := kb_clip ((x.val : Nat) : Int) m
  rw [e]; exact kb_range_fin x q
theorem kb_kb {b : Int} (h : 0 ≤ b ∧ b ≤ 255) (m : Int) : kb (kb b m) m = kb b m := by
  obtain ⟨x, rfl⟩ := byte_fin h
  obtain ⟨q, e, hq⟩ := kb_clip ((x.val : Nat) : Int) m
  obtain ⟨q', e', hq'⟩ := kb_clip (kb ((x.val : Nat) : Int) m) m
  have : q' = q := Fin.ext (by omega)
  rw [e', this, e]; exact kb_kb_fin x q
theorem kb_bitAt {b : Int} (h : 0 ≤ b ∧ b ≤ 255) (m : Int) (j : Nat) (hj : j < 8) : bitAt (kb b m) j = (decide ((j : Int) < m) && bitAt b j) := by
  obtain ⟨x, rfl⟩ := byte_fin h
  obtain ⟨q, e, hq⟩ := kb_clip ((x.val : Nat) : Int) m
  rw [e]
  have := kb_bit x q ⟨j, hj⟩
  simp only at this
  rw [this]
  congr 1
  rw [Bool.eq_iff_iff, decide_eq_true_iff, decide_eq_true_iff]; omega

theorem keepL_length (s : ByteArray) (n : Int) : (keepL s n).length = s.size := by simp [keepL]
theorem keepL_getD (s : ByteArray) (n : Int) (j : Nat) (h : j < s.size) : (keepL s n).getD j 0 = kb (bt s j) (n - 8 * j) := by
  simp [keepL, List.getD_eq_getElem?_getD, List.getElem?_map, List.getElem?_range h]
theorem keepL_range (s : ByteArray) (n : Int) : ∀ x ∈ keepL s n, 0 ≤ x ∧ x ≤ 255 := by
  intro x hx
  simp only [keepL, List.mem_map] at hx
  obtain ⟨j, _, rfl⟩ := hx
  exact kb_range (bt_range s j) _
theorem keep_size (s : ByteArray) (n : Int) : (keep s n).size = s.size := by rw [keep, size_nums, keepL_length]
theorem bt_keep (s : ByteArray) (n : Int) (j : Nat) (h : j < s.size) : bt (keep s n) j = kb (bt s j) (n - 8 * j) := by
  rw [keep, bt_bytes _ (keepL_range s n), keepL_getD s n j h]
theorem keep_keep (s : ByteArray) (n : Int) : keep (keep s n) n = keep s n := by
  refine ext_bt (by rw [keep_size]) fun j hj => ?_
  rw [keep_size, keep_size] at hj
  rw [bt_keep _ _ _ (by rw [keep_size]; exact hj), bt_keep _ _ _ hj, kb_kb (bt_range s j)]
theorem bit_keep (s : ByteArray) (n i : Int) : bit (keep s n) i = (decide (i < n) && bit s i) := by
  unfold bit
  rw [keep_size]
  by_cases h : 0 ≤ i ∧ i < 8 * (s.size : Int)
  · rw [decide_eq_true h, Bool.true_and, Bool.true_and]
    have e : bt (keep s n) (i / 8) = kb (bt s (i / 8)) (n - 8 * (i / 8)) := by
      have := bt_keep s n (i / 8).toNat (by omega)
      rwa [show (((i / 8).toNat : Nat) : Int) = i / 8 by omega] at this
    rw [e, kb_bitAt (bt_range s _) _ _ (by omega)]
    congr 1
    rw [Bool.eq_iff_iff, decide_eq_true_iff, decide_eq_true_iff]; omega
  · rw [decide_eq_false h]; simp

theorem and7 {n : Int} (h0 : 0 ≤ n) (h1 : n < 9223372036854775808) : Go.bits .and .i64 n 7 = n % 8 :=
  bits_mask .i64 63 (by decide) (fun m h0 h1 => by rw [IntKind.wrap_i64]; omega) 3 (by decide) n h0 (by simpa using h1)

theorem set_getD {l : List Int} {k j : Nat} (v : Int) (h : j < l.length) : (l.set k v).getD j 0 = if k = j then v else l.getD j 0 := by
  rw [List.getD_eq_getElem?_getD, List.getElem?_set]
  split
  · rename_i e; subst e; rw [if_pos h]; rfl
  · rw [List.getD_eq_getElem?_getD]
theorem rep_getD (m j : Nat) : (List.replicate m (0 : Int)).getD j 0 = 0 := by
  rw [List.getD_eq_getElem?_getD, List.getElem?_replicate]; split <;> rfl

def mk (n : Nat) : ByteArray := keep (⟨#[255, 255, 255, 255]⟩ : ByteArray) n
theorem mk_size (n : Nat) : (mk n).size = 4 := keep_size _ _
theorem of_fin : ∀ p : Fin 33, mask_Of.f ((p.val : Nat) : Int) = some (mk p.val, true) := by decide +kernel
theorem plen_fin : ∀ p : Fin 33, mask_Plen.f (mk p.val) = some (((p.val : Nat) : Int), true) := by decide +kernel
theorem mask_Of_f (n : Int) : mask_Of.f n = some (if 0 ≤ n ∧ n ≤ 32 then (mk n.toNat, true) else ((⟨#[]⟩ : ByteArray), false)) := by
  by_cases h : 0 ≤ n ∧ n ≤ 32
  · rw [if_pos h]
    have := of_fin ⟨n.toNat, by omega⟩
    simp only at this
    rwa [show ((n.toNat : Nat) : Int) = n by omega] at this
  · rw [if_neg h]
    unfold mask_Of.f
    by_cases h0 : n < 0
    · rw [if_pos h0]
    · rw [if_neg h0, if_pos (by omega)]
theorem mk_inj {n m : Nat} (hn : n ≤ 32) (hm : m ≤ 32) (h : mk n = mk m) : n = m := by
  have a := plen_fin ⟨n, by omega⟩
  have b := plen_fin ⟨m, by omega⟩
  simp only at a b
  rw [h, b] at a
  simp at a
  omega
theorem u32_range (op : BinOp) (x y : Int) : 0 ≤ Go.bits op .u32 x y ∧ Go.bits op .u32 x y ≤ 4294967295 := by
  unfold Go.bits
  rw [IntKind.wrap_u32]
  omega
/-- The length of a text that is a mask. -/
def PlenIs (s : ByteArray) (r : Int × Bool) : Prop := (∃ n : Nat, n ≤ 32 ∧ s = mk n ∧ r = ((n : Int), true)) ∨ ((∀ n : Nat, n ≤ 32 → s ≠ mk n) ∧ r = (0, false))
theorem PlenIs.one {s : ByteArray} {r q : Int × Bool} (h : PlenIs s r) (k : PlenIs s q) : r = q := by
  rcases h with ⟨n, hn, rfl, rfl⟩ | ⟨h, rfl⟩
  · rcases k with ⟨m, hm, e, rfl⟩ | ⟨k, rfl⟩
    · rw [mk_inj hn hm e]
    · exact absurd rfl (k n hn)
  · rcases k with ⟨m, hm, e, rfl⟩ | ⟨k, rfl⟩
    · exact absurd e (h m hm)
    · rfl
theorem mask_Plen_f (s : ByteArray) : ∃ r, mask_Plen.f s = some r ∧ PlenIs s r := by
  by_cases c : ∃ n : Nat, n ≤ 32 ∧ s = mk n
  · obtain ⟨n, hn, rfl⟩ := c
    have := plen_fin ⟨n, by omega⟩
    exact ⟨_, this, .inl ⟨n, hn, rfl, rfl⟩⟩
  · refine ⟨(0, false), ?_, .inr ⟨fun n hn e => c ⟨n, hn, e⟩, rfl⟩⟩
    unfold mask_Plen.f
    by_cases h4 : (s.size : Int) = 4
    · rw [if_pos h4, if_pos (by omega), if_pos (by omega), if_pos (by omega), if_pos (by omega)]
      unfold bits_LeadingZeros32.f bits_Len32.f
      rw [if_pos (u32_range _ _ _), Option.bind_some, Option.bind_some, mask_Of_f, Option.bind_some, if_neg]
      rw [toList_inj]
      split
      · rename_i h
        intro e
        exact c ⟨_, by omega, e.symm⟩
      · intro e
        rw [← e] at h4
        exact absurd h4 (by decide)
    · rw [if_neg h4]

theorem awake_f : roadbooklaw05_awake.f = some true := by decide +kernel

theorem MaskBack : roadbooklaw05_MaskBack.Pure := by
  intro n s hn _
  have hn := wf_u8 hn
  unfold roadbooklaw05_MaskBack.f
  rw [awake_f]
  by_cases h : (s.size : Int) > 100
  · rw [if_pos h]; rfl
  · rw [if_neg h, Int.tmod_eq_emod_of_nonneg (by omega), wrap64_id (by omega) (by omega)]
    obtain ⟨q, hq⟩ : ∃ q : Nat, n % 33 = q := ⟨(n % 33).toNat, by omega⟩
    have hq33 : q ≤ 32 := by omega
    have h1 := of_fin ⟨q, by omega⟩
    have h2 := plen_fin ⟨q, by omega⟩
    simp only at h1 h2
    obtain ⟨r, hr, hp⟩ := mask_Plen_f s
    rw [hq, h1, Option.bind_some]
    dsimp only
    rw [h2, Option.bind_some]
    dsimp only
    rw [hr, Option.bind_some]
    rcases hp with ⟨m, hm, rfl, rfl⟩ | ⟨_, rfl⟩
    · have h3 := of_fin ⟨m, by omega⟩
      simp only at h3
      rw [h3]
      simp
    · rw [mask_Of_f]
      simp

end Go.Proofs.Ytbpclinffgedjaa.Pure
