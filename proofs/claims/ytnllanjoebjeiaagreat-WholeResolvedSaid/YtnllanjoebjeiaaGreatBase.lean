/-
Plain facts on byte strings: their sizes, their bytes, when two are one. No program is in sight.
-/
import Derived.Test.YtnllanjoebjeiaaGreatWWords
import Derived.Lib.Strings
namespace Go.Proofs.YtnllanjoebjeiaaGreat.Base
open Go.RowKit Go.Proofs.YtnllanjoebjeiaaGreatW.PrintWords Go.Proofs.YtnllanjoebjeiaaGreatW.PrintLast

theorem toList_inj {a b : ByteArray} : a.toList = b.toList ↔ a = b := by
  rw [ByteArray.toList_eq, ByteArray.toList_eq]
  constructor
  · intro h
    have : a.data = b.data := Array.toList_inj.mp h
    cases a; cases b; simp_all
  · rintro rfl; rfl

theorem bt_lt (s : ByteArray) (i : Nat) (h : i < s.size) : bt s (i : Int) = (s.data.toList[i]'(by rw [data_length]; exact h)).toNat := by
  unfold bt; simp [h]; rfl

theorem bt_ge (s : ByteArray) (i : Int) (h : s.size ≤ i.toNat) : bt s i = 0 := by
  unfold bt; rw [dif_neg (by omega)]

theorem bt_getD (s : ByteArray) (i : Nat) : bt s (i : Int) = ((s.data.toList.getD i 0).toNat : Int) := by
  by_cases h : i < s.size
  · rw [bt_lt s i h, List.getD_eq_getElem?_getD, List.getElem?_eq_getElem (by rw [data_length]; exact h)]; rfl
  · rw [bt_ge s i (by simpa using h), List.getD_eq_getElem?_getD, List.getElem?_eq_none (by rw [data_length]; omega)]; rfl

/-- Two byte strings of one size that agree at every place are one. -/
theorem ext_bt {a b : ByteArray} (hs : a.size = b.size) (h : ∀ i : Nat, i < a.size → bt a i = bt b i) : a = b := by
  apply toList_inj.mp
  rw [ByteArray.toList_eq, ByteArray.toList_eq]
  apply List.ext_getElem
  · rw [data_length, data_length, hs]
  · intro i h1 h2
    rw [data_length] at h1 h2
    have := h i h1
    rw [bt_lt _ _ h1, bt_lt _ _ h2] at this
    exact UInt8.toNat_inj.mp (by exact_mod_cast this)

theorem size_app (a b : ByteArray) : (a ++ b).size = a.size + b.size := ByteArray.size_append
theorem size_ext (a : ByteArray) (i j : Nat) : (a.extract i j).size = min j a.size - i := ByteArray.size_extract

theorem bt_app (a b : ByteArray) (i : Int) (h0 : 0 ≤ i) : bt (a ++ b) i = if i < a.size then bt a i else bt b (i - a.size) := by
  obtain ⟨n, rfl⟩ := Int.eq_ofNat_of_zero_le h0
  split
  · rename_i h
    rw [bt_getD, bt_getD, ByteArray.data_append, Array.toList_append, List.getD_eq_getElem?_getD, List.getElem?_append_left (by rw [data_length]; omega), ← List.getD_eq_getElem?_getD]
  · rename_i h
    have : (n : Int) - a.size = ((n - a.size : Nat) : Int) := by omega
    rw [this, bt_getD, bt_getD, ByteArray.data_append, Array.toList_append, List.getD_eq_getElem?_getD, List.getElem?_append_right (by rw [data_length]; omega), data_length, ← List.getD_eq_getElem?_getD]

theorem bt_ext (a : ByteArray) (i j : Nat) (k : Int) (h0 : 0 ≤ k) : bt (a.extract i j) k = if k < ((min j a.size - i : Nat) : Int) then bt a (i + k) else 0 := by
  obtain ⟨n, rfl⟩ := Int.eq_ofNat_of_zero_le h0
  split
  · rename_i h
    rw [show ((i : Int) + (n : Int)) = ((i + n : Nat) : Int) by omega, bt_getD, bt_getD, Lib.extract_data]
    rw [List.getD_eq_getElem?_getD, List.getD_eq_getElem?_getD, List.getElem?_take, List.getElem?_drop, if_pos (by omega)]
  · rename_i h
    exact bt_ge _ _ (by rw [size_ext]; omega)

theorem wrap64_id {x : Int} (h0 : -9223372036854775808 ≤ x) (h1 : x ≤ 9223372036854775807) : wrap64 x = x := by unfold wrap64; omega
theorem u64_id {x : Int} (h0 : 0 ≤ x) (h1 : x ≤ 18446744073709551615) : IntKind.u64.wrap x = x := by simp [IntKind.wrap, IntKind.signed, IntKind.bits]; omega
theorem wf_i64 {n : Int} (h : (Lit.int .i64 n).wf = true) : -9223372036854775808 ≤ n ∧ n ≤ 9223372036854775807 := by
  simp [Lit.wf, IntKind.min, IntKind.max, IntKind.signed, IntKind.bits] at h; omega
theorem size_nums (l : List Int) : (strOfNums l).size = l.length := by
  rw [← data_length]; simp [strOfNums]
theorem data_nums (l : List Int) : (strOfNums l).data.toList = l.map fun n => UInt8.ofNat n.toNat := by simp [strOfNums]
theorem nums_app (a b : List Int) : strOfNums (a ++ b) = strOfNums a ++ strOfNums b := by
  apply toList_inj.mp
  rw [ByteArray.toList_eq, ByteArray.toList_eq, ByteArray.data_append, Array.toList_append, data_nums, data_nums, data_nums, List.map_append]
theorem nums_nil : strOfNums [] = (⟨#[]⟩ : ByteArray) := rfl
theorem bt_nums (l : List Int) (i : Nat) : bt (strOfNums l) i = (l.getD i 0) % 256 ∨ ¬ 0 ≤ l.getD i 0 := by
  by_cases h0 : 0 ≤ l.getD i 0
  · refine .inl ?_
    rw [bt_getD, data_nums]
    by_cases h : i < l.length
    · simp only [List.getD_eq_getElem?_getD, List.getElem?_map, List.getElem?_eq_getElem h, Option.map_some, Option.getD_some] at h0 ⊢
      rw [UInt8.toNat_ofNat']
      omega
    · simp only [List.getD_eq_getElem?_getD, List.getElem?_map, List.getElem?_eq_none (Nat.le_of_not_lt h), Option.map_none, Option.getD_none]
      rfl
  · exact .inr h0
/-- Numbers that are bytes: what stands at a place of their string. -/
theorem bt_bytes (l : List Int) (h : ∀ x ∈ l, 0 ≤ x ∧ x ≤ 255) (i : Nat) : bt (strOfNums l) i = l.getD i 0 := by
  have hb : 0 ≤ l.getD i 0 ∧ l.getD i 0 ≤ 255 := by
    by_cases hi : i < l.length
    · rw [List.getD_eq_getElem?_getD, List.getElem?_eq_getElem hi]; exact h _ (List.getElem_mem hi)
    · rw [List.getD_eq_getElem?_getD, List.getElem?_eq_none (Nat.le_of_not_lt hi)]; exact ⟨Int.le_refl _, by decide⟩
  rcases bt_nums l i with e | e
  · rw [e]; omega
  · omega
theorem len_bytesOf (s : ByteArray) : (bytesOf s).length = s.size := by rw [bytesOf, List.length_map, data_length]
theorem bytesOf_range (s : ByteArray) : ∀ x ∈ bytesOf s, 0 ≤ x ∧ x ≤ 255 := by
  intro x hx
  simp only [bytesOf, List.mem_map] at hx
  obtain ⟨b, _, rfl⟩ := hx
  have := b.toNat_lt
  omega
theorem bytesOf_getD (s : ByteArray) (i : Nat) : (bytesOf s).getD i 0 = bt s i := by
  rw [bt_getD, bytesOf, List.getD_eq_getElem?_getD, List.getElem?_map, List.getD_eq_getElem?_getD]
  by_cases h : i < s.data.toList.length
  · rw [List.getElem?_eq_getElem h]; rfl
  · rw [List.getElem?_eq_none (Nat.le_of_not_lt h)]; rfl
theorem nums_bytes (s : ByteArray) : strOfNums (bytesOf s) = s := by
  refine ext_bt (by rw [size_nums, len_bytesOf]) fun i _ => ?_
  rw [bt_bytes _ (bytesOf_range s), bytesOf_getD]
theorem lit_rep (m : Nat) : ∀ x ∈ List.replicate m (0 : Int), 0 ≤ x ∧ x ≤ 255 := by
  intro x hx
  rw [(List.mem_replicate.mp hx).2]; decide
end Go.Proofs.YtnllanjoebjeiaaGreat.Base
