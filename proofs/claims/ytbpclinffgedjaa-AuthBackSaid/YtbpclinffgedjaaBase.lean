/-
Plain facts on byte strings: their sizes, their bytes, when two are one. No program is in sight.
-/
import Derived.Test.YtbpclinffgedjaaWMore
import Derived.Lib.Strings
namespace Go.Proofs.Ytbpclinffgedjaa.Base
open Go.RowKit Go.Proofs.YtbpclinffgedjaaW.PrintWords Go.Proofs.YtbpclinffgedjaaW.PrintLast

theorem toList_inj {a b : ByteArray} : a.toList = b.toList ↔ a = b := by
  rw [ByteArray.toList_eq, ByteArray.toList_eq]
  constructor
  · intro h
    have : a.data = b.data := Array.toList_inj.mp h
    cases a; cases b; simp_all
  · rintro rfl; rfl

theorem bt_lt (s : ByteArray) (i : Nat) (h : i < s.size) : bt s (i : Int) = (s.data.toList[i]'(by rw [data_length]; exact h)).toNat := by
  unfold bt; simp [h]; rfl

theorem bt_ge (s : ByteArray) (i : Int) (h : s.size ≤ i.toNat) : bt s i = 0 := by
  unfold bt; rw [dif_neg (by omega)]

theorem bt_getD (s : ByteArray) (i : Nat) : bt s (i : Int) = ((s.data.toList.getD i 0).toNat : Int) := by
  by_cases h : i < s.size
  · rw [bt_lt s i h, List.getD_eq_getElem?_getD, List.getElem?_eq_getElem (by rw [data_length]; exact h)]; rfl
  · rw [bt_ge s i (by simpa using h), List.getD_eq_getElem?_getD, List.getElem?_eq_none (by rw [data_length]; omega)]; rfl

/-- Two byte strings of one size that agree at every place are one. -/
theorem ext_bt {a b : ByteArray} (hs : a.size = b.size) (h : ∀ i : Nat, i < a.size → bt a i = bt b i) : a = b := by
  apply toList_inj.mp
  rw [ByteArray.toList_eq, ByteArray.toList_eq]
  apply List.ext_getElem
  · rw [data_length, data_length, hs]
  · intro i h1 h2
    rw [data_length] at h1 h2
    have := h i h1
    rw [bt_lt _ _ h1, bt_lt _ _ h2] at this
    exact UInt8.toNat_inj.mp (by exact_mod_cast this)

theorem size_app (a b : ByteArray) : (a ++ b).size = a.size + b.size := ByteArray.size_append
theorem size_ext (a : ByteArray) (i j : Nat) : (a.extract i j).size = min j a.size - i := ByteArray.size_extract

theorem bt_app (a b : ByteArray) (i : Int) (h0 : 0 ≤ i) : bt (a ++ b) i = if i < a.size then bt a i else bt b (i - a.size) := by
  obtain ⟨n, rfl⟩ := Int.eq_ofNat_of_zero_le h0
  split
  · rename_i h
    rw [bt_getD, bt_getD, ByteArray.data_append, Array.toList_append, List.getD_eq_getElem?_getD, List.getElem?_append_left (by rw [data_length]; omega), ← List.getD_eq_getElem?_getD]
  · rename_i h
    have : (n : Int) - a.size = ((n - a.size : Nat) : Int) := by omega
    rw [this, bt_getD, bt_getD, ByteArray.data_append, Array.toList_append, List.getD_eq_getElem?_getD, List.getElem?_append_right (by rw [data_length]; omega), data_length, ← List.getD_eq_getElem?_getD]

theorem bt_ext (a : ByteArray) (i j : Nat) (k : Int) (h0 : 0 ≤ k) : bt (a.extract i j) k = if k < ((min j a.size - i : Nat) : Int) then bt a (i + k) else 0 := by
  obtain ⟨n, rfl⟩ := Int.eq_ofNat_of_zero_le h0
  split
  · rename_i h
    rw [show ((i : Int) + (n : Int)) = ((i + n : Nat) : Int) by omega, bt_getD, bt_getD, Lib.extract_data]
    rw [List.getD_eq_getElem?_getD, List.getD_eq_getElem?_getD, List.getElem?_take, List.getElem?_drop, if_pos (by omega)]
  · rename_i h
    exact bt_ge _ _ (by rw [size_ext]; omega)
end Go.Proofs.Ytbpclinffgedjaa.Base
