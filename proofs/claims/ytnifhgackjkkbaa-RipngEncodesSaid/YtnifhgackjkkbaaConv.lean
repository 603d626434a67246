/-
Small facts that the walks over a string's bytes lean on: the row that such a conversion lays, bits put together, two blocks laid one behind the other.
-/
import Derived.Test.YtnifhgackjkkbaaWMore
import Derived.Lib.ConvBytes
namespace Go.Proofs.Ytnifhgackjkkbaa.Pre
open Go.RowKit Go.Proofs.YtnifhgackjkkbaaW.PrintWords Go.Proofs.YtnifhgackjkkbaaW.PrintLast
/-- The number that bytes make, the highest first. -/
def numOf (s : ByteArray) : Int := (bytesOf s).foldl (fun a b => a * 256 + b) 0
theorem pow_le7_ (m : Nat) (h : m ≤ 7) : (256 : Int) ^ m ≤ 72057594037927936 := by
  have : m = 0 ∨ m = 1 ∨ m = 2 ∨ m = 3 ∨ m = 4 ∨ m = 5 ∨ m = 6 ∨ m = 7 := by omega
  rcases this with rfl | rfl | rfl | rfl | rfl | rfl | rfl | rfl <;> decide
theorem pow_le6_ (m : Nat) (h : m ≤ 6) : (256 : Int) ^ m ≤ 281474976710656 := by
  have : m = 0 ∨ m = 1 ∨ m = 2 ∨ m = 3 ∨ m = 4 ∨ m = 5 ∨ m = 6 := by omega
  rcases this with rfl | rfl | rfl | rfl | rfl | rfl | rfl <;> decide
theorem or_byte {v x : Int} (h0 : 0 ≤ v) (h1 : v < 281474976710656) (h2 : 0 ≤ x) (h3 : x ≤ 255) : Go.bits .or .i64 (v * 256) x = v * 256 + x :=
  bits_join .i64 63 (by decide) (fun m h0 h1 => by rw [IntKind.wrap_i64]; omega) 8 (v * 256) x (by omega) (by omega) (by omega) h2 (by omega) (by omega)
theorem two_blocks (w : World) (A B : Obj) : ((w.alloc A).alloc B).heap[w.heap.size]? = some A ∧ ((w.alloc A).alloc B).heap[w.heap.size + 1]? = some B := by
  constructor
  · rw [(below_alloc (Below.refl (w.alloc A).heap.size (w.alloc A)) B).block w.heap.size (by simp)]; exact heap_alloc_new w A
  · have h := heap_alloc_new (w.alloc A) B
    simpa using h
theorem fold_take (l : List Int) (i : Nat) (h : i < l.length) : (l.take (i + 1)).foldl (fun a b => a * 256 + b) 0 = (l.take i).foldl (fun a b => a * 256 + b) 0 * 256 + l.getD i 0 := by
  rw [List.take_succ_eq_append_getElem h, List.foldl_append, List.getD_eq_getElem?_getD, List.getElem?_eq_getElem h]; rfl
theorem bt_getD_ (s : ByteArray) (i : Nat) : bt s (i : Int) = ((s.data.toList.getD i 0).toNat : Int) := by
  rw [← rd_bytesOf]
  unfold rd bytesOf
  simp only [Int.toNat_natCast, List.getD_eq_getElem?_getD, List.getElem?_map]
  by_cases h : i < s.data.toList.length
  · rw [List.getElem?_eq_getElem h]; rfl
  · rw [List.getElem?_eq_none (Nat.le_of_not_lt h)]; rfl
theorem below_bytes (w : World) (e : TypeId) (s : ByteArray) : Below w.heap.size w (Lib.bytesWorld w e s) := by
  have h1 : Below w.heap.size w (w.drew.alloc (.cells (Lib.bytesCells w e s) e)) := below_alloc (below_drew1 (Below.refl _ _)) _
  exact ⟨h1.os, h1.tape, h1.output, by rw [Lib.bytesWorld_size]; omega, fun j hj => Lib.bytesWorld_at_old w e s j hj⟩
end Go.Proofs.Ytnifhgackjkkbaa.Pre
