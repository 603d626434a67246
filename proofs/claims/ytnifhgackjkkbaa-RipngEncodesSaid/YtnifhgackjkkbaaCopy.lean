/-
copy(dst, s), s a string that fits into dst, a row of bytes of the call's own: s's bytes stand ahead of what stood behind them.
-/
import Derived.Test.YtnifhgackjkkbaaWMore
import Derived.Laws.CopyOwn
import Derived.Lib.BufferWrite
namespace Go.Proofs.Ytnifhgackjkkbaa.Pre
open Go.RowKit Go.Proofs.YtnifhgackjkkbaaW.PrintWords Go.Proofs.YtnifhgackjkkbaaW.PrintLast

theorem byteCells_nums (s : ByteArray) : Lib.byteCells s.data.toList = nums .u8 (bytesOf s) := by
  simp [Lib.byteCells, nums, bytesOf]

theorem copy_own_str {P : Program} {W : World} {base g n cap : Nat} {e : TypeId} {xs : List Int} (dT sT ty : TypeId) (s : ByteArray)
    (hu : P.underlying dT = some (.slice e)) (hs : (P.info? e).map (·.size) = some 1)
    (HO : W.ownsRow base e 1 (.slice (some ⟨g, 0, none⟩) n cap) n (nums .u8 xs)) (hle : s.size ≤ n) :
    ∃ W2, (Builtin.copy_ #[dT, sT] ty #[.slice (some ⟨g, 0, none⟩) n cap, .string s]).run P W = .ok (goInt s.size) W2 ∧
      W2.ownsRow base e 1 (.slice (some ⟨g, 0, none⟩) n cap) n (nums .u8 (bytesOf s ++ xs.drop s.size)) ∧ (∀ {B : Nat} {w0 : World}, B ≤ base → Below B w0 W → Below B w0 W2) ∧ W2.heap.size = W.heap.size := by
  rcases HO.2 with ⟨h', _⟩ | ⟨g', cap', cur, h', hb, hg, hnc, hcm, hcs, htk⟩
  · cases h'
  · obtain ⟨rfl, rfl⟩ : g = g' ∧ cap = cap' := by injection h' with h1 h2 h3; injection h1 with h1; injection h1 with h1; exact ⟨h1, h3⟩
    have hxl : xs.length = n := by have := HO.1; simp [nums] at this; exact this
    have hcl : cur.toList.length = cap := by rw [Array.length_toList, hcs, Nat.mul_one]
    have hrun := Lib.run_copy_row_string (P := P) W dT sT ty e g 0 n cap s cur e hu hs hg hle (by rw [hcs]; omega)
    refine ⟨_, hrun, ?_, fun hB hbel => below_setRow hbel (Nat.le_trans hB hb) _, by simp⟩
    have hbl : (bytesOf s).length = s.size := by rw [bytesOf, List.length_map, data_length]
    refine ⟨by rw [nums_length, List.length_append, List.length_drop, hbl, hxl]; omega, .inr ⟨g, cap, _, rfl, hb, setRow_heap W g _ _ e _ hg, hnc, hcm, ?_, ?_⟩⟩
    · simp only [List.take_zero, List.nil_append, Nat.zero_add, List.size_toArray, List.length_append, List.length_drop, hcl]
      rw [byteCells_nums, nums_length, hbl]; omega
    · simp only [List.take_zero, List.nil_append, Nat.zero_add, Nat.mul_one, byteCells_nums]
      rw [Nat.mul_one] at htk
      have h1 : nums .u8 (bytesOf s ++ xs.drop s.size) = nums .u8 (bytesOf s) ++ (nums .u8 xs).drop s.size := by simp [nums]
      rw [h1, ← htk, List.take_append, nums_length, hbl, List.take_of_length_le (by rw [nums_length, hbl]; exact hle), List.drop_take]

theorem wpList_copy_ {P : Program} {ops : Array Oper} {rest : List Oper} {o : Oper} {a : Act} {Q : Exit → Act → World → Prop} {w : World} (hgd : o.guard = none) (d s : Operand) (t t' : TypeId)
    (ho : o.op = .call { callee := .builtin .copy, args := #[d, s], argTypes := #[t, t'] }) (v u : Value) (hd : a.eval d = v) (hs : a.eval s = u) {v' : Value} {w' : World}
    (hr : (Builtin.copy_ #[t, t'] o.type #[v, u]).run P w = .ok v' w') (h : wpList P ops Q rest (a.put o.dst v') w') : wpList P ops Q (o :: rest) a w := by
  refine wpList_plain hgd fun K hK => ?_
  unfold Oper.wp execOp
  simp only [ho, resolve, invoke, builtin, Sem.run_bind, Sem.run_pure, Result.andThen_ok, List.map_toArray, List.map_cons, List.map_nil, hd, hs, hr]
  exact hK _ _ h
end Go.Proofs.Ytnifhgackjkkbaa.Pre
