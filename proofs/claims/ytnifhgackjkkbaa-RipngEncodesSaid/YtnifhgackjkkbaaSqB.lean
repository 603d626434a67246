/-
Shorter words for the steps of a region that draws its order.
-/
import Derived.Test.YtnifhgackjkkbaaSq
import Derived.Test.YtnifhgackjkkbaaWTab
import Derived.Below
namespace Go.Proofs.Ytnifhgackjkkbaa.Sq
open Go.RowKit Go.Proofs.YtnifhgackjkkbaaW.PrintWords Go.Proofs.YtnifhgackjkkbaaW.PrintLast
set_option linter.unusedVariables false
/-- So many bits of a number. -/
def b (n m : Nat) : Array Bool := ((List.range n).map fun i => m.testBit i).toArray
theorem s1 {α : Type} {l : List α} {i : Nat} {a : α} : l.toArray.setIfInBounds i a = (l.set i a).toArray := List.setIfInBounds_toArray _ _ _
theorem s2 {α : Type} {x a : α} {l : List α} : (x :: l).set 0 a = a :: l := List.set_cons_zero
theorem s3 {α : Type} {x a : α} {l : List α} {n : Nat} : (x :: l).set (n + 1) a = x :: l.set n a := List.set_cons_succ
theorem up {w w' : World} {p : Addr} {v : Value} (hb : Below w.heap.size w w') (h : w.cell? p = some v) : w'.cell? p = some v := (hb.cell (World.block_lt_of_cell? w _ h)).trans h
theorem bc {w : World} {g t : Nat} {cs : Array Value} {v : Value} (h : Aside0 (w.heap[g]? = some (.cells cs t (0, 0)))) (i : Nat) (hv : cs[i]? = some v := by rfl) : w.cell? ⟨g, i, none⟩ = some v := (blk_cell h.out i).trans hv
theorem ge {w W : World} {g : Nat} (hg : g = W.heap.size) (h : Below w.heap.size w W) : w.heap.size ≤ g := by rw [hg]; exact below_size h
theorem nl {W : World} {g g' : Nat} (hg : g' = W.heap.size) (h : g < W.heap.size) : g ≠ g' := by rw [hg]; exact Nat.ne_of_lt h
theorem ng {W : World} {g g' : Nat} (hg : g' = W.heap.size) (h : g < W.heap.size) : g' ≠ g := by rw [hg]; exact Nat.ne_of_gt h
section
variable {P : Program} {ops : Array Oper} {Q : Exit → Act → World → Prop} {md : Region.Mode} {S : World → Prop} {ds : List Nat}
theorem pur {T : Bool × List (List Nat × List Nat)} {oi : Oper} {v : Value} {fuel : Nat} {l : Array Bool} {a a' : Act} {w : World} (i : Nat) (N : Option Tmp) (l' : Array Bool) (hT : rtab md ops = T)
    (h : wpAnyLast P md ops Q S ds fuel l' a' w)
    (hi : ops[i]? = some oi := by rfl) (hN : oi.dst = N := by rfl) (hc : anyT T l.toList l'.toList i = true := by kernel_rfl)
    (hQ : ∀ c a w, Q (.panic c) (a.put oi.dst v) w → Q (.panic c) a w := by exact fun _ _ _ h => h) (hw : Region.wanted oi (yielded ops a.tmps) = true := by rfl)
    (hr : ∀ w, (execOp a.eval oi).run P w = .ok (.value v) w := by (intro w'; go_simp; with_reducible rfl))
    (ha : a.put N v = a' := by (simp only [Act.put, Sq.s1, Sq.s2, Sq.s3, i64_w, i32_w]; rfl)) : wpAnyLast P md ops Q S ds (fuel + 1) l a w :=
  pure_ (i := i) (N := N) l' hi hN (any_of hT hc) hQ (Or.inl ⟨hw, hr⟩) ha h
theorem tak {T : Bool × List (List Nat × List Nat)} {B : List Nat} {oi : Oper} {fuel : Nat} {l : Array Bool} {a : Act} {w : World} (i : Nat) (N : Option Tmp) (l' : Array Bool) (hT : rtab md ops = T) (hB : waitsOk T.2 B = true) (hS : S w)
    {v : Value} (hr : ∀ w, S w → (execOp a.eval oi).run P w = .ok (.value v) w) {a' : Act} (ha : a.put N v = a') (h : wpAnyLast P md ops Q S ds fuel l' a' w)
    (hi : ops[i]? = some oi := by rfl) (hN : oi.dst = N := by rfl) (hc : takeW T B ds l.toList l'.toList i = true := by kernel_rfl)
    (hQ : ∀ c a w, Q (.panic c) (a.put oi.dst v) w → Q (.panic c) a w := by exact fun _ _ _ h => h) (hw : Region.wanted oi (yielded ops a.tmps) = true := by rfl) : wpAnyLast P md ops Q S ds (fuel + 1) l a w :=
  take_ (i := i) (N := N) l' hi hN (take_ofW hT hB hc) hQ (Or.inl ⟨hw, hr⟩) hS ha h
theorem box {rest : List Oper} {o : Oper} {a : Act} {W : World} (N : Tmp) (cs : Array Value) (t : TypeId)
    (h : ∀ g, g = W.heap.size → ∀ w1, w1.heap[g]? = some (.cells cs t (0, 0)) → Below W.heap.size W w1 → wpList P ops Q rest (a.put o.dst (.pointer (some ⟨g, 0, none⟩))) w1)
    (hgd : o.guard = none := by rfl) (hd : o.dst = some N := by rfl)
    (hrun : (execOp a.eval o).run P W = .ok (.value (.pointer (some ⟨W.heap.size, 0, none⟩))) (W.alloc (.cells cs t (0, 0))) := by first | (go_simp; done) | (go_simp; rfl)) : wpList P ops Q (o :: rest) a W :=
  box_event hgd hd hrun h
end
end Go.Proofs.Ytnifhgackjkkbaa.Sq
