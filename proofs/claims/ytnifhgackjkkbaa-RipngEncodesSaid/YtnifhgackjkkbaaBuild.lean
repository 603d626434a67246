/-
A struct made of its fields' values, as one step of a walk: what it holds told beforehand.
-/
import Derived.Test.YtnifhgackjkkbaaWMore
import Derived.Laws.Tables
import Derived.Laws.Rows
namespace Go.Proofs.Ytnifhgackjkkbaa.Pre
set_option linter.unusedVariables false
open Go.RowKit Go.Proofs.YtnifhgackjkkbaaW.PrintWords Go.Proofs.YtnifhgackjkkbaaW.PrintLast
theorem build_event {P : Program} {ops : Array Oper} {Q : Exit → Act → World → Prop} {a : Act} {w : World} {rest : List Oper} {o : Oper} (N : Nat) (t : TypeId) (parts : List (Nat × Operand)) {cells : Array Value} (hg : o.guard = none) (hd : o.dst = some N) (ho : o.op = .build t parts.toArray)
    (hc : P.built t (parts.map fun p => (p.1, a.eval p.2)) = some cells)
    (h : wpList P ops Q rest (a.put (some N) (.agg cells)) w) : wpList P ops Q (o :: rest) a w := by
  have hc' : P.built t ((parts.toArray.map fun (i, x) => (i, a.eval x)).toList) = some cells := by
    rw [← hc]; congr 1; simp
  refine Kd.event_run (v := .agg cells) (w1 := w) hg ?_ ?_
  · unfold execOp
    simp only [ho, Sem.run_bind, run_build w t _ cells hc', Result.andThen_ok]
    rfl
  · rw [hd]; exact h
theorem store_event {P : Program} {ops : Array Oper} {Q : Exit → Act → World → Prop} {a : Act} {w : World} {rest : List Oper} {o : Oper} {ty : TypeId} {x y : Operand} {g e : Nat} {cur cells : Array Value} (hg : o.guard = none) (hd : o.dst = none) (ho : o.op = .store ty x y)
    (hx : a.eval x = .pointer (some ⟨g, 0, none⟩)) (hy : a.eval y = .agg cells) (hh : w.heap[g]? = some (.cells cur e (0, 0))) (ht : (P.info? ty).map (·.size) = some cells.size) (hfit : cells.toList.length = cur.toList.length) (h1 : cells.toList.all (·.oneCell') = true)
    (h : wpList P ops Q rest a (w.setCells g 0 cells.toList)) : wpList P ops Q (o :: rest) a w := by
  have hr := run_store_run (P := P) (w := w) (g := g) (o := 0) (e := e) (cur := cur) ty (.agg cells) cells.toList hh rfl (by rw [ht, Array.length_toList]) (by rw [hfit, Array.length_toList]; omega) (fun q hq => List.all_eq_true.1 h1 q hq)
  refine wpList_plain hg fun K hK => ?_
  unfold Oper.wp execOp
  simp only [ho, hx, hy, Sem.run_bind, hr, Result.andThen_ok]
  have := hK _ _ h
  show K (a.put o.dst undef) _
  rw [hd]
  exact this
theorem heap_norm {w : World} {g e : Nat} {cs cs' : Array Value} (h : w.heap[g]? = some (.cells cs e (0, 0))) (q : cs = cs') : w.heap[g]? = some (.cells cs' e (0, 0)) := q ▸ h
theorem blk_set_ {w : World} {g e i : Nat} {cs : Array Value} {u : Value} (h : w.heap[g]? = some (.cells cs e (0, 0))) : (w.setCell ⟨g, i, none⟩ u).heap[g]? = some (.cells (cs.setIfInBounds i u) e (0, 0)) := blk_put h i u rfl
theorem gate_load {P : Program} {ops : Array Oper} {Q : Exit → Act → World → Prop} {a : Act} {w : World} {rest : List Oper} {o : Oper} (ty : TypeId) {x : Operand} (_ho : o.op = .load ty x) (h : wpList P ops Q (o :: rest) a w) : wpList P ops Q (o :: rest) a w := h
theorem gate_store {P : Program} {ops : Array Oper} {Q : Exit → Act → World → Prop} {a : Act} {w : World} {rest : List Oper} {o : Oper} (ty : TypeId) {x y : Operand} (_ho : o.op = .store ty x y) (h : wpList P ops Q (o :: rest) a w) : wpList P ops Q (o :: rest) a w := h
/-- A whole struct is read, in one step. -/
theorem load_event {P : Program} {ops : Array Oper} {Q : Exit → Act → World → Prop} {a : Act} {w : World} {rest : List Oper} {o : Oper} {ty : TypeId} {x : Operand} {N : Tmp} {g e : Nat} {cs : Array Value} {d : TypeDesc} (hg : o.guard = none) (hd : o.dst = some N) (ho : o.op = .load ty x)
    (hx : a.eval x = .pointer (some ⟨g, 0, none⟩)) (hh : w.heap[g]? = some (.cells cs e (0, 0))) (hu : P.underlying ty = some d) (hs : (match d with | .struct _ | .array _ _ => true | _ => false) = true) (ht : (P.info? ty).map (·.size) = some cs.size)
    (h : wpList P ops Q rest (a.put (some N) (.agg cs)) w) : wpList P ops Q (o :: rest) a w := by
  refine wpList_load_row hg ty x ho g hx e cs (0, 0) d hh hu hs ht ?_
  rw [hd]; exact h
theorem build_run {P : Program} {a : Act} {w : World} {o : Oper} (t : TypeId) (parts : List (Nat × Operand)) {cells : Array Value} (ho : o.op = .build t parts.toArray)
    (hc : P.built t (parts.map fun p => (p.1, a.eval p.2)) = some cells) : (execOp a.eval o).run P w = .ok (.value (.agg cells)) w := by
  have hc' : P.built t ((parts.toArray.map fun (i, x) => (i, a.eval x)).toList) = some cells := by
    rw [← hc]; congr 1; simp
  unfold execOp
  simp only [ho, Sem.run_bind, run_build w t _ cells hc', Result.andThen_ok]
  rfl
theorem store_run {P : Program} {a : Act} {w : World} {o : Oper} {ty : TypeId} {x y : Operand} {g e : Nat} {cur cells : Array Value} (ho : o.op = .store ty x y)
    (hx : a.eval x = .pointer (some ⟨g, 0, none⟩)) (hy : a.eval y = .agg cells) (hh : w.heap[g]? = some (.cells cur e (0, 0))) (ht : (P.info? ty).map (·.size) = some cells.size) (hfit : cells.toList.length = cur.toList.length) (h1 : cells.toList.all (·.oneCell') = true) :
    (execOp a.eval o).run P w = .ok .skip (w.setCells g 0 cells.toList) := by
  have hr := run_store_run (P := P) (w := w) (g := g) (o := 0) (e := e) (cur := cur) ty (.agg cells) cells.toList hh rfl (by rw [ht, Array.length_toList]) (by rw [hfit, Array.length_toList]; omega) (fun q hq => List.all_eq_true.1 h1 q hq)
  unfold execOp
  simp only [ho, hx, hy, Sem.run_bind, hr, Result.andThen_ok]
  rfl
end Go.Proofs.Ytnifhgackjkkbaa.Pre
