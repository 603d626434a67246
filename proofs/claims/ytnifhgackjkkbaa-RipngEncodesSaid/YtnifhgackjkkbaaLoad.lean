/-
A whole struct that is read in a region that draws its order: in one step.
-/
import Derived.Test.YtnifhgackjkkbaaStore
namespace Go.Proofs.Ytnifhgackjkkbaa.Pre
set_option linter.unusedVariables false
open Go.RowKit Go.Proofs.YtnifhgackjkkbaaW.PrintWords Go.Proofs.YtnifhgackjkkbaaW.PrintLast
/-- A whole struct is read in a region that draws. -/
theorem load_run {P : Program} {a : Act} {w : World} {o : Oper} {ty : TypeId} {x : Operand} {g e : Nat} {cs : Array Value} {d : TypeDesc} (ho : o.op = .load ty x)
    (hx : a.eval x = .pointer (some ⟨g, 0, none⟩)) (hh : w.heap[g]? = some (.cells cs e (0, 0))) (hu : P.underlying ty = some d) (hs : (match d with | .struct _ | .array _ _ => true | _ => false) = true) (ht : (P.info? ty).map (·.size) = some cs.size) :
    (execOp a.eval o).run P w = .ok (.value (.agg cs)) w := by
  unfold execOp
  simp only [ho, hx, Instr.loadAt, Instr.sureAddr, Sem.run_bind, Sem.run_pure, Result.andThen_ok, run_loadVar_row w g e ty cs (0, 0) d hh hu hs ht]
/-- A variable whose cells lie in line from a place on. -/
theorem run_loadVar_a {P : Program} (w : World) (p : Addr) (ty : TypeId) (cs : List Value) (d : TypeDesc) (hc : ∀ j v, cs[j]? = some v → w.cell? (p.add j) = some v)
    (hu : P.underlying ty = some d) (hd : (match d with | .struct _ | .array _ _ => true | _ => false) = true) (hi : (P.info? ty).map (·.size) = some cs.length) :
    (loadVar ty p).run P w = .ok (.agg cs.toArray) w := by
  have hl : (loadCells p cs.length).run P w = .ok cs.toArray w := run_loadCells_list (P := P) w p cs hc
  cases hq : P.info? ty with
  | none => simp [hq] at hi
  | some i =>
    have hs : i.size = cs.length := by simpa [hq] using hi
    have hagg : (isAgg ty).run P w = .ok true w := by
      unfold isAgg
      rw [Sem.run_bind, run_underlying hu w]
      cases d <;> simp_all
    simp [loadVar, Sem.run_bind, hagg, sizeOf, typeInfo, hq, hs, hl]
theorem load_run_a {P : Program} {a : Act} {w : World} {o : Oper} {ty : TypeId} {x : Operand} {p : Addr} {cs : List Value} {d : TypeDesc} (ho : o.op = .load ty x)
    (hx : a.eval x = .pointer (some p)) (hc : ∀ j v, cs[j]? = some v → w.cell? (p.add j) = some v) (hu : P.underlying ty = some d) (hs : (match d with | .struct _ | .array _ _ => true | _ => false) = true) (ht : (P.info? ty).map (·.size) = some cs.length) :
    (execOp a.eval o).run P w = .ok (.value (.agg cs.toArray)) w := by
  unfold execOp
  simp only [ho, hx, Instr.loadAt, Instr.sureAddr, Sem.run_bind, Sem.run_pure, Result.andThen_ok, run_loadVar_a w p ty cs d hc hu hs ht]
theorem load_event_a {P : Program} {ops : Array Oper} {Q : Exit → Act → World → Prop} {a : Act} {w : World} {rest : List Oper} {o : Oper} {ty : TypeId} {x : Operand} {N : Tmp} {p : Addr} {cs : List Value} {d : TypeDesc} (hg : o.guard = none) (hd : o.dst = some N) (ho : o.op = .load ty x)
    (hx : a.eval x = .pointer (some p)) (hc : ∀ j v, cs[j]? = some v → w.cell? (p.add j) = some v) (hu : P.underlying ty = some d) (hs : (match d with | .struct _ | .array _ _ => true | _ => false) = true) (ht : (P.info? ty).map (·.size) = some cs.length)
    (h : wpList P ops Q rest (a.put (some N) (.agg cs.toArray)) w) : wpList P ops Q (o :: rest) a w :=
  wpList_plain hg fun K hK => by
    unfold Oper.wp execOp
    simp only [ho, hx, Instr.loadAt, Instr.sureAddr, Sem.run_bind, Sem.run_pure, Result.andThen_ok, run_loadVar_a w p ty cs d hc hu hs ht]
    have := hK _ _ h
    show K (a.put o.dst (.agg cs.toArray)) w
    rw [hd]
    exact this
/-- The cells of an element of 25 fields, found in the context. -/
theorem range25 {w : World} {p : Addr} {v0 v1 v2 v3 v4 v5 v6 v7 v8 v9 v10 v11 v12 v13 v14 v15 v16 v17 v18 v19 v20 v21 v22 v23 v24 : Value} (h0 : w.cell? p = some v0 := by with_reducible assumption) (h1 : w.cell? ⟨p.block, p.off + 1, none⟩ = some v1 := by with_reducible assumption) (h2 : w.cell? ⟨p.block, p.off + 2, none⟩ = some v2 := by with_reducible assumption) (h3 : w.cell? ⟨p.block, p.off + 3, none⟩ = some v3 := by with_reducible assumption) (h4 : w.cell? ⟨p.block, p.off + 4, none⟩ = some v4 := by with_reducible assumption) (h5 : w.cell? ⟨p.block, p.off + 5, none⟩ = some v5 := by with_reducible assumption) (h6 : w.cell? ⟨p.block, p.off + 6, none⟩ = some v6 := by with_reducible assumption) (h7 : w.cell? ⟨p.block, p.off + 7, none⟩ = some v7 := by with_reducible assumption) (h8 : w.cell? ⟨p.block, p.off + 8, none⟩ = some v8 := by with_reducible assumption) (h9 : w.cell? ⟨p.block, p.off + 9, none⟩ = some v9 := by with_reducible assumption) (h10 : w.cell? ⟨p.block, p.off + 10, none⟩ = some v10 := by with_reducible assumption) (h11 : w.cell? ⟨p.block, p.off + 11, none⟩ = some v11 := by with_reducible assumption) (h12 : w.cell? ⟨p.block, p.off + 12, none⟩ = some v12 := by with_reducible assumption) (h13 : w.cell? ⟨p.block, p.off + 13, none⟩ = some v13 := by with_reducible assumption) (h14 : w.cell? ⟨p.block, p.off + 14, none⟩ = some v14 := by with_reducible assumption) (h15 : w.cell? ⟨p.block, p.off + 15, none⟩ = some v15 := by with_reducible assumption) (h16 : w.cell? ⟨p.block, p.off + 16, none⟩ = some v16 := by with_reducible assumption) (h17 : w.cell? ⟨p.block, p.off + 17, none⟩ = some v17 := by with_reducible assumption) (h18 : w.cell? ⟨p.block, p.off + 18, none⟩ = some v18 := by with_reducible assumption) (h19 : w.cell? ⟨p.block, p.off + 19, none⟩ = some v19 := by with_reducible assumption) (h20 : w.cell? ⟨p.block, p.off + 20, none⟩ = some v20 := by with_reducible assumption) (h21 : w.cell? ⟨p.block, p.off + 21, none⟩ = some v21 := by with_reducible assumption) (h22 : w.cell? ⟨p.block, p.off + 22, none⟩ = some v22 := by with_reducible assumption) (h23 : w.cell? ⟨p.block, p.off + 23, none⟩ = some v23 := by with_reducible assumption) (h24 : w.cell? ⟨p.block, p.off + 24, none⟩ = some v24 := by with_reducible assumption) :
    ∀ j v, [v0, v1, v2, v3, v4, v5, v6, v7, v8, v9, v10, v11, v12, v13, v14, v15, v16, v17, v18, v19, v20, v21, v22, v23, v24][j]? = some v → w.cell? (p.add j) = some v := by
  intro j v e
  have hp : ∀ n : Nat, p.add (n + 1) = ⟨p.block, p.off + (n + 1), none⟩ := fun n => by unfold Addr.add; rw [if_neg (by omega)]
  match j, e with
  | 0, e => obtain rfl := Option.some.inj e; exact h0
  | 1, e => obtain rfl := Option.some.inj e; rw [hp 0]; exact h1
  | 2, e => obtain rfl := Option.some.inj e; rw [hp 1]; exact h2
  | 3, e => obtain rfl := Option.some.inj e; rw [hp 2]; exact h3
  | 4, e => obtain rfl := Option.some.inj e; rw [hp 3]; exact h4
  | 5, e => obtain rfl := Option.some.inj e; rw [hp 4]; exact h5
  | 6, e => obtain rfl := Option.some.inj e; rw [hp 5]; exact h6
  | 7, e => obtain rfl := Option.some.inj e; rw [hp 6]; exact h7
  | 8, e => obtain rfl := Option.some.inj e; rw [hp 7]; exact h8
  | 9, e => obtain rfl := Option.some.inj e; rw [hp 8]; exact h9
  | 10, e => obtain rfl := Option.some.inj e; rw [hp 9]; exact h10
  | 11, e => obtain rfl := Option.some.inj e; rw [hp 10]; exact h11
  | 12, e => obtain rfl := Option.some.inj e; rw [hp 11]; exact h12
  | 13, e => obtain rfl := Option.some.inj e; rw [hp 12]; exact h13
  | 14, e => obtain rfl := Option.some.inj e; rw [hp 13]; exact h14
  | 15, e => obtain rfl := Option.some.inj e; rw [hp 14]; exact h15
  | 16, e => obtain rfl := Option.some.inj e; rw [hp 15]; exact h16
  | 17, e => obtain rfl := Option.some.inj e; rw [hp 16]; exact h17
  | 18, e => obtain rfl := Option.some.inj e; rw [hp 17]; exact h18
  | 19, e => obtain rfl := Option.some.inj e; rw [hp 18]; exact h19
  | 20, e => obtain rfl := Option.some.inj e; rw [hp 19]; exact h20
  | 21, e => obtain rfl := Option.some.inj e; rw [hp 20]; exact h21
  | 22, e => obtain rfl := Option.some.inj e; rw [hp 21]; exact h22
  | 23, e => obtain rfl := Option.some.inj e; rw [hp 22]; exact h23
  | 24, e => obtain rfl := Option.some.inj e; rw [hp 23]; exact h24
  | n + 25, e => simp at e
end Go.Proofs.Ytnifhgackjkkbaa.Pre
