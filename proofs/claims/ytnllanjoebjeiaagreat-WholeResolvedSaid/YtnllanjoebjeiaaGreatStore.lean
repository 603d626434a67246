-- 10 texts in one (merge.py, a program of this work).
import Derived.Test.YtnllanjoebjeiaaGreatWWords
import Derived.Laws.Tables
import Derived.Laws.Rows
import Derived.WalkKit
import Derived.Below
import Derived.Lib.AppendStr
import Derived.Lib.ConvBytes
import Derived.Laws.CopyOwn
import Derived.Lib.BufferWrite
/-
A struct made of its fields' values, as one step of a walk: what it holds told beforehand.
-/
namespace Go.Proofs.YtnllanjoebjeiaaGreat.Pre
set_option linter.unusedVariables false
open Go.RowKit Go.Proofs.YtnllanjoebjeiaaGreatW.PrintWords Go.Proofs.YtnllanjoebjeiaaGreatW.PrintLast
theorem build_event {P : Program} {ops : Array Oper} {Q : Exit → Act → World → Prop} {a : Act} {w : World} {rest : List Oper} {o : Oper} (N : Nat) (t : TypeId) (parts : List (Nat × Operand)) {cells : Array Value} (hg : o.guard = none) (hd : o.dst = some N) (ho : o.op = .build t parts.toArray)
    (hc : P.built t (parts.map fun p => (p.1, a.eval p.2)) = some cells)
    (h : wpList P ops Q rest (a.put (some N) (.agg cells)) w) : wpList P ops Q (o :: rest) a w := by
  have hc' : P.built t ((parts.toArray.map fun (i, x) => (i, a.eval x)).toList) = some cells := by
    rw [← hc]; congr 1; simp
  refine Kd.event_run (v := .agg cells) (w1 := w) hg ?_ ?_
  · unfold execOp
    simp only [ho, Sem.run_bind, run_build w t _ cells hc', Result.andThen_ok]
    rfl
  · rw [hd]; exact h
theorem store_event {P : Program} {ops : Array Oper} {Q : Exit → Act → World → Prop} {a : Act} {w : World} {rest : List Oper} {o : Oper} {ty : TypeId} {x y : Operand} {g e : Nat} {cur cells : Array Value} (hg : o.guard = none) (hd : o.dst = none) (ho : o.op = .store ty x y)
    (hx : a.eval x = .pointer (some ⟨g, 0, none⟩)) (hy : a.eval y = .agg cells) (hh : w.heap[g]? = some (.cells cur e (0, 0))) (ht : (P.info? ty).map (·.size) = some cells.size) (hfit : cells.toList.length = cur.toList.length) (h1 : cells.toList.all (·.oneCell') = true)
    (h : wpList P ops Q rest a (w.setCells g 0 cells.toList)) : wpList P ops Q (o :: rest) a w := by
  have hr := run_store_run (P := P) (w := w) (g := g) (o := 0) (e := e) (cur := cur) ty (.agg cells) cells.toList hh rfl (by rw [ht, Array.length_toList]) (by rw [hfit, Array.length_toList]; omega) (fun q hq => List.all_eq_true.1 h1 q hq)
  refine wpList_plain hg fun K hK => ?_
  unfold Oper.wp execOp
  simp only [ho, hx, hy, Sem.run_bind, hr, Result.andThen_ok]
  have := hK _ _ h
  show K (a.put o.dst undef) _
  rw [hd]
  exact this
theorem heap_norm {w : World} {g e : Nat} {cs cs' : Array Value} (h : w.heap[g]? = some (.cells cs e (0, 0))) (q : cs = cs') : w.heap[g]? = some (.cells cs' e (0, 0)) := q ▸ h
theorem blk_set_ {w : World} {g e i : Nat} {cs : Array Value} {u : Value} (h : w.heap[g]? = some (.cells cs e (0, 0))) : (w.setCell ⟨g, i, none⟩ u).heap[g]? = some (.cells (cs.setIfInBounds i u) e (0, 0)) := blk_put h i u rfl
theorem gate_load {P : Program} {ops : Array Oper} {Q : Exit → Act → World → Prop} {a : Act} {w : World} {rest : List Oper} {o : Oper} (ty : TypeId) {x : Operand} (_ho : o.op = .load ty x) (h : wpList P ops Q (o :: rest) a w) : wpList P ops Q (o :: rest) a w := h
theorem gate_store {P : Program} {ops : Array Oper} {Q : Exit → Act → World → Prop} {a : Act} {w : World} {rest : List Oper} {o : Oper} (ty : TypeId) {x y : Operand} (_ho : o.op = .store ty x y) (h : wpList P ops Q (o :: rest) a w) : wpList P ops Q (o :: rest) a w := h
/-- A whole struct is read, in one step. -/
theorem load_event {P : Program} {ops : Array Oper} {Q : Exit → Act → World → Prop} {a : Act} {w : World} {rest : List Oper} {o : Oper} {ty : TypeId} {x : Operand} {N : Tmp} {g e : Nat} {cs : Array Value} {d : TypeDesc} (hg : o.guard = none) (hd : o.dst = some N) (ho : o.op = .load ty x)
    (hx : a.eval x = .pointer (some ⟨g, 0, none⟩)) (hh : w.heap[g]? = some (.cells cs e (0, 0))) (hu : P.underlying ty = some d) (hs : (match d with | .struct _ | .array _ _ => true | _ => false) = true) (ht : (P.info? ty).map (·.size) = some cs.size)
    (h : wpList P ops Q rest (a.put (some N) (.agg cs)) w) : wpList P ops Q (o :: rest) a w := by
  refine wpList_load_row hg ty x ho g hx e cs (0, 0) d hh hu hs ht ?_
  rw [hd]; exact h
theorem build_run {P : Program} {a : Act} {w : World} {o : Oper} (t : TypeId) (parts : List (Nat × Operand)) {cells : Array Value} (ho : o.op = .build t parts.toArray)
    (hc : P.built t (parts.map fun p => (p.1, a.eval p.2)) = some cells) : (execOp a.eval o).run P w = .ok (.value (.agg cells)) w := by
  have hc' : P.built t ((parts.toArray.map fun (i, x) => (i, a.eval x)).toList) = some cells := by
    rw [← hc]; congr 1; simp
  unfold execOp
  simp only [ho, Sem.run_bind, run_build w t _ cells hc', Result.andThen_ok]
  rfl
end Go.Proofs.YtnllanjoebjeiaaGreat.Pre
/-
A whole struct that is stored, as one step of a walk behind which the world has a name of its own; and small stores into such a block, told by terms.
-/
namespace Go.Proofs.YtnllanjoebjeiaaGreat.Pre
set_option linter.unusedVariables false
open Go.RowKit Go.Proofs.YtnllanjoebjeiaaGreatW.PrintWords Go.Proofs.YtnllanjoebjeiaaGreatW.PrintLast
/-- w' is w but for what stands in block g. -/
structure Sets (g : Nat) (w w' : World) : Prop where
  os : w'.os = w.os
  tape : w'.tape = w.tape
  output : w'.output = w.output
  size : w'.heap.size = w.heap.size
  block : ∀ k, k ≠ g → w'.heap[k]? = w.heap[k]?
theorem Sets.refl (g : Nat) (w : World) : Sets g w w := ⟨rfl, rfl, rfl, rfl, fun _ _ => rfl⟩
theorem Sets.trans {g : Nat} {a b c : World} (h : Sets g a b) (k : Sets g b c) : Sets g a c :=
  ⟨k.os.trans h.os, k.tape.trans h.tape, k.output.trans h.output, k.size.trans h.size, fun i hi => (k.block i hi).trans (h.block i hi)⟩
theorem Sets.cell (g i : Nat) (w : World) (v : Value) : Sets g w (w.setCell ⟨g, i, none⟩ v) :=
  ⟨rfl, rfl, rfl, by simp [World.setCell], fun k hk => Below.heap_setCell w _ v k hk⟩
theorem Sets.cells (g : Nat) : ∀ (vs : List Value) (o : Nat) (w : World), Sets g w (w.setCells g o vs)
  | [], o, w => Sets.refl g w
  | v :: vs, o, w => (Sets.cell g o w v).trans (Sets.cells g vs (o + 1) _)
theorem Sets.below {g B : Nat} {w0 w w' : World} (s : Sets g w w') (h : Below B w0 w) (hB : B ≤ g) : Below B w0 w' :=
  ⟨s.os.trans h.os, s.tape.trans h.tape, s.output.trans h.output, by rw [s.size]; exact h.size, fun k hk => (s.block k (by omega)).trans (h.block k hk)⟩
theorem Sets.blk {g k : Nat} {w w' : World} {o : Obj} (s : Sets g w w') (h : w.heap[k]? = some o) (hk : k ≠ g) : w'.heap[k]? = some o := (s.block k hk).trans h
/-- So many cells laid, from o on. -/
def setFrom (cs : Array Value) (o : Nat) : List Value → Array Value
  | [] => cs
  | v :: vs => setFrom (cs.setIfInBounds o v) (o + 1) vs
theorem setFrom_size (vs : List Value) : ∀ (o : Nat) (cs : Array Value), (setFrom cs o vs).size = cs.size := by
  induction vs with
  | nil => intro o cs; rfl
  | cons v vs ih => intro o cs; rw [setFrom, ih, Array.size_setIfInBounds]
theorem setFrom_low (vs : List Value) : ∀ (o : Nat) (cs : Array Value) (i : Nat), i < o → (setFrom cs o vs)[i]? = cs[i]? := by
  induction vs with
  | nil => intro o cs i h; rfl
  | cons v vs ih => intro o cs i h; rw [setFrom, ih _ _ _ (by omega), Array.getElem?_setIfInBounds, if_neg (by omega)]
theorem setFrom_at (vs : List Value) : ∀ (o : Nat) (cs : Array Value) (i : Nat), i < vs.length → o + i < cs.size → (setFrom cs o vs)[o + i]? = vs[i]? := by
  induction vs with
  | nil => intro o cs i h; simp at h
  | cons v vs ih =>
    intro o cs i h hs
    rw [setFrom]
    cases i with
    | zero => rw [Nat.add_zero] at hs ⊢; rw [setFrom_low _ _ _ _ (by omega), Array.getElem?_setIfInBounds, if_pos (Nat.add_zero o).symm, if_pos hs]; rfl
    | succ i =>
      have := ih (o + 1) (cs.setIfInBounds o v) i (by simpa using h) (by rw [Array.size_setIfInBounds]; omega)
      rw [show o + (i + 1) = o + 1 + i by omega, this]; rfl
theorem setFrom_all (vs : List Value) (cs : Array Value) (h : cs.size = vs.length) : setFrom cs 0 vs = vs.toArray := by
  apply Array.ext_getElem?
  intro i
  by_cases hi : i < vs.length
  · have := setFrom_at vs 0 cs i hi (by omega)
    rw [Nat.zero_add] at this
    rw [this]; simp
  · rw [Array.getElem?_eq_none (by rw [setFrom_size]; omega), Array.getElem?_eq_none (by simp; omega)]
theorem setCells_heap {g : Nat} {t : TypeId} : ∀ (vs : List Value) (o : Nat) (w : World) (cs : Array Value), w.heap[g]? = some (.cells cs t (0, 0)) → (w.setCells g o vs).heap[g]? = some (.cells (setFrom cs o vs) t (0, 0))
  | [], o, w, cs, h => h
  | v :: vs, o, w, cs, h => setCells_heap vs (o + 1) _ _ (blk_set h o v)
/-- A whole struct is stored: behind it the world is any one of which the block holds what was stored, and all else is as it was. -/
theorem store_abs {P : Program} {ops : Array Oper} {Q : Exit → Act → World → Prop} {a : Act} {w : World} {rest : List Oper} {o : Oper} {ty : TypeId} {x y : Operand} {g e : Nat} {cur cells : Array Value} (hg : o.guard = none) (hd : o.dst = none) (ho : o.op = .store ty x y)
    (hx : a.eval x = .pointer (some ⟨g, 0, none⟩)) (hy : a.eval y = .agg cells) (hh : w.heap[g]? = some (.cells cur e (0, 0))) (ht : (P.info? ty).map (·.size) = some cells.size) (hfit : cells.toList.length = cur.toList.length) (h1 : cells.toList.all (·.oneCell') = true)
    (h : ∀ w', w'.heap[g]? = some (.cells cells e (0, 0)) → Sets g w w' → wpList P ops Q rest a w') : wpList P ops Q (o :: rest) a w :=
  store_event hg hd ho hx hy hh ht hfit h1 (h _ (by have := setCells_heap cells.toList 0 w cur hh; rw [setFrom_all _ _ (by simpa using hfit.symm)] at this; simpa using this) (Sets.cells g _ _ _))
theorem setCells_all {g : Nat} {t : TypeId} {w : World} {cs : Array Value} {vs : List Value} (h : w.heap[g]? = some (.cells cs t (0, 0))) (e : cs.size = vs.length) : (w.setCells g 0 vs).heap[g]? = some (.cells vs.toArray t (0, 0)) := by
  have := setCells_heap vs 0 w cs h
  rw [setFrom_all _ _ e] at this
  exact this
theorem setCells_allA {g : Nat} {t : TypeId} {w : World} {cs cells : Array Value} (h : w.heap[g]? = some (.cells cs t (0, 0))) (e : cs.size = cells.size) : (w.setCells g 0 cells.toList).heap[g]? = some (.cells cells t (0, 0)) := by
  have := setCells_all (vs := cells.toList) h (by rw [e]; simp)
  simpa using this
/-- A row of one's own that lies in no cell of that block. -/
theorem R_sets {α : Type} {d : Kd α} {e base g : Nat} {w w' : World} {ok : Nat → Prop} {v : Value} {xs : List α} (s : Sets g w w') (h : d.R e w base ok v xs) (hk : ∀ k, ok k → k ≠ g) : d.R e w' base ok v xs :=
  Kd.R_step h (fun k ho _ => s.block k (hk k ho))
end Go.Proofs.YtnllanjoebjeiaaGreat.Pre
/-
A whole struct that is read in a region that draws its order: in one step.
-/
namespace Go.Proofs.YtnllanjoebjeiaaGreat.Pre
set_option linter.unusedVariables false
open Go.RowKit Go.Proofs.YtnllanjoebjeiaaGreatW.PrintWords Go.Proofs.YtnllanjoebjeiaaGreatW.PrintLast
/-- A whole struct is read in a region that draws. -/
theorem load_run {P : Program} {a : Act} {w : World} {o : Oper} {ty : TypeId} {x : Operand} {g e : Nat} {cs : Array Value} {d : TypeDesc} (ho : o.op = .load ty x)
    (hx : a.eval x = .pointer (some ⟨g, 0, none⟩)) (hh : w.heap[g]? = some (.cells cs e (0, 0))) (hu : P.underlying ty = some d) (hs : (match d with | .struct _ | .array _ _ => true | _ => false) = true) (ht : (P.info? ty).map (·.size) = some cs.size) :
    (execOp a.eval o).run P w = .ok (.value (.agg cs)) w := by
  unfold execOp
  simp only [ho, hx, Instr.loadAt, Instr.sureAddr, Sem.run_bind, Sem.run_pure, Result.andThen_ok, run_loadVar_row w g e ty cs (0, 0) d hh hu hs ht]
/-- A variable whose cells lie in line from a place on. -/
theorem run_loadVar_a {P : Program} (w : World) (p : Addr) (ty : TypeId) (cs : List Value) (d : TypeDesc) (hc : ∀ j v, cs[j]? = some v → w.cell? (p.add j) = some v)
    (hu : P.underlying ty = some d) (hd : (match d with | .struct _ | .array _ _ => true | _ => false) = true) (hi : (P.info? ty).map (·.size) = some cs.length) :
    (loadVar ty p).run P w = .ok (.agg cs.toArray) w := by
  have hl : (loadCells p cs.length).run P w = .ok cs.toArray w := run_loadCells_list (P := P) w p cs hc
  cases hq : P.info? ty with
  | none => simp [hq] at hi
  | some i =>
    have hs : i.size = cs.length := by simpa [hq] using hi
    have hagg : (isAgg ty).run P w = .ok true w := by
      unfold isAgg
      rw [Sem.run_bind, run_underlying hu w]
      cases d <;> simp_all
    simp [loadVar, Sem.run_bind, hagg, sizeOf, typeInfo, hq, hs, hl]
theorem load_run_a {P : Program} {a : Act} {w : World} {o : Oper} {ty : TypeId} {x : Operand} {p : Addr} {cs : List Value} {d : TypeDesc} (ho : o.op = .load ty x)
    (hx : a.eval x = .pointer (some p)) (hc : ∀ j v, cs[j]? = some v → w.cell? (p.add j) = some v) (hu : P.underlying ty = some d) (hs : (match d with | .struct _ | .array _ _ => true | _ => false) = true) (ht : (P.info? ty).map (·.size) = some cs.length) :
    (execOp a.eval o).run P w = .ok (.value (.agg cs.toArray)) w := by
  unfold execOp
  simp only [ho, hx, Instr.loadAt, Instr.sureAddr, Sem.run_bind, Sem.run_pure, Result.andThen_ok, run_loadVar_a w p ty cs d hc hu hs ht]
theorem load_event_a {P : Program} {ops : Array Oper} {Q : Exit → Act → World → Prop} {a : Act} {w : World} {rest : List Oper} {o : Oper} {ty : TypeId} {x : Operand} {N : Tmp} {p : Addr} {cs : List Value} {d : TypeDesc} (hg : o.guard = none) (hd : o.dst = some N) (ho : o.op = .load ty x)
    (hx : a.eval x = .pointer (some p)) (hc : ∀ j v, cs[j]? = some v → w.cell? (p.add j) = some v) (hu : P.underlying ty = some d) (hs : (match d with | .struct _ | .array _ _ => true | _ => false) = true) (ht : (P.info? ty).map (·.size) = some cs.length)
    (h : wpList P ops Q rest (a.put (some N) (.agg cs.toArray)) w) : wpList P ops Q (o :: rest) a w :=
  wpList_plain hg fun K hK => by
    unfold Oper.wp execOp
    simp only [ho, hx, Instr.loadAt, Instr.sureAddr, Sem.run_bind, Sem.run_pure, Result.andThen_ok, run_loadVar_a w p ty cs d hc hu hs ht]
    have := hK _ _ h
    show K (a.put o.dst (.agg cs.toArray)) w
    rw [hd]
    exact this
/-- The cells of an element of 25 fields, found in the context. -/
theorem range25 {w : World} {p : Addr} {v0 v1 v2 v3 v4 v5 v6 v7 v8 v9 v10 v11 v12 v13 v14 v15 v16 v17 v18 v19 v20 v21 v22 v23 v24 : Value} (h0 : w.cell? p = some v0 := by with_reducible assumption) (h1 : w.cell? ⟨p.block, p.off + 1, none⟩ = some v1 := by with_reducible assumption) (h2 : w.cell? ⟨p.block, p.off + 2, none⟩ = some v2 := by with_reducible assumption) (h3 : w.cell? ⟨p.block, p.off + 3, none⟩ = some v3 := by with_reducible assumption) (h4 : w.cell? ⟨p.block, p.off + 4, none⟩ = some v4 := by with_reducible assumption) (h5 : w.cell? ⟨p.block, p.off + 5, none⟩ = some v5 := by with_reducible assumption) (h6 : w.cell? ⟨p.block, p.off + 6, none⟩ = some v6 := by with_reducible assumption) (h7 : w.cell? ⟨p.block, p.off + 7, none⟩ = some v7 := by with_reducible assumption) (h8 : w.cell? ⟨p.block, p.off + 8, none⟩ = some v8 := by with_reducible assumption) (h9 : w.cell? ⟨p.block, p.off + 9, none⟩ = some v9 := by with_reducible assumption) (h10 : w.cell? ⟨p.block, p.off + 10, none⟩ = some v10 := by with_reducible assumption) (h11 : w.cell? ⟨p.block, p.off + 11, none⟩ = some v11 := by with_reducible assumption) (h12 : w.cell? ⟨p.block, p.off + 12, none⟩ = some v12 := by with_reducible assumption) (h13 : w.cell? ⟨p.block, p.off + 13, none⟩ = some v13 := by with_reducible assumption) (h14 : w.cell? ⟨p.block, p.off + 14, none⟩ = some v14 := by with_reducible assumption) (h15 : w.cell? ⟨p.block, p.off + 15, none⟩ = some v15 := by with_reducible assumption) (h16 : w.cell? ⟨p.block, p.off + 16, none⟩ = some v16 := by with_reducible assumption) (h17 : w.cell? ⟨p.block, p.off + 17, none⟩ = some v17 := by with_reducible assumption) (h18 : w.cell? ⟨p.block, p.off + 18, none⟩ = some v18 := by with_reducible assumption) (h19 : w.cell? ⟨p.block, p.off + 19, none⟩ = some v19 := by with_reducible assumption) (h20 : w.cell? ⟨p.block, p.off + 20, none⟩ = some v20 := by with_reducible assumption) (h21 : w.cell? ⟨p.block, p.off + 21, none⟩ = some v21 := by with_reducible assumption) (h22 : w.cell? ⟨p.block, p.off + 22, none⟩ = some v22 := by with_reducible assumption) (h23 : w.cell? ⟨p.block, p.off + 23, none⟩ = some v23 := by with_reducible assumption) (h24 : w.cell? ⟨p.block, p.off + 24, none⟩ = some v24 := by with_reducible assumption) :
    ∀ j v, [v0, v1, v2, v3, v4, v5, v6, v7, v8, v9, v10, v11, v12, v13, v14, v15, v16, v17, v18, v19, v20, v21, v22, v23, v24][j]? = some v → w.cell? (p.add j) = some v := by
  intro j v e
  have hp : ∀ n : Nat, p.add (n + 1) = ⟨p.block, p.off + (n + 1), none⟩ := fun n => by unfold Addr.add; rw [if_neg (by omega)]
  match j, e with
  | 0, e => obtain rfl := Option.some.inj e; exact h0
  | 1, e => obtain rfl := Option.some.inj e; rw [hp 0]; exact h1
  | 2, e => obtain rfl := Option.some.inj e; rw [hp 1]; exact h2
  | 3, e => obtain rfl := Option.some.inj e; rw [hp 2]; exact h3
  | 4, e => obtain rfl := Option.some.inj e; rw [hp 3]; exact h4
  | 5, e => obtain rfl := Option.some.inj e; rw [hp 4]; exact h5
  | 6, e => obtain rfl := Option.some.inj e; rw [hp 5]; exact h6
  | 7, e => obtain rfl := Option.some.inj e; rw [hp 6]; exact h7
  | 8, e => obtain rfl := Option.some.inj e; rw [hp 7]; exact h8
  | 9, e => obtain rfl := Option.some.inj e; rw [hp 8]; exact h9
  | 10, e => obtain rfl := Option.some.inj e; rw [hp 9]; exact h10
  | 11, e => obtain rfl := Option.some.inj e; rw [hp 10]; exact h11
  | 12, e => obtain rfl := Option.some.inj e; rw [hp 11]; exact h12
  | 13, e => obtain rfl := Option.some.inj e; rw [hp 12]; exact h13
  | 14, e => obtain rfl := Option.some.inj e; rw [hp 13]; exact h14
  | 15, e => obtain rfl := Option.some.inj e; rw [hp 14]; exact h15
  | 16, e => obtain rfl := Option.some.inj e; rw [hp 15]; exact h16
  | 17, e => obtain rfl := Option.some.inj e; rw [hp 16]; exact h17
  | 18, e => obtain rfl := Option.some.inj e; rw [hp 17]; exact h18
  | 19, e => obtain rfl := Option.some.inj e; rw [hp 18]; exact h19
  | 20, e => obtain rfl := Option.some.inj e; rw [hp 19]; exact h20
  | 21, e => obtain rfl := Option.some.inj e; rw [hp 20]; exact h21
  | 22, e => obtain rfl := Option.some.inj e; rw [hp 21]; exact h22
  | 23, e => obtain rfl := Option.some.inj e; rw [hp 22]; exact h23
  | 24, e => obtain rfl := Option.some.inj e; rw [hp 23]; exact h24
  | n + 25, e => simp at e
end Go.Proofs.YtnllanjoebjeiaaGreat.Pre
/-
An if whose test is decided, taken.
-/
namespace Go.Proofs.YtnllanjoebjeiaaGreat.Sq
theorem itT {α : Sort _} {t e r : α} {d : Decidable (true = true)} (h : (@ite α (true = true) d t e) = r) : t = r := (if_pos rfl).symm.trans h
theorem itF {α : Sort _} {t e r : α} {d : Decidable (false = true)} (h : (@ite α (false = true) d t e) = r) : e = r := (if_neg Bool.false_ne_true).symm.trans h
end Go.Proofs.YtnllanjoebjeiaaGreat.Sq
/-
Shorter words for the steps of a region that draws its order.
-/
namespace Go.Proofs.YtnllanjoebjeiaaGreat.Sq
open Go.RowKit Go.Proofs.YtnllanjoebjeiaaGreatW.PrintWords Go.Proofs.YtnllanjoebjeiaaGreatW.PrintLast
set_option linter.unusedVariables false
/-- So many bits of a number. -/
def b (n m : Nat) : Array Bool := ((List.range n).map fun i => m.testBit i).toArray
theorem s1 {α : Type} {l : List α} {i : Nat} {a : α} : l.toArray.setIfInBounds i a = (l.set i a).toArray := List.setIfInBounds_toArray _ _ _
theorem s2 {α : Type} {x a : α} {l : List α} : (x :: l).set 0 a = a :: l := List.set_cons_zero
theorem s3 {α : Type} {x a : α} {l : List α} {n : Nat} : (x :: l).set (n + 1) a = x :: l.set n a := List.set_cons_succ
theorem up {w w' : World} {p : Addr} {v : Value} (hb : Below w.heap.size w w') (h : w.cell? p = some v) : w'.cell? p = some v := (hb.cell (World.block_lt_of_cell? w _ h)).trans h
theorem bc {w : World} {g t : Nat} {cs : Array Value} {v : Value} (h : Aside0 (w.heap[g]? = some (.cells cs t (0, 0)))) (i : Nat) (hv : cs[i]? = some v := by rfl) : w.cell? ⟨g, i, none⟩ = some v := (blk_cell h.out i).trans hv
theorem ge {w W : World} {g : Nat} (hg : g = W.heap.size) (h : Below w.heap.size w W) : w.heap.size ≤ g := by rw [hg]; exact below_size h
theorem nl {W : World} {g g' : Nat} (hg : g' = W.heap.size) (h : g < W.heap.size) : g ≠ g' := by rw [hg]; exact Nat.ne_of_lt h
theorem ng {W : World} {g g' : Nat} (hg : g' = W.heap.size) (h : g < W.heap.size) : g' ≠ g := by rw [hg]; exact Nat.ne_of_gt h
section
variable {P : Program} {ops : Array Oper} {Q : Exit → Act → World → Prop} {md : Region.Mode} {S : World → Prop} {ds : List Nat}
theorem pur {T : Bool × List (List Nat × List Nat)} {oi : Oper} {v : Value} {fuel : Nat} {l : Array Bool} {a a' : Act} {w : World} (i : Nat) (N : Option Tmp) (l' : Array Bool) (hT : rtab md ops = T)
    (h : wpAnyLast P md ops Q S ds fuel l' a' w)
    (hi : ops[i]? = some oi := by rfl) (hN : oi.dst = N := by rfl) (hc : anyT T l.toList l'.toList i = true := by kernel_rfl)
    (hQ : ∀ c a w, Q (.panic c) (a.put oi.dst v) w → Q (.panic c) a w := by exact fun _ _ _ h => h) (hw : Region.wanted oi (yielded ops a.tmps) = true := by rfl)
    (hr : ∀ w, (execOp a.eval oi).run P w = .ok (.value v) w := by (intro w'; go_simp; with_reducible rfl))
    (ha : a.put N v = a' := by (simp only [Act.put, Sq.s1, Sq.s2, Sq.s3, i64_w, i32_w]; rfl)) : wpAnyLast P md ops Q S ds (fuel + 1) l a w :=
  pure_ (i := i) (N := N) l' hi hN (any_of hT hc) hQ (Or.inl ⟨hw, hr⟩) ha h
theorem tak {T : Bool × List (List Nat × List Nat)} {B : List Nat} {oi : Oper} {fuel : Nat} {l : Array Bool} {a : Act} {w : World} (i : Nat) (N : Option Tmp) (l' : Array Bool) (hT : rtab md ops = T) (hB : waitsOk T.2 B = true) (hS : S w)
    {v : Value} (hr : ∀ w, S w → (execOp a.eval oi).run P w = .ok (.value v) w) {a' : Act} (ha : a.put N v = a') (h : wpAnyLast P md ops Q S ds fuel l' a' w)
    (hi : ops[i]? = some oi := by rfl) (hN : oi.dst = N := by rfl) (hc : takeW T B ds l.toList l'.toList i = true := by kernel_rfl)
    (hQ : ∀ c a w, Q (.panic c) (a.put oi.dst v) w → Q (.panic c) a w := by exact fun _ _ _ h => h) (hw : Region.wanted oi (yielded ops a.tmps) = true := by rfl) : wpAnyLast P md ops Q S ds (fuel + 1) l a w :=
  take_ (i := i) (N := N) l' hi hN (take_ofW hT hB hc) hQ (Or.inl ⟨hw, hr⟩) hS ha h
theorem box {rest : List Oper} {o : Oper} {a : Act} {W : World} (N : Tmp) (cs : Array Value) (t : TypeId)
    (h : ∀ g, g = W.heap.size → ∀ w1, w1.heap[g]? = some (.cells cs t (0, 0)) → Below W.heap.size W w1 → wpList P ops Q rest (a.put o.dst (.pointer (some ⟨g, 0, none⟩))) w1)
    (hgd : o.guard = none := by rfl) (hd : o.dst = some N := by rfl)
    (hrun : (execOp a.eval o).run P W = .ok (.value (.pointer (some ⟨W.heap.size, 0, none⟩))) (W.alloc (.cells cs t (0, 0))) := by first | (go_simp; done) | (go_simp; rfl)) : wpList P ops Q (o :: rest) a W :=
  box_event hgd hd hrun h
end
end Go.Proofs.YtnllanjoebjeiaaGreat.Sq
/-
Shorter words for the proofs that more rounds tell no less.
-/
namespace Go.Proofs.YtnllanjoebjeiaaGreat.Sq
open Go.RowKit Go.Proofs.YtnllanjoebjeiaaGreatW.PrintWords Go.Proofs.YtnllanjoebjeiaaGreatW.PrintLast
set_option linter.unusedVariables false
theorem mo {α : Type} {a b : Option α} (h : LeO a b := by repeat' first | (with_reducible first | exact ih0 .. | exact ih1 .. | exact ih2 .. | exact ih3 .. | exact ih4 .. | exact ih5 .. | exact ih6 .. | exact ih7 .. | exact m0 .. | exact m1 .. | exact m2 .. | exact m3 .. | exact m4 .. | exact LeO.refl _ | exact LeO.none _ | refine LeO.ite ?_ ?_ | refine LeO.bind ?_ (fun _ => ?_)) | first | exact ih0 .. | exact ih1 .. | exact ih2 .. | exact ih3 .. | exact m0 .. | exact m1 .. | exact m2 .. | exact m3 .. | exact m4 .. | exact LeO.none _ | refine LeO.ite ?_ ?_ | refine LeO.bind ?_ (fun _ => ?_)) : LeO a b := h
theorem mz {P : Prop} (h : P := by intros; exact LeO.none _) : P := h
end Go.Proofs.YtnllanjoebjeiaaGreat.Sq
/-
append of a string to bytes of one's own, in a region that draws its order.
-/
namespace Go.Proofs.YtnllanjoebjeiaaGreat.Pre
set_option linter.unusedVariables false
open Go.RowKit Go.Proofs.YtnllanjoebjeiaaGreatW.PrintWords Go.Proofs.YtnllanjoebjeiaaGreatW.PrintLast
theorem size_nums_ (l : List Int) : (strOfNums l).size = l.length := by simp [strOfNums, ByteArray.size]
theorem append_str_step {P : Program} {ops : Array Oper} {o : Oper} {a : Act} {K : Act → World → Prop} {Q : Exit → Act → World → Prop} {w0 W : World} (base : Nat) (hw : Region.wanted o (yielded ops a.tmps) = true) (s x : Operand) (t u e : TypeId)
    (ho : o.op = .call { callee := .builtin .append, args := #[s, x], argTypes := #[t, u] })
    (ht : P.underlying t = some (.slice e)) (hu : P.underlying u = some .string) (hinfo : (P.info? e).map (fun i => (i.zero, i.size, i.bytes)) = some (some (.int .u8 0), 1, 1))
    (v : Value) (xs : List Int) (y : ByteArray) (hs : a.eval s = v) (hx : a.eval x = .string y)
    (HO : W.ownsRow base e 1 v xs.length (nums .u8 xs)) (HB : Below base w0 W) (hbase : base ≤ W.heap.size) (hl : xs.length + y.size ≤ 140737488355328)
    (h : ∀ v1 w1, w1.ownsRow base e 1 v1 (xs ++ bytesOf y).length (nums .u8 (xs ++ bytesOf y)) → Below base w0 w1 → W.grownBy w1 v.ownBlock → K (a.put o.dst v1) w1) :
    if Region.wanted o (yielded ops a.tmps) = true then Oper.wp P o a W K Q else K (a.put o.dst undef) W := by
  obtain ⟨i0, hi, hzz⟩ := Option.map_eq_some_iff.1 hinfo
  simp only [Prod.mk.injEq] at hzz
  obtain ⟨hz0, hz1, hz2⟩ := hzz
  obtain ⟨v1, w1, hr, hown, hg, _⟩ := Lib.run_append_own_string (P := P) (w := W) base t u o.type e i0 ht hu hi hz0 hz1 hz2 v xs.length (nums .u8 xs) HO y (by simp only [maxLen]; omega) hl hbase
  have hl2 : (xs ++ bytesOf y).length = xs.length + y.size := by rw [List.length_append, bytesOf_length]
  have hc : nums .u8 (xs ++ bytesOf y) = nums .u8 xs ++ Lib.strCells y := by
    rw [nums_append]
    congr 1
    simp [nums, bytesOf, Lib.strCells]
  have hk := h v1 w1 (by rw [hl2, hc]; exact hown) (HB.grown hg hbase (own_base HO)) hg
  rw [if_pos hw]
  unfold Oper.wp execOp
  simp only [ho]
  simp [resolve, invoke, builtin, hs, hx, hr, Oper.upon, hk]
end Go.Proofs.YtnllanjoebjeiaaGreat.Pre
/-
Small facts that the walks over a string's bytes lean on: the row that such a conversion lays, bits put together, two blocks laid one behind the other.
-/
namespace Go.Proofs.YtnllanjoebjeiaaGreat.Pre
open Go.RowKit Go.Proofs.YtnllanjoebjeiaaGreatW.PrintWords Go.Proofs.YtnllanjoebjeiaaGreatW.PrintLast
/-- The number that bytes make, the highest first. -/
def numOf (s : ByteArray) : Int := (bytesOf s).foldl (fun a b => a * 256 + b) 0
theorem pow_le7_ (m : Nat) (h : m ≤ 7) : (256 : Int) ^ m ≤ 72057594037927936 := by
  have : m = 0 ∨ m = 1 ∨ m = 2 ∨ m = 3 ∨ m = 4 ∨ m = 5 ∨ m = 6 ∨ m = 7 := by omega
  rcases this with rfl | rfl | rfl | rfl | rfl | rfl | rfl | rfl <;> decide
theorem pow_le6_ (m : Nat) (h : m ≤ 6) : (256 : Int) ^ m ≤ 281474976710656 := by
  have : m = 0 ∨ m = 1 ∨ m = 2 ∨ m = 3 ∨ m = 4 ∨ m = 5 ∨ m = 6 := by omega
  rcases this with rfl | rfl | rfl | rfl | rfl | rfl | rfl <;> decide
theorem or_byte {v x : Int} (h0 : 0 ≤ v) (h1 : v < 281474976710656) (h2 : 0 ≤ x) (h3 : x ≤ 255) : Go.bits .or .i64 (v * 256) x = v * 256 + x :=
  bits_join .i64 63 (by decide) (fun m h0 h1 => by rw [IntKind.wrap_i64]; omega) 8 (v * 256) x (by omega) (by omega) (by omega) h2 (by omega) (by omega)
theorem two_blocks (w : World) (A B : Obj) : ((w.alloc A).alloc B).heap[w.heap.size]? = some A ∧ ((w.alloc A).alloc B).heap[w.heap.size + 1]? = some B := by
  constructor
  · rw [(below_alloc (Below.refl (w.alloc A).heap.size (w.alloc A)) B).block w.heap.size (by simp)]; exact heap_alloc_new w A
  · have h := heap_alloc_new (w.alloc A) B
    simpa using h
theorem fold_take (l : List Int) (i : Nat) (h : i < l.length) : (l.take (i + 1)).foldl (fun a b => a * 256 + b) 0 = (l.take i).foldl (fun a b => a * 256 + b) 0 * 256 + l.getD i 0 := by
  rw [List.take_succ_eq_append_getElem h, List.foldl_append, List.getD_eq_getElem?_getD, List.getElem?_eq_getElem h]; rfl
theorem bt_getD_ (s : ByteArray) (i : Nat) : bt s (i : Int) = ((s.data.toList.getD i 0).toNat : Int) := by
  rw [← rd_bytesOf]
  unfold rd bytesOf
  simp only [Int.toNat_natCast, List.getD_eq_getElem?_getD, List.getElem?_map]
  by_cases h : i < s.data.toList.length
  · rw [List.getElem?_eq_getElem h]; rfl
  · rw [List.getElem?_eq_none (Nat.le_of_not_lt h)]; rfl
theorem below_bytes (w : World) (e : TypeId) (s : ByteArray) : Below w.heap.size w (Lib.bytesWorld w e s) := by
  have h1 : Below w.heap.size w (w.drew.alloc (.cells (Lib.bytesCells w e s) e)) := below_alloc (below_drew1 (Below.refl _ _)) _
  exact ⟨h1.os, h1.tape, h1.output, by rw [Lib.bytesWorld_size]; omega, fun j hj => Lib.bytesWorld_at_old w e s j hj⟩
end Go.Proofs.YtnllanjoebjeiaaGreat.Pre
/-
copy(dst, s), s a string that fits into dst, a row of bytes of the call's own: s's bytes stand ahead of what stood behind them.
-/
namespace Go.Proofs.YtnllanjoebjeiaaGreat.Pre
open Go.RowKit Go.Proofs.YtnllanjoebjeiaaGreatW.PrintWords Go.Proofs.YtnllanjoebjeiaaGreatW.PrintLast

theorem byteCells_nums (s : ByteArray) : Lib.byteCells s.data.toList = nums .u8 (bytesOf s) := by
  simp [Lib.byteCells, nums, bytesOf]

theorem copy_own_str {P : Program} {W : World} {base g n cap : Nat} {e : TypeId} {xs : List Int} (dT sT ty : TypeId) (s : ByteArray)
    (hu : P.underlying dT = some (.slice e)) (hs : (P.info? e).map (·.size) = some 1)
    (HO : W.ownsRow base e 1 (.slice (some ⟨g, 0, none⟩) n cap) n (nums .u8 xs)) (hle : s.size ≤ n) :
    ∃ W2, (Builtin.copy_ #[dT, sT] ty #[.slice (some ⟨g, 0, none⟩) n cap, .string s]).run P W = .ok (goInt s.size) W2 ∧
      W2.ownsRow base e 1 (.slice (some ⟨g, 0, none⟩) n cap) n (nums .u8 (bytesOf s ++ xs.drop s.size)) ∧ (∀ {B : Nat} {w0 : World}, B ≤ base → Below B w0 W → Below B w0 W2) ∧ W2.heap.size = W.heap.size := by
  rcases HO.2 with ⟨h', _⟩ | ⟨g', cap', cur, h', hb, hg, hnc, hcm, hcs, htk⟩
  · cases h'
  · obtain ⟨rfl, rfl⟩ : g = g' ∧ cap = cap' := by injection h' with h1 h2 h3; injection h1 with h1; injection h1 with h1; exact ⟨h1, h3⟩
    have hxl : xs.length = n := by have := HO.1; simp [nums] at this; exact this
    have hcl : cur.toList.length = cap := by rw [Array.length_toList, hcs, Nat.mul_one]
    have hrun := Lib.run_copy_row_string (P := P) W dT sT ty e g 0 n cap s cur e hu hs hg hle (by rw [hcs]; omega)
    refine ⟨_, hrun, ?_, fun hB hbel => below_setRow hbel (Nat.le_trans hB hb) _, by simp⟩
    have hbl : (bytesOf s).length = s.size := by rw [bytesOf, List.length_map, data_length]
    refine ⟨by rw [nums_length, List.length_append, List.length_drop, hbl, hxl]; omega, .inr ⟨g, cap, _, rfl, hb, setRow_heap W g _ _ e _ hg, hnc, hcm, ?_, ?_⟩⟩
    · simp only [List.take_zero, List.nil_append, Nat.zero_add, List.size_toArray, List.length_append, List.length_drop, hcl]
      rw [byteCells_nums, nums_length, hbl]; omega
    · simp only [List.take_zero, List.nil_append, Nat.zero_add, Nat.mul_one, byteCells_nums]
      rw [Nat.mul_one] at htk
      have h1 : nums .u8 (bytesOf s ++ xs.drop s.size) = nums .u8 (bytesOf s) ++ (nums .u8 xs).drop s.size := by simp [nums]
      rw [h1, ← htk, List.take_append, nums_length, hbl, List.take_of_length_le (by rw [nums_length, hbl]; exact hle), List.drop_take]

theorem wpList_copy_ {P : Program} {ops : Array Oper} {rest : List Oper} {o : Oper} {a : Act} {Q : Exit → Act → World → Prop} {w : World} (hgd : o.guard = none) (d s : Operand) (t t' : TypeId)
    (ho : o.op = .call { callee := .builtin .copy, args := #[d, s], argTypes := #[t, t'] }) (v u : Value) (hd : a.eval d = v) (hs : a.eval s = u) {v' : Value} {w' : World}
    (hr : (Builtin.copy_ #[t, t'] o.type #[v, u]).run P w = .ok v' w') (h : wpList P ops Q rest (a.put o.dst v') w') : wpList P ops Q (o :: rest) a w := by
  refine wpList_plain hgd fun K hK => ?_
  unfold Oper.wp execOp
  simp only [ho, resolve, invoke, builtin, Sem.run_bind, Sem.run_pure, Result.andThen_ok, List.map_toArray, List.map_cons, List.map_nil, hd, hs, hr]
  exact hK _ _ h
end Go.Proofs.YtnllanjoebjeiaaGreat.Pre
/-
A row of comparisons 'x != y || ..' inside a region: each is carried out only where those before it said no; told in one step each, the Bool so far being a variable.
-/
namespace Go.Proofs.YtnllanjoebjeiaaGreat.Pre
set_option linter.unusedVariables false
set_option linter.unusedSimpArgs false
open Go.RowKit Go.Proofs.YtnllanjoebjeiaaGreatW.PrintWords Go.Proofs.YtnllanjoebjeiaaGreatW.PrintLast
section
variable {P : Program} {ops : Array Oper} {Q : Exit → Act → World → Prop} {a : Act} {w : World} {rest : List Oper} {o : Oper}
variable {z : Act} {N lo p q s n gi f T T2 : Nat} {A1 A2 B1 B2 X1 X2 : Value} {b e : Bool} {t1 t2 t3 t4 t5 t6 t7 : TypeId} {x1 x2 x3 x4 x5 x6 x7 : String} {y1 y2 y3 y4 y5 y6 y7 : Array Edge} 
end
end Go.Proofs.YtnllanjoebjeiaaGreat.Pre
