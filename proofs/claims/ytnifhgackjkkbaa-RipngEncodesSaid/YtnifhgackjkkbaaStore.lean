/-
A whole struct that is stored, as one step of a walk behind which the world has a name of its own; and small stores into such a block, told by terms.
-/
import Derived.Test.YtnifhgackjkkbaaBuild
namespace Go.Proofs.Ytnifhgackjkkbaa.Pre
set_option linter.unusedVariables false
open Go.RowKit Go.Proofs.YtnifhgackjkkbaaW.PrintWords Go.Proofs.YtnifhgackjkkbaaW.PrintLast
/-- w' is w but for what stands in block g. -/
structure Sets (g : Nat) (w w' : World) : Prop where
  os : w'.os = w.os
  tape : w'.tape = w.tape
  output : w'.output = w.output
  size : w'.heap.size = w.heap.size
  block : ∀ k, k ≠ g → w'.heap[k]? = w.heap[k]?
theorem Sets.refl (g : Nat) (w : World) : Sets g w w := ⟨rfl, rfl, rfl, rfl, fun _ _ => rfl⟩
theorem Sets.trans {g : Nat} {a b c : World} (h : Sets g a b) (k : Sets g b c) : Sets g a c :=
  ⟨k.os.trans h.os, k.tape.trans h.tape, k.output.trans h.output, k.size.trans h.size, fun i hi => (k.block i hi).trans (h.block i hi)⟩
theorem Sets.cell (g i : Nat) (w : World) (v : Value) : Sets g w (w.setCell ⟨g, i, none⟩ v) :=
  ⟨rfl, rfl, rfl, by simp [World.setCell], fun k hk => Below.heap_setCell w _ v k hk⟩
theorem Sets.cells (g : Nat) : ∀ (vs : List Value) (o : Nat) (w : World), Sets g w (w.setCells g o vs)
  | [], o, w => Sets.refl g w
  | v :: vs, o, w => (Sets.cell g o w v).trans (Sets.cells g vs (o + 1) _)
theorem Sets.below {g B : Nat} {w0 w w' : World} (s : Sets g w w') (h : Below B w0 w) (hB : B ≤ g) : Below B w0 w' :=
  ⟨s.os.trans h.os, s.tape.trans h.tape, s.output.trans h.output, by rw [s.size]; exact h.size, fun k hk => (s.block k (by omega)).trans (h.block k hk)⟩
theorem Sets.blk {g k : Nat} {w w' : World} {o : Obj} (s : Sets g w w') (h : w.heap[k]? = some o) (hk : k ≠ g) : w'.heap[k]? = some o := (s.block k hk).trans h
/-- So many cells laid, from o on. -/
def setFrom (cs : Array Value) (o : Nat) : List Value → Array Value
  | [] => cs
  | v :: vs => setFrom (cs.setIfInBounds o v) (o + 1) vs
theorem setFrom_size (vs : List Value) : ∀ (o : Nat) (cs : Array Value), (setFrom cs o vs).size = cs.size := by
  induction vs with
  | nil => intro o cs; rfl
  | cons v vs ih => intro o cs; rw [setFrom, ih, Array.size_setIfInBounds]
theorem setFrom_low (vs : List Value) : ∀ (o : Nat) (cs : Array Value) (i : Nat), i < o → (setFrom cs o vs)[i]? = cs[i]? := by
  induction vs with
  | nil => intro o cs i h; rfl
  | cons v vs ih => intro o cs i h; rw [setFrom, ih _ _ _ (by omega), Array.getElem?_setIfInBounds, if_neg (by omega)]
theorem setFrom_at (vs : List Value) : ∀ (o : Nat) (cs : Array Value) (i : Nat), i < vs.length → o + i < cs.size → (setFrom cs o vs)[o + i]? = vs[i]? := by
  induction vs with
  | nil => intro o cs i h; simp at h
  | cons v vs ih =>
    intro o cs i h hs
    rw [setFrom]
    cases i with
    | zero => rw [Nat.add_zero] at hs ⊢; rw [setFrom_low _ _ _ _ (by omega), Array.getElem?_setIfInBounds, if_pos (Nat.add_zero o).symm, if_pos hs]; rfl
    | succ i =>
      have := ih (o + 1) (cs.setIfInBounds o v) i (by simpa using h) (by rw [Array.size_setIfInBounds]; omega)
      rw [show o + (i + 1) = o + 1 + i by omega, this]; rfl
theorem setFrom_all (vs : List Value) (cs : Array Value) (h : cs.size = vs.length) : setFrom cs 0 vs = vs.toArray := by
  apply Array.ext_getElem?
  intro i
  by_cases hi : i < vs.length
  · have := setFrom_at vs 0 cs i hi (by omega)
    rw [Nat.zero_add] at this
    rw [this]; simp
  · rw [Array.getElem?_eq_none (by rw [setFrom_size]; omega), Array.getElem?_eq_none (by simp; omega)]
theorem setCells_heap {g : Nat} {t : TypeId} : ∀ (vs : List Value) (o : Nat) (w : World) (cs : Array Value), w.heap[g]? = some (.cells cs t (0, 0)) → (w.setCells g o vs).heap[g]? = some (.cells (setFrom cs o vs) t (0, 0))
  | [], o, w, cs, h => h
  | v :: vs, o, w, cs, h => setCells_heap vs (o + 1) _ _ (blk_set h o v)
/-- A whole struct is stored: behind it the world is any one of which the block holds what was stored, and all else is as it was. -/
theorem store_abs {P : Program} {ops : Array Oper} {Q : Exit → Act → World → Prop} {a : Act} {w : World} {rest : List Oper} {o : Oper} {ty : TypeId} {x y : Operand} {g e : Nat} {cur cells : Array Value} (hg : o.guard = none) (hd : o.dst = none) (ho : o.op = .store ty x y)
    (hx : a.eval x = .pointer (some ⟨g, 0, none⟩)) (hy : a.eval y = .agg cells) (hh : w.heap[g]? = some (.cells cur e (0, 0))) (ht : (P.info? ty).map (·.size) = some cells.size) (hfit : cells.toList.length = cur.toList.length) (h1 : cells.toList.all (·.oneCell') = true)
    (h : ∀ w', w'.heap[g]? = some (.cells cells e (0, 0)) → Sets g w w' → wpList P ops Q rest a w') : wpList P ops Q (o :: rest) a w :=
  store_event hg hd ho hx hy hh ht hfit h1 (h _ (by have := setCells_heap cells.toList 0 w cur hh; rw [setFrom_all _ _ (by simpa using hfit.symm)] at this; simpa using this) (Sets.cells g _ _ _))
theorem setCells_all {g : Nat} {t : TypeId} {w : World} {cs : Array Value} {vs : List Value} (h : w.heap[g]? = some (.cells cs t (0, 0))) (e : cs.size = vs.length) : (w.setCells g 0 vs).heap[g]? = some (.cells vs.toArray t (0, 0)) := by
  have := setCells_heap vs 0 w cs h
  rw [setFrom_all _ _ e] at this
  exact this
theorem setCells_allA {g : Nat} {t : TypeId} {w : World} {cs cells : Array Value} (h : w.heap[g]? = some (.cells cs t (0, 0))) (e : cs.size = cells.size) : (w.setCells g 0 cells.toList).heap[g]? = some (.cells cells t (0, 0)) := by
  have := setCells_all (vs := cells.toList) h (by rw [e]; simp)
  simpa using this
/-- A row of one's own that lies in no cell of that block. -/
theorem R_sets {α : Type} {d : Kd α} {e base g : Nat} {w w' : World} {ok : Nat → Prop} {v : Value} {xs : List α} (s : Sets g w w') (h : d.R e w base ok v xs) (hk : ∀ k, ok k → k ≠ g) : d.R e w' base ok v xs :=
  Kd.R_step h (fun k ho _ => s.block k (hk k ho))
end Go.Proofs.Ytnifhgackjkkbaa.Pre
