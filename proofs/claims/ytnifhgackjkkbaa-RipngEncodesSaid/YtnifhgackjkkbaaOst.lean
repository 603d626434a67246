/-
A field of a struct stored in a region that draws its order, while what is read of another block stays.
-/
import Derived.Test.YtnifhgackjkkbaaSqB
namespace Go.Proofs.Ytnifhgackjkkbaa.Sq
open Go.RowKit Go.Proofs.YtnifhgackjkkbaaW.PrintWords Go.Proofs.YtnifhgackjkkbaaW.PrintLast
set_option linter.unusedVariables false
section
variable {P : Program} {ops : Array Oper} {Q : Exit → Act → World → Prop} {md : Region.Mode} {S : World → Prop} {ds : List Nat}
theorem ost {T : Bool × List (List Nat × List Nat)} {oi : Oper} {fuel : Nat} {l : Array Bool} {a : Act} {W w0 : World} {gx gm t tm : Nat} {cs cm : Array Value} (i : Nat) (l' : Array Bool) (q : Nat) (v : Value) (hT : rtab md ops = T)
    (BX : Aside0 (W.heap[gx]? = some (.cells cs t (0, 0)))) (BM : Aside0 (W.heap[gm]? = some (.cells cm tm (0, 0)))) (HB : Aside0 (Below w0.heap.size w0 W)) (GE : Aside0 (w0.heap.size ≤ gx)) (NB : Aside0 (gm ≠ gx)) (hW : S W)
    (h : ∀ W', Aside0 (W'.heap[gx]? = some (.cells (cs.setIfInBounds q v) t (0, 0))) → Aside0 (W'.heap[gm]? = some (.cells cm tm (0, 0))) → Aside0 (Below w0.heap.size w0 W') → S W' → wpAnyLast P md ops Q S ds fuel l' a W')
    (hi : ops[i]? = some oi := by rfl) (hN : oi.dst = none := by rfl) (hc : (readyT T.2 l.toList == [i] && l.toList.set i true == l'.toList) = true := by kernel_rfl) (hd : i ∉ ds := by decide)
    (hw : Region.wanted oi (yielded ops a.tmps) = true := by rfl) (hq : cs[q]?.isSome = true := by rfl)
    (hS : ∀ W', (∀ j, W'.cell? ⟨gm, j, none⟩ = W.cell? ⟨gm, j, none⟩) → S W → S W' := by intro _ e_ hs_; simp only [e_]; exact hs_)
    (hr : ∀ old, W.cell? ⟨gx, q, none⟩ = some old → W.frozen? ⟨gx, q, none⟩ = false → (execOp a.eval oi).run P W = .ok .skip (W.setCell ⟨gx, q, none⟩ v) := by intro old_ hs_ hf_; first | (go_simp; done) | (go_simp; rfl)) : wpAnyLast P md ops Q S ds (fuel + 1) l a W := by
  obtain ⟨old, ho⟩ := Option.isSome_iff_exists.mp hq
  refine one_ (i := i) (N := none) l' hi hN (one_of hT hc) hd (fun K hK => ?_)
  refine skip_ hw hN (hr old ((blk_cell BX.out q).trans ho) (blk_frozen BX.out q)) ?_
  refine hK.out _ _ (hS _ (fun j => cell_far (p := ⟨gx, q, none⟩) NB.out _) hW) (fun hs => ?_)
  exact h _ ⟨blk_set BX.out q v⟩ ⟨blk_far (p := ⟨gx, q, none⟩) BM.out NB.out v⟩ ⟨below_set (g := gx) (j := q) (v := v) HB.out GE.out⟩ hs
end
end Go.Proofs.Ytnifhgackjkkbaa.Sq
