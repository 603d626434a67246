/-
A literal of one element that leads to what came in: what it reads as.
-/
import Derived.Test.YtccjakjjaemmkaaSqB
namespace Go.Proofs.Ytccjakjjaemmkaa.Sq
open Go.RowKit Go.Proofs.YtccjakjjaemmkaaW.PrintWords Go.Proofs.YtccjakjjaemmkaaW.PrintLast
set_option linter.unusedVariables false
section
variable {P : Program} {ops : Array Oper} {rest : List Oper} {o : Oper} {a : Act} {Q : Exit → Act → World → Prop} {α : Type}
theorem lit1 {d : Kd α} {W : World} {x : α} {inner : List Value} (e : TypeId) (N : Tmp) (xs : List α) (hx : xs = [x]) (hk : d.K W x inner) 
    (h : ∀ A c w1, (xs.length ≤ c ∧ d.C w1 A xs.length xs) → Below W.heap.size W w1 → wpList P ops Q rest (a.put o.dst (.slice A xs.length c)) w1)
    (hgd : o.guard = none := by rfl) (hd : o.dst = some N := by rfl)
    (hrun : (execOp a.eval o).run P W = .ok (.value (.slice (some ⟨W.heap.size, 0, none⟩) 1 1)) (W.alloc (.cells inner.toArray e)) := by first | (go_simp; done) | (go_simp; rfl)) : wpList P ops Q (o :: rest) a W := by
  subst hx
  have hb : Below W.heap.size W (W.alloc (.cells inner.toArray e)) := below_alloc (Below.refl _ _) _
  refine Kd.event_run hgd hrun (h _ _ _ ⟨Nat.le_refl _, rfl, by simp, fun _ => ⟨_, rfl, fun j p hj => ?_⟩⟩ hb)
  have hj0 : j = 0 := by
    by_cases c : j = 0
    · exact c
    · rw [List.getElem?_eq_none (by simp; omega)] at hj; exact absurd hj (by simp)
  subst hj0
  obtain rfl : x = p := by simpa using hj
  refine ⟨inner, d.K_len hk, d.K_below hb hk, fun i u hu => ?_⟩
  have hc := blk_cell (w := W.alloc (.cells inner.toArray e)) (blk_new W _) i
  rw [show (Addr.add ⟨W.heap.size, 0, none⟩ (0 * d.sz + i)) = ⟨W.heap.size, i, none⟩ by simp [Addr.add]; exact fun h => h.symm]
  rw [hc]
  simpa using hu
end
end Go.Proofs.Ytccjakjjaemmkaa.Sq
