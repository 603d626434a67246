/-
A whole struct that is read in a region that draws its order: in one step.
-/
import Derived.Test.YtccjakjjaemmkaaStore
namespace Go.Proofs.Ytccjakjjaemmkaa.Pre
set_option linter.unusedVariables false
open Go.RowKit Go.Proofs.YtccjakjjaemmkaaW.PrintWords Go.Proofs.YtccjakjjaemmkaaW.PrintLast
/-- A whole struct is read in a region that draws. -/
theorem load_run {P : Program} {a : Act} {w : World} {o : Oper} {ty : TypeId} {x : Operand} {g e : Nat} {cs : Array Value} {d : TypeDesc} (ho : o.op = .load ty x)
    (hx : a.eval x = .pointer (some ⟨g, 0, none⟩)) (hh : w.heap[g]? = some (.cells cs e (0, 0))) (hu : P.underlying ty = some d) (hs : (match d with | .struct _ | .array _ _ => true | _ => false) = true) (ht : (P.info? ty).map (·.size) = some cs.size) :
    (execOp a.eval o).run P w = .ok (.value (.agg cs)) w := by
  unfold execOp
  simp only [ho, hx, Instr.loadAt, Instr.sureAddr, Sem.run_bind, Sem.run_pure, Result.andThen_ok, run_loadVar_row w g e ty cs (0, 0) d hh hu hs ht]
end Go.Proofs.Ytccjakjjaemmkaa.Pre
