/-
What the parameters of roadbooklaw13.ExtBack read as, and the one statement over numbers, texts and lists that is left of it.
-/
import Derived.Test.YtelcciekdoccfaaPExtBackx
import Derived.Test.YtelcciekdoccfaaOpen
namespace Go.Proofs.Ytelcciekdoccfaa.PExtBack
open Go.RowKit Go.Proofs.YtelcciekdoccfaaW.PrintWords Go.Proofs.YtelcciekdoccfaaW.PrintLast Go.Proofs.Ytelcciekdoccfaa.Open
set_option linter.unusedVariables false
def good63 (b : S63) : Prop := ((Lit.int .i64 (b.f0)).wf = true) ∧ ((b.f1).size ≤ 140737488351232)
set_option maxRecDepth 100000 in
theorem o63 : Opn Try.prog 63 k63 good63 := Opn.struct Try.underlying63 (by kernel_rfl) (OpnF.cons rfl (Opn.int Try.underlying3 (by kernel_rfl)) (OpnF.last rfl (Opn.string Try.underlying9 (by kernel_rfl)))) (fun x : S63 => (x.f0, x.f1)) (fun p => ⟨p.1, p.2⟩) (fun _ => rfl)
def roadbooklaw13_ExtBack.Pure : Prop := ∀ (l0 : List (S63)) (a1 : ByteArray), (((l0).length * 24 ≤ 140737488351232 ∧ ∀ x ∈ l0, good63 x)) → ((a1).size ≤ 140737488351232) → ∃ k, roadbooklaw13_ExtBack.f k l0 a1 = some true
end Go.Proofs.Ytelcciekdoccfaa.PExtBack
