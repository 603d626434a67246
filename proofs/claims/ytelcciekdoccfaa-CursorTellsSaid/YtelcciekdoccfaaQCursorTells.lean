/-
What the parameters of roadbooklaw01.CursorTells read as, and the one statement over numbers, texts and lists that is left of it.
-/
import Derived.Test.YtelcciekdoccfaaPCursorTellsx
import Derived.Test.YtelcciekdoccfaaOpen
namespace Go.Proofs.Ytelcciekdoccfaa.PCursorTells
open Go.RowKit Go.Proofs.YtelcciekdoccfaaW.PrintWords Go.Proofs.YtelcciekdoccfaaW.PrintLast Go.Proofs.Ytelcciekdoccfaa.Open
set_option linter.unusedVariables false
def good28 (b : S28) : Prop := ((b.f0).size ≤ 140737488351232) ∧ ((Lit.int .i64 (b.f1)).wf = true) ∧ ((Lit.int .i64 (b.f2)).wf = true) ∧ (True)
set_option maxRecDepth 100000 in
theorem o28 : Opn Try.prog 28 k28 good28 := Opn.struct Try.underlying28 (by kernel_rfl) (OpnF.cons rfl (Opn.string Try.underlying9 (by kernel_rfl)) (OpnF.cons rfl (Opn.int Try.underlying3 (by kernel_rfl)) (OpnF.cons rfl (Opn.int Try.underlying3 (by kernel_rfl)) (OpnF.last rfl (Opn.bool Try.underlying4 (by kernel_rfl)))))) (fun x : S28 => (x.f0, x.f1, x.f2, x.f3)) (fun p => ⟨p.1, p.2.1, p.2.2.1, p.2.2.2⟩) (fun _ => rfl)
def roadbooklaw01_CursorTells.Pure : Prop := ∀ (a0_0 : ByteArray) (a0_1 : Int) (a0_2 : Int) (a0_3 : Bool) (a1 : Int), (good28 ((⟨a0_0, a0_1, a0_2, a0_3⟩ : S28))) → ((Lit.int .i64 (a1)).wf = true) → ∃ k, roadbooklaw01_CursorTells.f k a0_0 a0_1 a0_2 a0_3 a1 = some true
end Go.Proofs.Ytelcciekdoccfaa.PCursorTells
