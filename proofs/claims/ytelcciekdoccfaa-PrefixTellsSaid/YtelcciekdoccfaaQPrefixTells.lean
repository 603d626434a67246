/-
What the parameters of roadbooklaw04.PrefixTells read as, and the one statement over numbers, texts and lists that is left of it.
-/
import Derived.Test.YtelcciekdoccfaaPPrefixTellsx
import Derived.Test.YtelcciekdoccfaaOpen
namespace Go.Proofs.Ytelcciekdoccfaa.PPrefixTells
open Go.RowKit Go.Proofs.YtelcciekdoccfaaW.PrintWords Go.Proofs.YtelcciekdoccfaaW.PrintLast Go.Proofs.Ytelcciekdoccfaa.Open
set_option linter.unusedVariables false
def good35 (b : S35) : Prop := ((b.f0).size ≤ 140737488351232) ∧ ((b.f1).size ≤ 140737488351232) ∧ ((Lit.int .i64 (b.f2)).wf = true) ∧ ((Lit.int .i64 (b.f3)).wf = true)
set_option maxRecDepth 100000 in
theorem o35 : Opn Try.prog 35 k35 good35 := Opn.struct Try.underlying35 (by kernel_rfl) (OpnF.cons rfl (Opn.string Try.underlying9 (by kernel_rfl)) (OpnF.cons rfl (Opn.string Try.underlying9 (by kernel_rfl)) (OpnF.cons rfl (Opn.int Try.underlying3 (by kernel_rfl)) (OpnF.last rfl (Opn.int Try.underlying3 (by kernel_rfl)))))) (fun x : S35 => (x.f0, x.f1, x.f2, x.f3)) (fun p => ⟨p.1, p.2.1, p.2.2.1, p.2.2.2⟩) (fun _ => rfl)
def roadbooklaw04_PrefixTells.Pure : Prop := ∀ (a0_0 : ByteArray) (a0_1 : ByteArray) (a0_2 : Int) (a0_3 : Int), (good35 ((⟨a0_0, a0_1, a0_2, a0_3⟩ : S35))) → ∃ k, roadbooklaw04_PrefixTells.f k a0_0 a0_1 a0_2 a0_3 = some true
end Go.Proofs.Ytelcciekdoccfaa.PPrefixTells
