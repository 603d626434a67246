/-
What the parameters of roadbooklaw11.RteBack read as, and the one statement over numbers, texts and lists that is left of it.
-/
import Derived.Test.YtbpclinffgedjaaPRteBackx
import Derived.Test.YtbpclinffgedjaaOpen
namespace Go.Proofs.Ytbpclinffgedjaa.PRteBack
open Go.RowKit Go.Proofs.YtbpclinffgedjaaW.PrintWords Go.Proofs.YtbpclinffgedjaaW.PrintLast Go.Proofs.Ytbpclinffgedjaa.Open
set_option linter.unusedVariables false
def good23 (b : S23) : Prop := ((Lit.int .i64 (b.f0)).wf = true) ∧ ((Lit.int .i64 (b.f1)).wf = true) ∧ ((b.f2).size ≤ 140737488351232) ∧ ((b.f3).size ≤ 140737488351232) ∧ ((b.f4).size ≤ 140737488351232) ∧ ((Lit.int .i64 (b.f5)).wf = true)
set_option maxRecDepth 100000 in
theorem o23 : Opn Try.prog 23 k23 good23 := Opn.struct Try.underlying23 (by kernel_rfl) (OpnF.cons rfl (Opn.int Try.underlying3 (by kernel_rfl)) (OpnF.cons rfl (Opn.int Try.underlying3 (by kernel_rfl)) (OpnF.cons rfl (Opn.string Try.underlying9 (by kernel_rfl)) (OpnF.cons rfl (Opn.string Try.underlying9 (by kernel_rfl)) (OpnF.cons rfl (Opn.string Try.underlying9 (by kernel_rfl)) (OpnF.last rfl (Opn.int Try.underlying3 (by kernel_rfl)))))))) (fun x : S23 => (x.f0, x.f1, x.f2, x.f3, x.f4, x.f5)) (fun p => ⟨p.1, p.2.1, p.2.2.1, p.2.2.2.1, p.2.2.2.2.1, p.2.2.2.2.2⟩) (fun _ => rfl)
def roadbooklaw11_RteBack.Pure : Prop := ∀ (a0 : ByteArray) (a1_0 : Int) (a1_1 : Int) (a1_2 : ByteArray) (a1_3 : ByteArray) (a1_4 : ByteArray) (a1_5 : Int), ((a0).size ≤ 140737488351232) → (good23 ((⟨a1_0, a1_1, a1_2, a1_3, a1_4, a1_5⟩ : S23))) → ∃ k, roadbooklaw11_RteBack.f k a0 a1_0 a1_1 a1_2 a1_3 a1_4 a1_5 = some true
end Go.Proofs.Ytbpclinffgedjaa.PRteBack
