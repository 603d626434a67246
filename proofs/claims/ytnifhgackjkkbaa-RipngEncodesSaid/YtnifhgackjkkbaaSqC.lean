/-
Shorter words for the proofs that more rounds tell no less.
-/
import Derived.Test.YtnifhgackjkkbaaSqB
namespace Go.Proofs.Ytnifhgackjkkbaa.Sq
open Go.RowKit Go.Proofs.YtnifhgackjkkbaaW.PrintWords Go.Proofs.YtnifhgackjkkbaaW.PrintLast
set_option linter.unusedVariables false
theorem mo {α : Type} {a b : Option α} (h : LeO a b := by repeat' first | (with_reducible first | exact ih0 .. | exact ih1 .. | exact ih2 .. | exact ih3 .. | exact ih4 .. | exact ih5 .. | exact ih6 .. | exact ih7 .. | exact m0 .. | exact m1 .. | exact m2 .. | exact m3 .. | exact m4 .. | exact LeO.refl _ | exact LeO.none _ | refine LeO.ite ?_ ?_ | refine LeO.bind ?_ (fun _ => ?_)) | first | exact ih0 .. | exact ih1 .. | exact ih2 .. | exact ih3 .. | exact m0 .. | exact m1 .. | exact m2 .. | exact m3 .. | exact m4 .. | exact LeO.none _ | refine LeO.ite ?_ ?_ | refine LeO.bind ?_ (fun _ => ?_)) : LeO a b := h
theorem mz {P : Prop} (h : P := by intros; exact LeO.none _) : P := h
end Go.Proofs.Ytnifhgackjkkbaa.Sq
