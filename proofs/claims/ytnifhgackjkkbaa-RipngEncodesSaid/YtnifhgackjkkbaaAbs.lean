/-
Behind a region that draws its order and has stored a whole struct: the world gets a name.
-/
import Derived.Test.YtnifhgackjkkbaaStore
namespace Go.Proofs.Ytnifhgackjkkbaa.Pre
set_option linter.unusedVariables false
open Go.RowKit Go.Proofs.YtnifhgackjkkbaaW.PrintWords Go.Proofs.YtnifhgackjkkbaaW.PrintLast
theorem abs_end {Q : Exit → Act → World → Prop} {e : Exit} {a : Act} {w : World} {g : Nat} {t : TypeId} {cs cells : Array Value} (hh : w.heap[g]? = some (.cells cs t (0, 0))) (hs : cs.size = cells.size)
    (h : ∀ w', w'.heap[g]? = some (.cells cells t (0, 0)) → Sets g w w' → Q e a w') : Q e a (w.setCells g 0 cells.toList) := h _ (setCells_allA hh hs) (Sets.cells g _ _ _)
end Go.Proofs.Ytnifhgackjkkbaa.Pre
