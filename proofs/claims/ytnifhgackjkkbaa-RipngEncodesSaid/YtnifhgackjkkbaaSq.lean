/-
An if whose test is decided, taken.
-/
import Derived.WalkKit
namespace Go.Proofs.Ytnifhgackjkkbaa.Sq
theorem itT {α : Sort _} {t e r : α} {d : Decidable (true = true)} (h : (@ite α (true = true) d t e) = r) : t = r := (if_pos rfl).symm.trans h
theorem itF {α : Sort _} {t e r : α} {d : Decidable (false = true)} (h : (@ite α (false = true) d t e) = r) : e = r := (if_neg Bool.false_ne_true).symm.trans h
end Go.Proofs.Ytnifhgackjkkbaa.Sq
