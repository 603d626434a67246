-- Words of the print of the kit, cut to those in use by wip/tools/prune.py; Lean checks them.
import Derived.Test.YtccjakjjaemmkaaWInv
import Derived.Test.YtccjakjjaemmkaaWFootNe
namespace Go.Proofs.YtccjakjjaemmkaaW.PrintWords
open Go.RowKit
end Go.Proofs.YtccjakjjaemmkaaW.PrintWords
namespace Go.Proofs.YtccjakjjaemmkaaW.PrintLast
section
variable {ops : Array Oper} {a : Act} {o og : Oper} {g : Nat} {t : Tmp} {u : Bool}
end
end Go.Proofs.YtccjakjjaemmkaaW.PrintLast
