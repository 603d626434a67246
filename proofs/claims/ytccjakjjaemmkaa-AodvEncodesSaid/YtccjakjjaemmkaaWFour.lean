-- Words of the print of the kit, cut to those in use by wip/tools/prune.py; Lean checks them.
import Derived.Test.YtccjakjjaemmkaaWTab
/-! ### 56. Four, five, six operations that may come up next, in any order -/
namespace Go.Proofs.YtccjakjjaemmkaaW.PrintLast
section
variable {P : Program} {ops : Array Oper} {Q : Exit → Act → World → Prop} {md : Region.Mode} {S : World → Prop} {ds : List Nat} {T : Bool × List (List Nat × List Nat)}
end
end Go.Proofs.YtccjakjjaemmkaaW.PrintLast
