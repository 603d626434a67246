-- Words of the print of the kit, cut to those in use by wip/tools/prune.py; Lean checks them.
import Derived.Test.YtccjakjjaemmkaaWN
/-! ### 52. A row that stays read whatever happens to a block (a set of blocks) doesn't lie there -/
namespace Go.Proofs.YtccjakjjaemmkaaW.PrintWords
open Go.RowKit
namespace Kd
section
variable {α : Type} {d : Kd α} {W : World} {g n : Nat} {S ok : Nat → Prop} {A : Option Addr} {ad : Addr} {xs : List α}
end
end Kd
end Go.Proofs.YtccjakjjaemmkaaW.PrintWords
