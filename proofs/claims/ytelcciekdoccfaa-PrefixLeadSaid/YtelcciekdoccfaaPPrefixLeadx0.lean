-- Written by mp.py, a program of this work (wip/tools), out of the translation; Lean checks it.
import Derived.Test.YtelcciekdoccfaaProg
import Derived.Below
import Derived.Deep.Draws
import Derived.Deep.AppendLies
import Derived.Maps.AppendAt
import Derived.OwnWalk
import Derived.Laws.BytesArg
import Derived.Laws.MakeOwn
import Derived.Laws.OwnMore
import Derived.Deep.OwnRows
import Derived.Tactics
import Derived.Lib.ConvBytes
import Derived.Laws.Slices
import Derived.WalkKit
import Derived.KernelRfl
import Derived.RowKit3
import Derived.Deep.LoopGhost
import Derived.Deep.QuietTactic
import Derived.BigQuiet
import Derived.WideLaws
import Derived.Deep.DeepCutAuto
import Derived.Deep.CutBlock
import Derived.Deep.RegionHeld3
import Derived.Laws.Rows
import Derived.Lib.AppendStr
import Derived.ArgAppend
import Derived.Laws.IdiomCopy
import Derived.OrdersHeld
import Derived.Laws.BitsLemmas
import Derived.RowKit
import Derived.Test.YtelcciekdoccfaaCopy
import Derived.Test.YtelcciekdoccfaaLenA
import Derived.Test.YtelcciekdoccfaaWWords
import Derived.Test.YtelcciekdoccfaaWLast
import Derived.Test.YtelcciekdoccfaaWTab
import Derived.Test.YtelcciekdoccfaaWFour
import Derived.Test.YtelcciekdoccfaaWQPut
import Derived.Test.YtelcciekdoccfaaWApart
import Derived.Test.YtelcciekdoccfaaWArr
import Derived.Test.YtelcciekdoccfaaWZeros
import Derived.Test.YtelcciekdoccfaaWFoot
import Derived.Test.YtelcciekdoccfaaWKept
import Derived.Test.YtelcciekdoccfaaWShare
import Derived.Test.YtelcciekdoccfaaWN
import Derived.Test.YtelcciekdoccfaaWFootNe
import Derived.Test.YtelcciekdoccfaaWAt
import Derived.Test.YtelcciekdoccfaaWEqStruct
import Derived.Test.YtelcciekdoccfaaWRepsOne
import Derived.Test.YtelcciekdoccfaaWInv
import Derived.Test.YtelcciekdoccfaaWInvWords
import Derived.Test.YtelcciekdoccfaaWGuard
import Derived.Test.YtelcciekdoccfaaWNEv
import Derived.Test.YtelcciekdoccfaaWMore
namespace Go.Proofs.Ytelcciekdoccfaa.PPrefixLead
open Go.RowKit Go.Proofs.YtelcciekdoccfaaW.PrintWords Go.Proofs.YtelcciekdoccfaaW.PrintLast Go.Proofs.YtelcciekdoccfaaW.PrintMore
attribute [local go_sem] max2_int min2_int max_two min_two max_three min_three max_four min_four   -- for this text's walks alone
set_option linter.unusedVariables false
set_option linter.unusedSimpArgs false



def errW : Option Int → Value
  | none => .nilIface
  | some c => .iface 0 (.int .i64 c)
theorem errW_none : errW none = .nilIface := rfl
theorem errW_some (c : Int) : errW (some c) = .iface 0 (.int .i64 c) := rfl

theorem info5 : (Try.prog.info? 5).map (fun i => (i.zero, i.size, i.bytes)) = some (some (.int .u8 0), 1, 1) := by kernel_rfl
-- the values' own types

end Go.Proofs.Ytelcciekdoccfaa.PPrefixLead
