-- Written by mp.py, a program of this work (wip/tools), out of the translation; Lean checks it.
import Derived.Test.YtbpclinffgedjaaProg
import Derived.Below
import Derived.Deep.Draws
import Derived.Deep.AppendLies
import Derived.Maps.AppendAt
import Derived.OwnWalk
import Derived.Laws.BytesArg
import Derived.Laws.MakeOwn
import Derived.Laws.OwnMore
import Derived.Deep.OwnRows
import Derived.Tactics
import Derived.Lib.ConvBytes
import Derived.Laws.Slices
import Derived.WalkKit
import Derived.KernelRfl
import Derived.RowKit3
import Derived.Deep.LoopGhost
import Derived.Deep.QuietTactic
import Derived.BigQuiet
import Derived.WideLaws
import Derived.Deep.DeepCutAuto
import Derived.Deep.CutBlock
import Derived.Deep.RegionHeld3
import Derived.Laws.Rows
import Derived.Lib.AppendStr
import Derived.ArgAppend
import Derived.Laws.IdiomCopy
import Derived.OrdersHeld
import Derived.Laws.BitsLemmas
import Derived.RowKit
import Derived.Test.YtbpclinffgedjaaLenB
import Derived.Test.YtbpclinffgedjaaWWords
import Derived.Test.YtbpclinffgedjaaWLast
import Derived.Test.YtbpclinffgedjaaWTab
import Derived.Test.YtbpclinffgedjaaWFour
import Derived.Test.YtbpclinffgedjaaWQPut
import Derived.Test.YtbpclinffgedjaaWApart
import Derived.Test.YtbpclinffgedjaaWArr
import Derived.Test.YtbpclinffgedjaaWZeros
import Derived.Test.YtbpclinffgedjaaWFoot
import Derived.Test.YtbpclinffgedjaaWKept
import Derived.Test.YtbpclinffgedjaaWShare
import Derived.Test.YtbpclinffgedjaaWN
import Derived.Test.YtbpclinffgedjaaWFootNe
import Derived.Test.YtbpclinffgedjaaWAt
import Derived.Test.YtbpclinffgedjaaWEqStruct
import Derived.Test.YtbpclinffgedjaaWRepsOne
import Derived.Test.YtbpclinffgedjaaWInv
import Derived.Test.YtbpclinffgedjaaWInvWords
import Derived.Test.YtbpclinffgedjaaWGuard
import Derived.Test.YtbpclinffgedjaaWNEv
import Derived.Test.YtbpclinffgedjaaWMore
namespace Go.Proofs.Ytbpclinffgedjaa.PMaskBack
open Go.RowKit Go.Proofs.YtbpclinffgedjaaW.PrintWords Go.Proofs.YtbpclinffgedjaaW.PrintLast Go.Proofs.YtbpclinffgedjaaW.PrintMore
attribute [local go_sem] max2_int min2_int max_two min_two max_three min_three max_four min_four   -- for this text's walks alone
set_option linter.unusedVariables false
set_option linter.unusedSimpArgs false



def errW : Option Int → Value
  | none => .nilIface
  | some c => .iface 0 (.int .i64 c)
theorem errW_none : errW none = .nilIface := rfl
theorem errW_some (c : Int) : errW (some c) = .iface 0 (.int .i64 c) := rfl

theorem info5 : (Try.prog.info? 5).map (fun i => (i.zero, i.size, i.bytes)) = some (some (.int .u8 0), 1, 1) := by kernel_rfl
-- the values' own types

end Go.Proofs.Ytbpclinffgedjaa.PMaskBack
