-- Written by mp.py, a program of this work (wip/tools), out of the translation; Lean checks it.
import Derived.Test.YtccjakjjaemmkaaPAExZ
namespace Go.Proofs.Ytccjakjjaemmkaa.PAE
open Go.RowKit Go.Proofs.YtccjakjjaemmkaaW.PrintWords Go.Proofs.YtccjakjjaemmkaaW.PrintLast Go.Proofs.YtccjakjjaemmkaaW.PrintMore
attribute [local go_sem] max2_int min2_int max_two min_two max_three min_three max_four min_four   -- for this text's walks alone
set_option linter.unusedVariables false
set_option linter.unusedSimpArgs false

theorem eqA46 (d : Nat) (w : World) (x0 y0 : ByteArray) (x1 y1 : Int) :
  (Op.equalIn (d + 2) 46 (.agg #[.string x0, .int .i64 x1]) (.agg #[.string y0, .int .i64 y1])).run Try.prog w = .ok (x0.toList == y0.toList && (x1 == y1)) w := by
 refine eqA_of Try.underlying46 Z11 ?_
 refine eqf_cons Z14 Z30 Z30 Z54 ?_
 exact eqf_last Z14 Z30 Z30 Z54
theorem eqA48 (d : Nat) (w : World) (x0 y0 : Int) (x1 y1 : ByteArray) :
  (Op.equalIn (d + 2) 48 (.agg #[.int .i64 x0, .string x1]) (.agg #[.int .i64 y0, .string y1])).run Try.prog w = .ok (x0 == y0 && (x1.toList == y1.toList)) w := by
 refine eqA_of Try.underlying48 Z11 ?_
 refine eqf_cons Z14 Z30 Z30 Z54 ?_
 exact eqf_last Z14 Z30 Z30 Z54
end Go.Proofs.Ytccjakjjaemmkaa.PAE
