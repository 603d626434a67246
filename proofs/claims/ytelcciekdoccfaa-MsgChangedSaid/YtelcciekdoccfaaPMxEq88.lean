-- Written by mp.py, a program of this work (wip/tools), out of the translation; Lean checks it.
import Derived.Test.YtelcciekdoccfaaPMxZ
namespace Go.Proofs.Ytelcciekdoccfaa.PM
open Go.RowKit Go.Proofs.YtelcciekdoccfaaW.PrintWords Go.Proofs.YtelcciekdoccfaaW.PrintLast Go.Proofs.YtelcciekdoccfaaW.PrintMore
attribute [local go_sem] max2_int min2_int max_two min_two max_three min_three max_four min_four   -- for this text's walks alone
set_option linter.unusedVariables false
set_option linter.unusedSimpArgs false

theorem eqA88 (d : Nat) (w : World) (x0 y0 : Int) (x1 y1 : Int) (x2 y2 : Int) (x3 y3 : Int) (x4 y4 : Int) (x5 y5 : Int) (x6 y6 : Int) (x7 y7 : Int) (x8 y8 : Int) (x9 y9 : Int) (hH eg : Int) (fM eh : Int) (fS ei : Int) (ej ek : Int) (iC el : Int) (iD em : Int) (iE en : ByteArray) (iF eo : ByteArray) (iG ep : ByteArray) (iH er : ByteArray) (iI es : ByteArray) (iJ et : ByteArray) (iK eu : ByteArray) :
  (Op.equalIn (d + 2) 88 (.agg #[.int .i64 x0, .int .i64 x1, .int .i64 x2, .int .i64 x3, .int .i64 x4, .int .i64 x5, .int .i64 x6, .int .i64 x7, .int .i64 x8, .int .i64 x9, .int .i64 hH, .int .i64 fM, .int .i64 fS, .int .i64 ej, .int .i64 iC, .int .i64 iD, .string iE, .string iF, .string iG, .string iH, .string iI, .string iJ, .string iK]) (.agg #[.int .i64 y0, .int .i64 y1, .int .i64 y2, .int .i64 y3, .int .i64 y4, .int .i64 y5, .int .i64 y6, .int .i64 y7, .int .i64 y8, .int .i64 y9, .int .i64 eg, .int .i64 eh, .int .i64 ei, .int .i64 ek, .int .i64 el, .int .i64 em, .string en, .string eo, .string ep, .string er, .string es, .string et, .string eu])).run Try.prog w = .ok (x0 == y0 && (x1 == y1 && (x2 == y2 && (x3 == y3 && (x4 == y4 && (x5 == y5 && (x6 == y6 && (x7 == y7 && (x8 == y8 && (x9 == y9 && (hH == eg && (fM == eh && (fS == ei && (ej == ek && (iC == el && (iD == em && (iE.toList == en.toList && (iF.toList == eo.toList && (iG.toList == ep.toList && (iH.toList == er.toList && (iI.toList == es.toList && (iJ.toList == et.toList && (iK.toList == eu.toList))))))))))))))))))))))) w := by
 refine eqA_of Try.underlying88 Z5 ?_
 refine eqf_cons Z13 Z14 Z14 Z28 ?_
 refine eqf_cons Z13 Z14 Z14 Z28 ?_
 refine eqf_cons Z13 Z14 Z14 Z28 ?_
 refine eqf_cons Z13 Z14 Z14 Z28 ?_
 refine eqf_cons Z13 Z14 Z14 Z28 ?_
 refine eqf_cons Z13 Z14 Z14 Z28 ?_
 refine eqf_cons Z13 Z14 Z14 Z28 ?_
 refine eqf_cons Z13 Z14 Z14 Z28 ?_
 refine eqf_cons Z13 Z14 Z14 Z28 ?_
 refine eqf_cons Z13 Z14 Z14 Z28 ?_
 refine eqf_cons Z13 Z14 Z14 Z28 ?_
 refine eqf_cons Z13 Z14 Z14 Z28 ?_
 refine eqf_cons Z13 Z14 Z14 Z28 ?_
 refine eqf_cons Z13 Z14 Z14 Z28 ?_
 refine eqf_cons Z13 Z14 Z14 Z28 ?_
 refine eqf_cons Z13 Z14 Z14 Z28 ?_
 refine eqf_cons Z13 Z14 Z14 Z28 ?_
 refine eqf_cons Z13 Z14 Z14 Z28 ?_
 refine eqf_cons Z13 Z14 Z14 Z28 ?_
 refine eqf_cons Z13 Z14 Z14 Z28 ?_
 refine eqf_cons Z13 Z14 Z14 Z28 ?_
 refine eqf_cons Z13 Z14 Z14 Z28 ?_
 exact eqf_last Z13 Z14 Z14 Z28
end Go.Proofs.Ytelcciekdoccfaa.PM
