-- Written by mp.py, a program of this work (wip/tools), out of the translation; Lean checks it.
import Derived.Test.YtbpclinffgedjaaPRteBackx0
import Derived.Test.YtbpclinffgedjaaPRteBackx1
import Derived.Test.YtbpclinffgedjaaPRteBackx2
import Derived.Test.YtbpclinffgedjaaPRteBackx3
namespace Go.Proofs.Ytbpclinffgedjaa.PRteBack
open Go.RowKit Go.Proofs.YtbpclinffgedjaaW.PrintWords Go.Proofs.YtbpclinffgedjaaW.PrintLast Go.Proofs.YtbpclinffgedjaaW.PrintMore
attribute [local go_sem] max2_int min2_int max_two min_two max_three min_three max_four min_four   -- for this text's walks alone
set_option linter.unusedVariables false
set_option linter.unusedSimpArgs false

end Go.Proofs.Ytbpclinffgedjaa.PRteBack
