-- Written by mp.py, a program of this work (wip/tools), out of the translation; Lean checks it.
import Derived.Test.YtelcciekdoccfaaPExtBackx0
import Derived.Test.YtelcciekdoccfaaPExtBackx1
import Derived.Test.YtelcciekdoccfaaPExtBackx2
import Derived.Test.YtelcciekdoccfaaPExtBackx3
import Derived.Test.YtelcciekdoccfaaPExtBackx4
import Derived.Test.YtelcciekdoccfaaPExtBackx5
import Derived.Test.YtelcciekdoccfaaPExtBackx6
import Derived.Test.YtelcciekdoccfaaPExtBackx7
namespace Go.Proofs.Ytelcciekdoccfaa.PExtBack
open Go.RowKit Go.Proofs.YtelcciekdoccfaaW.PrintWords Go.Proofs.YtelcciekdoccfaaW.PrintLast Go.Proofs.YtelcciekdoccfaaW.PrintMore
attribute [local go_sem] max2_int min2_int max_two min_two max_three min_three max_four min_four   -- for this text's walks alone
set_option linter.unusedVariables false
set_option linter.unusedSimpArgs false

end Go.Proofs.Ytelcciekdoccfaa.PExtBack
