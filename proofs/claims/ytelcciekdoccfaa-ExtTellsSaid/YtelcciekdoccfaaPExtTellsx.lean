-- Written by mp.py, a program of this work (wip/tools), out of the translation; Lean checks it.
import Derived.Test.YtelcciekdoccfaaPExtTellsx0
import Derived.Test.YtelcciekdoccfaaPExtTellsx1
import Derived.Test.YtelcciekdoccfaaPExtTellsx2
import Derived.Test.YtelcciekdoccfaaPExtTellsx3
import Derived.Test.YtelcciekdoccfaaPExtTellsx4
import Derived.Test.YtelcciekdoccfaaPExtTellsx5
import Derived.Test.YtelcciekdoccfaaPExtTellsx6
import Derived.Test.YtelcciekdoccfaaPExtTellsx7
import Derived.Test.YtelcciekdoccfaaPExtTellsx8
namespace Go.Proofs.Ytelcciekdoccfaa.PExtTells
open Go.RowKit Go.Proofs.YtelcciekdoccfaaW.PrintWords Go.Proofs.YtelcciekdoccfaaW.PrintLast Go.Proofs.YtelcciekdoccfaaW.PrintMore
attribute [local go_sem] max2_int min2_int max_two min_two max_three min_three max_four min_four   -- for this text's walks alone
set_option linter.unusedVariables false
set_option linter.unusedSimpArgs false

end Go.Proofs.Ytelcciekdoccfaa.PExtTells
