-- Written by a program of this session out of the translation (wip/patch_print.py, wip/print2.sh). Lean checks it.
import Derived.Test.YtnagappcpmnkbaaGx0
import Derived.Test.YtnagappcpmnkbaaGx1
import Derived.Test.YtnagappcpmnkbaaGx2
import Derived.Test.YtnagappcpmnkbaaGx3
import Derived.Test.YtnagappcpmnkbaaGx4
import Derived.Test.YtnagappcpmnkbaaGx5
import Derived.Test.YtnagappcpmnkbaaGx6
import Derived.Test.YtnagappcpmnkbaaGx7
import Derived.Test.YtnagappcpmnkbaaGx8
import Derived.Test.YtnagappcpmnkbaaGx9
import Derived.Test.YtnagappcpmnkbaaGx10
import Derived.Test.YtnagappcpmnkbaaGx11
import Derived.Test.YtnagappcpmnkbaaGx13
namespace Go.Proofs.Ytnagappcpmnkbaa.G
open Go.RowKit Go.Proofs.YtnagappcpmnkbaaW.PrintWords Go.Proofs.YtnagappcpmnkbaaW.PrintLast Go.Proofs.YtnagappcpmnkbaaW.PrintMore
attribute [local go_sem] max2_int min2_int max_two min_two max_three min_three max_four min_four   -- for this text's walks alone
set_option linter.unusedVariables false
set_option linter.unusedSimpArgs false

end Go.Proofs.Ytnagappcpmnkbaa.G
