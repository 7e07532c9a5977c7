-- Written by a program of this session out of the translation (wip/patch_print.py, wip/print2.sh). Lean checks it.
import Derived.Test.YtemallghdmkpaaaGx0
import Derived.Test.YtemallghdmkpaaaGx1
import Derived.Test.YtemallghdmkpaaaGx12
import Derived.Test.YtemallghdmkpaaaGx13
import Derived.Test.YtemallghdmkpaaaGx17
import Derived.Test.YtemallghdmkpaaaGx18
import Derived.Test.YtemallghdmkpaaaGx19
import Derived.Test.YtemallghdmkpaaaGx20
import Derived.Test.YtemallghdmkpaaaGx21
import Derived.Test.YtemallghdmkpaaaGx22
namespace Go.Proofs.Ytemallghdmkpaaa.G
open Go.RowKit Go.Proofs.YtemallghdmkpaaaW.PrintWords Go.Proofs.YtemallghdmkpaaaW.PrintLast Go.Proofs.YtemallghdmkpaaaW.PrintMore
attribute [local go_sem] max2_int min2_int max_two min_two max_three min_three max_four min_four   -- for this text's walks alone
set_option linter.unusedVariables false
set_option linter.unusedSimpArgs false

end Go.Proofs.Ytemallghdmkpaaa.G
