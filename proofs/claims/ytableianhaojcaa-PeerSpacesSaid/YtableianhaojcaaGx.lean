-- Written by a program of this session out of the translation (wip/patch_print.py, wip/print2.sh). Lean checks it.
import Derived.Test.YtableianhaojcaaGx0
import Derived.Test.YtableianhaojcaaGx1
import Derived.Test.YtableianhaojcaaGx2
import Derived.Test.YtableianhaojcaaGx3
import Derived.Test.YtableianhaojcaaGx4
import Derived.Test.YtableianhaojcaaGx5
import Derived.Test.YtableianhaojcaaGx12
import Derived.Test.YtableianhaojcaaGx13
import Derived.Test.YtableianhaojcaaGx14
import Derived.Test.YtableianhaojcaaGx15
import Derived.Test.YtableianhaojcaaGx16
import Derived.Test.YtableianhaojcaaGx17
import Derived.Test.YtableianhaojcaaGx19
import Derived.Test.YtableianhaojcaaGx31
import Derived.Test.YtableianhaojcaaGx32
import Derived.Test.YtableianhaojcaaGx33
namespace Go.Proofs.Ytableianhaojcaa.G
open Go.RowKit Go.Proofs.YtableianhaojcaaW.PrintWords Go.Proofs.YtableianhaojcaaW.PrintLast Go.Proofs.YtableianhaojcaaW.PrintMore
attribute [local go_sem] max2_int min2_int max_two min_two max_three min_three max_four min_four   -- for this text's walks alone
set_option linter.unusedVariables false
set_option linter.unusedSimpArgs false

end Go.Proofs.Ytableianhaojcaa.G
