-- Written by a program of this session out of the translation (wip/patch_print.py, wip/print2.sh). Lean checks it.
import Derived.Test.YtdflbfgmbcgljaaGx0
import Derived.Test.YtdflbfgmbcgljaaGx1
import Derived.Test.YtdflbfgmbcgljaaGx2
import Derived.Test.YtdflbfgmbcgljaaGx3
import Derived.Test.YtdflbfgmbcgljaaGx4
import Derived.Test.YtdflbfgmbcgljaaGx5
import Derived.Test.YtdflbfgmbcgljaaGx6
import Derived.Test.YtdflbfgmbcgljaaGx7
import Derived.Test.YtdflbfgmbcgljaaGx8
import Derived.Test.YtdflbfgmbcgljaaGx9
import Derived.Test.YtdflbfgmbcgljaaGx10
namespace Go.Proofs.Ytdflbfgmbcgljaa.G
open Go.RowKit Go.Proofs.YtdflbfgmbcgljaaW.PrintWords Go.Proofs.YtdflbfgmbcgljaaW.PrintLast Go.Proofs.YtdflbfgmbcgljaaW.PrintMore
attribute [local go_sem] max2_int min2_int max_two min_two max_three min_three max_four min_four   -- for this text's walks alone
set_option linter.unusedVariables false
set_option linter.unusedSimpArgs false

end Go.Proofs.Ytdflbfgmbcgljaa.G
