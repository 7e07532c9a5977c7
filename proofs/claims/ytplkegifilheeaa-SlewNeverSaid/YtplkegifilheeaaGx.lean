-- Written by a program of this session out of the translation (wip/patch_print.py, wip/print2.sh). Lean checks it.
import Derived.Test.YtplkegifilheeaaGx0
import Derived.Test.YtplkegifilheeaaGx1
import Derived.Test.YtplkegifilheeaaGx2
import Derived.Test.YtplkegifilheeaaGx3
import Derived.Test.YtplkegifilheeaaGx4
import Derived.Test.YtplkegifilheeaaGx5
import Derived.Test.YtplkegifilheeaaGx6
namespace Go.Proofs.Ytplkegifilheeaa.G
open Go.RowKit Go.Proofs.YtplkegifilheeaaW.PrintWords Go.Proofs.YtplkegifilheeaaW.PrintLast Go.Proofs.YtplkegifilheeaaW.PrintMore
attribute [local go_sem] max2_int min2_int max_two min_two max_three min_three max_four min_four   -- for this text's walks alone
set_option linter.unusedVariables false
set_option linter.unusedSimpArgs false

end Go.Proofs.Ytplkegifilheeaa.G
