-- Written by a program of this session out of the translation (wip/patch_print.py, wip/print2.sh). Lean checks it.
import Derived.Test.YtampkfchofijbaaGx0
import Derived.Test.YtampkfchofijbaaGx1
import Derived.Test.YtampkfchofijbaaGx2
import Derived.Test.YtampkfchofijbaaGx3
import Derived.Test.YtampkfchofijbaaGx4
import Derived.Test.YtampkfchofijbaaGx5
import Derived.Test.YtampkfchofijbaaGx6
import Derived.Test.YtampkfchofijbaaGx7
namespace Go.Proofs.Ytampkfchofijbaa.G
open Go.RowKit Go.Proofs.YtampkfchofijbaaW.PrintWords Go.Proofs.YtampkfchofijbaaW.PrintLast Go.Proofs.YtampkfchofijbaaW.PrintMore
attribute [local go_sem] max2_int min2_int max_two min_two max_three min_three max_four min_four   -- for this text's walks alone
set_option linter.unusedVariables false
set_option linter.unusedSimpArgs false

end Go.Proofs.Ytampkfchofijbaa.G
