-- Written by a program of this session out of the translation (wip/patch_print.py, wip/print2.sh). Lean checks it.
import Derived.Test.YtmniekljfhecaaaGx0
import Derived.Test.YtmniekljfhecaaaGx1
import Derived.Test.YtmniekljfhecaaaGx2
import Derived.Test.YtmniekljfhecaaaGx3
import Derived.Test.YtmniekljfhecaaaGx4
import Derived.Test.YtmniekljfhecaaaGx8
import Derived.Test.YtmniekljfhecaaaGx10
import Derived.Test.YtmniekljfhecaaaGx11
import Derived.Test.YtmniekljfhecaaaGx12
namespace Go.Proofs.Ytmniekljfhecaaa.G
open Go.RowKit Go.Proofs.YtmniekljfhecaaaW.PrintWords Go.Proofs.YtmniekljfhecaaaW.PrintLast Go.Proofs.YtmniekljfhecaaaW.PrintMore
attribute [local go_sem] max2_int min2_int max_two min_two max_three min_three max_four min_four   -- for this text's walks alone
set_option linter.unusedVariables false
set_option linter.unusedSimpArgs false

end Go.Proofs.Ytmniekljfhecaaa.G
