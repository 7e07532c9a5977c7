-- Written by a program of this session out of the translation (wip/patch_print.py, wip/print2.sh). Lean checks it.
import Derived.Test.YtampkfchofijbaaProg
import Derived.Below
import Derived.Deep.Draws
import Derived.Deep.AppendLies
import Derived.Maps.AppendAt
import Derived.OwnWalk
import Derived.Laws.BytesArg
import Derived.Laws.MakeOwn
import Derived.Laws.OwnMore
import Derived.Deep.OwnRows
import Derived.Tactics
import Derived.Lib.ConvBytes
import Derived.Laws.Slices
import Derived.WalkKit
import Derived.KernelRfl
import Derived.RowKit3
import Derived.Deep.LoopGhost
import Derived.Deep.QuietTactic
import Derived.BigQuiet
import Derived.WideLaws
import Derived.Deep.DeepCutAuto
import Derived.Deep.CutBlock
import Derived.Deep.RegionHeld3
import Derived.Laws.Rows
import Derived.Lib.AppendStr
import Derived.ArgAppend
import Derived.Laws.IdiomCopy
import Derived.OrdersHeld
import Derived.Laws.BitsLemmas
import Derived.RowKit
import Derived.Lib.BitFns
import Derived.Lib.Small
import Derived.Lib.Walk
import Derived.Lib.Strings
import Derived.Lib.Slices
import Derived.Test.YtampkfchofijbaaWWords
import Derived.Test.YtampkfchofijbaaWLast
import Derived.Test.YtampkfchofijbaaWTab
import Derived.Test.YtampkfchofijbaaWFour
import Derived.Test.YtampkfchofijbaaWQPut
import Derived.Test.YtampkfchofijbaaWApart
import Derived.Test.YtampkfchofijbaaWArr
import Derived.Test.YtampkfchofijbaaWZeros
import Derived.Test.YtampkfchofijbaaWFoot
import Derived.Test.YtampkfchofijbaaWKept
import Derived.Test.YtampkfchofijbaaWShare
import Derived.Test.YtampkfchofijbaaWN
import Derived.Test.YtampkfchofijbaaWFootNe
import Derived.Test.YtampkfchofijbaaWAt
import Derived.Test.YtampkfchofijbaaWEqStruct
import Derived.Test.YtampkfchofijbaaWRepsOne
import Derived.Test.YtampkfchofijbaaWInv
import Derived.Test.YtampkfchofijbaaWInvWords
import Derived.Test.YtampkfchofijbaaWGuard
import Derived.Test.YtampkfchofijbaaWNEv
import Derived.Test.YtampkfchofijbaaWMore
namespace Go.Proofs.Ytampkfchofijbaa.G
open Go.RowKit Go.Proofs.YtampkfchofijbaaW.PrintWords Go.Proofs.YtampkfchofijbaaW.PrintLast Go.Proofs.YtampkfchofijbaaW.PrintMore
attribute [local go_sem] max2_int min2_int max_two min_two max_three min_three max_four min_four   -- for this text's walks alone
set_option linter.unusedVariables false
set_option linter.unusedSimpArgs false



def errW : Option Int → Value
  | none => .nilIface
  | some c => .iface 0 (.int .i64 c)
theorem errW_none : errW none = .nilIface := rfl
theorem errW_some (c : Int) : errW (some c) = .iface 0 (.int .i64 c) := rfl

-- the values' own types

end Go.Proofs.Ytampkfchofijbaa.G
