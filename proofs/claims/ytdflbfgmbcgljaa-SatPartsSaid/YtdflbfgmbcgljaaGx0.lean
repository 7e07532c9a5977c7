-- Written by a program of this session out of the translation (wip/patch_print.py, wip/print2.sh). Lean checks it.
import Derived.Test.YtdflbfgmbcgljaaProg
import Derived.Below
import Derived.Deep.Draws
import Derived.Deep.AppendLies
import Derived.Maps.AppendAt
import Derived.OwnWalk
import Derived.Laws.BytesArg
import Derived.Laws.MakeOwn
import Derived.Laws.OwnMore
import Derived.Deep.OwnRows
import Derived.Tactics
import Derived.Lib.ConvBytes
import Derived.Laws.Slices
import Derived.WalkKit
import Derived.KernelRfl
import Derived.RowKit3
import Derived.Deep.LoopGhost
import Derived.Deep.QuietTactic
import Derived.BigQuiet
import Derived.WideLaws
import Derived.Deep.DeepCutAuto
import Derived.Deep.CutBlock
import Derived.Deep.RegionHeld3
import Derived.Laws.Rows
import Derived.Lib.AppendStr
import Derived.ArgAppend
import Derived.Laws.IdiomCopy
import Derived.OrdersHeld
import Derived.Laws.BitsLemmas
import Derived.RowKit
import Derived.Lib.BitFns
import Derived.Lib.Small
import Derived.Lib.Walk
import Derived.Lib.Strings
import Derived.Lib.Slices
import Derived.Test.YtdflbfgmbcgljaaWWords
import Derived.Test.YtdflbfgmbcgljaaWLast
import Derived.Test.YtdflbfgmbcgljaaWTab
import Derived.Test.YtdflbfgmbcgljaaWFour
import Derived.Test.YtdflbfgmbcgljaaWQPut
import Derived.Test.YtdflbfgmbcgljaaWApart
import Derived.Test.YtdflbfgmbcgljaaWArr
import Derived.Test.YtdflbfgmbcgljaaWZeros
import Derived.Test.YtdflbfgmbcgljaaWFoot
import Derived.Test.YtdflbfgmbcgljaaWKept
import Derived.Test.YtdflbfgmbcgljaaWShare
import Derived.Test.YtdflbfgmbcgljaaWN
import Derived.Test.YtdflbfgmbcgljaaWFootNe
import Derived.Test.YtdflbfgmbcgljaaWAt
import Derived.Test.YtdflbfgmbcgljaaWEqStruct
import Derived.Test.YtdflbfgmbcgljaaWRepsOne
import Derived.Test.YtdflbfgmbcgljaaWInv
import Derived.Test.YtdflbfgmbcgljaaWInvWords
import Derived.Test.YtdflbfgmbcgljaaWGuard
import Derived.Test.YtdflbfgmbcgljaaWNEv
import Derived.Test.YtdflbfgmbcgljaaWMore
namespace Go.Proofs.Ytdflbfgmbcgljaa.G
open Go.RowKit Go.Proofs.YtdflbfgmbcgljaaW.PrintWords Go.Proofs.YtdflbfgmbcgljaaW.PrintLast Go.Proofs.YtdflbfgmbcgljaaW.PrintMore
attribute [local go_sem] max2_int min2_int max_two min_two max_three min_three max_four min_four   -- for this text's walks alone
set_option linter.unusedVariables false
set_option linter.unusedSimpArgs false



def errW : Option Int → Value
  | none => .nilIface
  | some c => .iface 0 (.int .i64 c)
theorem errW_none : errW none = .nilIface := rfl
theorem errW_some (c : Int) : errW (some c) = .iface 0 (.int .i64 c) := rfl

-- the values' own types

end Go.Proofs.Ytdflbfgmbcgljaa.G
