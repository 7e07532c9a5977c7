-- Written by a program of this session out of the translation (wip/patch_print.py, wip/print2.sh). Lean checks it.
import Derived.Test.YtplkegifilheeaaProg
import Derived.Below
import Derived.Deep.Draws
import Derived.Deep.AppendLies
import Derived.Maps.AppendAt
import Derived.OwnWalk
import Derived.Laws.BytesArg
import Derived.Laws.MakeOwn
import Derived.Laws.OwnMore
import Derived.Deep.OwnRows
import Derived.Tactics
import Derived.Lib.ConvBytes
import Derived.Laws.Slices
import Derived.WalkKit
import Derived.KernelRfl
import Derived.RowKit3
import Derived.Deep.LoopGhost
import Derived.Deep.QuietTactic
import Derived.BigQuiet
import Derived.WideLaws
import Derived.Deep.DeepCutAuto
import Derived.Deep.CutBlock
import Derived.Deep.RegionHeld3
import Derived.Laws.Rows
import Derived.Lib.AppendStr
import Derived.ArgAppend
import Derived.Laws.IdiomCopy
import Derived.OrdersHeld
import Derived.Laws.BitsLemmas
import Derived.RowKit
import Derived.Lib.BitFns
import Derived.Lib.Small
import Derived.Lib.Walk
import Derived.Lib.Strings
import Derived.Lib.Slices
import Derived.Test.YtplkegifilheeaaWWords
import Derived.Test.YtplkegifilheeaaWLast
import Derived.Test.YtplkegifilheeaaWTab
import Derived.Test.YtplkegifilheeaaWFour
import Derived.Test.YtplkegifilheeaaWQPut
import Derived.Test.YtplkegifilheeaaWApart
import Derived.Test.YtplkegifilheeaaWArr
import Derived.Test.YtplkegifilheeaaWZeros
import Derived.Test.YtplkegifilheeaaWFoot
import Derived.Test.YtplkegifilheeaaWKept
import Derived.Test.YtplkegifilheeaaWShare
import Derived.Test.YtplkegifilheeaaWN
import Derived.Test.YtplkegifilheeaaWFootNe
import Derived.Test.YtplkegifilheeaaWAt
import Derived.Test.YtplkegifilheeaaWEqStruct
import Derived.Test.YtplkegifilheeaaWRepsOne
import Derived.Test.YtplkegifilheeaaWInv
import Derived.Test.YtplkegifilheeaaWInvWords
import Derived.Test.YtplkegifilheeaaWGuard
import Derived.Test.YtplkegifilheeaaWNEv
import Derived.Test.YtplkegifilheeaaWMore
namespace Go.Proofs.Ytplkegifilheeaa.G
open Go.RowKit Go.Proofs.YtplkegifilheeaaW.PrintWords Go.Proofs.YtplkegifilheeaaW.PrintLast Go.Proofs.YtplkegifilheeaaW.PrintMore
attribute [local go_sem] max2_int min2_int max_two min_two max_three min_three max_four min_four   -- for this text's walks alone
set_option linter.unusedVariables false
set_option linter.unusedSimpArgs false



def errW : Option Int → Value
  | none => .nilIface
  | some c => .iface 0 (.int .i64 c)
theorem errW_none : errW none = .nilIface := rfl
theorem errW_some (c : Int) : errW (some c) = .iface 0 (.int .i64 c) := rfl

theorem info2 : (Try.prog.info? 2).map (fun i => (i.zero, i.size, i.bytes)) = some (some (.int .i64 0), 1, 8) := by kernel_rfl
-- the values' own types

end Go.Proofs.Ytplkegifilheeaa.G
