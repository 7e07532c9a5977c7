-- Written by a program of this session out of the translation (wip/patch_print.py, wip/print2.sh). Lean checks it.
import Derived.Test.YtmniekljfhecaaaProg
import Derived.Below
import Derived.Deep.Draws
import Derived.Deep.AppendLies
import Derived.Maps.AppendAt
import Derived.OwnWalk
import Derived.Laws.BytesArg
import Derived.Laws.MakeOwn
import Derived.Laws.OwnMore
import Derived.Deep.OwnRows
import Derived.Tactics
import Derived.Lib.ConvBytes
import Derived.Laws.Slices
import Derived.WalkKit
import Derived.KernelRfl
import Derived.RowKit3
import Derived.Deep.LoopGhost
import Derived.Deep.QuietTactic
import Derived.BigQuiet
import Derived.WideLaws
import Derived.Deep.DeepCutAuto
import Derived.Deep.CutBlock
import Derived.Deep.RegionHeld3
import Derived.Laws.Rows
import Derived.Lib.AppendStr
import Derived.ArgAppend
import Derived.Laws.IdiomCopy
import Derived.OrdersHeld
import Derived.Laws.BitsLemmas
import Derived.RowKit
import Derived.Lib.BitFns
import Derived.Lib.Small
import Derived.Lib.Walk
import Derived.Lib.Strings
import Derived.Lib.Slices
import Derived.Test.YtmniekljfhecaaaWWords
import Derived.Test.YtmniekljfhecaaaWLast
import Derived.Test.YtmniekljfhecaaaWTab
import Derived.Test.YtmniekljfhecaaaWFour
import Derived.Test.YtmniekljfhecaaaWQPut
import Derived.Test.YtmniekljfhecaaaWApart
import Derived.Test.YtmniekljfhecaaaWArr
import Derived.Test.YtmniekljfhecaaaWZeros
import Derived.Test.YtmniekljfhecaaaWFoot
import Derived.Test.YtmniekljfhecaaaWKept
import Derived.Test.YtmniekljfhecaaaWShare
import Derived.Test.YtmniekljfhecaaaWN
import Derived.Test.YtmniekljfhecaaaWFootNe
import Derived.Test.YtmniekljfhecaaaWAt
import Derived.Test.YtmniekljfhecaaaWEqStruct
import Derived.Test.YtmniekljfhecaaaWRepsOne
import Derived.Test.YtmniekljfhecaaaWInv
import Derived.Test.YtmniekljfhecaaaWInvWords
import Derived.Test.YtmniekljfhecaaaWGuard
import Derived.Test.YtmniekljfhecaaaWNEv
import Derived.Test.YtmniekljfhecaaaWMore
namespace Go.Proofs.Ytmniekljfhecaaa.G
open Go.RowKit Go.Proofs.YtmniekljfhecaaaW.PrintWords Go.Proofs.YtmniekljfhecaaaW.PrintLast Go.Proofs.YtmniekljfhecaaaW.PrintMore
attribute [local go_sem] max2_int min2_int max_two min_two max_three min_three max_four min_four   -- for this text's walks alone
set_option linter.unusedVariables false
set_option linter.unusedSimpArgs false



def errW : Option Int → Value
  | none => .nilIface
  | some c => .iface 0 (.int .i64 c)
theorem errW_none : errW none = .nilIface := rfl
theorem errW_some (c : Int) : errW (some c) = .iface 0 (.int .i64 c) := rfl

-- the values' own types

end Go.Proofs.Ytmniekljfhecaaa.G
