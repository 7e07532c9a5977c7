/-
  No cell of these rows narrows 'for every input' (looked for: loops, veiled, ifaces, maps, wideKeys, modest, calm, conditions, laid).
  DERIVED. THE GIVEN ROWS OF THIS SEAT. 3 by the template 'for every input the law returns true; each argument reads behind the call as it read before'; 0 by the template 'total and deterministic' (their statements: YthbmnjcpdjaokaaTotals.lean).
  GIVEN WITH THE SEED: the statements are not yours to turn. If you find one false, say at which input.
  Laid BY PROGRAM, IN A SANDBOX (cutbox-rows.mjs): the forced cells as the released guide's own fill.sh prints them over the translation 7f8187c7075e66d0… (all of the seat's roots in one cut). By AI agents, Wed Nov 11 2026. No macro, syntax, notation, axiom, sorry.
-/
import Derived.Test.YthbmnjcpdjaokaaChecked
import GoSem.Claim
import GoSem.ClaimJoined
import GoSem.ClaimMapViews
import Derived.JoinedTies
import Derived.KernelRfl
namespace Go.Proofs.Ythbmnjcpdjaokaa
/- THE CELL 'sum', in the pinned program and in every row, IS THE sha256 OF THE DUMP (.gsa) THAT YthbmnjcpdjaokaaProg.lean LOADS. Nothing in Lean hashes anything: it is a label: what it is worth is what the hold of that sum in a sandbox is worth. -/
noncomputable def Try.pinned : Pinned := { name := "ythbmnjcpdjaokaa", sum := "7f8187c7075e66d0408184a9756bacd2dd54f23e47d8beaffb9a03a519180a44", checked := Try.checked }
namespace Rows
def none {H : Type} : Left H := { results := [], args := [] }

/-- 'chronobatelaw04.SaneGood': WHATEVER THE INPUT: true; the input reads as it did. -/
def saneGoodSpec : ChangeSpec := { name := "saneGood", fn := fun _ => fun
  | [d1, d2] => { results := [.lit (.bool true)], args := [d1, d2] }
  | _ => none }
def saneGoodRow : OpenClaim := { program := "ythbmnjcpdjaokaa", sum := "7f8187c7075e66d0408184a9756bacd2dd54f23e47d8beaffb9a03a519180a44", func := "chronobate/chronobatelaw04.SaneGood", spec := "saneGood", unfollowed := true, recurses := true, apart := false }
def SaneGoodSaid : Prop := saneGoodRow.holds Try.pinned (OpenSpec.ofChange saneGoodSpec)

/-- ITS FALSE NEIGHBOUR: 'it returns false'. Refute it at one input. -/
def saneGoodWrong : ChangeSpec := { name := "saneGood", fn := fun _ => fun
  | [d1, d2] => { results := [.lit (.bool false)], args := [d1, d2] }
  | _ => none }
def SaneGoodWrongFalsely : Prop := saneGoodRow.holds Try.pinned (OpenSpec.ofChange saneGoodWrong)

/-- 'chronobatelaw04.SaneOthers': WHATEVER THE INPUT: true; the input reads as it did. -/
def saneOthersSpec : ChangeSpec := { name := "saneOthers", fn := fun _ => fun
  | [d1, d2, d3] => { results := [.lit (.bool true)], args := [d1, d2, d3] }
  | _ => none }
def saneOthersRow : OpenClaim := { program := "ythbmnjcpdjaokaa", sum := "7f8187c7075e66d0408184a9756bacd2dd54f23e47d8beaffb9a03a519180a44", func := "chronobate/chronobatelaw04.SaneOthers", spec := "saneOthers", unfollowed := true, recurses := true, apart := false }
def SaneOthersSaid : Prop := saneOthersRow.holds Try.pinned (OpenSpec.ofChange saneOthersSpec)

/-- ITS FALSE NEIGHBOUR: 'it returns false'. Refute it at one input. -/
def saneOthersWrong : ChangeSpec := { name := "saneOthers", fn := fun _ => fun
  | [d1, d2, d3] => { results := [.lit (.bool false)], args := [d1, d2, d3] }
  | _ => none }
def SaneOthersWrongFalsely : Prop := saneOthersRow.holds Try.pinned (OpenSpec.ofChange saneOthersWrong)

/-- 'chronobatelaw04.SaneBehind': WHATEVER THE INPUT: true; the input reads as it did. -/
def saneBehindSpec : ChangeSpec := { name := "saneBehind", fn := fun _ => fun
  | [d1, d2, d3] => { results := [.lit (.bool true)], args := [d1, d2, d3] }
  | _ => none }
def saneBehindRow : OpenClaim := { program := "ythbmnjcpdjaokaa", sum := "7f8187c7075e66d0408184a9756bacd2dd54f23e47d8beaffb9a03a519180a44", func := "chronobate/chronobatelaw04.SaneBehind", spec := "saneBehind", unfollowed := true, recurses := true, apart := false }
def SaneBehindSaid : Prop := saneBehindRow.holds Try.pinned (OpenSpec.ofChange saneBehindSpec)

/-- ITS FALSE NEIGHBOUR: 'it returns false'. Refute it at one input. -/
def saneBehindWrong : ChangeSpec := { name := "saneBehind", fn := fun _ => fun
  | [d1, d2, d3] => { results := [.lit (.bool false)], args := [d1, d2, d3] }
  | _ => none }
def SaneBehindWrongFalsely : Prop := saneBehindRow.holds Try.pinned (OpenSpec.ofChange saneBehindWrong)

/- THE SECOND FORM. 'bulk': how many values and letters a reading holds, each counted each time it is reached (what is shared counts as often as it is met; a slice's spare places count too). A statement '..UptoSaid' is the law's where the arguments, and the package variables that the reading takes, are together of bulk at most 1048576: NARROWER than '..Said'. Prove '..Said' where nothing that the law and all that it calls make is longer than what came in: it says more and counts as full. Else prove '..UptoSaid'. A law counts once. -/
mutual
def uptoBulk {H : Type} : DataW H → Nat
  | .lit (.string bytes) => bytes.length + 1
  | .lit _ => 1
  | .nil => 1
  | .ptr d => uptoBulk d + 1
  | .slice elems spare => uptoBulkAll elems + uptoBulkAll spare + 1
  | .agg parts => uptoBulkAll parts + 1
  | .iface _ d => uptoBulk d + 1
  | .map entries => uptoBulkEntries entries + 1
  | .held _ => 1
def uptoBulkAll {H : Type} : List (DataW H) → Nat
  | [] => 0
  | d :: r => uptoBulk d + uptoBulkAll r
def uptoBulkEntries {H : Type} : List (Lit × DataW H) → Nat
  | [] => 0
  | x :: r => uptoBulkEntry x + uptoBulkEntries r
def uptoBulkEntry {H : Type} : Lit × DataW H → Nat
  | (.string bytes, d) => bytes.length + uptoBulk d + 1
  | (_, d) => uptoBulk d + 1
 end
def uptoSmall : (H : Type) → List (DataW H) → Bool := fun _ ds => decide (uptoBulkAll ds ≤ 1048576)
def OpenSpec.upto (s : _root_.Go.ChangeSpec) : _root_.Go.OpenSpec := { _root_.Go.OpenSpec.ofChange s with cond := some uptoSmall }

/-- 'chronobatelaw04.SaneGood', WHERE WHAT IT READS IS OF BULK AT MOST 1048576: true; the input reads as it did. -/
def saneGoodUptoRow : OpenClaim := { program := "ythbmnjcpdjaokaa", sum := "7f8187c7075e66d0408184a9756bacd2dd54f23e47d8beaffb9a03a519180a44", func := "chronobate/chronobatelaw04.SaneGood", spec := "saneGood", unfollowed := true, recurses := true, apart := false, narrowed := true }
def SaneGoodUptoSaid : Prop := saneGoodUptoRow.holds Try.pinned (OpenSpec.upto saneGoodSpec)

/-- 'chronobatelaw04.SaneOthers', WHERE WHAT IT READS IS OF BULK AT MOST 1048576: true; the input reads as it did. -/
def saneOthersUptoRow : OpenClaim := { program := "ythbmnjcpdjaokaa", sum := "7f8187c7075e66d0408184a9756bacd2dd54f23e47d8beaffb9a03a519180a44", func := "chronobate/chronobatelaw04.SaneOthers", spec := "saneOthers", unfollowed := true, recurses := true, apart := false, narrowed := true }
def SaneOthersUptoSaid : Prop := saneOthersUptoRow.holds Try.pinned (OpenSpec.upto saneOthersSpec)

/-- 'chronobatelaw04.SaneBehind', WHERE WHAT IT READS IS OF BULK AT MOST 1048576: true; the input reads as it did. -/
def saneBehindUptoRow : OpenClaim := { program := "ythbmnjcpdjaokaa", sum := "7f8187c7075e66d0408184a9756bacd2dd54f23e47d8beaffb9a03a519180a44", func := "chronobate/chronobatelaw04.SaneBehind", spec := "saneBehind", unfollowed := true, recurses := true, apart := false, narrowed := true }
def SaneBehindUptoSaid : Prop := saneBehindUptoRow.holds Try.pinned (OpenSpec.upto saneBehindSpec)

end Rows
end Go.Proofs.Ythbmnjcpdjaokaa
