/-
  No cell of these rows narrows 'for every input' (looked for: loops, veiled, ifaces, maps, wideKeys, modest, calm, conditions, laid).
  DERIVED. THE GIVEN ROWS OF THIS SEAT. 8 by the template 'for every input the law returns true; each argument reads behind the call as it read before'; 0 by the template 'total and deterministic' (their statements: YtnagappcpmnkbaaTotals.lean).
  GIVEN WITH THE SEED: the statements are not yours to turn. If you find one false, say at which input.
  Laid BY PROGRAM, IN A SANDBOX (cutbox-rows.mjs): the forced cells as the released guide's own fill.sh prints them over the translation b710ba083d391eb8… (all of the seat's roots in one cut). By AI agents, Wed Nov 11 2026. No macro, syntax, notation, axiom, sorry.
-/
import Derived.Test.YtnagappcpmnkbaaChecked
import GoSem.Claim
import GoSem.ClaimJoined
import GoSem.ClaimMapViews
import Derived.JoinedTies
import Derived.KernelRfl
namespace Go.Proofs.Ytnagappcpmnkbaa
/- THE CELL 'sum', in the pinned program and in every row, IS THE sha256 OF THE DUMP (.gsa) THAT YtnagappcpmnkbaaProg.lean LOADS. Nothing in Lean hashes anything: it is a label: what it is worth is what the hold of that sum in a sandbox is worth. -/
noncomputable def Try.pinned : Pinned := { name := "ytnagappcpmnkbaa", sum := "b710ba083d391eb834aa0039548d16ccb85436db75a4ea3771054eee7cdf094e", checked := Try.checked }
namespace Rows
def none {H : Type} : Left H := { results := [], args := [] }

/-- 'chronobatelaw08.SampleMakes': WHATEVER THE INPUT: true; the input reads as it did. -/
def sampleMakesSpec : ChangeSpec := { name := "sampleMakes", fn := fun _ => fun
  | [d1, d2] => { results := [.lit (.bool true)], args := [d1, d2] }
  | _ => none }
def sampleMakesRow : OpenClaim := { program := "ytnagappcpmnkbaa", sum := "b710ba083d391eb834aa0039548d16ccb85436db75a4ea3771054eee7cdf094e", func := "chronobate/chronobatelaw08.SampleMakes", spec := "sampleMakes", named := ["math/bits.divideError", "math/bits.overflowError"], apart := false }
def SampleMakesSaid : Prop := sampleMakesRow.holds Try.pinned (OpenSpec.ofChange sampleMakesSpec)

/-- ITS FALSE NEIGHBOUR: 'it returns false'. Refute it at one input. -/
def sampleMakesWrong : ChangeSpec := { name := "sampleMakes", fn := fun _ => fun
  | [d1, d2] => { results := [.lit (.bool false)], args := [d1, d2] }
  | _ => none }
def SampleMakesWrongFalsely : Prop := sampleMakesRow.holds Try.pinned (OpenSpec.ofChange sampleMakesWrong)

/-- 'chronobatelaw08.SampleTrue': WHATEVER THE INPUT: true; the input reads as it did. -/
def sampleTrueSpec : ChangeSpec := { name := "sampleTrue", fn := fun _ => fun
  | [d1, d2, d3] => { results := [.lit (.bool true)], args := [d1, d2, d3] }
  | _ => none }
def sampleTrueRow : OpenClaim := { program := "ytnagappcpmnkbaa", sum := "b710ba083d391eb834aa0039548d16ccb85436db75a4ea3771054eee7cdf094e", func := "chronobate/chronobatelaw08.SampleTrue", spec := "sampleTrue", named := ["math/bits.divideError", "math/bits.overflowError"], apart := false }
def SampleTrueSaid : Prop := sampleTrueRow.holds Try.pinned (OpenSpec.ofChange sampleTrueSpec)

/-- ITS FALSE NEIGHBOUR: 'it returns false'. Refute it at one input. -/
def sampleTrueWrong : ChangeSpec := { name := "sampleTrue", fn := fun _ => fun
  | [d1, d2, d3] => { results := [.lit (.bool false)], args := [d1, d2, d3] }
  | _ => none }
def SampleTrueWrongFalsely : Prop := sampleTrueRow.holds Try.pinned (OpenSpec.ofChange sampleTrueWrong)

/-- 'chronobatelaw08.SampleStays': WHATEVER THE INPUT: true; the input reads as it did. -/
def sampleStaysSpec : ChangeSpec := { name := "sampleStays", fn := fun _ => fun
  | [d1, d2, d3] => { results := [.lit (.bool true)], args := [d1, d2, d3] }
  | _ => none }
def sampleStaysRow : OpenClaim := { program := "ytnagappcpmnkbaa", sum := "b710ba083d391eb834aa0039548d16ccb85436db75a4ea3771054eee7cdf094e", func := "chronobate/chronobatelaw08.SampleStays", spec := "sampleStays", unfollowed := true, recurses := true, named := ["math/bits.divideError", "math/bits.overflowError"], apart := false }
def SampleStaysSaid : Prop := sampleStaysRow.holds Try.pinned (OpenSpec.ofChange sampleStaysSpec)

/-- ITS FALSE NEIGHBOUR: 'it returns false'. Refute it at one input. -/
def sampleStaysWrong : ChangeSpec := { name := "sampleStays", fn := fun _ => fun
  | [d1, d2, d3] => { results := [.lit (.bool false)], args := [d1, d2, d3] }
  | _ => none }
def SampleStaysWrongFalsely : Prop := sampleStaysRow.holds Try.pinned (OpenSpec.ofChange sampleStaysWrong)

/-- 'chronobatelaw08.SampleNone': WHATEVER THE INPUT: true; the input reads as it did. -/
def sampleNoneSpec : ChangeSpec := { name := "sampleNone", fn := fun _ => fun
  | [d1, d2] => { results := [.lit (.bool true)], args := [d1, d2] }
  | _ => none }
def sampleNoneRow : OpenClaim := { program := "ytnagappcpmnkbaa", sum := "b710ba083d391eb834aa0039548d16ccb85436db75a4ea3771054eee7cdf094e", func := "chronobate/chronobatelaw08.SampleNone", spec := "sampleNone", named := ["math/bits.divideError", "math/bits.overflowError"], apart := false }
def SampleNoneSaid : Prop := sampleNoneRow.holds Try.pinned (OpenSpec.ofChange sampleNoneSpec)

/-- ITS FALSE NEIGHBOUR: 'it returns false'. Refute it at one input. -/
def sampleNoneWrong : ChangeSpec := { name := "sampleNone", fn := fun _ => fun
  | [d1, d2] => { results := [.lit (.bool false)], args := [d1, d2] }
  | _ => none }
def SampleNoneWrongFalsely : Prop := sampleNoneRow.holds Try.pinned (OpenSpec.ofChange sampleNoneWrong)

/-- 'chronobatelaw08.SampleSlews': WHATEVER THE INPUT: true; the input reads as it did. -/
def sampleSlewsSpec : ChangeSpec := { name := "sampleSlews", fn := fun _ => fun
  | [d1, d2, d3] => { results := [.lit (.bool true)], args := [d1, d2, d3] }
  | _ => none }
def sampleSlewsRow : OpenClaim := { program := "ytnagappcpmnkbaa", sum := "b710ba083d391eb834aa0039548d16ccb85436db75a4ea3771054eee7cdf094e", func := "chronobate/chronobatelaw08.SampleSlews", spec := "sampleSlews", named := ["math/bits.divideError", "math/bits.overflowError"], apart := false }
def SampleSlewsSaid : Prop := sampleSlewsRow.holds Try.pinned (OpenSpec.ofChange sampleSlewsSpec)

/-- ITS FALSE NEIGHBOUR: 'it returns false'. Refute it at one input. -/
def sampleSlewsWrong : ChangeSpec := { name := "sampleSlews", fn := fun _ => fun
  | [d1, d2, d3] => { results := [.lit (.bool false)], args := [d1, d2, d3] }
  | _ => none }
def SampleSlewsWrongFalsely : Prop := sampleSlewsRow.holds Try.pinned (OpenSpec.ofChange sampleSlewsWrong)

/-- 'chronobatelaw08.SampleLife': WHATEVER THE INPUT: true; the input reads as it did. -/
def sampleLifeSpec : ChangeSpec := { name := "sampleLife", fn := fun _ => fun
  | [d1, d2] => { results := [.lit (.bool true)], args := [d1, d2] }
  | _ => none }
def sampleLifeRow : OpenClaim := { program := "ytnagappcpmnkbaa", sum := "b710ba083d391eb834aa0039548d16ccb85436db75a4ea3771054eee7cdf094e", func := "chronobate/chronobatelaw08.SampleLife", spec := "sampleLife", named := ["math/bits.divideError", "math/bits.overflowError"], apart := false }
def SampleLifeSaid : Prop := sampleLifeRow.holds Try.pinned (OpenSpec.ofChange sampleLifeSpec)

/-- ITS FALSE NEIGHBOUR: 'it returns false'. Refute it at one input. -/
def sampleLifeWrong : ChangeSpec := { name := "sampleLife", fn := fun _ => fun
  | [d1, d2] => { results := [.lit (.bool false)], args := [d1, d2] }
  | _ => none }
def SampleLifeWrongFalsely : Prop := sampleLifeRow.holds Try.pinned (OpenSpec.ofChange sampleLifeWrong)

/-- 'chronobatelaw08.SampleOrder': WHATEVER THE INPUT: true; the input reads as it did. -/
def sampleOrderSpec : ChangeSpec := { name := "sampleOrder", fn := fun _ => fun
  | [d1, d2, d3] => { results := [.lit (.bool true)], args := [d1, d2, d3] }
  | _ => none }
def sampleOrderRow : OpenClaim := { program := "ytnagappcpmnkbaa", sum := "b710ba083d391eb834aa0039548d16ccb85436db75a4ea3771054eee7cdf094e", func := "chronobate/chronobatelaw08.SampleOrder", spec := "sampleOrder", named := ["math/bits.divideError", "math/bits.overflowError"], apart := false }
def SampleOrderSaid : Prop := sampleOrderRow.holds Try.pinned (OpenSpec.ofChange sampleOrderSpec)

/-- ITS FALSE NEIGHBOUR: 'it returns false'. Refute it at one input. -/
def sampleOrderWrong : ChangeSpec := { name := "sampleOrder", fn := fun _ => fun
  | [d1, d2, d3] => { results := [.lit (.bool false)], args := [d1, d2, d3] }
  | _ => none }
def SampleOrderWrongFalsely : Prop := sampleOrderRow.holds Try.pinned (OpenSpec.ofChange sampleOrderWrong)

/-- 'chronobatelaw08.SampleNows': WHATEVER THE INPUT: true; the input reads as it did. -/
def sampleNowsSpec : ChangeSpec := { name := "sampleNows", fn := fun _ => fun
  | [d1, d2, d3] => { results := [.lit (.bool true)], args := [d1, d2, d3] }
  | _ => none }
def sampleNowsRow : OpenClaim := { program := "ytnagappcpmnkbaa", sum := "b710ba083d391eb834aa0039548d16ccb85436db75a4ea3771054eee7cdf094e", func := "chronobate/chronobatelaw08.SampleNows", spec := "sampleNows", named := ["math/bits.divideError", "math/bits.overflowError"], apart := false }
def SampleNowsSaid : Prop := sampleNowsRow.holds Try.pinned (OpenSpec.ofChange sampleNowsSpec)

/-- ITS FALSE NEIGHBOUR: 'it returns false'. Refute it at one input. -/
def sampleNowsWrong : ChangeSpec := { name := "sampleNows", fn := fun _ => fun
  | [d1, d2, d3] => { results := [.lit (.bool false)], args := [d1, d2, d3] }
  | _ => none }
def SampleNowsWrongFalsely : Prop := sampleNowsRow.holds Try.pinned (OpenSpec.ofChange sampleNowsWrong)

/- THE SECOND FORM. 'bulk': how many values and letters a reading holds, each counted each time it is reached (what is shared counts as often as it is met; a slice's spare places count too). A statement '..UptoSaid' is the law's where the arguments, and the package variables that the reading takes, are together of bulk at most 1048576: NARROWER than '..Said'. Prove '..Said' where nothing that the law and all that it calls make is longer than what came in: it says more and counts as full. Else prove '..UptoSaid'. A law counts once. -/
mutual
def uptoBulk {H : Type} : DataW H → Nat
  | .lit (.string bytes) => bytes.length + 1
  | .lit _ => 1
  | .nil => 1
  | .ptr d => uptoBulk d + 1
  | .slice elems spare => uptoBulkAll elems + uptoBulkAll spare + 1
  | .agg parts => uptoBulkAll parts + 1
  | .iface _ d => uptoBulk d + 1
  | .map entries => uptoBulkEntries entries + 1
  | .held _ => 1
def uptoBulkAll {H : Type} : List (DataW H) → Nat
  | [] => 0
  | d :: r => uptoBulk d + uptoBulkAll r
def uptoBulkEntries {H : Type} : List (Lit × DataW H) → Nat
  | [] => 0
  | x :: r => uptoBulkEntry x + uptoBulkEntries r
def uptoBulkEntry {H : Type} : Lit × DataW H → Nat
  | (.string bytes, d) => bytes.length + uptoBulk d + 1
  | (_, d) => uptoBulk d + 1
 end
def uptoSmall : (H : Type) → List (DataW H) → Bool := fun _ ds => decide (uptoBulkAll ds ≤ 1048576)
def OpenSpec.upto (s : _root_.Go.ChangeSpec) : _root_.Go.OpenSpec := { _root_.Go.OpenSpec.ofChange s with cond := some uptoSmall }

/-- 'chronobatelaw08.SampleMakes', WHERE WHAT IT READS IS OF BULK AT MOST 1048576: true; the input reads as it did. -/
def sampleMakesUptoRow : OpenClaim := { program := "ytnagappcpmnkbaa", sum := "b710ba083d391eb834aa0039548d16ccb85436db75a4ea3771054eee7cdf094e", func := "chronobate/chronobatelaw08.SampleMakes", spec := "sampleMakes", named := ["math/bits.divideError", "math/bits.overflowError"], apart := false, narrowed := true }
def SampleMakesUptoSaid : Prop := sampleMakesUptoRow.holds Try.pinned (OpenSpec.upto sampleMakesSpec)

/-- 'chronobatelaw08.SampleTrue', WHERE WHAT IT READS IS OF BULK AT MOST 1048576: true; the input reads as it did. -/
def sampleTrueUptoRow : OpenClaim := { program := "ytnagappcpmnkbaa", sum := "b710ba083d391eb834aa0039548d16ccb85436db75a4ea3771054eee7cdf094e", func := "chronobate/chronobatelaw08.SampleTrue", spec := "sampleTrue", named := ["math/bits.divideError", "math/bits.overflowError"], apart := false, narrowed := true }
def SampleTrueUptoSaid : Prop := sampleTrueUptoRow.holds Try.pinned (OpenSpec.upto sampleTrueSpec)

/-- 'chronobatelaw08.SampleStays', WHERE WHAT IT READS IS OF BULK AT MOST 1048576: true; the input reads as it did. -/
def sampleStaysUptoRow : OpenClaim := { program := "ytnagappcpmnkbaa", sum := "b710ba083d391eb834aa0039548d16ccb85436db75a4ea3771054eee7cdf094e", func := "chronobate/chronobatelaw08.SampleStays", spec := "sampleStays", unfollowed := true, recurses := true, named := ["math/bits.divideError", "math/bits.overflowError"], apart := false, narrowed := true }
def SampleStaysUptoSaid : Prop := sampleStaysUptoRow.holds Try.pinned (OpenSpec.upto sampleStaysSpec)

/-- 'chronobatelaw08.SampleNone', WHERE WHAT IT READS IS OF BULK AT MOST 1048576: true; the input reads as it did. -/
def sampleNoneUptoRow : OpenClaim := { program := "ytnagappcpmnkbaa", sum := "b710ba083d391eb834aa0039548d16ccb85436db75a4ea3771054eee7cdf094e", func := "chronobate/chronobatelaw08.SampleNone", spec := "sampleNone", named := ["math/bits.divideError", "math/bits.overflowError"], apart := false, narrowed := true }
def SampleNoneUptoSaid : Prop := sampleNoneUptoRow.holds Try.pinned (OpenSpec.upto sampleNoneSpec)

/-- 'chronobatelaw08.SampleSlews', WHERE WHAT IT READS IS OF BULK AT MOST 1048576: true; the input reads as it did. -/
def sampleSlewsUptoRow : OpenClaim := { program := "ytnagappcpmnkbaa", sum := "b710ba083d391eb834aa0039548d16ccb85436db75a4ea3771054eee7cdf094e", func := "chronobate/chronobatelaw08.SampleSlews", spec := "sampleSlews", named := ["math/bits.divideError", "math/bits.overflowError"], apart := false, narrowed := true }
def SampleSlewsUptoSaid : Prop := sampleSlewsUptoRow.holds Try.pinned (OpenSpec.upto sampleSlewsSpec)

/-- 'chronobatelaw08.SampleLife', WHERE WHAT IT READS IS OF BULK AT MOST 1048576: true; the input reads as it did. -/
def sampleLifeUptoRow : OpenClaim := { program := "ytnagappcpmnkbaa", sum := "b710ba083d391eb834aa0039548d16ccb85436db75a4ea3771054eee7cdf094e", func := "chronobate/chronobatelaw08.SampleLife", spec := "sampleLife", named := ["math/bits.divideError", "math/bits.overflowError"], apart := false, narrowed := true }
def SampleLifeUptoSaid : Prop := sampleLifeUptoRow.holds Try.pinned (OpenSpec.upto sampleLifeSpec)

/-- 'chronobatelaw08.SampleOrder', WHERE WHAT IT READS IS OF BULK AT MOST 1048576: true; the input reads as it did. -/
def sampleOrderUptoRow : OpenClaim := { program := "ytnagappcpmnkbaa", sum := "b710ba083d391eb834aa0039548d16ccb85436db75a4ea3771054eee7cdf094e", func := "chronobate/chronobatelaw08.SampleOrder", spec := "sampleOrder", named := ["math/bits.divideError", "math/bits.overflowError"], apart := false, narrowed := true }
def SampleOrderUptoSaid : Prop := sampleOrderUptoRow.holds Try.pinned (OpenSpec.upto sampleOrderSpec)

/-- 'chronobatelaw08.SampleNows', WHERE WHAT IT READS IS OF BULK AT MOST 1048576: true; the input reads as it did. -/
def sampleNowsUptoRow : OpenClaim := { program := "ytnagappcpmnkbaa", sum := "b710ba083d391eb834aa0039548d16ccb85436db75a4ea3771054eee7cdf094e", func := "chronobate/chronobatelaw08.SampleNows", spec := "sampleNows", named := ["math/bits.divideError", "math/bits.overflowError"], apart := false, narrowed := true }
def SampleNowsUptoSaid : Prop := sampleNowsUptoRow.holds Try.pinned (OpenSpec.upto sampleNowsSpec)

end Rows
end Go.Proofs.Ytnagappcpmnkbaa
