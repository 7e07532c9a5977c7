/-
  No cell of these rows narrows 'for every input' (looked for: loops, veiled, ifaces, maps, wideKeys, modest, calm, conditions, laid).
  DERIVED. THE GIVEN ROWS OF THIS SEAT. 6 by the template 'for every input the law returns true; each argument reads behind the call as it read before'; 0 by the template 'total and deterministic' (their statements: YtmniekljfhecaaaTotals.lean).
  GIVEN WITH THE SEED: the statements are not yours to turn. If you find one false, say at which input.
  Laid BY PROGRAM, IN A SANDBOX (cutbox-rows.mjs): the forced cells as the released guide's own fill.sh prints them over the translation 64134c4e6c220c72… (all of the seat's roots in one cut). By AI agents, Wed Nov 11 2026. No macro, syntax, notation, axiom, sorry.
-/
import Derived.Test.YtmniekljfhecaaaChecked
import GoSem.Claim
import GoSem.ClaimJoined
import GoSem.ClaimMapViews
import Derived.JoinedTies
import Derived.KernelRfl
namespace Go.Proofs.Ytmniekljfhecaaa
/- THE CELL 'sum', in the pinned program and in every row, IS THE sha256 OF THE DUMP (.gsa) THAT YtmniekljfhecaaaProg.lean LOADS. Nothing in Lean hashes anything: it is a label: what it is worth is what the hold of that sum in a sandbox is worth. -/
noncomputable def Try.pinned : Pinned := { name := "ytmniekljfhecaaa", sum := "64134c4e6c220c72701bf565c26abb8f77ac6b9dc709dec890c4bee14f0414f4", checked := Try.checked }
namespace Rows
def none {H : Type} : Left H := { results := [], args := [] }

/-- 'chronobatelaw18.GhostFine': WHATEVER THE INPUT: true; the input reads as it did. -/
def ghostFineSpec : ChangeSpec := { name := "ghostFine", fn := fun _ => fun
  | [d1, d2, d3] => { results := [.lit (.bool true)], args := [d1, d2, d3] }
  | _ => none }
def ghostFineRow : OpenClaim := { program := "ytmniekljfhecaaa", sum := "64134c4e6c220c72701bf565c26abb8f77ac6b9dc709dec890c4bee14f0414f4", func := "chronobate/chronobatelaw18.GhostFine", spec := "ghostFine", apart := false }
def GhostFineSaid : Prop := ghostFineRow.holds Try.pinned (OpenSpec.ofChange ghostFineSpec)

/-- ITS FALSE NEIGHBOUR: 'it returns false'. Refute it at one input. -/
def ghostFineWrong : ChangeSpec := { name := "ghostFine", fn := fun _ => fun
  | [d1, d2, d3] => { results := [.lit (.bool false)], args := [d1, d2, d3] }
  | _ => none }
def GhostFineWrongFalsely : Prop := ghostFineRow.holds Try.pinned (OpenSpec.ofChange ghostFineWrong)

/-- 'chronobatelaw18.GhostScales': WHATEVER THE INPUT: true; the input reads as it did. -/
def ghostScalesSpec : ChangeSpec := { name := "ghostScales", fn := fun _ => fun
  | [d1, d2, d3] => { results := [.lit (.bool true)], args := [d1, d2, d3] }
  | _ => none }
def ghostScalesRow : OpenClaim := { program := "ytmniekljfhecaaa", sum := "64134c4e6c220c72701bf565c26abb8f77ac6b9dc709dec890c4bee14f0414f4", func := "chronobate/chronobatelaw18.GhostScales", spec := "ghostScales", apart := false }
def GhostScalesSaid : Prop := ghostScalesRow.holds Try.pinned (OpenSpec.ofChange ghostScalesSpec)

/-- ITS FALSE NEIGHBOUR: 'it returns false'. Refute it at one input. -/
def ghostScalesWrong : ChangeSpec := { name := "ghostScales", fn := fun _ => fun
  | [d1, d2, d3] => { results := [.lit (.bool false)], args := [d1, d2, d3] }
  | _ => none }
def GhostScalesWrongFalsely : Prop := ghostScalesRow.holds Try.pinned (OpenSpec.ofChange ghostScalesWrong)

/-- 'chronobatelaw18.GhostSteps': WHATEVER THE INPUT: true; the input reads as it did. -/
def ghostStepsSpec : ChangeSpec := { name := "ghostSteps", fn := fun _ => fun
  | [d1, d2, d3] => { results := [.lit (.bool true)], args := [d1, d2, d3] }
  | _ => none }
def ghostStepsRow : OpenClaim := { program := "ytmniekljfhecaaa", sum := "64134c4e6c220c72701bf565c26abb8f77ac6b9dc709dec890c4bee14f0414f4", func := "chronobate/chronobatelaw18.GhostSteps", spec := "ghostSteps", unfollowed := true, recurses := true, apart := false }
def GhostStepsSaid : Prop := ghostStepsRow.holds Try.pinned (OpenSpec.ofChange ghostStepsSpec)

/-- ITS FALSE NEIGHBOUR: 'it returns false'. Refute it at one input. -/
def ghostStepsWrong : ChangeSpec := { name := "ghostSteps", fn := fun _ => fun
  | [d1, d2, d3] => { results := [.lit (.bool false)], args := [d1, d2, d3] }
  | _ => none }
def GhostStepsWrongFalsely : Prop := ghostStepsRow.holds Try.pinned (OpenSpec.ofChange ghostStepsWrong)

/-- 'chronobatelaw18.GhostSums': WHATEVER THE INPUT: true; the input reads as it did. -/
def ghostSumsSpec : ChangeSpec := { name := "ghostSums", fn := fun _ => fun
  | [d1, d2] => { results := [.lit (.bool true)], args := [d1, d2] }
  | _ => none }
def ghostSumsRow : OpenClaim := { program := "ytmniekljfhecaaa", sum := "64134c4e6c220c72701bf565c26abb8f77ac6b9dc709dec890c4bee14f0414f4", func := "chronobate/chronobatelaw18.GhostSums", spec := "ghostSums", unfollowed := true, recurses := true, apart := false }
def GhostSumsSaid : Prop := ghostSumsRow.holds Try.pinned (OpenSpec.ofChange ghostSumsSpec)

/-- ITS FALSE NEIGHBOUR: 'it returns false'. Refute it at one input. -/
def ghostSumsWrong : ChangeSpec := { name := "ghostSums", fn := fun _ => fun
  | [d1, d2] => { results := [.lit (.bool false)], args := [d1, d2] }
  | _ => none }
def GhostSumsWrongFalsely : Prop := ghostSumsRow.holds Try.pinned (OpenSpec.ofChange ghostSumsWrong)

/-- 'chronobatelaw18.GhostEdges': WHATEVER THE INPUT: true; the input reads as it did. -/
def ghostEdgesSpec : ChangeSpec := { name := "ghostEdges", fn := fun _ => fun
  | [d1, d2, d3] => { results := [.lit (.bool true)], args := [d1, d2, d3] }
  | _ => none }
def ghostEdgesRow : OpenClaim := { program := "ytmniekljfhecaaa", sum := "64134c4e6c220c72701bf565c26abb8f77ac6b9dc709dec890c4bee14f0414f4", func := "chronobate/chronobatelaw18.GhostEdges", spec := "ghostEdges", named := ["math/bits.divideError", "math/bits.overflowError"], apart := false }
def GhostEdgesSaid : Prop := ghostEdgesRow.holds Try.pinned (OpenSpec.ofChange ghostEdgesSpec)

/-- ITS FALSE NEIGHBOUR: 'it returns false'. Refute it at one input. -/
def ghostEdgesWrong : ChangeSpec := { name := "ghostEdges", fn := fun _ => fun
  | [d1, d2, d3] => { results := [.lit (.bool false)], args := [d1, d2, d3] }
  | _ => none }
def GhostEdgesWrongFalsely : Prop := ghostEdgesRow.holds Try.pinned (OpenSpec.ofChange ghostEdgesWrong)

/-- 'chronobatelaw18.GhostNear': WHATEVER THE INPUT: true; the input reads as it did. -/
def ghostNearSpec : ChangeSpec := { name := "ghostNear", fn := fun _ => fun
  | [d1, d2] => { results := [.lit (.bool true)], args := [d1, d2] }
  | _ => none }
def ghostNearRow : OpenClaim := { program := "ytmniekljfhecaaa", sum := "64134c4e6c220c72701bf565c26abb8f77ac6b9dc709dec890c4bee14f0414f4", func := "chronobate/chronobatelaw18.GhostNear", spec := "ghostNear", unfollowed := true, recurses := true, named := ["math/bits.divideError", "math/bits.overflowError"], apart := false }
def GhostNearSaid : Prop := ghostNearRow.holds Try.pinned (OpenSpec.ofChange ghostNearSpec)

/-- ITS FALSE NEIGHBOUR: 'it returns false'. Refute it at one input. -/
def ghostNearWrong : ChangeSpec := { name := "ghostNear", fn := fun _ => fun
  | [d1, d2] => { results := [.lit (.bool false)], args := [d1, d2] }
  | _ => none }
def GhostNearWrongFalsely : Prop := ghostNearRow.holds Try.pinned (OpenSpec.ofChange ghostNearWrong)

/- THE SECOND FORM. 'bulk': how many values and letters a reading holds, each counted each time it is reached (what is shared counts as often as it is met; a slice's spare places count too). A statement '..UptoSaid' is the law's where the arguments, and the package variables that the reading takes, are together of bulk at most 1048576: NARROWER than '..Said'. Prove '..Said' where nothing that the law and all that it calls make is longer than what came in: it says more and counts as full. Else prove '..UptoSaid'. A law counts once. -/
mutual
def uptoBulk {H : Type} : DataW H → Nat
  | .lit (.string bytes) => bytes.length + 1
  | .lit _ => 1
  | .nil => 1
  | .ptr d => uptoBulk d + 1
  | .slice elems spare => uptoBulkAll elems + uptoBulkAll spare + 1
  | .agg parts => uptoBulkAll parts + 1
  | .iface _ d => uptoBulk d + 1
  | .map entries => uptoBulkEntries entries + 1
  | .held _ => 1
def uptoBulkAll {H : Type} : List (DataW H) → Nat
  | [] => 0
  | d :: r => uptoBulk d + uptoBulkAll r
def uptoBulkEntries {H : Type} : List (Lit × DataW H) → Nat
  | [] => 0
  | x :: r => uptoBulkEntry x + uptoBulkEntries r
def uptoBulkEntry {H : Type} : Lit × DataW H → Nat
  | (.string bytes, d) => bytes.length + uptoBulk d + 1
  | (_, d) => uptoBulk d + 1
 end
def uptoSmall : (H : Type) → List (DataW H) → Bool := fun _ ds => decide (uptoBulkAll ds ≤ 1048576)
def OpenSpec.upto (s : _root_.Go.ChangeSpec) : _root_.Go.OpenSpec := { _root_.Go.OpenSpec.ofChange s with cond := some uptoSmall }

/-- 'chronobatelaw18.GhostFine', WHERE WHAT IT READS IS OF BULK AT MOST 1048576: true; the input reads as it did. -/
def ghostFineUptoRow : OpenClaim := { program := "ytmniekljfhecaaa", sum := "64134c4e6c220c72701bf565c26abb8f77ac6b9dc709dec890c4bee14f0414f4", func := "chronobate/chronobatelaw18.GhostFine", spec := "ghostFine", apart := false, narrowed := true }
def GhostFineUptoSaid : Prop := ghostFineUptoRow.holds Try.pinned (OpenSpec.upto ghostFineSpec)

/-- 'chronobatelaw18.GhostScales', WHERE WHAT IT READS IS OF BULK AT MOST 1048576: true; the input reads as it did. -/
def ghostScalesUptoRow : OpenClaim := { program := "ytmniekljfhecaaa", sum := "64134c4e6c220c72701bf565c26abb8f77ac6b9dc709dec890c4bee14f0414f4", func := "chronobate/chronobatelaw18.GhostScales", spec := "ghostScales", apart := false, narrowed := true }
def GhostScalesUptoSaid : Prop := ghostScalesUptoRow.holds Try.pinned (OpenSpec.upto ghostScalesSpec)

/-- 'chronobatelaw18.GhostSteps', WHERE WHAT IT READS IS OF BULK AT MOST 1048576: true; the input reads as it did. -/
def ghostStepsUptoRow : OpenClaim := { program := "ytmniekljfhecaaa", sum := "64134c4e6c220c72701bf565c26abb8f77ac6b9dc709dec890c4bee14f0414f4", func := "chronobate/chronobatelaw18.GhostSteps", spec := "ghostSteps", unfollowed := true, recurses := true, apart := false, narrowed := true }
def GhostStepsUptoSaid : Prop := ghostStepsUptoRow.holds Try.pinned (OpenSpec.upto ghostStepsSpec)

/-- 'chronobatelaw18.GhostSums', WHERE WHAT IT READS IS OF BULK AT MOST 1048576: true; the input reads as it did. -/
def ghostSumsUptoRow : OpenClaim := { program := "ytmniekljfhecaaa", sum := "64134c4e6c220c72701bf565c26abb8f77ac6b9dc709dec890c4bee14f0414f4", func := "chronobate/chronobatelaw18.GhostSums", spec := "ghostSums", unfollowed := true, recurses := true, apart := false, narrowed := true }
def GhostSumsUptoSaid : Prop := ghostSumsUptoRow.holds Try.pinned (OpenSpec.upto ghostSumsSpec)

/-- 'chronobatelaw18.GhostEdges', WHERE WHAT IT READS IS OF BULK AT MOST 1048576: true; the input reads as it did. -/
def ghostEdgesUptoRow : OpenClaim := { program := "ytmniekljfhecaaa", sum := "64134c4e6c220c72701bf565c26abb8f77ac6b9dc709dec890c4bee14f0414f4", func := "chronobate/chronobatelaw18.GhostEdges", spec := "ghostEdges", named := ["math/bits.divideError", "math/bits.overflowError"], apart := false, narrowed := true }
def GhostEdgesUptoSaid : Prop := ghostEdgesUptoRow.holds Try.pinned (OpenSpec.upto ghostEdgesSpec)

/-- 'chronobatelaw18.GhostNear', WHERE WHAT IT READS IS OF BULK AT MOST 1048576: true; the input reads as it did. -/
def ghostNearUptoRow : OpenClaim := { program := "ytmniekljfhecaaa", sum := "64134c4e6c220c72701bf565c26abb8f77ac6b9dc709dec890c4bee14f0414f4", func := "chronobate/chronobatelaw18.GhostNear", spec := "ghostNear", unfollowed := true, recurses := true, named := ["math/bits.divideError", "math/bits.overflowError"], apart := false, narrowed := true }
def GhostNearUptoSaid : Prop := ghostNearUptoRow.holds Try.pinned (OpenSpec.upto ghostNearSpec)

end Rows
end Go.Proofs.Ytmniekljfhecaaa
