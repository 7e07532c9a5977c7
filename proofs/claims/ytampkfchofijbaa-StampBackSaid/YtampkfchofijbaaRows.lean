/-
  No cell of these rows narrows 'for every input' (looked for: loops, veiled, ifaces, maps, wideKeys, modest, calm, conditions, laid).
  DERIVED. THE GIVEN ROWS OF THIS SEAT. 7 by the template 'for every input the law returns true; each argument reads behind the call as it read before'; 0 by the template 'total and deterministic' (their statements: YtampkfchofijbaaTotals.lean).
  GIVEN WITH THE SEED: the statements are not yours to turn. If you find one false, say at which input.
  Laid BY PROGRAM, IN A SANDBOX (cutbox-rows.mjs): the forced cells as the released guide's own fill.sh prints them over the translation fd3a5c94421ae67d… (all of the seat's roots in one cut). By AI agents, Wed Nov 11 2026. No macro, syntax, notation, axiom, sorry.
-/
import Derived.Test.YtampkfchofijbaaChecked
import GoSem.Claim
import GoSem.ClaimJoined
import GoSem.ClaimMapViews
import Derived.JoinedTies
import Derived.KernelRfl
namespace Go.Proofs.Ytampkfchofijbaa
/- THE CELL 'sum', in the pinned program and in every row, IS THE sha256 OF THE DUMP (.gsa) THAT YtampkfchofijbaaProg.lean LOADS. Nothing in Lean hashes anything: it is a label: what it is worth is what the hold of that sum in a sandbox is worth. -/
noncomputable def Try.pinned : Pinned := { name := "ytampkfchofijbaa", sum := "fd3a5c94421ae67d338047aa1b70cfeb8e4b98c3bc81628d7d8162808e6074ab", checked := Try.checked }
namespace Rows
def none {H : Type} : Left H := { results := [], args := [] }

/-- 'chronobatelaw02.StampOrder': WHATEVER THE INPUT: true; the input reads as it did. -/
def stampOrderSpec : ChangeSpec := { name := "stampOrder", fn := fun _ => fun
  | [d1, d2, d3] => { results := [.lit (.bool true)], args := [d1, d2, d3] }
  | _ => none }
def stampOrderRow : OpenClaim := { program := "ytampkfchofijbaa", sum := "fd3a5c94421ae67d338047aa1b70cfeb8e4b98c3bc81628d7d8162808e6074ab", func := "chronobate/chronobatelaw02.StampOrder", spec := "stampOrder", named := ["math/bits.divideError", "math/bits.overflowError"], apart := false }
def StampOrderSaid : Prop := stampOrderRow.holds Try.pinned (OpenSpec.ofChange stampOrderSpec)

/-- ITS FALSE NEIGHBOUR: 'it returns false'. Refute it at one input. -/
def stampOrderWrong : ChangeSpec := { name := "stampOrder", fn := fun _ => fun
  | [d1, d2, d3] => { results := [.lit (.bool false)], args := [d1, d2, d3] }
  | _ => none }
def StampOrderWrongFalsely : Prop := stampOrderRow.holds Try.pinned (OpenSpec.ofChange stampOrderWrong)

/-- 'chronobatelaw02.StampRounds': WHATEVER THE INPUT: true; the input reads as it did. -/
def stampRoundsSpec : ChangeSpec := { name := "stampRounds", fn := fun _ => fun
  | [d] => { results := [.lit (.bool true)], args := [d] }
  | _ => none }
def stampRoundsRow : OpenClaim := { program := "ytampkfchofijbaa", sum := "fd3a5c94421ae67d338047aa1b70cfeb8e4b98c3bc81628d7d8162808e6074ab", func := "chronobate/chronobatelaw02.StampRounds", spec := "stampRounds", named := ["math/bits.divideError", "math/bits.overflowError"], apart := false }
def StampRoundsSaid : Prop := stampRoundsRow.holds Try.pinned (OpenSpec.ofChange stampRoundsSpec)

/-- ITS FALSE NEIGHBOUR: 'it returns false'. Refute it at one input. -/
def stampRoundsWrong : ChangeSpec := { name := "stampRounds", fn := fun _ => fun
  | [d] => { results := [.lit (.bool false)], args := [d] }
  | _ => none }
def StampRoundsWrongFalsely : Prop := stampRoundsRow.holds Try.pinned (OpenSpec.ofChange stampRoundsWrong)

/-- 'chronobatelaw02.StampSums': WHATEVER THE INPUT: true; the input reads as it did. -/
def stampSumsSpec : ChangeSpec := { name := "stampSums", fn := fun _ => fun
  | [d1, d2] => { results := [.lit (.bool true)], args := [d1, d2] }
  | _ => none }
def stampSumsRow : OpenClaim := { program := "ytampkfchofijbaa", sum := "fd3a5c94421ae67d338047aa1b70cfeb8e4b98c3bc81628d7d8162808e6074ab", func := "chronobate/chronobatelaw02.StampSums", spec := "stampSums", named := ["math/bits.divideError", "math/bits.overflowError"], apart := false }
def StampSumsSaid : Prop := stampSumsRow.holds Try.pinned (OpenSpec.ofChange stampSumsSpec)

/-- ITS FALSE NEIGHBOUR: 'it returns false'. Refute it at one input. -/
def stampSumsWrong : ChangeSpec := { name := "stampSums", fn := fun _ => fun
  | [d1, d2] => { results := [.lit (.bool false)], args := [d1, d2] }
  | _ => none }
def StampSumsWrongFalsely : Prop := stampSumsRow.holds Try.pinned (OpenSpec.ofChange stampSumsWrong)

/-- 'chronobatelaw02.StampTells': WHATEVER THE INPUT: true; the input reads as it did. -/
def stampTellsSpec : ChangeSpec := { name := "stampTells", fn := fun _ => fun
  | [d1, d2] => { results := [.lit (.bool true)], args := [d1, d2] }
  | _ => none }
def stampTellsRow : OpenClaim := { program := "ytampkfchofijbaa", sum := "fd3a5c94421ae67d338047aa1b70cfeb8e4b98c3bc81628d7d8162808e6074ab", func := "chronobate/chronobatelaw02.StampTells", spec := "stampTells", named := ["math/bits.divideError", "math/bits.overflowError"], apart := false }
def StampTellsSaid : Prop := stampTellsRow.holds Try.pinned (OpenSpec.ofChange stampTellsSpec)

/-- ITS FALSE NEIGHBOUR: 'it returns false'. Refute it at one input. -/
def stampTellsWrong : ChangeSpec := { name := "stampTells", fn := fun _ => fun
  | [d1, d2] => { results := [.lit (.bool false)], args := [d1, d2] }
  | _ => none }
def StampTellsWrongFalsely : Prop := stampTellsRow.holds Try.pinned (OpenSpec.ofChange stampTellsWrong)

/-- 'chronobatelaw02.StampParts': WHATEVER THE INPUT: true; the input reads as it did. -/
def stampPartsSpec : ChangeSpec := { name := "stampParts", fn := fun _ => fun
  | [d1, d2] => { results := [.lit (.bool true)], args := [d1, d2] }
  | _ => none }
def stampPartsRow : OpenClaim := { program := "ytampkfchofijbaa", sum := "fd3a5c94421ae67d338047aa1b70cfeb8e4b98c3bc81628d7d8162808e6074ab", func := "chronobate/chronobatelaw02.StampParts", spec := "stampParts", named := ["math/bits.divideError", "math/bits.overflowError"], apart := false }
def StampPartsSaid : Prop := stampPartsRow.holds Try.pinned (OpenSpec.ofChange stampPartsSpec)

/-- ITS FALSE NEIGHBOUR: 'it returns false'. Refute it at one input. -/
def stampPartsWrong : ChangeSpec := { name := "stampParts", fn := fun _ => fun
  | [d1, d2] => { results := [.lit (.bool false)], args := [d1, d2] }
  | _ => none }
def StampPartsWrongFalsely : Prop := stampPartsRow.holds Try.pinned (OpenSpec.ofChange stampPartsWrong)

/-- 'chronobatelaw02.StampDiffs': WHATEVER THE INPUT: true; the input reads as it did. -/
def stampDiffsSpec : ChangeSpec := { name := "stampDiffs", fn := fun _ => fun
  | [d1, d2, d3] => { results := [.lit (.bool true)], args := [d1, d2, d3] }
  | _ => none }
def stampDiffsRow : OpenClaim := { program := "ytampkfchofijbaa", sum := "fd3a5c94421ae67d338047aa1b70cfeb8e4b98c3bc81628d7d8162808e6074ab", func := "chronobate/chronobatelaw02.StampDiffs", spec := "stampDiffs", named := ["math/bits.divideError", "math/bits.overflowError"], apart := false }
def StampDiffsSaid : Prop := stampDiffsRow.holds Try.pinned (OpenSpec.ofChange stampDiffsSpec)

/-- ITS FALSE NEIGHBOUR: 'it returns false'. Refute it at one input. -/
def stampDiffsWrong : ChangeSpec := { name := "stampDiffs", fn := fun _ => fun
  | [d1, d2, d3] => { results := [.lit (.bool false)], args := [d1, d2, d3] }
  | _ => none }
def StampDiffsWrongFalsely : Prop := stampDiffsRow.holds Try.pinned (OpenSpec.ofChange stampDiffsWrong)

/-- 'chronobatelaw02.StampBack': WHATEVER THE INPUT: true; the input reads as it did. -/
def stampBackSpec : ChangeSpec := { name := "stampBack", fn := fun _ => fun
  | [d1, d2, d3] => { results := [.lit (.bool true)], args := [d1, d2, d3] }
  | _ => none }
def stampBackRow : OpenClaim := { program := "ytampkfchofijbaa", sum := "fd3a5c94421ae67d338047aa1b70cfeb8e4b98c3bc81628d7d8162808e6074ab", func := "chronobate/chronobatelaw02.StampBack", spec := "stampBack", named := ["math/bits.divideError", "math/bits.overflowError"], apart := false }
def StampBackSaid : Prop := stampBackRow.holds Try.pinned (OpenSpec.ofChange stampBackSpec)

/-- ITS FALSE NEIGHBOUR: 'it returns false'. Refute it at one input. -/
def stampBackWrong : ChangeSpec := { name := "stampBack", fn := fun _ => fun
  | [d1, d2, d3] => { results := [.lit (.bool false)], args := [d1, d2, d3] }
  | _ => none }
def StampBackWrongFalsely : Prop := stampBackRow.holds Try.pinned (OpenSpec.ofChange stampBackWrong)

/- THE SECOND FORM. 'bulk': how many values and letters a reading holds, each counted each time it is reached (what is shared counts as often as it is met; a slice's spare places count too). A statement '..UptoSaid' is the law's where the arguments, and the package variables that the reading takes, are together of bulk at most 1048576: NARROWER than '..Said'. Prove '..Said' where nothing that the law and all that it calls make is longer than what came in: it says more and counts as full. Else prove '..UptoSaid'. A law counts once. -/
mutual
def uptoBulk {H : Type} : DataW H → Nat
  | .lit (.string bytes) => bytes.length + 1
  | .lit _ => 1
  | .nil => 1
  | .ptr d => uptoBulk d + 1
  | .slice elems spare => uptoBulkAll elems + uptoBulkAll spare + 1
  | .agg parts => uptoBulkAll parts + 1
  | .iface _ d => uptoBulk d + 1
  | .map entries => uptoBulkEntries entries + 1
  | .held _ => 1
def uptoBulkAll {H : Type} : List (DataW H) → Nat
  | [] => 0
  | d :: r => uptoBulk d + uptoBulkAll r
def uptoBulkEntries {H : Type} : List (Lit × DataW H) → Nat
  | [] => 0
  | x :: r => uptoBulkEntry x + uptoBulkEntries r
def uptoBulkEntry {H : Type} : Lit × DataW H → Nat
  | (.string bytes, d) => bytes.length + uptoBulk d + 1
  | (_, d) => uptoBulk d + 1
 end
def uptoSmall : (H : Type) → List (DataW H) → Bool := fun _ ds => decide (uptoBulkAll ds ≤ 1048576)
def OpenSpec.upto (s : _root_.Go.ChangeSpec) : _root_.Go.OpenSpec := { _root_.Go.OpenSpec.ofChange s with cond := some uptoSmall }

/-- 'chronobatelaw02.StampOrder', WHERE WHAT IT READS IS OF BULK AT MOST 1048576: true; the input reads as it did. -/
def stampOrderUptoRow : OpenClaim := { program := "ytampkfchofijbaa", sum := "fd3a5c94421ae67d338047aa1b70cfeb8e4b98c3bc81628d7d8162808e6074ab", func := "chronobate/chronobatelaw02.StampOrder", spec := "stampOrder", named := ["math/bits.divideError", "math/bits.overflowError"], apart := false, narrowed := true }
def StampOrderUptoSaid : Prop := stampOrderUptoRow.holds Try.pinned (OpenSpec.upto stampOrderSpec)

/-- 'chronobatelaw02.StampRounds', WHERE WHAT IT READS IS OF BULK AT MOST 1048576: true; the input reads as it did. -/
def stampRoundsUptoRow : OpenClaim := { program := "ytampkfchofijbaa", sum := "fd3a5c94421ae67d338047aa1b70cfeb8e4b98c3bc81628d7d8162808e6074ab", func := "chronobate/chronobatelaw02.StampRounds", spec := "stampRounds", named := ["math/bits.divideError", "math/bits.overflowError"], apart := false, narrowed := true }
def StampRoundsUptoSaid : Prop := stampRoundsUptoRow.holds Try.pinned (OpenSpec.upto stampRoundsSpec)

/-- 'chronobatelaw02.StampSums', WHERE WHAT IT READS IS OF BULK AT MOST 1048576: true; the input reads as it did. -/
def stampSumsUptoRow : OpenClaim := { program := "ytampkfchofijbaa", sum := "fd3a5c94421ae67d338047aa1b70cfeb8e4b98c3bc81628d7d8162808e6074ab", func := "chronobate/chronobatelaw02.StampSums", spec := "stampSums", named := ["math/bits.divideError", "math/bits.overflowError"], apart := false, narrowed := true }
def StampSumsUptoSaid : Prop := stampSumsUptoRow.holds Try.pinned (OpenSpec.upto stampSumsSpec)

/-- 'chronobatelaw02.StampTells', WHERE WHAT IT READS IS OF BULK AT MOST 1048576: true; the input reads as it did. -/
def stampTellsUptoRow : OpenClaim := { program := "ytampkfchofijbaa", sum := "fd3a5c94421ae67d338047aa1b70cfeb8e4b98c3bc81628d7d8162808e6074ab", func := "chronobate/chronobatelaw02.StampTells", spec := "stampTells", named := ["math/bits.divideError", "math/bits.overflowError"], apart := false, narrowed := true }
def StampTellsUptoSaid : Prop := stampTellsUptoRow.holds Try.pinned (OpenSpec.upto stampTellsSpec)

/-- 'chronobatelaw02.StampParts', WHERE WHAT IT READS IS OF BULK AT MOST 1048576: true; the input reads as it did. -/
def stampPartsUptoRow : OpenClaim := { program := "ytampkfchofijbaa", sum := "fd3a5c94421ae67d338047aa1b70cfeb8e4b98c3bc81628d7d8162808e6074ab", func := "chronobate/chronobatelaw02.StampParts", spec := "stampParts", named := ["math/bits.divideError", "math/bits.overflowError"], apart := false, narrowed := true }
def StampPartsUptoSaid : Prop := stampPartsUptoRow.holds Try.pinned (OpenSpec.upto stampPartsSpec)

/-- 'chronobatelaw02.StampDiffs', WHERE WHAT IT READS IS OF BULK AT MOST 1048576: true; the input reads as it did. -/
def stampDiffsUptoRow : OpenClaim := { program := "ytampkfchofijbaa", sum := "fd3a5c94421ae67d338047aa1b70cfeb8e4b98c3bc81628d7d8162808e6074ab", func := "chronobate/chronobatelaw02.StampDiffs", spec := "stampDiffs", named := ["math/bits.divideError", "math/bits.overflowError"], apart := false, narrowed := true }
def StampDiffsUptoSaid : Prop := stampDiffsUptoRow.holds Try.pinned (OpenSpec.upto stampDiffsSpec)

/-- 'chronobatelaw02.StampBack', WHERE WHAT IT READS IS OF BULK AT MOST 1048576: true; the input reads as it did. -/
def stampBackUptoRow : OpenClaim := { program := "ytampkfchofijbaa", sum := "fd3a5c94421ae67d338047aa1b70cfeb8e4b98c3bc81628d7d8162808e6074ab", func := "chronobate/chronobatelaw02.StampBack", spec := "stampBack", named := ["math/bits.divideError", "math/bits.overflowError"], apart := false, narrowed := true }
def StampBackUptoSaid : Prop := stampBackUptoRow.holds Try.pinned (OpenSpec.upto stampBackSpec)

end Rows
end Go.Proofs.Ytampkfchofijbaa
