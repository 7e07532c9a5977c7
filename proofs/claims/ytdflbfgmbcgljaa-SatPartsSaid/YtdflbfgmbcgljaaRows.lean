/-
  No cell of these rows narrows 'for every input' (looked for: loops, veiled, ifaces, maps, wideKeys, modest, calm, conditions, laid).
  DERIVED. THE GIVEN ROWS OF THIS SEAT. 9 by the template 'for every input the law returns true; each argument reads behind the call as it read before'; 0 by the template 'total and deterministic' (their statements: YtdflbfgmbcgljaaTotals.lean).
  GIVEN WITH THE SEED: the statements are not yours to turn. If you find one false, say at which input.
  Laid BY PROGRAM, IN A SANDBOX (cutbox-rows.mjs): the forced cells as the released guide's own fill.sh prints them over the translation 800e1d6f8dc023f4… (all of the seat's roots in one cut). By AI agents, Wed Nov 11 2026. No macro, syntax, notation, axiom, sorry.
-/
import Derived.Test.YtdflbfgmbcgljaaChecked
import GoSem.Claim
import GoSem.ClaimJoined
import GoSem.ClaimMapViews
import Derived.JoinedTies
import Derived.KernelRfl
namespace Go.Proofs.Ytdflbfgmbcgljaa
/- THE CELL 'sum', in the pinned program and in every row, IS THE sha256 OF THE DUMP (.gsa) THAT YtdflbfgmbcgljaaProg.lean LOADS. Nothing in Lean hashes anything: it is a label: what it is worth is what the hold of that sum in a sandbox is worth. -/
noncomputable def Try.pinned : Pinned := { name := "ytdflbfgmbcgljaa", sum := "800e1d6f8dc023f4a08c80e70feba40b6d7695ce3b315eec06fb061218b42a70", checked := Try.checked }
namespace Rows
def none {H : Type} : Left H := { results := [], args := [] }

/-- 'chronobatelaw01.SatMuls': WHATEVER THE INPUT: true; the input reads as it did. -/
def satMulsSpec : ChangeSpec := { name := "satMuls", fn := fun _ => fun
  | [d1, d2, d3] => { results := [.lit (.bool true)], args := [d1, d2, d3] }
  | _ => none }
def satMulsRow : OpenClaim := { program := "ytdflbfgmbcgljaa", sum := "800e1d6f8dc023f4a08c80e70feba40b6d7695ce3b315eec06fb061218b42a70", func := "chronobate/chronobatelaw01.SatMuls", spec := "satMuls", named := ["math/bits.divideError", "math/bits.overflowError"], apart := false }
def SatMulsSaid : Prop := satMulsRow.holds Try.pinned (OpenSpec.ofChange satMulsSpec)

/-- ITS FALSE NEIGHBOUR: 'it returns false'. Refute it at one input. -/
def satMulsWrong : ChangeSpec := { name := "satMuls", fn := fun _ => fun
  | [d1, d2, d3] => { results := [.lit (.bool false)], args := [d1, d2, d3] }
  | _ => none }
def SatMulsWrongFalsely : Prop := satMulsRow.holds Try.pinned (OpenSpec.ofChange satMulsWrong)

/-- 'chronobatelaw01.SatMiddles': WHATEVER THE INPUT: true; the input reads as it did. -/
def satMiddlesSpec : ChangeSpec := { name := "satMiddles", fn := fun _ => fun
  | [d1, d2] => { results := [.lit (.bool true)], args := [d1, d2] }
  | _ => none }
def satMiddlesRow : OpenClaim := { program := "ytdflbfgmbcgljaa", sum := "800e1d6f8dc023f4a08c80e70feba40b6d7695ce3b315eec06fb061218b42a70", func := "chronobate/chronobatelaw01.SatMiddles", spec := "satMiddles", named := ["math/bits.divideError", "math/bits.overflowError"], apart := false }
def SatMiddlesSaid : Prop := satMiddlesRow.holds Try.pinned (OpenSpec.ofChange satMiddlesSpec)

/-- ITS FALSE NEIGHBOUR: 'it returns false'. Refute it at one input. -/
def satMiddlesWrong : ChangeSpec := { name := "satMiddles", fn := fun _ => fun
  | [d1, d2] => { results := [.lit (.bool false)], args := [d1, d2] }
  | _ => none }
def SatMiddlesWrongFalsely : Prop := satMiddlesRow.holds Try.pinned (OpenSpec.ofChange satMiddlesWrong)

/-- 'chronobatelaw01.SatParts': WHATEVER THE INPUT: true; the input reads as it did. -/
def satPartsSpec : ChangeSpec := { name := "satParts", fn := fun _ => fun
  | [d1, d2, d3] => { results := [.lit (.bool true)], args := [d1, d2, d3] }
  | _ => none }
def satPartsRow : OpenClaim := { program := "ytdflbfgmbcgljaa", sum := "800e1d6f8dc023f4a08c80e70feba40b6d7695ce3b315eec06fb061218b42a70", func := "chronobate/chronobatelaw01.SatParts", spec := "satParts", named := ["math/bits.divideError", "math/bits.overflowError"], apart := false }
def SatPartsSaid : Prop := satPartsRow.holds Try.pinned (OpenSpec.ofChange satPartsSpec)

/-- ITS FALSE NEIGHBOUR: 'it returns false'. Refute it at one input. -/
def satPartsWrong : ChangeSpec := { name := "satParts", fn := fun _ => fun
  | [d1, d2, d3] => { results := [.lit (.bool false)], args := [d1, d2, d3] }
  | _ => none }
def SatPartsWrongFalsely : Prop := satPartsRow.holds Try.pinned (OpenSpec.ofChange satPartsWrong)

/-- 'chronobatelaw01.SatAgain': WHATEVER THE INPUT: true; the input reads as it did. -/
def satAgainSpec : ChangeSpec := { name := "satAgain", fn := fun _ => fun
  | [d1, d2, d3] => { results := [.lit (.bool true)], args := [d1, d2, d3] }
  | _ => none }
def satAgainRow : OpenClaim := { program := "ytdflbfgmbcgljaa", sum := "800e1d6f8dc023f4a08c80e70feba40b6d7695ce3b315eec06fb061218b42a70", func := "chronobate/chronobatelaw01.SatAgain", spec := "satAgain", named := ["math/bits.divideError", "math/bits.overflowError"], apart := false }
def SatAgainSaid : Prop := satAgainRow.holds Try.pinned (OpenSpec.ofChange satAgainSpec)

/-- ITS FALSE NEIGHBOUR: 'it returns false'. Refute it at one input. -/
def satAgainWrong : ChangeSpec := { name := "satAgain", fn := fun _ => fun
  | [d1, d2, d3] => { results := [.lit (.bool false)], args := [d1, d2, d3] }
  | _ => none }
def SatAgainWrongFalsely : Prop := satAgainRow.holds Try.pinned (OpenSpec.ofChange satAgainWrong)

/-- 'chronobatelaw01.SatTwice': WHATEVER THE INPUT: true; the input reads as it did. -/
def satTwiceSpec : ChangeSpec := { name := "satTwice", fn := fun _ => fun
  | [d1, d2] => { results := [.lit (.bool true)], args := [d1, d2] }
  | _ => none }
def satTwiceRow : OpenClaim := { program := "ytdflbfgmbcgljaa", sum := "800e1d6f8dc023f4a08c80e70feba40b6d7695ce3b315eec06fb061218b42a70", func := "chronobate/chronobatelaw01.SatTwice", spec := "satTwice", named := ["math/bits.divideError", "math/bits.overflowError"], apart := false }
def SatTwiceSaid : Prop := satTwiceRow.holds Try.pinned (OpenSpec.ofChange satTwiceSpec)

/-- ITS FALSE NEIGHBOUR: 'it returns false'. Refute it at one input. -/
def satTwiceWrong : ChangeSpec := { name := "satTwice", fn := fun _ => fun
  | [d1, d2] => { results := [.lit (.bool false)], args := [d1, d2] }
  | _ => none }
def SatTwiceWrongFalsely : Prop := satTwiceRow.holds Try.pinned (OpenSpec.ofChange satTwiceWrong)

/-- 'chronobatelaw01.SatAdds': WHATEVER THE INPUT: true; the input reads as it did. -/
def satAddsSpec : ChangeSpec := { name := "satAdds", fn := fun _ => fun
  | [d1, d2] => { results := [.lit (.bool true)], args := [d1, d2] }
  | _ => none }
def satAddsRow : OpenClaim := { program := "ytdflbfgmbcgljaa", sum := "800e1d6f8dc023f4a08c80e70feba40b6d7695ce3b315eec06fb061218b42a70", func := "chronobate/chronobatelaw01.SatAdds", spec := "satAdds", named := ["math/bits.divideError", "math/bits.overflowError"], apart := false }
def SatAddsSaid : Prop := satAddsRow.holds Try.pinned (OpenSpec.ofChange satAddsSpec)

/-- ITS FALSE NEIGHBOUR: 'it returns false'. Refute it at one input. -/
def satAddsWrong : ChangeSpec := { name := "satAdds", fn := fun _ => fun
  | [d1, d2] => { results := [.lit (.bool false)], args := [d1, d2] }
  | _ => none }
def SatAddsWrongFalsely : Prop := satAddsRow.holds Try.pinned (OpenSpec.ofChange satAddsWrong)

/-- 'chronobatelaw01.SatBacks': WHATEVER THE INPUT: true; the input reads as it did. -/
def satBacksSpec : ChangeSpec := { name := "satBacks", fn := fun _ => fun
  | [d1, d2] => { results := [.lit (.bool true)], args := [d1, d2] }
  | _ => none }
def satBacksRow : OpenClaim := { program := "ytdflbfgmbcgljaa", sum := "800e1d6f8dc023f4a08c80e70feba40b6d7695ce3b315eec06fb061218b42a70", func := "chronobate/chronobatelaw01.SatBacks", spec := "satBacks", named := ["math/bits.divideError", "math/bits.overflowError"], apart := false }
def SatBacksSaid : Prop := satBacksRow.holds Try.pinned (OpenSpec.ofChange satBacksSpec)

/-- ITS FALSE NEIGHBOUR: 'it returns false'. Refute it at one input. -/
def satBacksWrong : ChangeSpec := { name := "satBacks", fn := fun _ => fun
  | [d1, d2] => { results := [.lit (.bool false)], args := [d1, d2] }
  | _ => none }
def SatBacksWrongFalsely : Prop := satBacksRow.holds Try.pinned (OpenSpec.ofChange satBacksWrong)

/-- 'chronobatelaw01.SatClamps': WHATEVER THE INPUT: true; the input reads as it did. -/
def satClampsSpec : ChangeSpec := { name := "satClamps", fn := fun _ => fun
  | [d1, d2, d3] => { results := [.lit (.bool true)], args := [d1, d2, d3] }
  | _ => none }
def satClampsRow : OpenClaim := { program := "ytdflbfgmbcgljaa", sum := "800e1d6f8dc023f4a08c80e70feba40b6d7695ce3b315eec06fb061218b42a70", func := "chronobate/chronobatelaw01.SatClamps", spec := "satClamps", named := ["math/bits.divideError", "math/bits.overflowError"], apart := false }
def SatClampsSaid : Prop := satClampsRow.holds Try.pinned (OpenSpec.ofChange satClampsSpec)

/-- ITS FALSE NEIGHBOUR: 'it returns false'. Refute it at one input. -/
def satClampsWrong : ChangeSpec := { name := "satClamps", fn := fun _ => fun
  | [d1, d2, d3] => { results := [.lit (.bool false)], args := [d1, d2, d3] }
  | _ => none }
def SatClampsWrongFalsely : Prop := satClampsRow.holds Try.pinned (OpenSpec.ofChange satClampsWrong)

/-- 'chronobatelaw01.SatSides': WHATEVER THE INPUT: true; the input reads as it did. -/
def satSidesSpec : ChangeSpec := { name := "satSides", fn := fun _ => fun
  | [d1, d2, d3] => { results := [.lit (.bool true)], args := [d1, d2, d3] }
  | _ => none }
def satSidesRow : OpenClaim := { program := "ytdflbfgmbcgljaa", sum := "800e1d6f8dc023f4a08c80e70feba40b6d7695ce3b315eec06fb061218b42a70", func := "chronobate/chronobatelaw01.SatSides", spec := "satSides", named := ["math/bits.divideError", "math/bits.overflowError"], apart := false }
def SatSidesSaid : Prop := satSidesRow.holds Try.pinned (OpenSpec.ofChange satSidesSpec)

/-- ITS FALSE NEIGHBOUR: 'it returns false'. Refute it at one input. -/
def satSidesWrong : ChangeSpec := { name := "satSides", fn := fun _ => fun
  | [d1, d2, d3] => { results := [.lit (.bool false)], args := [d1, d2, d3] }
  | _ => none }
def SatSidesWrongFalsely : Prop := satSidesRow.holds Try.pinned (OpenSpec.ofChange satSidesWrong)

/- THE SECOND FORM. 'bulk': how many values and letters a reading holds, each counted each time it is reached (what is shared counts as often as it is met; a slice's spare places count too). A statement '..UptoSaid' is the law's where the arguments, and the package variables that the reading takes, are together of bulk at most 1048576: NARROWER than '..Said'. Prove '..Said' where nothing that the law and all that it calls make is longer than what came in: it says more and counts as full. Else prove '..UptoSaid'. A law counts once. -/
mutual
def uptoBulk {H : Type} : DataW H → Nat
  | .lit (.string bytes) => bytes.length + 1
  | .lit _ => 1
  | .nil => 1
  | .ptr d => uptoBulk d + 1
  | .slice elems spare => uptoBulkAll elems + uptoBulkAll spare + 1
  | .agg parts => uptoBulkAll parts + 1
  | .iface _ d => uptoBulk d + 1
  | .map entries => uptoBulkEntries entries + 1
  | .held _ => 1
def uptoBulkAll {H : Type} : List (DataW H) → Nat
  | [] => 0
  | d :: r => uptoBulk d + uptoBulkAll r
def uptoBulkEntries {H : Type} : List (Lit × DataW H) → Nat
  | [] => 0
  | x :: r => uptoBulkEntry x + uptoBulkEntries r
def uptoBulkEntry {H : Type} : Lit × DataW H → Nat
  | (.string bytes, d) => bytes.length + uptoBulk d + 1
  | (_, d) => uptoBulk d + 1
 end
def uptoSmall : (H : Type) → List (DataW H) → Bool := fun _ ds => decide (uptoBulkAll ds ≤ 1048576)
def OpenSpec.upto (s : _root_.Go.ChangeSpec) : _root_.Go.OpenSpec := { _root_.Go.OpenSpec.ofChange s with cond := some uptoSmall }

/-- 'chronobatelaw01.SatMuls', WHERE WHAT IT READS IS OF BULK AT MOST 1048576: true; the input reads as it did. -/
def satMulsUptoRow : OpenClaim := { program := "ytdflbfgmbcgljaa", sum := "800e1d6f8dc023f4a08c80e70feba40b6d7695ce3b315eec06fb061218b42a70", func := "chronobate/chronobatelaw01.SatMuls", spec := "satMuls", named := ["math/bits.divideError", "math/bits.overflowError"], apart := false, narrowed := true }
def SatMulsUptoSaid : Prop := satMulsUptoRow.holds Try.pinned (OpenSpec.upto satMulsSpec)

/-- 'chronobatelaw01.SatMiddles', WHERE WHAT IT READS IS OF BULK AT MOST 1048576: true; the input reads as it did. -/
def satMiddlesUptoRow : OpenClaim := { program := "ytdflbfgmbcgljaa", sum := "800e1d6f8dc023f4a08c80e70feba40b6d7695ce3b315eec06fb061218b42a70", func := "chronobate/chronobatelaw01.SatMiddles", spec := "satMiddles", named := ["math/bits.divideError", "math/bits.overflowError"], apart := false, narrowed := true }
def SatMiddlesUptoSaid : Prop := satMiddlesUptoRow.holds Try.pinned (OpenSpec.upto satMiddlesSpec)

/-- 'chronobatelaw01.SatParts', WHERE WHAT IT READS IS OF BULK AT MOST 1048576: true; the input reads as it did. -/
def satPartsUptoRow : OpenClaim := { program := "ytdflbfgmbcgljaa", sum := "800e1d6f8dc023f4a08c80e70feba40b6d7695ce3b315eec06fb061218b42a70", func := "chronobate/chronobatelaw01.SatParts", spec := "satParts", named := ["math/bits.divideError", "math/bits.overflowError"], apart := false, narrowed := true }
def SatPartsUptoSaid : Prop := satPartsUptoRow.holds Try.pinned (OpenSpec.upto satPartsSpec)

/-- 'chronobatelaw01.SatAgain', WHERE WHAT IT READS IS OF BULK AT MOST 1048576: true; the input reads as it did. -/
def satAgainUptoRow : OpenClaim := { program := "ytdflbfgmbcgljaa", sum := "800e1d6f8dc023f4a08c80e70feba40b6d7695ce3b315eec06fb061218b42a70", func := "chronobate/chronobatelaw01.SatAgain", spec := "satAgain", named := ["math/bits.divideError", "math/bits.overflowError"], apart := false, narrowed := true }
def SatAgainUptoSaid : Prop := satAgainUptoRow.holds Try.pinned (OpenSpec.upto satAgainSpec)

/-- 'chronobatelaw01.SatTwice', WHERE WHAT IT READS IS OF BULK AT MOST 1048576: true; the input reads as it did. -/
def satTwiceUptoRow : OpenClaim := { program := "ytdflbfgmbcgljaa", sum := "800e1d6f8dc023f4a08c80e70feba40b6d7695ce3b315eec06fb061218b42a70", func := "chronobate/chronobatelaw01.SatTwice", spec := "satTwice", named := ["math/bits.divideError", "math/bits.overflowError"], apart := false, narrowed := true }
def SatTwiceUptoSaid : Prop := satTwiceUptoRow.holds Try.pinned (OpenSpec.upto satTwiceSpec)

/-- 'chronobatelaw01.SatAdds', WHERE WHAT IT READS IS OF BULK AT MOST 1048576: true; the input reads as it did. -/
def satAddsUptoRow : OpenClaim := { program := "ytdflbfgmbcgljaa", sum := "800e1d6f8dc023f4a08c80e70feba40b6d7695ce3b315eec06fb061218b42a70", func := "chronobate/chronobatelaw01.SatAdds", spec := "satAdds", named := ["math/bits.divideError", "math/bits.overflowError"], apart := false, narrowed := true }
def SatAddsUptoSaid : Prop := satAddsUptoRow.holds Try.pinned (OpenSpec.upto satAddsSpec)

/-- 'chronobatelaw01.SatBacks', WHERE WHAT IT READS IS OF BULK AT MOST 1048576: true; the input reads as it did. -/
def satBacksUptoRow : OpenClaim := { program := "ytdflbfgmbcgljaa", sum := "800e1d6f8dc023f4a08c80e70feba40b6d7695ce3b315eec06fb061218b42a70", func := "chronobate/chronobatelaw01.SatBacks", spec := "satBacks", named := ["math/bits.divideError", "math/bits.overflowError"], apart := false, narrowed := true }
def SatBacksUptoSaid : Prop := satBacksUptoRow.holds Try.pinned (OpenSpec.upto satBacksSpec)

/-- 'chronobatelaw01.SatClamps', WHERE WHAT IT READS IS OF BULK AT MOST 1048576: true; the input reads as it did. -/
def satClampsUptoRow : OpenClaim := { program := "ytdflbfgmbcgljaa", sum := "800e1d6f8dc023f4a08c80e70feba40b6d7695ce3b315eec06fb061218b42a70", func := "chronobate/chronobatelaw01.SatClamps", spec := "satClamps", named := ["math/bits.divideError", "math/bits.overflowError"], apart := false, narrowed := true }
def SatClampsUptoSaid : Prop := satClampsUptoRow.holds Try.pinned (OpenSpec.upto satClampsSpec)

/-- 'chronobatelaw01.SatSides', WHERE WHAT IT READS IS OF BULK AT MOST 1048576: true; the input reads as it did. -/
def satSidesUptoRow : OpenClaim := { program := "ytdflbfgmbcgljaa", sum := "800e1d6f8dc023f4a08c80e70feba40b6d7695ce3b315eec06fb061218b42a70", func := "chronobate/chronobatelaw01.SatSides", spec := "satSides", named := ["math/bits.divideError", "math/bits.overflowError"], apart := false, narrowed := true }
def SatSidesUptoSaid : Prop := satSidesUptoRow.holds Try.pinned (OpenSpec.upto satSidesSpec)

end Rows
end Go.Proofs.Ytdflbfgmbcgljaa
