/-
  No cell of these rows narrows 'for every input' (looked for: loops, veiled, ifaces, maps, wideKeys, modest, calm, conditions, laid).
  DERIVED. THE GIVEN ROWS OF THIS SEAT. 7 by the template 'for every input the law returns true; each argument reads behind the call as it read before'; 0 by the template 'total and deterministic' (their statements: YtableianhaojcaaTotals.lean).
  GIVEN WITH THE SEED: the statements are not yours to turn. If you find one false, say at which input.
  Laid BY PROGRAM, IN A SANDBOX (cutbox-rows.mjs): the forced cells as the released guide's own fill.sh prints them over the translation 8f1efbf8951aea02… (all of the seat's roots in one cut). By AI agents, Wed Nov 11 2026. No macro, syntax, notation, axiom, sorry.
-/
import Derived.Test.YtableianhaojcaaChecked
import GoSem.Claim
import GoSem.ClaimJoined
import GoSem.ClaimMapViews
import Derived.JoinedTies
import Derived.KernelRfl
namespace Go.Proofs.Ytableianhaojcaa
/- THE CELL 'sum', in the pinned program and in every row, IS THE sha256 OF THE DUMP (.gsa) THAT YtableianhaojcaaProg.lean LOADS. Nothing in Lean hashes anything: it is a label: what it is worth is what the hold of that sum in a sandbox is worth. -/
noncomputable def Try.pinned : Pinned := { name := "ytableianhaojcaa", sum := "8f1efbf8951aea02ec6bc3283bca6f94f6e647ce02b2547fab26bd8f98000782", checked := Try.checked }
namespace Rows
def none {H : Type} : Left H := { results := [], args := [] }

/-- 'chronobatelaw14.PeerSilent': WHATEVER THE INPUT: true; the input reads as it did. -/
def peerSilentSpec : ChangeSpec := { name := "peerSilent", fn := fun _ => fun
  | [d1, d2] => { results := [.lit (.bool true)], args := [d1, d2] }
  | _ => none }
def peerSilentRow : OpenClaim := { program := "ytableianhaojcaa", sum := "8f1efbf8951aea02ec6bc3283bca6f94f6e647ce02b2547fab26bd8f98000782", func := "chronobate/chronobatelaw14.PeerSilent", spec := "peerSilent", unfollowed := true, recurses := true, apart := false }
def PeerSilentSaid : Prop := peerSilentRow.holds Try.pinned (OpenSpec.ofChange peerSilentSpec)

/-- ITS FALSE NEIGHBOUR: 'it returns false'. Refute it at one input. -/
def peerSilentWrong : ChangeSpec := { name := "peerSilent", fn := fun _ => fun
  | [d1, d2] => { results := [.lit (.bool false)], args := [d1, d2] }
  | _ => none }
def PeerSilentWrongFalsely : Prop := peerSilentRow.holds Try.pinned (OpenSpec.ofChange peerSilentWrong)

/-- 'chronobatelaw14.PeerNone': WHATEVER THE INPUT: true; the input reads as it did. -/
def peerNoneSpec : ChangeSpec := { name := "peerNone", fn := fun _ => fun
  | [d1, d2, d3] => { results := [.lit (.bool true)], args := [d1, d2, d3] }
  | _ => none }
def peerNoneRow : OpenClaim := { program := "ytableianhaojcaa", sum := "8f1efbf8951aea02ec6bc3283bca6f94f6e647ce02b2547fab26bd8f98000782", func := "chronobate/chronobatelaw14.PeerNone", spec := "peerNone", unfollowed := true, recurses := true, named := ["math/bits.divideError", "math/bits.overflowError"], apart := false }
def PeerNoneSaid : Prop := peerNoneRow.holds Try.pinned (OpenSpec.ofChange peerNoneSpec)

/-- ITS FALSE NEIGHBOUR: 'it returns false'. Refute it at one input. -/
def peerNoneWrong : ChangeSpec := { name := "peerNone", fn := fun _ => fun
  | [d1, d2, d3] => { results := [.lit (.bool false)], args := [d1, d2, d3] }
  | _ => none }
def PeerNoneWrongFalsely : Prop := peerNoneRow.holds Try.pinned (OpenSpec.ofChange peerNoneWrong)

/-- 'chronobatelaw14.PeerSpaces': WHATEVER THE INPUT: true; the input reads as it did. -/
def peerSpacesSpec : ChangeSpec := { name := "peerSpaces", fn := fun _ => fun
  | [d1, d2] => { results := [.lit (.bool true)], args := [d1, d2] }
  | _ => none }
def peerSpacesRow : OpenClaim := { program := "ytableianhaojcaa", sum := "8f1efbf8951aea02ec6bc3283bca6f94f6e647ce02b2547fab26bd8f98000782", func := "chronobate/chronobatelaw14.PeerSpaces", spec := "peerSpaces", unfollowed := true, recurses := true, named := ["math/bits.divideError", "math/bits.overflowError"], apart := false }
def PeerSpacesSaid : Prop := peerSpacesRow.holds Try.pinned (OpenSpec.ofChange peerSpacesSpec)

/-- ITS FALSE NEIGHBOUR: 'it returns false'. Refute it at one input. -/
def peerSpacesWrong : ChangeSpec := { name := "peerSpaces", fn := fun _ => fun
  | [d1, d2] => { results := [.lit (.bool false)], args := [d1, d2] }
  | _ => none }
def PeerSpacesWrongFalsely : Prop := peerSpacesRow.holds Try.pinned (OpenSpec.ofChange peerSpacesWrong)

/-- 'chronobatelaw14.PeerKept': WHATEVER THE INPUT: true; the input reads as it did. -/
def peerKeptSpec : ChangeSpec := { name := "peerKept", fn := fun _ => fun
  | [d1, d2, d3] => { results := [.lit (.bool true)], args := [d1, d2, d3] }
  | _ => none }
def peerKeptRow : OpenClaim := { program := "ytableianhaojcaa", sum := "8f1efbf8951aea02ec6bc3283bca6f94f6e647ce02b2547fab26bd8f98000782", func := "chronobate/chronobatelaw14.PeerKept", spec := "peerKept", unfollowed := true, recurses := true, named := ["math/bits.divideError", "math/bits.overflowError"], apart := false }
def PeerKeptSaid : Prop := peerKeptRow.holds Try.pinned (OpenSpec.ofChange peerKeptSpec)

/-- ITS FALSE NEIGHBOUR: 'it returns false'. Refute it at one input. -/
def peerKeptWrong : ChangeSpec := { name := "peerKept", fn := fun _ => fun
  | [d1, d2, d3] => { results := [.lit (.bool false)], args := [d1, d2, d3] }
  | _ => none }
def PeerKeptWrongFalsely : Prop := peerKeptRow.holds Try.pinned (OpenSpec.ofChange peerKeptWrong)

/-- 'chronobatelaw14.PeerActs': WHATEVER THE INPUT: true; the input reads as it did. -/
def peerActsSpec : ChangeSpec := { name := "peerActs", fn := fun _ => fun
  | [d1, d2, d3] => { results := [.lit (.bool true)], args := [d1, d2, d3] }
  | _ => none }
def peerActsRow : OpenClaim := { program := "ytableianhaojcaa", sum := "8f1efbf8951aea02ec6bc3283bca6f94f6e647ce02b2547fab26bd8f98000782", func := "chronobate/chronobatelaw14.PeerActs", spec := "peerActs", unfollowed := true, recurses := true, named := ["math/bits.divideError", "math/bits.overflowError"], apart := false }
def PeerActsSaid : Prop := peerActsRow.holds Try.pinned (OpenSpec.ofChange peerActsSpec)

/-- ITS FALSE NEIGHBOUR: 'it returns false'. Refute it at one input. -/
def peerActsWrong : ChangeSpec := { name := "peerActs", fn := fun _ => fun
  | [d1, d2, d3] => { results := [.lit (.bool false)], args := [d1, d2, d3] }
  | _ => none }
def PeerActsWrongFalsely : Prop := peerActsRow.holds Try.pinned (OpenSpec.ofChange peerActsWrong)

/-- 'chronobatelaw14.PeerGoes': WHATEVER THE INPUT: true; the input reads as it did. -/
def peerGoesSpec : ChangeSpec := { name := "peerGoes", fn := fun _ => fun
  | [d1, d2] => { results := [.lit (.bool true)], args := [d1, d2] }
  | _ => none }
def peerGoesRow : OpenClaim := { program := "ytableianhaojcaa", sum := "8f1efbf8951aea02ec6bc3283bca6f94f6e647ce02b2547fab26bd8f98000782", func := "chronobate/chronobatelaw14.PeerGoes", spec := "peerGoes", unfollowed := true, recurses := true, named := ["math/bits.divideError", "math/bits.overflowError"], apart := false }
def PeerGoesSaid : Prop := peerGoesRow.holds Try.pinned (OpenSpec.ofChange peerGoesSpec)

/-- ITS FALSE NEIGHBOUR: 'it returns false'. Refute it at one input. -/
def peerGoesWrong : ChangeSpec := { name := "peerGoes", fn := fun _ => fun
  | [d1, d2] => { results := [.lit (.bool false)], args := [d1, d2] }
  | _ => none }
def PeerGoesWrongFalsely : Prop := peerGoesRow.holds Try.pinned (OpenSpec.ofChange peerGoesWrong)

/-- 'chronobatelaw14.PeerSlow': WHATEVER THE INPUT: true; the input reads as it did. -/
def peerSlowSpec : ChangeSpec := { name := "peerSlow", fn := fun _ => fun
  | [d1, d2, d3] => { results := [.lit (.bool true)], args := [d1, d2, d3] }
  | _ => none }
def peerSlowRow : OpenClaim := { program := "ytableianhaojcaa", sum := "8f1efbf8951aea02ec6bc3283bca6f94f6e647ce02b2547fab26bd8f98000782", func := "chronobate/chronobatelaw14.PeerSlow", spec := "peerSlow", unfollowed := true, recurses := true, named := ["math/bits.divideError", "math/bits.overflowError"], apart := false }
def PeerSlowSaid : Prop := peerSlowRow.holds Try.pinned (OpenSpec.ofChange peerSlowSpec)

/-- ITS FALSE NEIGHBOUR: 'it returns false'. Refute it at one input. -/
def peerSlowWrong : ChangeSpec := { name := "peerSlow", fn := fun _ => fun
  | [d1, d2, d3] => { results := [.lit (.bool false)], args := [d1, d2, d3] }
  | _ => none }
def PeerSlowWrongFalsely : Prop := peerSlowRow.holds Try.pinned (OpenSpec.ofChange peerSlowWrong)

/- THE SECOND FORM. 'bulk': how many values and letters a reading holds, each counted each time it is reached (what is shared counts as often as it is met; a slice's spare places count too). A statement '..UptoSaid' is the law's where the arguments, and the package variables that the reading takes, are together of bulk at most 1048576: NARROWER than '..Said'. Prove '..Said' where nothing that the law and all that it calls make is longer than what came in: it says more and counts as full. Else prove '..UptoSaid'. A law counts once. -/
mutual
def uptoBulk {H : Type} : DataW H → Nat
  | .lit (.string bytes) => bytes.length + 1
  | .lit _ => 1
  | .nil => 1
  | .ptr d => uptoBulk d + 1
  | .slice elems spare => uptoBulkAll elems + uptoBulkAll spare + 1
  | .agg parts => uptoBulkAll parts + 1
  | .iface _ d => uptoBulk d + 1
  | .map entries => uptoBulkEntries entries + 1
  | .held _ => 1
def uptoBulkAll {H : Type} : List (DataW H) → Nat
  | [] => 0
  | d :: r => uptoBulk d + uptoBulkAll r
def uptoBulkEntries {H : Type} : List (Lit × DataW H) → Nat
  | [] => 0
  | x :: r => uptoBulkEntry x + uptoBulkEntries r
def uptoBulkEntry {H : Type} : Lit × DataW H → Nat
  | (.string bytes, d) => bytes.length + uptoBulk d + 1
  | (_, d) => uptoBulk d + 1
 end
def uptoSmall : (H : Type) → List (DataW H) → Bool := fun _ ds => decide (uptoBulkAll ds ≤ 1048576)
def OpenSpec.upto (s : _root_.Go.ChangeSpec) : _root_.Go.OpenSpec := { _root_.Go.OpenSpec.ofChange s with cond := some uptoSmall }

/-- 'chronobatelaw14.PeerSilent', WHERE WHAT IT READS IS OF BULK AT MOST 1048576: true; the input reads as it did. -/
def peerSilentUptoRow : OpenClaim := { program := "ytableianhaojcaa", sum := "8f1efbf8951aea02ec6bc3283bca6f94f6e647ce02b2547fab26bd8f98000782", func := "chronobate/chronobatelaw14.PeerSilent", spec := "peerSilent", unfollowed := true, recurses := true, apart := false, narrowed := true }
def PeerSilentUptoSaid : Prop := peerSilentUptoRow.holds Try.pinned (OpenSpec.upto peerSilentSpec)

/-- 'chronobatelaw14.PeerNone', WHERE WHAT IT READS IS OF BULK AT MOST 1048576: true; the input reads as it did. -/
def peerNoneUptoRow : OpenClaim := { program := "ytableianhaojcaa", sum := "8f1efbf8951aea02ec6bc3283bca6f94f6e647ce02b2547fab26bd8f98000782", func := "chronobate/chronobatelaw14.PeerNone", spec := "peerNone", unfollowed := true, recurses := true, named := ["math/bits.divideError", "math/bits.overflowError"], apart := false, narrowed := true }
def PeerNoneUptoSaid : Prop := peerNoneUptoRow.holds Try.pinned (OpenSpec.upto peerNoneSpec)

/-- 'chronobatelaw14.PeerSpaces', WHERE WHAT IT READS IS OF BULK AT MOST 1048576: true; the input reads as it did. -/
def peerSpacesUptoRow : OpenClaim := { program := "ytableianhaojcaa", sum := "8f1efbf8951aea02ec6bc3283bca6f94f6e647ce02b2547fab26bd8f98000782", func := "chronobate/chronobatelaw14.PeerSpaces", spec := "peerSpaces", unfollowed := true, recurses := true, named := ["math/bits.divideError", "math/bits.overflowError"], apart := false, narrowed := true }
def PeerSpacesUptoSaid : Prop := peerSpacesUptoRow.holds Try.pinned (OpenSpec.upto peerSpacesSpec)

/-- 'chronobatelaw14.PeerKept', WHERE WHAT IT READS IS OF BULK AT MOST 1048576: true; the input reads as it did. -/
def peerKeptUptoRow : OpenClaim := { program := "ytableianhaojcaa", sum := "8f1efbf8951aea02ec6bc3283bca6f94f6e647ce02b2547fab26bd8f98000782", func := "chronobate/chronobatelaw14.PeerKept", spec := "peerKept", unfollowed := true, recurses := true, named := ["math/bits.divideError", "math/bits.overflowError"], apart := false, narrowed := true }
def PeerKeptUptoSaid : Prop := peerKeptUptoRow.holds Try.pinned (OpenSpec.upto peerKeptSpec)

/-- 'chronobatelaw14.PeerActs', WHERE WHAT IT READS IS OF BULK AT MOST 1048576: true; the input reads as it did. -/
def peerActsUptoRow : OpenClaim := { program := "ytableianhaojcaa", sum := "8f1efbf8951aea02ec6bc3283bca6f94f6e647ce02b2547fab26bd8f98000782", func := "chronobate/chronobatelaw14.PeerActs", spec := "peerActs", unfollowed := true, recurses := true, named := ["math/bits.divideError", "math/bits.overflowError"], apart := false, narrowed := true }
def PeerActsUptoSaid : Prop := peerActsUptoRow.holds Try.pinned (OpenSpec.upto peerActsSpec)

/-- 'chronobatelaw14.PeerGoes', WHERE WHAT IT READS IS OF BULK AT MOST 1048576: true; the input reads as it did. -/
def peerGoesUptoRow : OpenClaim := { program := "ytableianhaojcaa", sum := "8f1efbf8951aea02ec6bc3283bca6f94f6e647ce02b2547fab26bd8f98000782", func := "chronobate/chronobatelaw14.PeerGoes", spec := "peerGoes", unfollowed := true, recurses := true, named := ["math/bits.divideError", "math/bits.overflowError"], apart := false, narrowed := true }
def PeerGoesUptoSaid : Prop := peerGoesUptoRow.holds Try.pinned (OpenSpec.upto peerGoesSpec)

/-- 'chronobatelaw14.PeerSlow', WHERE WHAT IT READS IS OF BULK AT MOST 1048576: true; the input reads as it did. -/
def peerSlowUptoRow : OpenClaim := { program := "ytableianhaojcaa", sum := "8f1efbf8951aea02ec6bc3283bca6f94f6e647ce02b2547fab26bd8f98000782", func := "chronobate/chronobatelaw14.PeerSlow", spec := "peerSlow", unfollowed := true, recurses := true, named := ["math/bits.divideError", "math/bits.overflowError"], apart := false, narrowed := true }
def PeerSlowUptoSaid : Prop := peerSlowUptoRow.holds Try.pinned (OpenSpec.upto peerSlowSpec)

end Rows
end Go.Proofs.Ytableianhaojcaa
