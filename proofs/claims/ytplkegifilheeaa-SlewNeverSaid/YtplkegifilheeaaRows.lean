/-
  No cell of these rows narrows 'for every input' (looked for: loops, veiled, ifaces, maps, wideKeys, modest, calm, conditions, laid).
  DERIVED. THE GIVEN ROWS OF THIS SEAT. 7 by the template 'for every input the law returns true; each argument reads behind the call as it read before'; 0 by the template 'total and deterministic' (their statements: YtplkegifilheeaaTotals.lean).
  GIVEN WITH THE SEED: the statements are not yours to turn. If you find one false, say at which input.
  Laid BY PROGRAM, IN A SANDBOX (cutbox-rows.mjs): the forced cells as the released guide's own fill.sh prints them over the translation 4c9540a50714ec09… (all of the seat's roots in one cut). By AI agents, Wed Nov 11 2026. No macro, syntax, notation, axiom, sorry.
-/
import Derived.Test.YtplkegifilheeaaChecked
import GoSem.Claim
import GoSem.ClaimJoined
import GoSem.ClaimMapViews
import Derived.JoinedTies
import Derived.KernelRfl
namespace Go.Proofs.Ytplkegifilheeaa
/- THE CELL 'sum', in the pinned program and in every row, IS THE sha256 OF THE DUMP (.gsa) THAT YtplkegifilheeaaProg.lean LOADS. Nothing in Lean hashes anything: it is a label: what it is worth is what the hold of that sum in a sandbox is worth. -/
noncomputable def Try.pinned : Pinned := { name := "ytplkegifilheeaa", sum := "4c9540a50714ec09fa7bbafc69429bc928c0913768388eeb4bafad0a864eaef9", checked := Try.checked }
namespace Rows
def none {H : Type} : Left H := { results := [], args := [] }

/-- 'chronobatelaw07.SlewEnds': WHATEVER THE INPUT: true; the input reads as it did. -/
def slewEndsSpec : ChangeSpec := { name := "slewEnds", fn := fun _ => fun
  | [d1, d2, d3] => { results := [.lit (.bool true)], args := [d1, d2, d3] }
  | _ => none }
def slewEndsRow : OpenClaim := { program := "ytplkegifilheeaa", sum := "4c9540a50714ec09fa7bbafc69429bc928c0913768388eeb4bafad0a864eaef9", func := "chronobate/chronobatelaw07.SlewEnds", spec := "slewEnds", unfollowed := true, recurses := true, named := ["math/bits.divideError", "math/bits.overflowError"], apart := false }
def SlewEndsSaid : Prop := slewEndsRow.holds Try.pinned (OpenSpec.ofChange slewEndsSpec)

/-- ITS FALSE NEIGHBOUR: 'it returns false'. Refute it at one input. -/
def slewEndsWrong : ChangeSpec := { name := "slewEnds", fn := fun _ => fun
  | [d1, d2, d3] => { results := [.lit (.bool false)], args := [d1, d2, d3] }
  | _ => none }
def SlewEndsWrongFalsely : Prop := slewEndsRow.holds Try.pinned (OpenSpec.ofChange slewEndsWrong)

/-- 'chronobatelaw07.SlewForgets': WHATEVER THE INPUT: true; the input reads as it did. -/
def slewForgetsSpec : ChangeSpec := { name := "slewForgets", fn := fun _ => fun
  | [d1, d2, d3] => { results := [.lit (.bool true)], args := [d1, d2, d3] }
  | _ => none }
def slewForgetsRow : OpenClaim := { program := "ytplkegifilheeaa", sum := "4c9540a50714ec09fa7bbafc69429bc928c0913768388eeb4bafad0a864eaef9", func := "chronobate/chronobatelaw07.SlewForgets", spec := "slewForgets", unfollowed := true, recurses := true, named := ["math/bits.divideError", "math/bits.overflowError"], apart := false }
def SlewForgetsSaid : Prop := slewForgetsRow.holds Try.pinned (OpenSpec.ofChange slewForgetsSpec)

/-- ITS FALSE NEIGHBOUR: 'it returns false'. Refute it at one input. -/
def slewForgetsWrong : ChangeSpec := { name := "slewForgets", fn := fun _ => fun
  | [d1, d2, d3] => { results := [.lit (.bool false)], args := [d1, d2, d3] }
  | _ => none }
def SlewForgetsWrongFalsely : Prop := slewForgetsRow.holds Try.pinned (OpenSpec.ofChange slewForgetsWrong)

/-- 'chronobatelaw07.SlewSums': WHATEVER THE INPUT: true; the input reads as it did. -/
def slewSumsSpec : ChangeSpec := { name := "slewSums", fn := fun _ => fun
  | [d1, d2, d3] => { results := [.lit (.bool true)], args := [d1, d2, d3] }
  | _ => none }
def slewSumsRow : OpenClaim := { program := "ytplkegifilheeaa", sum := "4c9540a50714ec09fa7bbafc69429bc928c0913768388eeb4bafad0a864eaef9", func := "chronobate/chronobatelaw07.SlewSums", spec := "slewSums", unfollowed := true, recurses := true, named := ["math/bits.divideError", "math/bits.overflowError"], apart := false }
def SlewSumsSaid : Prop := slewSumsRow.holds Try.pinned (OpenSpec.ofChange slewSumsSpec)

/-- ITS FALSE NEIGHBOUR: 'it returns false'. Refute it at one input. -/
def slewSumsWrong : ChangeSpec := { name := "slewSums", fn := fun _ => fun
  | [d1, d2, d3] => { results := [.lit (.bool false)], args := [d1, d2, d3] }
  | _ => none }
def SlewSumsWrongFalsely : Prop := slewSumsRow.holds Try.pinned (OpenSpec.ofChange slewSumsWrong)

/-- 'chronobatelaw07.SlewNever': WHATEVER THE INPUT: true; the input reads as it did. -/
def slewNeverSpec : ChangeSpec := { name := "slewNever", fn := fun _ => fun
  | [d1, d2, d3] => { results := [.lit (.bool true)], args := [d1, d2, d3] }
  | _ => none }
def slewNeverRow : OpenClaim := { program := "ytplkegifilheeaa", sum := "4c9540a50714ec09fa7bbafc69429bc928c0913768388eeb4bafad0a864eaef9", func := "chronobate/chronobatelaw07.SlewNever", spec := "slewNever", unfollowed := true, recurses := true, named := ["math/bits.divideError", "math/bits.overflowError"], apart := false }
def SlewNeverSaid : Prop := slewNeverRow.holds Try.pinned (OpenSpec.ofChange slewNeverSpec)

/-- ITS FALSE NEIGHBOUR: 'it returns false'. Refute it at one input. -/
def slewNeverWrong : ChangeSpec := { name := "slewNever", fn := fun _ => fun
  | [d1, d2, d3] => { results := [.lit (.bool false)], args := [d1, d2, d3] }
  | _ => none }
def SlewNeverWrongFalsely : Prop := slewNeverRow.holds Try.pinned (OpenSpec.ofChange slewNeverWrong)

/-- 'chronobatelaw07.SlewActs': WHATEVER THE INPUT: true; the input reads as it did. -/
def slewActsSpec : ChangeSpec := { name := "slewActs", fn := fun _ => fun
  | [d1, d2, d3] => { results := [.lit (.bool true)], args := [d1, d2, d3] }
  | _ => none }
def slewActsRow : OpenClaim := { program := "ytplkegifilheeaa", sum := "4c9540a50714ec09fa7bbafc69429bc928c0913768388eeb4bafad0a864eaef9", func := "chronobate/chronobatelaw07.SlewActs", spec := "slewActs", unfollowed := true, recurses := true, named := ["math/bits.divideError", "math/bits.overflowError"], apart := false }
def SlewActsSaid : Prop := slewActsRow.holds Try.pinned (OpenSpec.ofChange slewActsSpec)

/-- ITS FALSE NEIGHBOUR: 'it returns false'. Refute it at one input. -/
def slewActsWrong : ChangeSpec := { name := "slewActs", fn := fun _ => fun
  | [d1, d2, d3] => { results := [.lit (.bool false)], args := [d1, d2, d3] }
  | _ => none }
def SlewActsWrongFalsely : Prop := slewActsRow.holds Try.pinned (OpenSpec.ofChange slewActsWrong)

/-- 'chronobatelaw07.SlewNone': WHATEVER THE INPUT: true; the input reads as it did. -/
def slewNoneSpec : ChangeSpec := { name := "slewNone", fn := fun _ => fun
  | [d1, d2] => { results := [.lit (.bool true)], args := [d1, d2] }
  | _ => none }
def slewNoneRow : OpenClaim := { program := "ytplkegifilheeaa", sum := "4c9540a50714ec09fa7bbafc69429bc928c0913768388eeb4bafad0a864eaef9", func := "chronobate/chronobatelaw07.SlewNone", spec := "slewNone", unfollowed := true, recurses := true, named := ["math/bits.divideError", "math/bits.overflowError"], apart := false }
def SlewNoneSaid : Prop := slewNoneRow.holds Try.pinned (OpenSpec.ofChange slewNoneSpec)

/-- ITS FALSE NEIGHBOUR: 'it returns false'. Refute it at one input. -/
def slewNoneWrong : ChangeSpec := { name := "slewNone", fn := fun _ => fun
  | [d1, d2] => { results := [.lit (.bool false)], args := [d1, d2] }
  | _ => none }
def SlewNoneWrongFalsely : Prop := slewNoneRow.holds Try.pinned (OpenSpec.ofChange slewNoneWrong)

/-- 'chronobatelaw07.SlewLooks': WHATEVER THE INPUT: true; the input reads as it did. -/
def slewLooksSpec : ChangeSpec := { name := "slewLooks", fn := fun _ => fun
  | [d1, d2, d3] => { results := [.lit (.bool true)], args := [d1, d2, d3] }
  | _ => none }
def slewLooksRow : OpenClaim := { program := "ytplkegifilheeaa", sum := "4c9540a50714ec09fa7bbafc69429bc928c0913768388eeb4bafad0a864eaef9", func := "chronobate/chronobatelaw07.SlewLooks", spec := "slewLooks", unfollowed := true, recurses := true, named := ["math/bits.divideError", "math/bits.overflowError"], apart := false }
def SlewLooksSaid : Prop := slewLooksRow.holds Try.pinned (OpenSpec.ofChange slewLooksSpec)

/-- ITS FALSE NEIGHBOUR: 'it returns false'. Refute it at one input. -/
def slewLooksWrong : ChangeSpec := { name := "slewLooks", fn := fun _ => fun
  | [d1, d2, d3] => { results := [.lit (.bool false)], args := [d1, d2, d3] }
  | _ => none }
def SlewLooksWrongFalsely : Prop := slewLooksRow.holds Try.pinned (OpenSpec.ofChange slewLooksWrong)

/- THE SECOND FORM. 'bulk': how many values and letters a reading holds, each counted each time it is reached (what is shared counts as often as it is met; a slice's spare places count too). A statement '..UptoSaid' is the law's where the arguments, and the package variables that the reading takes, are together of bulk at most 1048576: NARROWER than '..Said'. Prove '..Said' where nothing that the law and all that it calls make is longer than what came in: it says more and counts as full. Else prove '..UptoSaid'. A law counts once. -/
mutual
def uptoBulk {H : Type} : DataW H → Nat
  | .lit (.string bytes) => bytes.length + 1
  | .lit _ => 1
  | .nil => 1
  | .ptr d => uptoBulk d + 1
  | .slice elems spare => uptoBulkAll elems + uptoBulkAll spare + 1
  | .agg parts => uptoBulkAll parts + 1
  | .iface _ d => uptoBulk d + 1
  | .map entries => uptoBulkEntries entries + 1
  | .held _ => 1
def uptoBulkAll {H : Type} : List (DataW H) → Nat
  | [] => 0
  | d :: r => uptoBulk d + uptoBulkAll r
def uptoBulkEntries {H : Type} : List (Lit × DataW H) → Nat
  | [] => 0
  | x :: r => uptoBulkEntry x + uptoBulkEntries r
def uptoBulkEntry {H : Type} : Lit × DataW H → Nat
  | (.string bytes, d) => bytes.length + uptoBulk d + 1
  | (_, d) => uptoBulk d + 1
 end
def uptoSmall : (H : Type) → List (DataW H) → Bool := fun _ ds => decide (uptoBulkAll ds ≤ 1048576)
def OpenSpec.upto (s : _root_.Go.ChangeSpec) : _root_.Go.OpenSpec := { _root_.Go.OpenSpec.ofChange s with cond := some uptoSmall }

/-- 'chronobatelaw07.SlewEnds', WHERE WHAT IT READS IS OF BULK AT MOST 1048576: true; the input reads as it did. -/
def slewEndsUptoRow : OpenClaim := { program := "ytplkegifilheeaa", sum := "4c9540a50714ec09fa7bbafc69429bc928c0913768388eeb4bafad0a864eaef9", func := "chronobate/chronobatelaw07.SlewEnds", spec := "slewEnds", unfollowed := true, recurses := true, named := ["math/bits.divideError", "math/bits.overflowError"], apart := false, narrowed := true }
def SlewEndsUptoSaid : Prop := slewEndsUptoRow.holds Try.pinned (OpenSpec.upto slewEndsSpec)

/-- 'chronobatelaw07.SlewForgets', WHERE WHAT IT READS IS OF BULK AT MOST 1048576: true; the input reads as it did. -/
def slewForgetsUptoRow : OpenClaim := { program := "ytplkegifilheeaa", sum := "4c9540a50714ec09fa7bbafc69429bc928c0913768388eeb4bafad0a864eaef9", func := "chronobate/chronobatelaw07.SlewForgets", spec := "slewForgets", unfollowed := true, recurses := true, named := ["math/bits.divideError", "math/bits.overflowError"], apart := false, narrowed := true }
def SlewForgetsUptoSaid : Prop := slewForgetsUptoRow.holds Try.pinned (OpenSpec.upto slewForgetsSpec)

/-- 'chronobatelaw07.SlewSums', WHERE WHAT IT READS IS OF BULK AT MOST 1048576: true; the input reads as it did. -/
def slewSumsUptoRow : OpenClaim := { program := "ytplkegifilheeaa", sum := "4c9540a50714ec09fa7bbafc69429bc928c0913768388eeb4bafad0a864eaef9", func := "chronobate/chronobatelaw07.SlewSums", spec := "slewSums", unfollowed := true, recurses := true, named := ["math/bits.divideError", "math/bits.overflowError"], apart := false, narrowed := true }
def SlewSumsUptoSaid : Prop := slewSumsUptoRow.holds Try.pinned (OpenSpec.upto slewSumsSpec)

/-- 'chronobatelaw07.SlewNever', WHERE WHAT IT READS IS OF BULK AT MOST 1048576: true; the input reads as it did. -/
def slewNeverUptoRow : OpenClaim := { program := "ytplkegifilheeaa", sum := "4c9540a50714ec09fa7bbafc69429bc928c0913768388eeb4bafad0a864eaef9", func := "chronobate/chronobatelaw07.SlewNever", spec := "slewNever", unfollowed := true, recurses := true, named := ["math/bits.divideError", "math/bits.overflowError"], apart := false, narrowed := true }
def SlewNeverUptoSaid : Prop := slewNeverUptoRow.holds Try.pinned (OpenSpec.upto slewNeverSpec)

/-- 'chronobatelaw07.SlewActs', WHERE WHAT IT READS IS OF BULK AT MOST 1048576: true; the input reads as it did. -/
def slewActsUptoRow : OpenClaim := { program := "ytplkegifilheeaa", sum := "4c9540a50714ec09fa7bbafc69429bc928c0913768388eeb4bafad0a864eaef9", func := "chronobate/chronobatelaw07.SlewActs", spec := "slewActs", unfollowed := true, recurses := true, named := ["math/bits.divideError", "math/bits.overflowError"], apart := false, narrowed := true }
def SlewActsUptoSaid : Prop := slewActsUptoRow.holds Try.pinned (OpenSpec.upto slewActsSpec)

/-- 'chronobatelaw07.SlewNone', WHERE WHAT IT READS IS OF BULK AT MOST 1048576: true; the input reads as it did. -/
def slewNoneUptoRow : OpenClaim := { program := "ytplkegifilheeaa", sum := "4c9540a50714ec09fa7bbafc69429bc928c0913768388eeb4bafad0a864eaef9", func := "chronobate/chronobatelaw07.SlewNone", spec := "slewNone", unfollowed := true, recurses := true, named := ["math/bits.divideError", "math/bits.overflowError"], apart := false, narrowed := true }
def SlewNoneUptoSaid : Prop := slewNoneUptoRow.holds Try.pinned (OpenSpec.upto slewNoneSpec)

/-- 'chronobatelaw07.SlewLooks', WHERE WHAT IT READS IS OF BULK AT MOST 1048576: true; the input reads as it did. -/
def slewLooksUptoRow : OpenClaim := { program := "ytplkegifilheeaa", sum := "4c9540a50714ec09fa7bbafc69429bc928c0913768388eeb4bafad0a864eaef9", func := "chronobate/chronobatelaw07.SlewLooks", spec := "slewLooks", unfollowed := true, recurses := true, named := ["math/bits.divideError", "math/bits.overflowError"], apart := false, narrowed := true }
def SlewLooksUptoSaid : Prop := slewLooksUptoRow.holds Try.pinned (OpenSpec.upto slewLooksSpec)

end Rows
end Go.Proofs.Ytplkegifilheeaa
