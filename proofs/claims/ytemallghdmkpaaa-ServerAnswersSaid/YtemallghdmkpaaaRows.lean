/-
  No cell of these rows narrows 'for every input' (looked for: loops, veiled, ifaces, maps, wideKeys, modest, calm, conditions, laid).
  DERIVED. THE GIVEN ROWS OF THIS SEAT. 5 by the template 'for every input the law returns true; each argument reads behind the call as it read before'; 0 by the template 'total and deterministic' (their statements: YtemallghdmkpaaaTotals.lean).
  GIVEN WITH THE SEED: the statements are not yours to turn. If you find one false, say at which input.
  Laid BY PROGRAM, IN A SANDBOX (cutbox-rows.mjs): the forced cells as the released guide's own fill.sh prints them over the translation 5afc1ae0d1289ead… (all of the seat's roots in one cut). By AI agents, Wed Nov 11 2026. No macro, syntax, notation, axiom, sorry.
-/
import Derived.Test.YtemallghdmkpaaaChecked
import GoSem.Claim
import GoSem.ClaimJoined
import GoSem.ClaimMapViews
import Derived.JoinedTies
import Derived.KernelRfl
namespace Go.Proofs.Ytemallghdmkpaaa
/- THE CELL 'sum', in the pinned program and in every row, IS THE sha256 OF THE DUMP (.gsa) THAT YtemallghdmkpaaaProg.lean LOADS. Nothing in Lean hashes anything: it is a label: what it is worth is what the hold of that sum in a sandbox is worth. -/
noncomputable def Try.pinned : Pinned := { name := "ytemallghdmkpaaa", sum := "5afc1ae0d1289eadbf36a82a2fe1b2bb321d4712234c220278559fce87dd0618", checked := Try.checked }
namespace Rows
def none {H : Type} : Left H := { results := [], args := [] }

/-- 'chronobatelaw19.ServerLater': WHATEVER THE INPUT: true; the input reads as it did. -/
def serverLaterSpec : ChangeSpec := { name := "serverLater", fn := fun _ => fun
  | [d1, d2, d3] => { results := [.lit (.bool true)], args := [d1, d2, d3] }
  | _ => none }
def serverLaterRow : OpenClaim := { program := "ytemallghdmkpaaa", sum := "5afc1ae0d1289eadbf36a82a2fe1b2bb321d4712234c220278559fce87dd0618", func := "chronobate/chronobatelaw19.ServerLater", spec := "serverLater", unfollowed := true, recurses := true, apart := false }
def ServerLaterSaid : Prop := serverLaterRow.holds Try.pinned (OpenSpec.ofChange serverLaterSpec)

/-- ITS FALSE NEIGHBOUR: 'it returns false'. Refute it at one input. -/
def serverLaterWrong : ChangeSpec := { name := "serverLater", fn := fun _ => fun
  | [d1, d2, d3] => { results := [.lit (.bool false)], args := [d1, d2, d3] }
  | _ => none }
def ServerLaterWrongFalsely : Prop := serverLaterRow.holds Try.pinned (OpenSpec.ofChange serverLaterWrong)

/-- 'chronobatelaw19.ServerAnswers': WHATEVER THE INPUT: true; the input reads as it did. -/
def serverAnswersSpec : ChangeSpec := { name := "serverAnswers", fn := fun _ => fun
  | [d1, d2, d3] => { results := [.lit (.bool true)], args := [d1, d2, d3] }
  | _ => none }
def serverAnswersRow : OpenClaim := { program := "ytemallghdmkpaaa", sum := "5afc1ae0d1289eadbf36a82a2fe1b2bb321d4712234c220278559fce87dd0618", func := "chronobate/chronobatelaw19.ServerAnswers", spec := "serverAnswers", unfollowed := true, recurses := true, apart := false }
def ServerAnswersSaid : Prop := serverAnswersRow.holds Try.pinned (OpenSpec.ofChange serverAnswersSpec)

/-- ITS FALSE NEIGHBOUR: 'it returns false'. Refute it at one input. -/
def serverAnswersWrong : ChangeSpec := { name := "serverAnswers", fn := fun _ => fun
  | [d1, d2, d3] => { results := [.lit (.bool false)], args := [d1, d2, d3] }
  | _ => none }
def ServerAnswersWrongFalsely : Prop := serverAnswersRow.holds Try.pinned (OpenSpec.ofChange serverAnswersWrong)

/-- 'chronobatelaw19.ServerTook': WHATEVER THE INPUT: true; the input reads as it did. -/
def serverTookSpec : ChangeSpec := { name := "serverTook", fn := fun _ => fun
  | [d1, d2] => { results := [.lit (.bool true)], args := [d1, d2] }
  | _ => none }
def serverTookRow : OpenClaim := { program := "ytemallghdmkpaaa", sum := "5afc1ae0d1289eadbf36a82a2fe1b2bb321d4712234c220278559fce87dd0618", func := "chronobate/chronobatelaw19.ServerTook", spec := "serverTook", unfollowed := true, recurses := true, apart := false }
def ServerTookSaid : Prop := serverTookRow.holds Try.pinned (OpenSpec.ofChange serverTookSpec)

/-- ITS FALSE NEIGHBOUR: 'it returns false'. Refute it at one input. -/
def serverTookWrong : ChangeSpec := { name := "serverTook", fn := fun _ => fun
  | [d1, d2] => { results := [.lit (.bool false)], args := [d1, d2] }
  | _ => none }
def ServerTookWrongFalsely : Prop := serverTookRow.holds Try.pinned (OpenSpec.ofChange serverTookWrong)

/-- 'chronobatelaw19.ServerKinds': WHATEVER THE INPUT: true; the input reads as it did. -/
def serverKindsSpec : ChangeSpec := { name := "serverKinds", fn := fun _ => fun
  | [d1, d2, d3] => { results := [.lit (.bool true)], args := [d1, d2, d3] }
  | _ => none }
def serverKindsRow : OpenClaim := { program := "ytemallghdmkpaaa", sum := "5afc1ae0d1289eadbf36a82a2fe1b2bb321d4712234c220278559fce87dd0618", func := "chronobate/chronobatelaw19.ServerKinds", spec := "serverKinds", unfollowed := true, recurses := true, apart := false }
def ServerKindsSaid : Prop := serverKindsRow.holds Try.pinned (OpenSpec.ofChange serverKindsSpec)

/-- ITS FALSE NEIGHBOUR: 'it returns false'. Refute it at one input. -/
def serverKindsWrong : ChangeSpec := { name := "serverKinds", fn := fun _ => fun
  | [d1, d2, d3] => { results := [.lit (.bool false)], args := [d1, d2, d3] }
  | _ => none }
def ServerKindsWrongFalsely : Prop := serverKindsRow.holds Try.pinned (OpenSpec.ofChange serverKindsWrong)

/-- 'chronobatelaw19.ServerTrue': WHATEVER THE INPUT: true; the input reads as it did. -/
def serverTrueSpec : ChangeSpec := { name := "serverTrue", fn := fun _ => fun
  | [d1, d2, d3] => { results := [.lit (.bool true)], args := [d1, d2, d3] }
  | _ => none }
def serverTrueRow : OpenClaim := { program := "ytemallghdmkpaaa", sum := "5afc1ae0d1289eadbf36a82a2fe1b2bb321d4712234c220278559fce87dd0618", func := "chronobate/chronobatelaw19.ServerTrue", spec := "serverTrue", unfollowed := true, recurses := true, named := ["math/bits.divideError", "math/bits.overflowError"], apart := false }
def ServerTrueSaid : Prop := serverTrueRow.holds Try.pinned (OpenSpec.ofChange serverTrueSpec)

/-- ITS FALSE NEIGHBOUR: 'it returns false'. Refute it at one input. -/
def serverTrueWrong : ChangeSpec := { name := "serverTrue", fn := fun _ => fun
  | [d1, d2, d3] => { results := [.lit (.bool false)], args := [d1, d2, d3] }
  | _ => none }
def ServerTrueWrongFalsely : Prop := serverTrueRow.holds Try.pinned (OpenSpec.ofChange serverTrueWrong)

/- THE SECOND FORM. 'bulk': how many values and letters a reading holds, each counted each time it is reached (what is shared counts as often as it is met; a slice's spare places count too). A statement '..UptoSaid' is the law's where the arguments, and the package variables that the reading takes, are together of bulk at most 1048576: NARROWER than '..Said'. Prove '..Said' where nothing that the law and all that it calls make is longer than what came in: it says more and counts as full. Else prove '..UptoSaid'. A law counts once. -/
mutual
def uptoBulk {H : Type} : DataW H → Nat
  | .lit (.string bytes) => bytes.length + 1
  | .lit _ => 1
  | .nil => 1
  | .ptr d => uptoBulk d + 1
  | .slice elems spare => uptoBulkAll elems + uptoBulkAll spare + 1
  | .agg parts => uptoBulkAll parts + 1
  | .iface _ d => uptoBulk d + 1
  | .map entries => uptoBulkEntries entries + 1
  | .held _ => 1
def uptoBulkAll {H : Type} : List (DataW H) → Nat
  | [] => 0
  | d :: r => uptoBulk d + uptoBulkAll r
def uptoBulkEntries {H : Type} : List (Lit × DataW H) → Nat
  | [] => 0
  | x :: r => uptoBulkEntry x + uptoBulkEntries r
def uptoBulkEntry {H : Type} : Lit × DataW H → Nat
  | (.string bytes, d) => bytes.length + uptoBulk d + 1
  | (_, d) => uptoBulk d + 1
 end
def uptoSmall : (H : Type) → List (DataW H) → Bool := fun _ ds => decide (uptoBulkAll ds ≤ 1048576)
def OpenSpec.upto (s : _root_.Go.ChangeSpec) : _root_.Go.OpenSpec := { _root_.Go.OpenSpec.ofChange s with cond := some uptoSmall }

/-- 'chronobatelaw19.ServerLater', WHERE WHAT IT READS IS OF BULK AT MOST 1048576: true; the input reads as it did. -/
def serverLaterUptoRow : OpenClaim := { program := "ytemallghdmkpaaa", sum := "5afc1ae0d1289eadbf36a82a2fe1b2bb321d4712234c220278559fce87dd0618", func := "chronobate/chronobatelaw19.ServerLater", spec := "serverLater", unfollowed := true, recurses := true, apart := false, narrowed := true }
def ServerLaterUptoSaid : Prop := serverLaterUptoRow.holds Try.pinned (OpenSpec.upto serverLaterSpec)

/-- 'chronobatelaw19.ServerAnswers', WHERE WHAT IT READS IS OF BULK AT MOST 1048576: true; the input reads as it did. -/
def serverAnswersUptoRow : OpenClaim := { program := "ytemallghdmkpaaa", sum := "5afc1ae0d1289eadbf36a82a2fe1b2bb321d4712234c220278559fce87dd0618", func := "chronobate/chronobatelaw19.ServerAnswers", spec := "serverAnswers", unfollowed := true, recurses := true, apart := false, narrowed := true }
def ServerAnswersUptoSaid : Prop := serverAnswersUptoRow.holds Try.pinned (OpenSpec.upto serverAnswersSpec)

/-- 'chronobatelaw19.ServerTook', WHERE WHAT IT READS IS OF BULK AT MOST 1048576: true; the input reads as it did. -/
def serverTookUptoRow : OpenClaim := { program := "ytemallghdmkpaaa", sum := "5afc1ae0d1289eadbf36a82a2fe1b2bb321d4712234c220278559fce87dd0618", func := "chronobate/chronobatelaw19.ServerTook", spec := "serverTook", unfollowed := true, recurses := true, apart := false, narrowed := true }
def ServerTookUptoSaid : Prop := serverTookUptoRow.holds Try.pinned (OpenSpec.upto serverTookSpec)

/-- 'chronobatelaw19.ServerKinds', WHERE WHAT IT READS IS OF BULK AT MOST 1048576: true; the input reads as it did. -/
def serverKindsUptoRow : OpenClaim := { program := "ytemallghdmkpaaa", sum := "5afc1ae0d1289eadbf36a82a2fe1b2bb321d4712234c220278559fce87dd0618", func := "chronobate/chronobatelaw19.ServerKinds", spec := "serverKinds", unfollowed := true, recurses := true, apart := false, narrowed := true }
def ServerKindsUptoSaid : Prop := serverKindsUptoRow.holds Try.pinned (OpenSpec.upto serverKindsSpec)

/-- 'chronobatelaw19.ServerTrue', WHERE WHAT IT READS IS OF BULK AT MOST 1048576: true; the input reads as it did. -/
def serverTrueUptoRow : OpenClaim := { program := "ytemallghdmkpaaa", sum := "5afc1ae0d1289eadbf36a82a2fe1b2bb321d4712234c220278559fce87dd0618", func := "chronobate/chronobatelaw19.ServerTrue", spec := "serverTrue", unfollowed := true, recurses := true, named := ["math/bits.divideError", "math/bits.overflowError"], apart := false, narrowed := true }
def ServerTrueUptoSaid : Prop := serverTrueUptoRow.holds Try.pinned (OpenSpec.upto serverTrueSpec)

end Rows
end Go.Proofs.Ytemallghdmkpaaa
