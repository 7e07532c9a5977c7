/-
  NARROWER THAN 'FOR EVERY INPUT', by the rows' own cells (each row's printed sentence says how): SaneLooks: laid · SaneNames: laid.
  DERIVED. THE GIVEN ROWS OF THIS SEAT. 2 by the template 'for every input the law returns true; each argument reads behind the call as it read before'; 0 by the template 'total and deterministic' (their statements: YthbmnjcpdjaokaaDoorTotals.lean).
  GIVEN WITH THE SEED: the statements are not yours to turn. If you find one false, say at which input.
  Laid BY PROGRAM, IN A SANDBOX (cutbox-rows.mjs): the forced cells as the released guide's own fill.sh prints them over the translation 23bafa35468a38e8… (all of the seat's roots in one cut). By AI agents, Wed Nov 11 2026. No macro, syntax, notation, axiom, sorry.
-/
import Derived.Test.YthbmnjcpdjaokaaDoorChecked
import GoSem.Claim
import GoSem.ClaimJoined
import GoSem.ClaimMapViews
import Derived.JoinedTies
import Derived.KernelRfl
namespace Go.Proofs.YthbmnjcpdjaokaaDoor
/- THE CELL 'sum', in the pinned program and in every row, IS THE sha256 OF THE DUMP (.gsa) THAT YthbmnjcpdjaokaaDoorProg.lean LOADS. Nothing in Lean hashes anything: it is a label: what it is worth is what the hold of that sum in a sandbox is worth. -/
noncomputable def Tryd.pinned : Pinned := { name := "ythbmnjcpdjaokaadoor", sum := "23bafa35468a38e809e0a7a063a77aa5f74112e23d79314cf95574a796006b73", checked := Tryd.checked }
namespace Rows
def none {H : Type} : Left H := { results := [], args := [] }

/- WHAT THE LISTED PACKAGE-LEVEL VARIABLES READ AS WHEN THE CALL BEGINS. Each datum BY PROGRAM (the guide's laid-datum.mjs) off the statement by which the dump's own 'gosem.cut.vars' lays the variable. In a bare row this is a premise. The card (YthbmnjcpdjaokaaDoorCards.lean) ties it to the program's text. -/
def laid_chronobate_sane_names {H : Type} : DataW H := .agg [.lit (.string [116, 97, 107, 101, 110]), .lit (.string [115, 104, 111, 114, 116]), .lit (.string [117, 110, 107, 110, 111, 119, 110]), .lit (.string [114, 101, 116, 105, 114, 101, 100]), .lit (.string [105, 100, 108, 101]), .lit (.string [118, 101, 114, 115, 105, 111, 110]), .lit (.string [109, 111, 100, 101]), .lit (.string [111, 114, 105, 103, 105, 110]), .lit (.string [107, 105, 115, 115]), .lit (.string [108, 101, 97, 112]), .lit (.string [115, 116, 114, 97, 116, 117, 109]), .lit (.string [122, 101, 114, 111]), .lit (.string [115, 108, 111, 119])]

/-- 'chronobatelaw04.SaneLooks': WHATEVER THE INPUT: true; the input reads as it did. -/
def saneLooksSpec : ChangeSpec := { name := "saneLooks", fn := fun _ => fun
  | [d1, d2] => { results := [.lit (.bool true)], args := [d1, d2] }
  | _ => none }
def saneLooksRow : OpenClaim := { program := "ythbmnjcpdjaokaadoor", sum := "23bafa35468a38e809e0a7a063a77aa5f74112e23d79314cf95574a796006b73", func := "chronobate/chronobatelaw04.SaneLooks", spec := "saneLooks", unfollowed := true, recurses := true, named := ["chronobate/sane.names"], apart := false, laid := [("chronobate/sane.names", laid_chronobate_sane_names)] }
def SaneLooksSaid : Prop := saneLooksRow.holds Tryd.pinned (OpenSpec.ofChange saneLooksSpec)

/-- ITS FALSE NEIGHBOUR: 'it returns false'. Refute it at one input. -/
def saneLooksWrong : ChangeSpec := { name := "saneLooks", fn := fun _ => fun
  | [d1, d2] => { results := [.lit (.bool false)], args := [d1, d2] }
  | _ => none }
def SaneLooksWrongFalsely : Prop := saneLooksRow.holds Tryd.pinned (OpenSpec.ofChange saneLooksWrong)

/-- 'chronobatelaw04.SaneNames': WHATEVER THE INPUT: true; the input reads as it did. -/
def saneNamesSpec : ChangeSpec := { name := "saneNames", fn := fun _ => fun
  | [d] => { results := [.lit (.bool true)], args := [d] }
  | _ => none }
def saneNamesRow : OpenClaim := { program := "ythbmnjcpdjaokaadoor", sum := "23bafa35468a38e809e0a7a063a77aa5f74112e23d79314cf95574a796006b73", func := "chronobate/chronobatelaw04.SaneNames", spec := "saneNames", unfollowed := true, recurses := true, named := ["chronobate/sane.names"], apart := false, laid := [("chronobate/sane.names", laid_chronobate_sane_names)] }
def SaneNamesSaid : Prop := saneNamesRow.holds Tryd.pinned (OpenSpec.ofChange saneNamesSpec)

/-- ITS FALSE NEIGHBOUR: 'it returns false'. Refute it at one input. -/
def saneNamesWrong : ChangeSpec := { name := "saneNames", fn := fun _ => fun
  | [d] => { results := [.lit (.bool false)], args := [d] }
  | _ => none }
def SaneNamesWrongFalsely : Prop := saneNamesRow.holds Tryd.pinned (OpenSpec.ofChange saneNamesWrong)

/- THE SECOND FORM. 'bulk': how many values and letters a reading holds, each counted each time it is reached (what is shared counts as often as it is met; a slice's spare places count too). A statement '..UptoSaid' is the law's where the arguments, and the package variables that the reading takes, are together of bulk at most 1048576: NARROWER than '..Said'. Prove '..Said' where nothing that the law and all that it calls make is longer than what came in: it says more and counts as full. Else prove '..UptoSaid'. A law counts once. -/
mutual
def uptoBulk {H : Type} : DataW H → Nat
  | .lit (.string bytes) => bytes.length + 1
  | .lit _ => 1
  | .nil => 1
  | .ptr d => uptoBulk d + 1
  | .slice elems spare => uptoBulkAll elems + uptoBulkAll spare + 1
  | .agg parts => uptoBulkAll parts + 1
  | .iface _ d => uptoBulk d + 1
  | .map entries => uptoBulkEntries entries + 1
  | .held _ => 1
def uptoBulkAll {H : Type} : List (DataW H) → Nat
  | [] => 0
  | d :: r => uptoBulk d + uptoBulkAll r
def uptoBulkEntries {H : Type} : List (Lit × DataW H) → Nat
  | [] => 0
  | x :: r => uptoBulkEntry x + uptoBulkEntries r
def uptoBulkEntry {H : Type} : Lit × DataW H → Nat
  | (.string bytes, d) => bytes.length + uptoBulk d + 1
  | (_, d) => uptoBulk d + 1
 end
def uptoSmall : (H : Type) → List (DataW H) → Bool := fun _ ds => decide (uptoBulkAll ds ≤ 1048576)
def OpenSpec.upto (s : _root_.Go.ChangeSpec) : _root_.Go.OpenSpec := { _root_.Go.OpenSpec.ofChange s with cond := some uptoSmall }

/-- 'chronobatelaw04.SaneLooks', WHERE WHAT IT READS IS OF BULK AT MOST 1048576: true; the input reads as it did. -/
def saneLooksUptoRow : OpenClaim := { program := "ythbmnjcpdjaokaadoor", sum := "23bafa35468a38e809e0a7a063a77aa5f74112e23d79314cf95574a796006b73", func := "chronobate/chronobatelaw04.SaneLooks", spec := "saneLooks", unfollowed := true, recurses := true, named := ["chronobate/sane.names"], apart := false, laid := [("chronobate/sane.names", laid_chronobate_sane_names)], narrowed := true }
def SaneLooksUptoSaid : Prop := saneLooksUptoRow.holds Tryd.pinned (OpenSpec.upto saneLooksSpec)

/-- 'chronobatelaw04.SaneNames', WHERE WHAT IT READS IS OF BULK AT MOST 1048576: true; the input reads as it did. -/
def saneNamesUptoRow : OpenClaim := { program := "ythbmnjcpdjaokaadoor", sum := "23bafa35468a38e809e0a7a063a77aa5f74112e23d79314cf95574a796006b73", func := "chronobate/chronobatelaw04.SaneNames", spec := "saneNames", unfollowed := true, recurses := true, named := ["chronobate/sane.names"], apart := false, laid := [("chronobate/sane.names", laid_chronobate_sane_names)], narrowed := true }
def SaneNamesUptoSaid : Prop := saneNamesUptoRow.holds Tryd.pinned (OpenSpec.upto saneNamesSpec)

end Rows
end Go.Proofs.YthbmnjcpdjaokaaDoor
