/-
  DERIVED. GIVEN WITH THE SEED: THE CARDS: each row of YthbmnjcpdjaokaaDoorRows.lean that lists a variable, with what it lists TIED to the program's text (the seventh form; the later family's looks); each row that meets fmt, with fmt's text TOLD by the authors' own Lean function (tested against real Go, not proved from fmt's source: count such statements apart). THE CARD IS WHAT COUNTS. Prove the row's statement (the work); the ties are given (YthbmnjcpdjaokaaDoorTie.lean); close each card by the builder's one call (the guide's Derived/Test/ToyasCard.lean, 'card_holds'). Laid BY PROGRAM, IN A SANDBOX (cutbox-door.mjs). By AI agents, Wed Nov 11 2026. No macro, syntax, notation, axiom, sorry.
-/
import Derived.Test.YthbmnjcpdjaokaaDoorRows
import GoSem.ClaimSeven
namespace Go.Proofs.YthbmnjcpdjaokaaDoor
namespace Rows

/-- THE TIED CARD OF 'chronobatelaw04.SaneLooks'. -/
def saneLooksCard : Claim7 := { stood := { row := saneLooksRow, standIns := [], harness := (true, "328467d418e23ec691dd52f05ac631342f16a8ec591b18a5859ff12ef2bc35ca"), looks := false }, kinds := [], alts := [], laidByText := true, laidKinds := [.widerDeep], laidTests := true, laidLooks := .later }
def SaneLooksCardSaid : Prop := Claim7.holds Tryd.pinned (.plain (OpenSpec.ofChange saneLooksSpec)) saneLooksCard

/-- THE TIED CARD OF 'chronobatelaw04.SaneNames'. -/
def saneNamesCard : Claim7 := { stood := { row := saneNamesRow, standIns := [], harness := (true, "328467d418e23ec691dd52f05ac631342f16a8ec591b18a5859ff12ef2bc35ca"), looks := false }, kinds := [], alts := [], laidByText := true, laidKinds := [.widerDeep], laidTests := true, laidLooks := .later }
def SaneNamesCardSaid : Prop := Claim7.holds Tryd.pinned (.plain (OpenSpec.ofChange saneNamesSpec)) saneNamesCard

/-- THE SECOND FORM's CARD OF 'chronobatelaw04.SaneLooks'. -/
def saneLooksUptoCard : Claim7 := { stood := { row := saneLooksUptoRow, standIns := [], harness := (true, "328467d418e23ec691dd52f05ac631342f16a8ec591b18a5859ff12ef2bc35ca"), looks := false }, kinds := [], alts := [], laidByText := true, laidKinds := [.widerDeep], laidTests := true, laidLooks := .later }
def SaneLooksUptoCardSaid : Prop := Claim7.holds Tryd.pinned (.plain (OpenSpec.upto saneLooksSpec)) saneLooksUptoCard

/-- THE SECOND FORM's CARD OF 'chronobatelaw04.SaneNames'. -/
def saneNamesUptoCard : Claim7 := { stood := { row := saneNamesUptoRow, standIns := [], harness := (true, "328467d418e23ec691dd52f05ac631342f16a8ec591b18a5859ff12ef2bc35ca"), looks := false }, kinds := [], alts := [], laidByText := true, laidKinds := [.widerDeep], laidTests := true, laidLooks := .later }
def SaneNamesUptoCardSaid : Prop := Claim7.holds Tryd.pinned (.plain (OpenSpec.upto saneNamesSpec)) saneNamesUptoCard
end Rows
end Go.Proofs.YthbmnjcpdjaokaaDoor
