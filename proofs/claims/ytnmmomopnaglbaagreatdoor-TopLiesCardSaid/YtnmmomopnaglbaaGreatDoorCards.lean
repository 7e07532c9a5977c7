/-
  DERIVED. GIVEN WITH THE SEED: THE CARDS: each row of YtnmmomopnaglbaaGreatDoorRows.lean that lists a variable, with what it lists TIED to the program's text (the seventh form; the later family's looks); each row that meets fmt, with fmt's text TOLD by the authors' own Lean function (tested against real Go, not proved from fmt's source: count such statements apart). THE CARD IS WHAT COUNTS. Prove the row's statement (the work); the ties are given (YtnmmomopnaglbaaGreatDoorTie.lean); close each card by the builder's one call (the guide's Derived/Test/ToyasCard.lean, 'card_holds'). Laid BY PROGRAM, IN A SANDBOX (cutbox-door.mjs). By AI agents, Wed Nov 11 2026. No macro, syntax, notation, axiom, sorry.
-/
import Derived.Test.YtnmmomopnaglbaaGreatDoorRows
import GoSem.ClaimSeven
namespace Go.Proofs.YtnmmomopnaglbaaGreatDoor
namespace Rows

/-- THE TIED CARD OF 'chronobatetop.TopShifts'. -/
def topShiftsCard : Claim7 := { stood := { row := topShiftsRow, standIns := [], harness := (true, "fa518a29a27daf5b9688d86295e6a447407aa60cdc27d662c0cac427d9b57131"), looks := true }, kinds := [], alts := [], laidByText := true, laidKinds := [.data, .data, .data, .data, .sentinel, .sentinel, .widerDeep, .listed, .data, .pinned], laidTests := true, laidLooks := .later }
def TopShiftsCardSaid : Prop := Claim7.holds Tryz.pinned (.plain (OpenSpec.ofChange topShiftsSpec)) topShiftsCard

/-- THE TIED CARD OF 'chronobatetop.TopLies'. -/
def topLiesCard : Claim7 := { stood := { row := topLiesRow, standIns := [], harness := (true, "fa518a29a27daf5b9688d86295e6a447407aa60cdc27d662c0cac427d9b57131"), looks := true }, kinds := [], alts := [], laidByText := true, laidKinds := [.data, .data, .data, .data, .sentinel, .sentinel, .widerDeep, .listed, .data, .pinned], laidTests := true, laidLooks := .later }
def TopLiesCardSaid : Prop := Claim7.holds Tryz.pinned (.plain (OpenSpec.ofChange topLiesSpec)) topLiesCard

/-- THE TIED CARD OF 'chronobatetop.TopFew'. -/
def topFewCard : Claim7 := { stood := { row := topFewRow, standIns := [], harness := (true, "fa518a29a27daf5b9688d86295e6a447407aa60cdc27d662c0cac427d9b57131"), looks := true }, kinds := [], alts := [], laidByText := true, laidKinds := [.data, .data, .data, .data, .sentinel, .sentinel, .widerDeep, .listed, .data, .pinned], laidTests := true, laidLooks := .later }
def TopFewCardSaid : Prop := Claim7.holds Tryz.pinned (.plain (OpenSpec.ofChange topFewSpec)) topFewCard

/-- THE SECOND FORM's CARD OF 'chronobatetop.TopShifts'. -/
def topShiftsUptoCard : Claim7 := { stood := { row := topShiftsUptoRow, standIns := [], harness := (true, "fa518a29a27daf5b9688d86295e6a447407aa60cdc27d662c0cac427d9b57131"), looks := true }, kinds := [], alts := [], laidByText := true, laidKinds := [.data, .data, .data, .data, .sentinel, .sentinel, .widerDeep, .listed, .data, .pinned], laidTests := true, laidLooks := .later }
def TopShiftsUptoCardSaid : Prop := Claim7.holds Tryz.pinned (.plain (OpenSpec.upto topShiftsSpec)) topShiftsUptoCard

/-- THE SECOND FORM's CARD OF 'chronobatetop.TopLies'. -/
def topLiesUptoCard : Claim7 := { stood := { row := topLiesUptoRow, standIns := [], harness := (true, "fa518a29a27daf5b9688d86295e6a447407aa60cdc27d662c0cac427d9b57131"), looks := true }, kinds := [], alts := [], laidByText := true, laidKinds := [.data, .data, .data, .data, .sentinel, .sentinel, .widerDeep, .listed, .data, .pinned], laidTests := true, laidLooks := .later }
def TopLiesUptoCardSaid : Prop := Claim7.holds Tryz.pinned (.plain (OpenSpec.upto topLiesSpec)) topLiesUptoCard

/-- THE SECOND FORM's CARD OF 'chronobatetop.TopFew'. -/
def topFewUptoCard : Claim7 := { stood := { row := topFewUptoRow, standIns := [], harness := (true, "fa518a29a27daf5b9688d86295e6a447407aa60cdc27d662c0cac427d9b57131"), looks := true }, kinds := [], alts := [], laidByText := true, laidKinds := [.data, .data, .data, .data, .sentinel, .sentinel, .widerDeep, .listed, .data, .pinned], laidTests := true, laidLooks := .later }
def TopFewUptoCardSaid : Prop := Claim7.holds Tryz.pinned (.plain (OpenSpec.upto topFewSpec)) topFewUptoCard
end Rows
end Go.Proofs.YtnmmomopnaglbaaGreatDoor
