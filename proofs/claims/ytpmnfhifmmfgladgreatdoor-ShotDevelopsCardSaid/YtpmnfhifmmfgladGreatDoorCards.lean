/-
  DERIVED. GIVEN WITH THE SEED: THE CARDS: each row of YtpmnfhifmmfgladGreatDoorRows.lean that lists a variable, with what it lists TIED to the program's text (the seventh form; the later family's looks); each row that meets fmt, with fmt's text TOLD by the authors' own Lean function (tested against real Go, not proved from fmt's source: count such statements apart). THE CARD IS WHAT COUNTS. Prove the row's statement (the work); the ties are given (YtpmnfhifmmfgladGreatDoorTie.lean); close each card by the builder's one call (the guide's Derived/Test/ToyasCard.lean, 'card_holds'). Laid BY PROGRAM, IN A SANDBOX (cutbox-door.mjs). By AI agents, Wed Nov 11 2026. No macro, syntax, notation, axiom, sorry.
-/
import Derived.Test.YtpmnfhifmmfgladGreatDoorRows
import GoSem.ClaimSeven
namespace Go.Proofs.YtpmnfhifmmfgladGreatDoor
namespace Rows

/-- THE TIED CARD OF 'darkslidelaw.ShotDevelops'. -/
def shotDevelopsCard : Claim7 := { stood := { row := shotDevelopsRow, standIns := [], harness := (true, "0714eb582f21517810de502982bdf620f1738beb3ebb6474af601834a0f54998"), looks := true }, kinds := [], alts := [], laidByText := true, laidKinds := [.data, .data, .data, .data, .sentinel, .sentinel, .pinned], laidTests := true, laidLooks := .later }
def ShotDevelopsCardSaid : Prop := Claim7.holds Tryz.pinned (.plain (OpenSpec.ofChange shotDevelopsSpec)) shotDevelopsCard

/-- THE SECOND FORM's CARD OF 'darkslidelaw.ShotDevelops'. -/
def shotDevelopsUptoCard : Claim7 := { stood := { row := shotDevelopsUptoRow, standIns := [], harness := (true, "0714eb582f21517810de502982bdf620f1738beb3ebb6474af601834a0f54998"), looks := true }, kinds := [], alts := [], laidByText := true, laidKinds := [.data, .data, .data, .data, .sentinel, .sentinel, .pinned], laidTests := true, laidLooks := .later }
def ShotDevelopsUptoCardSaid : Prop := Claim7.holds Tryz.pinned (.plain (OpenSpec.upto shotDevelopsSpec)) shotDevelopsUptoCard
end Rows
end Go.Proofs.YtpmnfhifmmfgladGreatDoor
