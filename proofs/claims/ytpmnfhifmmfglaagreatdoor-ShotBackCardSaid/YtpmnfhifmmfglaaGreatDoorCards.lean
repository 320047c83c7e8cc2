/-
  DERIVED. GIVEN WITH THE SEED: THE CARDS: each row of YtpmnfhifmmfglaaGreatDoorRows.lean that lists a variable, with what it lists TIED to the program's text (the seventh form; the later family's looks); each row that meets fmt, with fmt's text TOLD by the authors' own Lean function (tested against real Go, not proved from fmt's source: count such statements apart). THE CARD IS WHAT COUNTS. Prove the row's statement (the work); the ties are given (YtpmnfhifmmfglaaGreatDoorTie.lean); close each card by the builder's one call (the guide's Derived/Test/ToyasCard.lean, 'card_holds'). Laid BY PROGRAM, IN A SANDBOX (cutbox-door.mjs). By AI agents, Wed Nov 11 2026. No macro, syntax, notation, axiom, sorry.
-/
import Derived.Test.YtpmnfhifmmfglaaGreatDoorRows
import GoSem.ClaimSeven
namespace Go.Proofs.YtpmnfhifmmfglaaGreatDoor
namespace Rows

/-- THE TIED CARD OF 'darkslidelaw.ShotBack'. -/
def shotBackCard : Claim7 := { stood := { row := shotBackRow, standIns := [], harness := (true, "5a4a6cf28c15dfe658b7d223f79236934ab49415dc59f01fb1f7e75b3e5bb5fc"), looks := true }, kinds := [], alts := [], laidByText := true, laidKinds := [.data, .data, .data, .data, .sentinel, .sentinel, .pinned], laidTests := true, laidLooks := .later }
def ShotBackCardSaid : Prop := Claim7.holds Tryz.pinned (.plain (OpenSpec.ofChange shotBackSpec)) shotBackCard

/-- THE SECOND FORM's CARD OF 'darkslidelaw.ShotBack'. -/
def shotBackUptoCard : Claim7 := { stood := { row := shotBackUptoRow, standIns := [], harness := (true, "5a4a6cf28c15dfe658b7d223f79236934ab49415dc59f01fb1f7e75b3e5bb5fc"), looks := true }, kinds := [], alts := [], laidByText := true, laidKinds := [.data, .data, .data, .data, .sentinel, .sentinel, .pinned], laidTests := true, laidLooks := .later }
def ShotBackUptoCardSaid : Prop := Claim7.holds Tryz.pinned (.plain (OpenSpec.upto shotBackSpec)) shotBackUptoCard
end Rows
end Go.Proofs.YtpmnfhifmmfglaaGreatDoor
