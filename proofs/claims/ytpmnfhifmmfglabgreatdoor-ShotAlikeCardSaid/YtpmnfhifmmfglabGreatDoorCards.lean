/-
  DERIVED. GIVEN WITH THE SEED: THE CARDS: each row of YtpmnfhifmmfglabGreatDoorRows.lean that lists a variable, with what it lists TIED to the program's text (the seventh form; the later family's looks); each row that meets fmt, with fmt's text TOLD by the authors' own Lean function (tested against real Go, not proved from fmt's source: count such statements apart). THE CARD IS WHAT COUNTS. Prove the row's statement (the work); the ties are given (YtpmnfhifmmfglabGreatDoorTie.lean); close each card by the builder's one call (the guide's Derived/Test/ToyasCard.lean, 'card_holds'). Laid BY PROGRAM, IN A SANDBOX (cutbox-door.mjs). By AI agents, Wed Nov 11 2026. No macro, syntax, notation, axiom, sorry.
-/
import Derived.Test.YtpmnfhifmmfglabGreatDoorRows
import GoSem.ClaimSeven
namespace Go.Proofs.YtpmnfhifmmfglabGreatDoor
namespace Rows

/-- THE TIED CARD OF 'darkslidelaw.ShotAlike'. -/
def shotAlikeCard : Claim7 := { stood := { row := shotAlikeRow, standIns := [], harness := (true, "e9e65855b18142f3bd3f3b5c3e1abf58ec0ccf4ebf183d8961af41d4fabb230d"), looks := true }, kinds := [], alts := [], laidByText := true, laidKinds := [.data, .data, .data, .data, .sentinel, .sentinel, .pinned], laidTests := true, laidLooks := .later }
def ShotAlikeCardSaid : Prop := Claim7.holds Tryz.pinned (.plain (OpenSpec.ofChange shotAlikeSpec)) shotAlikeCard

/-- THE SECOND FORM's CARD OF 'darkslidelaw.ShotAlike'. -/
def shotAlikeUptoCard : Claim7 := { stood := { row := shotAlikeUptoRow, standIns := [], harness := (true, "e9e65855b18142f3bd3f3b5c3e1abf58ec0ccf4ebf183d8961af41d4fabb230d"), looks := true }, kinds := [], alts := [], laidByText := true, laidKinds := [.data, .data, .data, .data, .sentinel, .sentinel, .pinned], laidTests := true, laidLooks := .later }
def ShotAlikeUptoCardSaid : Prop := Claim7.holds Tryz.pinned (.plain (OpenSpec.upto shotAlikeSpec)) shotAlikeUptoCard
end Rows
end Go.Proofs.YtpmnfhifmmfglabGreatDoor
