/-
  DERIVED. GIVEN WITH THE SEED: THE CARDS: each row of YtpmnfhifmmfglabDoorRows.lean that lists a variable, with what it lists TIED to the program's text (the seventh form; the later family's looks); each row that meets fmt, with fmt's text TOLD by the authors' own Lean function (tested against real Go, not proved from fmt's source: count such statements apart). THE CARD IS WHAT COUNTS. Prove the row's statement (the work); the ties are given (YtpmnfhifmmfglabDoorTie.lean); close each card by the builder's one call (the guide's Derived/Test/ToyasCard.lean, 'card_holds'). Laid BY PROGRAM, IN A SANDBOX (cutbox-door.mjs). By AI agents, Wed Nov 11 2026. No macro, syntax, notation, axiom, sorry.
-/
import Derived.Test.YtpmnfhifmmfglabDoorRows
import GoSem.ClaimSeven
namespace Go.Proofs.YtpmnfhifmmfglabDoor
namespace Rows

/-- THE TIED CARD OF 'darkslidelaw.BitsRows'. -/
def bitsRowsCard : Claim7 := { stood := { row := bitsRowsRow, standIns := [], harness := (true, "b77c29f851794b49c9b919177d130cb9eeb8dfb2b175c8241c0fa3a2612db24d"), looks := false }, kinds := [], alts := [], laidByText := true, laidKinds := [.data, .pinned], laidTests := true, laidLooks := .later }
def BitsRowsCardSaid : Prop := Claim7.holds Tryd.pinned (.plain (OpenSpec.ofChange bitsRowsSpec)) bitsRowsCard

/-- THE TIED CARD OF 'darkslidelaw.BitsPacks'. -/
def bitsPacksCard : Claim7 := { stood := { row := bitsPacksRow, standIns := [], harness := (true, "b77c29f851794b49c9b919177d130cb9eeb8dfb2b175c8241c0fa3a2612db24d"), looks := false }, kinds := [], alts := [], laidByText := true, laidKinds := [.data, .pinned], laidTests := true, laidLooks := .later }
def BitsPacksCardSaid : Prop := Claim7.holds Tryd.pinned (.plain (OpenSpec.ofChange bitsPacksSpec)) bitsPacksCard

/-- THE TIED CARD OF 'darkslidelaw.BitsBack'. -/
def bitsBackCard : Claim7 := { stood := { row := bitsBackRow, standIns := [], harness := (true, "b77c29f851794b49c9b919177d130cb9eeb8dfb2b175c8241c0fa3a2612db24d"), looks := false }, kinds := [], alts := [], laidByText := true, laidKinds := [.data, .pinned], laidTests := true, laidLooks := .later }
def BitsBackCardSaid : Prop := Claim7.holds Tryd.pinned (.plain (OpenSpec.ofChange bitsBackSpec)) bitsBackCard

/-- THE TIED CARD OF 'darkslidelaw.CodeWords'. -/
def codeWordsCard : Claim7 := { stood := { row := codeWordsRow, standIns := [], harness := (true, "b77c29f851794b49c9b919177d130cb9eeb8dfb2b175c8241c0fa3a2612db24d"), looks := false }, kinds := [], alts := [], laidByText := true, laidKinds := [.data, .pinned], laidTests := true, laidLooks := .later }
def CodeWordsCardSaid : Prop := Claim7.holds Tryd.pinned (.plain (OpenSpec.ofChange codeWordsSpec)) codeWordsCard

/-- THE SECOND FORM's CARD OF 'darkslidelaw.BitsRows'. -/
def bitsRowsUptoCard : Claim7 := { stood := { row := bitsRowsUptoRow, standIns := [], harness := (true, "b77c29f851794b49c9b919177d130cb9eeb8dfb2b175c8241c0fa3a2612db24d"), looks := false }, kinds := [], alts := [], laidByText := true, laidKinds := [.data, .pinned], laidTests := true, laidLooks := .later }
def BitsRowsUptoCardSaid : Prop := Claim7.holds Tryd.pinned (.plain (OpenSpec.upto bitsRowsSpec)) bitsRowsUptoCard

/-- THE SECOND FORM's CARD OF 'darkslidelaw.BitsPacks'. -/
def bitsPacksUptoCard : Claim7 := { stood := { row := bitsPacksUptoRow, standIns := [], harness := (true, "b77c29f851794b49c9b919177d130cb9eeb8dfb2b175c8241c0fa3a2612db24d"), looks := false }, kinds := [], alts := [], laidByText := true, laidKinds := [.data, .pinned], laidTests := true, laidLooks := .later }
def BitsPacksUptoCardSaid : Prop := Claim7.holds Tryd.pinned (.plain (OpenSpec.upto bitsPacksSpec)) bitsPacksUptoCard

/-- THE SECOND FORM's CARD OF 'darkslidelaw.BitsBack'. -/
def bitsBackUptoCard : Claim7 := { stood := { row := bitsBackUptoRow, standIns := [], harness := (true, "b77c29f851794b49c9b919177d130cb9eeb8dfb2b175c8241c0fa3a2612db24d"), looks := false }, kinds := [], alts := [], laidByText := true, laidKinds := [.data, .pinned], laidTests := true, laidLooks := .later }
def BitsBackUptoCardSaid : Prop := Claim7.holds Tryd.pinned (.plain (OpenSpec.upto bitsBackSpec)) bitsBackUptoCard

/-- THE SECOND FORM's CARD OF 'darkslidelaw.CodeWords'. -/
def codeWordsUptoCard : Claim7 := { stood := { row := codeWordsUptoRow, standIns := [], harness := (true, "b77c29f851794b49c9b919177d130cb9eeb8dfb2b175c8241c0fa3a2612db24d"), looks := false }, kinds := [], alts := [], laidByText := true, laidKinds := [.data, .pinned], laidTests := true, laidLooks := .later }
def CodeWordsUptoCardSaid : Prop := Claim7.holds Tryd.pinned (.plain (OpenSpec.upto codeWordsSpec)) codeWordsUptoCard
end Rows
end Go.Proofs.YtpmnfhifmmfglabDoor
