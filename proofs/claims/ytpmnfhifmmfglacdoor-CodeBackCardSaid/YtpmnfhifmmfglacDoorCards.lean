/-
  DERIVED. GIVEN WITH THE SEED: THE CARDS: each row of YtpmnfhifmmfglacDoorRows.lean that lists a variable, with what it lists TIED to the program's text (the seventh form; the later family's looks); each row that meets fmt, with fmt's text TOLD by the authors' own Lean function (tested against real Go, not proved from fmt's source: count such statements apart). THE CARD IS WHAT COUNTS. Prove the row's statement (the work); the ties are given (YtpmnfhifmmfglacDoorTie.lean); close each card by the builder's one call (the guide's Derived/Test/ToyasCard.lean, 'card_holds'). Laid BY PROGRAM, IN A SANDBOX (cutbox-door.mjs). By AI agents, Wed Nov 11 2026. No macro, syntax, notation, axiom, sorry.
-/
import Derived.Test.YtpmnfhifmmfglacDoorRows
import GoSem.ClaimSeven
namespace Go.Proofs.YtpmnfhifmmfglacDoor
namespace Rows

/-- THE TIED CARD OF 'darkslidelaw.CodeWrites'. -/
def codeWritesCard : Claim7 := { stood := { row := codeWritesRow, standIns := [], harness := (true, "6928211063a35d05570d515a5a91e518581509cbcbd9117ea5a6bf29d7fd919f"), looks := false }, kinds := [], alts := [], laidByText := true, laidKinds := [.data, .pinned], laidTests := true, laidLooks := .later }
def CodeWritesCardSaid : Prop := Claim7.holds Tryd.pinned (.plain (OpenSpec.ofChange codeWritesSpec)) codeWritesCard

/-- THE TIED CARD OF 'darkslidelaw.CodeBack'. -/
def codeBackCard : Claim7 := { stood := { row := codeBackRow, standIns := [], harness := (true, "6928211063a35d05570d515a5a91e518581509cbcbd9117ea5a6bf29d7fd919f"), looks := false }, kinds := [], alts := [], laidByText := true, laidKinds := [.data, .pinned], laidTests := true, laidLooks := .later }
def CodeBackCardSaid : Prop := Claim7.holds Tryd.pinned (.plain (OpenSpec.ofChange codeBackSpec)) codeBackCard

/-- THE TIED CARD OF 'darkslidelaw.DiffGuesses'. -/
def diffGuessesCard : Claim7 := { stood := { row := diffGuessesRow, standIns := [], harness := (true, "6928211063a35d05570d515a5a91e518581509cbcbd9117ea5a6bf29d7fd919f"), looks := false }, kinds := [], alts := [], laidByText := true, laidKinds := [.data, .pinned], laidTests := true, laidLooks := .later }
def DiffGuessesCardSaid : Prop := Claim7.holds Tryd.pinned (.plain (OpenSpec.ofChange diffGuessesSpec)) diffGuessesCard

/-- THE TIED CARD OF 'darkslidelaw.DiffWrites'. -/
def diffWritesCard : Claim7 := { stood := { row := diffWritesRow, standIns := [], harness := (true, "6928211063a35d05570d515a5a91e518581509cbcbd9117ea5a6bf29d7fd919f"), looks := false }, kinds := [], alts := [], laidByText := true, laidKinds := [.data, .pinned], laidTests := true, laidLooks := .later }
def DiffWritesCardSaid : Prop := Claim7.holds Tryd.pinned (.plain (OpenSpec.ofChange diffWritesSpec)) diffWritesCard

/-- THE TIED CARD OF 'darkslidelaw.DiffReads'. -/
def diffReadsCard : Claim7 := { stood := { row := diffReadsRow, standIns := [], harness := (true, "6928211063a35d05570d515a5a91e518581509cbcbd9117ea5a6bf29d7fd919f"), looks := false }, kinds := [], alts := [], laidByText := true, laidKinds := [.data, .pinned], laidTests := true, laidLooks := .later }
def DiffReadsCardSaid : Prop := Claim7.holds Tryd.pinned (.plain (OpenSpec.ofChange diffReadsSpec)) diffReadsCard

/-- THE TIED CARD OF 'darkslidelaw.DiffBack'. -/
def diffBackCard : Claim7 := { stood := { row := diffBackRow, standIns := [], harness := (true, "6928211063a35d05570d515a5a91e518581509cbcbd9117ea5a6bf29d7fd919f"), looks := false }, kinds := [], alts := [], laidByText := true, laidKinds := [.data, .pinned], laidTests := true, laidLooks := .later }
def DiffBackCardSaid : Prop := Claim7.holds Tryd.pinned (.plain (OpenSpec.ofChange diffBackSpec)) diffBackCard

/-- THE SECOND FORM's CARD OF 'darkslidelaw.CodeWrites'. -/
def codeWritesUptoCard : Claim7 := { stood := { row := codeWritesUptoRow, standIns := [], harness := (true, "6928211063a35d05570d515a5a91e518581509cbcbd9117ea5a6bf29d7fd919f"), looks := false }, kinds := [], alts := [], laidByText := true, laidKinds := [.data, .pinned], laidTests := true, laidLooks := .later }
def CodeWritesUptoCardSaid : Prop := Claim7.holds Tryd.pinned (.plain (OpenSpec.upto codeWritesSpec)) codeWritesUptoCard

/-- THE SECOND FORM's CARD OF 'darkslidelaw.CodeBack'. -/
def codeBackUptoCard : Claim7 := { stood := { row := codeBackUptoRow, standIns := [], harness := (true, "6928211063a35d05570d515a5a91e518581509cbcbd9117ea5a6bf29d7fd919f"), looks := false }, kinds := [], alts := [], laidByText := true, laidKinds := [.data, .pinned], laidTests := true, laidLooks := .later }
def CodeBackUptoCardSaid : Prop := Claim7.holds Tryd.pinned (.plain (OpenSpec.upto codeBackSpec)) codeBackUptoCard

/-- THE SECOND FORM's CARD OF 'darkslidelaw.DiffGuesses'. -/
def diffGuessesUptoCard : Claim7 := { stood := { row := diffGuessesUptoRow, standIns := [], harness := (true, "6928211063a35d05570d515a5a91e518581509cbcbd9117ea5a6bf29d7fd919f"), looks := false }, kinds := [], alts := [], laidByText := true, laidKinds := [.data, .pinned], laidTests := true, laidLooks := .later }
def DiffGuessesUptoCardSaid : Prop := Claim7.holds Tryd.pinned (.plain (OpenSpec.upto diffGuessesSpec)) diffGuessesUptoCard

/-- THE SECOND FORM's CARD OF 'darkslidelaw.DiffWrites'. -/
def diffWritesUptoCard : Claim7 := { stood := { row := diffWritesUptoRow, standIns := [], harness := (true, "6928211063a35d05570d515a5a91e518581509cbcbd9117ea5a6bf29d7fd919f"), looks := false }, kinds := [], alts := [], laidByText := true, laidKinds := [.data, .pinned], laidTests := true, laidLooks := .later }
def DiffWritesUptoCardSaid : Prop := Claim7.holds Tryd.pinned (.plain (OpenSpec.upto diffWritesSpec)) diffWritesUptoCard

/-- THE SECOND FORM's CARD OF 'darkslidelaw.DiffReads'. -/
def diffReadsUptoCard : Claim7 := { stood := { row := diffReadsUptoRow, standIns := [], harness := (true, "6928211063a35d05570d515a5a91e518581509cbcbd9117ea5a6bf29d7fd919f"), looks := false }, kinds := [], alts := [], laidByText := true, laidKinds := [.data, .pinned], laidTests := true, laidLooks := .later }
def DiffReadsUptoCardSaid : Prop := Claim7.holds Tryd.pinned (.plain (OpenSpec.upto diffReadsSpec)) diffReadsUptoCard

/-- THE SECOND FORM's CARD OF 'darkslidelaw.DiffBack'. -/
def diffBackUptoCard : Claim7 := { stood := { row := diffBackUptoRow, standIns := [], harness := (true, "6928211063a35d05570d515a5a91e518581509cbcbd9117ea5a6bf29d7fd919f"), looks := false }, kinds := [], alts := [], laidByText := true, laidKinds := [.data, .pinned], laidTests := true, laidLooks := .later }
def DiffBackUptoCardSaid : Prop := Claim7.holds Tryd.pinned (.plain (OpenSpec.upto diffBackSpec)) diffBackUptoCard
end Rows
end Go.Proofs.YtpmnfhifmmfglacDoor
