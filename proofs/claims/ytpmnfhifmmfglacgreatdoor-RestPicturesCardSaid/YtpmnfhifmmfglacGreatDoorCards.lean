/-
  DERIVED. GIVEN WITH THE SEED: THE CARDS: each row of YtpmnfhifmmfglacGreatDoorRows.lean that lists a variable, with what it lists TIED to the program's text (the seventh form; the later family's looks); each row that meets fmt, with fmt's text TOLD by the authors' own Lean function (tested against real Go, not proved from fmt's source: count such statements apart). THE CARD IS WHAT COUNTS. Prove the row's statement (the work); the ties are given (YtpmnfhifmmfglacGreatDoorTie.lean); close each card by the builder's one call (the guide's Derived/Test/ToyasCard.lean, 'card_holds'). Laid BY PROGRAM, IN A SANDBOX (cutbox-door.mjs). By AI agents, Wed Nov 11 2026. No macro, syntax, notation, axiom, sorry.
-/
import Derived.Test.YtpmnfhifmmfglacGreatDoorRows
import GoSem.ClaimSeven
namespace Go.Proofs.YtpmnfhifmmfglacGreatDoor
namespace Rows

/-- THE TIED CARD OF 'darkslidelaw.RestPictures'. -/
def restPicturesCard : Claim7 := { stood := { row := restPicturesRow, standIns := [], harness := (true, "4037d00f8686e17ba4a66b1175a744cda92ff49f4201ea4f7892997f58b3a54e"), looks := true }, kinds := [], alts := [], laidByText := true, laidKinds := [.data, .pinned], laidTests := true, laidLooks := .later }
def RestPicturesCardSaid : Prop := Claim7.holds Tryz.pinned (.plain (OpenSpec.ofChange restPicturesSpec)) restPicturesCard

/-- THE TIED CARD OF 'darkslidelaw.RawPlanes'. -/
def rawPlanesCard : Claim7 := { stood := { row := rawPlanesRow, standIns := [], harness := (true, "4037d00f8686e17ba4a66b1175a744cda92ff49f4201ea4f7892997f58b3a54e"), looks := true }, kinds := [], alts := [], laidByText := true, laidKinds := [.data, .pinned], laidTests := true, laidLooks := .later }
def RawPlanesCardSaid : Prop := Claim7.holds Tryz.pinned (.plain (OpenSpec.ofChange rawPlanesSpec)) rawPlanesCard

/-- THE TIED CARD OF 'darkslidelaw.RawFills'. -/
def rawFillsCard : Claim7 := { stood := { row := rawFillsRow, standIns := [], harness := (true, "4037d00f8686e17ba4a66b1175a744cda92ff49f4201ea4f7892997f58b3a54e"), looks := true }, kinds := [], alts := [], laidByText := true, laidKinds := [.data, .pinned], laidTests := true, laidLooks := .later }
def RawFillsCardSaid : Prop := Claim7.holds Tryz.pinned (.plain (OpenSpec.ofChange rawFillsSpec)) rawFillsCard

/-- THE TIED CARD OF 'darkslidelaw.RawWrites'. -/
def rawWritesCard : Claim7 := { stood := { row := rawWritesRow, standIns := [], harness := (true, "4037d00f8686e17ba4a66b1175a744cda92ff49f4201ea4f7892997f58b3a54e"), looks := true }, kinds := [], alts := [], laidByText := true, laidKinds := [.data, .pinned], laidTests := true, laidLooks := .later }
def RawWritesCardSaid : Prop := Claim7.holds Tryz.pinned (.plain (OpenSpec.ofChange rawWritesSpec)) rawWritesCard

/-- THE TIED CARD OF 'darkslidelaw.RawBack'. -/
def rawBackCard : Claim7 := { stood := { row := rawBackRow, standIns := [], harness := (true, "4037d00f8686e17ba4a66b1175a744cda92ff49f4201ea4f7892997f58b3a54e"), looks := true }, kinds := [], alts := [], laidByText := true, laidKinds := [.data, .pinned], laidTests := true, laidLooks := .later }
def RawBackCardSaid : Prop := Claim7.holds Tryz.pinned (.plain (OpenSpec.ofChange rawBackSpec)) rawBackCard

/-- THE TIED CARD OF 'darkslidelaw.ShotWrites'. -/
def shotWritesCard : Claim7 := { stood := { row := shotWritesRow, standIns := [], harness := (true, "4037d00f8686e17ba4a66b1175a744cda92ff49f4201ea4f7892997f58b3a54e"), looks := true }, kinds := [], alts := [], laidByText := true, laidKinds := [.data, .data, .data, .data, .sentinel, .sentinel, .pinned], laidTests := true, laidLooks := .later }
def ShotWritesCardSaid : Prop := Claim7.holds Tryz.pinned (.plain (OpenSpec.ofChange shotWritesSpec)) shotWritesCard

/-- THE SECOND FORM's CARD OF 'darkslidelaw.RestPictures'. -/
def restPicturesUptoCard : Claim7 := { stood := { row := restPicturesUptoRow, standIns := [], harness := (true, "4037d00f8686e17ba4a66b1175a744cda92ff49f4201ea4f7892997f58b3a54e"), looks := true }, kinds := [], alts := [], laidByText := true, laidKinds := [.data, .pinned], laidTests := true, laidLooks := .later }
def RestPicturesUptoCardSaid : Prop := Claim7.holds Tryz.pinned (.plain (OpenSpec.upto restPicturesSpec)) restPicturesUptoCard

/-- THE SECOND FORM's CARD OF 'darkslidelaw.RawPlanes'. -/
def rawPlanesUptoCard : Claim7 := { stood := { row := rawPlanesUptoRow, standIns := [], harness := (true, "4037d00f8686e17ba4a66b1175a744cda92ff49f4201ea4f7892997f58b3a54e"), looks := true }, kinds := [], alts := [], laidByText := true, laidKinds := [.data, .pinned], laidTests := true, laidLooks := .later }
def RawPlanesUptoCardSaid : Prop := Claim7.holds Tryz.pinned (.plain (OpenSpec.upto rawPlanesSpec)) rawPlanesUptoCard

/-- THE SECOND FORM's CARD OF 'darkslidelaw.RawFills'. -/
def rawFillsUptoCard : Claim7 := { stood := { row := rawFillsUptoRow, standIns := [], harness := (true, "4037d00f8686e17ba4a66b1175a744cda92ff49f4201ea4f7892997f58b3a54e"), looks := true }, kinds := [], alts := [], laidByText := true, laidKinds := [.data, .pinned], laidTests := true, laidLooks := .later }
def RawFillsUptoCardSaid : Prop := Claim7.holds Tryz.pinned (.plain (OpenSpec.upto rawFillsSpec)) rawFillsUptoCard

/-- THE SECOND FORM's CARD OF 'darkslidelaw.RawWrites'. -/
def rawWritesUptoCard : Claim7 := { stood := { row := rawWritesUptoRow, standIns := [], harness := (true, "4037d00f8686e17ba4a66b1175a744cda92ff49f4201ea4f7892997f58b3a54e"), looks := true }, kinds := [], alts := [], laidByText := true, laidKinds := [.data, .pinned], laidTests := true, laidLooks := .later }
def RawWritesUptoCardSaid : Prop := Claim7.holds Tryz.pinned (.plain (OpenSpec.upto rawWritesSpec)) rawWritesUptoCard

/-- THE SECOND FORM's CARD OF 'darkslidelaw.RawBack'. -/
def rawBackUptoCard : Claim7 := { stood := { row := rawBackUptoRow, standIns := [], harness := (true, "4037d00f8686e17ba4a66b1175a744cda92ff49f4201ea4f7892997f58b3a54e"), looks := true }, kinds := [], alts := [], laidByText := true, laidKinds := [.data, .pinned], laidTests := true, laidLooks := .later }
def RawBackUptoCardSaid : Prop := Claim7.holds Tryz.pinned (.plain (OpenSpec.upto rawBackSpec)) rawBackUptoCard

/-- THE SECOND FORM's CARD OF 'darkslidelaw.ShotWrites'. -/
def shotWritesUptoCard : Claim7 := { stood := { row := shotWritesUptoRow, standIns := [], harness := (true, "4037d00f8686e17ba4a66b1175a744cda92ff49f4201ea4f7892997f58b3a54e"), looks := true }, kinds := [], alts := [], laidByText := true, laidKinds := [.data, .data, .data, .data, .sentinel, .sentinel, .pinned], laidTests := true, laidLooks := .later }
def ShotWritesUptoCardSaid : Prop := Claim7.holds Tryz.pinned (.plain (OpenSpec.upto shotWritesSpec)) shotWritesUptoCard
end Rows
end Go.Proofs.YtpmnfhifmmfglacGreatDoor
