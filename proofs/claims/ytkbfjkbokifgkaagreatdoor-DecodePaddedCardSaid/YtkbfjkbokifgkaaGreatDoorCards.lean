/-
  DERIVED. GIVEN WITH THE SEED: THE CARDS: each row of YtkbfjkbokifgkaaGreatDoorRows.lean that lists a variable, with what it lists TIED to the program's text (the seventh form; the later family's looks); each row that meets fmt, with fmt's text TOLD by the authors' own Lean function (tested against real Go, not proved from fmt's source: count such statements apart). THE CARD IS WHAT COUNTS. Prove the row's statement (the work); the ties are given (YtkbfjkbokifgkaaGreatDoorTie.lean); close each card by the builder's one call (the guide's Derived/Test/ToyasCard.lean, 'card_holds'). Laid BY PROGRAM, IN A SANDBOX (cutbox-door.mjs). By AI agents, Wed Nov 11 2026. No macro, syntax, notation, axiom, sorry.
-/
import Derived.Test.YtkbfjkbokifgkaaGreatDoorRows
import GoSem.ClaimSeven
namespace Go.Proofs.YtkbfjkbokifgkaaGreatDoor
namespace Rows

/-- THE TIED CARD OF 'athanorlaw05.DecodeReads'. -/
def decodeReadsCard : Claim7 := { stood := { row := decodeReadsRow, standIns := [], harness := (true, "480ab34b0d71e5c4a909b11a49ebd2fdd955430383fec267675e756c36133075"), looks := true }, kinds := [], alts := [], laidByText := true, laidKinds := [.data, .pinned], laidTests := true, laidLooks := .later }
def DecodeReadsCardSaid : Prop := Claim7.holds Tryz.pinned (.plain (OpenSpec.ofChange decodeReadsSpec)) decodeReadsCard

/-- THE TIED CARD OF 'athanorlaw05.DecodeCustom'. -/
def decodeCustomCard : Claim7 := { stood := { row := decodeCustomRow, standIns := [], harness := (true, "480ab34b0d71e5c4a909b11a49ebd2fdd955430383fec267675e756c36133075"), looks := true }, kinds := [], alts := [], laidByText := true, laidKinds := [.data, .pinned], laidTests := true, laidLooks := .later }
def DecodeCustomCardSaid : Prop := Claim7.holds Tryz.pinned (.plain (OpenSpec.ofChange decodeCustomSpec)) decodeCustomCard

/-- THE TIED CARD OF 'athanorlaw05.DecodePadded'. -/
def decodePaddedCard : Claim7 := { stood := { row := decodePaddedRow, standIns := [], harness := (true, "480ab34b0d71e5c4a909b11a49ebd2fdd955430383fec267675e756c36133075"), looks := true }, kinds := [], alts := [], laidByText := true, laidKinds := [.data, .pinned], laidTests := true, laidLooks := .later }
def DecodePaddedCardSaid : Prop := Claim7.holds Tryz.pinned (.plain (OpenSpec.ofChange decodePaddedSpec)) decodePaddedCard

/-- THE TIED CARD OF 'athanorlaw05.DecodeMost'. -/
def decodeMostCard : Claim7 := { stood := { row := decodeMostRow, standIns := [], harness := (true, "480ab34b0d71e5c4a909b11a49ebd2fdd955430383fec267675e756c36133075"), looks := true }, kinds := [], alts := [], laidByText := true, laidKinds := [.data, .pinned], laidTests := true, laidLooks := .later }
def DecodeMostCardSaid : Prop := Claim7.holds Tryz.pinned (.plain (OpenSpec.ofChange decodeMostSpec)) decodeMostCard

/-- THE TIED CARD OF 'athanorlaw05.DecodeBack'. -/
def decodeBackCard : Claim7 := { stood := { row := decodeBackRow, standIns := [], harness := (true, "480ab34b0d71e5c4a909b11a49ebd2fdd955430383fec267675e756c36133075"), looks := true }, kinds := [], alts := [], laidByText := true, laidKinds := [.data, .pinned], laidTests := true, laidLooks := .later }
def DecodeBackCardSaid : Prop := Claim7.holds Tryz.pinned (.plain (OpenSpec.ofChange decodeBackSpec)) decodeBackCard

/-- THE TIED CARD OF 'athanorlaw05.DecodeAgain'. -/
def decodeAgainCard : Claim7 := { stood := { row := decodeAgainRow, standIns := [], harness := (true, "480ab34b0d71e5c4a909b11a49ebd2fdd955430383fec267675e756c36133075"), looks := true }, kinds := [], alts := [], laidByText := true, laidKinds := [.data, .pinned], laidTests := true, laidLooks := .later }
def DecodeAgainCardSaid : Prop := Claim7.holds Tryz.pinned (.plain (OpenSpec.ofChange decodeAgainSpec)) decodeAgainCard

/-- THE SECOND FORM's CARD OF 'athanorlaw05.DecodeReads'. -/
def decodeReadsUptoCard : Claim7 := { stood := { row := decodeReadsUptoRow, standIns := [], harness := (true, "480ab34b0d71e5c4a909b11a49ebd2fdd955430383fec267675e756c36133075"), looks := true }, kinds := [], alts := [], laidByText := true, laidKinds := [.data, .pinned], laidTests := true, laidLooks := .later }
def DecodeReadsUptoCardSaid : Prop := Claim7.holds Tryz.pinned (.plain (OpenSpec.upto decodeReadsSpec)) decodeReadsUptoCard

/-- THE SECOND FORM's CARD OF 'athanorlaw05.DecodeCustom'. -/
def decodeCustomUptoCard : Claim7 := { stood := { row := decodeCustomUptoRow, standIns := [], harness := (true, "480ab34b0d71e5c4a909b11a49ebd2fdd955430383fec267675e756c36133075"), looks := true }, kinds := [], alts := [], laidByText := true, laidKinds := [.data, .pinned], laidTests := true, laidLooks := .later }
def DecodeCustomUptoCardSaid : Prop := Claim7.holds Tryz.pinned (.plain (OpenSpec.upto decodeCustomSpec)) decodeCustomUptoCard

/-- THE SECOND FORM's CARD OF 'athanorlaw05.DecodePadded'. -/
def decodePaddedUptoCard : Claim7 := { stood := { row := decodePaddedUptoRow, standIns := [], harness := (true, "480ab34b0d71e5c4a909b11a49ebd2fdd955430383fec267675e756c36133075"), looks := true }, kinds := [], alts := [], laidByText := true, laidKinds := [.data, .pinned], laidTests := true, laidLooks := .later }
def DecodePaddedUptoCardSaid : Prop := Claim7.holds Tryz.pinned (.plain (OpenSpec.upto decodePaddedSpec)) decodePaddedUptoCard

/-- THE SECOND FORM's CARD OF 'athanorlaw05.DecodeMost'. -/
def decodeMostUptoCard : Claim7 := { stood := { row := decodeMostUptoRow, standIns := [], harness := (true, "480ab34b0d71e5c4a909b11a49ebd2fdd955430383fec267675e756c36133075"), looks := true }, kinds := [], alts := [], laidByText := true, laidKinds := [.data, .pinned], laidTests := true, laidLooks := .later }
def DecodeMostUptoCardSaid : Prop := Claim7.holds Tryz.pinned (.plain (OpenSpec.upto decodeMostSpec)) decodeMostUptoCard

/-- THE SECOND FORM's CARD OF 'athanorlaw05.DecodeBack'. -/
def decodeBackUptoCard : Claim7 := { stood := { row := decodeBackUptoRow, standIns := [], harness := (true, "480ab34b0d71e5c4a909b11a49ebd2fdd955430383fec267675e756c36133075"), looks := true }, kinds := [], alts := [], laidByText := true, laidKinds := [.data, .pinned], laidTests := true, laidLooks := .later }
def DecodeBackUptoCardSaid : Prop := Claim7.holds Tryz.pinned (.plain (OpenSpec.upto decodeBackSpec)) decodeBackUptoCard

/-- THE SECOND FORM's CARD OF 'athanorlaw05.DecodeAgain'. -/
def decodeAgainUptoCard : Claim7 := { stood := { row := decodeAgainUptoRow, standIns := [], harness := (true, "480ab34b0d71e5c4a909b11a49ebd2fdd955430383fec267675e756c36133075"), looks := true }, kinds := [], alts := [], laidByText := true, laidKinds := [.data, .pinned], laidTests := true, laidLooks := .later }
def DecodeAgainUptoCardSaid : Prop := Claim7.holds Tryz.pinned (.plain (OpenSpec.upto decodeAgainSpec)) decodeAgainUptoCard
end Rows
end Go.Proofs.YtkbfjkbokifgkaaGreatDoor
