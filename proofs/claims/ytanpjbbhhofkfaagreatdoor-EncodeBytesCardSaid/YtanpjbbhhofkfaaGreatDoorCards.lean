/-
  DERIVED. GIVEN WITH THE SEED: THE CARDS: each row of YtanpjbbhhofkfaaGreatDoorRows.lean that lists a variable, with what it lists TIED to the program's text (the seventh form; the later family's looks); each row that meets fmt, with fmt's text TOLD by the authors' own Lean function (tested against real Go, not proved from fmt's source: count such statements apart). THE CARD IS WHAT COUNTS. Prove the row's statement (the work); the ties are given (YtanpjbbhhofkfaaGreatDoorTie.lean); close each card by the builder's one call (the guide's Derived/Test/ToyasCard.lean, 'card_holds'). Laid BY PROGRAM, IN A SANDBOX (cutbox-door.mjs). By AI agents, Wed Nov 11 2026. No macro, syntax, notation, axiom, sorry.
-/
import Derived.Test.YtanpjbbhhofkfaaGreatDoorRows
import GoSem.ClaimSeven
namespace Go.Proofs.YtanpjbbhhofkfaaGreatDoor
namespace Rows

/-- THE TIED CARD OF 'athanorlaw04.EncodeBytes'. -/
def encodeBytesCard : Claim7 := { stood := { row := encodeBytesRow, standIns := [], harness := (true, "6261ad601b08928044226253848aa333fcb50e3b96f3d2e0ee2ca7f9bbe3abe1"), looks := true }, kinds := [], alts := [], laidByText := true, laidKinds := [.data, .pinned], laidTests := true, laidLooks := .later }
def EncodeBytesCardSaid : Prop := Claim7.holds Tryz.pinned (.plain (OpenSpec.ofChange encodeBytesSpec)) encodeBytesCard

/-- THE TIED CARD OF 'athanorlaw04.EncodeLong'. -/
def encodeLongCard : Claim7 := { stood := { row := encodeLongRow, standIns := [], harness := (true, "6261ad601b08928044226253848aa333fcb50e3b96f3d2e0ee2ca7f9bbe3abe1"), looks := true }, kinds := [], alts := [], laidByText := true, laidKinds := [.data, .pinned], laidTests := true, laidLooks := .later }
def EncodeLongCardSaid : Prop := Claim7.holds Tryz.pinned (.plain (OpenSpec.ofChange encodeLongSpec)) encodeLongCard

/-- THE SECOND FORM's CARD OF 'athanorlaw04.EncodeBytes'. -/
def encodeBytesUptoCard : Claim7 := { stood := { row := encodeBytesUptoRow, standIns := [], harness := (true, "6261ad601b08928044226253848aa333fcb50e3b96f3d2e0ee2ca7f9bbe3abe1"), looks := true }, kinds := [], alts := [], laidByText := true, laidKinds := [.data, .pinned], laidTests := true, laidLooks := .later }
def EncodeBytesUptoCardSaid : Prop := Claim7.holds Tryz.pinned (.plain (OpenSpec.upto encodeBytesSpec)) encodeBytesUptoCard

/-- THE SECOND FORM's CARD OF 'athanorlaw04.EncodeLong'. -/
def encodeLongUptoCard : Claim7 := { stood := { row := encodeLongUptoRow, standIns := [], harness := (true, "6261ad601b08928044226253848aa333fcb50e3b96f3d2e0ee2ca7f9bbe3abe1"), looks := true }, kinds := [], alts := [], laidByText := true, laidKinds := [.data, .pinned], laidTests := true, laidLooks := .later }
def EncodeLongUptoCardSaid : Prop := Claim7.holds Tryz.pinned (.plain (OpenSpec.upto encodeLongSpec)) encodeLongUptoCard
end Rows
end Go.Proofs.YtanpjbbhhofkfaaGreatDoor
