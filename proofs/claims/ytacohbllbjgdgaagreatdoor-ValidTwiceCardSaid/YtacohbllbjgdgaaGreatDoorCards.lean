/-
  DERIVED. GIVEN WITH THE SEED: THE CARDS: each row of YtacohbllbjgdgaaGreatDoorRows.lean that lists a variable, with what it lists TIED to the program's text (the seventh form; the later family's looks); each row that meets fmt, with fmt's text TOLD by the authors' own Lean function (tested against real Go, not proved from fmt's source: count such statements apart). THE CARD IS WHAT COUNTS. Prove the row's statement (the work); the ties are given (YtacohbllbjgdgaaGreatDoorTie.lean); close each card by the builder's one call (the guide's Derived/Test/ToyasCard.lean, 'card_holds'). Laid BY PROGRAM, IN A SANDBOX (cutbox-door.mjs). By AI agents, Wed Nov 11 2026. No macro, syntax, notation, axiom, sorry.
-/
import Derived.Test.YtacohbllbjgdgaaGreatDoorRows
import GoSem.ClaimSeven
namespace Go.Proofs.YtacohbllbjgdgaaGreatDoor
namespace Rows

/-- THE TIED CARD OF 'athanorlaw06.ValidSays'. -/
def validSaysCard : Claim7 := { stood := { row := validSaysRow, standIns := [], harness := (true, "eed0bcbb2ea650bd0c577c184ce6d66dd4401812cc727eb6b355ba63c854a707"), looks := true }, kinds := [], alts := [], laidByText := true, laidKinds := [.data, .pinned], laidTests := true, laidLooks := .later }
def ValidSaysCardSaid : Prop := Claim7.holds Tryz.pinned (.plain (OpenSpec.ofChange validSaysSpec)) validSaysCard

/-- THE TIED CARD OF 'athanorlaw06.ValidBodies'. -/
def validBodiesCard : Claim7 := { stood := { row := validBodiesRow, standIns := [], harness := (true, "eed0bcbb2ea650bd0c577c184ce6d66dd4401812cc727eb6b355ba63c854a707"), looks := true }, kinds := [], alts := [], laidByText := true, laidKinds := [.data, .pinned], laidTests := true, laidLooks := .later }
def ValidBodiesCardSaid : Prop := Claim7.holds Tryz.pinned (.plain (OpenSpec.ofChange validBodiesSpec)) validBodiesCard

/-- THE TIED CARD OF 'athanorlaw06.ValidMore'. -/
def validMoreCard : Claim7 := { stood := { row := validMoreRow, standIns := [], harness := (true, "eed0bcbb2ea650bd0c577c184ce6d66dd4401812cc727eb6b355ba63c854a707"), looks := true }, kinds := [], alts := [], laidByText := true, laidKinds := [.data, .pinned], laidTests := true, laidLooks := .later }
def ValidMoreCardSaid : Prop := Claim7.holds Tryz.pinned (.plain (OpenSpec.ofChange validMoreSpec)) validMoreCard

/-- THE TIED CARD OF 'athanorlaw06.ValidNops'. -/
def validNopsCard : Claim7 := { stood := { row := validNopsRow, standIns := [], harness := (true, "eed0bcbb2ea650bd0c577c184ce6d66dd4401812cc727eb6b355ba63c854a707"), looks := true }, kinds := [], alts := [], laidByText := true, laidKinds := [.data, .pinned], laidTests := true, laidLooks := .later }
def ValidNopsCardSaid : Prop := Claim7.holds Tryz.pinned (.plain (OpenSpec.ofChange validNopsSpec)) validNopsCard

/-- THE TIED CARD OF 'athanorlaw06.ValidTwice'. -/
def validTwiceCard : Claim7 := { stood := { row := validTwiceRow, standIns := [], harness := (true, "eed0bcbb2ea650bd0c577c184ce6d66dd4401812cc727eb6b355ba63c854a707"), looks := true }, kinds := [], alts := [], laidByText := true, laidKinds := [.data, .pinned], laidTests := true, laidLooks := .later }
def ValidTwiceCardSaid : Prop := Claim7.holds Tryz.pinned (.plain (OpenSpec.ofChange validTwiceSpec)) validTwiceCard

/-- THE TIED CARD OF 'athanorlaw06.ValidLoops'. -/
def validLoopsCard : Claim7 := { stood := { row := validLoopsRow, standIns := [], harness := (true, "eed0bcbb2ea650bd0c577c184ce6d66dd4401812cc727eb6b355ba63c854a707"), looks := true }, kinds := [], alts := [], laidByText := true, laidKinds := [.data, .pinned], laidTests := true, laidLooks := .later }
def ValidLoopsCardSaid : Prop := Claim7.holds Tryz.pinned (.plain (OpenSpec.ofChange validLoopsSpec)) validLoopsCard

/-- THE SECOND FORM's CARD OF 'athanorlaw06.ValidSays'. -/
def validSaysUptoCard : Claim7 := { stood := { row := validSaysUptoRow, standIns := [], harness := (true, "eed0bcbb2ea650bd0c577c184ce6d66dd4401812cc727eb6b355ba63c854a707"), looks := true }, kinds := [], alts := [], laidByText := true, laidKinds := [.data, .pinned], laidTests := true, laidLooks := .later }
def ValidSaysUptoCardSaid : Prop := Claim7.holds Tryz.pinned (.plain (OpenSpec.upto validSaysSpec)) validSaysUptoCard

/-- THE SECOND FORM's CARD OF 'athanorlaw06.ValidBodies'. -/
def validBodiesUptoCard : Claim7 := { stood := { row := validBodiesUptoRow, standIns := [], harness := (true, "eed0bcbb2ea650bd0c577c184ce6d66dd4401812cc727eb6b355ba63c854a707"), looks := true }, kinds := [], alts := [], laidByText := true, laidKinds := [.data, .pinned], laidTests := true, laidLooks := .later }
def ValidBodiesUptoCardSaid : Prop := Claim7.holds Tryz.pinned (.plain (OpenSpec.upto validBodiesSpec)) validBodiesUptoCard

/-- THE SECOND FORM's CARD OF 'athanorlaw06.ValidMore'. -/
def validMoreUptoCard : Claim7 := { stood := { row := validMoreUptoRow, standIns := [], harness := (true, "eed0bcbb2ea650bd0c577c184ce6d66dd4401812cc727eb6b355ba63c854a707"), looks := true }, kinds := [], alts := [], laidByText := true, laidKinds := [.data, .pinned], laidTests := true, laidLooks := .later }
def ValidMoreUptoCardSaid : Prop := Claim7.holds Tryz.pinned (.plain (OpenSpec.upto validMoreSpec)) validMoreUptoCard

/-- THE SECOND FORM's CARD OF 'athanorlaw06.ValidNops'. -/
def validNopsUptoCard : Claim7 := { stood := { row := validNopsUptoRow, standIns := [], harness := (true, "eed0bcbb2ea650bd0c577c184ce6d66dd4401812cc727eb6b355ba63c854a707"), looks := true }, kinds := [], alts := [], laidByText := true, laidKinds := [.data, .pinned], laidTests := true, laidLooks := .later }
def ValidNopsUptoCardSaid : Prop := Claim7.holds Tryz.pinned (.plain (OpenSpec.upto validNopsSpec)) validNopsUptoCard

/-- THE SECOND FORM's CARD OF 'athanorlaw06.ValidTwice'. -/
def validTwiceUptoCard : Claim7 := { stood := { row := validTwiceUptoRow, standIns := [], harness := (true, "eed0bcbb2ea650bd0c577c184ce6d66dd4401812cc727eb6b355ba63c854a707"), looks := true }, kinds := [], alts := [], laidByText := true, laidKinds := [.data, .pinned], laidTests := true, laidLooks := .later }
def ValidTwiceUptoCardSaid : Prop := Claim7.holds Tryz.pinned (.plain (OpenSpec.upto validTwiceSpec)) validTwiceUptoCard

/-- THE SECOND FORM's CARD OF 'athanorlaw06.ValidLoops'. -/
def validLoopsUptoCard : Claim7 := { stood := { row := validLoopsUptoRow, standIns := [], harness := (true, "eed0bcbb2ea650bd0c577c184ce6d66dd4401812cc727eb6b355ba63c854a707"), looks := true }, kinds := [], alts := [], laidByText := true, laidKinds := [.data, .pinned], laidTests := true, laidLooks := .later }
def ValidLoopsUptoCardSaid : Prop := Claim7.holds Tryz.pinned (.plain (OpenSpec.upto validLoopsSpec)) validLoopsUptoCard
end Rows
end Go.Proofs.YtacohbllbjgdgaaGreatDoor
