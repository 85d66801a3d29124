/-
  DERIVED. GIVEN WITH THE SEED: THE CARDS: each row of YtkbfjkbokifgkaaDoorRows.lean that lists a variable, with what it lists TIED to the program's text (the seventh form; the later family's looks); each row that meets fmt, with fmt's text TOLD by the authors' own Lean function (tested against real Go, not proved from fmt's source: count such statements apart). THE CARD IS WHAT COUNTS. Prove the row's statement (the work); the ties are given (YtkbfjkbokifgkaaDoorTie.lean); close each card by the builder's one call (the guide's Derived/Test/ToyasCard.lean, 'card_holds'). Laid BY PROGRAM, IN A SANDBOX (cutbox-door.mjs). By AI agents, Wed Nov 11 2026. No macro, syntax, notation, axiom, sorry.
-/
import Derived.Test.YtkbfjkbokifgkaaDoorRows
import GoSem.ClaimSeven
namespace Go.Proofs.YtkbfjkbokifgkaaDoor
namespace Rows

/-- THE TIED CARD OF 'athanorlaw05.DecodeCut'. -/
def decodeCutCard : Claim7 := { stood := { row := decodeCutRow, standIns := [], harness := (true, "a6b27309d2bc8febd6233cc7772cdd4334f71c9633d31cebbbe7bc6bfaa76fd7"), looks := true }, kinds := [], alts := [], laidByText := true, laidKinds := [.data, .pinned], laidTests := true, laidLooks := .later }
def DecodeCutCardSaid : Prop := Claim7.holds Tryd.pinned (.plain (OpenSpec.ofChange decodeCutSpec)) decodeCutCard

/-- THE TIED CARD OF 'athanorlaw05.DecodeExprs'. -/
def decodeExprsCard : Claim7 := { stood := { row := decodeExprsRow, standIns := [], harness := (true, "a6b27309d2bc8febd6233cc7772cdd4334f71c9633d31cebbbe7bc6bfaa76fd7"), looks := true }, kinds := [], alts := [], laidByText := true, laidKinds := [.data, .pinned], laidTests := true, laidLooks := .later }
def DecodeExprsCardSaid : Prop := Claim7.holds Tryd.pinned (.plain (OpenSpec.ofChange decodeExprsSpec)) decodeExprsCard

/-- THE TIED CARD OF 'athanorlaw05.DecodeWithin'. -/
def decodeWithinCard : Claim7 := { stood := { row := decodeWithinRow, standIns := [], harness := (true, "a6b27309d2bc8febd6233cc7772cdd4334f71c9633d31cebbbe7bc6bfaa76fd7"), looks := true }, kinds := [], alts := [], laidByText := true, laidKinds := [.data, .pinned], laidTests := true, laidLooks := .later }
def DecodeWithinCardSaid : Prop := Claim7.holds Tryd.pinned (.plain (OpenSpec.ofChange decodeWithinSpec)) decodeWithinCard

/-- THE SECOND FORM's CARD OF 'athanorlaw05.DecodeCut'. -/
def decodeCutUptoCard : Claim7 := { stood := { row := decodeCutUptoRow, standIns := [], harness := (true, "a6b27309d2bc8febd6233cc7772cdd4334f71c9633d31cebbbe7bc6bfaa76fd7"), looks := true }, kinds := [], alts := [], laidByText := true, laidKinds := [.data, .pinned], laidTests := true, laidLooks := .later }
def DecodeCutUptoCardSaid : Prop := Claim7.holds Tryd.pinned (.plain (OpenSpec.upto decodeCutSpec)) decodeCutUptoCard

/-- THE SECOND FORM's CARD OF 'athanorlaw05.DecodeExprs'. -/
def decodeExprsUptoCard : Claim7 := { stood := { row := decodeExprsUptoRow, standIns := [], harness := (true, "a6b27309d2bc8febd6233cc7772cdd4334f71c9633d31cebbbe7bc6bfaa76fd7"), looks := true }, kinds := [], alts := [], laidByText := true, laidKinds := [.data, .pinned], laidTests := true, laidLooks := .later }
def DecodeExprsUptoCardSaid : Prop := Claim7.holds Tryd.pinned (.plain (OpenSpec.upto decodeExprsSpec)) decodeExprsUptoCard

/-- THE SECOND FORM's CARD OF 'athanorlaw05.DecodeWithin'. -/
def decodeWithinUptoCard : Claim7 := { stood := { row := decodeWithinUptoRow, standIns := [], harness := (true, "a6b27309d2bc8febd6233cc7772cdd4334f71c9633d31cebbbe7bc6bfaa76fd7"), looks := true }, kinds := [], alts := [], laidByText := true, laidKinds := [.data, .pinned], laidTests := true, laidLooks := .later }
def DecodeWithinUptoCardSaid : Prop := Claim7.holds Tryd.pinned (.plain (OpenSpec.upto decodeWithinSpec)) decodeWithinUptoCard
end Rows
end Go.Proofs.YtkbfjkbokifgkaaDoor
