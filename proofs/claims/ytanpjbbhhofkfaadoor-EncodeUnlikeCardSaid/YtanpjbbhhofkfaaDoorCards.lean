/-
  DERIVED. GIVEN WITH THE SEED: THE CARDS: each row of YtanpjbbhhofkfaaDoorRows.lean that lists a variable, with what it lists TIED to the program's text (the seventh form; the later family's looks); each row that meets fmt, with fmt's text TOLD by the authors' own Lean function (tested against real Go, not proved from fmt's source: count such statements apart). THE CARD IS WHAT COUNTS. Prove the row's statement (the work); the ties are given (YtanpjbbhhofkfaaDoorTie.lean); close each card by the builder's one call (the guide's Derived/Test/ToyasCard.lean, 'card_holds'). Laid BY PROGRAM, IN A SANDBOX (cutbox-door.mjs). By AI agents, Wed Nov 11 2026. No macro, syntax, notation, axiom, sorry.
-/
import Derived.Test.YtanpjbbhhofkfaaDoorRows
import GoSem.ClaimSeven
namespace Go.Proofs.YtanpjbbhhofkfaaDoor
namespace Rows

/-- THE TIED CARD OF 'athanorlaw04.EncodeUnlike'. -/
def encodeUnlikeCard : Claim7 := { stood := { row := encodeUnlikeRow, standIns := [], harness := (true, "566ba5686b33928f652efac5d17cff8e8f15b61c82f044c73b136e6e565d2e15"), looks := true }, kinds := [], alts := [], laidByText := true, laidKinds := [.data, .pinned], laidTests := true, laidLooks := .later }
def EncodeUnlikeCardSaid : Prop := Claim7.holds Tryd.pinned (.plain (OpenSpec.ofChange encodeUnlikeSpec)) encodeUnlikeCard

/-- THE TIED CARD OF 'athanorlaw04.EncodeBodies'. -/
def encodeBodiesCard : Claim7 := { stood := { row := encodeBodiesRow, standIns := [], harness := (true, "566ba5686b33928f652efac5d17cff8e8f15b61c82f044c73b136e6e565d2e15"), looks := true }, kinds := [], alts := [], laidByText := true, laidKinds := [.data, .pinned], laidTests := true, laidLooks := .later }
def EncodeBodiesCardSaid : Prop := Claim7.holds Tryd.pinned (.plain (OpenSpec.ofChange encodeBodiesSpec)) encodeBodiesCard

/-- THE TIED CARD OF 'athanorlaw04.EncodeJoins'. -/
def encodeJoinsCard : Claim7 := { stood := { row := encodeJoinsRow, standIns := [], harness := (true, "566ba5686b33928f652efac5d17cff8e8f15b61c82f044c73b136e6e565d2e15"), looks := true }, kinds := [], alts := [], laidByText := true, laidKinds := [.data, .pinned], laidTests := true, laidLooks := .later }
def EncodeJoinsCardSaid : Prop := Claim7.holds Tryd.pinned (.plain (OpenSpec.ofChange encodeJoinsSpec)) encodeJoinsCard

/-- THE SECOND FORM's CARD OF 'athanorlaw04.EncodeUnlike'. -/
def encodeUnlikeUptoCard : Claim7 := { stood := { row := encodeUnlikeUptoRow, standIns := [], harness := (true, "566ba5686b33928f652efac5d17cff8e8f15b61c82f044c73b136e6e565d2e15"), looks := true }, kinds := [], alts := [], laidByText := true, laidKinds := [.data, .pinned], laidTests := true, laidLooks := .later }
def EncodeUnlikeUptoCardSaid : Prop := Claim7.holds Tryd.pinned (.plain (OpenSpec.upto encodeUnlikeSpec)) encodeUnlikeUptoCard

/-- THE SECOND FORM's CARD OF 'athanorlaw04.EncodeBodies'. -/
def encodeBodiesUptoCard : Claim7 := { stood := { row := encodeBodiesUptoRow, standIns := [], harness := (true, "566ba5686b33928f652efac5d17cff8e8f15b61c82f044c73b136e6e565d2e15"), looks := true }, kinds := [], alts := [], laidByText := true, laidKinds := [.data, .pinned], laidTests := true, laidLooks := .later }
def EncodeBodiesUptoCardSaid : Prop := Claim7.holds Tryd.pinned (.plain (OpenSpec.upto encodeBodiesSpec)) encodeBodiesUptoCard

/-- THE SECOND FORM's CARD OF 'athanorlaw04.EncodeJoins'. -/
def encodeJoinsUptoCard : Claim7 := { stood := { row := encodeJoinsUptoRow, standIns := [], harness := (true, "566ba5686b33928f652efac5d17cff8e8f15b61c82f044c73b136e6e565d2e15"), looks := true }, kinds := [], alts := [], laidByText := true, laidKinds := [.data, .pinned], laidTests := true, laidLooks := .later }
def EncodeJoinsUptoCardSaid : Prop := Claim7.holds Tryd.pinned (.plain (OpenSpec.upto encodeJoinsSpec)) encodeJoinsUptoCard
end Rows
end Go.Proofs.YtanpjbbhhofkfaaDoor
