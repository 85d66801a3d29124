/-
  DERIVED. GIVEN WITH THE SEED: THE CARDS: each row of YtacohbllbjgdgaaDoorRows.lean that lists a variable, with what it lists TIED to the program's text (the seventh form; the later family's looks); each row that meets fmt, with fmt's text TOLD by the authors' own Lean function (tested against real Go, not proved from fmt's source: count such statements apart). THE CARD IS WHAT COUNTS. Prove the row's statement (the work); the ties are given (YtacohbllbjgdgaaDoorTie.lean); close each card by the builder's one call (the guide's Derived/Test/ToyasCard.lean, 'card_holds'). Laid BY PROGRAM, IN A SANDBOX (cutbox-door.mjs). By AI agents, Wed Nov 11 2026. No macro, syntax, notation, axiom, sorry.
-/
import Derived.Test.YtacohbllbjgdgaaDoorRows
import GoSem.ClaimSeven
namespace Go.Proofs.YtacohbllbjgdgaaDoor
namespace Rows

/-- THE TIED CARD OF 'athanorlaw06.ValidDead'. -/
def validDeadCard : Claim7 := { stood := { row := validDeadRow, standIns := [], harness := (true, "fcf46f3f60161aeb54a143fc8c867090f117f4c17dfed116689fe0af7abf1f5a"), looks := true }, kinds := [], alts := [], laidByText := true, laidKinds := [.data, .pinned], laidTests := true, laidLooks := .later }
def ValidDeadCardSaid : Prop := Claim7.holds Tryd.pinned (.plain (OpenSpec.ofChange validDeadSpec)) validDeadCard

/-- THE SECOND FORM's CARD OF 'athanorlaw06.ValidDead'. -/
def validDeadUptoCard : Claim7 := { stood := { row := validDeadUptoRow, standIns := [], harness := (true, "fcf46f3f60161aeb54a143fc8c867090f117f4c17dfed116689fe0af7abf1f5a"), looks := true }, kinds := [], alts := [], laidByText := true, laidKinds := [.data, .pinned], laidTests := true, laidLooks := .later }
def ValidDeadUptoCardSaid : Prop := Claim7.holds Tryd.pinned (.plain (OpenSpec.upto validDeadSpec)) validDeadUptoCard
end Rows
end Go.Proofs.YtacohbllbjgdgaaDoor
