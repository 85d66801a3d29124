/-
  DERIVED. GIVEN WITH THE SEED: THE CARDS: each row of YtkmdgdjdkkmjcaaDoorRows.lean that lists a variable, with what it lists TIED to the program's text (the seventh form; the later family's looks); each row that meets fmt, with fmt's text TOLD by the authors' own Lean function (tested against real Go, not proved from fmt's source: count such statements apart). THE CARD IS WHAT COUNTS. Prove the row's statement (the work); the ties are given (YtkmdgdjdkkmjcaaDoorTie.lean); close each card by the builder's one call (the guide's Derived/Test/ToyasCard.lean, 'card_holds'). Laid BY PROGRAM, IN A SANDBOX (cutbox-door.mjs). By AI agents, Wed Nov 11 2026. No macro, syntax, notation, axiom, sorry.
-/
import Derived.Test.YtkmdgdjdkkmjcaaDoorRows
import GoSem.ClaimSeven
namespace Go.Proofs.YtkmdgdjdkkmjcaaDoor
namespace Rows

/-- THE TIED CARD OF 'athanorlaw02.NumsOne'. -/
def numsOneCard : Claim7 := { stood := { row := numsOneRow, standIns := [], harness := (true, "4bb6fd570d16e89fc09dbac047be5f10794c1aab4c4e633d153391aa3c230e00"), looks := false }, kinds := [], alts := [], laidByText := true, laidKinds := [.data], laidTests := true, laidLooks := .later }
def NumsOneCardSaid : Prop := Claim7.holds Tryd.pinned (.plain (OpenSpec.ofChange numsOneSpec)) numsOneCard

/-- THE TIED CARD OF 'athanorlaw02.NumsOpposites'. -/
def numsOppositesCard : Claim7 := { stood := { row := numsOppositesRow, standIns := [], harness := (true, "4bb6fd570d16e89fc09dbac047be5f10794c1aab4c4e633d153391aa3c230e00"), looks := false }, kinds := [], alts := [], laidByText := true, laidKinds := [.data], laidTests := true, laidLooks := .later }
def NumsOppositesCardSaid : Prop := Claim7.holds Tryd.pinned (.plain (OpenSpec.ofChange numsOppositesSpec)) numsOppositesCard

/-- THE SECOND FORM's CARD OF 'athanorlaw02.NumsOne'. -/
def numsOneUptoCard : Claim7 := { stood := { row := numsOneUptoRow, standIns := [], harness := (true, "4bb6fd570d16e89fc09dbac047be5f10794c1aab4c4e633d153391aa3c230e00"), looks := false }, kinds := [], alts := [], laidByText := true, laidKinds := [.data], laidTests := true, laidLooks := .later }
def NumsOneUptoCardSaid : Prop := Claim7.holds Tryd.pinned (.plain (OpenSpec.upto numsOneSpec)) numsOneUptoCard

/-- THE SECOND FORM's CARD OF 'athanorlaw02.NumsOpposites'. -/
def numsOppositesUptoCard : Claim7 := { stood := { row := numsOppositesUptoRow, standIns := [], harness := (true, "4bb6fd570d16e89fc09dbac047be5f10794c1aab4c4e633d153391aa3c230e00"), looks := false }, kinds := [], alts := [], laidByText := true, laidKinds := [.data], laidTests := true, laidLooks := .later }
def NumsOppositesUptoCardSaid : Prop := Claim7.holds Tryd.pinned (.plain (OpenSpec.upto numsOppositesSpec)) numsOppositesUptoCard
end Rows
end Go.Proofs.YtkmdgdjdkkmjcaaDoor
