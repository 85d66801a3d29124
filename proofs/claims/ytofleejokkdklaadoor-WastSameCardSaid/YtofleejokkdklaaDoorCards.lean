/-
  DERIVED. GIVEN WITH THE SEED: THE CARDS: each row of YtofleejokkdklaaDoorRows.lean that lists a variable, with what it lists TIED to the program's text (the seventh form; the later family's looks); each row that meets fmt, with fmt's text TOLD by the authors' own Lean function (tested against real Go, not proved from fmt's source: count such statements apart). THE CARD IS WHAT COUNTS. Prove the row's statement (the work); the ties are given (YtofleejokkdklaaDoorTie.lean); close each card by the builder's one call (the guide's Derived/Test/ToyasCard.lean, 'card_holds'). Laid BY PROGRAM, IN A SANDBOX (cutbox-door.mjs). By AI agents, Wed Nov 11 2026. No macro, syntax, notation, axiom, sorry.
-/
import Derived.Test.YtofleejokkdklaaDoorRows
import GoSem.ClaimSeven
namespace Go.Proofs.YtofleejokkdklaaDoor
namespace Rows

/-- THE TIED CARD OF 'athanorlaw03.WastForms'. -/
def wastFormsCard : Claim7 := { stood := { row := wastFormsRow, standIns := [], harness := (true, "75d3201a4ecc9d6ecf88bd78898f1b57817df72c2fa3a1ed1d79757b6d02f116"), looks := true }, kinds := [], alts := [], laidByText := true, laidKinds := [.data, .pinned], laidTests := true, laidLooks := .later }
def WastFormsCardSaid : Prop := Claim7.holds Tryd.pinned (.plain (OpenSpec.ofChange wastFormsSpec)) wastFormsCard

/-- THE TIED CARD OF 'athanorlaw03.WastChecks'. -/
def wastChecksCard : Claim7 := { stood := { row := wastChecksRow, standIns := [], harness := (true, "75d3201a4ecc9d6ecf88bd78898f1b57817df72c2fa3a1ed1d79757b6d02f116"), looks := true }, kinds := [], alts := [], laidByText := true, laidKinds := [.data, .pinned], laidTests := true, laidLooks := .later }
def WastChecksCardSaid : Prop := Claim7.holds Tryd.pinned (.plain (OpenSpec.ofChange wastChecksSpec)) wastChecksCard

/-- THE TIED CARD OF 'athanorlaw03.WastNest'. -/
def wastNestCard : Claim7 := { stood := { row := wastNestRow, standIns := [], harness := (true, "75d3201a4ecc9d6ecf88bd78898f1b57817df72c2fa3a1ed1d79757b6d02f116"), looks := true }, kinds := [], alts := [], laidByText := true, laidKinds := [.data, .pinned], laidTests := true, laidLooks := .later }
def WastNestCardSaid : Prop := Claim7.holds Tryd.pinned (.plain (OpenSpec.ofChange wastNestSpec)) wastNestCard

/-- THE TIED CARD OF 'athanorlaw03.WastMany'. -/
def wastManyCard : Claim7 := { stood := { row := wastManyRow, standIns := [], harness := (true, "75d3201a4ecc9d6ecf88bd78898f1b57817df72c2fa3a1ed1d79757b6d02f116"), looks := true }, kinds := [], alts := [], laidByText := true, laidKinds := [.data, .pinned], laidTests := true, laidLooks := .later }
def WastManyCardSaid : Prop := Claim7.holds Tryd.pinned (.plain (OpenSpec.ofChange wastManySpec)) wastManyCard

/-- THE TIED CARD OF 'athanorlaw03.WastSame'. -/
def wastSameCard : Claim7 := { stood := { row := wastSameRow, standIns := [], harness := (true, "75d3201a4ecc9d6ecf88bd78898f1b57817df72c2fa3a1ed1d79757b6d02f116"), looks := true }, kinds := [], alts := [], laidByText := true, laidKinds := [.data, .pinned], laidTests := true, laidLooks := .later }
def WastSameCardSaid : Prop := Claim7.holds Tryd.pinned (.plain (OpenSpec.ofChange wastSameSpec)) wastSameCard

/-- THE SECOND FORM's CARD OF 'athanorlaw03.WastForms'. -/
def wastFormsUptoCard : Claim7 := { stood := { row := wastFormsUptoRow, standIns := [], harness := (true, "75d3201a4ecc9d6ecf88bd78898f1b57817df72c2fa3a1ed1d79757b6d02f116"), looks := true }, kinds := [], alts := [], laidByText := true, laidKinds := [.data, .pinned], laidTests := true, laidLooks := .later }
def WastFormsUptoCardSaid : Prop := Claim7.holds Tryd.pinned (.plain (OpenSpec.upto wastFormsSpec)) wastFormsUptoCard

/-- THE SECOND FORM's CARD OF 'athanorlaw03.WastChecks'. -/
def wastChecksUptoCard : Claim7 := { stood := { row := wastChecksUptoRow, standIns := [], harness := (true, "75d3201a4ecc9d6ecf88bd78898f1b57817df72c2fa3a1ed1d79757b6d02f116"), looks := true }, kinds := [], alts := [], laidByText := true, laidKinds := [.data, .pinned], laidTests := true, laidLooks := .later }
def WastChecksUptoCardSaid : Prop := Claim7.holds Tryd.pinned (.plain (OpenSpec.upto wastChecksSpec)) wastChecksUptoCard

/-- THE SECOND FORM's CARD OF 'athanorlaw03.WastNest'. -/
def wastNestUptoCard : Claim7 := { stood := { row := wastNestUptoRow, standIns := [], harness := (true, "75d3201a4ecc9d6ecf88bd78898f1b57817df72c2fa3a1ed1d79757b6d02f116"), looks := true }, kinds := [], alts := [], laidByText := true, laidKinds := [.data, .pinned], laidTests := true, laidLooks := .later }
def WastNestUptoCardSaid : Prop := Claim7.holds Tryd.pinned (.plain (OpenSpec.upto wastNestSpec)) wastNestUptoCard

/-- THE SECOND FORM's CARD OF 'athanorlaw03.WastMany'. -/
def wastManyUptoCard : Claim7 := { stood := { row := wastManyUptoRow, standIns := [], harness := (true, "75d3201a4ecc9d6ecf88bd78898f1b57817df72c2fa3a1ed1d79757b6d02f116"), looks := true }, kinds := [], alts := [], laidByText := true, laidKinds := [.data, .pinned], laidTests := true, laidLooks := .later }
def WastManyUptoCardSaid : Prop := Claim7.holds Tryd.pinned (.plain (OpenSpec.upto wastManySpec)) wastManyUptoCard

/-- THE SECOND FORM's CARD OF 'athanorlaw03.WastSame'. -/
def wastSameUptoCard : Claim7 := { stood := { row := wastSameUptoRow, standIns := [], harness := (true, "75d3201a4ecc9d6ecf88bd78898f1b57817df72c2fa3a1ed1d79757b6d02f116"), looks := true }, kinds := [], alts := [], laidByText := true, laidKinds := [.data, .pinned], laidTests := true, laidLooks := .later }
def WastSameUptoCardSaid : Prop := Claim7.holds Tryd.pinned (.plain (OpenSpec.upto wastSameSpec)) wastSameUptoCard
end Rows
end Go.Proofs.YtofleejokkdklaaDoor
