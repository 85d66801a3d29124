/-
  NARROWER THAN 'FOR EVERY INPUT', by the rows' own cells (each row's printed sentence says how): WastForms: laid · WastChecks: loops, laid · WastNest: laid · WastMany: laid · WastSame: loops, laid.
  DERIVED. THE GIVEN ROWS OF THIS SEAT. 5 by the template 'for every input the law returns true; each argument reads behind the call as it read before'; 0 by the template 'total and deterministic' (their statements: YtofleejokkdklaaDoorTotals.lean).
  GIVEN WITH THE SEED: the statements are not yours to turn. If you find one false, say at which input.
  Laid BY PROGRAM, IN A SANDBOX (cutbox-rows.mjs): the forced cells as the released guide's own fill.sh prints them over the translation 77147268f4119a46… (all of the seat's roots in one cut). By AI agents, Wed Nov 11 2026. No macro, syntax, notation, axiom, sorry.
-/
import Derived.Test.YtofleejokkdklaaDoorChecked
import GoSem.PinnedTables
import GoSem.Claim
import GoSem.ClaimJoined
import GoSem.ClaimMapViews
import Derived.JoinedTies
import Derived.KernelRfl
namespace Go.Proofs.YtofleejokkdklaaDoor
/- THE CELL 'sum', in the pinned program and in every row, IS THE sha256 OF THE DUMP (.gsa) THAT YtofleejokkdklaaDoorProg.lean LOADS. Nothing in Lean hashes anything: it is a label: what it is worth is what the hold of that sum in a sandbox is worth. -/
noncomputable def Tryd.pinned : Pinned := { name := "ytofleejokkdklaadoor", sum := "77147268f4119a460cbb176b73f4145465b8b758ef2566df3aec9336a8e9ae6c", checked := Tryd.checked }
namespace Rows
def none {H : Type} : Left H := { results := [], args := [] }

/- WHAT THE LISTED PACKAGE-LEVEL VARIABLES READ AS WHEN THE CALL BEGINS. Each datum BY PROGRAM (the guide's laid-datum.mjs) off the statement by which the dump's own 'gosem.cut.vars' lays the variable. In a bare row this is a premise. The card (YtofleejokkdklaaDoorCards.lean) ties it to the program's text. -/
def laid_unicode_utf8_acceptRanges {H : Type} : DataW H := .agg [.agg [.lit (.int .u8 128), .lit (.int .u8 191)], .agg [.lit (.int .u8 160), .lit (.int .u8 191)], .agg [.lit (.int .u8 128), .lit (.int .u8 159)], .agg [.lit (.int .u8 144), .lit (.int .u8 191)], .agg [.lit (.int .u8 128), .lit (.int .u8 143)], .agg [.lit (.int .u8 0), .lit (.int .u8 0)], .agg [.lit (.int .u8 0), .lit (.int .u8 0)], .agg [.lit (.int .u8 0), .lit (.int .u8 0)], .agg [.lit (.int .u8 0), .lit (.int .u8 0)], .agg [.lit (.int .u8 0), .lit (.int .u8 0)], .agg [.lit (.int .u8 0), .lit (.int .u8 0)], .agg [.lit (.int .u8 0), .lit (.int .u8 0)], .agg [.lit (.int .u8 0), .lit (.int .u8 0)], .agg [.lit (.int .u8 0), .lit (.int .u8 0)], .agg [.lit (.int .u8 0), .lit (.int .u8 0)], .agg [.lit (.int .u8 0), .lit (.int .u8 0)]]
/-- One of Go's own tables, pinned by name: the form's constant. -/
def laid_unicode_utf8_first : DataW Unit := Go.Pinned.utf8First

/-- 'athanorlaw03.WastForms': WHATEVER THE INPUT: true; the input reads as it did. -/
def wastFormsSpec : ChangeSpec := { name := "wastForms", fn := fun _ => fun
  | [d1, d2] => { results := [.lit (.bool true)], args := [d1, d2] }
  | _ => none }
def wastFormsRow : OpenClaim := { program := "ytofleejokkdklaadoor", sum := "77147268f4119a460cbb176b73f4145465b8b758ef2566df3aec9336a8e9ae6c", func := "athanor/athanorlaw03.WastForms", spec := "wastForms", unfollowed := true, recurses := true, named := ["unicode/utf8.first", "unicode/utf8.acceptRanges"], apart := false, laid := [("unicode/utf8.acceptRanges", laid_unicode_utf8_acceptRanges), ("unicode/utf8.first", laid_unicode_utf8_first)] }
def WastFormsSaid : Prop := wastFormsRow.holds Tryd.pinned (OpenSpec.ofChange wastFormsSpec)

/-- ITS FALSE NEIGHBOUR: 'it returns false'. Refute it at one input. -/
def wastFormsWrong : ChangeSpec := { name := "wastForms", fn := fun _ => fun
  | [d1, d2] => { results := [.lit (.bool false)], args := [d1, d2] }
  | _ => none }
def WastFormsWrongFalsely : Prop := wastFormsRow.holds Tryd.pinned (OpenSpec.ofChange wastFormsWrong)

/-- 'athanorlaw03.WastChecks': WHATEVER THE INPUT: true; the input reads as it did. -/
def wastChecksSpec : ChangeSpec := { name := "wastChecks", fn := fun _ => fun
  | [d] => { results := [.lit (.bool true)], args := [d] }
  | _ => none }
def wastChecksRow : OpenClaim := { program := "ytofleejokkdklaadoor", sum := "77147268f4119a460cbb176b73f4145465b8b758ef2566df3aec9336a8e9ae6c", func := "athanor/athanorlaw03.WastChecks", spec := "wastChecks", unfollowed := true, recurses := true, named := ["unicode/utf8.first", "unicode/utf8.acceptRanges"], loops := true, apart := false, laid := [("unicode/utf8.acceptRanges", laid_unicode_utf8_acceptRanges), ("unicode/utf8.first", laid_unicode_utf8_first)] }
def WastChecksSaid : Prop := wastChecksRow.holds Tryd.pinned (OpenSpec.ofChange wastChecksSpec)

/-- ITS FALSE NEIGHBOUR: 'it returns false'. Refute it at one input. -/
def wastChecksWrong : ChangeSpec := { name := "wastChecks", fn := fun _ => fun
  | [d] => { results := [.lit (.bool false)], args := [d] }
  | _ => none }
def WastChecksWrongFalsely : Prop := wastChecksRow.holds Tryd.pinned (OpenSpec.ofChange wastChecksWrong)

/-- 'athanorlaw03.WastNest': WHATEVER THE INPUT: true; the input reads as it did. -/
def wastNestSpec : ChangeSpec := { name := "wastNest", fn := fun _ => fun
  | [d] => { results := [.lit (.bool true)], args := [d] }
  | _ => none }
def wastNestRow : OpenClaim := { program := "ytofleejokkdklaadoor", sum := "77147268f4119a460cbb176b73f4145465b8b758ef2566df3aec9336a8e9ae6c", func := "athanor/athanorlaw03.WastNest", spec := "wastNest", unfollowed := true, recurses := true, named := ["unicode/utf8.first", "unicode/utf8.acceptRanges"], apart := false, laid := [("unicode/utf8.acceptRanges", laid_unicode_utf8_acceptRanges), ("unicode/utf8.first", laid_unicode_utf8_first)] }
def WastNestSaid : Prop := wastNestRow.holds Tryd.pinned (OpenSpec.ofChange wastNestSpec)

/-- ITS FALSE NEIGHBOUR: 'it returns false'. Refute it at one input. -/
def wastNestWrong : ChangeSpec := { name := "wastNest", fn := fun _ => fun
  | [d] => { results := [.lit (.bool false)], args := [d] }
  | _ => none }
def WastNestWrongFalsely : Prop := wastNestRow.holds Tryd.pinned (OpenSpec.ofChange wastNestWrong)

/-- 'athanorlaw03.WastMany': WHATEVER THE INPUT: true; the input reads as it did. -/
def wastManySpec : ChangeSpec := { name := "wastMany", fn := fun _ => fun
  | [d1, d2, d3] => { results := [.lit (.bool true)], args := [d1, d2, d3] }
  | _ => none }
def wastManyRow : OpenClaim := { program := "ytofleejokkdklaadoor", sum := "77147268f4119a460cbb176b73f4145465b8b758ef2566df3aec9336a8e9ae6c", func := "athanor/athanorlaw03.WastMany", spec := "wastMany", unfollowed := true, recurses := true, named := ["unicode/utf8.first", "unicode/utf8.acceptRanges"], apart := false, laid := [("unicode/utf8.acceptRanges", laid_unicode_utf8_acceptRanges), ("unicode/utf8.first", laid_unicode_utf8_first)] }
def WastManySaid : Prop := wastManyRow.holds Tryd.pinned (OpenSpec.ofChange wastManySpec)

/-- ITS FALSE NEIGHBOUR: 'it returns false'. Refute it at one input. -/
def wastManyWrong : ChangeSpec := { name := "wastMany", fn := fun _ => fun
  | [d1, d2, d3] => { results := [.lit (.bool false)], args := [d1, d2, d3] }
  | _ => none }
def WastManyWrongFalsely : Prop := wastManyRow.holds Tryd.pinned (OpenSpec.ofChange wastManyWrong)

/-- 'athanorlaw03.WastSame': WHATEVER THE INPUT: true; the input reads as it did. -/
def wastSameSpec : ChangeSpec := { name := "wastSame", fn := fun _ => fun
  | [d1, d2] => { results := [.lit (.bool true)], args := [d1, d2] }
  | _ => none }
def wastSameRow : OpenClaim := { program := "ytofleejokkdklaadoor", sum := "77147268f4119a460cbb176b73f4145465b8b758ef2566df3aec9336a8e9ae6c", func := "athanor/athanorlaw03.WastSame", spec := "wastSame", unfollowed := true, recurses := true, named := ["unicode/utf8.first", "unicode/utf8.acceptRanges"], loops := true, apart := false, laid := [("unicode/utf8.acceptRanges", laid_unicode_utf8_acceptRanges), ("unicode/utf8.first", laid_unicode_utf8_first)] }
def WastSameSaid : Prop := wastSameRow.holds Tryd.pinned (OpenSpec.ofChange wastSameSpec)

/-- ITS FALSE NEIGHBOUR: 'it returns false'. Refute it at one input. -/
def wastSameWrong : ChangeSpec := { name := "wastSame", fn := fun _ => fun
  | [d1, d2] => { results := [.lit (.bool false)], args := [d1, d2] }
  | _ => none }
def WastSameWrongFalsely : Prop := wastSameRow.holds Tryd.pinned (OpenSpec.ofChange wastSameWrong)

/- THE SECOND FORM. 'bulk': how many values and letters a reading holds, each counted each time it is reached (what is shared counts as often as it is met; a slice's spare places count too). A statement '..UptoSaid' is the law's where the arguments, and the package variables that the reading takes, are together of bulk at most 1048576: NARROWER than '..Said'. Prove '..Said' where nothing that the law and all that it calls make is longer than what came in: it says more and counts as full. Else prove '..UptoSaid'. A law counts once. -/
mutual
def uptoBulk {H : Type} : DataW H → Nat
  | .lit (.string bytes) => bytes.length + 1
  | .lit _ => 1
  | .nil => 1
  | .ptr d => uptoBulk d + 1
  | .slice elems spare => uptoBulkAll elems + uptoBulkAll spare + 1
  | .agg parts => uptoBulkAll parts + 1
  | .iface _ d => uptoBulk d + 1
  | .map entries => uptoBulkEntries entries + 1
  | .held _ => 1
def uptoBulkAll {H : Type} : List (DataW H) → Nat
  | [] => 0
  | d :: r => uptoBulk d + uptoBulkAll r
def uptoBulkEntries {H : Type} : List (Lit × DataW H) → Nat
  | [] => 0
  | x :: r => uptoBulkEntry x + uptoBulkEntries r
def uptoBulkEntry {H : Type} : Lit × DataW H → Nat
  | (.string bytes, d) => bytes.length + uptoBulk d + 1
  | (_, d) => uptoBulk d + 1
 end
def uptoSmall : (H : Type) → List (DataW H) → Bool := fun _ ds => decide (uptoBulkAll ds ≤ 1048576)
def OpenSpec.upto (s : _root_.Go.ChangeSpec) : _root_.Go.OpenSpec := { _root_.Go.OpenSpec.ofChange s with cond := some uptoSmall }

/-- 'athanorlaw03.WastForms', WHERE WHAT IT READS IS OF BULK AT MOST 1048576: true; the input reads as it did. -/
def wastFormsUptoRow : OpenClaim := { program := "ytofleejokkdklaadoor", sum := "77147268f4119a460cbb176b73f4145465b8b758ef2566df3aec9336a8e9ae6c", func := "athanor/athanorlaw03.WastForms", spec := "wastForms", unfollowed := true, recurses := true, named := ["unicode/utf8.first", "unicode/utf8.acceptRanges"], apart := false, laid := [("unicode/utf8.acceptRanges", laid_unicode_utf8_acceptRanges), ("unicode/utf8.first", laid_unicode_utf8_first)], narrowed := true }
def WastFormsUptoSaid : Prop := wastFormsUptoRow.holds Tryd.pinned (OpenSpec.upto wastFormsSpec)

/-- 'athanorlaw03.WastChecks', WHERE WHAT IT READS IS OF BULK AT MOST 1048576: true; the input reads as it did. -/
def wastChecksUptoRow : OpenClaim := { program := "ytofleejokkdklaadoor", sum := "77147268f4119a460cbb176b73f4145465b8b758ef2566df3aec9336a8e9ae6c", func := "athanor/athanorlaw03.WastChecks", spec := "wastChecks", unfollowed := true, recurses := true, named := ["unicode/utf8.first", "unicode/utf8.acceptRanges"], loops := true, apart := false, laid := [("unicode/utf8.acceptRanges", laid_unicode_utf8_acceptRanges), ("unicode/utf8.first", laid_unicode_utf8_first)], narrowed := true }
def WastChecksUptoSaid : Prop := wastChecksUptoRow.holds Tryd.pinned (OpenSpec.upto wastChecksSpec)

/-- 'athanorlaw03.WastNest', WHERE WHAT IT READS IS OF BULK AT MOST 1048576: true; the input reads as it did. -/
def wastNestUptoRow : OpenClaim := { program := "ytofleejokkdklaadoor", sum := "77147268f4119a460cbb176b73f4145465b8b758ef2566df3aec9336a8e9ae6c", func := "athanor/athanorlaw03.WastNest", spec := "wastNest", unfollowed := true, recurses := true, named := ["unicode/utf8.first", "unicode/utf8.acceptRanges"], apart := false, laid := [("unicode/utf8.acceptRanges", laid_unicode_utf8_acceptRanges), ("unicode/utf8.first", laid_unicode_utf8_first)], narrowed := true }
def WastNestUptoSaid : Prop := wastNestUptoRow.holds Tryd.pinned (OpenSpec.upto wastNestSpec)

/-- 'athanorlaw03.WastMany', WHERE WHAT IT READS IS OF BULK AT MOST 1048576: true; the input reads as it did. -/
def wastManyUptoRow : OpenClaim := { program := "ytofleejokkdklaadoor", sum := "77147268f4119a460cbb176b73f4145465b8b758ef2566df3aec9336a8e9ae6c", func := "athanor/athanorlaw03.WastMany", spec := "wastMany", unfollowed := true, recurses := true, named := ["unicode/utf8.first", "unicode/utf8.acceptRanges"], apart := false, laid := [("unicode/utf8.acceptRanges", laid_unicode_utf8_acceptRanges), ("unicode/utf8.first", laid_unicode_utf8_first)], narrowed := true }
def WastManyUptoSaid : Prop := wastManyUptoRow.holds Tryd.pinned (OpenSpec.upto wastManySpec)

/-- 'athanorlaw03.WastSame', WHERE WHAT IT READS IS OF BULK AT MOST 1048576: true; the input reads as it did. -/
def wastSameUptoRow : OpenClaim := { program := "ytofleejokkdklaadoor", sum := "77147268f4119a460cbb176b73f4145465b8b758ef2566df3aec9336a8e9ae6c", func := "athanor/athanorlaw03.WastSame", spec := "wastSame", unfollowed := true, recurses := true, named := ["unicode/utf8.first", "unicode/utf8.acceptRanges"], loops := true, apart := false, laid := [("unicode/utf8.acceptRanges", laid_unicode_utf8_acceptRanges), ("unicode/utf8.first", laid_unicode_utf8_first)], narrowed := true }
def WastSameUptoSaid : Prop := wastSameUptoRow.holds Tryd.pinned (OpenSpec.upto wastSameSpec)

end Rows
end Go.Proofs.YtofleejokkdklaaDoor
