/-
  NARROWER THAN 'FOR EVERY INPUT', by the rows' own cells (each row's printed sentence says how): DecodeCut: laid · DecodeExprs: laid · DecodeWithin: loops, laid.
  DERIVED. THE GIVEN ROWS OF THIS SEAT. 3 by the template 'for every input the law returns true; each argument reads behind the call as it read before'; 0 by the template 'total and deterministic' (their statements: YtkbfjkbokifgkaaDoorTotals.lean).
  GIVEN WITH THE SEED: the statements are not yours to turn. If you find one false, say at which input.
  Laid BY PROGRAM, IN A SANDBOX (cutbox-rows.mjs): the forced cells as the released guide's own fill.sh prints them over the translation 1ab1df2ffead9931… (all of the seat's roots in one cut). By AI agents, Wed Nov 11 2026. No macro, syntax, notation, axiom, sorry.
-/
import Derived.Test.YtkbfjkbokifgkaaDoorChecked
import GoSem.PinnedTables
import GoSem.Claim
import GoSem.ClaimJoined
import GoSem.ClaimMapViews
import Derived.JoinedTies
import Derived.KernelRfl
namespace Go.Proofs.YtkbfjkbokifgkaaDoor
/- THE CELL 'sum', in the pinned program and in every row, IS THE sha256 OF THE DUMP (.gsa) THAT YtkbfjkbokifgkaaDoorProg.lean LOADS. Nothing in Lean hashes anything: it is a label: what it is worth is what the hold of that sum in a sandbox is worth. -/
noncomputable def Tryd.pinned : Pinned := { name := "ytkbfjkbokifgkaadoor", sum := "1ab1df2ffead9931e584848d760cb2e75cf664470c47dd60b99e546fc1e67aca", checked := Tryd.checked }
namespace Rows
def none {H : Type} : Left H := { results := [], args := [] }

/- WHAT THE LISTED PACKAGE-LEVEL VARIABLES READ AS WHEN THE CALL BEGINS. Each datum BY PROGRAM (the guide's laid-datum.mjs) off the statement by which the dump's own 'gosem.cut.vars' lays the variable. In a bare row this is a premise. The card (YtkbfjkbokifgkaaDoorCards.lean) ties it to the program's text. -/
def laid_unicode_utf8_acceptRanges {H : Type} : DataW H := .agg [.agg [.lit (.int .u8 128), .lit (.int .u8 191)], .agg [.lit (.int .u8 160), .lit (.int .u8 191)], .agg [.lit (.int .u8 128), .lit (.int .u8 159)], .agg [.lit (.int .u8 144), .lit (.int .u8 191)], .agg [.lit (.int .u8 128), .lit (.int .u8 143)], .agg [.lit (.int .u8 0), .lit (.int .u8 0)], .agg [.lit (.int .u8 0), .lit (.int .u8 0)], .agg [.lit (.int .u8 0), .lit (.int .u8 0)], .agg [.lit (.int .u8 0), .lit (.int .u8 0)], .agg [.lit (.int .u8 0), .lit (.int .u8 0)], .agg [.lit (.int .u8 0), .lit (.int .u8 0)], .agg [.lit (.int .u8 0), .lit (.int .u8 0)], .agg [.lit (.int .u8 0), .lit (.int .u8 0)], .agg [.lit (.int .u8 0), .lit (.int .u8 0)], .agg [.lit (.int .u8 0), .lit (.int .u8 0)], .agg [.lit (.int .u8 0), .lit (.int .u8 0)]]
/-- One of Go's own tables, pinned by name: the form's constant. -/
def laid_unicode_utf8_first : DataW Unit := Go.Pinned.utf8First

/-- 'athanorlaw05.DecodeCut': WHATEVER THE INPUT: true; the input reads as it did. -/
def decodeCutSpec : ChangeSpec := { name := "decodeCut", fn := fun _ => fun
  | [d1, d2] => { results := [.lit (.bool true)], args := [d1, d2] }
  | _ => none }
def decodeCutRow : OpenClaim := { program := "ytkbfjkbokifgkaadoor", sum := "1ab1df2ffead9931e584848d760cb2e75cf664470c47dd60b99e546fc1e67aca", func := "athanor/athanorlaw05.DecodeCut", spec := "decodeCut", unfollowed := true, recurses := true, named := ["unicode/utf8.first", "unicode/utf8.acceptRanges"], apart := false, laid := [("unicode/utf8.acceptRanges", laid_unicode_utf8_acceptRanges), ("unicode/utf8.first", laid_unicode_utf8_first)] }
def DecodeCutSaid : Prop := decodeCutRow.holds Tryd.pinned (OpenSpec.ofChange decodeCutSpec)

/-- ITS FALSE NEIGHBOUR: 'it returns false'. Refute it at one input. -/
def decodeCutWrong : ChangeSpec := { name := "decodeCut", fn := fun _ => fun
  | [d1, d2] => { results := [.lit (.bool false)], args := [d1, d2] }
  | _ => none }
def DecodeCutWrongFalsely : Prop := decodeCutRow.holds Tryd.pinned (OpenSpec.ofChange decodeCutWrong)

/-- 'athanorlaw05.DecodeExprs': WHATEVER THE INPUT: true; the input reads as it did. -/
def decodeExprsSpec : ChangeSpec := { name := "decodeExprs", fn := fun _ => fun
  | [d1, d2] => { results := [.lit (.bool true)], args := [d1, d2] }
  | _ => none }
def decodeExprsRow : OpenClaim := { program := "ytkbfjkbokifgkaadoor", sum := "1ab1df2ffead9931e584848d760cb2e75cf664470c47dd60b99e546fc1e67aca", func := "athanor/athanorlaw05.DecodeExprs", spec := "decodeExprs", unfollowed := true, recurses := true, named := ["unicode/utf8.first", "unicode/utf8.acceptRanges"], apart := false, laid := [("unicode/utf8.acceptRanges", laid_unicode_utf8_acceptRanges), ("unicode/utf8.first", laid_unicode_utf8_first)] }
def DecodeExprsSaid : Prop := decodeExprsRow.holds Tryd.pinned (OpenSpec.ofChange decodeExprsSpec)

/-- ITS FALSE NEIGHBOUR: 'it returns false'. Refute it at one input. -/
def decodeExprsWrong : ChangeSpec := { name := "decodeExprs", fn := fun _ => fun
  | [d1, d2] => { results := [.lit (.bool false)], args := [d1, d2] }
  | _ => none }
def DecodeExprsWrongFalsely : Prop := decodeExprsRow.holds Tryd.pinned (OpenSpec.ofChange decodeExprsWrong)

/-- 'athanorlaw05.DecodeWithin': WHATEVER THE INPUT: true; the input reads as it did. -/
def decodeWithinSpec : ChangeSpec := { name := "decodeWithin", fn := fun _ => fun
  | [d1, d2, d3] => { results := [.lit (.bool true)], args := [d1, d2, d3] }
  | _ => none }
def decodeWithinRow : OpenClaim := { program := "ytkbfjkbokifgkaadoor", sum := "1ab1df2ffead9931e584848d760cb2e75cf664470c47dd60b99e546fc1e67aca", func := "athanor/athanorlaw05.DecodeWithin", spec := "decodeWithin", unfollowed := true, recurses := true, named := ["unicode/utf8.first", "unicode/utf8.acceptRanges"], loops := true, apart := false, laid := [("unicode/utf8.acceptRanges", laid_unicode_utf8_acceptRanges), ("unicode/utf8.first", laid_unicode_utf8_first)] }
def DecodeWithinSaid : Prop := decodeWithinRow.holds Tryd.pinned (OpenSpec.ofChange decodeWithinSpec)

/-- ITS FALSE NEIGHBOUR: 'it returns false'. Refute it at one input. -/
def decodeWithinWrong : ChangeSpec := { name := "decodeWithin", fn := fun _ => fun
  | [d1, d2, d3] => { results := [.lit (.bool false)], args := [d1, d2, d3] }
  | _ => none }
def DecodeWithinWrongFalsely : Prop := decodeWithinRow.holds Tryd.pinned (OpenSpec.ofChange decodeWithinWrong)

/- THE SECOND FORM. 'bulk': how many values and letters a reading holds, each counted each time it is reached (what is shared counts as often as it is met; a slice's spare places count too). A statement '..UptoSaid' is the law's where the arguments, and the package variables that the reading takes, are together of bulk at most 1048576: NARROWER than '..Said'. Prove '..Said' where nothing that the law and all that it calls make is longer than what came in: it says more and counts as full. Else prove '..UptoSaid'. A law counts once. -/
mutual
def uptoBulk {H : Type} : DataW H → Nat
  | .lit (.string bytes) => bytes.length + 1
  | .lit _ => 1
  | .nil => 1
  | .ptr d => uptoBulk d + 1
  | .slice elems spare => uptoBulkAll elems + uptoBulkAll spare + 1
  | .agg parts => uptoBulkAll parts + 1
  | .iface _ d => uptoBulk d + 1
  | .map entries => uptoBulkEntries entries + 1
  | .held _ => 1
def uptoBulkAll {H : Type} : List (DataW H) → Nat
  | [] => 0
  | d :: r => uptoBulk d + uptoBulkAll r
def uptoBulkEntries {H : Type} : List (Lit × DataW H) → Nat
  | [] => 0
  | x :: r => uptoBulkEntry x + uptoBulkEntries r
def uptoBulkEntry {H : Type} : Lit × DataW H → Nat
  | (.string bytes, d) => bytes.length + uptoBulk d + 1
  | (_, d) => uptoBulk d + 1
 end
def uptoSmall : (H : Type) → List (DataW H) → Bool := fun _ ds => decide (uptoBulkAll ds ≤ 1048576)
def OpenSpec.upto (s : _root_.Go.ChangeSpec) : _root_.Go.OpenSpec := { _root_.Go.OpenSpec.ofChange s with cond := some uptoSmall }

/-- 'athanorlaw05.DecodeCut', WHERE WHAT IT READS IS OF BULK AT MOST 1048576: true; the input reads as it did. -/
def decodeCutUptoRow : OpenClaim := { program := "ytkbfjkbokifgkaadoor", sum := "1ab1df2ffead9931e584848d760cb2e75cf664470c47dd60b99e546fc1e67aca", func := "athanor/athanorlaw05.DecodeCut", spec := "decodeCut", unfollowed := true, recurses := true, named := ["unicode/utf8.first", "unicode/utf8.acceptRanges"], apart := false, laid := [("unicode/utf8.acceptRanges", laid_unicode_utf8_acceptRanges), ("unicode/utf8.first", laid_unicode_utf8_first)], narrowed := true }
def DecodeCutUptoSaid : Prop := decodeCutUptoRow.holds Tryd.pinned (OpenSpec.upto decodeCutSpec)

/-- 'athanorlaw05.DecodeExprs', WHERE WHAT IT READS IS OF BULK AT MOST 1048576: true; the input reads as it did. -/
def decodeExprsUptoRow : OpenClaim := { program := "ytkbfjkbokifgkaadoor", sum := "1ab1df2ffead9931e584848d760cb2e75cf664470c47dd60b99e546fc1e67aca", func := "athanor/athanorlaw05.DecodeExprs", spec := "decodeExprs", unfollowed := true, recurses := true, named := ["unicode/utf8.first", "unicode/utf8.acceptRanges"], apart := false, laid := [("unicode/utf8.acceptRanges", laid_unicode_utf8_acceptRanges), ("unicode/utf8.first", laid_unicode_utf8_first)], narrowed := true }
def DecodeExprsUptoSaid : Prop := decodeExprsUptoRow.holds Tryd.pinned (OpenSpec.upto decodeExprsSpec)

/-- 'athanorlaw05.DecodeWithin', WHERE WHAT IT READS IS OF BULK AT MOST 1048576: true; the input reads as it did. -/
def decodeWithinUptoRow : OpenClaim := { program := "ytkbfjkbokifgkaadoor", sum := "1ab1df2ffead9931e584848d760cb2e75cf664470c47dd60b99e546fc1e67aca", func := "athanor/athanorlaw05.DecodeWithin", spec := "decodeWithin", unfollowed := true, recurses := true, named := ["unicode/utf8.first", "unicode/utf8.acceptRanges"], loops := true, apart := false, laid := [("unicode/utf8.acceptRanges", laid_unicode_utf8_acceptRanges), ("unicode/utf8.first", laid_unicode_utf8_first)], narrowed := true }
def DecodeWithinUptoSaid : Prop := decodeWithinUptoRow.holds Tryd.pinned (OpenSpec.upto decodeWithinSpec)

end Rows
end Go.Proofs.YtkbfjkbokifgkaaDoor
