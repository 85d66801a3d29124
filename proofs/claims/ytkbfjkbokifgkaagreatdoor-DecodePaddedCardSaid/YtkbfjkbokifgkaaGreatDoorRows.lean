/-
  NARROWER THAN 'FOR EVERY INPUT', by the rows' own cells (each row's printed sentence says how): DecodeReads: laid · DecodeCustom: loops, laid · DecodePadded: loops, laid · DecodeMost: laid · DecodeBack: loops, laid · DecodeAgain: laid.
  DERIVED. THE GIVEN ROWS OF THIS SEAT. 6 by the template 'for every input the law returns true; each argument reads behind the call as it read before'; 0 by the template 'total and deterministic' (their statements: YtkbfjkbokifgkaaGreatDoorTotals.lean).
  GIVEN WITH THE SEED: the statements are not yours to turn. If you find one false, say at which input.
  Laid BY PROGRAM, IN A SANDBOX (cutbox-rows.mjs): the forced cells as the released guide's own fill.sh prints them over the translation b0d3c15674897793… (all of the seat's roots in one cut). By AI agents, Wed Nov 11 2026. No macro, syntax, notation, axiom, sorry.
-/
import Derived.Test.YtkbfjkbokifgkaaGreatDoorChecked
import GoSem.PinnedTables
import GoSem.Claim
import GoSem.ClaimJoined
import GoSem.ClaimMapViews
import Derived.JoinedTies
import Derived.KernelRfl
namespace Go.Proofs.YtkbfjkbokifgkaaGreatDoor
/- THE CELL 'sum', in the pinned program and in every row, IS THE sha256 OF THE DUMP (.gsa) THAT YtkbfjkbokifgkaaGreatDoorProg.lean LOADS. Nothing in Lean hashes anything: it is a label: what it is worth is what the hold of that sum in a sandbox is worth. -/
noncomputable def Tryz.pinned : Pinned := { name := "ytkbfjkbokifgkaagreatdoor", sum := "b0d3c156748977936ba807892f695962b51b325c7c0da0df35af12d0830892eb", checked := Tryz.checked }
namespace Rows
def none {H : Type} : Left H := { results := [], args := [] }

/- WHAT THE LISTED PACKAGE-LEVEL VARIABLES READ AS WHEN THE CALL BEGINS. Each datum BY PROGRAM (the guide's laid-datum.mjs) off the statement by which the dump's own 'gosem.cut.vars' lays the variable. In a bare row this is a premise. The card (YtkbfjkbokifgkaaGreatDoorCards.lean) ties it to the program's text. -/
def laid_unicode_utf8_acceptRanges {H : Type} : DataW H := .agg [.agg [.lit (.int .u8 128), .lit (.int .u8 191)], .agg [.lit (.int .u8 160), .lit (.int .u8 191)], .agg [.lit (.int .u8 128), .lit (.int .u8 159)], .agg [.lit (.int .u8 144), .lit (.int .u8 191)], .agg [.lit (.int .u8 128), .lit (.int .u8 143)], .agg [.lit (.int .u8 0), .lit (.int .u8 0)], .agg [.lit (.int .u8 0), .lit (.int .u8 0)], .agg [.lit (.int .u8 0), .lit (.int .u8 0)], .agg [.lit (.int .u8 0), .lit (.int .u8 0)], .agg [.lit (.int .u8 0), .lit (.int .u8 0)], .agg [.lit (.int .u8 0), .lit (.int .u8 0)], .agg [.lit (.int .u8 0), .lit (.int .u8 0)], .agg [.lit (.int .u8 0), .lit (.int .u8 0)], .agg [.lit (.int .u8 0), .lit (.int .u8 0)], .agg [.lit (.int .u8 0), .lit (.int .u8 0)], .agg [.lit (.int .u8 0), .lit (.int .u8 0)]]
/-- One of Go's own tables, pinned by name: the form's constant. -/
def laid_unicode_utf8_first : DataW Unit := Go.Pinned.utf8First

/-- 'athanorlaw05.DecodeReads': WHATEVER THE INPUT: true; the input reads as it did. -/
def decodeReadsSpec : ChangeSpec := { name := "decodeReads", fn := fun _ => fun
  | [d] => { results := [.lit (.bool true)], args := [d] }
  | _ => none }
def decodeReadsRow : OpenClaim := { program := "ytkbfjkbokifgkaagreatdoor", sum := "b0d3c156748977936ba807892f695962b51b325c7c0da0df35af12d0830892eb", func := "athanor/athanorlaw05.DecodeReads", spec := "decodeReads", unfollowed := true, recurses := true, named := ["unicode/utf8.first", "unicode/utf8.acceptRanges"], apart := false, laid := [("unicode/utf8.acceptRanges", laid_unicode_utf8_acceptRanges), ("unicode/utf8.first", laid_unicode_utf8_first)] }
def DecodeReadsSaid : Prop := decodeReadsRow.holds Tryz.pinned (OpenSpec.ofChange decodeReadsSpec)

/-- ITS FALSE NEIGHBOUR: 'it returns false'. Refute it at one input. -/
def decodeReadsWrong : ChangeSpec := { name := "decodeReads", fn := fun _ => fun
  | [d] => { results := [.lit (.bool false)], args := [d] }
  | _ => none }
def DecodeReadsWrongFalsely : Prop := decodeReadsRow.holds Tryz.pinned (OpenSpec.ofChange decodeReadsWrong)

/-- 'athanorlaw05.DecodeCustom': WHATEVER THE INPUT: true; the input reads as it did. -/
def decodeCustomSpec : ChangeSpec := { name := "decodeCustom", fn := fun _ => fun
  | [d1, d2] => { results := [.lit (.bool true)], args := [d1, d2] }
  | _ => none }
def decodeCustomRow : OpenClaim := { program := "ytkbfjkbokifgkaagreatdoor", sum := "b0d3c156748977936ba807892f695962b51b325c7c0da0df35af12d0830892eb", func := "athanor/athanorlaw05.DecodeCustom", spec := "decodeCustom", unfollowed := true, recurses := true, named := ["unicode/utf8.first", "unicode/utf8.acceptRanges"], loops := true, apart := false, laid := [("unicode/utf8.acceptRanges", laid_unicode_utf8_acceptRanges), ("unicode/utf8.first", laid_unicode_utf8_first)] }
def DecodeCustomSaid : Prop := decodeCustomRow.holds Tryz.pinned (OpenSpec.ofChange decodeCustomSpec)

/-- ITS FALSE NEIGHBOUR: 'it returns false'. Refute it at one input. -/
def decodeCustomWrong : ChangeSpec := { name := "decodeCustom", fn := fun _ => fun
  | [d1, d2] => { results := [.lit (.bool false)], args := [d1, d2] }
  | _ => none }
def DecodeCustomWrongFalsely : Prop := decodeCustomRow.holds Tryz.pinned (OpenSpec.ofChange decodeCustomWrong)

/-- 'athanorlaw05.DecodePadded': WHATEVER THE INPUT: true; the input reads as it did. -/
def decodePaddedSpec : ChangeSpec := { name := "decodePadded", fn := fun _ => fun
  | [d] => { results := [.lit (.bool true)], args := [d] }
  | _ => none }
def decodePaddedRow : OpenClaim := { program := "ytkbfjkbokifgkaagreatdoor", sum := "b0d3c156748977936ba807892f695962b51b325c7c0da0df35af12d0830892eb", func := "athanor/athanorlaw05.DecodePadded", spec := "decodePadded", unfollowed := true, recurses := true, named := ["unicode/utf8.first", "unicode/utf8.acceptRanges"], loops := true, apart := false, laid := [("unicode/utf8.acceptRanges", laid_unicode_utf8_acceptRanges), ("unicode/utf8.first", laid_unicode_utf8_first)] }
def DecodePaddedSaid : Prop := decodePaddedRow.holds Tryz.pinned (OpenSpec.ofChange decodePaddedSpec)

/-- ITS FALSE NEIGHBOUR: 'it returns false'. Refute it at one input. -/
def decodePaddedWrong : ChangeSpec := { name := "decodePadded", fn := fun _ => fun
  | [d] => { results := [.lit (.bool false)], args := [d] }
  | _ => none }
def DecodePaddedWrongFalsely : Prop := decodePaddedRow.holds Tryz.pinned (OpenSpec.ofChange decodePaddedWrong)

/-- 'athanorlaw05.DecodeMost': WHATEVER THE INPUT: true; the input reads as it did. -/
def decodeMostSpec : ChangeSpec := { name := "decodeMost", fn := fun _ => fun
  | [d1, d2, d3] => { results := [.lit (.bool true)], args := [d1, d2, d3] }
  | _ => none }
def decodeMostRow : OpenClaim := { program := "ytkbfjkbokifgkaagreatdoor", sum := "b0d3c156748977936ba807892f695962b51b325c7c0da0df35af12d0830892eb", func := "athanor/athanorlaw05.DecodeMost", spec := "decodeMost", unfollowed := true, recurses := true, named := ["unicode/utf8.first", "unicode/utf8.acceptRanges"], apart := false, laid := [("unicode/utf8.acceptRanges", laid_unicode_utf8_acceptRanges), ("unicode/utf8.first", laid_unicode_utf8_first)] }
def DecodeMostSaid : Prop := decodeMostRow.holds Tryz.pinned (OpenSpec.ofChange decodeMostSpec)

/-- ITS FALSE NEIGHBOUR: 'it returns false'. Refute it at one input. -/
def decodeMostWrong : ChangeSpec := { name := "decodeMost", fn := fun _ => fun
  | [d1, d2, d3] => { results := [.lit (.bool false)], args := [d1, d2, d3] }
  | _ => none }
def DecodeMostWrongFalsely : Prop := decodeMostRow.holds Tryz.pinned (OpenSpec.ofChange decodeMostWrong)

/-- 'athanorlaw05.DecodeBack': WHATEVER THE INPUT: true; the input reads as it did. -/
def decodeBackSpec : ChangeSpec := { name := "decodeBack", fn := fun _ => fun
  | [d] => { results := [.lit (.bool true)], args := [d] }
  | _ => none }
def decodeBackRow : OpenClaim := { program := "ytkbfjkbokifgkaagreatdoor", sum := "b0d3c156748977936ba807892f695962b51b325c7c0da0df35af12d0830892eb", func := "athanor/athanorlaw05.DecodeBack", spec := "decodeBack", unfollowed := true, recurses := true, named := ["unicode/utf8.first", "unicode/utf8.acceptRanges"], loops := true, apart := false, laid := [("unicode/utf8.acceptRanges", laid_unicode_utf8_acceptRanges), ("unicode/utf8.first", laid_unicode_utf8_first)] }
def DecodeBackSaid : Prop := decodeBackRow.holds Tryz.pinned (OpenSpec.ofChange decodeBackSpec)

/-- ITS FALSE NEIGHBOUR: 'it returns false'. Refute it at one input. -/
def decodeBackWrong : ChangeSpec := { name := "decodeBack", fn := fun _ => fun
  | [d] => { results := [.lit (.bool false)], args := [d] }
  | _ => none }
def DecodeBackWrongFalsely : Prop := decodeBackRow.holds Tryz.pinned (OpenSpec.ofChange decodeBackWrong)

/-- 'athanorlaw05.DecodeAgain': WHATEVER THE INPUT: true; the input reads as it did. -/
def decodeAgainSpec : ChangeSpec := { name := "decodeAgain", fn := fun _ => fun
  | [d] => { results := [.lit (.bool true)], args := [d] }
  | _ => none }
def decodeAgainRow : OpenClaim := { program := "ytkbfjkbokifgkaagreatdoor", sum := "b0d3c156748977936ba807892f695962b51b325c7c0da0df35af12d0830892eb", func := "athanor/athanorlaw05.DecodeAgain", spec := "decodeAgain", unfollowed := true, recurses := true, named := ["unicode/utf8.first", "unicode/utf8.acceptRanges"], apart := false, laid := [("unicode/utf8.acceptRanges", laid_unicode_utf8_acceptRanges), ("unicode/utf8.first", laid_unicode_utf8_first)] }
def DecodeAgainSaid : Prop := decodeAgainRow.holds Tryz.pinned (OpenSpec.ofChange decodeAgainSpec)

/-- ITS FALSE NEIGHBOUR: 'it returns false'. Refute it at one input. -/
def decodeAgainWrong : ChangeSpec := { name := "decodeAgain", fn := fun _ => fun
  | [d] => { results := [.lit (.bool false)], args := [d] }
  | _ => none }
def DecodeAgainWrongFalsely : Prop := decodeAgainRow.holds Tryz.pinned (OpenSpec.ofChange decodeAgainWrong)

/- THE SECOND FORM. 'bulk': how many values and letters a reading holds, each counted each time it is reached (what is shared counts as often as it is met; a slice's spare places count too). A statement '..UptoSaid' is the law's where the arguments, and the package variables that the reading takes, are together of bulk at most 1048576: NARROWER than '..Said'. Prove '..Said' where nothing that the law and all that it calls make is longer than what came in: it says more and counts as full. Else prove '..UptoSaid'. A law counts once. -/
mutual
def uptoBulk {H : Type} : DataW H → Nat
  | .lit (.string bytes) => bytes.length + 1
  | .lit _ => 1
  | .nil => 1
  | .ptr d => uptoBulk d + 1
  | .slice elems spare => uptoBulkAll elems + uptoBulkAll spare + 1
  | .agg parts => uptoBulkAll parts + 1
  | .iface _ d => uptoBulk d + 1
  | .map entries => uptoBulkEntries entries + 1
  | .held _ => 1
def uptoBulkAll {H : Type} : List (DataW H) → Nat
  | [] => 0
  | d :: r => uptoBulk d + uptoBulkAll r
def uptoBulkEntries {H : Type} : List (Lit × DataW H) → Nat
  | [] => 0
  | x :: r => uptoBulkEntry x + uptoBulkEntries r
def uptoBulkEntry {H : Type} : Lit × DataW H → Nat
  | (.string bytes, d) => bytes.length + uptoBulk d + 1
  | (_, d) => uptoBulk d + 1
 end
def uptoSmall : (H : Type) → List (DataW H) → Bool := fun _ ds => decide (uptoBulkAll ds ≤ 1048576)
def OpenSpec.upto (s : _root_.Go.ChangeSpec) : _root_.Go.OpenSpec := { _root_.Go.OpenSpec.ofChange s with cond := some uptoSmall }

/-- 'athanorlaw05.DecodeReads', WHERE WHAT IT READS IS OF BULK AT MOST 1048576: true; the input reads as it did. -/
def decodeReadsUptoRow : OpenClaim := { program := "ytkbfjkbokifgkaagreatdoor", sum := "b0d3c156748977936ba807892f695962b51b325c7c0da0df35af12d0830892eb", func := "athanor/athanorlaw05.DecodeReads", spec := "decodeReads", unfollowed := true, recurses := true, named := ["unicode/utf8.first", "unicode/utf8.acceptRanges"], apart := false, laid := [("unicode/utf8.acceptRanges", laid_unicode_utf8_acceptRanges), ("unicode/utf8.first", laid_unicode_utf8_first)], narrowed := true }
def DecodeReadsUptoSaid : Prop := decodeReadsUptoRow.holds Tryz.pinned (OpenSpec.upto decodeReadsSpec)

/-- 'athanorlaw05.DecodeCustom', WHERE WHAT IT READS IS OF BULK AT MOST 1048576: true; the input reads as it did. -/
def decodeCustomUptoRow : OpenClaim := { program := "ytkbfjkbokifgkaagreatdoor", sum := "b0d3c156748977936ba807892f695962b51b325c7c0da0df35af12d0830892eb", func := "athanor/athanorlaw05.DecodeCustom", spec := "decodeCustom", unfollowed := true, recurses := true, named := ["unicode/utf8.first", "unicode/utf8.acceptRanges"], loops := true, apart := false, laid := [("unicode/utf8.acceptRanges", laid_unicode_utf8_acceptRanges), ("unicode/utf8.first", laid_unicode_utf8_first)], narrowed := true }
def DecodeCustomUptoSaid : Prop := decodeCustomUptoRow.holds Tryz.pinned (OpenSpec.upto decodeCustomSpec)

/-- 'athanorlaw05.DecodePadded', WHERE WHAT IT READS IS OF BULK AT MOST 1048576: true; the input reads as it did. -/
def decodePaddedUptoRow : OpenClaim := { program := "ytkbfjkbokifgkaagreatdoor", sum := "b0d3c156748977936ba807892f695962b51b325c7c0da0df35af12d0830892eb", func := "athanor/athanorlaw05.DecodePadded", spec := "decodePadded", unfollowed := true, recurses := true, named := ["unicode/utf8.first", "unicode/utf8.acceptRanges"], loops := true, apart := false, laid := [("unicode/utf8.acceptRanges", laid_unicode_utf8_acceptRanges), ("unicode/utf8.first", laid_unicode_utf8_first)], narrowed := true }
def DecodePaddedUptoSaid : Prop := decodePaddedUptoRow.holds Tryz.pinned (OpenSpec.upto decodePaddedSpec)

/-- 'athanorlaw05.DecodeMost', WHERE WHAT IT READS IS OF BULK AT MOST 1048576: true; the input reads as it did. -/
def decodeMostUptoRow : OpenClaim := { program := "ytkbfjkbokifgkaagreatdoor", sum := "b0d3c156748977936ba807892f695962b51b325c7c0da0df35af12d0830892eb", func := "athanor/athanorlaw05.DecodeMost", spec := "decodeMost", unfollowed := true, recurses := true, named := ["unicode/utf8.first", "unicode/utf8.acceptRanges"], apart := false, laid := [("unicode/utf8.acceptRanges", laid_unicode_utf8_acceptRanges), ("unicode/utf8.first", laid_unicode_utf8_first)], narrowed := true }
def DecodeMostUptoSaid : Prop := decodeMostUptoRow.holds Tryz.pinned (OpenSpec.upto decodeMostSpec)

/-- 'athanorlaw05.DecodeBack', WHERE WHAT IT READS IS OF BULK AT MOST 1048576: true; the input reads as it did. -/
def decodeBackUptoRow : OpenClaim := { program := "ytkbfjkbokifgkaagreatdoor", sum := "b0d3c156748977936ba807892f695962b51b325c7c0da0df35af12d0830892eb", func := "athanor/athanorlaw05.DecodeBack", spec := "decodeBack", unfollowed := true, recurses := true, named := ["unicode/utf8.first", "unicode/utf8.acceptRanges"], loops := true, apart := false, laid := [("unicode/utf8.acceptRanges", laid_unicode_utf8_acceptRanges), ("unicode/utf8.first", laid_unicode_utf8_first)], narrowed := true }
def DecodeBackUptoSaid : Prop := decodeBackUptoRow.holds Tryz.pinned (OpenSpec.upto decodeBackSpec)

/-- 'athanorlaw05.DecodeAgain', WHERE WHAT IT READS IS OF BULK AT MOST 1048576: true; the input reads as it did. -/
def decodeAgainUptoRow : OpenClaim := { program := "ytkbfjkbokifgkaagreatdoor", sum := "b0d3c156748977936ba807892f695962b51b325c7c0da0df35af12d0830892eb", func := "athanor/athanorlaw05.DecodeAgain", spec := "decodeAgain", unfollowed := true, recurses := true, named := ["unicode/utf8.first", "unicode/utf8.acceptRanges"], apart := false, laid := [("unicode/utf8.acceptRanges", laid_unicode_utf8_acceptRanges), ("unicode/utf8.first", laid_unicode_utf8_first)], narrowed := true }
def DecodeAgainUptoSaid : Prop := decodeAgainUptoRow.holds Tryz.pinned (OpenSpec.upto decodeAgainSpec)

end Rows
end Go.Proofs.YtkbfjkbokifgkaaGreatDoor
