/-
  NARROWER THAN 'FOR EVERY INPUT', by the rows' own cells (each row's printed sentence says how): ValidSays: loops, laid · ValidBodies: loops, laid · ValidMore: loops, laid · ValidNops: loops, laid · ValidTwice: loops, laid · ValidLoops: loops, laid.
  DERIVED. THE GIVEN ROWS OF THIS SEAT. 6 by the template 'for every input the law returns true; each argument reads behind the call as it read before'; 0 by the template 'total and deterministic' (their statements: YtacohbllbjgdgaaGreatDoorTotals.lean).
  GIVEN WITH THE SEED: the statements are not yours to turn. If you find one false, say at which input.
  Laid BY PROGRAM, IN A SANDBOX (cutbox-rows.mjs): the forced cells as the released guide's own fill.sh prints them over the translation a026219c192f70da… (all of the seat's roots in one cut). By AI agents, Wed Nov 11 2026. No macro, syntax, notation, axiom, sorry.
-/
import Derived.Test.YtacohbllbjgdgaaGreatDoorChecked
import GoSem.PinnedTables
import GoSem.Claim
import GoSem.ClaimJoined
import GoSem.ClaimMapViews
import Derived.JoinedTies
import Derived.KernelRfl
namespace Go.Proofs.YtacohbllbjgdgaaGreatDoor
/- THE CELL 'sum', in the pinned program and in every row, IS THE sha256 OF THE DUMP (.gsa) THAT YtacohbllbjgdgaaGreatDoorProg.lean LOADS. Nothing in Lean hashes anything: it is a label: what it is worth is what the hold of that sum in a sandbox is worth. -/
noncomputable def Tryz.pinned : Pinned := { name := "ytacohbllbjgdgaagreatdoor", sum := "a026219c192f70dab03514788b113786ecef28a3956cd2f8a2382f0a19683019", checked := Tryz.checked }
namespace Rows
def none {H : Type} : Left H := { results := [], args := [] }

/- WHAT THE LISTED PACKAGE-LEVEL VARIABLES READ AS WHEN THE CALL BEGINS. Each datum BY PROGRAM (the guide's laid-datum.mjs) off the statement by which the dump's own 'gosem.cut.vars' lays the variable. In a bare row this is a premise. The card (YtacohbllbjgdgaaGreatDoorCards.lean) ties it to the program's text. -/
def laid_unicode_utf8_acceptRanges {H : Type} : DataW H := .agg [.agg [.lit (.int .u8 128), .lit (.int .u8 191)], .agg [.lit (.int .u8 160), .lit (.int .u8 191)], .agg [.lit (.int .u8 128), .lit (.int .u8 159)], .agg [.lit (.int .u8 144), .lit (.int .u8 191)], .agg [.lit (.int .u8 128), .lit (.int .u8 143)], .agg [.lit (.int .u8 0), .lit (.int .u8 0)], .agg [.lit (.int .u8 0), .lit (.int .u8 0)], .agg [.lit (.int .u8 0), .lit (.int .u8 0)], .agg [.lit (.int .u8 0), .lit (.int .u8 0)], .agg [.lit (.int .u8 0), .lit (.int .u8 0)], .agg [.lit (.int .u8 0), .lit (.int .u8 0)], .agg [.lit (.int .u8 0), .lit (.int .u8 0)], .agg [.lit (.int .u8 0), .lit (.int .u8 0)], .agg [.lit (.int .u8 0), .lit (.int .u8 0)], .agg [.lit (.int .u8 0), .lit (.int .u8 0)], .agg [.lit (.int .u8 0), .lit (.int .u8 0)]]
/-- One of Go's own tables, pinned by name: the form's constant. -/
def laid_unicode_utf8_first : DataW Unit := Go.Pinned.utf8First

/-- 'athanorlaw06.ValidSays': WHATEVER THE INPUT: true; the input reads as it did. -/
def validSaysSpec : ChangeSpec := { name := "validSays", fn := fun _ => fun
  | [d] => { results := [.lit (.bool true)], args := [d] }
  | _ => none }
def validSaysRow : OpenClaim := { program := "ytacohbllbjgdgaagreatdoor", sum := "a026219c192f70dab03514788b113786ecef28a3956cd2f8a2382f0a19683019", func := "athanor/athanorlaw06.ValidSays", spec := "validSays", unfollowed := true, recurses := true, named := ["unicode/utf8.first", "unicode/utf8.acceptRanges"], loops := true, apart := false, laid := [("unicode/utf8.acceptRanges", laid_unicode_utf8_acceptRanges), ("unicode/utf8.first", laid_unicode_utf8_first)] }
def ValidSaysSaid : Prop := validSaysRow.holds Tryz.pinned (OpenSpec.ofChange validSaysSpec)

/-- ITS FALSE NEIGHBOUR: 'it returns false'. Refute it at one input. -/
def validSaysWrong : ChangeSpec := { name := "validSays", fn := fun _ => fun
  | [d] => { results := [.lit (.bool false)], args := [d] }
  | _ => none }
def ValidSaysWrongFalsely : Prop := validSaysRow.holds Tryz.pinned (OpenSpec.ofChange validSaysWrong)

/-- 'athanorlaw06.ValidBodies': WHATEVER THE INPUT: true; the input reads as it did. -/
def validBodiesSpec : ChangeSpec := { name := "validBodies", fn := fun _ => fun
  | [d1, d2, d3] => { results := [.lit (.bool true)], args := [d1, d2, d3] }
  | _ => none }
def validBodiesRow : OpenClaim := { program := "ytacohbllbjgdgaagreatdoor", sum := "a026219c192f70dab03514788b113786ecef28a3956cd2f8a2382f0a19683019", func := "athanor/athanorlaw06.ValidBodies", spec := "validBodies", unfollowed := true, recurses := true, named := ["unicode/utf8.first", "unicode/utf8.acceptRanges"], loops := true, apart := false, laid := [("unicode/utf8.acceptRanges", laid_unicode_utf8_acceptRanges), ("unicode/utf8.first", laid_unicode_utf8_first)] }
def ValidBodiesSaid : Prop := validBodiesRow.holds Tryz.pinned (OpenSpec.ofChange validBodiesSpec)

/-- ITS FALSE NEIGHBOUR: 'it returns false'. Refute it at one input. -/
def validBodiesWrong : ChangeSpec := { name := "validBodies", fn := fun _ => fun
  | [d1, d2, d3] => { results := [.lit (.bool false)], args := [d1, d2, d3] }
  | _ => none }
def ValidBodiesWrongFalsely : Prop := validBodiesRow.holds Tryz.pinned (OpenSpec.ofChange validBodiesWrong)

/-- 'athanorlaw06.ValidMore': WHATEVER THE INPUT: true; the input reads as it did. -/
def validMoreSpec : ChangeSpec := { name := "validMore", fn := fun _ => fun
  | [d1, d2] => { results := [.lit (.bool true)], args := [d1, d2] }
  | _ => none }
def validMoreRow : OpenClaim := { program := "ytacohbllbjgdgaagreatdoor", sum := "a026219c192f70dab03514788b113786ecef28a3956cd2f8a2382f0a19683019", func := "athanor/athanorlaw06.ValidMore", spec := "validMore", unfollowed := true, recurses := true, named := ["unicode/utf8.first", "unicode/utf8.acceptRanges"], loops := true, apart := false, laid := [("unicode/utf8.acceptRanges", laid_unicode_utf8_acceptRanges), ("unicode/utf8.first", laid_unicode_utf8_first)] }
def ValidMoreSaid : Prop := validMoreRow.holds Tryz.pinned (OpenSpec.ofChange validMoreSpec)

/-- ITS FALSE NEIGHBOUR: 'it returns false'. Refute it at one input. -/
def validMoreWrong : ChangeSpec := { name := "validMore", fn := fun _ => fun
  | [d1, d2] => { results := [.lit (.bool false)], args := [d1, d2] }
  | _ => none }
def ValidMoreWrongFalsely : Prop := validMoreRow.holds Tryz.pinned (OpenSpec.ofChange validMoreWrong)

/-- 'athanorlaw06.ValidNops': WHATEVER THE INPUT: true; the input reads as it did. -/
def validNopsSpec : ChangeSpec := { name := "validNops", fn := fun _ => fun
  | [d1, d2, d3] => { results := [.lit (.bool true)], args := [d1, d2, d3] }
  | _ => none }
def validNopsRow : OpenClaim := { program := "ytacohbllbjgdgaagreatdoor", sum := "a026219c192f70dab03514788b113786ecef28a3956cd2f8a2382f0a19683019", func := "athanor/athanorlaw06.ValidNops", spec := "validNops", unfollowed := true, recurses := true, named := ["unicode/utf8.first", "unicode/utf8.acceptRanges"], loops := true, apart := false, laid := [("unicode/utf8.acceptRanges", laid_unicode_utf8_acceptRanges), ("unicode/utf8.first", laid_unicode_utf8_first)] }
def ValidNopsSaid : Prop := validNopsRow.holds Tryz.pinned (OpenSpec.ofChange validNopsSpec)

/-- ITS FALSE NEIGHBOUR: 'it returns false'. Refute it at one input. -/
def validNopsWrong : ChangeSpec := { name := "validNops", fn := fun _ => fun
  | [d1, d2, d3] => { results := [.lit (.bool false)], args := [d1, d2, d3] }
  | _ => none }
def ValidNopsWrongFalsely : Prop := validNopsRow.holds Tryz.pinned (OpenSpec.ofChange validNopsWrong)

/-- 'athanorlaw06.ValidTwice': WHATEVER THE INPUT: true; the input reads as it did. -/
def validTwiceSpec : ChangeSpec := { name := "validTwice", fn := fun _ => fun
  | [d1, d2] => { results := [.lit (.bool true)], args := [d1, d2] }
  | _ => none }
def validTwiceRow : OpenClaim := { program := "ytacohbllbjgdgaagreatdoor", sum := "a026219c192f70dab03514788b113786ecef28a3956cd2f8a2382f0a19683019", func := "athanor/athanorlaw06.ValidTwice", spec := "validTwice", unfollowed := true, recurses := true, named := ["unicode/utf8.first", "unicode/utf8.acceptRanges"], loops := true, apart := false, laid := [("unicode/utf8.acceptRanges", laid_unicode_utf8_acceptRanges), ("unicode/utf8.first", laid_unicode_utf8_first)] }
def ValidTwiceSaid : Prop := validTwiceRow.holds Tryz.pinned (OpenSpec.ofChange validTwiceSpec)

/-- ITS FALSE NEIGHBOUR: 'it returns false'. Refute it at one input. -/
def validTwiceWrong : ChangeSpec := { name := "validTwice", fn := fun _ => fun
  | [d1, d2] => { results := [.lit (.bool false)], args := [d1, d2] }
  | _ => none }
def ValidTwiceWrongFalsely : Prop := validTwiceRow.holds Tryz.pinned (OpenSpec.ofChange validTwiceWrong)

/-- 'athanorlaw06.ValidLoops': WHATEVER THE INPUT: true; the input reads as it did. -/
def validLoopsSpec : ChangeSpec := { name := "validLoops", fn := fun _ => fun
  | [d1, d2] => { results := [.lit (.bool true)], args := [d1, d2] }
  | _ => none }
def validLoopsRow : OpenClaim := { program := "ytacohbllbjgdgaagreatdoor", sum := "a026219c192f70dab03514788b113786ecef28a3956cd2f8a2382f0a19683019", func := "athanor/athanorlaw06.ValidLoops", spec := "validLoops", unfollowed := true, recurses := true, named := ["unicode/utf8.first", "unicode/utf8.acceptRanges"], loops := true, apart := false, laid := [("unicode/utf8.acceptRanges", laid_unicode_utf8_acceptRanges), ("unicode/utf8.first", laid_unicode_utf8_first)] }
def ValidLoopsSaid : Prop := validLoopsRow.holds Tryz.pinned (OpenSpec.ofChange validLoopsSpec)

/-- ITS FALSE NEIGHBOUR: 'it returns false'. Refute it at one input. -/
def validLoopsWrong : ChangeSpec := { name := "validLoops", fn := fun _ => fun
  | [d1, d2] => { results := [.lit (.bool false)], args := [d1, d2] }
  | _ => none }
def ValidLoopsWrongFalsely : Prop := validLoopsRow.holds Tryz.pinned (OpenSpec.ofChange validLoopsWrong)

/- THE SECOND FORM. 'bulk': how many values and letters a reading holds, each counted each time it is reached (what is shared counts as often as it is met; a slice's spare places count too). A statement '..UptoSaid' is the law's where the arguments, and the package variables that the reading takes, are together of bulk at most 1048576: NARROWER than '..Said'. Prove '..Said' where nothing that the law and all that it calls make is longer than what came in: it says more and counts as full. Else prove '..UptoSaid'. A law counts once. -/
mutual
def uptoBulk {H : Type} : DataW H → Nat
  | .lit (.string bytes) => bytes.length + 1
  | .lit _ => 1
  | .nil => 1
  | .ptr d => uptoBulk d + 1
  | .slice elems spare => uptoBulkAll elems + uptoBulkAll spare + 1
  | .agg parts => uptoBulkAll parts + 1
  | .iface _ d => uptoBulk d + 1
  | .map entries => uptoBulkEntries entries + 1
  | .held _ => 1
def uptoBulkAll {H : Type} : List (DataW H) → Nat
  | [] => 0
  | d :: r => uptoBulk d + uptoBulkAll r
def uptoBulkEntries {H : Type} : List (Lit × DataW H) → Nat
  | [] => 0
  | x :: r => uptoBulkEntry x + uptoBulkEntries r
def uptoBulkEntry {H : Type} : Lit × DataW H → Nat
  | (.string bytes, d) => bytes.length + uptoBulk d + 1
  | (_, d) => uptoBulk d + 1
 end
def uptoSmall : (H : Type) → List (DataW H) → Bool := fun _ ds => decide (uptoBulkAll ds ≤ 1048576)
def OpenSpec.upto (s : _root_.Go.ChangeSpec) : _root_.Go.OpenSpec := { _root_.Go.OpenSpec.ofChange s with cond := some uptoSmall }

/-- 'athanorlaw06.ValidSays', WHERE WHAT IT READS IS OF BULK AT MOST 1048576: true; the input reads as it did. -/
def validSaysUptoRow : OpenClaim := { program := "ytacohbllbjgdgaagreatdoor", sum := "a026219c192f70dab03514788b113786ecef28a3956cd2f8a2382f0a19683019", func := "athanor/athanorlaw06.ValidSays", spec := "validSays", unfollowed := true, recurses := true, named := ["unicode/utf8.first", "unicode/utf8.acceptRanges"], loops := true, apart := false, laid := [("unicode/utf8.acceptRanges", laid_unicode_utf8_acceptRanges), ("unicode/utf8.first", laid_unicode_utf8_first)], narrowed := true }
def ValidSaysUptoSaid : Prop := validSaysUptoRow.holds Tryz.pinned (OpenSpec.upto validSaysSpec)

/-- 'athanorlaw06.ValidBodies', WHERE WHAT IT READS IS OF BULK AT MOST 1048576: true; the input reads as it did. -/
def validBodiesUptoRow : OpenClaim := { program := "ytacohbllbjgdgaagreatdoor", sum := "a026219c192f70dab03514788b113786ecef28a3956cd2f8a2382f0a19683019", func := "athanor/athanorlaw06.ValidBodies", spec := "validBodies", unfollowed := true, recurses := true, named := ["unicode/utf8.first", "unicode/utf8.acceptRanges"], loops := true, apart := false, laid := [("unicode/utf8.acceptRanges", laid_unicode_utf8_acceptRanges), ("unicode/utf8.first", laid_unicode_utf8_first)], narrowed := true }
def ValidBodiesUptoSaid : Prop := validBodiesUptoRow.holds Tryz.pinned (OpenSpec.upto validBodiesSpec)

/-- 'athanorlaw06.ValidMore', WHERE WHAT IT READS IS OF BULK AT MOST 1048576: true; the input reads as it did. -/
def validMoreUptoRow : OpenClaim := { program := "ytacohbllbjgdgaagreatdoor", sum := "a026219c192f70dab03514788b113786ecef28a3956cd2f8a2382f0a19683019", func := "athanor/athanorlaw06.ValidMore", spec := "validMore", unfollowed := true, recurses := true, named := ["unicode/utf8.first", "unicode/utf8.acceptRanges"], loops := true, apart := false, laid := [("unicode/utf8.acceptRanges", laid_unicode_utf8_acceptRanges), ("unicode/utf8.first", laid_unicode_utf8_first)], narrowed := true }
def ValidMoreUptoSaid : Prop := validMoreUptoRow.holds Tryz.pinned (OpenSpec.upto validMoreSpec)

/-- 'athanorlaw06.ValidNops', WHERE WHAT IT READS IS OF BULK AT MOST 1048576: true; the input reads as it did. -/
def validNopsUptoRow : OpenClaim := { program := "ytacohbllbjgdgaagreatdoor", sum := "a026219c192f70dab03514788b113786ecef28a3956cd2f8a2382f0a19683019", func := "athanor/athanorlaw06.ValidNops", spec := "validNops", unfollowed := true, recurses := true, named := ["unicode/utf8.first", "unicode/utf8.acceptRanges"], loops := true, apart := false, laid := [("unicode/utf8.acceptRanges", laid_unicode_utf8_acceptRanges), ("unicode/utf8.first", laid_unicode_utf8_first)], narrowed := true }
def ValidNopsUptoSaid : Prop := validNopsUptoRow.holds Tryz.pinned (OpenSpec.upto validNopsSpec)

/-- 'athanorlaw06.ValidTwice', WHERE WHAT IT READS IS OF BULK AT MOST 1048576: true; the input reads as it did. -/
def validTwiceUptoRow : OpenClaim := { program := "ytacohbllbjgdgaagreatdoor", sum := "a026219c192f70dab03514788b113786ecef28a3956cd2f8a2382f0a19683019", func := "athanor/athanorlaw06.ValidTwice", spec := "validTwice", unfollowed := true, recurses := true, named := ["unicode/utf8.first", "unicode/utf8.acceptRanges"], loops := true, apart := false, laid := [("unicode/utf8.acceptRanges", laid_unicode_utf8_acceptRanges), ("unicode/utf8.first", laid_unicode_utf8_first)], narrowed := true }
def ValidTwiceUptoSaid : Prop := validTwiceUptoRow.holds Tryz.pinned (OpenSpec.upto validTwiceSpec)

/-- 'athanorlaw06.ValidLoops', WHERE WHAT IT READS IS OF BULK AT MOST 1048576: true; the input reads as it did. -/
def validLoopsUptoRow : OpenClaim := { program := "ytacohbllbjgdgaagreatdoor", sum := "a026219c192f70dab03514788b113786ecef28a3956cd2f8a2382f0a19683019", func := "athanor/athanorlaw06.ValidLoops", spec := "validLoops", unfollowed := true, recurses := true, named := ["unicode/utf8.first", "unicode/utf8.acceptRanges"], loops := true, apart := false, laid := [("unicode/utf8.acceptRanges", laid_unicode_utf8_acceptRanges), ("unicode/utf8.first", laid_unicode_utf8_first)], narrowed := true }
def ValidLoopsUptoSaid : Prop := validLoopsUptoRow.holds Tryz.pinned (OpenSpec.upto validLoopsSpec)

end Rows
end Go.Proofs.YtacohbllbjgdgaaGreatDoor
