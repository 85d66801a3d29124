/-
  NARROWER THAN 'FOR EVERY INPUT', by the rows' own cells (each row's printed sentence says how): EncodeUnlike: loops, laid · EncodeBodies: loops, laid · EncodeJoins: loops, laid.
  DERIVED. THE GIVEN ROWS OF THIS SEAT. 3 by the template 'for every input the law returns true; each argument reads behind the call as it read before'; 0 by the template 'total and deterministic' (their statements: YtanpjbbhhofkfaaDoorTotals.lean).
  GIVEN WITH THE SEED: the statements are not yours to turn. If you find one false, say at which input.
  Laid BY PROGRAM, IN A SANDBOX (cutbox-rows.mjs): the forced cells as the released guide's own fill.sh prints them over the translation 0b12475dd2f2e4cb… (all of the seat's roots in one cut). By AI agents, Wed Nov 11 2026. No macro, syntax, notation, axiom, sorry.
-/
import Derived.Test.YtanpjbbhhofkfaaDoorChecked
import GoSem.PinnedTables
import GoSem.Claim
import GoSem.ClaimJoined
import GoSem.ClaimMapViews
import Derived.JoinedTies
import Derived.KernelRfl
namespace Go.Proofs.YtanpjbbhhofkfaaDoor
/- THE CELL 'sum', in the pinned program and in every row, IS THE sha256 OF THE DUMP (.gsa) THAT YtanpjbbhhofkfaaDoorProg.lean LOADS. Nothing in Lean hashes anything: it is a label: what it is worth is what the hold of that sum in a sandbox is worth. -/
noncomputable def Tryd.pinned : Pinned := { name := "ytanpjbbhhofkfaadoor", sum := "0b12475dd2f2e4cbe99d941e0685ed663eaf629303a034b3fbe462b979dc5803", checked := Tryd.checked }
namespace Rows
def none {H : Type} : Left H := { results := [], args := [] }

/- WHAT THE LISTED PACKAGE-LEVEL VARIABLES READ AS WHEN THE CALL BEGINS. Each datum BY PROGRAM (the guide's laid-datum.mjs) off the statement by which the dump's own 'gosem.cut.vars' lays the variable. In a bare row this is a premise. The card (YtanpjbbhhofkfaaDoorCards.lean) ties it to the program's text. -/
def laid_unicode_utf8_acceptRanges {H : Type} : DataW H := .agg [.agg [.lit (.int .u8 128), .lit (.int .u8 191)], .agg [.lit (.int .u8 160), .lit (.int .u8 191)], .agg [.lit (.int .u8 128), .lit (.int .u8 159)], .agg [.lit (.int .u8 144), .lit (.int .u8 191)], .agg [.lit (.int .u8 128), .lit (.int .u8 143)], .agg [.lit (.int .u8 0), .lit (.int .u8 0)], .agg [.lit (.int .u8 0), .lit (.int .u8 0)], .agg [.lit (.int .u8 0), .lit (.int .u8 0)], .agg [.lit (.int .u8 0), .lit (.int .u8 0)], .agg [.lit (.int .u8 0), .lit (.int .u8 0)], .agg [.lit (.int .u8 0), .lit (.int .u8 0)], .agg [.lit (.int .u8 0), .lit (.int .u8 0)], .agg [.lit (.int .u8 0), .lit (.int .u8 0)], .agg [.lit (.int .u8 0), .lit (.int .u8 0)], .agg [.lit (.int .u8 0), .lit (.int .u8 0)], .agg [.lit (.int .u8 0), .lit (.int .u8 0)]]
/-- One of Go's own tables, pinned by name: the form's constant. -/
def laid_unicode_utf8_first : DataW Unit := Go.Pinned.utf8First

/-- 'athanorlaw04.EncodeUnlike': WHATEVER THE INPUT: true; the input reads as it did. -/
def encodeUnlikeSpec : ChangeSpec := { name := "encodeUnlike", fn := fun _ => fun
  | [d1, d2] => { results := [.lit (.bool true)], args := [d1, d2] }
  | _ => none }
def encodeUnlikeRow : OpenClaim := { program := "ytanpjbbhhofkfaadoor", sum := "0b12475dd2f2e4cbe99d941e0685ed663eaf629303a034b3fbe462b979dc5803", func := "athanor/athanorlaw04.EncodeUnlike", spec := "encodeUnlike", unfollowed := true, recurses := true, named := ["unicode/utf8.first", "unicode/utf8.acceptRanges"], loops := true, apart := false, laid := [("unicode/utf8.acceptRanges", laid_unicode_utf8_acceptRanges), ("unicode/utf8.first", laid_unicode_utf8_first)] }
def EncodeUnlikeSaid : Prop := encodeUnlikeRow.holds Tryd.pinned (OpenSpec.ofChange encodeUnlikeSpec)

/-- ITS FALSE NEIGHBOUR: 'it returns false'. Refute it at one input. -/
def encodeUnlikeWrong : ChangeSpec := { name := "encodeUnlike", fn := fun _ => fun
  | [d1, d2] => { results := [.lit (.bool false)], args := [d1, d2] }
  | _ => none }
def EncodeUnlikeWrongFalsely : Prop := encodeUnlikeRow.holds Tryd.pinned (OpenSpec.ofChange encodeUnlikeWrong)

/-- 'athanorlaw04.EncodeBodies': WHATEVER THE INPUT: true; the input reads as it did. -/
def encodeBodiesSpec : ChangeSpec := { name := "encodeBodies", fn := fun _ => fun
  | [d] => { results := [.lit (.bool true)], args := [d] }
  | _ => none }
def encodeBodiesRow : OpenClaim := { program := "ytanpjbbhhofkfaadoor", sum := "0b12475dd2f2e4cbe99d941e0685ed663eaf629303a034b3fbe462b979dc5803", func := "athanor/athanorlaw04.EncodeBodies", spec := "encodeBodies", unfollowed := true, recurses := true, named := ["unicode/utf8.first", "unicode/utf8.acceptRanges"], loops := true, apart := false, laid := [("unicode/utf8.acceptRanges", laid_unicode_utf8_acceptRanges), ("unicode/utf8.first", laid_unicode_utf8_first)] }
def EncodeBodiesSaid : Prop := encodeBodiesRow.holds Tryd.pinned (OpenSpec.ofChange encodeBodiesSpec)

/-- ITS FALSE NEIGHBOUR: 'it returns false'. Refute it at one input. -/
def encodeBodiesWrong : ChangeSpec := { name := "encodeBodies", fn := fun _ => fun
  | [d] => { results := [.lit (.bool false)], args := [d] }
  | _ => none }
def EncodeBodiesWrongFalsely : Prop := encodeBodiesRow.holds Tryd.pinned (OpenSpec.ofChange encodeBodiesWrong)

/-- 'athanorlaw04.EncodeJoins': WHATEVER THE INPUT: true; the input reads as it did. -/
def encodeJoinsSpec : ChangeSpec := { name := "encodeJoins", fn := fun _ => fun
  | [d1, d2] => { results := [.lit (.bool true)], args := [d1, d2] }
  | _ => none }
def encodeJoinsRow : OpenClaim := { program := "ytanpjbbhhofkfaadoor", sum := "0b12475dd2f2e4cbe99d941e0685ed663eaf629303a034b3fbe462b979dc5803", func := "athanor/athanorlaw04.EncodeJoins", spec := "encodeJoins", unfollowed := true, recurses := true, named := ["unicode/utf8.first", "unicode/utf8.acceptRanges"], loops := true, apart := false, laid := [("unicode/utf8.acceptRanges", laid_unicode_utf8_acceptRanges), ("unicode/utf8.first", laid_unicode_utf8_first)] }
def EncodeJoinsSaid : Prop := encodeJoinsRow.holds Tryd.pinned (OpenSpec.ofChange encodeJoinsSpec)

/-- ITS FALSE NEIGHBOUR: 'it returns false'. Refute it at one input. -/
def encodeJoinsWrong : ChangeSpec := { name := "encodeJoins", fn := fun _ => fun
  | [d1, d2] => { results := [.lit (.bool false)], args := [d1, d2] }
  | _ => none }
def EncodeJoinsWrongFalsely : Prop := encodeJoinsRow.holds Tryd.pinned (OpenSpec.ofChange encodeJoinsWrong)

/- THE SECOND FORM. 'bulk': how many values and letters a reading holds, each counted each time it is reached (what is shared counts as often as it is met; a slice's spare places count too). A statement '..UptoSaid' is the law's where the arguments, and the package variables that the reading takes, are together of bulk at most 1048576: NARROWER than '..Said'. Prove '..Said' where nothing that the law and all that it calls make is longer than what came in: it says more and counts as full. Else prove '..UptoSaid'. A law counts once. -/
mutual
def uptoBulk {H : Type} : DataW H → Nat
  | .lit (.string bytes) => bytes.length + 1
  | .lit _ => 1
  | .nil => 1
  | .ptr d => uptoBulk d + 1
  | .slice elems spare => uptoBulkAll elems + uptoBulkAll spare + 1
  | .agg parts => uptoBulkAll parts + 1
  | .iface _ d => uptoBulk d + 1
  | .map entries => uptoBulkEntries entries + 1
  | .held _ => 1
def uptoBulkAll {H : Type} : List (DataW H) → Nat
  | [] => 0
  | d :: r => uptoBulk d + uptoBulkAll r
def uptoBulkEntries {H : Type} : List (Lit × DataW H) → Nat
  | [] => 0
  | x :: r => uptoBulkEntry x + uptoBulkEntries r
def uptoBulkEntry {H : Type} : Lit × DataW H → Nat
  | (.string bytes, d) => bytes.length + uptoBulk d + 1
  | (_, d) => uptoBulk d + 1
 end
def uptoSmall : (H : Type) → List (DataW H) → Bool := fun _ ds => decide (uptoBulkAll ds ≤ 1048576)
def OpenSpec.upto (s : _root_.Go.ChangeSpec) : _root_.Go.OpenSpec := { _root_.Go.OpenSpec.ofChange s with cond := some uptoSmall }

/-- 'athanorlaw04.EncodeUnlike', WHERE WHAT IT READS IS OF BULK AT MOST 1048576: true; the input reads as it did. -/
def encodeUnlikeUptoRow : OpenClaim := { program := "ytanpjbbhhofkfaadoor", sum := "0b12475dd2f2e4cbe99d941e0685ed663eaf629303a034b3fbe462b979dc5803", func := "athanor/athanorlaw04.EncodeUnlike", spec := "encodeUnlike", unfollowed := true, recurses := true, named := ["unicode/utf8.first", "unicode/utf8.acceptRanges"], loops := true, apart := false, laid := [("unicode/utf8.acceptRanges", laid_unicode_utf8_acceptRanges), ("unicode/utf8.first", laid_unicode_utf8_first)], narrowed := true }
def EncodeUnlikeUptoSaid : Prop := encodeUnlikeUptoRow.holds Tryd.pinned (OpenSpec.upto encodeUnlikeSpec)

/-- 'athanorlaw04.EncodeBodies', WHERE WHAT IT READS IS OF BULK AT MOST 1048576: true; the input reads as it did. -/
def encodeBodiesUptoRow : OpenClaim := { program := "ytanpjbbhhofkfaadoor", sum := "0b12475dd2f2e4cbe99d941e0685ed663eaf629303a034b3fbe462b979dc5803", func := "athanor/athanorlaw04.EncodeBodies", spec := "encodeBodies", unfollowed := true, recurses := true, named := ["unicode/utf8.first", "unicode/utf8.acceptRanges"], loops := true, apart := false, laid := [("unicode/utf8.acceptRanges", laid_unicode_utf8_acceptRanges), ("unicode/utf8.first", laid_unicode_utf8_first)], narrowed := true }
def EncodeBodiesUptoSaid : Prop := encodeBodiesUptoRow.holds Tryd.pinned (OpenSpec.upto encodeBodiesSpec)

/-- 'athanorlaw04.EncodeJoins', WHERE WHAT IT READS IS OF BULK AT MOST 1048576: true; the input reads as it did. -/
def encodeJoinsUptoRow : OpenClaim := { program := "ytanpjbbhhofkfaadoor", sum := "0b12475dd2f2e4cbe99d941e0685ed663eaf629303a034b3fbe462b979dc5803", func := "athanor/athanorlaw04.EncodeJoins", spec := "encodeJoins", unfollowed := true, recurses := true, named := ["unicode/utf8.first", "unicode/utf8.acceptRanges"], loops := true, apart := false, laid := [("unicode/utf8.acceptRanges", laid_unicode_utf8_acceptRanges), ("unicode/utf8.first", laid_unicode_utf8_first)], narrowed := true }
def EncodeJoinsUptoSaid : Prop := encodeJoinsUptoRow.holds Tryd.pinned (OpenSpec.upto encodeJoinsSpec)

end Rows
end Go.Proofs.YtanpjbbhhofkfaaDoor
