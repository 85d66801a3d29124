/-
  No cell of these rows narrows 'for every input' (looked for: loops, veiled, ifaces, maps, wideKeys, modest, calm, conditions, laid).
  DERIVED. THE GIVEN ROWS OF THIS SEAT. 5 by the template 'for every input the law returns true; each argument reads behind the call as it read before'; 0 by the template 'total and deterministic' (their statements: YtfnicijfhpfohaaTotals.lean).
  GIVEN WITH THE SEED: the statements are not yours to turn. If you find one false, say at which input.
  Laid BY PROGRAM, IN A SANDBOX (cutbox-rows.mjs): the forced cells as the released guide's own fill.sh prints them over the translation 53b62661c6f7c3cb… (all of the seat's roots in one cut). By AI agents, Wed Nov 11 2026. No macro, syntax, notation, axiom, sorry.
-/
import Derived.Test.YtfnicijfhpfohaaChecked
import GoSem.Claim
import GoSem.ClaimJoined
import GoSem.ClaimMapViews
import Derived.JoinedTies
import Derived.KernelRfl
namespace Go.Proofs.Ytfnicijfhpfohaa
/- THE CELL 'sum', in the pinned program and in every row, IS THE sha256 OF THE DUMP (.gsa) THAT YtfnicijfhpfohaaProg.lean LOADS. Nothing in Lean hashes anything: it is a label: what it is worth is what the hold of that sum in a sandbox is worth. -/
noncomputable def Try.pinned : Pinned := { name := "ytfnicijfhpfohaa", sum := "53b62661c6f7c3cbf7f7e45a91421a2cc5b57c61d18130f85ef589bd579260a7", checked := Try.checked }
namespace Rows
def none {H : Type} : Left H := { results := [], args := [] }

/-- 'athanorlaw07.MemoryBack': WHATEVER THE INPUT: true; the input reads as it did. -/
def memoryBackSpec : ChangeSpec := { name := "memoryBack", fn := fun _ => fun
  | [d] => { results := [.lit (.bool true)], args := [d] }
  | _ => none }
def memoryBackRow : OpenClaim := { program := "ytfnicijfhpfohaa", sum := "53b62661c6f7c3cbf7f7e45a91421a2cc5b57c61d18130f85ef589bd579260a7", func := "athanor/athanorlaw07.MemoryBack", spec := "memoryBack", inPlace := ["sync/atomic.StoreInt64", "sync/atomic.LoadInt64", "sync/atomic.AddInt64"], apart := false }
def MemoryBackSaid : Prop := memoryBackRow.holds Try.pinned (OpenSpec.ofChange memoryBackSpec)

/-- ITS FALSE NEIGHBOUR: 'it returns false'. Refute it at one input. -/
def memoryBackWrong : ChangeSpec := { name := "memoryBack", fn := fun _ => fun
  | [d] => { results := [.lit (.bool false)], args := [d] }
  | _ => none }
def MemoryBackWrongFalsely : Prop := memoryBackRow.holds Try.pinned (OpenSpec.ofChange memoryBackWrong)

/-- 'athanorlaw07.MemoryEnds': WHATEVER THE INPUT: true; the input reads as it did. -/
def memoryEndsSpec : ChangeSpec := { name := "memoryEnds", fn := fun _ => fun
  | [d1, d2, d3] => { results := [.lit (.bool true)], args := [d1, d2, d3] }
  | _ => none }
def memoryEndsRow : OpenClaim := { program := "ytfnicijfhpfohaa", sum := "53b62661c6f7c3cbf7f7e45a91421a2cc5b57c61d18130f85ef589bd579260a7", func := "athanor/athanorlaw07.MemoryEnds", spec := "memoryEnds", inPlace := ["sync/atomic.StoreInt64", "sync/atomic.LoadInt64", "sync/atomic.AddInt64"], apart := false }
def MemoryEndsSaid : Prop := memoryEndsRow.holds Try.pinned (OpenSpec.ofChange memoryEndsSpec)

/-- ITS FALSE NEIGHBOUR: 'it returns false'. Refute it at one input. -/
def memoryEndsWrong : ChangeSpec := { name := "memoryEnds", fn := fun _ => fun
  | [d1, d2, d3] => { results := [.lit (.bool false)], args := [d1, d2, d3] }
  | _ => none }
def MemoryEndsWrongFalsely : Prop := memoryEndsRow.holds Try.pinned (OpenSpec.ofChange memoryEndsWrong)

/-- 'athanorlaw07.MemoryEight': WHATEVER THE INPUT: true; the input reads as it did. -/
def memoryEightSpec : ChangeSpec := { name := "memoryEight", fn := fun _ => fun
  | [d1, d2] => { results := [.lit (.bool true)], args := [d1, d2] }
  | _ => none }
def memoryEightRow : OpenClaim := { program := "ytfnicijfhpfohaa", sum := "53b62661c6f7c3cbf7f7e45a91421a2cc5b57c61d18130f85ef589bd579260a7", func := "athanor/athanorlaw07.MemoryEight", spec := "memoryEight", inPlace := ["sync/atomic.StoreInt64", "sync/atomic.LoadInt64", "sync/atomic.AddInt64"], apart := false }
def MemoryEightSaid : Prop := memoryEightRow.holds Try.pinned (OpenSpec.ofChange memoryEightSpec)

/-- ITS FALSE NEIGHBOUR: 'it returns false'. Refute it at one input. -/
def memoryEightWrong : ChangeSpec := { name := "memoryEight", fn := fun _ => fun
  | [d1, d2] => { results := [.lit (.bool false)], args := [d1, d2] }
  | _ => none }
def MemoryEightWrongFalsely : Prop := memoryEightRow.holds Try.pinned (OpenSpec.ofChange memoryEightWrong)

/-- 'athanorlaw07.MemoryGrows': WHATEVER THE INPUT: true; the input reads as it did. -/
def memoryGrowsSpec : ChangeSpec := { name := "memoryGrows", fn := fun _ => fun
  | [d1, d2, d3] => { results := [.lit (.bool true)], args := [d1, d2, d3] }
  | _ => none }
def memoryGrowsRow : OpenClaim := { program := "ytfnicijfhpfohaa", sum := "53b62661c6f7c3cbf7f7e45a91421a2cc5b57c61d18130f85ef589bd579260a7", func := "athanor/athanorlaw07.MemoryGrows", spec := "memoryGrows", inPlace := ["sync/atomic.StoreInt64", "sync/atomic.LoadInt64", "sync/atomic.AddInt64"], apart := false }
def MemoryGrowsSaid : Prop := memoryGrowsRow.holds Try.pinned (OpenSpec.ofChange memoryGrowsSpec)

/-- ITS FALSE NEIGHBOUR: 'it returns false'. Refute it at one input. -/
def memoryGrowsWrong : ChangeSpec := { name := "memoryGrows", fn := fun _ => fun
  | [d1, d2, d3] => { results := [.lit (.bool false)], args := [d1, d2, d3] }
  | _ => none }
def MemoryGrowsWrongFalsely : Prop := memoryGrowsRow.holds Try.pinned (OpenSpec.ofChange memoryGrowsWrong)

/-- 'athanorlaw07.MemoryPlays': WHATEVER THE INPUT: true; the input reads as it did. -/
def memoryPlaysSpec : ChangeSpec := { name := "memoryPlays", fn := fun _ => fun
  | [d1, d2] => { results := [.lit (.bool true)], args := [d1, d2] }
  | _ => none }
def memoryPlaysRow : OpenClaim := { program := "ytfnicijfhpfohaa", sum := "53b62661c6f7c3cbf7f7e45a91421a2cc5b57c61d18130f85ef589bd579260a7", func := "athanor/athanorlaw07.MemoryPlays", spec := "memoryPlays", inPlace := ["sync/atomic.StoreInt64", "sync/atomic.LoadInt64", "sync/atomic.AddInt64"], apart := false }
def MemoryPlaysSaid : Prop := memoryPlaysRow.holds Try.pinned (OpenSpec.ofChange memoryPlaysSpec)

/-- ITS FALSE NEIGHBOUR: 'it returns false'. Refute it at one input. -/
def memoryPlaysWrong : ChangeSpec := { name := "memoryPlays", fn := fun _ => fun
  | [d1, d2] => { results := [.lit (.bool false)], args := [d1, d2] }
  | _ => none }
def MemoryPlaysWrongFalsely : Prop := memoryPlaysRow.holds Try.pinned (OpenSpec.ofChange memoryPlaysWrong)

/- THE SECOND FORM. 'bulk': how many values and letters a reading holds, each counted each time it is reached (what is shared counts as often as it is met; a slice's spare places count too). A statement '..UptoSaid' is the law's where the arguments, and the package variables that the reading takes, are together of bulk at most 1048576: NARROWER than '..Said'. Prove '..Said' where nothing that the law and all that it calls make is longer than what came in: it says more and counts as full. Else prove '..UptoSaid'. A law counts once. -/
mutual
def uptoBulk {H : Type} : DataW H → Nat
  | .lit (.string bytes) => bytes.length + 1
  | .lit _ => 1
  | .nil => 1
  | .ptr d => uptoBulk d + 1
  | .slice elems spare => uptoBulkAll elems + uptoBulkAll spare + 1
  | .agg parts => uptoBulkAll parts + 1
  | .iface _ d => uptoBulk d + 1
  | .map entries => uptoBulkEntries entries + 1
  | .held _ => 1
def uptoBulkAll {H : Type} : List (DataW H) → Nat
  | [] => 0
  | d :: r => uptoBulk d + uptoBulkAll r
def uptoBulkEntries {H : Type} : List (Lit × DataW H) → Nat
  | [] => 0
  | x :: r => uptoBulkEntry x + uptoBulkEntries r
def uptoBulkEntry {H : Type} : Lit × DataW H → Nat
  | (.string bytes, d) => bytes.length + uptoBulk d + 1
  | (_, d) => uptoBulk d + 1
 end
def uptoSmall : (H : Type) → List (DataW H) → Bool := fun _ ds => decide (uptoBulkAll ds ≤ 1048576)
def OpenSpec.upto (s : _root_.Go.ChangeSpec) : _root_.Go.OpenSpec := { _root_.Go.OpenSpec.ofChange s with cond := some uptoSmall }

/-- 'athanorlaw07.MemoryBack', WHERE WHAT IT READS IS OF BULK AT MOST 1048576: true; the input reads as it did. -/
def memoryBackUptoRow : OpenClaim := { program := "ytfnicijfhpfohaa", sum := "53b62661c6f7c3cbf7f7e45a91421a2cc5b57c61d18130f85ef589bd579260a7", func := "athanor/athanorlaw07.MemoryBack", spec := "memoryBack", inPlace := ["sync/atomic.StoreInt64", "sync/atomic.LoadInt64", "sync/atomic.AddInt64"], apart := false, narrowed := true }
def MemoryBackUptoSaid : Prop := memoryBackUptoRow.holds Try.pinned (OpenSpec.upto memoryBackSpec)

/-- 'athanorlaw07.MemoryEnds', WHERE WHAT IT READS IS OF BULK AT MOST 1048576: true; the input reads as it did. -/
def memoryEndsUptoRow : OpenClaim := { program := "ytfnicijfhpfohaa", sum := "53b62661c6f7c3cbf7f7e45a91421a2cc5b57c61d18130f85ef589bd579260a7", func := "athanor/athanorlaw07.MemoryEnds", spec := "memoryEnds", inPlace := ["sync/atomic.StoreInt64", "sync/atomic.LoadInt64", "sync/atomic.AddInt64"], apart := false, narrowed := true }
def MemoryEndsUptoSaid : Prop := memoryEndsUptoRow.holds Try.pinned (OpenSpec.upto memoryEndsSpec)

/-- 'athanorlaw07.MemoryEight', WHERE WHAT IT READS IS OF BULK AT MOST 1048576: true; the input reads as it did. -/
def memoryEightUptoRow : OpenClaim := { program := "ytfnicijfhpfohaa", sum := "53b62661c6f7c3cbf7f7e45a91421a2cc5b57c61d18130f85ef589bd579260a7", func := "athanor/athanorlaw07.MemoryEight", spec := "memoryEight", inPlace := ["sync/atomic.StoreInt64", "sync/atomic.LoadInt64", "sync/atomic.AddInt64"], apart := false, narrowed := true }
def MemoryEightUptoSaid : Prop := memoryEightUptoRow.holds Try.pinned (OpenSpec.upto memoryEightSpec)

/-- 'athanorlaw07.MemoryGrows', WHERE WHAT IT READS IS OF BULK AT MOST 1048576: true; the input reads as it did. -/
def memoryGrowsUptoRow : OpenClaim := { program := "ytfnicijfhpfohaa", sum := "53b62661c6f7c3cbf7f7e45a91421a2cc5b57c61d18130f85ef589bd579260a7", func := "athanor/athanorlaw07.MemoryGrows", spec := "memoryGrows", inPlace := ["sync/atomic.StoreInt64", "sync/atomic.LoadInt64", "sync/atomic.AddInt64"], apart := false, narrowed := true }
def MemoryGrowsUptoSaid : Prop := memoryGrowsUptoRow.holds Try.pinned (OpenSpec.upto memoryGrowsSpec)

/-- 'athanorlaw07.MemoryPlays', WHERE WHAT IT READS IS OF BULK AT MOST 1048576: true; the input reads as it did. -/
def memoryPlaysUptoRow : OpenClaim := { program := "ytfnicijfhpfohaa", sum := "53b62661c6f7c3cbf7f7e45a91421a2cc5b57c61d18130f85ef589bd579260a7", func := "athanor/athanorlaw07.MemoryPlays", spec := "memoryPlays", inPlace := ["sync/atomic.StoreInt64", "sync/atomic.LoadInt64", "sync/atomic.AddInt64"], apart := false, narrowed := true }
def MemoryPlaysUptoSaid : Prop := memoryPlaysUptoRow.holds Try.pinned (OpenSpec.upto memoryPlaysSpec)

end Rows
end Go.Proofs.Ytfnicijfhpfohaa
