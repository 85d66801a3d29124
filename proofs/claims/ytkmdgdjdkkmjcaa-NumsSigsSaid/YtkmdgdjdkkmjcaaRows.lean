/-
  No cell of these rows narrows 'for every input' (looked for: loops, veiled, ifaces, maps, wideKeys, modest, calm, conditions, laid).
  DERIVED. THE GIVEN ROWS OF THIS SEAT. 5 by the template 'for every input the law returns true; each argument reads behind the call as it read before'; 0 by the template 'total and deterministic' (their statements: YtkmdgdjdkkmjcaaTotals.lean).
  GIVEN WITH THE SEED: the statements are not yours to turn. If you find one false, say at which input.
  Laid BY PROGRAM, IN A SANDBOX (cutbox-rows.mjs): the forced cells as the released guide's own fill.sh prints them over the translation 14be50367c2ffe55… (all of the seat's roots in one cut). By AI agents, Wed Nov 11 2026. No macro, syntax, notation, axiom, sorry.
-/
import Derived.Test.YtkmdgdjdkkmjcaaChecked
import GoSem.Claim
import GoSem.ClaimJoined
import GoSem.ClaimMapViews
import Derived.JoinedTies
import Derived.KernelRfl
namespace Go.Proofs.Ytkmdgdjdkkmjcaa
/- THE CELL 'sum', in the pinned program and in every row, IS THE sha256 OF THE DUMP (.gsa) THAT YtkmdgdjdkkmjcaaProg.lean LOADS. Nothing in Lean hashes anything: it is a label: what it is worth is what the hold of that sum in a sandbox is worth. -/
noncomputable def Try.pinned : Pinned := { name := "ytkmdgdjdkkmjcaa", sum := "14be50367c2ffe5530c0b5b7ccadab188f63e7713db9b30c31273e15260a06dc", checked := Try.checked }
namespace Rows
def none {H : Type} : Left H := { results := [], args := [] }

/-- 'athanorlaw02.NumsTwo': WHATEVER THE INPUT: true; the input reads as it did. -/
def numsTwoSpec : ChangeSpec := { name := "numsTwo", fn := fun _ => fun
  | [d1, d2, d3] => { results := [.lit (.bool true)], args := [d1, d2, d3] }
  | _ => none }
def numsTwoRow : OpenClaim := { program := "ytkmdgdjdkkmjcaa", sum := "14be50367c2ffe5530c0b5b7ccadab188f63e7713db9b30c31273e15260a06dc", func := "athanor/athanorlaw02.NumsTwo", spec := "numsTwo", inPlace := ["sync/atomic.LoadUint32", "(*internal/sync.Mutex).Lock", "internal/race.Disable", "sync/atomic.CompareAndSwapInt32", "internal/race.Enable", "internal/race.Acquire", "(*internal/sync.Mutex).lockSlow", "internal/sync.runtime_canSpin", "internal/sync.runtime_doSpin", "internal/sync.throw", "internal/sync.runtime_nanotime", "internal/sync.runtime_SemacquireMutex", "sync/atomic.AddInt32", "(*internal/sync.Mutex).Unlock", "internal/race.ReleaseMerge", "(*internal/sync.Mutex).unlockSlow", "internal/sync.fatal", "internal/sync.runtime_Semrelease", "sync/atomic.StoreUint32"], unfollowed := true, recurses := true, apart := false }
def NumsTwoSaid : Prop := numsTwoRow.holds Try.pinned (OpenSpec.ofChange numsTwoSpec)

/-- ITS FALSE NEIGHBOUR: 'it returns false'. Refute it at one input. -/
def numsTwoWrong : ChangeSpec := { name := "numsTwo", fn := fun _ => fun
  | [d1, d2, d3] => { results := [.lit (.bool false)], args := [d1, d2, d3] }
  | _ => none }
def NumsTwoWrongFalsely : Prop := numsTwoRow.holds Try.pinned (OpenSpec.ofChange numsTwoWrong)

/-- 'athanorlaw02.NumsTurns': WHATEVER THE INPUT: true; the input reads as it did. -/
def numsTurnsSpec : ChangeSpec := { name := "numsTurns", fn := fun _ => fun
  | [d1, d2, d3] => { results := [.lit (.bool true)], args := [d1, d2, d3] }
  | _ => none }
def numsTurnsRow : OpenClaim := { program := "ytkmdgdjdkkmjcaa", sum := "14be50367c2ffe5530c0b5b7ccadab188f63e7713db9b30c31273e15260a06dc", func := "athanor/athanorlaw02.NumsTurns", spec := "numsTurns", inPlace := ["sync/atomic.LoadUint32", "(*internal/sync.Mutex).Lock", "internal/race.Disable", "sync/atomic.CompareAndSwapInt32", "internal/race.Enable", "internal/race.Acquire", "(*internal/sync.Mutex).lockSlow", "internal/sync.runtime_canSpin", "internal/sync.runtime_doSpin", "internal/sync.throw", "internal/sync.runtime_nanotime", "internal/sync.runtime_SemacquireMutex", "sync/atomic.AddInt32", "(*internal/sync.Mutex).Unlock", "internal/race.ReleaseMerge", "(*internal/sync.Mutex).unlockSlow", "internal/sync.fatal", "internal/sync.runtime_Semrelease", "sync/atomic.StoreUint32"], unfollowed := true, recurses := true, apart := false }
def NumsTurnsSaid : Prop := numsTurnsRow.holds Try.pinned (OpenSpec.ofChange numsTurnsSpec)

/-- ITS FALSE NEIGHBOUR: 'it returns false'. Refute it at one input. -/
def numsTurnsWrong : ChangeSpec := { name := "numsTurns", fn := fun _ => fun
  | [d1, d2, d3] => { results := [.lit (.bool false)], args := [d1, d2, d3] }
  | _ => none }
def NumsTurnsWrongFalsely : Prop := numsTurnsRow.holds Try.pinned (OpenSpec.ofChange numsTurnsWrong)

/-- 'athanorlaw02.NumsSigned': WHATEVER THE INPUT: true; the input reads as it did. -/
def numsSignedSpec : ChangeSpec := { name := "numsSigned", fn := fun _ => fun
  | [d1, d2, d3] => { results := [.lit (.bool true)], args := [d1, d2, d3] }
  | _ => none }
def numsSignedRow : OpenClaim := { program := "ytkmdgdjdkkmjcaa", sum := "14be50367c2ffe5530c0b5b7ccadab188f63e7713db9b30c31273e15260a06dc", func := "athanor/athanorlaw02.NumsSigned", spec := "numsSigned", inPlace := ["sync/atomic.LoadUint32", "(*internal/sync.Mutex).Lock", "internal/race.Disable", "sync/atomic.CompareAndSwapInt32", "internal/race.Enable", "internal/race.Acquire", "(*internal/sync.Mutex).lockSlow", "internal/sync.runtime_canSpin", "internal/sync.runtime_doSpin", "internal/sync.throw", "internal/sync.runtime_nanotime", "internal/sync.runtime_SemacquireMutex", "sync/atomic.AddInt32", "(*internal/sync.Mutex).Unlock", "internal/race.ReleaseMerge", "(*internal/sync.Mutex).unlockSlow", "internal/sync.fatal", "internal/sync.runtime_Semrelease", "sync/atomic.StoreUint32"], unfollowed := true, recurses := true, apart := false }
def NumsSignedSaid : Prop := numsSignedRow.holds Try.pinned (OpenSpec.ofChange numsSignedSpec)

/-- ITS FALSE NEIGHBOUR: 'it returns false'. Refute it at one input. -/
def numsSignedWrong : ChangeSpec := { name := "numsSigned", fn := fun _ => fun
  | [d1, d2, d3] => { results := [.lit (.bool false)], args := [d1, d2, d3] }
  | _ => none }
def NumsSignedWrongFalsely : Prop := numsSignedRow.holds Try.pinned (OpenSpec.ofChange numsSignedWrong)

/-- 'athanorlaw02.NumsQuotients': WHATEVER THE INPUT: true; the input reads as it did. -/
def numsQuotientsSpec : ChangeSpec := { name := "numsQuotients", fn := fun _ => fun
  | [d] => { results := [.lit (.bool true)], args := [d] }
  | _ => none }
def numsQuotientsRow : OpenClaim := { program := "ytkmdgdjdkkmjcaa", sum := "14be50367c2ffe5530c0b5b7ccadab188f63e7713db9b30c31273e15260a06dc", func := "athanor/athanorlaw02.NumsQuotients", spec := "numsQuotients", inPlace := ["sync/atomic.LoadUint32", "(*internal/sync.Mutex).Lock", "internal/race.Disable", "sync/atomic.CompareAndSwapInt32", "internal/race.Enable", "internal/race.Acquire", "(*internal/sync.Mutex).lockSlow", "internal/sync.runtime_canSpin", "internal/sync.runtime_doSpin", "internal/sync.throw", "internal/sync.runtime_nanotime", "internal/sync.runtime_SemacquireMutex", "sync/atomic.AddInt32", "(*internal/sync.Mutex).Unlock", "internal/race.ReleaseMerge", "(*internal/sync.Mutex).unlockSlow", "internal/sync.fatal", "internal/sync.runtime_Semrelease", "sync/atomic.StoreUint32"], unfollowed := true, recurses := true, apart := false }
def NumsQuotientsSaid : Prop := numsQuotientsRow.holds Try.pinned (OpenSpec.ofChange numsQuotientsSpec)

/-- ITS FALSE NEIGHBOUR: 'it returns false'. Refute it at one input. -/
def numsQuotientsWrong : ChangeSpec := { name := "numsQuotients", fn := fun _ => fun
  | [d] => { results := [.lit (.bool false)], args := [d] }
  | _ => none }
def NumsQuotientsWrongFalsely : Prop := numsQuotientsRow.holds Try.pinned (OpenSpec.ofChange numsQuotientsWrong)

/-- 'athanorlaw02.NumsSigs': WHATEVER THE INPUT: true; the input reads as it did. -/
def numsSigsSpec : ChangeSpec := { name := "numsSigs", fn := fun _ => fun
  | [d] => { results := [.lit (.bool true)], args := [d] }
  | _ => none }
def numsSigsRow : OpenClaim := { program := "ytkmdgdjdkkmjcaa", sum := "14be50367c2ffe5530c0b5b7ccadab188f63e7713db9b30c31273e15260a06dc", func := "athanor/athanorlaw02.NumsSigs", spec := "numsSigs", inPlace := ["sync/atomic.LoadUint32", "(*internal/sync.Mutex).Lock", "internal/race.Disable", "sync/atomic.CompareAndSwapInt32", "internal/race.Enable", "internal/race.Acquire", "(*internal/sync.Mutex).lockSlow", "internal/sync.runtime_canSpin", "internal/sync.runtime_doSpin", "internal/sync.throw", "internal/sync.runtime_nanotime", "internal/sync.runtime_SemacquireMutex", "sync/atomic.AddInt32", "(*internal/sync.Mutex).Unlock", "internal/race.ReleaseMerge", "(*internal/sync.Mutex).unlockSlow", "internal/sync.fatal", "internal/sync.runtime_Semrelease", "sync/atomic.StoreUint32"], unfollowed := true, recurses := true, apart := false }
def NumsSigsSaid : Prop := numsSigsRow.holds Try.pinned (OpenSpec.ofChange numsSigsSpec)

/-- ITS FALSE NEIGHBOUR: 'it returns false'. Refute it at one input. -/
def numsSigsWrong : ChangeSpec := { name := "numsSigs", fn := fun _ => fun
  | [d] => { results := [.lit (.bool false)], args := [d] }
  | _ => none }
def NumsSigsWrongFalsely : Prop := numsSigsRow.holds Try.pinned (OpenSpec.ofChange numsSigsWrong)

/- THE SECOND FORM. 'bulk': how many values and letters a reading holds, each counted each time it is reached (what is shared counts as often as it is met; a slice's spare places count too). A statement '..UptoSaid' is the law's where the arguments, and the package variables that the reading takes, are together of bulk at most 1048576: NARROWER than '..Said'. Prove '..Said' where nothing that the law and all that it calls make is longer than what came in: it says more and counts as full. Else prove '..UptoSaid'. A law counts once. -/
mutual
def uptoBulk {H : Type} : DataW H → Nat
  | .lit (.string bytes) => bytes.length + 1
  | .lit _ => 1
  | .nil => 1
  | .ptr d => uptoBulk d + 1
  | .slice elems spare => uptoBulkAll elems + uptoBulkAll spare + 1
  | .agg parts => uptoBulkAll parts + 1
  | .iface _ d => uptoBulk d + 1
  | .map entries => uptoBulkEntries entries + 1
  | .held _ => 1
def uptoBulkAll {H : Type} : List (DataW H) → Nat
  | [] => 0
  | d :: r => uptoBulk d + uptoBulkAll r
def uptoBulkEntries {H : Type} : List (Lit × DataW H) → Nat
  | [] => 0
  | x :: r => uptoBulkEntry x + uptoBulkEntries r
def uptoBulkEntry {H : Type} : Lit × DataW H → Nat
  | (.string bytes, d) => bytes.length + uptoBulk d + 1
  | (_, d) => uptoBulk d + 1
 end
def uptoSmall : (H : Type) → List (DataW H) → Bool := fun _ ds => decide (uptoBulkAll ds ≤ 1048576)
def OpenSpec.upto (s : _root_.Go.ChangeSpec) : _root_.Go.OpenSpec := { _root_.Go.OpenSpec.ofChange s with cond := some uptoSmall }

/-- 'athanorlaw02.NumsTwo', WHERE WHAT IT READS IS OF BULK AT MOST 1048576: true; the input reads as it did. -/
def numsTwoUptoRow : OpenClaim := { program := "ytkmdgdjdkkmjcaa", sum := "14be50367c2ffe5530c0b5b7ccadab188f63e7713db9b30c31273e15260a06dc", func := "athanor/athanorlaw02.NumsTwo", spec := "numsTwo", inPlace := ["sync/atomic.LoadUint32", "(*internal/sync.Mutex).Lock", "internal/race.Disable", "sync/atomic.CompareAndSwapInt32", "internal/race.Enable", "internal/race.Acquire", "(*internal/sync.Mutex).lockSlow", "internal/sync.runtime_canSpin", "internal/sync.runtime_doSpin", "internal/sync.throw", "internal/sync.runtime_nanotime", "internal/sync.runtime_SemacquireMutex", "sync/atomic.AddInt32", "(*internal/sync.Mutex).Unlock", "internal/race.ReleaseMerge", "(*internal/sync.Mutex).unlockSlow", "internal/sync.fatal", "internal/sync.runtime_Semrelease", "sync/atomic.StoreUint32"], unfollowed := true, recurses := true, apart := false, narrowed := true }
def NumsTwoUptoSaid : Prop := numsTwoUptoRow.holds Try.pinned (OpenSpec.upto numsTwoSpec)

/-- 'athanorlaw02.NumsTurns', WHERE WHAT IT READS IS OF BULK AT MOST 1048576: true; the input reads as it did. -/
def numsTurnsUptoRow : OpenClaim := { program := "ytkmdgdjdkkmjcaa", sum := "14be50367c2ffe5530c0b5b7ccadab188f63e7713db9b30c31273e15260a06dc", func := "athanor/athanorlaw02.NumsTurns", spec := "numsTurns", inPlace := ["sync/atomic.LoadUint32", "(*internal/sync.Mutex).Lock", "internal/race.Disable", "sync/atomic.CompareAndSwapInt32", "internal/race.Enable", "internal/race.Acquire", "(*internal/sync.Mutex).lockSlow", "internal/sync.runtime_canSpin", "internal/sync.runtime_doSpin", "internal/sync.throw", "internal/sync.runtime_nanotime", "internal/sync.runtime_SemacquireMutex", "sync/atomic.AddInt32", "(*internal/sync.Mutex).Unlock", "internal/race.ReleaseMerge", "(*internal/sync.Mutex).unlockSlow", "internal/sync.fatal", "internal/sync.runtime_Semrelease", "sync/atomic.StoreUint32"], unfollowed := true, recurses := true, apart := false, narrowed := true }
def NumsTurnsUptoSaid : Prop := numsTurnsUptoRow.holds Try.pinned (OpenSpec.upto numsTurnsSpec)

/-- 'athanorlaw02.NumsSigned', WHERE WHAT IT READS IS OF BULK AT MOST 1048576: true; the input reads as it did. -/
def numsSignedUptoRow : OpenClaim := { program := "ytkmdgdjdkkmjcaa", sum := "14be50367c2ffe5530c0b5b7ccadab188f63e7713db9b30c31273e15260a06dc", func := "athanor/athanorlaw02.NumsSigned", spec := "numsSigned", inPlace := ["sync/atomic.LoadUint32", "(*internal/sync.Mutex).Lock", "internal/race.Disable", "sync/atomic.CompareAndSwapInt32", "internal/race.Enable", "internal/race.Acquire", "(*internal/sync.Mutex).lockSlow", "internal/sync.runtime_canSpin", "internal/sync.runtime_doSpin", "internal/sync.throw", "internal/sync.runtime_nanotime", "internal/sync.runtime_SemacquireMutex", "sync/atomic.AddInt32", "(*internal/sync.Mutex).Unlock", "internal/race.ReleaseMerge", "(*internal/sync.Mutex).unlockSlow", "internal/sync.fatal", "internal/sync.runtime_Semrelease", "sync/atomic.StoreUint32"], unfollowed := true, recurses := true, apart := false, narrowed := true }
def NumsSignedUptoSaid : Prop := numsSignedUptoRow.holds Try.pinned (OpenSpec.upto numsSignedSpec)

/-- 'athanorlaw02.NumsQuotients', WHERE WHAT IT READS IS OF BULK AT MOST 1048576: true; the input reads as it did. -/
def numsQuotientsUptoRow : OpenClaim := { program := "ytkmdgdjdkkmjcaa", sum := "14be50367c2ffe5530c0b5b7ccadab188f63e7713db9b30c31273e15260a06dc", func := "athanor/athanorlaw02.NumsQuotients", spec := "numsQuotients", inPlace := ["sync/atomic.LoadUint32", "(*internal/sync.Mutex).Lock", "internal/race.Disable", "sync/atomic.CompareAndSwapInt32", "internal/race.Enable", "internal/race.Acquire", "(*internal/sync.Mutex).lockSlow", "internal/sync.runtime_canSpin", "internal/sync.runtime_doSpin", "internal/sync.throw", "internal/sync.runtime_nanotime", "internal/sync.runtime_SemacquireMutex", "sync/atomic.AddInt32", "(*internal/sync.Mutex).Unlock", "internal/race.ReleaseMerge", "(*internal/sync.Mutex).unlockSlow", "internal/sync.fatal", "internal/sync.runtime_Semrelease", "sync/atomic.StoreUint32"], unfollowed := true, recurses := true, apart := false, narrowed := true }
def NumsQuotientsUptoSaid : Prop := numsQuotientsUptoRow.holds Try.pinned (OpenSpec.upto numsQuotientsSpec)

/-- 'athanorlaw02.NumsSigs', WHERE WHAT IT READS IS OF BULK AT MOST 1048576: true; the input reads as it did. -/
def numsSigsUptoRow : OpenClaim := { program := "ytkmdgdjdkkmjcaa", sum := "14be50367c2ffe5530c0b5b7ccadab188f63e7713db9b30c31273e15260a06dc", func := "athanor/athanorlaw02.NumsSigs", spec := "numsSigs", inPlace := ["sync/atomic.LoadUint32", "(*internal/sync.Mutex).Lock", "internal/race.Disable", "sync/atomic.CompareAndSwapInt32", "internal/race.Enable", "internal/race.Acquire", "(*internal/sync.Mutex).lockSlow", "internal/sync.runtime_canSpin", "internal/sync.runtime_doSpin", "internal/sync.throw", "internal/sync.runtime_nanotime", "internal/sync.runtime_SemacquireMutex", "sync/atomic.AddInt32", "(*internal/sync.Mutex).Unlock", "internal/race.ReleaseMerge", "(*internal/sync.Mutex).unlockSlow", "internal/sync.fatal", "internal/sync.runtime_Semrelease", "sync/atomic.StoreUint32"], unfollowed := true, recurses := true, apart := false, narrowed := true }
def NumsSigsUptoSaid : Prop := numsSigsUptoRow.holds Try.pinned (OpenSpec.upto numsSigsSpec)

end Rows
end Go.Proofs.Ytkmdgdjdkkmjcaa
