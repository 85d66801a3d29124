/- The words in which the contracts of package memory and of its reference speak. -/
import Derived.Test.YtfnicijfhpfohaaRows
import Derived.Test.YtfnicijfhpfohaaP
import Derived.WalkKit
import Derived.ProofKit
import Derived.OpenShut
import Derived.Below
import Derived.Deep.QuietTactic
import Derived.BigQuiet
import Derived.Outline
namespace Go.Proofs.Ytfnicijfhpfohaa
open Go.RowKit

def isSized (n : Int) : Bool := n == 1 || n == 2 || n == 4 || n == 8

/-- Pages of zeros. -/
def zeros (n : Nat) : List Nat := List.replicate (n * 65536) 0
theorem zeros_length (n : Nat) : (zeros n).length = n * 65536 := List.length_replicate ..

def u8v (x : Nat) : Value := .int .u8 (x : Int)

theorem quietSame {P : Program} {f : FuncId} {args : Array Value} {w : World} {n : Nat} {v : Value}
    (h : Calls P f args (w.drewN n) fun e w' => e = .returned v ∧ w.drewN n = w') : Calls P f args (w.drewN n) fun e w'' => e = .returned v ∧ ∃ m, w'' = w.drewN m :=
  h.mono fun _ _ ⟨he, hm⟩ => ⟨he, n, hm.symm⟩

/-- A row of bytes that begins at the head of block q. -/
structure RowB (w : World) (q cap : Nat) (l : List Nat) : Prop where
  own : w.ownsRow 0 5 1 (.slice (some ⟨q, 0, none⟩) l.length cap) l.length (l.map u8v)
  byte : ∀ x ∈ l, x < 256
  small : l.length ≤ 2097152

/-- Nothing but some blocks has changed, and there are new ones. -/
structure Chg (w w' : World) (ps : List Nat) : Prop where
  os : w'.os = w.os
  tape : w'.tape = w.tape
  output : w'.output = w.output
  size : w.heap.size ≤ w'.heap.size
  block : ∀ k, k < w.heap.size → k ∉ ps → w'.heap[k]? = w.heap[k]?

theorem Chg.refl (w : World) (ps : List Nat) : Chg w w ps := ⟨rfl, rfl, rfl, Nat.le_refl _, fun _ _ _ => rfl⟩
theorem Chg.trans {a b c : World} {ps : List Nat} (h : Chg a b ps) (k : Chg b c ps) : Chg a c ps :=
  ⟨k.os.trans h.os, k.tape.trans h.tape, k.output.trans h.output, Nat.le_trans h.size k.size, fun i hi hn => (k.block i (by have := h.size; omega) hn).trans (h.block i hi hn)⟩
theorem Chg.mono {a b : World} {ps qs : List Nat} (h : Chg a b ps) (hs : ∀ x ∈ ps, x < a.heap.size → x ∈ qs) : Chg a b qs :=
  ⟨h.os, h.tape, h.output, h.size, fun i hi hn => h.block i hi (fun hp => hn (hs i hp hi))⟩
theorem Chg.drew {a b : World} {ps : List Nat} (h : Chg a b ps) : Chg a b.drew ps := ⟨h.os, h.tape, h.output, h.size, h.block⟩
theorem Chg.drewN {a b : World} {ps : List Nat} (h : Chg a b ps) (n : Nat) : Chg a (b.drewN n) ps := ⟨h.os, h.tape, h.output, h.size, h.block⟩
theorem Chg.alloc {a b : World} {ps : List Nat} (h : Chg a b ps) (o : Obj) : Chg a (b.alloc o) ps :=
  h.trans ⟨rfl, rfl, rfl, by simp, fun k hk _ => Below.heap_alloc _ _ _ hk⟩
theorem Chg.setCell {a b : World} {ps : List Nat} (h : Chg a b ps) (p : Addr) (u : Value) (hp : p.block < a.heap.size → p.block ∈ ps) : Chg a (b.setCell p u) ps :=
  ⟨h.os, h.tape, h.output, by have := h.size; simpa [World.setCell] using this, fun k hk hn => by
    rw [Below.heap_setCell _ _ _ _ (fun e => hn (by rw [e]; exact hp (by omega)))]; exact h.block k hk hn⟩
theorem Chg.grown {a b c : World} {ps : List Nat} {row : Option Nat} (h : Chg a b ps) (hg : b.grownBy c row) (hr : ∀ k, row = some k → k < a.heap.size → k ∈ ps) : Chg a c ps :=
  ⟨hg.os.trans h.os, hg.tape.trans h.tape, hg.output.trans h.output, Nat.le_trans h.size hg.size, fun k hk hn =>
    (hg.block k (by have := h.size; omega) (fun e => hn (hr k e.symm hk))).trans (h.block k hk hn)⟩
theorem Chg.below {a b : World} {ps : List Nat} {B : Nat} (h : Chg a b ps) (hB : B ≤ a.heap.size) (hp : ∀ x ∈ ps, B ≤ x) : Below B a b :=
  ⟨h.os, h.tape, h.output, h.size, fun k hk => h.block k (by omega) (fun hm => by have := hp k hm; omega)⟩

/-- Two changes, both of blocks that are new. -/
theorem Chg.comp {a b c : World} {ps qs : List Nat} (h : Chg a b ps) (k : Chg b c qs) (hp : ∀ x ∈ ps, a.heap.size ≤ x) (hq : ∀ x ∈ qs, a.heap.size ≤ x) : Chg a c [] := by
  have s1 := h.size
  have s2 := k.size
  refine ⟨k.os.trans h.os, k.tape.trans h.tape, k.output.trans h.output, by omega, fun i hi _ => ?_⟩
  rw [k.block i (by omega) (fun hm => by have := hq i hm; omega), h.block i hi (fun hm => by have := hp i hm; omega)]

theorem RowB.lt {w : World} {q cap : Nat} {l : List Nat} (h : RowB w q cap l) : q < w.heap.size := (h.own.lt q rfl).2
theorem RowB.cap {w : World} {q cap : Nat} {l : List Nat} (h : RowB w q cap l) : l.length ≤ cap := by
  rcases h.own.2 with ⟨h', _⟩ | ⟨g', cap', cur, h', _, _, hnc, _⟩
  · simp at h'
  · simp only [Value.slice.injEq, Option.some.injEq, Addr.mk.injEq, and_true, true_and] at h'
    obtain ⟨_, rfl⟩ := h'
    exact hnc
theorem RowB.maxLen {w : World} {q cap : Nat} {l : List Nat} (h : RowB w q cap l) : cap ≤ maxLen := by
  rcases h.own.2 with ⟨h', _⟩ | ⟨g', cap', cur, h', _, _, _, hm, _⟩
  · simp at h'
  · simp only [Value.slice.injEq, Option.some.injEq, Addr.mk.injEq, and_true, true_and] at h'
    obtain ⟨_, rfl⟩ := h'
    exact hm
theorem RowB.cell {w : World} {q cap : Nat} {l : List Nat} (h : RowB w q cap l) (i : Nat) (hi : i < l.length) : w.cell? ⟨q, i, none⟩ = some (.int .u8 (l.getD i 0 : Nat)) := by
  rw [h.own.cellAt i (by omega), List.getElem?_map, List.getElem?_eq_getElem hi]
  simp [u8v, List.getD_eq_getElem?_getD, List.getElem?_eq_getElem hi]
theorem RowB.frozen {w : World} {q cap : Nat} {l : List Nat} (h : RowB w q cap l) (i : Nat) : w.frozen? ⟨q, i, none⟩ = false := h.own.frozenAt i
theorem RowB.kept {w w' : World} {q cap : Nat} {l : List Nat} {ps : List Nat} (h : RowB w q cap l) (hc : Chg w w' ps) (hn : q ∉ ps) : RowB w' q cap l := by
  refine ⟨⟨h.own.1, ?_⟩, h.byte, h.small⟩
  rcases h.own.2 with h' | ⟨g, cap', cur, h', hb, hg, rest⟩
  · exact .inl h'
  · refine .inr ⟨g, cap', cur, h', hb, ?_, rest⟩
    simp only [Value.slice.injEq, Option.some.injEq, Addr.mk.injEq, and_true, true_and] at h'
    obtain ⟨rfl, _⟩ := h'
    rw [hc.block _ h.lt hn]
    exact hg
theorem RowB.drewN {w : World} {q cap : Nat} {l : List Nat} (h : RowB w q cap l) (n : Nat) : RowB (w.drewN n) q cap l := ⟨h.own, h.byte, h.small⟩
theorem RowB.drew {w : World} {q cap : Nat} {l : List Nat} (h : RowB w q cap l) : RowB w.drew q cap l := ⟨h.own, h.byte, h.small⟩
theorem RowB.stored {w : World} {q cap : Nat} {l : List Nat} (h : RowB w q cap l) (i b : Nat) (hb : b < 256) :
    RowB (w.setCell ⟨q, i, none⟩ (.int .u8 (b : Int))) q cap (l.set i b) := by
  refine ⟨?_, ?_, by simpa using h.small⟩
  · have := (h.own.stored i (u8v b)).1
    rw [List.length_set, List.map_set]
    exact this
  · intro x hx
    rcases List.mem_or_eq_of_mem_set hx with hx | rfl
    · exact h.byte x hx
    · exact hb
/-- A memory of the program: its struct lies in block p, its bytes in block q; pg pages, at most most. -/
structure MemAt (w : World) (p q cap : Nat) (l : List Nat) (pg most : Nat) : Prop where
  head : w.heap[p]? = some (.cells #[.slice (some ⟨q, 0, none⟩) l.length cap, .int .i64 (pg : Int), .int .i64 (most : Int)] 61 (0, 0))
  row : RowB w q cap l
  pq : p ≠ q
  pages : l.length = pg * 65536
  most_le : most ≤ 32
  pg_le : pg ≤ most

theorem cell_of_head {w : World} {p : Nat} {cs : Array Value} {t : TypeId} (h : w.heap[p]? = some (.cells cs t (0, 0))) (i : Nat) : w.cell? ⟨p, i, none⟩ = cs[i]? := by
  simp [World.cell?, h]
theorem frozen_of_head {w : World} {p : Nat} {cs : Array Value} {t : TypeId} (h : w.heap[p]? = some (.cells cs t (0, 0))) (i : Nat) : w.frozen? ⟨p, i, none⟩ = false := by
  simp [World.frozen?, h]

theorem MemAt.slice {w : World} {p q cap : Nat} {l : List Nat} {pg most : Nat} (h : MemAt w p q cap l pg most) : w.cell? ⟨p, 0, none⟩ = some (.slice (some ⟨q, 0, none⟩) l.length cap) := cell_of_head h.head 0
theorem MemAt.pageCell {w : World} {p q cap : Nat} {l : List Nat} {pg most : Nat} (h : MemAt w p q cap l pg most) : w.cell? ⟨p, 1, none⟩ = some (.int .i64 (pg : Int)) := cell_of_head h.head 1
theorem MemAt.mostCell {w : World} {p q cap : Nat} {l : List Nat} {pg most : Nat} (h : MemAt w p q cap l pg most) : w.cell? ⟨p, 2, none⟩ = some (.int .i64 (most : Int)) := cell_of_head h.head 2
theorem MemAt.lt {w : World} {p q cap : Nat} {l : List Nat} {pg most : Nat} (h : MemAt w p q cap l pg most) : p < w.heap.size := (Array.getElem?_eq_some_iff.1 h.head).1
theorem MemAt.kept {w w' : World} {p q cap : Nat} {l : List Nat} {pg most : Nat} {ps : List Nat} (h : MemAt w p q cap l pg most) (hc : Chg w w' ps) (hp : p ∉ ps) (hq : q ∉ ps) : MemAt w' p q cap l pg most :=
  ⟨by rw [hc.block _ h.lt hp]; exact h.head, h.row.kept hc hq, h.pq, h.pages, h.most_le, h.pg_le⟩
theorem MemAt.drewN {w : World} {p q cap : Nat} {l : List Nat} {pg most : Nat} (h : MemAt w p q cap l pg most) (n : Nat) : MemAt (w.drewN n) p q cap l pg most :=
  ⟨h.head, h.row.drewN n, h.pq, h.pages, h.most_le, h.pg_le⟩
end Go.Proofs.Ytfnicijfhpfohaa
