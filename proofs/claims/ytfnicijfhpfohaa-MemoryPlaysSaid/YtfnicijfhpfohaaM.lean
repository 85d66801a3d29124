/- A memory and its reference, alike, beside each other. -/
import Derived.Test.YtfnicijfhpfohaaN
import Derived.Test.YtfnicijfhpfohaaG
import Derived.Test.YtfnicijfhpfohaaU
import Derived.Test.YtfnicijfhpfohaaF
namespace Go.Proofs.Ytfnicijfhpfohaa
open Go.RowKit
set_option linter.unusedVariables false

theorem RMemAt.alloc {w : World} {p q cap : Nat} {l : List Nat} {pg most : Nat} (h : RMemAt w p q cap l pg most) (o : Obj) : RMemAt (w.alloc o) p q cap l pg most := h.kept ((Chg.refl w []).alloc o) (by simp) (by simp)
theorem MemAt.alloc {w : World} {p q cap : Nat} {l : List Nat} {pg most : Nat} (h : MemAt w p q cap l pg most) (o : Obj) : MemAt (w.alloc o) p q cap l pg most := h.kept ((Chg.refl w []).alloc o) (by simp) (by simp)

structure TwinAt (w : World) (B p q cap p' q' cap' : Nat) (l : List Nat) (pg most : Nat) : Prop where
  m : MemAt w p q cap l pg most
  r : RMemAt w p' q' cap' l pg most
  d1 : p ≠ p'
  d2 : p ≠ q'
  d3 : q ≠ p'
  d4 : q ≠ q'
  b1 : B ≤ p
  b2 : B ≤ q
  b3 : B ≤ p'
  b4 : B ≤ q'

theorem TwinAt.lt {w : World} {B p q cap p' q' cap' : Nat} {l : List Nat} {pg most : Nat} (h : TwinAt w B p q cap p' q' cap' l pg most) : p < w.heap.size ∧ q < w.heap.size ∧ p' < w.heap.size ∧ q' < w.heap.size := ⟨h.m.lt, h.m.row.lt, h.r.lt, h.r.row.lt⟩
theorem TwinAt.size {w : World} {B p q cap p' q' cap' : Nat} {l : List Nat} {pg most : Nat} (h : TwinAt w B p q cap p' q' cap' l pg most) : B ≤ w.heap.size := by
  have := h.lt
  have := h.b1
  omega
theorem TwinAt.kept {w w' : World} {B p q cap p' q' cap' : Nat} {l : List Nat} {pg most : Nat} {ps : List Nat} (h : TwinAt w B p q cap p' q' cap' l pg most) (hc : Chg w w' ps) (hn : ∀ x ∈ ps, w.heap.size ≤ x) : TwinAt w' B p q cap p' q' cap' l pg most := by
  have hl := h.lt
  have f : ∀ k, k < w.heap.size → k ∉ ps := fun k hk hm => by have := hn k hm; omega
  exact ⟨h.m.kept hc (f _ hl.1) (f _ hl.2.1), h.r.kept hc (f _ hl.2.2.1) (f _ hl.2.2.2), h.d1, h.d2, h.d3, h.d4, h.b1, h.b2, h.b3, h.b4⟩
theorem TwinAt.alloc {w : World} {B p q cap p' q' cap' : Nat} {l : List Nat} {pg most : Nat} (h : TwinAt w B p q cap p' q' cap' l pg most) (o : Obj) : TwinAt (w.alloc o) B p q cap p' q' cap' l pg most := h.kept ((Chg.refl w []).alloc o) (by simp)
theorem TwinAt.drewN {w : World} {B p q cap p' q' cap' : Nat} {l : List Nat} {pg most : Nat} (h : TwinAt w B p q cap p' q' cap' l pg most) (n : Nat) : TwinAt (w.drewN n) B p q cap p' q' cap' l pg most := h.kept ((Chg.refl w []).drewN n) (by simp)

theorem Chg.cell {a b : World} {ps : List Nat} (h : Chg a b ps) {k i : Nat} {v : Value} (hk : a.cell? ⟨k, i, none⟩ = some v) (hn : k ∉ ps) : b.cell? ⟨k, i, none⟩ = some v := by
  have hl := World.block_lt_of_cell? _ _ hk
  have e := h.block k hl hn
  unfold World.cell? at hk ⊢
  rw [e]
  exact hk

/-- Where both may be written, nothing below B is. -/
def Ends (w w' : World) (B p p' most : Nat) (l' : List Nat) (pg' : Nat) : Prop := ∃ q cap q' cap', TwinAt w' B p q cap p' q' cap' l' pg' most ∧ Below B w w'

theorem Chg.belowB {a b : World} {ps : List Nat} {B : Nat} (h : Chg a b ps) (hB : B ≤ a.heap.size) (hp : ∀ x ∈ ps, B ≤ x) : Below B a b := h.below hB hp

theorem grown_gr {w w1 w2 : World} {B p q cap p' q' cap' : Nat} {l l' : List Nat} {pg pg' most q2 cap2 q2' cap2' n : Nat} (h : TwinAt w B p q cap p' q' cap' l pg most)
    (g : Grown1 w w1 p q l' pg' most q2 cap2) (r : RGrown1 (w1.drewN n) w2 p' q' l' pg' most q2' cap2') : Ends w w2 B p p' most l' pg' := by
  have hl := h.lt
  have hs := h.size
  have s1 := g.chg.size
  have b1 := h.b1
  have b2 := h.b2
  have b3 := h.b3
  have b4 := h.b4
  have d1 := h.d1
  have d2 := h.d2
  have d3 := h.d3
  have d4 := h.d4
  have gn := g.new
  have rn := r.new
  have gl := g.mem.row.lt
  have e : (w1.drewN n).heap.size = w1.heap.size := rfl
  rw [e] at rn
  have rl := r.mem.row.lt
  refine ⟨q2, cap2, q2', cap2', ⟨(g.mem.drewN n).kept r.chg (by simp; omega) (by simp; omega), r.mem, h.d1, by omega, by omega, by omega, h.b1, by omega, h.b3, by omega⟩, ?_⟩
  refine (g.chg.below hs (by intro x hx; simp at hx; omega)).trans ?_
  have := (r.chg.below (B := B) (by show B ≤ w1.heap.size; omega) (by intro x hx; simp at hx; omega))
  exact ⟨this.os, this.tape, this.output, this.size, this.block⟩
theorem grown_rg {w w1 w2 : World} {B p q cap p' q' cap' : Nat} {l l' : List Nat} {pg pg' most q2 cap2 q2' cap2' n : Nat} (h : TwinAt w B p q cap p' q' cap' l pg most)
    (r : RGrown1 w w1 p' q' l' pg' most q2' cap2') (g : Grown1 (w1.drewN n) w2 p q l' pg' most q2 cap2) : Ends w w2 B p p' most l' pg' := by
  have hl := h.lt
  have hs := h.size
  have s1 := r.chg.size
  have b1 := h.b1
  have b2 := h.b2
  have b3 := h.b3
  have b4 := h.b4
  have d1 := h.d1
  have d2 := h.d2
  have d3 := h.d3
  have d4 := h.d4
  have gn := g.new
  have rn := r.new
  have rl := r.mem.row.lt
  have e : (w1.drewN n).heap.size = w1.heap.size := rfl
  rw [e] at gn
  have gl := g.mem.row.lt
  refine ⟨q2, cap2, q2', cap2', ⟨g.mem, (r.mem.drewN n).kept g.chg (by simp; omega) (by simp; omega), h.d1, by omega, by omega, by omega, h.b1, by omega, h.b3, by omega⟩, ?_⟩
  refine (r.chg.below hs (by intro x hx; simp at hx; omega)).trans ?_
  have := (g.chg.below (B := B) (by show B ≤ w1.heap.size; omega) (by intro x hx; simp at hx; omega))
  exact ⟨this.os, this.tape, this.output, this.size, this.block⟩
end Go.Proofs.Ytfnicijfhpfohaa
