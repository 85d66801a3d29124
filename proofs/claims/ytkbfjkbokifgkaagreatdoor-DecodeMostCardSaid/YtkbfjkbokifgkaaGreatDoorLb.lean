/- leb.groups: its closure. -/
import Derived.Laws.BitsAllLaws
import Derived.Test.YtkbfjkbokifgkaaGreatDoorGa
import Derived.StillTailTactics
namespace Go.Proofs.YtkbfjkbokifgkaaGreatDoor
open Go.RowKit
set_option linter.unusedVariables false
set_option linter.unusedSimpArgs false

/-- What groups and its closure share: bytes, a place, a number, how many groups, the last one, how many at most. -/
structure GrpAt (w : World) (g : Nat) (s : ByteArray) (a : Int) (n many last most : Int) : Prop where
  b0 : w.heap[g]? = some (.cells #[.string s] 9 (0, 0))
  b1 : w.heap[g + 1]? = some (.cells #[.int .i64 a] 3 (0, 0))
  b2 : w.heap[g + 2]? = some (.cells #[.int .u64 n] 49 (0, 0))
  b3 : w.heap[g + 3]? = some (.cells #[.int .i64 many] 3 (0, 0))
  b4 : w.heap[g + 4]? = some (.cells #[.int .u8 last] 5 (0, 0))
  b5 : w.heap[g + 5]? = some (.cells #[.int .i64 most] 3 (0, 0))
theorem cell0 {w : World} {g : Nat} {v : Value} {t : TypeId} (h : w.heap[g]? = some (.cells #[v] t (0, 0))) : w.cell? ⟨g, 0, none⟩ = some v := by
  rw [cell_of_row w g 0 _ _ _ h]
  rfl
theorem free0 {w : World} {g : Nat} {v : Value} {t : TypeId} (h : w.heap[g]? = some (.cells #[v] t (0, 0))) : w.frozen? ⟨g, 0, none⟩ = false := frozen_of_row w g 0 _ _ h
theorem set0 {w : World} {g : Nat} {v u : Value} {t : TypeId} (h : w.heap[g]? = some (.cells #[v] t (0, 0))) : (w.setCell ⟨g, 0, none⟩ u).heap[g]? = some (.cells #[u] t (0, 0)) := by
  rw [heap_setCell_same w g 0 _ _ _ h]
  rfl
theorem far0 {w : World} {g k : Nat} {u : Value} (hk : k ≠ g) : (w.setCell ⟨g, 0, none⟩ u).heap[k]? = w.heap[k]? := Below.heap_setCell _ _ _ _ hk
/-- What changes these six blocks alone. -/
structure GTr (g : Nat) (w w' : World) : Prop where
  os : w'.os = w.os
  tape : w'.tape = w.tape
  output : w'.output = w.output
  size : w.heap.size ≤ w'.heap.size
  block : ∀ k, k < w.heap.size → k < g ∨ g + 5 < k → w'.heap[k]? = w.heap[k]?
theorem GTr.refl (g : Nat) (w : World) : GTr g w w := ⟨rfl, rfl, rfl, Nat.le_refl _, fun _ _ _ => rfl⟩
theorem GTr.trans {g : Nat} {a b c : World} (h : GTr g a b) (k : GTr g b c) : GTr g a c :=
  ⟨k.os.trans h.os, k.tape.trans h.tape, k.output.trans h.output, Nat.le_trans h.size k.size, fun i hi hg => (k.block i (Nat.lt_of_lt_of_le hi h.size) hg).trans (h.block i hi hg)⟩
theorem GTr.drew {g : Nat} {a b : World} (h : GTr g a b) : GTr g a b.drew := ⟨h.os, h.tape, h.output, h.size, h.block⟩
theorem GTr.set {g : Nat} {a b : World} (h : GTr g a b) {j : Nat} (h1 : g ≤ j) (h2 : j ≤ g + 5) (u : Value) : GTr g a (b.setCell ⟨j, 0, none⟩ u) :=
  ⟨h.os, h.tape, h.output, by have := h.size; simpa [World.setCell] using this, fun k hk hg => (Below.heap_setCell _ _ _ _ (show k ≠ j by omega)).trans (h.block k hk hg)⟩
theorem wid64 (n : Int) (h0 : 0 ≤ n) (h1 : n < 9223372036854775808) : IntKind.i64.wrap n = n := by
  simp [IntKind.wrap, IntKind.bits, IntKind.signed]
  omega
def nextArgs (g : Nat) : Array Value := #[.pointer (some ⟨g + 1, 0, none⟩), .pointer (some ⟨g, 0, none⟩), .pointer (some ⟨g + 3, 0, none⟩), .pointer (some ⟨g + 5, 0, none⟩), .pointer (some ⟨g + 4, 0, none⟩), .pointer (some ⟨g + 2, 0, none⟩)]
set_option maxRecDepth 100000 in
theorem next_end {w : World} {g : Nat} {s : ByteArray} {a n many last most : Int} (h : GrpAt w g s a n many last most) (hs : s.size ≤ 262144) (he : (s.size : Int) ≤ a ∨ many = most) :
    Calls Tryz.prog 196 #[.pointer (some ⟨g + 1, 0, none⟩), .pointer (some ⟨g, 0, none⟩), .pointer (some ⟨g + 3, 0, none⟩), .pointer (some ⟨g + 5, 0, none⟩), .pointer (some ⟨g + 4, 0, none⟩), .pointer (some ⟨g + 2, 0, none⟩)] w fun e w' => e = .returned (.bool false) ∧ w = w' := by
  have c0 := cell0 h.b0
  have c1 := cell0 h.b1
  have c3 := cell0 h.b3
  have c5 := cell0 h.b5
  by_cases h1 : (s.size : Int) ≤ a
  · go_enter Tryz.func196, Tryz.ntmps196
    go_wp2
    go_ret
    exact ⟨rfl, rfl⟩
  · have h2 : many = most := he.resolve_left h1
    subst h2
    go_enter Tryz.func196, Tryz.ntmps196
    go_wp2
    go_ret
    exact ⟨rfl, rfl⟩
set_option maxRecDepth 100000 in
theorem next_more {w : World} {g : Nat} {s : ByteArray} {k : Nat} {n many last most : Int} (h : GrpAt w g s (k : Int) n many last most) (hs : s.size ≤ 262144) (hk : k < s.size) (hm : ¬ many = most) (hm0 : 0 ≤ many) (hm1 : many ≤ 9)
    {q m7 n2 : Int} (hA : bits BinOp.and .u8 (s[k].toNat : Int) 127 = q) (hB : IntKind.u64.wrap q = q) (hC : IntKind.i64.wrap (7 * many) = m7) (h70 : 0 ≤ m7) (h71 : m7 ≤ 64) (hD : bits BinOp.or .u64 n (IntKind.u64.wrap (q * 2 ^ m7.toNat)) = n2) :
    Calls Tryz.prog 196 #[.pointer (some ⟨g + 1, 0, none⟩), .pointer (some ⟨g, 0, none⟩), .pointer (some ⟨g + 3, 0, none⟩), .pointer (some ⟨g + 5, 0, none⟩), .pointer (some ⟨g + 4, 0, none⟩), .pointer (some ⟨g + 2, 0, none⟩)] w fun e w' =>
      e = .returned (.bool true) ∧ GrpAt w' g s (k + 1 : Int) n2 (many + 1) (s[k].toNat : Int) most ∧ GTr g w w' := by
  have c0 := cell0 h.b0
  have c1 := cell0 h.b1
  have c3 := cell0 h.b3
  have c4 := cell0 h.b4
  have c5 := cell0 h.b5
  have f4 := free0 h.b4
  have hmm : (many == most) = false := by simp [hm]
  go_enter Tryz.func196, Tryz.ntmps196
  go_wp2_with fail
  obtain ⟨w4, hw4⟩ : ∃ w4, w4 = w.setCell ⟨g + 4, 0, none⟩ (.int .u8 (s[k].toNat : Int)) := ⟨_, rfl⟩
  rw [← hw4]
  have h4 : GrpAt w4 g s k n many (s[k].toNat : Int) most := by
    rw [hw4]
    exact ⟨(far0 (by omega)).trans h.b0, (far0 (by omega)).trans h.b1, (far0 (by omega)).trans h.b2, (far0 (by omega)).trans h.b3, set0 h.b4, (far0 (by omega)).trans h.b5⟩
  have t4 : GTr g w w4 := by
    rw [hw4]
    exact (GTr.refl g w).set (by omega) (by omega) _
  clear c0 c1 c3 c4 c5 f4 hw4 hmm hm
  have c2 := cell0 h4.b2
  have c3 := cell0 h4.b3
  have c4 := cell0 h4.b4
  refine wp_region_still_tail 8 (by kernel_rfl) (by kernel_rfl) ?_
  simp only [List.take_succ_cons, List.take_zero, List.drop_succ_cons, List.drop_zero]
  repeat still_step
  refine wpStill_nil ?_
  change wpList _ _ _ _ _ w4.drew
  clear c2 c3 c4 hA hB hC hD
  have h5 : GrpAt w4.drew g s k n many (s[k].toNat : Int) most := ⟨h4.b0, h4.b1, h4.b2, h4.b3, h4.b4, h4.b5⟩
  have t5 : GTr g w w4.drew := t4.drew
  obtain ⟨w5, hw5⟩ : ∃ w5, w5 = w4.drew := ⟨_, rfl⟩
  rw [← hw5] at h5 t5 ⊢
  clear hw5 h4 t4
  have f2 := free0 h5.b2
  have f1 := free0 h5.b1
  have f3 := free0 h5.b3
  have c1 := cell0 h5.b1
  have c3 := cell0 h5.b3
  have c2 := cell0 h5.b2
  have hk1 : IntKind.i64.wrap ((k : Int) + 1) = (k : Int) + 1 := wid64 _ (by omega) (by omega)
  have hm2 : IntKind.i64.wrap (many + 1) = many + 1 := wid64 _ (by omega) (by omega)
  go_wp2
  go_ret
  refine ⟨rfl, ?_, ((t5.set (by omega) (by omega) _).set (by omega) (by omega) _).set (by omega) (by omega) _⟩
  exact ⟨(far0 (by omega)).trans ((far0 (by omega)).trans ((far0 (by omega)).trans h5.b0)), (far0 (by omega)).trans (set0 ((far0 (by omega)).trans h5.b1)), (far0 (by omega)).trans ((far0 (by omega)).trans (set0 h5.b2)), set0 ((far0 (by omega)).trans ((far0 (by omega)).trans h5.b3)), (far0 (by omega)).trans ((far0 (by omega)).trans ((far0 (by omega)).trans h5.b4)), (far0 (by omega)).trans ((far0 (by omega)).trans ((far0 (by omega)).trans h5.b5))⟩
end Go.Proofs.YtkbfjkbokifgkaaGreatDoor
