/- The reader's limits and constants. -/
import Derived.Test.YtkbfjkbokifgkaaDoorPl
namespace Go.Proofs.YtkbfjkbokifgkaaDoor
open Go.RowKit
set_option linter.unusedVariables false
set_option linter.unusedSimpArgs false

/-- A block that is known whole. -/
structure Bk (w : World) (q : Nat) (vs : List Value) (T : TypeId) : Prop where
  row : w.heap[q]? = some (.cells vs.toArray T (0, 0))
theorem Bk.cell {w : World} {q : Nat} {vs : List Value} {T : TypeId} (h : Bk w q vs T) {j : Nat} {u : Value} (hj : vs[j]? = some u) : w.cell? ⟨q, j, none⟩ = some u := by
  rw [cell_of_row w q j _ _ _ h.row]
  simpa using hj
theorem Bk.fr {w : World} {q : Nat} {vs : List Value} {T : TypeId} (h : Bk w q vs T) (j : Nat) : w.frozen? ⟨q, j, none⟩ = false := frozen_of_row w q j _ _ h.row
theorem Bk.lt {w : World} {q : Nat} {vs : List Value} {T : TypeId} (h : Bk w q vs T) : q < w.heap.size := (Array.getElem?_eq_some_iff.1 h.row).1
theorem Bk.wr {S : Nat → Prop} {w w' : World} {q : Nat} {vs : List Value} {T : TypeId} (h : Bk w q vs T) (k : Wr S w w') (hq : ¬ S q) : Bk w' q vs T := ⟨(k.block q h.lt hq).trans h.row⟩
theorem Bk.below {w w' : World} {q : Nat} {vs : List Value} {T : TypeId} (h : Bk w q vs T) (k : Below w.heap.size w w') : Bk w' q vs T := ⟨(k.block q h.lt).trans h.row⟩
theorem Bk.set {w : World} {q : Nat} {vs : List Value} {T : TypeId} (h : Bk w q vs T) (j : Nat) (u : Value) : Bk (w.setCell ⟨q, j, none⟩ u) q (vs.set j u) T := ⟨by rw [heap_setCell_same w q j _ _ _ h.row]; simp⟩
theorem Bk.far {w : World} {q p : Nat} {vs : List Value} {T : TypeId} (h : Bk w q vs T) (hp : q ≠ p) (j : Nat) (u : Value) : Bk (w.setCell ⟨p, j, none⟩ u) q vs T := ⟨(Below.heap_setCell _ _ _ _ hp).trans h.row⟩
theorem Bk.new (w : World) (vs : List Value) (T : TypeId) : Bk (w.alloc (.cells vs.toArray T)) w.heap.size vs T := ⟨heap_alloc_new _ _⟩
theorem Bk.grown {w w' : World} {q : Nat} {vs : List Value} {T : TypeId} {row : Option Nat} (h : Bk w q vs T) (k : w.grownBy w' row) (hq : some q ≠ row) : Bk w' q vs T := ⟨(k.block q h.lt hq).trans h.row⟩
theorem RdAt.far {w : World} {p : Nat} {s : ByteArray} {a e l : Int} {cs : List Value} (h : RdAt w p s a e l cs) {q : Nat} (hq : p ≠ q) (j : Nat) (u : Value) : RdAt (w.setCell ⟨q, j, none⟩ u) p s a e l cs := ⟨(Below.heap_setCell _ _ _ _ hq).trans h.row, h.eleven⟩
theorem RdAt.grown {w w' : World} {p : Nat} {s : ByteArray} {a e l : Int} {cs : List Value} {row : Option Nat} (h : RdAt w p s a e l cs) (k : w.grownBy w' row) (hp : some p ≠ row) : RdAt w' p s a e l cs := ⟨(k.block p h.lt hp).trans h.row, h.eleven⟩
/-- What is new may be written. -/
theorem Wr.fresh {S : Nat → Prop} {a b : World} (h : Wr S a b) {q : Nat} (hq : a.heap.size ≤ q) (j : Nat) (u : Value) : Wr S a (b.setCell ⟨q, j, none⟩ u) :=
  h.newer ((Wr.refl (· = q) b).set rfl j u) (fun k e hk => by have : k = q := e; omega)
theorem info110 : (Tryd.prog.info? 110).map (·.size) = some 3 := by kernel_rfl
theorem info70s : (Tryd.prog.info? 70).map (·.size) = some 7 := by kernel_rfl
def VLim (v : Int × Int × Bool) (x : Value) : Prop := x = .agg #[.int .i64 v.1, .int .i64 v.2.1, .bool v.2.2]
set_option maxRecDepth 100000 in
set_option maxHeartbeats 8000000 in
theorem rlimits_any {w : World} {p : Nat} {s : ByteArray} {a e : Nat} {l : Int} {cs : List Value} (h : RdAt w p s (a : Int) (e : Int) l cs) (hs : s.size ≤ 262144) (he : e ≤ s.size) (ha : a ≤ e) :
    Calls Tryd.prog 71 #[.pointer (some ⟨p, 0, none⟩)] w (Rd VLim p s e l cs (gLimits (strl s) e a) w) := by
  obtain ⟨r, hr⟩ : ∃ r, r = w.heap.size := ⟨_, rfl⟩
  have hB0 : Below w.heap.size w (w.alloc (.cells #[.int .i64 0, .int .i64 0, .bool false] 110)) := (Below.refl _ _).alloc (Nat.le_refl _) _
  have hR0 := h.below hB0
  have hK0 : Bk (w.alloc (.cells #[.int .i64 0, .int .i64 0, .bool false] 110)) r [.int .i64 0, .int .i64 0, .bool false] 110 := by rw [hr]; exact Bk.new _ _ _
  have hW0 : Wr (· = p) w (w.alloc (.cells #[.int .i64 0, .int .i64 0, .bool false] 110)) := Wr.of_below hB0
  have hpr : p < r := by rw [hr]; exact h.lt
  clear h
  obtain ⟨G2, hG0⟩ : ∃ G2, gLimits (strl s) e a = G2 := ⟨_, rfl⟩
  rw [hG0]
  replace hG0 := Lib.hid hG0
  go_enter Tryd.func71, Tryd.ntmps71
  go_upto_region 1 with (fail)
  rw [← hr]
  obtain ⟨w0, hw0⟩ : ∃ w0, w0 = w.alloc (.cells #[.int .i64 0, .int .i64 0, .bool false] 110) := ⟨_, rfl⟩
  rw [← hw0] at hR0 hK0 hW0 ⊢
  clear hw0 hB0
  replace hr := Lib.hid hr
  replace hW0 := Lib.hid hW0
  replace hK0 := Lib.hid hK0
  go_wp2_with fail
  refine (flag_any hR0 hs he).mono ?_
  rintro e' w1 ⟨hW1, ⟨b, a1, v', hg, ha1, rfl, rfl, hR1⟩ | ⟨n, hg, rfl⟩⟩
  rotate_left
  · exact ⟨rfl, hW0.out.trans hW1, .inr ⟨n, by rw [← hG0.out]; unfold gLimits; rw [rd_err hg], rfl⟩⟩
  have hW1' := hW0.out.trans hW1
  have hK1 := hK0.out.wr hW1 (by omega)
  have hG2 : G2 = (gU (strl s) e a1).bind fun n => if b = true then (gU (strl s) e n.2).bind fun x => .ok ((n.1, x.1, true), x.2) else .ok ((n.1, 0, false), n.2) := by rw [← hG0.out]; unfold gLimits; exact rd_bind hg
  replace hG2 := Lib.hid hG2
  clear hg hG0 hW1 hK0 hW0 hR0
  go_upto_region 2 with (fail)
  have hB1 : Below w1.heap.size w1 (w1.alloc (.cells #[.int .i64 0, .int .i64 0, .bool b] 110)) := (Below.refl _ _).alloc (Nat.le_refl _) _
  have hR2 := hR1.below hB1
  have hK2 := hK1.below hB1
  have hW2 := hW1'.trans (Wr.of_below hB1)
  have hX2 := Bk.new w1 [.int .i64 0, .int .i64 0, .bool b] 110
  have hrx : r < w1.heap.size := hK1.lt
  obtain ⟨x, hx⟩ : ∃ x, x = w1.heap.size := ⟨_, rfl⟩
  obtain ⟨w2, hw2⟩ : ∃ w2, w2 = w1.alloc (.cells #[.int .i64 0, .int .i64 0, .bool b] 110) := ⟨_, rfl⟩
  rw [← hx] at hX2 hrx ⊢
  rw [show (w1.alloc (.cells [.int .i64 0, .int .i64 0, .bool b].toArray 110)) = w2 from hw2.symm] at hX2
  rw [← hw2] at hR2 hK2 hW2 ⊢
  clear hw2 hB1 hR1 hK1 hW1'
  have hwx : w.heap.size ≤ x := by rw [hr.out] at hrx; omega
  replace hx := Lib.hid hx
  replace hK2 := Lib.hid hK2
  replace hW2 := Lib.hid hW2
  replace hX2 := Lib.hid hX2
  replace hR2 := Lib.hid hR2
  go_wp2_with fail
  refine (u_any hR2.out hs he ha1).mono ?_
  rintro e' w3 ⟨hW3, ⟨n, a3, v', hg3, ha3, ⟨rfl, hn0, hn1⟩, rfl, hR3⟩ | ⟨n, hg3, rfl⟩⟩
  rotate_left
  · exact ⟨rfl, hW2.out.trans hW3, .inr ⟨n, by rw [hG2.out, rd_err hg3], rfl⟩⟩
  have hW3' := hW2.out.trans hW3
  have hK3 := hK2.out.wr hW3 (by omega)
  have hX3 := hX2.out.wr hW3 (by omega)
  have x0 := hX3.cell (j := 0) rfl
  have fx := hX3.fr 0
  clear hW3 hK2 hW2 hR2 hX2
  go_upto_region 3 with (fail)
  have hR4 := hR3.far (q := x) (by omega) 0 (.int .i64 n)
  have hK4 := hK3.far (p := x) (by omega) 0 (.int .i64 n)
  have hX4 := hX3.set 0 (.int .i64 n)
  have hW4 := hW3'.fresh (q := x) hwx 0 (.int .i64 n)
  obtain ⟨w4, hw4⟩ : ∃ w4, w4 = w3.setCell ⟨x, 0, none⟩ (.int .i64 n) := ⟨_, rfl⟩
  rw [← hw4] at hR4 hK4 hX4 hW4 ⊢
  clear hw4 hR3 hK3 hX3 hW3' x0 fx
  have x2 := hX4.cell (j := 2) rfl
  -- the end: the box into the result
  have fin : ∀ (wz : World) (a' : Nat) (mx : Int), Bk wz x [.int .i64 n, .int .i64 mx, .bool b] 110 → Bk wz r [.int .i64 0, .int .i64 0, .bool false] 110 → Wr (· = p) w wz → RdAt wz p s (a' : Int) (e : Int) l cs → a' ≤ e → G2 = .ok ((n, mx, b), a') →
      Wr (· = p) w (((wz.setCell ⟨r, 0, none⟩ (.int .i64 n)).setCell ⟨r, 1, none⟩ (.int .i64 mx)).setCell ⟨r, 2, none⟩ (.bool b)) ∧ Bk (((wz.setCell ⟨r, 0, none⟩ (.int .i64 n)).setCell ⟨r, 1, none⟩ (.int .i64 mx)).setCell ⟨r, 2, none⟩ (.bool b)) r [.int .i64 n, .int .i64 mx, .bool b] 110 ∧
      RdAt (((wz.setCell ⟨r, 0, none⟩ (.int .i64 n)).setCell ⟨r, 1, none⟩ (.int .i64 mx)).setCell ⟨r, 2, none⟩ (.bool b)) p s (a' : Int) (e : Int) l cs := fun wz a' mx hX hK hW hR _ _ =>
    ⟨((hW.fresh (Nat.le_of_eq hr.out.symm) 0 _).fresh (Nat.le_of_eq hr.out.symm) 1 _).fresh (Nat.le_of_eq hr.out.symm) 2 _, ((hK.set 0 _).set 1 _).set 2 _, ((hR.far (by omega) 0 _).far (by omega) 1 _).far (by omega) 2 _⟩
  cases b
  · have hfin : G2 = .ok ((n, 0, false), a3) := by rw [hG2.out, rd_bind hg3]; rfl
    have F := fin w4 a3 0 hX4 hK4 hW4 hR4 ha3 hfin
    have y0 := hX4.cell (j := 0) rfl
    have y1 := hX4.cell (j := 1) rfl
    have r0 := hK4.cell (j := 0) rfl
    have r1 := hK4.cell (j := 1) rfl
    have r2 := hK4.cell (j := 2) rfl
    have q0 := hK4.fr 0
    have q1 := hK4.fr 1
    have q2 := hK4.fr 2
    replace hfin := Lib.hid hfin
    replace F := Lib.hid F
    replace hg3 := Lib.hid hg3
    clear fin
    go_wp2_with fail
    refine bodyPost_ret (results_cell_row (P := Tryd.prog) rfl _ _ r 110 #[.int .i64 n, .int .i64 0, .bool false] (0, 0) _ rfl F.out.2.1.row Tryd.underlying110 rfl info110) rfl ?_
    exact ⟨F.out.1, .inl ⟨(n, 0, false), a3, _, hfin.out, ha3, rfl, rfl, F.out.2.2⟩⟩
  · replace hK4 := Lib.hid hK4
    replace hW4 := Lib.hid hW4
    replace hX4 := Lib.hid hX4
    replace hR4 := Lib.hid hR4
    replace hg3 := Lib.hid hg3
    replace fin := Lib.hid fin
    go_wp2_with fail
    refine (u_any hR4.out hs he ha3).mono ?_
    rintro e' w5 ⟨hW5, ⟨mx, a5, v', hg5, ha5, ⟨rfl, hm0, hm1⟩, rfl, hR5⟩ | ⟨n5, hg5, rfl⟩⟩
    rotate_left
    · exact ⟨rfl, hW4.out.trans hW5, .inr ⟨n5, by rw [hG2.out, rd_bind hg3.out]; exact rd_err hg5, rfl⟩⟩
    have hfin : G2 = .ok ((n, mx, true), a5) := by rw [hG2.out, rd_bind hg3.out]; exact rd_bind hg5
    have hW5' := hW4.out.trans hW5
    have hK5 := hK4.out.wr hW5 (by omega)
    have hX5 := hX4.out.wr hW5 (by omega)
    have x1 := hX5.cell (j := 1) rfl
    have fx := hX5.fr 1
    clear hW5 hK4 hW4 hR4 hX4 hg5 x2
    go_upto_region 5 with (fail)
    have hR6 := hR5.far (q := x) (by omega) 1 (.int .i64 mx)
    have hK6 := hK5.far (p := x) (by omega) 1 (.int .i64 mx)
    have hX6 := hX5.set 1 (.int .i64 mx)
    have hW6 := hW5'.fresh (q := x) hwx 1 (.int .i64 mx)
    obtain ⟨w6, hw6⟩ : ∃ w6, w6 = w5.setCell ⟨x, 1, none⟩ (.int .i64 mx) := ⟨_, rfl⟩
    rw [← hw6] at hR6 hK6 hX6 hW6 ⊢
    clear hw6 hR5 hK5 hX5 hW5' x1 fx
    have F := fin.out w6 a5 mx hX6 hK6 hW6 hR6 ha5 hfin
    have y0 := hX6.cell (j := 0) rfl
    have y1 := hX6.cell (j := 1) rfl
    have y2 := hX6.cell (j := 2) rfl
    have r0 := hK6.cell (j := 0) rfl
    have r1 := hK6.cell (j := 1) rfl
    have r2 := hK6.cell (j := 2) rfl
    have q0 := hK6.fr 0
    have q1 := hK6.fr 1
    have q2 := hK6.fr 2
    replace hfin := Lib.hid hfin
    replace F := Lib.hid F
    go_wp2_with fail
    refine bodyPost_ret (results_cell_row (P := Tryd.prog) rfl _ _ r 110 #[.int .i64 n, .int .i64 mx, .bool true] (0, 0) _ rfl F.out.2.1.row Tryd.underlying110 rfl info110) rfl ?_
    exact ⟨F.out.1, .inl ⟨(n, mx, true), a5, _, hfin.out, ha5, rfl, rfl, F.out.2.2⟩⟩
end Go.Proofs.YtkbfjkbokifgkaaDoor
