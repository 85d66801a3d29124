/- The reader's limits and constants. -/
import Derived.Test.YtkbfjkbokifgkaaGreatDoorPl
namespace Go.Proofs.YtkbfjkbokifgkaaGreatDoor
open Go.RowKit
set_option linter.unusedVariables false
set_option linter.unusedSimpArgs false
structure Bk (w : World) (q : Nat) (vs : List Value) (T : TypeId) : Prop where
 row : w.heap[q]? = some (.cells vs.toArray T (0, 0))
theorem Bk.cell {w : World} {q : Nat} {vs : List Value} {T : TypeId} (h : Bk w q vs T) {j : Nat} {u : Value} (hj : vs[j]? = some u) : w.cell? ⟨q, j, none⟩ = some u := by rw [cell_of_row w q j _ _ _ h.row]; simpa using hj
theorem Bk.fr {w : World} {q : Nat} {vs : List Value} {T : TypeId} (h : Bk w q vs T) (j : Nat) : w.frozen? ⟨q, j, none⟩ = false := frozen_of_row w q j _ _ h.row
theorem Bk.lt {w : World} {q : Nat} {vs : List Value} {T : TypeId} (h : Bk w q vs T) : q < w.heap.size := (Array.getElem?_eq_some_iff.1 h.row).1
theorem Bk.wr {S : Nat → Prop} {w w' : World} {q : Nat} {vs : List Value} {T : TypeId} (h : Bk w q vs T) (k : Wr S w w') (hq : ¬ S q) : Bk w' q vs T := ⟨(k.block q h.lt hq).trans h.row⟩
theorem Bk.below {w w' : World} {q : Nat} {vs : List Value} {T : TypeId} (h : Bk w q vs T) (k : Below w.heap.size w w') : Bk w' q vs T := ⟨(k.block q h.lt).trans h.row⟩
theorem Bk.set {w : World} {q : Nat} {vs : List Value} {T : TypeId} (h : Bk w q vs T) (j : Nat) (u : Value) : Bk (w.setCell ⟨q, j, none⟩ u) q (vs.set j u) T := ⟨by rw [heap_setCell_same w q j _ _ _ h.row]; simp⟩
theorem Bk.far {w : World} {q p : Nat} {vs : List Value} {T : TypeId} (h : Bk w q vs T) (hp : q ≠ p) (j : Nat) (u : Value) : Bk (w.setCell ⟨p, j, none⟩ u) q vs T := ⟨(Below.heap_setCell _ _ _ _ hp).trans h.row⟩
theorem Bk.new (w : World) (vs : List Value) (T : TypeId) : Bk (w.alloc (.cells vs.toArray T)) w.heap.size vs T := ⟨heap_alloc_new _ _⟩
theorem Bk.grown {w w' : World} {q : Nat} {vs : List Value} {T : TypeId} {row : Option Nat} (h : Bk w q vs T) (k : w.grownBy w' row) (hq : some q ≠ row) : Bk w' q vs T := ⟨(k.block q h.lt hq).trans h.row⟩
theorem RdAt.far {w : World} {p : Nat} {s : ByteArray} {a e l : Int} {cs : List Value} (h : RdAt w p s a e l cs) {q : Nat} (hq : p ≠ q) (j : Nat) (u : Value) : RdAt (w.setCell ⟨q, j, none⟩ u) p s a e l cs := ⟨(Below.heap_setCell _ _ _ _ hq).trans h.row, h.eleven⟩
theorem RdAt.grown {w w' : World} {p : Nat} {s : ByteArray} {a e l : Int} {cs : List Value} {row : Option Nat} (h : RdAt w p s a e l cs) (k : w.grownBy w' row) (hp : some p ≠ row) : RdAt w' p s a e l cs := ⟨(k.block p h.lt hp).trans h.row, h.eleven⟩
theorem Wr.fresh {S : Nat → Prop} {a b : World} (h : Wr S a b) {q : Nat} (hq : a.heap.size ≤ q) (j : Nat) (u : Value) : Wr S a (b.setCell ⟨q, j, none⟩ u) :=
 h.newer ((Wr.refl (· = q) b).set rfl j u) (fun k e hk => by have : k = q := e; omega)
theorem info110 : (Tryz.prog.info? 86).map (·.size) = some 3 := by kernel_rfl
theorem info70s : (Tryz.prog.info? 88).map (·.size) = some 7 := by kernel_rfl
def VLim (v : Int × Int × Bool) (x : Value) : Prop := x = .agg #[.int .i64 v.1, .int .i64 v.2.1, .bool v.2.2]
set_option maxRecDepth 100000 in
set_option maxHeartbeats 8000000 in
theorem rlimits_any {w : World} {p : Nat} {s : ByteArray} {a e : Nat} {l : Int} {cs : List Value} (h : RdAt w p s (a : Int) (e : Int) l cs) (hs : s.size ≤ 262144) (he : e ≤ s.size) (ha : a ≤ e) :
 Calls Tryz.prog 129 #[.pointer (some ⟨p, 0, none⟩)] w (Rd VLim p s e l cs (gLimits (strl s) e a) w) := by
 obtain ⟨r, hr⟩ : ∃ r, r = w.heap.size := ⟨_, rfl⟩
 have hB0 : Below w.heap.size w (w.alloc (.cells #[.int .i64 0, .int .i64 0, .bool false] 86)) := (Below.refl _ _).alloc (Nat.le_refl _) _; have hR0 := h.below hB0; have hK0 : Bk (w.alloc (.cells #[.int .i64 0, .int .i64 0, .bool false] 86)) r [.int .i64 0, .int .i64 0, .bool false] 86 := (by rw [hr]; exact Bk.new _ _ _)
 have hW0 : Wr (· = p) w (w.alloc (.cells #[.int .i64 0, .int .i64 0, .bool false] 86)) := Wr.of_below hB0; have hpr : p < r := (by rw [hr]; exact h.lt)
 clear h; obtain ⟨G2, hG0⟩ : ∃ G2, gLimits (strl s) e a = G2 := ⟨_, rfl⟩
 rw [hG0]; replace hG0 := zh hG0; go_enter Tryz.func129, Tryz.ntmps129
 go_upto_region 1 with (fail)
 rw [← hr]; obtain ⟨w0, hw0⟩ : ∃ w0, w0 = w.alloc (.cells #[.int .i64 0, .int .i64 0, .bool false] 86) := ⟨_, rfl⟩
 rw [← hw0] at hR0 hK0 hW0 ⊢; clear hw0 hB0; replace hr := zh hr; replace hW0 := zh hW0; replace hK0 := zh hK0; go_wp2_with fail; refine (flag_any hR0 hs he).mono ?_; rintro e' w1 ⟨hW1, ⟨b, a1, v', hg, ha1, rfl, rfl, hR1⟩ | ⟨n, hg, rfl⟩⟩
 rotate_left
 · exact ⟨rfl, hW0.out.trans hW1, .inr ⟨n, by rw [← hG0.out]; unfold gLimits; rw [rd_err hg], rfl⟩⟩
 have hW1' := hW0.out.trans hW1; have hK1 := hK0.out.wr hW1 (by omega); have hG2 : G2 = (gU (strl s) e a1).bind fun n => if b = true then (gU (strl s) e n.2).bind fun x => .ok ((n.1, x.1, true), x.2) else .ok ((n.1, 0, false), n.2) := (by rw [← hG0.out]; unfold gLimits; exact rd_bind hg)
 replace hG2 := zh hG2; clear hg hG0 hW1 hK0 hW0 hR0
 go_upto_region 2 with (fail)
 have hB1 : Below w1.heap.size w1 (w1.alloc (.cells #[.int .i64 0, .int .i64 0, .bool b] 86)) := (Below.refl _ _).alloc (Nat.le_refl _) _; have hR2 := hR1.below hB1; have hK2 := hK1.below hB1; have hW2 := hW1'.trans (Wr.of_below hB1); have hX2 := Bk.new w1 [.int .i64 0, .int .i64 0, .bool b] 86; have hrx : r < w1.heap.size := hK1.lt; obtain ⟨x, hx⟩ : ∃ x, x = w1.heap.size := ⟨_, rfl⟩
 obtain ⟨w2, hw2⟩ : ∃ w2, w2 = w1.alloc (.cells #[.int .i64 0, .int .i64 0, .bool b] 86) := ⟨_, rfl⟩
 rw [← hx] at hX2 hrx ⊢; rw [show (w1.alloc (.cells [.int .i64 0, .int .i64 0, .bool b].toArray 86)) = w2 from hw2.symm] at hX2; rw [← hw2] at hR2 hK2 hW2 ⊢; clear hw2 hB1 hR1 hK1 hW1'; have hwx : w.heap.size ≤ x := (by rw [hr.out] at hrx; omega)
 replace hx := zh hx; replace hK2 := zh hK2; replace hW2 := zh hW2; replace hX2 := zh hX2; replace hR2 := zh hR2; go_wp2_with fail; refine (u_any hR2.out hs he ha1).mono ?_; rintro e' w3 ⟨hW3, ⟨n, a3, v', hg3, ha3, ⟨rfl, hn0, hn1⟩, rfl, hR3⟩ | ⟨n, hg3, rfl⟩⟩
 rotate_left
 · exact ⟨rfl, hW2.out.trans hW3, .inr ⟨n, by rw [hG2.out, rd_err hg3], rfl⟩⟩
 have hW3' := hW2.out.trans hW3; have hK3 := hK2.out.wr hW3 (by omega); have hX3 := hX2.out.wr hW3 (by omega); have x0 := hX3.cell (j := 0) rfl; have fx := hX3.fr 0; clear hW3 hK2 hW2 hR2 hX2
 go_upto_region 3 with (fail)
 have hR4 := hR3.far (q := x) (by omega) 0 (.int .i64 n); have hK4 := hK3.far (p := x) (by omega) 0 (.int .i64 n); have hX4 := hX3.set 0 (.int .i64 n); have hW4 := hW3'.fresh (q := x) hwx 0 (.int .i64 n); obtain ⟨w4, hw4⟩ : ∃ w4, w4 = w3.setCell ⟨x, 0, none⟩ (.int .i64 n) := ⟨_, rfl⟩
 rw [← hw4] at hR4 hK4 hX4 hW4 ⊢; clear hw4 hR3 hK3 hX3 hW3' x0 fx; have x2 := hX4.cell (j := 2) rfl
 -- the end: the box into the result
 have fin : ∀ (wz : World) (a' : Nat) (mx : Int), Bk wz x [.int .i64 n, .int .i64 mx, .bool b] 86 → Bk wz r [.int .i64 0, .int .i64 0, .bool false] 86 → Wr (· = p) w wz → RdAt wz p s (a' : Int) (e : Int) l cs → a' ≤ e → G2 = .ok ((n, mx, b), a') →
  Wr (· = p) w (((wz.setCell ⟨r, 0, none⟩ (.int .i64 n)).setCell ⟨r, 1, none⟩ (.int .i64 mx)).setCell ⟨r, 2, none⟩ (.bool b)) ∧ Bk (((wz.setCell ⟨r, 0, none⟩ (.int .i64 n)).setCell ⟨r, 1, none⟩ (.int .i64 mx)).setCell ⟨r, 2, none⟩ (.bool b)) r [.int .i64 n, .int .i64 mx, .bool b] 86 ∧
  RdAt (((wz.setCell ⟨r, 0, none⟩ (.int .i64 n)).setCell ⟨r, 1, none⟩ (.int .i64 mx)).setCell ⟨r, 2, none⟩ (.bool b)) p s (a' : Int) (e : Int) l cs := fun wz a' mx hX hK hW hR _ _ =>
  ⟨((hW.fresh (Nat.le_of_eq hr.out.symm) 0 _).fresh (Nat.le_of_eq hr.out.symm) 1 _).fresh (Nat.le_of_eq hr.out.symm) 2 _, ((hK.set 0 _).set 1 _).set 2 _, ((hR.far (by omega) 0 _).far (by omega) 1 _).far (by omega) 2 _⟩
 cases b
 · have hfin : G2 = .ok ((n, 0, false), a3) := (by rw [hG2.out, rd_bind hg3]; rfl)
   have F := fin w4 a3 0 hX4 hK4 hW4 hR4 ha3 hfin; have y0 := hX4.cell (j := 0) rfl; have y1 := hX4.cell (j := 1) rfl; have r0 := hK4.cell (j := 0) rfl; have r1 := hK4.cell (j := 1) rfl; have r2 := hK4.cell (j := 2) rfl; have q0 := hK4.fr 0; have q1 := hK4.fr 1; have q2 := hK4.fr 2; replace hfin := zh hfin; replace F := zh F; replace hg3 := zh hg3; clear fin; go_wp2_with fail; refine bodyPost_ret (results_cell_row (P := Tryz.prog) rfl _ _ r 86 #[.int .i64 n, .int .i64 0, .bool false] (0, 0) _ rfl F.out.2.1.row Tryz.underlying86 rfl info110) rfl ?_; exact ⟨F.out.1, .inl ⟨(n, 0, false), a3, _, hfin.out, ha3, rfl, rfl, F.out.2.2⟩⟩
 · replace hK4 := zh hK4; replace hW4 := zh hW4; replace hX4 := zh hX4; replace hR4 := zh hR4; replace hg3 := zh hg3; replace fin := zh fin; go_wp2_with fail; refine (u_any hR4.out hs he ha3).mono ?_; rintro e' w5 ⟨hW5, ⟨mx, a5, v', hg5, ha5, ⟨rfl, hm0, hm1⟩, rfl, hR5⟩ | ⟨n5, hg5, rfl⟩⟩
   rotate_left
   · exact ⟨rfl, hW4.out.trans hW5, .inr ⟨n5, by rw [hG2.out, rd_bind hg3.out]; exact rd_err hg5, rfl⟩⟩
   have hfin : G2 = .ok ((n, mx, true), a5) := (by rw [hG2.out, rd_bind hg3.out]; exact rd_bind hg5)
   have hW5' := hW4.out.trans hW5; have hK5 := hK4.out.wr hW5 (by omega); have hX5 := hX4.out.wr hW5 (by omega); have x1 := hX5.cell (j := 1) rfl; have fx := hX5.fr 1; clear hW5 hK4 hW4 hR4 hX4 hg5 x2
   go_upto_region 5 with (fail)
   have hR6 := hR5.far (q := x) (by omega) 1 (.int .i64 mx); have hK6 := hK5.far (p := x) (by omega) 1 (.int .i64 mx); have hX6 := hX5.set 1 (.int .i64 mx); have hW6 := hW5'.fresh (q := x) hwx 1 (.int .i64 mx); obtain ⟨w6, hw6⟩ : ∃ w6, w6 = w5.setCell ⟨x, 1, none⟩ (.int .i64 mx) := ⟨_, rfl⟩
   rw [← hw6] at hR6 hK6 hX6 hW6 ⊢; clear hw6 hR5 hK5 hX5 hW5' x1 fx; have F := fin.out w6 a5 mx hX6 hK6 hW6 hR6 ha5 hfin; have y0 := hX6.cell (j := 0) rfl; have y1 := hX6.cell (j := 1) rfl; have y2 := hX6.cell (j := 2) rfl; have r0 := hK6.cell (j := 0) rfl; have r1 := hK6.cell (j := 1) rfl; have r2 := hK6.cell (j := 2) rfl; have q0 := hK6.fr 0; have q1 := hK6.fr 1; have q2 := hK6.fr 2; replace hfin := zh hfin; replace F := zh F; go_wp2_with fail; refine bodyPost_ret (results_cell_row (P := Tryz.prog) rfl _ _ r 86 #[.int .i64 n, .int .i64 mx, .bool true] (0, 0) _ rfl F.out.2.1.row Tryz.underlying86 rfl info110) rfl ?_; exact ⟨F.out.1, .inl ⟨(n, mx, true), a5, _, hfin.out, ha5, rfl, rfl, F.out.2.2⟩⟩
def VOne (o : One) (x : Value) : Prop := o.ls = [] ∧ o.body = .nil ∧ o.els = .nil ∧ ∃ t, Same7 t o ∧ x = .agg (eV t).toArray
def gCon (s : List UInt8) (e : Nat) (op : Int) (a : Nat) : Got One :=
 if op = 65 then (gS32 s e a).bind fun q => .ok (⟨op, 0, 0, q.1, [], .nil, .nil⟩, q.2) else if op = 66 then (gS64 s e a).bind fun q => .ok (⟨op, 0, 0, q.1, [], .nil, .nil⟩, q.2) else (gU s e a).bind fun q => .ok (⟨op, q.1, 0, 0, [], .nil, .nil⟩, q.2)
theorem gCon_flat {s : List UInt8} {e a a' : Nat} {op : Int} {o : One} (h : gCon s e op a = .ok (o, a')) : o.ls = [] ∧ o.body = .nil ∧ o.els = .nil := by
 have hT : Tells (fun q : One × Nat => q.1.ls = [] ∧ q.1.body = .nil ∧ q.1.els = .nil) (gCon s e op a) := by unfold gCon; exact .ite (.bind fun _ => .ok ⟨rfl, rfl, rfl⟩) (.ite (.bind fun _ => .ok ⟨rfl, rfl, rfl⟩) (.bind fun _ => .ok ⟨rfl, rfl, rfl⟩))
 exact hT _ h
theorem con_parts {s : List UInt8} {e a left : Nat} {op : Int} {rec : Nat → Bool → Nat → Nat → Except Int ((Il × Bool × Nat) × Nat)} (ho : op = 65 ∨ op = 66 ∨ op = 35) : gParts s e rec op 0 left a = (gCon s e op a).bind fun q => .ok ((q.1, left), q.2) := by
 have h65 : formV 65 = 9 := rfl; have h66 : formV 66 = 9 := rfl; have h35 : formV 35 = 6 := rfl
 rcases ho with rfl | rfl | rfl
 · unfold gCon; rw [if_pos rfl, except_assoc]; rfl
 · unfold gCon; rw [if_neg (by decide), if_pos rfl, except_assoc]; rfl
 · unfold gCon; rw [if_neg (by decide), if_neg (by decide), except_assoc]; rfl
theorem gConst_eq {s : List UInt8} {e a a1 : Nat} {op : Int} (h : gByte s e a = .ok (op, a1)) : gConst s e a = if formV op = 10 then .error 51 else if op = 65 ∨ op = 66 ∨ op = 35 then (gCon s e op a1).bind fun q => (gIs s e q.2 11).bind fun z => .ok (q.1, z.2) else .error 50 := by
 unfold gConst; rw [rd_bind h]
 by_cases f : formV op = 10
 · rw [if_pos f, if_pos f]
 · rw [if_neg f, if_neg f]
   by_cases ho : op = 65 ∨ op = 66 ∨ op = 35
   · rw [if_pos ho, if_pos ho]
     show (gParts s e _ op 0 0 a1).bind _ = _
     rw [con_parts ho, except_assoc]; rfl
   · rw [if_neg ho, if_neg ho]
theorem parts_con {w : World} {p q : Nat} {s : ByteArray} {a e left : Nat} {cs : List Value} {op : Int} (h : RdAt w p s (a : Int) (e : Int) (left : Int) cs) (k : InsAt w q (e0 op)) (hpq : p ≠ q) (hs : s.size ≤ 262144) (he : e ≤ s.size) (ha : a ≤ e) (ho : op = 65 ∨ op = 66 ∨ op = 35) :
 Calls Tryz.prog 178 #[.pointer (some ⟨p, 0, none⟩), .pointer (some ⟨q, 0, none⟩), .int .i64 0] w fun e' w' => Wr (Spq p q) w w' ∧ ((∃ o a' t, gCon (strl s) e op a = .ok (o, a') ∧ a' ≤ e ∧ e' = .returned (.tuple #[]) ∧ RdAt w' p s ((a' : Nat) : Int) (e : Int) (left : Int) cs ∧ InsAt w' q t ∧ Same7 t o) ∨
 (∃ n, gCon (strl s) e op a = .error n ∧ e' = .panicked (flt n))) := by
 have fin : ∀ {g : Except Int ((One × Nat) × Nat)} {e' : Ending} {w' : World}, (g = (gCon (strl s) e op a).bind fun q => .ok ((q.1, left), q.2)) → Pd p q s e cs g left w e' w' → Wr (Spq p q) w w' ∧ ((∃ o a' t, gCon (strl s) e op a = .ok (o, a') ∧ a' ≤ e ∧ e' = .returned (.tuple #[]) ∧ RdAt w' p s ((a' : Nat) : Int) (e : Int) (left : Int) cs ∧ InsAt w' q t ∧ Same7 t o) ∨
  (∃ n, gCon (strl s) e op a = .error n ∧ e' = .panicked (flt n))) := by
  rintro g e' w' hg ⟨hW, ⟨o, l', a', t, h1, h2, _, h4, h5, h6, h7, _⟩ | ⟨n, h1, h2⟩⟩
  · refine ⟨hW, .inl ?_⟩; rw [hg] at h1; obtain ⟨z, h8, h9⟩ := bind_ok h1; cases h9; exact ⟨_, _, t, h8, h2, h4, h5, h6, h7⟩
  · refine ⟨hW, .inr ⟨n, ?_, h2⟩⟩; rw [hg] at h1; cases hc : gCon (strl s) e op a with
    | error m => rw [hc] at h1; cases h1; rfl
    | ok z => rw [hc] at h1; cases h1
 rcases ho with rfl | rfl | rfl
 · exact (parts_9i h k hpq hs he ha 0 rfl rfl).mono fun e' w' hp => fin (by unfold gCon; rw [if_pos rfl, except_assoc]; rfl) hp
 · exact (parts_9l h k hpq hs he ha 0 rfl (by decide)).mono fun e' w' hp => fin (by unfold gCon; rw [if_neg (by decide), if_pos rfl, except_assoc]; rfl) hp
 · exact (parts_46 h k hpq hs he ha 0 (.inr rfl)).mono fun e' w' hp => fin (by unfold gCon; rw [if_neg (by decide), if_neg (by decide), except_assoc]; rfl) hp
set_option maxRecDepth 100000 in
set_option maxHeartbeats 8000000 in
theorem constant_any {w : World} {p : Nat} {s : ByteArray} {a e l : Nat} {cs : List Value} (h : RdAt w p s (a : Int) (e : Int) (l : Int) cs) (hs : s.size ≤ 262144) (he : e ≤ s.size) (ha : a ≤ e) :
 Calls Tryz.prog 133 #[.pointer (some ⟨p, 0, none⟩)] w (Rd VOne p s e (l : Int) cs (gConst (strl s) e a) w) := by
 obtain ⟨r, hr⟩ : ∃ r, r = w.heap.size := ⟨_, rfl⟩
 have hB0 : Below w.heap.size w (w.alloc (.cells #[.int .i64 0, .int .i64 0, .int .i64 0, .int .i64 0, .slice none 0 0, .slice none 0 0, .slice none 0 0] 88)) := (Below.refl _ _).alloc (Nat.le_refl _) _; have hR0 := h.below hB0; have hK0 : Bk (w.alloc (.cells #[.int .i64 0, .int .i64 0, .int .i64 0, .int .i64 0, .slice none 0 0, .slice none 0 0, .slice none 0 0] 88)) r [.int .i64 0, .int .i64 0, .int .i64 0, .int .i64 0, .slice none 0 0, .slice none 0 0, .slice none 0 0] 88 := (by rw [hr]; exact Bk.new _ _ _)
 have hW0 : Wr (· = p) w (w.alloc (.cells #[.int .i64 0, .int .i64 0, .int .i64 0, .int .i64 0, .slice none 0 0, .slice none 0 0, .slice none 0 0] 88)) := Wr.of_below hB0; have hpr : p < r := (by rw [hr]; exact h.lt)
 clear h; obtain ⟨G2, hG0⟩ : ∃ G2, gConst (strl s) e a = G2 := ⟨_, rfl⟩
 rw [hG0]; replace hG0 := zh hG0; go_enter Tryz.func133, Tryz.ntmps133
 go_upto_region 1 with (fail)
 rw [← hr]; obtain ⟨w0, hw0⟩ : ∃ w0, w0 = w.alloc (.cells #[.int .i64 0, .int .i64 0, .int .i64 0, .int .i64 0, .slice none 0 0, .slice none 0 0, .slice none 0 0] 88) := ⟨_, rfl⟩
 rw [← hw0] at hR0 hK0 hW0 ⊢; clear hw0 hB0; replace hr := zh hr; replace hW0 := zh hW0; replace hK0 := zh hK0; go_wp2_with fail; refine (byte_any hR0 hs he).mono ?_; rintro e' w1 ⟨hW1, ⟨op, a1, v', hg, ha1, ⟨rfl, ho0, ho1⟩, rfl, hR1⟩ | ⟨n, hg, rfl⟩⟩
 rotate_left
 · exact ⟨rfl, hW0.out.trans hW1, .inr ⟨n, by rw [← hG0.out]; unfold gConst; rw [rd_err hg], rfl⟩⟩
 have hW1' := hW0.out.trans hW1; have hK1 := hK0.out.wr hW1 (by omega); have hG2 : G2 = _ := hG0.out.symm.trans (gConst_eq hg); replace hG2 := zh hG2; clear hg hG0 hW1 hK0 hW0 hR0
 go_upto_region 2 with (fail)
 have hB1 : Below w1.heap.size w1 (w1.alloc (.cells #[.int .i64 op, .int .i64 0, .int .i64 0, .int .i64 0, .slice none 0 0, .slice none 0 0, .slice none 0 0] 88)) := (Below.refl _ _).alloc (Nat.le_refl _) _; have hR2 := hR1.below hB1; have hK2 := hK1.below hB1; have hW2 := hW1'.trans (Wr.of_below hB1); have hX2 : InsAt (w1.alloc (.cells #[.int .i64 op, .int .i64 0, .int .i64 0, .int .i64 0, .slice none 0 0, .slice none 0 0, .slice none 0 0] 88)) w1.heap.size (e0 op) := ⟨al_new' _ _ rfl⟩
 have hrx : r < w1.heap.size := hK1.lt; obtain ⟨x, hx⟩ : ∃ x, x = w1.heap.size := ⟨_, rfl⟩
 obtain ⟨w2, hw2⟩ : ∃ w2, w2 = w1.alloc (.cells #[.int .i64 op, .int .i64 0, .int .i64 0, .int .i64 0, .slice none 0 0, .slice none 0 0, .slice none 0 0] 88) := ⟨_, rfl⟩
 rw [← hx] at hX2 hrx ⊢; rw [← hw2] at hR2 hK2 hW2 hX2 ⊢; clear hw2 hB1 hR1 hK1 hW1'; have hwx : w.heap.size ≤ x := (by rw [hr.out] at hrx; omega)
 have x0 := hX2.cell (j := 0) (u := .int .i64 op) rfl; replace hx := zh hx; replace hK2 := zh hK2; replace hW2 := zh hW2; replace hX2 := zh hX2; replace hR2 := zh hR2; go_wp2_with fail; refine (form_any op _).mono ?_; rintro e' w3 ⟨rfl, hB3⟩; have hR3 := zh (hR2.out.below hB3); have hK3 := zh (hK2.out.below hB3); have hX3 := zh (hX2.out.below hB3); have hW3 := zh (hW2.out.trans (Wr.of_below hB3)); clear hB3 hR2 hK2 hX2 hW2 x0; have x0 := hX3.out.cell (j := 0) (u := .int .i64 op) rfl
 by_cases f10 : formV op = 10
 · have hb : (formV op != 10) = false := (by rw [f10]; rfl)
   have hfin : G2 = .error 51 := (by rw [hG2.out, if_pos f10])
   replace f10 := zh f10; replace hfin := zh hfin; go_wp2_with fail; refine (dwant_no 51 _).mono ?_; rintro e' w4 ⟨rfl, rfl⟩; exact ⟨rfl, hW3.out, .inr ⟨51, hfin.out, rfl⟩⟩
 · have hb : (formV op != 10) = true := (by simp [f10])
   replace f10 := zh f10; go_wp2_with fail; refine (dwant_yes 51 _).mono ?_; rintro e' w4 ⟨rfl, rfl⟩; clear hb
   by_cases ho : op = 65 ∨ op = 66 ∨ op = 35
   · have hb : (op == 65) = true ∨ ((op == 65) = false ∧ (op == 66) = true) ∨ ((op == 65) = false ∧ (op == 66) = false ∧ (op == 35) = true) := by
      rcases ho with rfl | rfl | rfl
      · exact .inl rfl
      · exact .inr (.inl ⟨rfl, rfl⟩)
      · exact .inr (.inr ⟨rfl, rfl, rfl⟩)
     have hG3 : G2 = _ := hG2.out.trans ((if_neg f10.out).trans (if_pos ho)); replace hG3 := zh hG3; replace ho := zh ho
     rcases hb with hb | ⟨hb1, hb⟩ | ⟨hb1, hb2, hb⟩
     all_goals
      go_wp2_with fail; refine (dwant_yes 50 _).mono ?_; rintro e' w4 ⟨rfl, rfl⟩; go_wp2_with fail; refine (parts_con hR3.out hX3.out (by omega) hs he ha1 ho.out).mono ?_; rintro e' w5 ⟨hW5, ⟨o, a5, t, hg5, ha5, rfl, hR5, hI5, hS5⟩ | ⟨n5, hg5, rfl⟩⟩
      rotate_left
      · exact ⟨rfl, hW3.out.newer hW5 (fun j hj hlt => hj.elim id (fun e => by omega)), .inr ⟨n5, by rw [hG3.out, rd_err hg5], rfl⟩⟩
      have hK5 := zh (hK3.out.wr hW5 (fun e => by rcases e with e | e <;> omega)); have hW5' := zh (hW3.out.newer hW5 (fun j hj hlt => hj.elim id (fun e => by omega))); obtain ⟨fl1, fl2, fl3⟩ := gCon_flat hg5; replace hg5 := zh hg5; replace hI5 := zh hI5; replace fl1 := zh fl1; replace fl2 := zh fl2; replace fl3 := zh fl3; clear hW5 x0; go_wp2_with fail; refine (is_any hR5 hs he 11).mono ?_; rintro e' w6 ⟨hW6, ⟨z, a6, v', hg6, ha6, rfl, rfl, hR6⟩ | ⟨n6, hg6, rfl⟩⟩
      rotate_left
      · exact ⟨rfl, hW5'.out.trans hW6, .inr ⟨n6, by rw [hG3.out, rd_bind hg5.out, rd_err hg6], rfl⟩⟩
      have hK6 := hK5.out.wr hW6 (by omega); have hI6 := hI5.out.wr hW6 (by omega); have hW6' := hW5'.out.trans hW6; have hfin : G2 = .ok (o, a6) := (by rw [hG3.out, rd_bind hg5.out, rd_bind hg6])
      have y0 := hI6.cell (j := 0) rfl; have y1 := hI6.cell (j := 1) rfl; have y2 := hI6.cell (j := 2) rfl; have y3 := hI6.cell (j := 3) rfl; have y4 := hI6.cell (j := 4) rfl; have y5 := hI6.cell (j := 5) rfl; have y6 := hI6.cell (j := 6) rfl; have r0 := hK6.cell (j := 0) rfl; have r1 := hK6.cell (j := 1) rfl; have r2 := hK6.cell (j := 2) rfl; have r3 := hK6.cell (j := 3) rfl; have r4 := hK6.cell (j := 4) rfl; have r5 := hK6.cell (j := 5) rfl; have r6 := hK6.cell (j := 6) rfl; have q0 := hK6.fr 0; have q1 := hK6.fr 1; have q2 := hK6.fr 2; have q3 := hK6.fr 3; have q4 := hK6.fr 4; have q5 := hK6.fr 5; have q6 := hK6.fr 6; have F := (((((((hK6.set 0 (.int .i64 t.op)).set 1 (.int .i64 t.x)).set 2 (.int .i64 t.y)).set 3 (.int .i64 t.n)).set 4 (.slice t.a4 t.ls.length t.c4)).set 5 (.slice t.a5 t.body.len t.c5)).set 6 (.slice t.a6 t.els.len t.c6))
      have hRz := (((((((hR6.far (q := r) (by omega) 0 (.int .i64 t.op)).far (q := r) (by omega) 1 (.int .i64 t.x)).far (q := r) (by omega) 2 (.int .i64 t.y)).far (q := r) (by omega) 3 (.int .i64 t.n)).far (q := r) (by omega) 4 (.slice t.a4 t.ls.length t.c4)).far (q := r) (by omega) 5 (.slice t.a5 t.body.len t.c5)).far (q := r) (by omega) 6 (.slice t.a6 t.els.len t.c6))
      have hrw := Nat.le_of_eq hr.out.symm; have hWz := (((((((hW6'.fresh (q := r) hrw 0 (.int .i64 t.op)).fresh (q := r) hrw 1 (.int .i64 t.x)).fresh (q := r) hrw 2 (.int .i64 t.y)).fresh (q := r) hrw 3 (.int .i64 t.n)).fresh (q := r) hrw 4 (.slice t.a4 t.ls.length t.c4)).fresh (q := r) hrw 5 (.slice t.a5 t.body.len t.c5)).fresh (q := r) hrw 6 (.slice t.a6 t.els.len t.c6))
      replace hfin := zh hfin; replace F := zh F; replace hRz := zh hRz; replace hWz := zh hWz; clear hg6 hW6 hW6' hK6 hI6 hR6 hrw; replace hS5 := zh hS5; go_wp2_with fail; refine bodyPost_ret (results_cell_row (P := Tryz.prog) rfl _ _ r 88 (eV t).toArray (0, 0) _ rfl F.out.row Tryz.underlying88 rfl info70s) rfl ?_; exact ⟨hWz.out, .inl ⟨o, a6, _, hfin.out, ha6, ⟨fl1.out, fl2.out, fl3.out, t, hS5.out, rfl⟩, rfl, hRz.out⟩⟩
   · have hb1 : (op == 65) = false := (by rw [beq_eq_false_iff_ne]; exact fun e => ho (.inl e))
     have hb2 : (op == 66) = false := (by rw [beq_eq_false_iff_ne]; exact fun e => ho (.inr (.inl e)))
     have hb3 : (op == 35) = false := (by rw [beq_eq_false_iff_ne]; exact fun e => ho (.inr (.inr e)))
     have hfin : G2 = .error 50 := (by rw [hG2.out, if_neg f10.out, if_neg ho])
     replace ho := zh ho; replace hfin := zh hfin; go_wp2_with fail; refine (dwant_no 50 _).mono ?_; rintro e' w4 ⟨rfl, rfl⟩; exact ⟨rfl, hW3.out, .inr ⟨50, hfin.out, rfl⟩⟩
end Go.Proofs.YtkbfjkbokifgkaaGreatDoor
