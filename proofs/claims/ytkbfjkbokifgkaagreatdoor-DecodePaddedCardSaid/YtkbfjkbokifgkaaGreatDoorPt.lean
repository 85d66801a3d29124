/- The reader's parts of an instruction. -/
import Derived.Test.YtkbfjkbokifgkaaGreatDoorCb
import Derived.Deep.RegionWith
namespace Go.Proofs.YtkbfjkbokifgkaaGreatDoor
open Go.RowKit
set_option linter.unusedVariables false
set_option linter.unusedSimpArgs false
structure InsAt (w : World) (q : Nat) (t : ERec) : Prop where
 row : w.heap[q]? = some (.cells (eV t).toArray 88 (0, 0))
theorem InsAt.cell {w : World} {q : Nat} {t : ERec} (h : InsAt w q t) {j : Nat} {u : Value} (hj : (eV t)[j]? = some u) : w.cell? ⟨q, j, none⟩ = some u := by rw [cell_of_row w q j _ _ _ h.row]; simpa using hj
theorem InsAt.fr {w : World} {q : Nat} {t : ERec} (h : InsAt w q t) (j : Nat) : w.frozen? ⟨q, j, none⟩ = false := frozen_of_row w q j _ _ h.row
theorem InsAt.lt {w : World} {q : Nat} {t : ERec} (h : InsAt w q t) : q < w.heap.size := (Array.getElem?_eq_some_iff.1 h.row).1
theorem InsAt.wr {S : Nat → Prop} {w w' : World} {q : Nat} {t : ERec} (h : InsAt w q t) (k : Wr S w w') (hq : ¬ S q) : InsAt w' q t := ⟨(k.block q h.lt hq).trans h.row⟩
theorem InsAt.below {w w' : World} {q : Nat} {t : ERec} (h : InsAt w q t) (k : Below w.heap.size w w') : InsAt w' q t := ⟨(k.block q h.lt).trans h.row⟩
theorem InsAt.setx {w : World} {q : Nat} {t : ERec} (h : InsAt w q t) (x : Int) : InsAt (w.setCell ⟨q, 1, none⟩ (.int .i64 x)) q { t with x := x } := ⟨by rw [heap_setCell_same w q 1 _ _ _ h.row]; rfl⟩
theorem InsAt.sety {w : World} {q : Nat} {t : ERec} (h : InsAt w q t) (x : Int) : InsAt (w.setCell ⟨q, 2, none⟩ (.int .i64 x)) q { t with y := x } := ⟨by rw [heap_setCell_same w q 2 _ _ _ h.row]; rfl⟩
theorem InsAt.setn {w : World} {q : Nat} {t : ERec} (h : InsAt w q t) (x : Int) : InsAt (w.setCell ⟨q, 3, none⟩ (.int .i64 x)) q { t with n := x } := ⟨by rw [heap_setCell_same w q 3 _ _ _ h.row]; rfl⟩
theorem InsAt.setl {w : World} {q : Nat} {t : ERec} (h : InsAt w q t) (ls : List Int) (a : Option Addr) (c : Nat) : InsAt (w.setCell ⟨q, 4, none⟩ (.slice a ls.length c)) q { t with ls := ls, a4 := a, c4 := c } := ⟨by rw [heap_setCell_same w q 4 _ _ _ h.row]; rfl⟩
theorem InsAt.setb {w : World} {q : Nat} {t : ERec} (h : InsAt w q t) (l : Il) (a : Option Addr) (c : Nat) : InsAt (w.setCell ⟨q, 5, none⟩ (.slice a l.len c)) q { t with body := l, a5 := a, c5 := c } := ⟨by rw [heap_setCell_same w q 5 _ _ _ h.row]; rfl⟩
theorem InsAt.sete {w : World} {q : Nat} {t : ERec} (h : InsAt w q t) (l : Il) (a : Option Addr) (c : Nat) : InsAt (w.setCell ⟨q, 6, none⟩ (.slice a l.len c)) q { t with els := l, a6 := a, c6 := c } := ⟨by rw [heap_setCell_same w q 6 _ _ _ h.row]; rfl⟩
def e0 (op : Int) : ERec := ⟨op, 0, 0, 0, [], .nil, .nil, none, 0, none, 0, none, 0⟩
def Same7 (t : ERec) (o : One) : Prop := t.op = o.op ∧ t.x = o.x ∧ t.y = o.y ∧ t.n = o.n ∧ t.ls = o.ls ∧ t.body = o.body ∧ t.els = o.els
abbrev Spq (p q : Nat) : Nat → Prop := fun k => k = p ∨ k = q
def Pd (p q : Nat) (s : ByteArray) (e : Nat) (cs : List Value) (g : Except Int ((One × Nat) × Nat)) (left : Nat) (w : World) (e' : Ending) (w' : World) : Prop :=
 Wr (Spq p q) w w' ∧ ((∃ o l' a' t, g = .ok ((o, l'), a') ∧ a' ≤ e ∧ l' ≤ left ∧ e' = .returned (.tuple #[]) ∧ RdAt w' p s ((a' : Nat) : Int) (e : Int) ((l' : Nat) : Int) cs ∧ InsAt w' q t ∧ Same7 t o ∧ EOk (fun b => w.heap.size ≤ b) w' t) ∨
  (∃ n, g = .error n ∧ e' = .panicked (flt n)))
theorem eok0 (R : Nat → Prop) (w : World) (op x y n : Int) : EOk R w ⟨op, x, y, n, [], .nil, .nil, none, 0, none, 0, none, 0⟩ := ⟨⟨by simp, .inl rfl⟩, by show (0 : Nat) ≤ _; omega, .inl rfl, by show (0 : Nat) ≤ _; omega, .inl rfl⟩
structure PAt0 (w w1 : World) (p q : Nat) (s : ByteArray) (a e l : Int) (cs : List Value) (t : ERec) : Prop where
 rd : RdAt w1 p s a e l cs
 ins : InsAt w1 q t
 b0 : w1.heap[w.heap.size]? = some (.cells #[.pointer (some ⟨p, 0, none⟩)] 60 (0, 0))
 b1 : w1.heap[w.heap.size + 1]? = some (.cells #[.pointer (some ⟨q, 0, none⟩)] 167 (0, 0))
 wr : Wr (Spq p q) w w1
theorem PAt0.start {w : World} {p q : Nat} {s : ByteArray} {a e l : Int} {cs : List Value} {t : ERec} (h : RdAt w p s a e l cs) (k : InsAt w q t) : PAt0 w ((w.alloc (.cells #[.pointer (some ⟨p, 0, none⟩)] 60)).alloc (.cells #[.pointer (some ⟨q, 0, none⟩)] 167)) p q s a e l cs t := by have hb : Below w.heap.size w ((w.alloc (.cells #[.pointer (some ⟨p, 0, none⟩)] 60)).alloc (.cells #[.pointer (some ⟨q, 0, none⟩)] 167)) := ((Below.refl _ _).alloc (Nat.le_refl _) _).alloc (by simp) _; exact ⟨h.below hb, k.below hb, (Below.heap_alloc _ _ _ (by simp)).trans (al_new' _ _ rfl), al_new' _ _ (by simp), Wr.of_below hb⟩
theorem PAt0.rdd {w w1 w2 : World} {p q : Nat} {s : ByteArray} {a e l : Int} {cs : List Value} {t : ERec} (h : PAt0 w w1 p q s a e l cs t) (hp : p < w.heap.size) (hpq : p ≠ q) {a' e' l' : Int} (k : Wr (· = p) w1 w2) (r : RdAt w2 p s a' e' l' cs) : PAt0 w w2 p q s a' e' l' cs t :=
 ⟨r, h.ins.wr k (fun e => hpq e.symm), (k.block _ (Array.getElem?_eq_some_iff.1 h.b0).1 (by show ¬ _ = p; omega)).trans h.b0, (k.block _ (Array.getElem?_eq_some_iff.1 h.b1).1 (by show ¬ _ = p; omega)).trans h.b1, h.wr.trans (k.mono fun _ e => .inl e)⟩
theorem PAt0.below {w w1 w2 : World} {p q : Nat} {s : ByteArray} {a e l : Int} {cs : List Value} {t : ERec} (h : PAt0 w w1 p q s a e l cs t) (k : Below w1.heap.size w1 w2) : PAt0 w w2 p q s a e l cs t :=
 ⟨h.rd.below k, h.ins.below k, (k.block _ (Array.getElem?_eq_some_iff.1 h.b0).1).trans h.b0, (k.block _ (Array.getElem?_eq_some_iff.1 h.b1).1).trans h.b1, h.wr.trans (Wr.of_below k)⟩
theorem PAt0.drew {w w1 : World} {p q : Nat} {s : ByteArray} {a e l : Int} {cs : List Value} {t : ERec} (h : PAt0 w w1 p q s a e l cs t) : PAt0 w w1.drew p q s a e l cs t := h.below (Below.refl _ _).drew
theorem PAt0.put {w w1 : World} {p q : Nat} {s : ByteArray} {a e l : Int} {cs : List Value} {t t' : ERec} (h : PAt0 w w1 p q s a e l cs t) (hp : p < w.heap.size) (hq : q < w.heap.size) (hpq : p ≠ q) {j : Nat} {v : Value} (k : InsAt (w1.setCell ⟨q, j, none⟩ v) q t') : PAt0 w (w1.setCell ⟨q, j, none⟩ v) p q s a e l cs t' :=
 ⟨⟨(Below.heap_setCell _ _ _ _ hpq).trans h.rd.row, h.rd.eleven⟩, k, (Below.heap_setCell _ _ _ _ (show w.heap.size ≠ q by omega)).trans h.b0, (Below.heap_setCell _ _ _ _ (show w.heap.size + 1 ≠ q by omega)).trans h.b1, h.wr.set (S := Spq p q) (.inr rfl) j v⟩
theorem so_far {w : World} {p q : Addr} {v u : Value} (h : w.cell? p = some v) (hb : q.block ≠ p.block) : (w.setCell q u).cell? p = some v := by rw [World.cell?_setCell_far _ q p _ hb]; exact h
set_option maxRecDepth 100000 in
set_option maxHeartbeats 8000000 in
theorem parts_46 {w : World} {p q : Nat} {s : ByteArray} {a e left : Nat} {cs : List Value} {op : Int} (h : RdAt w p s (a : Int) (e : Int) (left : Int) cs) (k : InsAt w q (e0 op)) (hpq : p ≠ q) (hs : s.size ≤ 262144) (he : e ≤ s.size) (ha : a ≤ e) (d : Int)
 (hf : formV op = 4 ∨ formV op = 6) :
 Calls Tryz.prog 178 #[.pointer (some ⟨p, 0, none⟩), .pointer (some ⟨q, 0, none⟩), .int .i64 d] w
  (Pd p q s e cs ((gU (strl s) e a).bind fun z => .ok ((⟨op, z.1, 0, 0, [], .nil, .nil⟩, left), z.2)) left w) := by
 have hP := PAt0.start h k; have hpl := h.lt; have hql := k.lt; clear h k; have c0 := cell0 hP.b0; have c1 := cell0 hP.b1; have i0 := hP.ins.cell (j := 0) rfl; replace hP := zh hP; go_enter Tryz.func178, Tryz.ntmps178; go_wp2_with fail; refine (form_any op _).mono ?_; rintro e' w2 ⟨rfl, hB⟩; replace hP := hP.out.below hB; clear hB c0 c1 i0; have c0 := cell0 hP.b0; have c1 := cell0 hP.b1; obtain ⟨f, hff⟩ : ∃ f, f = formV op := ⟨_, rfl⟩
 rw [← hff] at hf ⊢; replace hff := zh hff
 rcases hf with rfl | rfl
 all_goals
  replace hP := zh hP; go_wp2_with fail
  go_region_with
   (first | (go_at_call 126; refine (u_any hP.out.drew.rd hs he ha).mono ?_; rintro e' w4 ⟨hW, ⟨v, a', v', hg, ha', ⟨rfl, hv0, hv1⟩, rfl, hR⟩ | ⟨n, hg, rfl⟩⟩; rotate_left; exact ⟨rfl, hP.out.drew.wr.trans (hW.mono fun _ e => .inl e), .inr ⟨n, by rw [rd_err hg], rfl⟩⟩; have hP4 := hP.out.drew.rdd hpl hpq hW hR; have k0 := cell0 hP4.b0; have k1 := cell0 hP4.b1; have i1 := hP4.ins.cell (j := 1) rfl; have f1 := hP4.ins.fr 1; have k0' : ∀ u, (w4.setCell ⟨q, 1, none⟩ u).cell? ⟨w.heap.size, 0, none⟩ = _ := fun u => so_far k0 (by show q ≠ w.heap.size; omega); have k1' : ∀ u, (w4.setCell ⟨q, 1, none⟩ u).cell? ⟨w.heap.size + 1, 0, none⟩ = _ := fun u => so_far k1 (by show q ≠ w.heap.size + 1; omega); replace hP4 := zh hP4; replace hg := zh hg; clear hR hW))
  all_goals
   go_wp2_with fail; go_end0; have hP2 := hP4.out.put hpl hql hpq (hP4.out.ins.setx v); exact ⟨hP2.wr, .inl ⟨⟨op, v, 0, 0, [], .nil, .nil⟩, left, a', _, by rw [rd_bind hg.out], ha', Nat.le_refl _, rfl, hP2.rd, hP2.ins, ⟨rfl, rfl, rfl, rfl, rfl, rfl, rfl⟩, eok0 _ _ op v 0 0⟩⟩
set_option maxRecDepth 100000 in
set_option maxHeartbeats 8000000 in
theorem parts_9i {w : World} {p q : Nat} {s : ByteArray} {a e left : Nat} {cs : List Value} {op : Int} (h : RdAt w p s (a : Int) (e : Int) (left : Int) cs) (k : InsAt w q (e0 op)) (hpq : p ≠ q) (hs : s.size ≤ 262144) (he : e ≤ s.size) (ha : a ≤ e) (d : Int)
 (hf : formV op = 9) (ho : op = 65) :
 Calls Tryz.prog 178 #[.pointer (some ⟨p, 0, none⟩), .pointer (some ⟨q, 0, none⟩), .int .i64 d] w
  (Pd p q s e cs ((gS32 (strl s) e a).bind fun q => .ok ((⟨op, 0, 0, q.1, [], .nil, .nil⟩, left), q.2)) left w) := by
 have hP := PAt0.start h k; have hpl := h.lt; have hql := k.lt; clear h k; have ho' : (op == 65) = true := (by rw [ho]; rfl)
 replace hf := zh hf; replace ho := zh ho; have c0 := cell0 hP.b0; have c1 := cell0 hP.b1; have i0 := hP.ins.cell (j := 0) rfl; replace hP := zh hP; go_enter Tryz.func178, Tryz.ntmps178; go_wp2_with fail; refine (form_any op _).mono ?_; rintro e' w2 ⟨rfl, hB⟩; replace hP := hP.out.below hB; clear hB c0 c1 i0; have c0 := cell0 hP.b0; have c1 := cell0 hP.b1; rw [hf.out]; have i0 := hP.ins.cell (j := 0) (u := .int .i64 op) rfl; replace hP := zh hP; go_wp2_with fail
 go_region_with
  (first | (go_at_call 190; refine (s32_any hP.out.drew.rd hs he ha).mono ?_; rintro e' w4 ⟨hW, ⟨v, a', v', hg, ha', ⟨rfl, hv0, hv1⟩, rfl, hR⟩ | ⟨n, hg, rfl⟩⟩; rotate_left; exact ⟨rfl, hP.out.drew.wr.trans (hW.mono fun _ e => .inl e), .inr ⟨n, by rw [rd_err hg], rfl⟩⟩; have hP4 := hP.out.drew.rdd hpl hpq hW hR; have k0 := cell0 hP4.b0; have k1 := cell0 hP4.b1; have i1 := hP4.ins.cell (j := 3) rfl; have f1 := hP4.ins.fr 3; have k0' : ∀ u, (w4.setCell ⟨q, 3, none⟩ u).cell? ⟨w.heap.size, 0, none⟩ = _ := fun u => so_far k0 (by show q ≠ w.heap.size; omega); have k1' : ∀ u, (w4.setCell ⟨q, 3, none⟩ u).cell? ⟨w.heap.size + 1, 0, none⟩ = _ := fun u => so_far k1 (by show q ≠ w.heap.size + 1; omega); replace hP4 := zh hP4; replace hg := zh hg; clear hR hW))
 all_goals
  go_wp2_with fail; go_end0; have hP2 := hP4.out.put hpl hql hpq (hP4.out.ins.setn v); exact ⟨hP2.wr, .inl ⟨⟨op, 0, 0, v, [], .nil, .nil⟩, left, a', _, by rw [rd_bind hg.out], ha', Nat.le_refl _, rfl, hP2.rd, hP2.ins, ⟨rfl, rfl, rfl, rfl, rfl, rfl, rfl⟩, eok0 _ _ op 0 0 v⟩⟩
set_option maxRecDepth 100000 in
set_option maxHeartbeats 8000000 in
theorem parts_9l {w : World} {p q : Nat} {s : ByteArray} {a e left : Nat} {cs : List Value} {op : Int} (h : RdAt w p s (a : Int) (e : Int) (left : Int) cs) (k : InsAt w q (e0 op)) (hpq : p ≠ q) (hs : s.size ≤ 262144) (he : e ≤ s.size) (ha : a ≤ e) (d : Int)
 (hf : formV op = 9) (ho : ¬ op = 65) :
 Calls Tryz.prog 178 #[.pointer (some ⟨p, 0, none⟩), .pointer (some ⟨q, 0, none⟩), .int .i64 d] w
  (Pd p q s e cs ((gS64 (strl s) e a).bind fun q => .ok ((⟨op, 0, 0, q.1, [], .nil, .nil⟩, left), q.2)) left w) := by
 have hP := PAt0.start h k; have hpl := h.lt; have hql := k.lt; clear h k; have ho' : (op == 65) = false := (by rw [beq_eq_false_iff_ne]; exact ho)
 replace hf := zh hf; replace ho := zh ho; have c0 := cell0 hP.b0; have c1 := cell0 hP.b1; have i0 := hP.ins.cell (j := 0) rfl; replace hP := zh hP; go_enter Tryz.func178, Tryz.ntmps178; go_wp2_with fail; refine (form_any op _).mono ?_; rintro e' w2 ⟨rfl, hB⟩; replace hP := hP.out.below hB; clear hB c0 c1 i0; have c0 := cell0 hP.b0; have c1 := cell0 hP.b1; rw [hf.out]; have i0 := hP.ins.cell (j := 0) (u := .int .i64 op) rfl; replace hP := zh hP; go_wp2_with fail
 go_region_with
  (first | (go_at_call 190; refine (s64_any hP.out.drew.rd hs he ha).mono ?_; rintro e' w4 ⟨hW, ⟨v, a', v', hg, ha', ⟨rfl, hv0, hv1⟩, rfl, hR⟩ | ⟨n, hg, rfl⟩⟩; rotate_left; exact ⟨rfl, hP.out.drew.wr.trans (hW.mono fun _ e => .inl e), .inr ⟨n, by rw [rd_err hg], rfl⟩⟩; have hP4 := hP.out.drew.rdd hpl hpq hW hR; have k0 := cell0 hP4.b0; have k1 := cell0 hP4.b1; have i1 := hP4.ins.cell (j := 3) rfl; have f1 := hP4.ins.fr 3; have k0' : ∀ u, (w4.setCell ⟨q, 3, none⟩ u).cell? ⟨w.heap.size, 0, none⟩ = _ := fun u => so_far k0 (by show q ≠ w.heap.size; omega); have k1' : ∀ u, (w4.setCell ⟨q, 3, none⟩ u).cell? ⟨w.heap.size + 1, 0, none⟩ = _ := fun u => so_far k1 (by show q ≠ w.heap.size + 1; omega); replace hP4 := zh hP4; replace hg := zh hg; clear hR hW))
 all_goals
  go_wp2_with fail; go_end0; have hP2 := hP4.out.put hpl hql hpq (hP4.out.ins.setn v); exact ⟨hP2.wr, .inl ⟨⟨op, 0, 0, v, [], .nil, .nil⟩, left, a', _, by rw [rd_bind hg.out], ha', Nat.le_refl _, rfl, hP2.rd, hP2.ins, ⟨rfl, rfl, rfl, rfl, rfl, rfl, rfl⟩, eok0 _ _ op 0 0 v⟩⟩
set_option maxRecDepth 100000 in
set_option maxHeartbeats 8000000 in
theorem parts_7 {w : World} {p q : Nat} {s : ByteArray} {a e left : Nat} {cs : List Value} {op : Int} (h : RdAt w p s (a : Int) (e : Int) (left : Int) cs) (k : InsAt w q (e0 op)) (hpq : p ≠ q) (hs : s.size ≤ 262144) (he : e ≤ s.size) (ha : a ≤ e) (d : Int)
 (hf : formV op = 7) :
 Calls Tryz.prog 178 #[.pointer (some ⟨p, 0, none⟩), .pointer (some ⟨q, 0, none⟩), .int .i64 d] w
  (Pd p q s e cs ((gU (strl s) e a).bind fun z => (gIs (strl s) e z.2 0).bind fun y => .ok ((⟨op, z.1, 0, 0, [], .nil, .nil⟩, left), y.2)) left w) := by
 have hP := PAt0.start h k; have hpl := h.lt; have hql := k.lt; clear h k; replace hf := zh hf; have c0 := cell0 hP.b0; have c1 := cell0 hP.b1; have i0 := hP.ins.cell (j := 0) rfl; replace hP := zh hP; go_enter Tryz.func178, Tryz.ntmps178; go_wp2_with fail; refine (form_any op _).mono ?_; rintro e' w2 ⟨rfl, hB⟩; replace hP := hP.out.below hB; clear hB c0 c1 i0; have c0 := cell0 hP.b0; have c1 := cell0 hP.b1; rw [hf.out]; replace hP := zh hP; go_wp2_with fail
 go_region_with
  (first | (go_at_call 126; refine (u_any hP.out.drew.rd hs he ha).mono ?_; rintro e' w4 ⟨hW, ⟨v, a', v', hg, ha', ⟨rfl, hv0, hv1⟩, rfl, hR⟩ | ⟨n, hg, rfl⟩⟩; rotate_left; exact ⟨rfl, hP.out.drew.wr.trans (hW.mono fun _ e => .inl e), .inr ⟨n, by rw [rd_err hg], rfl⟩⟩; have hP4 := hP.out.drew.rdd hpl hpq hW hR; have k0 := cell0 hP4.b0; have k1 := cell0 hP4.b1; have i1 := hP4.ins.cell (j := 1) rfl; have f1 := hP4.ins.fr 1; have k0' : ∀ u, (w4.setCell ⟨q, 1, none⟩ u).cell? ⟨w.heap.size, 0, none⟩ = _ := fun u => so_far k0 (by show q ≠ w.heap.size; omega); have k1' : ∀ u, (w4.setCell ⟨q, 1, none⟩ u).cell? ⟨w.heap.size + 1, 0, none⟩ = _ := fun u => so_far k1 (by show q ≠ w.heap.size + 1; omega); replace hP4 := zh hP4; replace hg := zh hg; clear hR hW))
 all_goals
  have hP5 := hP4.out.put hpl hql hpq (hP4.out.ins.setx v); clear k0 k1 i1 f1 k0' k1' hP4; obtain ⟨w5, hw5⟩ : ∃ w5, w5 = w4.setCell ⟨q, 1, none⟩ (.int .i64 v) := ⟨_, rfl⟩
  rw [← hw5] at hP5 ⊢; clear hw5 c0 c1; have c0 := cell0 hP5.b0; have c1 := cell0 hP5.b1; replace hP5 := zh hP5; go_wp2_with fail; refine (is_any hP5.out.rd hs he 0).mono ?_; rintro e' w6 ⟨hW, ⟨y, a2, v', hg2, ha2, rfl, rfl, hR⟩ | ⟨n, hg2, rfl⟩⟩
  · replace hP5 := hP5.out.rdd hpl hpq hW hR; replace hg2 := zh hg2; clear hR hW; go_wp2_with fail; go_end0; exact ⟨hP5.wr, .inl ⟨⟨op, v, 0, 0, [], .nil, .nil⟩, left, a2, _, by rw [rd_bind hg.out, rd_bind hg2.out], ha2, Nat.le_refl _, rfl, hP5.rd, hP5.ins, ⟨rfl, rfl, rfl, rfl, rfl, rfl, rfl⟩, eok0 _ _ op v 0 0⟩⟩
  · exact ⟨rfl, hP5.out.wr.trans (hW.mono fun _ e => .inl e), .inr ⟨n, by rw [rd_bind hg.out, rd_err hg2], rfl⟩⟩
set_option maxRecDepth 100000 in
set_option maxHeartbeats 8000000 in
theorem parts_8 {w : World} {p q : Nat} {s : ByteArray} {a e left : Nat} {cs : List Value} {op : Int} (h : RdAt w p s (a : Int) (e : Int) (left : Int) cs) (k : InsAt w q (e0 op)) (hpq : p ≠ q) (hs : s.size ≤ 262144) (he : e ≤ s.size) (ha : a ≤ e) (d : Int)
 (hf : formV op = 8) :
 Calls Tryz.prog 178 #[.pointer (some ⟨p, 0, none⟩), .pointer (some ⟨q, 0, none⟩), .int .i64 d] w
  (Pd p q s e cs ((gU (strl s) e a).bind fun z => (gU (strl s) e z.2).bind fun y => .ok ((⟨op, z.1, y.1, 0, [], .nil, .nil⟩, left), y.2)) left w) := by
 have hP := PAt0.start h k; have hpl := h.lt; have hql := k.lt; clear h k; replace hf := zh hf; have c0 := cell0 hP.b0; have c1 := cell0 hP.b1; have i0 := hP.ins.cell (j := 0) rfl; replace hP := zh hP; go_enter Tryz.func178, Tryz.ntmps178; go_wp2_with fail; refine (form_any op _).mono ?_; rintro e' w2 ⟨rfl, hB⟩; replace hP := hP.out.below hB; clear hB c0 c1 i0; have c0 := cell0 hP.b0; have c1 := cell0 hP.b1; rw [hf.out]; replace hP := zh hP; go_wp2_with fail
 go_region_with
  (first | (go_at_call 126; refine (u_any hP.out.drew.rd hs he ha).mono ?_; rintro e' w4 ⟨hW, ⟨v, a', v', hg, ha', ⟨rfl, hv0, hv1⟩, rfl, hR⟩ | ⟨n, hg, rfl⟩⟩; rotate_left; exact ⟨rfl, hP.out.drew.wr.trans (hW.mono fun _ e => .inl e), .inr ⟨n, by rw [rd_err hg], rfl⟩⟩; have hP4 := hP.out.drew.rdd hpl hpq hW hR; have k0 := cell0 hP4.b0; have k1 := cell0 hP4.b1; have i1 := hP4.ins.cell (j := 1) rfl; have f1 := hP4.ins.fr 1; have k0' : ∀ u, (w4.setCell ⟨q, 1, none⟩ u).cell? ⟨w.heap.size, 0, none⟩ = _ := fun u => so_far k0 (by show q ≠ w.heap.size; omega); have k1' : ∀ u, (w4.setCell ⟨q, 1, none⟩ u).cell? ⟨w.heap.size + 1, 0, none⟩ = _ := fun u => so_far k1 (by show q ≠ w.heap.size + 1; omega); replace hP4 := zh hP4; replace hg := zh hg; clear hR hW))
 all_goals
  have haa := ha'; clear ha'; have hP5 := hP4.out.put hpl hql hpq (hP4.out.ins.setx v); clear k0 k1 i1 f1 k0' k1' hP4; obtain ⟨w5, hw5⟩ : ∃ w5, w5 = w4.setCell ⟨q, 1, none⟩ (.int .i64 v) := ⟨_, rfl⟩
  rw [← hw5] at hP5 ⊢; clear hw5 c0 c1; have c0 := cell0 hP5.b0; have c1 := cell0 hP5.b1; replace hP5 := zh hP5; go_wp2_with fail
  go_region_with
   (first | (go_at_call 126; refine (u_any hP5.out.drew.rd hs he haa).mono ?_; rintro e' w6 ⟨hW, ⟨y, a2, v', hg2, ha', ⟨rfl, hy0, hy1⟩, rfl, hR⟩ | ⟨n, hg2, rfl⟩⟩; rotate_left; exact ⟨rfl, hP5.out.drew.wr.trans (hW.mono fun _ e => .inl e), .inr ⟨n, by rw [rd_bind hg.out, rd_err hg2], rfl⟩⟩; have hP4 := hP5.out.drew.rdd hpl hpq hW hR; have k0 := cell0 hP4.b0; have k1 := cell0 hP4.b1; have i1 := hP4.ins.cell (j := 2) rfl; have f1 := hP4.ins.fr 2; have k0' : ∀ u, (w6.setCell ⟨q, 2, none⟩ u).cell? ⟨w.heap.size, 0, none⟩ = _ := fun u => so_far k0 (by show q ≠ w.heap.size; omega); have k1' : ∀ u, (w6.setCell ⟨q, 2, none⟩ u).cell? ⟨w.heap.size + 1, 0, none⟩ = _ := fun u => so_far k1 (by show q ≠ w.heap.size + 1; omega); replace hP4 := zh hP4; replace hg2 := zh hg2; clear hR hW))
  all_goals
   go_wp2_with fail; go_end0; have hP6 := hP4.out.put hpl hql hpq (hP4.out.ins.sety y); exact ⟨hP6.wr, .inl ⟨⟨op, v, y, 0, [], .nil, .nil⟩, left, a2, _, by rw [rd_bind hg.out, rd_bind hg2.out], ha', Nat.le_refl _, rfl, hP6.rd, hP6.ins, ⟨rfl, rfl, rfl, rfl, rfl, rfl, rfl⟩, eok0 _ _ op v y 0⟩⟩
end Go.Proofs.YtkbfjkbokifgkaaGreatDoor
