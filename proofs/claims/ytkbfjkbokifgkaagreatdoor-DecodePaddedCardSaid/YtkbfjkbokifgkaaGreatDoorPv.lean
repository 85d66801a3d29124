/- The reader's parts of an instruction: plain ones, and blocks. -/
import Derived.Test.YtkbfjkbokifgkaaGreatDoorPu
import Derived.Test.YtkbfjkbokifgkaaGreatDoorLe
import Derived.Deep.RegionHeld2
namespace Go.Proofs.YtkbfjkbokifgkaaGreatDoor
open Go.RowKit
set_option linter.unusedVariables false
set_option linter.unusedSimpArgs false
def Ld (p : Nat) (s : ByteArray) (e : Nat) (cs : List Value) (g : Except Int ((Il × Bool × Nat) × Nat)) (left : Nat) (w : World) (e' : Ending) (w' : World) : Prop :=
 Wr (· = p) w w' ∧ ((∃ il b l' a' ao c, g = .ok ((il, b, l'), a') ∧ a' ≤ e ∧ l' ≤ left ∧ e' = .returned (.tuple #[.slice ao il.len c, .bool b]) ∧ RdAt w' p s ((a' : Nat) : Int) (e : Int) ((l' : Nat) : Int) cs ∧ il.len ≤ 9223372036854775807 ∧ SlR (fun b => w.heap.size ≤ b) w' ao il) ∨
  (∃ n, g = .error n ∧ e' = .panicked (flt n)))
theorem keeps_wr {p N : Nat} {w w' : World} (h : Wr (· = p) w w') (hp : p < N) : KeepsR (fun b => N ≤ b) (fun b => N ≤ b) w w' := ⟨fun a v hb hc => by
 have hs := World.cell?_spot hc; obtain ⟨b, o, s⟩ := a; cases hs; have hlt := World.block_lt_of_cell? _ _ hc; rw [World.cell?_of_block (w := w) (w' := w') (h.block b hlt (by show ¬ b = p; have : N ≤ b := hb; omega))]; exact hc, fun b hb _ => hb⟩
theorem keeps_set {q N j : Nat} {v : Value} {w : World} (hq : q < N) : KeepsR (fun b => N ≤ b) (fun b => N ≤ b) w (w.setCell ⟨q, j, none⟩ v) := ⟨fun a u hb hc => so_far hc (by show q ≠ a.block; have : N ≤ a.block := hb; omega), fun b hb _ => hb⟩
theorem keeps_drew' {R : Nat → Prop} (w : World) : KeepsR R R w w.drew := ⟨fun _ _ _ h => h, fun _ h _ => h⟩
theorem SlR.low {N M : Nat} {w : World} {a : Option Addr} {l : Il} (h : SlR (fun b => M ≤ b) w a l) (hN : N ≤ M) : SlR (fun b => N ≤ b) w a l := h.keep ⟨fun _ _ _ h => h, fun b hb _ => Nat.le_trans hN hb⟩
def ListOk (s : ByteArray) (k : Nat) : Prop := ∀ (w : World) (p a e left : Nat) (cs : List Value) (depth : Nat) (halves : Bool), RdAt w p s (a : Int) (e : Int) (left : Int) cs → s.size ≤ 262144 → e ≤ s.size → a ≤ e → e - a < k → depth ≤ 65 → left ≤ 65536 →
 Calls Tryz.prog 140 #[.pointer (some ⟨p, 0, none⟩), .int .i64 (depth : Int), .bool halves] w (Ld p s e cs (gList (strl s) e k depth halves left a) left w)
set_option maxRecDepth 100000 in
set_option maxHeartbeats 8000000 in
theorem parts_1a {w : World} {p q : Nat} {s : ByteArray} {a e left : Nat} {cs : List Value} {op : Int} (h : RdAt w p s (a : Int) (e : Int) (left : Int) cs) (k : InsAt w q (e0 op)) (hpq : p ≠ q) (hs : s.size ≤ 262144) (he : e ≤ s.size) (ha : a ≤ e) (d : Int)
 (hf : formV op = 1) (ho : op = 63) :
 Calls Tryz.prog 178 #[.pointer (some ⟨p, 0, none⟩), .pointer (some ⟨q, 0, none⟩), .int .i64 d] w
  (Pd p q s e cs ((gIs (strl s) e a 0).bind fun q => .ok ((⟨op, 0, 0, 0, [], .nil, .nil⟩, left), q.2)) left w) := by
 have hP := PAt0.start h k; have hpl := h.lt; have hql := k.lt; clear h k; replace hf := zh hf; have ho' : (op == 63) = true := (by rw [ho]; rfl)
 replace ho := zh ho; have c0 := cell0 hP.b0; have c1 := cell0 hP.b1; have i0 := hP.ins.cell (j := 0) rfl; replace hP := zh hP; go_enter Tryz.func178, Tryz.ntmps178; go_wp2_with fail; refine (form_any op _).mono ?_; rintro e' w2 ⟨rfl, hB⟩; replace hP := hP.out.below hB; clear hB c0 c1 i0; have c0 := cell0 hP.b0; have c1 := cell0 hP.b1; rw [hf.out]; have i0 := hP.ins.cell (j := 0) (u := .int .i64 op) rfl; replace hP := zh hP; go_wp2_with fail; refine (is_any hP.out.rd hs he 0).mono ?_; rintro e' w6 ⟨hW, ⟨y, a2, v', hg2, ha2, rfl, rfl, hR⟩ | ⟨n, hg2, rfl⟩⟩
 · replace hP := hP.out.rdd hpl hpq hW hR; replace hg2 := zh hg2; clear hR hW; go_wp2_with fail; go_end0; exact ⟨hP.wr, .inl ⟨⟨op, 0, 0, 0, [], .nil, .nil⟩, left, a2, _, by rw [rd_bind hg2.out], ha2, Nat.le_refl _, rfl, hP.rd, hP.ins, ⟨rfl, rfl, rfl, rfl, rfl, rfl, rfl⟩, eok0 _ _ op 0 0 0⟩⟩
 · exact ⟨rfl, hP.out.wr.trans (hW.mono fun _ e => .inl e), .inr ⟨n, by rw [rd_err hg2], rfl⟩⟩
set_option maxRecDepth 100000 in
set_option maxHeartbeats 8000000 in
theorem parts_1b {w : World} {p q : Nat} {s : ByteArray} {a e left : Nat} {cs : List Value} {op : Int} (h : RdAt w p s (a : Int) (e : Int) (left : Int) cs) (k : InsAt w q (e0 op)) (hpq : p ≠ q) (hs : s.size ≤ 262144) (he : e ≤ s.size) (ha : a ≤ e) (d : Int)
 (hf : formV op = 1) (hn : ¬ op = 63) (ho : op = 64) :
 Calls Tryz.prog 178 #[.pointer (some ⟨p, 0, none⟩), .pointer (some ⟨q, 0, none⟩), .int .i64 d] w
  (Pd p q s e cs ((gIs (strl s) e a 0).bind fun q => .ok ((⟨op, 0, 0, 0, [], .nil, .nil⟩, left), q.2)) left w) := by
 have hP := PAt0.start h k; have hpl := h.lt; have hql := k.lt; clear h k; replace hf := zh hf; have hn' : (op == 63) = false := (by rw [beq_eq_false_iff_ne]; exact hn)
 have ho' : (op == 64) = true := (by rw [ho]; rfl)
 replace ho := zh ho; replace hn := zh hn; have c0 := cell0 hP.b0; have c1 := cell0 hP.b1; have i0 := hP.ins.cell (j := 0) rfl; replace hP := zh hP; go_enter Tryz.func178, Tryz.ntmps178; go_wp2_with fail; refine (form_any op _).mono ?_; rintro e' w2 ⟨rfl, hB⟩; replace hP := hP.out.below hB; clear hB c0 c1 i0; have c0 := cell0 hP.b0; have c1 := cell0 hP.b1; rw [hf.out]; have i0 := hP.ins.cell (j := 0) (u := .int .i64 op) rfl; replace hP := zh hP; go_wp2_with fail; refine (is_any hP.out.rd hs he 0).mono ?_; rintro e' w6 ⟨hW, ⟨y, a2, v', hg2, ha2, rfl, rfl, hR⟩ | ⟨n, hg2, rfl⟩⟩
 · replace hP := hP.out.rdd hpl hpq hW hR; replace hg2 := zh hg2; clear hR hW; go_wp2_with fail; go_end0; exact ⟨hP.wr, .inl ⟨⟨op, 0, 0, 0, [], .nil, .nil⟩, left, a2, _, by rw [rd_bind hg2.out], ha2, Nat.le_refl _, rfl, hP.rd, hP.ins, ⟨rfl, rfl, rfl, rfl, rfl, rfl, rfl⟩, eok0 _ _ op 0 0 0⟩⟩
 · exact ⟨rfl, hP.out.wr.trans (hW.mono fun _ e => .inl e), .inr ⟨n, by rw [rd_err hg2], rfl⟩⟩
set_option maxRecDepth 100000 in
set_option maxHeartbeats 8000000 in
theorem parts_1c {w : World} {p q : Nat} {s : ByteArray} {a e left : Nat} {cs : List Value} {op : Int} (h : RdAt w p s (a : Int) (e : Int) (left : Int) cs) (k : InsAt w q (e0 op)) (hpq : p ≠ q) (hs : s.size ≤ 262144) (he : e ≤ s.size) (ha : a ≤ e) (d : Int)
 (hf : formV op = 1) (hn : ¬ op = 63) (ho : ¬ op = 64) :
 Calls Tryz.prog 178 #[.pointer (some ⟨p, 0, none⟩), .pointer (some ⟨q, 0, none⟩), .int .i64 d] w
  (Pd p q s e cs (Except.ok ((⟨op, 0, 0, 0, [], .nil, .nil⟩, left), a)) left w) := by
 have hP := PAt0.start h k; have hpl := h.lt; have hql := k.lt; clear h k; replace hf := zh hf; have hn' : (op == 63) = false := (by rw [beq_eq_false_iff_ne]; exact hn)
 have ho' : (op == 64) = false := (by rw [beq_eq_false_iff_ne]; exact ho)
 replace ho := zh ho; replace hn := zh hn; have c0 := cell0 hP.b0; have c1 := cell0 hP.b1; have i0 := hP.ins.cell (j := 0) rfl; replace hP := zh hP; go_enter Tryz.func178, Tryz.ntmps178; go_wp2_with fail; refine (form_any op _).mono ?_; rintro e' w2 ⟨rfl, hB⟩; replace hP := hP.out.below hB; clear hB c0 c1 i0; have c0 := cell0 hP.b0; have c1 := cell0 hP.b1; rw [hf.out]; have i0 := hP.ins.cell (j := 0) (u := .int .i64 op) rfl; replace hP := zh hP; go_wp2_with fail; go_end0; exact ⟨hP.out.wr, .inl ⟨⟨op, 0, 0, 0, [], .nil, .nil⟩, left, a, _, rfl, ha, Nat.le_refl _, rfl, hP.out.rd, hP.out.ins, ⟨rfl, rfl, rfl, rfl, rfl, rfl, rfl⟩, eok0 _ _ op 0 0 0⟩⟩
set_option maxRecDepth 100000 in
set_option maxHeartbeats 8000000 in
theorem parts_23 {w : World} {p q : Nat} {s : ByteArray} {a e left : Nat} {cs : List Value} {op : Int} (h : RdAt w p s (a : Int) (e : Int) (left : Int) cs) (hk : InsAt w q (e0 op)) (hpq : p ≠ q) (hs : s.size ≤ 262144) (he : e ≤ s.size) (ha : a ≤ e) (d : Nat) (hd : d ≤ 64) (hl : left ≤ 65536) {k : Nat} (ih : ListOk s k) (hfu : e - a < k)
 (hf : formV op = 2 ∨ formV op = 3) :
 Calls Tryz.prog 178 #[.pointer (some ⟨p, 0, none⟩), .pointer (some ⟨q, 0, none⟩), .int .i64 (d : Int)] w
  (Pd p q s e cs ((gResult (strl s) e a).bind fun q => (gList (strl s) e k (d + 1) (op == 4) left q.2).bind fun b =>
 if b.1.2.1 = true then (gList (strl s) e k (d + 1) false b.1.2.2 b.2).bind fun c => .ok ((⟨op, q.1, 0, 0, [], b.1.1, c.1.1⟩, c.1.2.2), c.2)
 else .ok ((⟨op, q.1, 0, 0, [], b.1.1, .nil⟩, b.1.2.2), b.2)) left w) := by
 have hP := PAt0.start h hk; have hpl := h.lt; have hql := hk.lt; clear h hk; obtain ⟨d1, hd1⟩ : ∃ d1 : Nat, d1 = d + 1 := ⟨_, rfl⟩
 have hwd : IntKind.i64.wrap ((d : Int) + 1) = (d1 : Int) := (wid64 _ (by omega) (by omega)).trans (by omega); have hd65 : d1 ≤ 65 := (by omega)
 rw [← hd1]; replace hd1 := zh hd1; replace ih := zh ih; replace hfu := zh hfu; have c0 := cell0 hP.b0; have c1 := cell0 hP.b1; have i0 := hP.ins.cell (j := 0) rfl; replace hP := zh hP; go_enter Tryz.func178, Tryz.ntmps178; go_wp2_with fail; refine (form_any op _).mono ?_; rintro e' w2 ⟨rfl, hB⟩; replace hP := hP.out.below hB; clear hB c0 c1 i0; have c0 := cell0 hP.b0; have c1 := cell0 hP.b1; obtain ⟨f, hff⟩ : ∃ f, f = formV op := ⟨_, rfl⟩
 rw [← hff] at hf ⊢; replace hff := zh hff
 rcases hf with rfl | rfl
 all_goals
  replace hP := zh hP; go_wp2_with fail
  go_region_with
   (first | (go_at_call 188; refine (rresult_any hP.out.drew.rd hs he).mono ?_; rintro e' w4 ⟨hW, ⟨v, a', v', hg, ha', ⟨rfl, hv0, hv1⟩, rfl, hR⟩ | ⟨n, hg, rfl⟩⟩; rotate_left; exact ⟨rfl, hP.out.drew.wr.trans (hW.mono fun _ e => .inl e), .inr ⟨n, by rw [rd_err hg], rfl⟩⟩; have hP4 := hP.out.drew.rdd hpl hpq hW hR; have k0 := cell0 hP4.b0; have k1 := cell0 hP4.b1; have i1 := hP4.ins.cell (j := 1) rfl; have f1 := hP4.ins.fr 1; have k0' : ∀ u, (w4.setCell ⟨q, 1, none⟩ u).cell? ⟨w.heap.size, 0, none⟩ = _ := fun u => so_far k0 (by show q ≠ w.heap.size; omega); have k1' : ∀ u, (w4.setCell ⟨q, 1, none⟩ u).cell? ⟨w.heap.size + 1, 0, none⟩ = _ := fun u => so_far k1 (by show q ≠ w.heap.size + 1; omega); replace hP4 := zh hP4; replace hg := zh hg; clear hR hW))
  all_goals
   have haa := ha'; clear ha' hP; have hga : a < a' := gResult_up _ _ _ _ hg.out; replace hga := zh hga; have hP5 := hP4.out.put hpl hql hpq (hP4.out.ins.setx v); obtain ⟨w5, hw5⟩ : ∃ w5, w5 = w4.setCell ⟨q, 1, none⟩ (.int .i64 v) := ⟨_, rfl⟩
   have kp5 : KeepsR (fun b => w.heap.size ≤ b) (fun b => w.heap.size ≤ b) w4 w5 := (by rw [hw5]; exact keeps_set hql)
   clear k0 k1 i1 f1 k0' k1' hP4 c0 c1; rw [← hw5] at hP5 ⊢; clear hw5; have c0 := cell0 hP5.b0; have c1 := cell0 hP5.b1; have i0 := hP5.ins.cell (j := 0) (u := .int .i64 op) rfl; clear kp5; replace hP5 := zh hP5
   go_upto_region 10 with (fail)
   go_region_held2 (fun w' => w'.cell? ⟨w.heap.size, 0, none⟩ = some (.pointer (some ⟨p, 0, none⟩)) ∧ w'.cell? ⟨w.heap.size + 1, 0, none⟩ = some (.pointer (some ⟨q, 0, none⟩)) ∧ w'.cell? ⟨q, 0, none⟩ = some (.int .i64 op)) (go_keep)
    ((go_at_call 140; refine (ih.out _ _ _ _ _ _ _ _ hP5.out.drew.rd hs he haa (by have := hfu.out; have := hga.out; omega) hd65 hl).mono ?_; rintro e' w6 ⟨hW, ⟨il, b, l6, a6, ao6, c6, hg6, ha6, hl6, rfl, hR, ln6, sl6⟩ | ⟨n, hg6, rfl⟩⟩; rotate_left; exact ⟨rfl, hP5.out.drew.wr.trans (hW.mono fun _ e => .inl e), .inr ⟨n, by rw [rd_bind hg.out, rd_err hg6], rfl⟩⟩; have hP6 := hP5.out.drew.rdd hpl hpq hW hR; have k0 := cell0 hP6.b0; have k1 := cell0 hP6.b1; have k2 := hP6.ins.cell (j := 0) (u := .int .i64 op) rfl; have i1 := hP6.ins.cell (j := 5) rfl; have f1 := hP6.ins.fr 5; have k0' : ∀ u, (w6.setCell ⟨q, 5, none⟩ u).cell? ⟨w.heap.size, 0, none⟩ = _ := fun u => so_far k0 (by show q ≠ w.heap.size; omega); have k1' : ∀ u, (w6.setCell ⟨q, 5, none⟩ u).cell? ⟨w.heap.size + 1, 0, none⟩ = _ := fun u => so_far k1 (by show q ≠ w.heap.size + 1; omega); have k2' : ∀ u, (w6.setCell ⟨q, 5, none⟩ u).cell? ⟨q, 0, none⟩ = _ := fun u => so_other k2 (.inr (by decide)); have hs6 : _ ≤ w6.heap.size := hW.size; replace hP6 := zh hP6; replace sl6 := zh sl6; replace hg6 := zh hg6; clear hR hW))
   all_goals
    have hP7 := hP6.out.put hpl hql hpq (hP6.out.ins.setb il ao6 c6); obtain ⟨w7, hw5⟩ : ∃ w7, w7 = w6.setCell ⟨q, 5, none⟩ (.slice ao6 il.len c6) := ⟨_, rfl⟩
    have kp7 : KeepsR (fun b => w.heap.size ≤ b) (fun b => w.heap.size ≤ b) w6 w7 := (by rw [hw5]; exact keeps_set hql)
    clear k0 k1 i1 f1 k0' k1' hP6 k2 k2' c0 c1 i0; rw [← hw5] at hP7 ⊢; clear hw5; have c0 := cell0 hP7.b0; have c1 := cell0 hP7.b1; have i0 := hP7.ins.cell (j := 0) (u := .int .i64 op) rfl; have sl7 := (sl6.out.low (N := w.heap.size) (Nat.le_trans hP5.out.wr.size (Nat.le_refl _))).keep kp7; replace sl7 := zh sl7; clear sl6 kp7 hs6 hP5; have hga6 : a' < a6 := gList_up _ _ _ _ _ _ _ _ hg6.out; replace hga6 := zh hga6; cases b
    · replace hP7 := zh hP7; go_wp2_with fail; go_end0; exact ⟨hP7.out.wr, .inl ⟨⟨op, v, 0, 0, [], il, .nil⟩, l6, a6, _, by rw [rd_bind hg.out, rd_bind hg6.out]; rfl, ha6, hl6, rfl, hP7.out.rd, hP7.out.ins, ⟨rfl, rfl, rfl, rfl, rfl, rfl, rfl⟩, ⟨⟨by simp [e0], .inl rfl⟩, ln6, sl7.out, by show (0 : Nat) ≤ _; omega, .inl rfl⟩⟩⟩
    · have hl6' : l6 ≤ 65536 := (by omega)
      replace hP7 := zh hP7
      go_upto_region 11 with (fail)
      go_region_held2 (fun w' => w'.cell? ⟨w.heap.size, 0, none⟩ = some (.pointer (some ⟨p, 0, none⟩)) ∧ w'.cell? ⟨w.heap.size + 1, 0, none⟩ = some (.pointer (some ⟨q, 0, none⟩)) ∧ w'.cell? ⟨q, 0, none⟩ = some (.int .i64 op)) (go_keep)
       ((go_at_call 140; refine (ih.out _ _ _ _ _ _ _ _ hP7.out.drew.rd hs he ha6 (by have := hfu.out; have := hga.out; have := hga6.out; omega) hd65 hl6').mono ?_; rintro e' w8 ⟨hW, ⟨jl, b8, l8, a8, ao8, c8, hg8, ha8, hl8, rfl, hR, ln8, sl8⟩ | ⟨n, hg8, rfl⟩⟩; rotate_left; exact ⟨rfl, hP7.out.drew.wr.trans (hW.mono fun _ e => .inl e), .inr ⟨n, by rw [rd_bind hg.out, rd_bind hg6.out]; exact rd_err hg8, rfl⟩⟩; have hP8 := hP7.out.drew.rdd hpl hpq hW hR; have k0 := cell0 hP8.b0; have k1 := cell0 hP8.b1; have k2 := hP8.ins.cell (j := 0) (u := .int .i64 op) rfl; have i1 := hP8.ins.cell (j := 6) rfl; have f1 := hP8.ins.fr 6; have k0' : ∀ u, (w8.setCell ⟨q, 6, none⟩ u).cell? ⟨w.heap.size, 0, none⟩ = _ := fun u => so_far k0 (by show q ≠ w.heap.size; omega); have k1' : ∀ u, (w8.setCell ⟨q, 6, none⟩ u).cell? ⟨w.heap.size + 1, 0, none⟩ = _ := fun u => so_far k1 (by show q ≠ w.heap.size + 1; omega); have k2' : ∀ u, (w8.setCell ⟨q, 6, none⟩ u).cell? ⟨q, 0, none⟩ = _ := fun u => so_other k2 (.inr (by decide)); have sl7b := (sl7.out.keep (keeps_drew' _)).keep (keeps_wr hW hpl); replace sl7b := zh sl7b; have hs8 : _ ≤ w8.heap.size := hW.size; replace hP8 := zh hP8; replace sl8 := zh sl8; replace hg8 := zh hg8; clear hR hW))
      all_goals
       go_wp2_with fail; go_end0; have hP9 := hP8.out.put hpl hql hpq (hP8.out.ins.sete jl ao8 c8); exact ⟨hP9.wr, .inl ⟨⟨op, v, 0, 0, [], il, jl⟩, l8, a8, _, by rw [rd_bind hg.out, rd_bind hg6.out]; exact rd_bind hg8.out, ha8, Nat.le_trans hl8 hl6, rfl, hP9.rd, hP9.ins, ⟨rfl, rfl, rfl, rfl, rfl, rfl, rfl⟩, ⟨⟨by simp [e0], .inl rfl⟩, ln6, sl7b.out.keep (keeps_set hql), ln8, (sl8.out.low (Nat.le_trans hP7.out.wr.size (Nat.le_refl _))).keep (keeps_set hql)⟩⟩⟩
end Go.Proofs.YtkbfjkbokifgkaaGreatDoor
