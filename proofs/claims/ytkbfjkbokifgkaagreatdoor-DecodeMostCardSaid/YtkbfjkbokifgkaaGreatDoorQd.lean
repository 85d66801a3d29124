/- The document's reader: what stands behind an instruction's byte. -/
import Derived.Test.YtkbfjkbokifgkaaGreatDoorUa
import Derived.Test.YtkbfjkbokifgkaaGreatDoorPl
import Derived.Test.YtkbfjkbokifgkaaGreatDoorFc
namespace Go.Proofs.YtkbfjkbokifgkaaGreatDoor
open Go.RowKit
set_option linter.unusedVariables false
set_option linter.unusedSimpArgs false

/-- The reader and an instruction. -/
structure OAt (w w1 : World) (p q : Nat) (s : ByteArray) (r : RS) (t : ERec) : Prop where
  rd : RrAt w1 p s r
  ins : InsAt w1 q t
  wr : Wr (Spq p q) w w1
theorem OAt.rdd {w w1 w2 : World} {p q : Nat} {s : ByteArray} {r r' : RS} {t : ERec} (h : OAt w w1 p q s r t) (hpq : p ≠ q) (k : Wr (· = p) w1 w2) (R : RrAt w2 p s r') : OAt w w2 p q s r' t :=
  ⟨R, h.ins.wr k (fun e => hpq e.symm), h.wr.trans (k.mono fun _ e => .inl e)⟩
theorem OAt.below {w w1 w2 : World} {p q : Nat} {s : ByteArray} {r : RS} {t : ERec} (h : OAt w w1 p q s r t) (k : Below w1.heap.size w1 w2) : OAt w w2 p q s r t := ⟨h.rd.below k, h.ins.below k, h.wr.trans (Wr.of_below k)⟩
theorem OAt.put {w w1 : World} {p q : Nat} {s : ByteArray} {r : RS} {t t' : ERec} (h : OAt w w1 p q s r t) (hpq : p ≠ q) {j : Nat} {v : Value} (k : InsAt (w1.setCell ⟨q, j, none⟩ v) q t') : OAt w (w1.setCell ⟨q, j, none⟩ v) p q s r t' :=
  ⟨⟨(Below.heap_setCell _ _ _ _ hpq).trans h.rd.row⟩, k, h.wr.set (S := Spq p q) (.inr rfl) j v⟩
/-- What operands tells. -/
def Od (p q : Nat) (s : ByteArray) (g : Rg One) (w : World) (e' : Ending) (w' : World) : Prop :=
  Wr (Spq p q) w w' ∧ e' = .returned (.tuple #[]) ∧ RrAt w' p s g.2 ∧ ∃ t, InsAt w' q t ∧ Same7 t g.1 ∧ EOk (fun b => w.heap.size ≤ b) w' t
theorem OAt.od {w w1 : World} {p q : Nat} {s : ByteArray} {r : RS} {t : ERec} {g : Rg One} (h : OAt w w1 p q s r t) (hg : g.2 = r) (hs : Same7 t g.1) (he : EOk (fun b => w.heap.size ≤ b) w1 t) : Od p q s g w (.returned (.tuple #[])) w1 :=
  ⟨h.wr, rfl, by rw [hg]; exact h.rd, t, h.ins, hs, he⟩
/-- What a list's reading tells. -/
def Xd (p : Nat) (s : ByteArray) (g : Rg (Il × Int)) (w : World) (e' : Ending) (w' : World) : Prop :=
  Wr (· = p) w w' ∧ RrAt w' p s g.2 ∧ ∃ ao c, e' = .returned (.tuple #[.slice ao g.1.1.len c, .int .i64 g.1.2]) ∧ g.1.1.len ≤ 9223372036854775807 ∧ SlR (fun b => w.heap.size ≤ b) w' ao g.1.1
def ExOk (s : ByteArray) (k : Nat) : Prop := ∀ (w : World) (p : Nat) (r : RS) (deep : Nat) (other : Bool), RrAt w p s r → s.size ≤ 262144 → r.Ok → r.e ≤ s.size → r.e - r.a < k → deep ≤ 65 →
  Calls Tryz.prog 143 #[.pointer (some ⟨p, 0, none⟩), .int .i64 (deep : Int), .bool other] w (Xd p s (rExprs (strl s) k deep other r) w)
set_option maxRecDepth 100000 in
set_option maxHeartbeats 8000000 in
theorem oper_46 {w : World} {p q : Nat} {s : ByteArray} {r : RS} {op : Int} (h : RrAt w p s r) (hk : InsAt w q (e0 op)) (hpq : p ≠ q) (hs : s.size ≤ 262144) (hr : r.Ok) (he : r.e ≤ s.size) (d : Nat) (hd : d ≤ 64) {k : Nat} (ih : ExOk s k) (hfu : r.e - r.a < k) (hf : formV op = 4 ∨ formV op = 6) :
    Calls Tryz.prog 180 #[.pointer (some ⟨p, 0, none⟩), .pointer (some ⟨q, 0, none⟩), .int .i64 (d : Int)] w (Od p q s (rOperands (strl s) (rExprs (strl s) k) op d r) w) := by
  have hO : rOperands (strl s) (rExprs (strl s) k) op d r = (⟨op, (rU (strl s) r).1, 0, 0, [], .nil, .nil⟩, (rU (strl s) r).2) := by
    unfold rOperands
    rw [if_neg (by omega), if_pos hf]
  rw [hO]
  clear hO ih
  have hP : OAt w w p q s r (e0 op) := ⟨h, hk, Wr.refl _ _⟩
  have hpl := h.lt
  have hql := hk.lt
  have i0 := hk.cell (j := 0) (u := .int .i64 op) rfl
  clear h hk
  replace hP := Lib.hid hP
  go_enter Tryz.func180, Tryz.ntmps180
  go_wp2_with fail
  refine (rform_any op _).mono ?_
  rintro e' w2 ⟨rfl, rfl⟩
  obtain ⟨f, hff⟩ : ∃ f, f = formV op := ⟨_, rfl⟩
  rw [← hff] at hf ⊢
  replace hff := Lib.hid hff
  rcases hf with rfl | rfl
  all_goals
    go_wp2_with fail
    refine (qu_any hP.out.rd hs hr.1 he).mono ?_
    rintro e' w4 ⟨hW, v', rfl, rfl, hR⟩
    change RrAt w4 p s (rU (strl s) r).2 at hR
    have hP4 := hP.out.rdd hpq hW hR
    have f1 := hP4.ins.fr 1
    have y1 := hP4.ins.cell (j := 1) rfl
    go_wp2_with fail
    go_end0
    exact (hP4.put hpq (hP4.ins.setx (rU (strl s) r).1)).od rfl ⟨rfl, rfl, rfl, rfl, rfl, rfl, rfl⟩ (eok0 _ _ op _ 0 0)
set_option maxRecDepth 100000 in
set_option maxHeartbeats 8000000 in
theorem oper_7 {w : World} {p q : Nat} {s : ByteArray} {r : RS} {op : Int} (h : RrAt w p s r) (hk : InsAt w q (e0 op)) (hpq : p ≠ q) (hs : s.size ≤ 262144) (hr : r.Ok) (he : r.e ≤ s.size) (d : Nat) (hd : d ≤ 64) {k : Nat} (ih : ExOk s k) (hfu : r.e - r.a < k) (hf : formV op = 7) :
    Calls Tryz.prog 180 #[.pointer (some ⟨p, 0, none⟩), .pointer (some ⟨q, 0, none⟩), .int .i64 (d : Int)] w (Od p q s (rOperands (strl s) (rExprs (strl s) k) op d r) w) := by
  have hO : rOperands (strl s) (rExprs (strl s) k) op d r = (⟨op, (rU (strl s) r).1, 0, 0, [], .nil, .nil⟩, rMust (strl s) 0 (rU (strl s) r).2) := by
    unfold rOperands
    rw [if_neg (by omega), if_neg (by omega), if_neg (by omega), if_pos hf]
  have hU := go_u (strl s) r
  rw [hO]
  clear hO ih
  have hP : OAt w w p q s r (e0 op) := ⟨h, hk, Wr.refl _ _⟩
  have hpl := h.lt
  have hql := hk.lt
  have i0 := hk.cell (j := 0) (u := .int .i64 op) rfl
  clear h hk
  replace hP := Lib.hid hP
  go_enter Tryz.func180, Tryz.ntmps180
  go_wp2_with fail
  refine (rform_any op _).mono ?_
  rintro e' w2 ⟨rfl, rfl⟩
  rw [hf]
  replace hf := Lib.hid hf
  go_wp2_with fail
  refine (qu_any hP.out.rd hs hr.1 he).mono ?_
  rintro e' w4 ⟨hW, v', rfl, rfl, hR⟩
  change RrAt w4 p s (rU (strl s) r).2 at hR
  have hP4 := hP.out.rdd hpq hW hR
  have f1 := hP4.ins.fr 1
  have y1 := hP4.ins.cell (j := 1) rfl
  go_upto_region 18 with (fail)
  have hP5 := hP4.put hpq (hP4.ins.setx (rU (strl s) r).1)
  obtain ⟨w5, hw5⟩ : ∃ w5, w5 = w4.setCell ⟨q, 1, none⟩ (.int .i64 (rU (strl s) r).1) := ⟨_, rfl⟩
  have hw5' : w5 = w4.setCell ⟨q, 1, none⟩ (.int .i64 (rNum (gU (strl s)) r).1) := hw5
  rw [← hw5] at hP5
  rw [← hw5']
  clear hw5 hw5' hP4 f1 hP
  go_wp2_with fail
  refine (qmust_any hP5.rd hs (by have := hU.e; omega) 0).mono ?_
  rintro e' w6 ⟨hW, v', rfl, rfl, hR⟩
  go_wp2_with fail
  go_end0
  exact (hP5.rdd hpq hW hR).od rfl ⟨rfl, rfl, rfl, rfl, rfl, rfl, rfl⟩ (eok0 _ _ op _ 0 0)
set_option maxRecDepth 100000 in
set_option maxHeartbeats 8000000 in
theorem oper_8 {w : World} {p q : Nat} {s : ByteArray} {r : RS} {op : Int} (h : RrAt w p s r) (hk : InsAt w q (e0 op)) (hpq : p ≠ q) (hs : s.size ≤ 262144) (hr : r.Ok) (he : r.e ≤ s.size) (d : Nat) (hd : d ≤ 64) {k : Nat} (ih : ExOk s k) (hfu : r.e - r.a < k) (hf : formV op = 8) :
    Calls Tryz.prog 180 #[.pointer (some ⟨p, 0, none⟩), .pointer (some ⟨q, 0, none⟩), .int .i64 (d : Int)] w (Od p q s (rOperands (strl s) (rExprs (strl s) k) op d r) w) := by
  have hO : rOperands (strl s) (rExprs (strl s) k) op d r = (⟨op, (rU (strl s) r).1, (rU (strl s) (rU (strl s) r).2).1, 0, [], .nil, .nil⟩, (rU (strl s) (rU (strl s) r).2).2) := by
    unfold rOperands
    rw [if_neg (by omega), if_neg (by omega), if_neg (by omega), if_neg (by omega), if_pos hf]
  have hU := go_u (strl s) r
  rw [hO]
  clear hO ih
  have hP : OAt w w p q s r (e0 op) := ⟨h, hk, Wr.refl _ _⟩
  have hpl := h.lt
  have hql := hk.lt
  have i0 := hk.cell (j := 0) (u := .int .i64 op) rfl
  clear h hk
  replace hP := Lib.hid hP
  go_enter Tryz.func180, Tryz.ntmps180
  go_wp2_with fail
  refine (rform_any op _).mono ?_
  rintro e' w2 ⟨rfl, rfl⟩
  rw [hf]
  replace hf := Lib.hid hf
  go_wp2_with fail
  refine (qu_any hP.out.rd hs hr.1 he).mono ?_
  rintro e' w4 ⟨hW, v', rfl, rfl, hR⟩
  change RrAt w4 p s (rU (strl s) r).2 at hR
  have hP4 := hP.out.rdd hpq hW hR
  have f1 := hP4.ins.fr 1
  have y1 := hP4.ins.cell (j := 1) rfl
  go_upto_region 21 with (fail)
  have hP5 := hP4.put hpq (hP4.ins.setx (rU (strl s) r).1)
  obtain ⟨w5, hw5⟩ : ∃ w5, w5 = w4.setCell ⟨q, 1, none⟩ (.int .i64 (rU (strl s) r).1) := ⟨_, rfl⟩
  have hw5' : w5 = w4.setCell ⟨q, 1, none⟩ (.int .i64 (rNum (gU (strl s)) r).1) := hw5
  rw [← hw5] at hP5
  rw [← hw5']
  clear hw5 hw5' hP4 f1 hP
  go_wp2_with fail
  refine (qu_any hP5.rd hs (hU.ok hr).1 (by have := hU.e; omega)).mono ?_
  rintro e' w6 ⟨hW, v', rfl, rfl, hR⟩
  change RrAt w6 p s (rU (strl s) (rU (strl s) r).2).2 at hR
  have hP6 := hP5.rdd hpq hW hR
  have f2 := hP6.ins.fr 2
  have y2 := hP6.ins.cell (j := 2) rfl
  go_wp2_with fail
  go_end0
  exact (hP6.put hpq (hP6.ins.sety (rU (strl s) (rU (strl s) r).2).1)).od rfl ⟨rfl, rfl, rfl, rfl, rfl, rfl, rfl⟩ (eok0 _ _ op _ _ 0)
set_option maxRecDepth 100000 in
set_option maxHeartbeats 8000000 in
theorem oper_9i {w : World} {p q : Nat} {s : ByteArray} {r : RS} {op : Int} (h : RrAt w p s r) (hk : InsAt w q (e0 op)) (hpq : p ≠ q) (hs : s.size ≤ 262144) (hr : r.Ok) (he : r.e ≤ s.size) (d : Nat) (hd : d ≤ 64) {k : Nat} (ih : ExOk s k) (hfu : r.e - r.a < k) (hf : formV op = 9) (ho : op = 65) :
    Calls Tryz.prog 180 #[.pointer (some ⟨p, 0, none⟩), .pointer (some ⟨q, 0, none⟩), .int .i64 (d : Int)] w (Od p q s (rOperands (strl s) (rExprs (strl s) k) op d r) w) := by
  have hO : rOperands (strl s) (rExprs (strl s) k) op d r = (⟨op, 0, 0, (rNum (gS32 (strl s)) r).1, [], .nil, .nil⟩, (rNum (gS32 (strl s)) r).2) := by
    unfold rOperands
    rw [if_neg (by omega), if_neg (by omega), if_neg (by omega), if_neg (by omega), if_neg (by omega), if_pos hf, if_pos ho]
  have ho' : (op == 65) = true := by rw [ho]; rfl
  rw [hO]
  replace ho := Lib.hid ho
  clear hO ih
  have hP : OAt w w p q s r (e0 op) := ⟨h, hk, Wr.refl _ _⟩
  have hpl := h.lt
  have hql := hk.lt
  have i0 := hk.cell (j := 0) (u := .int .i64 op) rfl
  clear h hk
  replace hP := Lib.hid hP
  go_enter Tryz.func180, Tryz.ntmps180
  go_wp2_with fail
  refine (rform_any op _).mono ?_
  rintro e' w2 ⟨rfl, rfl⟩
  rw [hf]
  replace hf := Lib.hid hf
  go_wp2_with fail
  refine (qs32_any hP.out.rd hs hr.1 he).mono ?_
  rintro e' w4 ⟨hW, v', rfl, rfl, hR⟩
  have hP4 := hP.out.rdd hpq hW hR
  have f1 := hP4.ins.fr 3
  have y1 := hP4.ins.cell (j := 3) rfl
  go_wp2_with fail
  go_end0
  exact (hP4.put hpq (hP4.ins.setn (rNum (gS32 (strl s)) r).1)).od rfl ⟨rfl, rfl, rfl, rfl, rfl, rfl, rfl⟩ (eok0 _ _ op 0 0 _)
set_option maxRecDepth 100000 in
set_option maxHeartbeats 8000000 in
theorem oper_9l {w : World} {p q : Nat} {s : ByteArray} {r : RS} {op : Int} (h : RrAt w p s r) (hk : InsAt w q (e0 op)) (hpq : p ≠ q) (hs : s.size ≤ 262144) (hr : r.Ok) (he : r.e ≤ s.size) (d : Nat) (hd : d ≤ 64) {k : Nat} (ih : ExOk s k) (hfu : r.e - r.a < k) (hf : formV op = 9) (ho : ¬ op = 65) :
    Calls Tryz.prog 180 #[.pointer (some ⟨p, 0, none⟩), .pointer (some ⟨q, 0, none⟩), .int .i64 (d : Int)] w (Od p q s (rOperands (strl s) (rExprs (strl s) k) op d r) w) := by
  have hO : rOperands (strl s) (rExprs (strl s) k) op d r = (⟨op, 0, 0, (rNum (gS64 (strl s)) r).1, [], .nil, .nil⟩, (rNum (gS64 (strl s)) r).2) := by
    unfold rOperands
    rw [if_neg (by omega), if_neg (by omega), if_neg (by omega), if_neg (by omega), if_neg (by omega), if_pos hf, if_neg ho]
  have ho' : (op == 65) = false := beq_eq_false_iff_ne.2 ho
  rw [hO]
  replace ho := Lib.hid ho
  clear hO ih
  have hP : OAt w w p q s r (e0 op) := ⟨h, hk, Wr.refl _ _⟩
  have hpl := h.lt
  have hql := hk.lt
  have i0 := hk.cell (j := 0) (u := .int .i64 op) rfl
  clear h hk
  replace hP := Lib.hid hP
  go_enter Tryz.func180, Tryz.ntmps180
  go_wp2_with fail
  refine (rform_any op _).mono ?_
  rintro e' w2 ⟨rfl, rfl⟩
  rw [hf]
  replace hf := Lib.hid hf
  go_wp2_with fail
  refine (qs64_any hP.out.rd hs hr.1 he).mono ?_
  rintro e' w4 ⟨hW, v', rfl, rfl, hR⟩
  have hP4 := hP.out.rdd hpq hW hR
  have f1 := hP4.ins.fr 3
  have y1 := hP4.ins.cell (j := 3) rfl
  go_wp2_with fail
  go_end0
  exact (hP4.put hpq (hP4.ins.setn (rNum (gS64 (strl s)) r).1)).od rfl ⟨rfl, rfl, rfl, rfl, rfl, rfl, rfl⟩ (eok0 _ _ op 0 0 _)
set_option maxRecDepth 100000 in
set_option maxHeartbeats 8000000 in
theorem oper_5 {w : World} {p q : Nat} {s : ByteArray} {r : RS} {op : Int} (h : RrAt w p s r) (hk : InsAt w q (e0 op)) (hpq : p ≠ q) (hs : s.size ≤ 262144) (hr : r.Ok) (he : r.e ≤ s.size) (d : Nat) (hd : d ≤ 64) {k : Nat} (ih : ExOk s k) (hfu : r.e - r.a < k) (hf : formV op = 5) :
    Calls Tryz.prog 180 #[.pointer (some ⟨p, 0, none⟩), .pointer (some ⟨q, 0, none⟩), .int .i64 (d : Int)] w (Od p q s (rOperands (strl s) (rExprs (strl s) k) op d r) w) := by
  have hO : rOperands (strl s) (rExprs (strl s) k) op d r = (⟨op, (rU (strl s) (rEach (strl s) (rU (strl s)) r).2).1, 0, 0, (rEach (strl s) (rU (strl s)) r).1, .nil, .nil⟩, (rU (strl s) (rEach (strl s) (rU (strl s)) r).2).2) := by
    unfold rOperands
    rw [if_neg (by omega), if_neg (by omega), if_pos hf]
  have hU := go_each (strl s) (go_u (strl s)) r
  rw [hO]
  obtain ⟨E, hE⟩ : ∃ E, E = rEach (strl s) (rU (strl s)) r := ⟨_, rfl⟩
  have hlist := fun w' (h : RrAt w' p s r) => qlist_any h hs hr.1 he
  rw [← hE] at hU hlist ⊢
  replace hlist := Lib.hid hlist
  clear hO ih hE
  have hP : OAt w w p q s r (e0 op) := ⟨h, hk, Wr.refl _ _⟩
  have hpl := h.lt
  have hql := hk.lt
  have i0 := hk.cell (j := 0) (u := .int .i64 op) rfl
  clear h hk
  replace hP := Lib.hid hP
  go_enter Tryz.func180, Tryz.ntmps180
  go_wp2_with fail
  refine (rform_any op _).mono ?_
  rintro e' w2 ⟨rfl, rfl⟩
  rw [hf]
  replace hf := Lib.hid hf
  go_wp2_with fail
  refine (hlist.out _ hP.out.rd).mono ?_
  rintro e' w4 ⟨hW, hR, ao, c, rfl, hown⟩
  have hP4 := hP.out.rdd hpq hW hR
  have f1 := hP4.ins.fr 4
  have y1 := hP4.ins.cell (j := 4) rfl
  go_upto_region 15 with (fail)
  have hP5 := hP4.put hpq (hP4.ins.setl E.1 ao c)
  have hI5 : IntsR (fun b => w.heap.size ≤ b) (w4.setCell ⟨q, 4, none⟩ (.slice ao E.1.length c)) ao E.1 := (ints_own hown (Nat.le_refl _)).keep (keeps_set hql)
  obtain ⟨w5, hw5⟩ : ∃ w5, w5 = w4.setCell ⟨q, 4, none⟩ (.slice ao E.1.length c) := ⟨_, rfl⟩
  rw [← hw5] at hP5 hI5 ⊢
  clear hw5 hP4 f1 hP hlist hown
  replace hI5 := Lib.hid hI5
  go_wp2_with fail
  refine (qu_any hP5.rd hs (hU.ok hr).1 (by have := hU.e; omega)).mono ?_
  rintro e' w6 ⟨hW, v', rfl, rfl, hR⟩
  change RrAt w6 p s (rU (strl s) E.2).2 at hR
  have hP6 := hP5.rdd hpq hW hR
  have f2 := hP6.ins.fr 1
  have y2 := hP6.ins.cell (j := 1) rfl
  go_wp2_with fail
  go_end0
  have hI6 := (hI5.out.keep (keeps_wr hW hpl)).keep (keeps_set (j := 1) (v := .int .i64 (rU (strl s) E.2).1) hql)
  exact (hP6.put hpq (hP6.ins.setx (rU (strl s) E.2).1)).od rfl ⟨rfl, rfl, rfl, rfl, rfl, rfl, rfl⟩ ⟨hI6, Nat.zero_le _, .inl rfl, Nat.zero_le _, .inl rfl⟩
set_option maxRecDepth 100000 in
set_option maxHeartbeats 8000000 in
theorem oper_1a {w : World} {p q : Nat} {s : ByteArray} {r : RS} {op : Int} (h : RrAt w p s r) (hk : InsAt w q (e0 op)) (hpq : p ≠ q) (hs : s.size ≤ 262144) (hr : r.Ok) (he : r.e ≤ s.size) (d : Nat) (hd : d ≤ 64) {k : Nat} (ih : ExOk s k) (hfu : r.e - r.a < k) (hf : formV op = 1) (ho : op = 63) :
    Calls Tryz.prog 180 #[.pointer (some ⟨p, 0, none⟩), .pointer (some ⟨q, 0, none⟩), .int .i64 (d : Int)] w (Od p q s (rOperands (strl s) (rExprs (strl s) k) op d r) w) := by
  have hO : rOperands (strl s) (rExprs (strl s) k) op d r = (one0 op, rMust (strl s) 0 r) := by
    unfold rOperands
    rw [if_neg (by omega), if_neg (by omega), if_neg (by omega), if_neg (by omega), if_neg (by omega), if_neg (by omega), if_pos (.inl ho)]
  have hq1 : (op == 63) = true := by rw [ho]; rfl
  rw [hO]
  replace ho := Lib.hid ho
  clear hO ih
  have hP : OAt w w p q s r (e0 op) := ⟨h, hk, Wr.refl _ _⟩
  have hpl := h.lt
  have hql := hk.lt
  have i0 := hk.cell (j := 0) (u := .int .i64 op) rfl
  clear h hk
  replace hP := Lib.hid hP
  go_enter Tryz.func180, Tryz.ntmps180
  go_wp2_with fail
  refine (rform_any op _).mono ?_
  rintro e' w2 ⟨rfl, rfl⟩
  rw [hf]
  replace hf := Lib.hid hf
  go_wp2_with fail
  refine (qmust_any hP.out.rd hs he 0).mono ?_
  rintro e' w6 ⟨hW, v', rfl, rfl, hR⟩
  go_wp2_with fail
  go_end0
  exact (hP.out.rdd hpq hW hR).od rfl ⟨rfl, rfl, rfl, rfl, rfl, rfl, rfl⟩ (eok0 _ _ op 0 0 0)
set_option maxRecDepth 100000 in
set_option maxHeartbeats 8000000 in
theorem oper_1b {w : World} {p q : Nat} {s : ByteArray} {r : RS} {op : Int} (h : RrAt w p s r) (hk : InsAt w q (e0 op)) (hpq : p ≠ q) (hs : s.size ≤ 262144) (hr : r.Ok) (he : r.e ≤ s.size) (d : Nat) (hd : d ≤ 64) {k : Nat} (ih : ExOk s k) (hfu : r.e - r.a < k) (hf : formV op = 1) (ho : op = 64) :
    Calls Tryz.prog 180 #[.pointer (some ⟨p, 0, none⟩), .pointer (some ⟨q, 0, none⟩), .int .i64 (d : Int)] w (Od p q s (rOperands (strl s) (rExprs (strl s) k) op d r) w) := by
  have hO : rOperands (strl s) (rExprs (strl s) k) op d r = (one0 op, rMust (strl s) 0 r) := by
    unfold rOperands
    rw [if_neg (by omega), if_neg (by omega), if_neg (by omega), if_neg (by omega), if_neg (by omega), if_neg (by omega), if_pos (.inr ho)]
  have hq1 : (op == 63) = false := by rw [ho]; rfl
  have hq2 : (op == 64) = true := by rw [ho]; rfl
  rw [hO]
  replace ho := Lib.hid ho
  clear hO ih
  have hP : OAt w w p q s r (e0 op) := ⟨h, hk, Wr.refl _ _⟩
  have hpl := h.lt
  have hql := hk.lt
  have i0 := hk.cell (j := 0) (u := .int .i64 op) rfl
  clear h hk
  replace hP := Lib.hid hP
  go_enter Tryz.func180, Tryz.ntmps180
  go_wp2_with fail
  refine (rform_any op _).mono ?_
  rintro e' w2 ⟨rfl, rfl⟩
  rw [hf]
  replace hf := Lib.hid hf
  go_wp2_with fail
  refine (qmust_any hP.out.rd hs he 0).mono ?_
  rintro e' w6 ⟨hW, v', rfl, rfl, hR⟩
  go_wp2_with fail
  go_end0
  exact (hP.out.rdd hpq hW hR).od rfl ⟨rfl, rfl, rfl, rfl, rfl, rfl, rfl⟩ (eok0 _ _ op 0 0 0)
set_option maxRecDepth 100000 in
set_option maxHeartbeats 8000000 in
theorem oper_1c {w : World} {p q : Nat} {s : ByteArray} {r : RS} {op : Int} (h : RrAt w p s r) (hk : InsAt w q (e0 op)) (hpq : p ≠ q) (hs : s.size ≤ 262144) (hr : r.Ok) (he : r.e ≤ s.size) (d : Nat) (hd : d ≤ 64) {k : Nat} (ih : ExOk s k) (hfu : r.e - r.a < k) (hf : formV op = 1) (ho : ¬ (op = 63 ∨ op = 64)) :
    Calls Tryz.prog 180 #[.pointer (some ⟨p, 0, none⟩), .pointer (some ⟨q, 0, none⟩), .int .i64 (d : Int)] w (Od p q s (rOperands (strl s) (rExprs (strl s) k) op d r) w) := by
  have hO : rOperands (strl s) (rExprs (strl s) k) op d r = (one0 op, r) := by
    unfold rOperands
    rw [if_neg (by omega), if_neg (by omega), if_neg (by omega), if_neg (by omega), if_neg (by omega), if_neg (by omega), if_neg ho]
  have hq1 : (op == 63) = false := beq_eq_false_iff_ne.2 (fun e => ho (.inl e))
  have hq2 : (op == 64) = false := beq_eq_false_iff_ne.2 (fun e => ho (.inr e))
  rw [hO]
  replace ho := Lib.hid ho
  clear hO ih
  have hP : OAt w w p q s r (e0 op) := ⟨h, hk, Wr.refl _ _⟩
  have hpl := h.lt
  have hql := hk.lt
  have i0 := hk.cell (j := 0) (u := .int .i64 op) rfl
  clear h hk
  replace hP := Lib.hid hP
  go_enter Tryz.func180, Tryz.ntmps180
  go_wp2_with fail
  refine (rform_any op _).mono ?_
  rintro e' w2 ⟨rfl, rfl⟩
  rw [hf]
  replace hf := Lib.hid hf
  go_wp2_with fail
  go_end0
  exact hP.out.od rfl ⟨rfl, rfl, rfl, rfl, rfl, rfl, rfl⟩ (eok0 _ _ op 0 0 0)
set_option maxRecDepth 100000 in
set_option maxHeartbeats 8000000 in
theorem oper_23 {w : World} {p q : Nat} {s : ByteArray} {r : RS} {op : Int} (h : RrAt w p s r) (hk : InsAt w q (e0 op)) (hpq : p ≠ q) (hs : s.size ≤ 262144) (hr : r.Ok) (he : r.e ≤ s.size) (d : Nat) (hd : d ≤ 64) {k : Nat} (ih : ExOk s k) (hfu : r.e - r.a < k) (hf : formV op = 2 ∨ formV op = 3) :
    Calls Tryz.prog 180 #[.pointer (some ⟨p, 0, none⟩), .pointer (some ⟨q, 0, none⟩), .int .i64 (d : Int)] w (Od p q s (rOperands (strl s) (rExprs (strl s) k) op d r) w) := by
  obtain ⟨R1, hR1⟩ : ∃ R1, R1 = rResult (strl s) r := ⟨_, rfl⟩
  obtain ⟨E1, hE1⟩ : ∃ E1, E1 = rExprs (strl s) k (d + 1) (op == 4) R1.2 := ⟨_, rfl⟩
  obtain ⟨E2, hE2⟩ : ∃ E2, E2 = rExprs (strl s) k (d + 1) false E1.2 := ⟨_, rfl⟩
  have hO : rOperands (strl s) (rExprs (strl s) k) op d r = if E1.1.2 = 5 then (⟨op, R1.1, 0, 0, [], E1.1.1, E2.1.1⟩, E2.2) else (⟨op, R1.1, 0, 0, [], E1.1.1, .nil⟩, E1.2) := by
    unfold rOperands
    rw [if_pos hf, hE2, hE1, hR1]
  have hm1 := go_result (strl s) r
  have hm2 := go_exprs (strl s) k (d + 1) (op == 4) R1.2
  rw [← hR1] at hm1
  rw [← hE1] at hm2
  have hr1 := hm1.ok hr
  have hr2 := hm2.ok hr1
  have hres := fun w' (h : RrAt w' p s r) => qresult_any h hs he
  rw [← hR1] at hres
  have he1 : R1.2.e ≤ s.size := by have := hm1.e; omega
  have he2 : E1.2.e ≤ s.size := by have := hm2.e; omega
  have hx1 := fun w' (h : RrAt w' p s R1.2) => ih w' p R1.2 (d + 1) (op == 4) h hs hr1 he1 (by have := hm1.e; have := hm1.up; omega) (by omega)
  rw [← hE1] at hx1
  have hx2 := fun w' (h : RrAt w' p s E1.2) => ih w' p E1.2 (d + 1) false h hs hr2 he2 (by have := hm1.e; have := hm1.up; have := hm2.e; have := hm2.up; omega) (by omega)
  rw [← hE2] at hx2
  obtain ⟨X, hX⟩ : ∃ X, X = rOperands (strl s) (rExprs (strl s) k) op d r := ⟨_, rfl⟩
  rw [← hX] at hO ⊢
  clear hX
  replace hO := Lib.hid hO
  have hwd : IntKind.i64.wrap ((d : Int) + 1) = ((d + 1 : Nat) : Int) := (wid64 _ (by omega) (by omega)).trans (by omega)
  obtain ⟨d1, hd1⟩ : ∃ d1, d1 = d + 1 := ⟨_, rfl⟩
  rw [← hd1] at hwd hx1 hx2
  replace hres := Lib.hid hres
  replace hx1 := Lib.hid hx1
  replace hx2 := Lib.hid hx2
  replace hr := Lib.hid hr
  replace hfu := Lib.hid hfu
  clear ih hR1 hE1 hE2 hm1 hm2 hd1 hr1 hr2 he1 he2
  have hP : OAt w w p q s r (e0 op) := ⟨h, hk, Wr.refl _ _⟩
  have hpl := h.lt
  have hql := hk.lt
  have i0 := hk.cell (j := 0) (u := .int .i64 op) rfl
  clear h hk
  replace hP := Lib.hid hP
  go_enter Tryz.func180, Tryz.ntmps180
  go_wp2_with fail
  refine (rform_any op _).mono ?_
  rintro e' w2 ⟨rfl, rfl⟩
  obtain ⟨f, hff⟩ : ∃ f, f = formV op := ⟨_, rfl⟩
  rw [← hff] at hf ⊢
  replace hff := Lib.hid hff
  rcases hf with rfl | rfl
  all_goals
    go_wp2_with fail
    refine (hres.out _ hP.out.rd).mono ?_
    rintro e' w4 ⟨hW, v', rfl, rfl, hR⟩
    have hP4 := hP.out.rdd hpq hW hR
    have f1 := hP4.ins.fr 1
    have y1 := hP4.ins.cell (j := 1) rfl
    go_upto_region 6 with (fail)
    have hP5 := hP4.put hpq (hP4.ins.setx R1.1)
    obtain ⟨w5, hw5⟩ : ∃ w5, w5 = w4.setCell ⟨q, 1, none⟩ (.int .i64 R1.1) := ⟨_, rfl⟩
    rw [← hw5] at hP5 ⊢
    clear hw5 hP4 f1 hP hW hR
    have i0 := hP5.ins.cell (j := 0) (u := .int .i64 op) rfl
    replace hP5 := Lib.hid hP5
    go_wp2_with fail
    refine (hx1.out _ hP5.out.rd).mono ?_
    rintro e' w6 ⟨hW, hR, a6, c6, rfl, l6, sl6⟩
    have hP6 := hP5.out.rdd hpq hW hR
    have f5 := hP6.ins.fr 5
    have y5 := hP6.ins.cell (j := 5) rfl
    have hz := hP5.out.wr.size
    go_upto_region 8 with (fail)
    have hP7 := hP6.put hpq (hP6.ins.setb E1.1.1 a6 c6)
    have sl7 : SlR (fun b => w.heap.size ≤ b) (w6.setCell ⟨q, 5, none⟩ (.slice a6 E1.1.1.len c6)) a6 E1.1.1 := (sl6.low hz).keep (keeps_set hql)
    obtain ⟨w7, hw7⟩ : ∃ w7, w7 = w6.setCell ⟨q, 5, none⟩ (.slice a6 E1.1.1.len c6) := ⟨_, rfl⟩
    rw [← hw7] at hP7 sl7 ⊢
    clear hw7 hP6 f5 hP5 hW hR sl6 i0 hz
    replace sl7 := Lib.hid sl7
    replace hP7 := Lib.hid hP7
    by_cases h5 : E1.1.2 = 5
    · have hX := hO.out
      rw [if_pos h5] at hX
      replace hX := Lib.hid hX
      have hq5 : (E1.1.2 == 5) = true := by rw [h5]; rfl
      replace h5 := Lib.hid h5
      go_wp2_with fail
      refine (hx2.out _ hP7.out.rd).mono ?_
      rintro e' w8 ⟨hW, hR, a8, c8, rfl, l8, sl8⟩
      have hP8 := hP7.out.rdd hpq hW hR
      have f6 := hP8.ins.fr 6
      have y6 := hP8.ins.cell (j := 6) rfl
      have hz := hP7.out.wr.size
      replace hP8 := Lib.hid hP8
      replace sl8 := Lib.hid sl8
      replace hW := Lib.hid hW
      go_wp2_with fail
      go_end0
      have sl9 := (sl7.out.keep (keeps_wr hW.out hpl)).keep (keeps_set (j := 6) (v := .slice a8 E2.1.1.len c8) hql)
      have sl10 := (sl8.out.low hz).keep (keeps_set (j := 6) (v := .slice a8 E2.1.1.len c8) hql)
      rw [hX.out]
      exact (hP8.out.put hpq (hP8.out.ins.sete E2.1.1 a8 c8)).od rfl ⟨rfl, rfl, rfl, rfl, rfl, rfl, rfl⟩ ⟨⟨by simp [e0], .inl rfl⟩, l6, sl9, l8, sl10⟩
    · have hX := hO.out
      rw [if_neg h5] at hX
      replace hX := Lib.hid hX
      have hq5 : (E1.1.2 == 5) = false := beq_eq_false_iff_ne.2 h5
      replace h5 := Lib.hid h5
      go_wp2_with fail
      go_end0
      rw [hX.out]
      exact hP7.out.od rfl ⟨rfl, rfl, rfl, rfl, rfl, rfl, rfl⟩ ⟨⟨by simp [e0], .inl rfl⟩, l6, sl7.out, Nat.zero_le _, .inl rfl⟩
theorem oper_any {w : World} {p q : Nat} {s : ByteArray} {r : RS} {op : Int} (h : RrAt w p s r) (hk : InsAt w q (e0 op)) (hpq : p ≠ q) (hs : s.size ≤ 262144) (hr : r.Ok) (he : r.e ≤ s.size) (d : Nat) (hd : d ≤ 64) {k : Nat} (ih : ExOk s k) (hfu : r.e - r.a < k) (f0 : ¬ formV op = 0) (f10 : ¬ formV op = 10) :
    Calls Tryz.prog 180 #[.pointer (some ⟨p, 0, none⟩), .pointer (some ⟨q, 0, none⟩), .int .i64 (d : Int)] w (Od p q s (rOperands (strl s) (rExprs (strl s) k) op d r) w) := by
  have hr10 : 0 ≤ formV op ∧ formV op ≤ 10 := by
    have key : ∀ (c : Prop) [Decidable c] (a b : Int), (0 ≤ a ∧ a ≤ 10) → (0 ≤ b ∧ b ≤ 10) → (0 ≤ (if c then a else b) ∧ (if c then a else b) ≤ 10) := fun c _ a b ha hb => by split <;> assumption
    unfold formV
    repeat' (first | exact ⟨by decide, by decide⟩ | refine key _ _ _ ?_ ?_)
  by_cases h1 : formV op = 1
  · by_cases h63 : op = 63
    · exact oper_1a h hk hpq hs hr he d hd ih hfu h1 h63
    · by_cases h64 : op = 64
      · exact oper_1b h hk hpq hs hr he d hd ih hfu h1 h64
      · exact oper_1c h hk hpq hs hr he d hd ih hfu h1 (fun e => e.elim h63 h64)
  by_cases h2 : formV op = 2 ∨ formV op = 3
  · exact oper_23 h hk hpq hs hr he d hd ih hfu h2
  by_cases h4 : formV op = 4 ∨ formV op = 6
  · exact oper_46 h hk hpq hs hr he d hd ih hfu h4
  by_cases h5 : formV op = 5
  · exact oper_5 h hk hpq hs hr he d hd ih hfu h5
  by_cases h7 : formV op = 7
  · exact oper_7 h hk hpq hs hr he d hd ih hfu h7
  by_cases h8 : formV op = 8
  · exact oper_8 h hk hpq hs hr he d hd ih hfu h8
  have h9 : formV op = 9 := by omega
  by_cases h65 : op = 65
  · exact oper_9i h hk hpq hs hr he d hd ih hfu h9 h65
  · exact oper_9l h hk hpq hs hr he d hd ih hfu h9 h65
end Go.Proofs.YtkbfjkbokifgkaaGreatDoor

namespace Go.Proofs.YtkbfjkbokifgkaaGreatDoor
open Go.RowKit
set_option linter.unusedVariables false
set_option linter.unusedSimpArgs false

/-- What was read ahead. -/
def rPre (ts : List ERec) (g : Rg (Il × Int)) : Rg (Il × Int) := ((ilOf ts g.1.1, g.1.2), g.2)
section plain
variable {s : List UInt8} {k d : Nat} {o : Bool} {r : RS} {ts : List ERec} {B : Rg Int}
theorem xe_wrong (h : r.w ≠ 0) : rPre ts (rExprs s (k + 1) d o r) = ((ilOf ts .nil, 0), r) := by
  rw [rExprs, if_pos h]
  rfl
theorem xe_end (h0 : r.w = 0) (hB : B = rByte s r) (h : B.2.w ≠ 0 ∨ B.1 = 11 ∨ (o = true ∧ B.1 = 5)) : rPre ts (rExprs s (k + 1) d o r) = ((ilOf ts .nil, B.1), B.2) := by
  subst hB
  rw [rExprs, if_neg (by simp [h0]), if_pos h]
  rfl
theorem xe_step (h0 : r.w = 0) (hB : B = rByte s r) (h : ¬ (B.2.w ≠ 0 ∨ B.1 = 11 ∨ (o = true ∧ B.1 = 5))) {O : Rg One} (hO : rOne s (rExprs s k) B.1 d B.2 = O) {t : ERec} (hS : Same7 t O.1) :
    rPre ts (rExprs s (k + 1) d o r) = rPre (ts ++ [t]) (rExprs s k d o O.2) := by
  subst hB
  subst hO
  rw [rExprs, if_neg (by simp [h0]), if_neg h]
  obtain ⟨h1, h2, h3, h4, h5, h6, h7⟩ := hS
  unfold rPre Il.consOne
  rw [ilOf_snoc, h1, h2, h3, h4, h5, h6, h7]
end plain
/-- An instruction is behind the others. -/
theorem rbyte_up {s : List UInt8} {r : RS} (h0 : r.w = 0) (h : (rByte s r).2.w = 0) : (rByte s r).2 = { r with a := r.a + 1 } ∧ r.a < r.e := by
  unfold rByte at h ⊢
  rw [if_neg (by simp [h0])] at h ⊢
  split at h
  · exact absurd h (bad_zero (by decide))
  · rename_i hlt
    rw [if_neg hlt]
    exact ⟨rfl, by omega⟩
set_option maxRecDepth 100000 in
set_option maxHeartbeats 16000000 in
theorem ex_any (s : ByteArray) : ∀ k, ExOk s k := by
  intro k
  induction k using Nat.strongRecOn with
  | ind k ih0 =>
  intro w p r d other hR hs hok he hfu hd
  obtain ⟨R, hRR⟩ : ∃ R, rExprs (strl s) k d other r = R := ⟨_, rfl⟩
  rw [hRR]
  have hpw := hR.lt
  have hR1 : R = rPre [] (rExprs (strl s) k d other r) := by rw [hRR]; rfl
  clear hRR
  obtain ⟨i70, hi70, hz70, hs70, hb70⟩ := info_parts info70
  replace hR1 := Lib.hid hR1
  replace ih0 := Lib.hid ih0
  replace hR := Lib.hid hR
  replace hok := Lib.hid hok
  go_enter Tryz.func143, Tryz.ntmps143
  go_wp2_with fail
  go_loopg [8] k (fun kI v8 wr => ∃ (ts : List ERec) (ri : RS) (ao : Option Addr) (c : Nat), v8 = .slice ao ts.length c ∧ ri.e - ri.a < kI ∧ kI ≤ k ∧ ri.Ok ∧ ri.e = r.e ∧ ts.length ≤ ri.a ∧ Hid (RrAt wr p s ri) ∧ Hid (Wr (· = p) w wr) ∧ Hid (OwnT w.heap.size wr (.slice ao ts.length c) ts) ∧ Hid (R = rPre ts (rExprs (strl s) kI d other ri)))
  case atStart => exact ⟨[], r, none, 0, rfl, hfu, Nat.le_refl _, hok.out, rfl, Nat.zero_le _, hR, Lib.hid (Wr.refl _ _), Lib.hid ⟨World.ownsRow_nil _ _ _ _, fun t ht => by cases ht⟩, hR1⟩
  case round =>
    obtain ⟨ts, ri, ao, c, rfl, hfi, hki, hoki, hei, htl, hRi, hWi, hOi, hGi⟩ := hrel
    clear hR hR1 hok
    obtain ⟨k1, rfl⟩ : ∃ k1, gk = k1 + 1 := ⟨gk - 1, by omega⟩
    have hab : ri.a ≤ s.size := by have := hoki.1; omega
    have c4 := hRi.out.c4
    by_cases hw0 : ri.w = 0
    · have hq : (ri.w == 0) = true := by rw [hw0]; rfl
      replace hw0 := Lib.hid hw0
      go_wp2_with fail
      refine (qbyte_any hRi.out hs (by omega)).mono ?_
      rintro e' w1 ⟨hW1, v', rfl, rfl, hRb⟩
      have hmb := go_byte (strl s) ri
      have hupb := @rbyte_up (strl s) ri hw0.out
      obtain ⟨B, hBB⟩ : ∃ B, B = rByte (strl s) ri := ⟨_, rfl⟩
      rw [← hBB] at hRb hmb hupb ⊢
      have hO1 := hOi.out.wr hW1 hpw
      have hW := hWi.out.trans hW1
      have d4 := hRb.c4
      replace hBB := Lib.hid hBB
      replace hRb := Lib.hid hRb
      replace hO1 := Lib.hid hO1
      replace hW := Lib.hid hW
      clear hW1 hWi hOi hRi c4 hq
      by_cases hend : B.2.w ≠ 0 ∨ B.1 = 11 ∨ (other = true ∧ B.1 = 5)
      · have hfin : R = ((ilOf ts .nil, B.1), B.2) := by rw [hGi.out]; exact xe_end hw0.out hBB.out hend
        replace hfin := Lib.hid hfin
        have hb : ((B.2.w != 0) = true) ∨ ((B.2.w != 0) = false ∧ (B.1 == 11) = true) ∨ ((B.2.w != 0) = false ∧ (B.1 == 11) = false ∧ other = true ∧ (B.1 == 5) = true) := by
          by_cases hw : B.2.w = 0
          · by_cases h11 : B.1 = 11
            · exact .inr (.inl ⟨by rw [hw]; rfl, by rw [h11]; rfl⟩)
            · rcases hend with h | h | h
              · exact absurd hw h
              · exact absurd h h11
              · exact .inr (.inr ⟨by rw [hw]; rfl, beq_eq_false_iff_ne.2 h11, h.1, by rw [h.2]; rfl⟩)
          · exact .inl (by simp [hw])
        clear hend hGi hupb
        have hsl := hO1.out.sl
        replace hsl := Lib.hid hsl
        replace hmb := Lib.hid hmb
        rcases hb with hb1 | ⟨hb1, hb2⟩ | ⟨hb1, hb2, rfl, hb3⟩
        all_goals
          go_wp2_with fail
          refine bodyPost_ret (by simp [results, Tryz.results143, go_sem] <;> rfl) rfl ?_
          obtain ⟨h1, h2, h3⟩ := hsl.out
          rw [hfin.out]
          exact ⟨hW.out, hRb.out, ao, c, by rw [h2], by show (ilOf ts .nil).len ≤ _; omega, h1⟩
      · have hBw : B.2.w = 0 := Classical.byContradiction fun h => hend (.inl h)
        obtain ⟨hB2, hlt⟩ := hupb hBw
        have hB11 : B.1 ≠ 11 := fun h => hend (.inr (.inl h))
        have hb : ((B.2.w != 0) = false ∧ (B.1 == 11) = false ∧ other = false) ∨ ((B.2.w != 0) = false ∧ (B.1 == 11) = false ∧ other = true ∧ (B.1 == 5) = false) := by
          cases other with
          | false => exact .inl ⟨by rw [hBw]; rfl, beq_eq_false_iff_ne.2 hB11, rfl⟩
          | true => exact .inr ⟨by rw [hBw]; rfl, beq_eq_false_iff_ne.2 hB11, rfl, beq_eq_false_iff_ne.2 fun h => hend (.inr (.inr ⟨rfl, h⟩))⟩
        have hokB := hmb.ok hoki
        have hBi := hokB.2.2 hBw
        have hBe : B.2.e = r.e := by rw [hmb.e, hei]
        have hBa : B.2.a = ri.a + 1 := by rw [hB2]
        have hmo := more_mo B.1 d B.2 hBw
        have hRW : ∀ n : Int, (B.2.bad n) = { B.2 with w := n } := fun n => by unfold RS.bad; rw [if_pos hBw]
        have hend' : ∀ o' : Bool, o' = other → ¬ (B.2.w ≠ 0 ∨ B.1 = 11 ∨ (o' = true ∧ B.1 = 5)) := fun o' e => by rw [e]; exact hend
        replace hend' := Lib.hid hend'
        clear hend
        replace hBw := Lib.hid hBw
        replace hB2 := Lib.hid hB2
        replace hokB := Lib.hid hokB
        replace hmo := Lib.hid hmo
        replace hRW := Lib.hid hRW
        clear hupb hmb
        rcases hb with ⟨hb1, hb2, rfl⟩ | ⟨hb1, hb2, rfl, hb3⟩
        all_goals
          go_wp2_with fail
          refine (rform_any B.1 _).mono ?_
          rintro e' w2 ⟨rfl, rfl⟩
          clear hb1 hb2
          by_cases f0 : formV B.1 = 0
          · have hb : (formV B.1 == 0) = true := by rw [f0]; rfl
            have hR3d : rWhat B.1 d B.2 = B.2.bad 50 := by unfold rWhat; rw [if_pos f0]
            replace f0 := Lib.hid f0
            go_wp2_with fail
            refine (qbad_any hRb.out 50).mono ?_
            rintro e' w3 ⟨rfl, hWb, hR3⟩
            have hok3 : ({ B.2.bad 50 with i := (B.2.bad 50).i + 1 } : RS).Ok := by have := hmo.out.ok hokB.out; rw [hR3d] at this; exact this
            obtain ⟨R3, hR3e⟩ : ∃ R3, R3 = B.2.bad 50 := ⟨_, rfl⟩
            rw [← hR3e] at hR3 hok3 hR3d
            have hR3w : R3.w ≠ 0 := by rw [hR3e]; exact bad_zero (by decide)
            have h3e : R3.e = r.e := by rw [hR3e, hRW.out]; exact hBe
            have h3a : R3.a = ri.a + 1 := by rw [hR3e, hRW.out]; exact hBa
            have h3i : R3.i ≤ 65536 := by rw [hR3e, hRW.out]; exact hBi
            have hW3 := hW.out.trans hWb
            have hO3 := hO1.out.wr hWb hpw
            replace hR3d := Lib.hid hR3d.symm
            replace hR3w := Lib.hid hR3w
            replace hok3 := Lib.hid hok3
            replace hR3 := Lib.hid hR3
            replace hW3 := Lib.hid hW3
            replace hO3 := Lib.hid hO3
            clear hWb hRb hW hO1 hR3e hRW hB2 hokB hmo hBe hBa hBi hBw d4
            have hwi : IntKind.i64.wrap ((R3.i : Int) + 1) = (R3.i : Int) + 1 := wid64 _ (by omega) (by omega)
            have d3 := hR3.out.c3
            have g3 := hR3.out.fr 3
            go_upto_region 16 with (fail)
            have hR4 := hR3.out.to3 (x := (R3.i : Int) + 1) (b := R3.i + 1) (by push_cast; rfl)
            have hW4 := hW3.out.set (S := (· = p)) rfl 3 (.int .i64 ((R3.i : Int) + 1))
            have hO4 := hO3.out.wr ((Wr.refl (· = p) w3).set rfl 3 (.int .i64 ((R3.i : Int) + 1))) hpw
            obtain ⟨w4, hw4⟩ : ∃ w4, w4 = w3.setCell ⟨p, 3, none⟩ (.int .i64 ((R3.i : Int) + 1)) := ⟨_, rfl⟩
            rw [← hw4] at hR4 hW4 hO4 ⊢
            clear hw4 d3 g3 hwi hR3 hW3 hO3
            replace hR4 := Lib.hid hR4
            replace hW4 := Lib.hid hW4
            replace hO4 := Lib.hid hO4
            go_upto_region 17 with (fail)
            have hpr : p < w4.heap.size := hR4.out.lt
            have hq : InsAt (w4.alloc (.cells #[.int .i64 B.1, .int .i64 0, .int .i64 0, .int .i64 0, .slice none 0 0, .slice none 0 0, .slice none 0 0] 88)) w4.heap.size (e0 B.1) := ⟨al_new' _ _ rfl⟩
            have hB4 : Below w4.heap.size w4 (w4.alloc (.cells #[.int .i64 B.1, .int .i64 0, .int .i64 0, .int .i64 0, .slice none 0 0, .slice none 0 0, .slice none 0 0] 88)) := (Below.refl _ _).alloc (Nat.le_refl _) _
            have hR5 := hR4.out.below hB4
            have hs5 : (w4.alloc (.cells #[.int .i64 B.1, .int .i64 0, .int .i64 0, .int .i64 0, .slice none 0 0, .slice none 0 0, .slice none 0 0] 88)).heap.size = w4.heap.size + 1 := by simp
            obtain ⟨q, hqq⟩ : ∃ q, q = w4.heap.size := ⟨_, rfl⟩
            rw [← hqq] at hq hpr hs5 ⊢
            obtain ⟨w5, hw5⟩ : ∃ w5, w5 = w4.alloc (.cells #[.int .i64 B.1, .int .i64 0, .int .i64 0, .int .i64 0, .slice none 0 0, .slice none 0 0, .slice none 0 0] 88) := ⟨_, rfl⟩
            rw [← hw5] at hq hB4 hR5 hs5 ⊢
            have hO5 := hO4.out.wr (Wr.of_below (S := (· = p)) hB4) hpw
            have hW5 := hW4.out.trans (Wr.of_below hB4)
            have hwq : w.heap.size ≤ q := by rw [hqq]; exact hW4.out.size
            have hOo : ∀ g, (Value.slice ao ts.length c).ownBlock = some g → g < q := fun g hge => by rw [hqq]; exact (hO4.out.1.lt g hge).2
            have hOe : ∀ w', Wr (· = p) w4 w' → ∀ t ∈ ts, EOk (fun b => w.heap.size ≤ b ∧ some b ≠ (Value.slice ao ts.length c).ownBlock) w' t := fun w' k t ht => (hO4.out.2 t ht).keep (keeps_wrR k fun b hb => by have := hb.1; omega)
            replace hOo := Lib.hid hOo
            replace hOe := Lib.hid hOe
            clear hw5 hR4 hO4 hW4
            replace hqq := Lib.hid hqq
            have c4 := hR5.c4
            replace hB4 := Lib.hid hB4
            replace hR5 := Lib.hid hR5
            have hne : (R3.w == 0) = false := beq_eq_false_iff_ne.2 hR3w.out
            have x0 := hq.cell (j := 0) (u := .int .i64 B.1) rfl
            have x1 := hq.cell (j := 1) (u := .int .i64 0) rfl
            have x2 := hq.cell (j := 2) (u := .int .i64 0) rfl
            have x3 := hq.cell (j := 3) (u := .int .i64 0) rfl
            have x4 := hq.cell (j := 4) (u := .slice none 0 0) rfl
            have x5 := hq.cell (j := 5) (u := .slice none 0 0) rfl
            have x6 := hq.cell (j := 6) (u := .slice none 0 0) rfl
            have hE6 : EOk (fun b => w5.heap.size ≤ b) w5 (e0 B.1) := eok0 _ _ _ _ _ _
            have hO6 := hO5
            have hWn := hW5
            have hR6 := hR5.out
            obtain ⟨t, ht⟩ : ∃ t, t = e0 B.1 := ⟨_, rfl⟩
            have hS6 : Same7 t (one0 B.1) := by rw [ht]; exact ⟨rfl, rfl, rfl, rfl, rfl, rfl, rfl⟩
            rw [← ht] at hE6
            have hst := hGi.out.trans (xe_step hw0.out hBB.out (hend'.out _ rfl) (O := (one0 B.1, { R3 with i := R3.i + 1 })) (by unfold rOne; rw [← hR3d.out, if_neg hR3w.out]) hS6)
            have hBx : Below w5.heap.size w5 (w5.alloc (.cells (eV t).toArray 88)) := (Below.refl _ _).alloc (Nat.le_refl _) _
            have hzz : w5.heap.size = w5.heap.size := rfl
            have hO7 := hO6.wr (Wr.of_below (S := (· = p)) hBx) hpw
            have hE7 := hE6.keep (KeepsR.below hBx)
            have hR7 := hR6.below hBx
            have hW7 := hWn.trans (Wr.of_below hBx)
            replace hst := Lib.hid hst
            replace hO7 := Lib.hid hO7
            replace hE7 := Lib.hid hE7
            replace hR7 := Lib.hid hR7
            replace hW7 := Lib.hid hW7
            clear hO6 hE6 hR6 hWn hBx
            clear hO5 hW5 hR5
            subst ht
            have hw6s : q < w5.heap.size := by omega
            replace hs5 := Lib.hid hs5
            go_wp2_with (first | (
              at_builtin
              refine wpList_append_lies _ rfl _ _ _ rfl w.heap.size 88 i70 _ 7 104 Tryz.underlying81 hi70 hz70 hs70 hb70 rfl (by omega) (.slice ao ts.length c) ts.length (ts.flatMap eV) (by rfl) hO7.out.1 ⟨w5.heap.size, 0, none⟩ 1 1 (eV (e0 B.1)) (by rfl) (by rfl) (World.news_of_block (cs := ((eV (e0 B.1))).toArray) (t := 88) (fr := (0, 0)) (heap_alloc_new _ _)) (by intro u hu; simp only [eV, e0, List.mem_cons, List.mem_nil_iff, or_false] at hu; rcases hu with rfl | rfl | rfl | rfl | rfl | rfl | rfl <;> rfl) (by omega) (by unfold maxLen; omega) (by omega) (by simp; omega) (w5.heap.size + 1) (by simp) ?_
              intro g cap w8 hown hgrow hat hlt))
            go_roundg k1
            case measure => omega
            case rel =>
              have hrw : ∀ j, (Value.slice ao ts.length c).ownBlock = some j → w.heap.size ≤ j := fun j hj => (hO7.out.1.lt j hj).1
              refine ⟨ts ++ [(e0 B.1)], { R3 with i := R3.i + 1 }, some ⟨g, 0, none⟩, cap, by rw [List.length_append]; rfl, ?_, by omega, ?_, ?_, ?_, Lib.hid ?_, Lib.hid ?_, Lib.hid ?_, hst⟩
              · show R3.e - R3.a < k1; omega
              · exact hok3.out
              · show R3.e = _; omega
              · rw [List.length_append]; show ts.length + 1 ≤ R3.a; omega
              · exact ⟨(hgrow.block p hR7.out.lt (fun e => by have := hrw p e.symm; omega)).trans hR7.out.row⟩
              · exact hW7.out.newer (Wr.of_grown (S := fun j => (Value.slice ao ts.length c).ownBlock = some j) hgrow fun j e _ => e) (fun j e hj => by have := hrw j e; omega)
              · exact ownT_snoc hO7.out hE7.out (fun g hge => by have := hOo.out g hge; have := hs5.out; omega) (by have := hs5.out; omega) hown hgrow (hat.imp id (fun e => by rw [e]; simp))
          · have hb : (formV B.1 == 0) = false := beq_eq_false_iff_ne.2 f0
            by_cases f10 : formV B.1 = 10
            · have hbb : (formV B.1 == 10) = true := by rw [f10]; rfl
              have hR3d : rWhat B.1 d B.2 = B.2.bad 51 := by unfold rWhat; rw [if_neg f0, if_pos f10]
              replace f0 := Lib.hid f0
              replace f10 := Lib.hid f10
              go_wp2_with fail
              refine (qbad_any hRb.out 51).mono ?_
              rintro e' w3 ⟨rfl, hWb, hR3⟩
              have hok3 : ({ B.2.bad 51 with i := (B.2.bad 51).i + 1 } : RS).Ok := by have := hmo.out.ok hokB.out; rw [hR3d] at this; exact this
              obtain ⟨R3, hR3e⟩ : ∃ R3, R3 = B.2.bad 51 := ⟨_, rfl⟩
              rw [← hR3e] at hR3 hok3 hR3d
              have hR3w : R3.w ≠ 0 := by rw [hR3e]; exact bad_zero (by decide)
              have h3e : R3.e = r.e := by rw [hR3e, hRW.out]; exact hBe
              have h3a : R3.a = ri.a + 1 := by rw [hR3e, hRW.out]; exact hBa
              have h3i : R3.i ≤ 65536 := by rw [hR3e, hRW.out]; exact hBi
              have hW3 := hW.out.trans hWb
              have hO3 := hO1.out.wr hWb hpw
              replace hR3d := Lib.hid hR3d.symm
              replace hR3w := Lib.hid hR3w
              replace hok3 := Lib.hid hok3
              replace hR3 := Lib.hid hR3
              replace hW3 := Lib.hid hW3
              replace hO3 := Lib.hid hO3
              clear hWb hRb hW hO1 hR3e hRW hB2 hokB hmo hBe hBa hBi hBw d4
              have hwi : IntKind.i64.wrap ((R3.i : Int) + 1) = (R3.i : Int) + 1 := wid64 _ (by omega) (by omega)
              have d3 := hR3.out.c3
              have g3 := hR3.out.fr 3
              go_upto_region 16 with (fail)
              have hR4 := hR3.out.to3 (x := (R3.i : Int) + 1) (b := R3.i + 1) (by push_cast; rfl)
              have hW4 := hW3.out.set (S := (· = p)) rfl 3 (.int .i64 ((R3.i : Int) + 1))
              have hO4 := hO3.out.wr ((Wr.refl (· = p) w3).set rfl 3 (.int .i64 ((R3.i : Int) + 1))) hpw
              obtain ⟨w4, hw4⟩ : ∃ w4, w4 = w3.setCell ⟨p, 3, none⟩ (.int .i64 ((R3.i : Int) + 1)) := ⟨_, rfl⟩
              rw [← hw4] at hR4 hW4 hO4 ⊢
              clear hw4 d3 g3 hwi hR3 hW3 hO3
              replace hR4 := Lib.hid hR4
              replace hW4 := Lib.hid hW4
              replace hO4 := Lib.hid hO4
              go_upto_region 17 with (fail)
              have hpr : p < w4.heap.size := hR4.out.lt
              have hq : InsAt (w4.alloc (.cells #[.int .i64 B.1, .int .i64 0, .int .i64 0, .int .i64 0, .slice none 0 0, .slice none 0 0, .slice none 0 0] 88)) w4.heap.size (e0 B.1) := ⟨al_new' _ _ rfl⟩
              have hB4 : Below w4.heap.size w4 (w4.alloc (.cells #[.int .i64 B.1, .int .i64 0, .int .i64 0, .int .i64 0, .slice none 0 0, .slice none 0 0, .slice none 0 0] 88)) := (Below.refl _ _).alloc (Nat.le_refl _) _
              have hR5 := hR4.out.below hB4
              have hs5 : (w4.alloc (.cells #[.int .i64 B.1, .int .i64 0, .int .i64 0, .int .i64 0, .slice none 0 0, .slice none 0 0, .slice none 0 0] 88)).heap.size = w4.heap.size + 1 := by simp
              obtain ⟨q, hqq⟩ : ∃ q, q = w4.heap.size := ⟨_, rfl⟩
              rw [← hqq] at hq hpr hs5 ⊢
              obtain ⟨w5, hw5⟩ : ∃ w5, w5 = w4.alloc (.cells #[.int .i64 B.1, .int .i64 0, .int .i64 0, .int .i64 0, .slice none 0 0, .slice none 0 0, .slice none 0 0] 88) := ⟨_, rfl⟩
              rw [← hw5] at hq hB4 hR5 hs5 ⊢
              have hO5 := hO4.out.wr (Wr.of_below (S := (· = p)) hB4) hpw
              have hW5 := hW4.out.trans (Wr.of_below hB4)
              have hwq : w.heap.size ≤ q := by rw [hqq]; exact hW4.out.size
              have hOo : ∀ g, (Value.slice ao ts.length c).ownBlock = some g → g < q := fun g hge => by rw [hqq]; exact (hO4.out.1.lt g hge).2
              have hOe : ∀ w', Wr (· = p) w4 w' → ∀ t ∈ ts, EOk (fun b => w.heap.size ≤ b ∧ some b ≠ (Value.slice ao ts.length c).ownBlock) w' t := fun w' k t ht => (hO4.out.2 t ht).keep (keeps_wrR k fun b hb => by have := hb.1; omega)
              replace hOo := Lib.hid hOo
              replace hOe := Lib.hid hOe
              clear hw5 hR4 hO4 hW4
              replace hqq := Lib.hid hqq
              have c4 := hR5.c4
              replace hB4 := Lib.hid hB4
              replace hR5 := Lib.hid hR5
              have hne : (R3.w == 0) = false := beq_eq_false_iff_ne.2 hR3w.out
              have x0 := hq.cell (j := 0) (u := .int .i64 B.1) rfl
              have x1 := hq.cell (j := 1) (u := .int .i64 0) rfl
              have x2 := hq.cell (j := 2) (u := .int .i64 0) rfl
              have x3 := hq.cell (j := 3) (u := .int .i64 0) rfl
              have x4 := hq.cell (j := 4) (u := .slice none 0 0) rfl
              have x5 := hq.cell (j := 5) (u := .slice none 0 0) rfl
              have x6 := hq.cell (j := 6) (u := .slice none 0 0) rfl
              have hE6 : EOk (fun b => w5.heap.size ≤ b) w5 (e0 B.1) := eok0 _ _ _ _ _ _
              have hO6 := hO5
              have hWn := hW5
              have hR6 := hR5.out
              obtain ⟨t, ht⟩ : ∃ t, t = e0 B.1 := ⟨_, rfl⟩
              have hS6 : Same7 t (one0 B.1) := by rw [ht]; exact ⟨rfl, rfl, rfl, rfl, rfl, rfl, rfl⟩
              rw [← ht] at hE6
              have hst := hGi.out.trans (xe_step hw0.out hBB.out (hend'.out _ rfl) (O := (one0 B.1, { R3 with i := R3.i + 1 })) (by unfold rOne; rw [← hR3d.out, if_neg hR3w.out]) hS6)
              have hBx : Below w5.heap.size w5 (w5.alloc (.cells (eV t).toArray 88)) := (Below.refl _ _).alloc (Nat.le_refl _) _
              have hzz : w5.heap.size = w5.heap.size := rfl
              have hO7 := hO6.wr (Wr.of_below (S := (· = p)) hBx) hpw
              have hE7 := hE6.keep (KeepsR.below hBx)
              have hR7 := hR6.below hBx
              have hW7 := hWn.trans (Wr.of_below hBx)
              replace hst := Lib.hid hst
              replace hO7 := Lib.hid hO7
              replace hE7 := Lib.hid hE7
              replace hR7 := Lib.hid hR7
              replace hW7 := Lib.hid hW7
              clear hO6 hE6 hR6 hWn hBx
              clear hO5 hW5 hR5
              subst ht
              have hw6s : q < w5.heap.size := by omega
              replace hs5 := Lib.hid hs5
              go_wp2_with (first | (
                at_builtin
                refine wpList_append_lies _ rfl _ _ _ rfl w.heap.size 88 i70 _ 7 104 Tryz.underlying81 hi70 hz70 hs70 hb70 rfl (by omega) (.slice ao ts.length c) ts.length (ts.flatMap eV) (by rfl) hO7.out.1 ⟨w5.heap.size, 0, none⟩ 1 1 (eV (e0 B.1)) (by rfl) (by rfl) (World.news_of_block (cs := ((eV (e0 B.1))).toArray) (t := 88) (fr := (0, 0)) (heap_alloc_new _ _)) (by intro u hu; simp only [eV, e0, List.mem_cons, List.mem_nil_iff, or_false] at hu; rcases hu with rfl | rfl | rfl | rfl | rfl | rfl | rfl <;> rfl) (by omega) (by unfold maxLen; omega) (by omega) (by simp; omega) (w5.heap.size + 1) (by simp) ?_
                intro g cap w8 hown hgrow hat hlt))
              go_roundg k1
              case measure => omega
              case rel =>
                have hrw : ∀ j, (Value.slice ao ts.length c).ownBlock = some j → w.heap.size ≤ j := fun j hj => (hO7.out.1.lt j hj).1
                refine ⟨ts ++ [(e0 B.1)], { R3 with i := R3.i + 1 }, some ⟨g, 0, none⟩, cap, by rw [List.length_append]; rfl, ?_, by omega, ?_, ?_, ?_, Lib.hid ?_, Lib.hid ?_, Lib.hid ?_, hst⟩
                · show R3.e - R3.a < k1; omega
                · exact hok3.out
                · show R3.e = _; omega
                · rw [List.length_append]; show ts.length + 1 ≤ R3.a; omega
                · exact ⟨(hgrow.block p hR7.out.lt (fun e => by have := hrw p e.symm; omega)).trans hR7.out.row⟩
                · exact hW7.out.newer (Wr.of_grown (S := fun j => (Value.slice ao ts.length c).ownBlock = some j) hgrow fun j e _ => e) (fun j e hj => by have := hrw j e; omega)
                · exact ownT_snoc hO7.out hE7.out (fun g hge => by have := hOo.out g hge; have := hs5.out; omega) (by have := hs5.out; omega) hown hgrow (hat.imp id (fun e => by rw [e]; simp))
            · have hbb : (formV B.1 == 10) = false := beq_eq_false_iff_ne.2 f10
              have d3 := hRb.out.c3
              by_cases hi : B.2.i = 65536
              · have hbc : ((B.2.i : Int) == 65536) = true := by rw [hi]; rfl
                have hR3d : rWhat B.1 d B.2 = B.2.bad 3 := by unfold rWhat; rw [if_neg f0, if_neg f10, if_pos hi]
                replace f0 := Lib.hid f0
                replace f10 := Lib.hid f10
                replace hi := Lib.hid hi
                go_wp2_with fail
                refine (qbad_any hRb.out 3).mono ?_
                rintro e' w3 ⟨rfl, hWb, hR3⟩
                have hok3 : ({ B.2.bad 3 with i := (B.2.bad 3).i + 1 } : RS).Ok := by have := hmo.out.ok hokB.out; rw [hR3d] at this; exact this
                obtain ⟨R3, hR3e⟩ : ∃ R3, R3 = B.2.bad 3 := ⟨_, rfl⟩
                rw [← hR3e] at hR3 hok3 hR3d
                have hR3w : R3.w ≠ 0 := by rw [hR3e]; exact bad_zero (by decide)
                have h3e : R3.e = r.e := by rw [hR3e, hRW.out]; exact hBe
                have h3a : R3.a = ri.a + 1 := by rw [hR3e, hRW.out]; exact hBa
                have h3i : R3.i ≤ 65536 := by rw [hR3e, hRW.out]; exact hBi
                have hW3 := hW.out.trans hWb
                have hO3 := hO1.out.wr hWb hpw
                replace hR3d := Lib.hid hR3d.symm
                replace hR3w := Lib.hid hR3w
                replace hok3 := Lib.hid hok3
                replace hR3 := Lib.hid hR3
                replace hW3 := Lib.hid hW3
                replace hO3 := Lib.hid hO3
                clear hWb hRb hW hO1 hR3e hRW hB2 hokB hmo hBe hBa hBi hBw d4
                have hwi : IntKind.i64.wrap ((R3.i : Int) + 1) = (R3.i : Int) + 1 := wid64 _ (by omega) (by omega)
                have d3 := hR3.out.c3
                have g3 := hR3.out.fr 3
                go_upto_region 16 with (fail)
                have hR4 := hR3.out.to3 (x := (R3.i : Int) + 1) (b := R3.i + 1) (by push_cast; rfl)
                have hW4 := hW3.out.set (S := (· = p)) rfl 3 (.int .i64 ((R3.i : Int) + 1))
                have hO4 := hO3.out.wr ((Wr.refl (· = p) w3).set rfl 3 (.int .i64 ((R3.i : Int) + 1))) hpw
                obtain ⟨w4, hw4⟩ : ∃ w4, w4 = w3.setCell ⟨p, 3, none⟩ (.int .i64 ((R3.i : Int) + 1)) := ⟨_, rfl⟩
                rw [← hw4] at hR4 hW4 hO4 ⊢
                clear hw4 d3 g3 hwi hR3 hW3 hO3
                replace hR4 := Lib.hid hR4
                replace hW4 := Lib.hid hW4
                replace hO4 := Lib.hid hO4
                go_upto_region 17 with (fail)
                have hpr : p < w4.heap.size := hR4.out.lt
                have hq : InsAt (w4.alloc (.cells #[.int .i64 B.1, .int .i64 0, .int .i64 0, .int .i64 0, .slice none 0 0, .slice none 0 0, .slice none 0 0] 88)) w4.heap.size (e0 B.1) := ⟨al_new' _ _ rfl⟩
                have hB4 : Below w4.heap.size w4 (w4.alloc (.cells #[.int .i64 B.1, .int .i64 0, .int .i64 0, .int .i64 0, .slice none 0 0, .slice none 0 0, .slice none 0 0] 88)) := (Below.refl _ _).alloc (Nat.le_refl _) _
                have hR5 := hR4.out.below hB4
                have hs5 : (w4.alloc (.cells #[.int .i64 B.1, .int .i64 0, .int .i64 0, .int .i64 0, .slice none 0 0, .slice none 0 0, .slice none 0 0] 88)).heap.size = w4.heap.size + 1 := by simp
                obtain ⟨q, hqq⟩ : ∃ q, q = w4.heap.size := ⟨_, rfl⟩
                rw [← hqq] at hq hpr hs5 ⊢
                obtain ⟨w5, hw5⟩ : ∃ w5, w5 = w4.alloc (.cells #[.int .i64 B.1, .int .i64 0, .int .i64 0, .int .i64 0, .slice none 0 0, .slice none 0 0, .slice none 0 0] 88) := ⟨_, rfl⟩
                rw [← hw5] at hq hB4 hR5 hs5 ⊢
                have hO5 := hO4.out.wr (Wr.of_below (S := (· = p)) hB4) hpw
                have hW5 := hW4.out.trans (Wr.of_below hB4)
                have hwq : w.heap.size ≤ q := by rw [hqq]; exact hW4.out.size
                have hOo : ∀ g, (Value.slice ao ts.length c).ownBlock = some g → g < q := fun g hge => by rw [hqq]; exact (hO4.out.1.lt g hge).2
                have hOe : ∀ w', Wr (· = p) w4 w' → ∀ t ∈ ts, EOk (fun b => w.heap.size ≤ b ∧ some b ≠ (Value.slice ao ts.length c).ownBlock) w' t := fun w' k t ht => (hO4.out.2 t ht).keep (keeps_wrR k fun b hb => by have := hb.1; omega)
                replace hOo := Lib.hid hOo
                replace hOe := Lib.hid hOe
                clear hw5 hR4 hO4 hW4
                replace hqq := Lib.hid hqq
                have c4 := hR5.c4
                replace hB4 := Lib.hid hB4
                replace hR5 := Lib.hid hR5
                have hne : (R3.w == 0) = false := beq_eq_false_iff_ne.2 hR3w.out
                have x0 := hq.cell (j := 0) (u := .int .i64 B.1) rfl
                have x1 := hq.cell (j := 1) (u := .int .i64 0) rfl
                have x2 := hq.cell (j := 2) (u := .int .i64 0) rfl
                have x3 := hq.cell (j := 3) (u := .int .i64 0) rfl
                have x4 := hq.cell (j := 4) (u := .slice none 0 0) rfl
                have x5 := hq.cell (j := 5) (u := .slice none 0 0) rfl
                have x6 := hq.cell (j := 6) (u := .slice none 0 0) rfl
                have hE6 : EOk (fun b => w5.heap.size ≤ b) w5 (e0 B.1) := eok0 _ _ _ _ _ _
                have hO6 := hO5
                have hWn := hW5
                have hR6 := hR5.out
                obtain ⟨t, ht⟩ : ∃ t, t = e0 B.1 := ⟨_, rfl⟩
                have hS6 : Same7 t (one0 B.1) := by rw [ht]; exact ⟨rfl, rfl, rfl, rfl, rfl, rfl, rfl⟩
                rw [← ht] at hE6
                have hst := hGi.out.trans (xe_step hw0.out hBB.out (hend'.out _ rfl) (O := (one0 B.1, { R3 with i := R3.i + 1 })) (by unfold rOne; rw [← hR3d.out, if_neg hR3w.out]) hS6)
                have hBx : Below w5.heap.size w5 (w5.alloc (.cells (eV t).toArray 88)) := (Below.refl _ _).alloc (Nat.le_refl _) _
                have hzz : w5.heap.size = w5.heap.size := rfl
                have hO7 := hO6.wr (Wr.of_below (S := (· = p)) hBx) hpw
                have hE7 := hE6.keep (KeepsR.below hBx)
                have hR7 := hR6.below hBx
                have hW7 := hWn.trans (Wr.of_below hBx)
                replace hst := Lib.hid hst
                replace hO7 := Lib.hid hO7
                replace hE7 := Lib.hid hE7
                replace hR7 := Lib.hid hR7
                replace hW7 := Lib.hid hW7
                clear hO6 hE6 hR6 hWn hBx
                clear hO5 hW5 hR5
                subst ht
                have hw6s : q < w5.heap.size := by omega
                replace hs5 := Lib.hid hs5
                go_wp2_with (first | (
                  at_builtin
                  refine wpList_append_lies _ rfl _ _ _ rfl w.heap.size 88 i70 _ 7 104 Tryz.underlying81 hi70 hz70 hs70 hb70 rfl (by omega) (.slice ao ts.length c) ts.length (ts.flatMap eV) (by rfl) hO7.out.1 ⟨w5.heap.size, 0, none⟩ 1 1 (eV (e0 B.1)) (by rfl) (by rfl) (World.news_of_block (cs := ((eV (e0 B.1))).toArray) (t := 88) (fr := (0, 0)) (heap_alloc_new _ _)) (by intro u hu; simp only [eV, e0, List.mem_cons, List.mem_nil_iff, or_false] at hu; rcases hu with rfl | rfl | rfl | rfl | rfl | rfl | rfl <;> rfl) (by omega) (by unfold maxLen; omega) (by omega) (by simp; omega) (w5.heap.size + 1) (by simp) ?_
                  intro g cap w8 hown hgrow hat hlt))
                go_roundg k1
                case measure => omega
                case rel =>
                  have hrw : ∀ j, (Value.slice ao ts.length c).ownBlock = some j → w.heap.size ≤ j := fun j hj => (hO7.out.1.lt j hj).1
                  refine ⟨ts ++ [(e0 B.1)], { R3 with i := R3.i + 1 }, some ⟨g, 0, none⟩, cap, by rw [List.length_append]; rfl, ?_, by omega, ?_, ?_, ?_, Lib.hid ?_, Lib.hid ?_, Lib.hid ?_, hst⟩
                  · show R3.e - R3.a < k1; omega
                  · exact hok3.out
                  · show R3.e = _; omega
                  · rw [List.length_append]; show ts.length + 1 ≤ R3.a; omega
                  · exact ⟨(hgrow.block p hR7.out.lt (fun e => by have := hrw p e.symm; omega)).trans hR7.out.row⟩
                  · exact hW7.out.newer (Wr.of_grown (S := fun j => (Value.slice ao ts.length c).ownBlock = some j) hgrow fun j e _ => e) (fun j e hj => by have := hrw j e; omega)
                  · exact ownT_snoc hO7.out hE7.out (fun g hge => by have := hOo.out g hge; have := hs5.out; omega) (by have := hs5.out; omega) hown hgrow (hat.imp id (fun e => by rw [e]; simp))
              · have hbc : ((B.2.i : Int) == 65536) = false := beq_eq_false_iff_ne.2 (by omega)
                by_cases hdd : 64 < d
                · have hR3d : rWhat B.1 d B.2 = B.2.bad 4 := by unfold rWhat; rw [if_neg f0, if_neg f10, if_neg hi, if_pos hdd]
                  have hbd : (64 : Int) < (d : Int) := by omega
                  replace f0 := Lib.hid f0
                  replace f10 := Lib.hid f10
                  replace hi := Lib.hid hi
                  go_wp2_with fail
                  refine (qbad_any hRb.out 4).mono ?_
                  rintro e' w3 ⟨rfl, hWb, hR3⟩
                  have hok3 : ({ B.2.bad 4 with i := (B.2.bad 4).i + 1 } : RS).Ok := by have := hmo.out.ok hokB.out; rw [hR3d] at this; exact this
                  obtain ⟨R3, hR3e⟩ : ∃ R3, R3 = B.2.bad 4 := ⟨_, rfl⟩
                  rw [← hR3e] at hR3 hok3 hR3d
                  have hR3w : R3.w ≠ 0 := by rw [hR3e]; exact bad_zero (by decide)
                  have h3e : R3.e = r.e := by rw [hR3e, hRW.out]; exact hBe
                  have h3a : R3.a = ri.a + 1 := by rw [hR3e, hRW.out]; exact hBa
                  have h3i : R3.i ≤ 65536 := by rw [hR3e, hRW.out]; exact hBi
                  have hW3 := hW.out.trans hWb
                  have hO3 := hO1.out.wr hWb hpw
                  replace hR3d := Lib.hid hR3d.symm
                  replace hR3w := Lib.hid hR3w
                  replace hok3 := Lib.hid hok3
                  replace hR3 := Lib.hid hR3
                  replace hW3 := Lib.hid hW3
                  replace hO3 := Lib.hid hO3
                  clear hWb hRb hW hO1 hR3e hRW hB2 hokB hmo hBe hBa hBi hBw d4
                  have hwi : IntKind.i64.wrap ((R3.i : Int) + 1) = (R3.i : Int) + 1 := wid64 _ (by omega) (by omega)
                  have d3 := hR3.out.c3
                  have g3 := hR3.out.fr 3
                  go_upto_region 16 with (fail)
                  have hR4 := hR3.out.to3 (x := (R3.i : Int) + 1) (b := R3.i + 1) (by push_cast; rfl)
                  have hW4 := hW3.out.set (S := (· = p)) rfl 3 (.int .i64 ((R3.i : Int) + 1))
                  have hO4 := hO3.out.wr ((Wr.refl (· = p) w3).set rfl 3 (.int .i64 ((R3.i : Int) + 1))) hpw
                  obtain ⟨w4, hw4⟩ : ∃ w4, w4 = w3.setCell ⟨p, 3, none⟩ (.int .i64 ((R3.i : Int) + 1)) := ⟨_, rfl⟩
                  rw [← hw4] at hR4 hW4 hO4 ⊢
                  clear hw4 d3 g3 hwi hR3 hW3 hO3
                  replace hR4 := Lib.hid hR4
                  replace hW4 := Lib.hid hW4
                  replace hO4 := Lib.hid hO4
                  go_upto_region 17 with (fail)
                  have hpr : p < w4.heap.size := hR4.out.lt
                  have hq : InsAt (w4.alloc (.cells #[.int .i64 B.1, .int .i64 0, .int .i64 0, .int .i64 0, .slice none 0 0, .slice none 0 0, .slice none 0 0] 88)) w4.heap.size (e0 B.1) := ⟨al_new' _ _ rfl⟩
                  have hB4 : Below w4.heap.size w4 (w4.alloc (.cells #[.int .i64 B.1, .int .i64 0, .int .i64 0, .int .i64 0, .slice none 0 0, .slice none 0 0, .slice none 0 0] 88)) := (Below.refl _ _).alloc (Nat.le_refl _) _
                  have hR5 := hR4.out.below hB4
                  have hs5 : (w4.alloc (.cells #[.int .i64 B.1, .int .i64 0, .int .i64 0, .int .i64 0, .slice none 0 0, .slice none 0 0, .slice none 0 0] 88)).heap.size = w4.heap.size + 1 := by simp
                  obtain ⟨q, hqq⟩ : ∃ q, q = w4.heap.size := ⟨_, rfl⟩
                  rw [← hqq] at hq hpr hs5 ⊢
                  obtain ⟨w5, hw5⟩ : ∃ w5, w5 = w4.alloc (.cells #[.int .i64 B.1, .int .i64 0, .int .i64 0, .int .i64 0, .slice none 0 0, .slice none 0 0, .slice none 0 0] 88) := ⟨_, rfl⟩
                  rw [← hw5] at hq hB4 hR5 hs5 ⊢
                  have hO5 := hO4.out.wr (Wr.of_below (S := (· = p)) hB4) hpw
                  have hW5 := hW4.out.trans (Wr.of_below hB4)
                  have hwq : w.heap.size ≤ q := by rw [hqq]; exact hW4.out.size
                  have hOo : ∀ g, (Value.slice ao ts.length c).ownBlock = some g → g < q := fun g hge => by rw [hqq]; exact (hO4.out.1.lt g hge).2
                  have hOe : ∀ w', Wr (· = p) w4 w' → ∀ t ∈ ts, EOk (fun b => w.heap.size ≤ b ∧ some b ≠ (Value.slice ao ts.length c).ownBlock) w' t := fun w' k t ht => (hO4.out.2 t ht).keep (keeps_wrR k fun b hb => by have := hb.1; omega)
                  replace hOo := Lib.hid hOo
                  replace hOe := Lib.hid hOe
                  clear hw5 hR4 hO4 hW4
                  replace hqq := Lib.hid hqq
                  have c4 := hR5.c4
                  replace hB4 := Lib.hid hB4
                  replace hR5 := Lib.hid hR5
                  have hne : (R3.w == 0) = false := beq_eq_false_iff_ne.2 hR3w.out
                  have x0 := hq.cell (j := 0) (u := .int .i64 B.1) rfl
                  have x1 := hq.cell (j := 1) (u := .int .i64 0) rfl
                  have x2 := hq.cell (j := 2) (u := .int .i64 0) rfl
                  have x3 := hq.cell (j := 3) (u := .int .i64 0) rfl
                  have x4 := hq.cell (j := 4) (u := .slice none 0 0) rfl
                  have x5 := hq.cell (j := 5) (u := .slice none 0 0) rfl
                  have x6 := hq.cell (j := 6) (u := .slice none 0 0) rfl
                  have hE6 : EOk (fun b => w5.heap.size ≤ b) w5 (e0 B.1) := eok0 _ _ _ _ _ _
                  have hO6 := hO5
                  have hWn := hW5
                  have hR6 := hR5.out
                  obtain ⟨t, ht⟩ : ∃ t, t = e0 B.1 := ⟨_, rfl⟩
                  have hS6 : Same7 t (one0 B.1) := by rw [ht]; exact ⟨rfl, rfl, rfl, rfl, rfl, rfl, rfl⟩
                  rw [← ht] at hE6
                  have hst := hGi.out.trans (xe_step hw0.out hBB.out (hend'.out _ rfl) (O := (one0 B.1, { R3 with i := R3.i + 1 })) (by unfold rOne; rw [← hR3d.out, if_neg hR3w.out]) hS6)
                  have hBx : Below w5.heap.size w5 (w5.alloc (.cells (eV t).toArray 88)) := (Below.refl _ _).alloc (Nat.le_refl _) _
                  have hzz : w5.heap.size = w5.heap.size := rfl
                  have hO7 := hO6.wr (Wr.of_below (S := (· = p)) hBx) hpw
                  have hE7 := hE6.keep (KeepsR.below hBx)
                  have hR7 := hR6.below hBx
                  have hW7 := hWn.trans (Wr.of_below hBx)
                  replace hst := Lib.hid hst
                  replace hO7 := Lib.hid hO7
                  replace hE7 := Lib.hid hE7
                  replace hR7 := Lib.hid hR7
                  replace hW7 := Lib.hid hW7
                  clear hO6 hE6 hR6 hWn hBx
                  clear hO5 hW5 hR5
                  subst ht
                  have hw6s : q < w5.heap.size := by omega
                  replace hs5 := Lib.hid hs5
                  go_wp2_with (first | (
                    at_builtin
                    refine wpList_append_lies _ rfl _ _ _ rfl w.heap.size 88 i70 _ 7 104 Tryz.underlying81 hi70 hz70 hs70 hb70 rfl (by omega) (.slice ao ts.length c) ts.length (ts.flatMap eV) (by rfl) hO7.out.1 ⟨w5.heap.size, 0, none⟩ 1 1 (eV (e0 B.1)) (by rfl) (by rfl) (World.news_of_block (cs := ((eV (e0 B.1))).toArray) (t := 88) (fr := (0, 0)) (heap_alloc_new _ _)) (by intro u hu; simp only [eV, e0, List.mem_cons, List.mem_nil_iff, or_false] at hu; rcases hu with rfl | rfl | rfl | rfl | rfl | rfl | rfl <;> rfl) (by omega) (by unfold maxLen; omega) (by omega) (by simp; omega) (w5.heap.size + 1) (by simp) ?_
                    intro g cap w8 hown hgrow hat hlt))
                  go_roundg k1
                  case measure => omega
                  case rel =>
                    have hrw : ∀ j, (Value.slice ao ts.length c).ownBlock = some j → w.heap.size ≤ j := fun j hj => (hO7.out.1.lt j hj).1
                    refine ⟨ts ++ [(e0 B.1)], { R3 with i := R3.i + 1 }, some ⟨g, 0, none⟩, cap, by rw [List.length_append]; rfl, ?_, by omega, ?_, ?_, ?_, Lib.hid ?_, Lib.hid ?_, Lib.hid ?_, hst⟩
                    · show R3.e - R3.a < k1; omega
                    · exact hok3.out
                    · show R3.e = _; omega
                    · rw [List.length_append]; show ts.length + 1 ≤ R3.a; omega
                    · exact ⟨(hgrow.block p hR7.out.lt (fun e => by have := hrw p e.symm; omega)).trans hR7.out.row⟩
                    · exact hW7.out.newer (Wr.of_grown (S := fun j => (Value.slice ao ts.length c).ownBlock = some j) hgrow fun j e _ => e) (fun j e hj => by have := hrw j e; omega)
                    · exact ownT_snoc hO7.out hE7.out (fun g hge => by have := hOo.out g hge; have := hs5.out; omega) (by have := hs5.out; omega) hown hgrow (hat.imp id (fun e => by rw [e]; simp))
                · have hR3d : rWhat B.1 d B.2 = B.2 := by unfold rWhat; rw [if_neg f0, if_neg f10, if_neg hi, if_neg hdd]
                  have hbd : ¬ (64 : Int) < (d : Int) := by omega
                  have hok3 : ({ B.2 with i := B.2.i + 1 } : RS).Ok := by have := hmo.out.ok hokB.out; rw [hR3d] at this; exact this
                  obtain ⟨R3, hRq⟩ : ∃ R3, R3 = B.2 := ⟨_, rfl⟩
                  have hR3w : R3.w = 0 := by rw [hRq]; exact hBw.out
                  have h3e : R3.e = r.e := by rw [hRq]; exact hBe
                  have h3a : R3.a = ri.a + 1 := by rw [hRq]; exact hBa
                  have h3i : R3.i ≤ 65536 := by rw [hRq]; exact hBi
                  have hR3c : R3 = rWhat B.1 d B.2 := by rw [hR3d, hRq]
                  have hR3' : RrAt w1 p s R3 := by rw [hRq]; exact hRb.out
                  rw [← hRq] at d3 d4 hbc hok3
                  replace hR3c := Lib.hid hR3c
                  replace f0 := Lib.hid f0
                  replace f10 := Lib.hid f10
                  replace hi := Lib.hid hi
                  replace hR3w := Lib.hid hR3w
                  replace hok3 := Lib.hid hok3
                  have hR3 := Lib.hid hR3'
                  have hW3 := hW
                  have hO3 := hO1
                  obtain ⟨w3, hw3⟩ : ∃ w3, w3 = w1 := ⟨_, rfl⟩
                  rw [← hw3] at hR3 hW3 hO3 d3 d4 ⊢
                  clear hRq hR3' hR3d hRb hW hO1 hw3 hRW hB2 hokB hmo hBe hBa hBi hBw
                  have hR3d := hR3c
                  clear hR3c
                  have hwi : IntKind.i64.wrap ((R3.i : Int) + 1) = (R3.i : Int) + 1 := wid64 _ (by omega) (by omega)
                  have d3 := hR3.out.c3
                  have g3 := hR3.out.fr 3
                  go_upto_region 16 with (fail)
                  have hR4 := hR3.out.to3 (x := (R3.i : Int) + 1) (b := R3.i + 1) (by push_cast; rfl)
                  have hW4 := hW3.out.set (S := (· = p)) rfl 3 (.int .i64 ((R3.i : Int) + 1))
                  have hO4 := hO3.out.wr ((Wr.refl (· = p) w3).set rfl 3 (.int .i64 ((R3.i : Int) + 1))) hpw
                  obtain ⟨w4, hw4⟩ : ∃ w4, w4 = w3.setCell ⟨p, 3, none⟩ (.int .i64 ((R3.i : Int) + 1)) := ⟨_, rfl⟩
                  rw [← hw4] at hR4 hW4 hO4 ⊢
                  clear hw4 d3 g3 hwi hR3 hW3 hO3
                  replace hR4 := Lib.hid hR4
                  replace hW4 := Lib.hid hW4
                  replace hO4 := Lib.hid hO4
                  go_upto_region 17 with (fail)
                  have hpr : p < w4.heap.size := hR4.out.lt
                  have hq : InsAt (w4.alloc (.cells #[.int .i64 B.1, .int .i64 0, .int .i64 0, .int .i64 0, .slice none 0 0, .slice none 0 0, .slice none 0 0] 88)) w4.heap.size (e0 B.1) := ⟨al_new' _ _ rfl⟩
                  have hB4 : Below w4.heap.size w4 (w4.alloc (.cells #[.int .i64 B.1, .int .i64 0, .int .i64 0, .int .i64 0, .slice none 0 0, .slice none 0 0, .slice none 0 0] 88)) := (Below.refl _ _).alloc (Nat.le_refl _) _
                  have hR5 := hR4.out.below hB4
                  have hs5 : (w4.alloc (.cells #[.int .i64 B.1, .int .i64 0, .int .i64 0, .int .i64 0, .slice none 0 0, .slice none 0 0, .slice none 0 0] 88)).heap.size = w4.heap.size + 1 := by simp
                  obtain ⟨q, hqq⟩ : ∃ q, q = w4.heap.size := ⟨_, rfl⟩
                  rw [← hqq] at hq hpr hs5 ⊢
                  obtain ⟨w5, hw5⟩ : ∃ w5, w5 = w4.alloc (.cells #[.int .i64 B.1, .int .i64 0, .int .i64 0, .int .i64 0, .slice none 0 0, .slice none 0 0, .slice none 0 0] 88) := ⟨_, rfl⟩
                  rw [← hw5] at hq hB4 hR5 hs5 ⊢
                  have hO5 := hO4.out.wr (Wr.of_below (S := (· = p)) hB4) hpw
                  have hW5 := hW4.out.trans (Wr.of_below hB4)
                  have hwq : w.heap.size ≤ q := by rw [hqq]; exact hW4.out.size
                  have hOo : ∀ g, (Value.slice ao ts.length c).ownBlock = some g → g < q := fun g hge => by rw [hqq]; exact (hO4.out.1.lt g hge).2
                  have hOe : ∀ w', Wr (· = p) w4 w' → ∀ t ∈ ts, EOk (fun b => w.heap.size ≤ b ∧ some b ≠ (Value.slice ao ts.length c).ownBlock) w' t := fun w' k t ht => (hO4.out.2 t ht).keep (keeps_wrR k fun b hb => by have := hb.1; omega)
                  replace hOo := Lib.hid hOo
                  replace hOe := Lib.hid hOe
                  clear hw5 hR4 hO4 hW4
                  replace hqq := Lib.hid hqq
                  have c4 := hR5.c4
                  replace hB4 := Lib.hid hB4
                  replace hR5 := Lib.hid hR5
                  have hne : (R3.w == 0) = true := by rw [hR3w.out]; rfl
                  have hok5 : ({ R3 with i := R3.i + 1 } : RS).Ok := hok3.out
                  replace hq := Lib.hid hq
                  replace hO5 := Lib.hid hO5
                  replace hW5 := Lib.hid hW5
                  replace hs5 := Lib.hid hs5
                  replace hok5 := Lib.hid hok5
                  go_wp2_with fail
                  refine (oper_any hR5.out hq.out (by omega) hs hok5.out (by show R3.e ≤ _; omega) d (by omega) (ih0.out k1 (by omega)) (by show R3.e - R3.a < k1; omega) f0.out f10.out).mono ?_
                  rintro e' w6 ⟨hW6, rfl, hR6, t, hI6, hS6, hE6⟩
                  obtain ⟨O, hOO⟩ : ∃ O, O = rOperands (strl s) (rExprs (strl s) k1) B.1 d { R3 with i := R3.i + 1 } := ⟨_, rfl⟩
                  have hmo := go_operands (strl s) (go_exprs (strl s) k1) B.1 d { R3 with i := R3.i + 1 }
                  rw [← hOO] at hR6 hS6 hmo
                  have hoo : rOne (strl s) (rExprs (strl s) k1) B.1 d B.2 = O := by unfold rOne; rw [← hR3d.out, if_pos hR3w.out, hOO]
                  have hW65 : Wr (· = p) w4 w6 := (Wr.of_below hB4.out).newer hW6 (fun j hj hlt => hj.elim id (fun e => by have := hqq.out; omega))
                  have hOn := hO5.out
                  have hWn := hW5.out.newer hW6 (fun j hj hlt => hj.elim id (fun e => by omega))
                  have hO6 : OwnT w.heap.size w6 (.slice ao ts.length c) ts := ⟨own_same hOn.1 fun g hge => hW6.block g (hOn.1.lt g hge).2 (fun e => e.elim (fun e => by have := (hOn.1.lt g hge).1; omega) (fun e => by have := hOo.out g hge; omega)), fun t ht => hOe.out w6 hW65 t ht⟩
                  have x0 := hI6.cell (j := 0) rfl
                  have x1 := hI6.cell (j := 1) rfl
                  have x2 := hI6.cell (j := 2) rfl
                  have x3 := hI6.cell (j := 3) rfl
                  have x4 := hI6.cell (j := 4) rfl
                  have x5 := hI6.cell (j := 5) rfl
                  have x6 := hI6.cell (j := 6) rfl
                  have hst := hGi.out.trans (xe_step hw0.out hBB.out (hend'.out _ rfl) hoo hS6)
                  have hok6 := hmo.ok hok5.out
                  have hea6 : O.2.e = R3.e := hmo.e
                  have hup6 : R3.a ≤ O.2.a := hmo.up
                  have hBx : Below w6.heap.size w6 (w6.alloc (.cells (eV t).toArray 88)) := (Below.refl _ _).alloc (Nat.le_refl _) _
                  have hw6s : q < w6.heap.size := hI6.lt
                  clear hOn hW65 hS6 hI6 hoo hOO hmo
                  have hO7 := hO6.wr (Wr.of_below (S := (· = p)) hBx) hpw
                  have hE7 := hE6.keep (KeepsR.below hBx)
                  have hR7 := hR6.below hBx
                  have hW7 := hWn.trans (Wr.of_below hBx)
                  replace hst := Lib.hid hst
                  replace hO7 := Lib.hid hO7
                  replace hE7 := Lib.hid hE7
                  replace hR7 := Lib.hid hR7
                  replace hW7 := Lib.hid hW7
                  clear hO6 hE6 hR6 hWn hBx
                  go_wp2_with (first | (
                    at_builtin
                    refine wpList_append_lies _ rfl _ _ _ rfl w.heap.size 88 i70 _ 7 104 Tryz.underlying81 hi70 hz70 hs70 hb70 rfl (by omega) (.slice ao ts.length c) ts.length (ts.flatMap eV) (by rfl) hO7.out.1 ⟨w6.heap.size, 0, none⟩ 1 1 (eV t) (by rfl) (by rfl) (World.news_of_block (cs := ((eV t)).toArray) (t := 88) (fr := (0, 0)) (heap_alloc_new _ _)) (by intro u hu; simp only [eV, e0, List.mem_cons, List.mem_nil_iff, or_false] at hu; rcases hu with rfl | rfl | rfl | rfl | rfl | rfl | rfl <;> rfl) (by omega) (by unfold maxLen; omega) (by omega) (by simp; omega) (w6.heap.size + 1) (by simp) ?_
                    intro g cap w8 hown hgrow hat hlt))
                  go_roundg k1
                  case measure => omega
                  case rel =>
                    have hrw : ∀ j, (Value.slice ao ts.length c).ownBlock = some j → w.heap.size ≤ j := fun j hj => (hO7.out.1.lt j hj).1
                    refine ⟨ts ++ [t], O.2, some ⟨g, 0, none⟩, cap, by rw [List.length_append]; rfl, ?_, by omega, ?_, ?_, ?_, Lib.hid ?_, Lib.hid ?_, Lib.hid ?_, hst⟩
                    · omega
                    · exact hok6
                    · omega
                    · rw [List.length_append]; show ts.length + 1 ≤ O.2.a; omega
                    · exact ⟨(hgrow.block p hR7.out.lt (fun e => by have := hrw p e.symm; omega)).trans hR7.out.row⟩
                    · exact hW7.out.newer (Wr.of_grown (S := fun j => (Value.slice ao ts.length c).ownBlock = some j) hgrow fun j e _ => e) (fun j e hj => by have := hrw j e; omega)
                    · exact ownT_snoc hO7.out hE7.out (fun g hge => by have := hOo.out g hge; have := hs5.out; omega) (by have := hs5.out; omega) hown hgrow (hat.imp id (fun e => by rw [e]; simp))
    · have hq : (ri.w == 0) = false := beq_eq_false_iff_ne.2 hw0
      have hfin : R = ((ilOf ts .nil, 0), ri) := by rw [hGi.out]; exact xe_wrong hw0
      replace hfin := Lib.hid hfin
      replace hw0 := Lib.hid hw0
      have hsl := hOi.out.sl
      replace hsl := Lib.hid hsl
      go_wp2_with fail
      refine bodyPost_ret (by simp [results, Tryz.results143, go_sem] <;> rfl) rfl ?_
      obtain ⟨h1, h2, h3⟩ := hsl.out
      rw [hfin.out]
      exact ⟨hWi.out, hRi.out, ao, c, by rw [h2], by show (ilOf ts .nil).len ≤ _; omega, h1⟩
end Go.Proofs.YtkbfjkbokifgkaaGreatDoor
