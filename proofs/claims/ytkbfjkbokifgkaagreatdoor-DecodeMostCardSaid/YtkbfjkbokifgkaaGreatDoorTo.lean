/- The reference's reader: a constant. -/
import Derived.Test.YtkbfjkbokifgkaaGreatDoorTm
import Derived.Test.YtkbfjkbokifgkaaGreatDoorPs
import Derived.Test.YtkbfjkbokifgkaaGreatDoorQd
import Derived.Test.YtkbfjkbokifgkaaGreatDoorFc
namespace Go.Proofs.YtkbfjkbokifgkaaGreatDoor
open Go.RowKit
set_option linter.unusedVariables false
set_option linter.unusedSimpArgs false

theorem roper_con (s : List UInt8) (rec rec' : Nat → Bool → RS → Rg (Il × Int)) (op : Int) (ho : op = 65 ∨ op = 66 ∨ op = 35) (d d' : Nat) (r : RS) :
    rOperands s rec op d r = rOperands s rec' op d' r ∧ (rOperands s rec op d r).1.ls = [] ∧ (rOperands s rec op d r).1.body = .nil ∧ (rOperands s rec op d r).1.els = .nil := by
  rcases ho with rfl | rfl | rfl
  all_goals
    unfold rOperands
    simp [show formV 65 = 9 from rfl, show formV 66 = 9 from rfl, show formV 35 = 6 from rfl]
theorem roper_any {w : World} {p q : Nat} {s : ByteArray} {r : RS} {op : Int} (h : RrAt w p s r) (hk : InsAt w q (e0 op)) (hpq : p ≠ q) (hs : s.size ≤ 262144) (hr : r.Ok) (he : r.e ≤ s.size) (ho : op = 65 ∨ op = 66 ∨ op = 35) (rec : Nat → Bool → RS → Rg (Il × Int)) :
    Calls Tryz.prog 180 #[.pointer (some ⟨p, 0, none⟩), .pointer (some ⟨q, 0, none⟩), .int .i64 0] w (Od p q s (rOperands (strl s) rec op 0 r) w) := by
  rw [(roper_con (strl s) rec (rExprs (strl s) (r.e - r.a + 1)) op ho 0 0 r).1]
  have hx := ex_any s (r.e - r.a + 1)
  rcases ho with rfl | rfl | rfl
  · exact oper_9i h hk hpq hs hr he 0 (by omega) hx (by omega) rfl rfl
  · exact oper_9l h hk hpq hs hr he 0 (by omega) hx (by omega) rfl (by decide)
  · exact oper_46 h hk hpq hs hr he 0 (by omega) hx (by omega) (.inr rfl)
set_option maxRecDepth 100000 in
set_option maxHeartbeats 8000000 in
theorem qconst_any {w : World} {p : Nat} {s : ByteArray} {r : RS} (h : RrAt w p s r) (hs : s.size ≤ 262144) (ha : r.Ok) (he : r.e ≤ s.size) :
    Calls Tryz.prog 149 #[.pointer (some ⟨p, 0, none⟩)] w (Rv VOne p s (rConst (strl s) r) w) := by
  obtain ⟨q, hq⟩ : ∃ q, q = w.heap.size := ⟨_, rfl⟩
  have hB0 : Below w.heap.size w (w.alloc (.cells #[.int .i64 0, .int .i64 0, .int .i64 0, .int .i64 0, .slice none 0 0, .slice none 0 0, .slice none 0 0] 88)) := (Below.refl _ _).alloc (Nat.le_refl _) _
  have hR0 := h.below hB0
  have hK0 : Bk (w.alloc (.cells #[.int .i64 0, .int .i64 0, .int .i64 0, .int .i64 0, .slice none 0 0, .slice none 0 0, .slice none 0 0] 88)) q [.int .i64 0, .int .i64 0, .int .i64 0, .int .i64 0, .slice none 0 0, .slice none 0 0, .slice none 0 0] 88 := by rw [hq]; exact Bk.new _ _ _
  have hW0 : Wr (· = p) w (w.alloc (.cells #[.int .i64 0, .int .i64 0, .int .i64 0, .int .i64 0, .slice none 0 0, .slice none 0 0, .slice none 0 0] 88)) := Wr.of_below hB0
  have hpq : p < q := by rw [hq]; exact h.lt
  have hbo := (go_byte (strl s) r).ok ha
  have hbe := (go_byte (strl s) r).e
  clear h
  obtain ⟨X, hX⟩ : ∃ X, X = rConst (strl s) r := ⟨_, rfl⟩
  rw [← hX]
  unfold rConst at hX
  dsimp only at hX
  replace hX := Lib.hid hX
  go_enter Tryz.func149, Tryz.ntmps149
  go_upto_region 1 with (fail)
  rw [← hq]
  obtain ⟨w0, hw0⟩ : ∃ w0, w0 = w.alloc (.cells #[.int .i64 0, .int .i64 0, .int .i64 0, .int .i64 0, .slice none 0 0, .slice none 0 0, .slice none 0 0] 88) := ⟨_, rfl⟩
  rw [← hw0] at hR0 hK0 hW0 ⊢
  clear hw0 hB0
  replace hq := Lib.hid hq
  replace hW0 := Lib.hid hW0
  replace hK0 := Lib.hid hK0
  go_wp2_with fail
  refine (qbyte_any hR0 hs he).mono ?_
  rintro e' w1 ⟨hW1, v', rfl, rfl, hR1⟩
  have hW1' := hW0.out.trans hW1
  have hK1 := hK0.out.wr hW1 (by omega)
  have hX2 := hX.out
  obtain ⟨B, hB⟩ : ∃ B, B = rByte (strl s) r := ⟨_, rfl⟩
  rw [← hB] at hR1 hX2 hbo hbe ⊢
  clear hB hX hW1 hK0 hW0 hR0
  obtain ⟨b, r0⟩ := B
  dsimp only at hR1 hX2 hbo hbe ⊢
  replace hX2 := Lib.hid hX2
  go_upto_region 3 with (fail)
  have hB1 : Below w1.heap.size w1 (w1.alloc (.cells #[.int .i64 b, .int .i64 0, .int .i64 0, .int .i64 0, .slice none 0 0, .slice none 0 0, .slice none 0 0] 88)) := (Below.refl _ _).alloc (Nat.le_refl _) _
  have hR2 := hR1.below hB1
  have hK2 := hK1.below hB1
  have hW2 := hW1'.trans (Wr.of_below hB1)
  have hI2 : InsAt (w1.alloc (.cells #[.int .i64 b, .int .i64 0, .int .i64 0, .int .i64 0, .slice none 0 0, .slice none 0 0, .slice none 0 0] 88)) w1.heap.size (e0 b) := ⟨al_new' _ _ rfl⟩
  have hqx : q < w1.heap.size := hK1.lt
  obtain ⟨x, hx⟩ : ∃ x, x = w1.heap.size := ⟨_, rfl⟩
  obtain ⟨w2, hw2⟩ : ∃ w2, w2 = w1.alloc (.cells #[.int .i64 b, .int .i64 0, .int .i64 0, .int .i64 0, .slice none 0 0, .slice none 0 0, .slice none 0 0] 88) := ⟨_, rfl⟩
  rw [← hx] at hI2 hqx ⊢
  rw [← hw2] at hR2 hK2 hW2 hI2 ⊢
  clear hw2 hB1 hR1 hK1 hW1'
  have hwx : w.heap.size ≤ x := by rw [hq.out] at hqx; omega
  replace hx := Lib.hid hx
  have x0 := hI2.cell (j := 0) (u := .int .i64 b) rfl
  have c4 := hR2.c4
  replace hK2 := Lib.hid hK2
  replace hW2 := Lib.hid hW2
  replace hI2 := Lib.hid hI2
  replace hR2 := Lib.hid hR2
  have flat : (one0 b).ls = [] ∧ (one0 b).body = .nil ∧ (one0 b).els = .nil := ⟨rfl, rfl, rfl⟩
  have same : Same7 (e0 b) (one0 b) := ⟨rfl, rfl, rfl, rfl, rfl, rfl, rfl⟩
  by_cases hw : r0.w = 0
  case' neg =>
    have hq1 : (r0.w != 0) = true := by simp [hw]
    have hX3 := hX2.out
    rw [if_pos hw] at hX3
    obtain ⟨o, ho⟩ : ∃ o, o = one0 b := ⟨_, rfl⟩
    obtain ⟨t, ht⟩ : ∃ t, t = e0 b := ⟨_, rfl⟩
    obtain ⟨wz, hwz⟩ : ∃ wz, wz = w2 := ⟨_, rfl⟩
    subst hwz
    obtain ⟨rz, hrz⟩ : ∃ rz, rz = r0 := ⟨_, rfl⟩
    subst hrz
    rw [← ht] at same hI2
    rw [← ho] at same flat hX3
    have hKz := hK2
    have hWz := hW2
    have hIz := hI2
    have hRz := hR2
    have hzo := hbo
    have hze := hbe
    have hfin : X = (o, rMust (strl s) 11 rz) := hX3
    clear hX3 ho ht
    replace hw := Lib.hid hw
  case' pos =>
    have hq1 : (r0.w != 0) = false := by rw [hw]; rfl
    have hX3 := hX2.out
    rw [if_neg (by simp [hw])] at hX3
    replace hX3 := Lib.hid hX3
    replace hw := Lib.hid hw
    go_wp2_with fail
    refine (rform_any b _).mono ?_
    rintro e' w3 ⟨rfl, rfl⟩
    by_cases f10 : formV b = 10
    case' pos =>
      have hb : (formV b == 10) = true := by rw [f10]; rfl
      have hX4 := hX3.out
      rw [if_pos f10] at hX4
      replace f10 := Lib.hid f10
      go_wp2_with fail
      refine (qbad_any hR2.out 51).mono ?_
      rintro e' wz ⟨rfl, hWz, hRz⟩
      have hzo := (Mv.bad r0 51 (by decide)).ok hbo
      have hze := (Mv.bad r0 51 (by decide)).e.trans hbe
      obtain ⟨o, ho⟩ : ∃ o, o = one0 b := ⟨_, rfl⟩
      obtain ⟨t, ht⟩ : ∃ t, t = e0 b := ⟨_, rfl⟩
      obtain ⟨rz, hrz⟩ : ∃ rz, rz = r0.bad 51 := ⟨_, rfl⟩
      rw [← hrz] at hRz hzo hze hX4
      have hIz := Lib.hid (hI2.out.wr hWz (by omega))
      have hKz := Lib.hid (hK2.out.wr hWz (by omega))
      replace hWz := Lib.hid (hW2.out.trans hWz)
      rw [← ht] at same hIz
      rw [← ho] at same flat hX4
      have hfin : X = (o, rMust (strl s) 11 rz) := hX4
      replace hRz := Lib.hid hRz
      clear hX4 ho ht hrz
    case' neg =>
      have hb : (formV b == 10) = false := beq_eq_false_iff_ne.2 f10
      have hX4 := hX3.out
      rw [if_neg f10] at hX4
      replace f10 := Lib.hid f10
      by_cases ho : b = 65 ∨ b = 66 ∨ b = 35
      case' pos =>
        rw [if_pos ho] at hX4
        have hfl := roper_con (strl s) (fun _ _ r => ((.nil, 0), r)) (fun _ _ r => ((.nil, 0), r)) b ho 0 0 r0
        have hop := fun w (h : RrAt w p s r0) (k : InsAt w x (e0 b)) => Lib.hid (roper_any h k (by omega) hs hbo (by omega) ho (fun _ _ r => ((.nil, 0), r)))
        have hb3 : (b == 65) = true ∨ ((b == 65) = false ∧ (b == 66) = true) ∨ ((b == 65) = false ∧ (b == 66) = false ∧ (b == 35) = true) := by
          rcases ho with rfl | rfl | rfl
          · exact .inl rfl
          · exact .inr (.inl ⟨rfl, rfl⟩)
          · exact .inr (.inr ⟨rfl, rfl, rfl⟩)
        have hmv := go_operands (strl s) (rec := fun _ _ r => ((.nil, 0), r)) (fun _ _ => fun r => Mv.refl r) b 0 r0
        obtain ⟨O, hO⟩ : ∃ O, O = rOperands (strl s) (fun _ _ r => ((.nil, 0), r)) b 0 r0 := ⟨_, rfl⟩
        rw [← hO] at hX4 hfl hmv
        simp only [← hO] at hop
        replace hX4 := Lib.hid hX4
        clear hO
        have hzo := hmv.ok hbo
        have hze := hmv.e.trans hbe
        replace ho := Lib.hid ho
        rcases hb3 with hb3 | ⟨hb1, hb3⟩ | ⟨hb1, hb2, hb3⟩
        all_goals
          go_wp2_with fail
          refine (hop _ hR2.out hI2.out).out.mono ?_
          rintro e' wz ⟨hWz, rfl, hRz, t, hIz, hSz, hEz⟩
          have hKz := Lib.hid (hK2.out.wr hWz (fun e => by rcases e with e | e <;> omega))
          replace hWz := Lib.hid (hW2.out.newer hWz (fun j hj hlt => hj.elim id (fun e => by omega)))
          have hfin : X = (O.1, rMust (strl s) 11 O.2) := hX4.out
          clear same flat hEz
          have same := hSz
          have flat := hfl.2
          obtain ⟨o, rz⟩ := O
          dsimp only at hRz hzo hze same flat hfin
          replace hRz := Lib.hid hRz
          replace hIz := Lib.hid hIz
          clear hX4 hfl hop hmv hSz ho
      case' neg =>
        have hb1 : (b == 65) = false := beq_eq_false_iff_ne.2 (fun e => ho (.inl e))
        have hb2 : (b == 66) = false := beq_eq_false_iff_ne.2 (fun e => ho (.inr (.inl e)))
        have hb3 : (b == 35) = false := beq_eq_false_iff_ne.2 (fun e => ho (.inr (.inr e)))
        rw [if_neg ho] at hX4
        clear ho
        go_wp2_with fail
        refine (qbad_any hR2.out 50).mono ?_
        rintro e' wz ⟨rfl, hWz, hRz⟩
        have hzo := (Mv.bad r0 50 (by decide)).ok hbo
        have hze := (Mv.bad r0 50 (by decide)).e.trans hbe
        obtain ⟨o, ho⟩ : ∃ o, o = one0 b := ⟨_, rfl⟩
        obtain ⟨t, ht⟩ : ∃ t, t = e0 b := ⟨_, rfl⟩
        obtain ⟨rz, hrz⟩ : ∃ rz, rz = r0.bad 50 := ⟨_, rfl⟩
        rw [← hrz] at hRz hzo hze hX4
        have hIz := Lib.hid (hI2.out.wr hWz (by omega))
        have hKz := Lib.hid (hK2.out.wr hWz (by omega))
        replace hWz := Lib.hid (hW2.out.trans hWz)
        rw [← ht] at same hIz
        rw [← ho] at same flat hX4
        have hfin : X = (o, rMust (strl s) 11 rz) := hX4
        replace hRz := Lib.hid hRz
        clear hX4 ho ht hrz
  all_goals
    clear hR2 hK2 hW2 hI2
    replace hfin := Lib.hid hfin
    replace same := Lib.hid same
    go_wp2_with fail
    refine (qmust_any hRz.out hs (by omega) 11).mono ?_
    rintro e' w6 ⟨hW6, v', rfl, rfl, hR6⟩
    change RrAt w6 p s (rMust (strl s) 11 rz) at hR6
    have hK6 := hKz.out.wr hW6 (by omega)
    have hI6 := hIz.out.wr hW6 (by omega)
    have hW6' := hWz.out.trans hW6
    have y0 := hI6.cell (j := 0) rfl
    have y1 := hI6.cell (j := 1) rfl
    have y2 := hI6.cell (j := 2) rfl
    have y3 := hI6.cell (j := 3) rfl
    have y4 := hI6.cell (j := 4) rfl
    have y5 := hI6.cell (j := 5) rfl
    have y6 := hI6.cell (j := 6) rfl
    have z0 := hK6.cell (j := 0) rfl
    have z1 := hK6.cell (j := 1) rfl
    have z2 := hK6.cell (j := 2) rfl
    have z3 := hK6.cell (j := 3) rfl
    have z4 := hK6.cell (j := 4) rfl
    have z5 := hK6.cell (j := 5) rfl
    have z6 := hK6.cell (j := 6) rfl
    have q0 := hK6.fr 0
    have q1 := hK6.fr 1
    have q2 := hK6.fr 2
    have q3 := hK6.fr 3
    have q4 := hK6.fr 4
    have q5 := hK6.fr 5
    have q6 := hK6.fr 6
    have F := (((((((hK6.set 0 (.int .i64 t.op)).set 1 (.int .i64 t.x)).set 2 (.int .i64 t.y)).set 3 (.int .i64 t.n)).set 4 (.slice t.a4 t.ls.length t.c4)).set 5 (.slice t.a5 t.body.len t.c5)).set 6 (.slice t.a6 t.els.len t.c6))
    have hRe := (((((((hR6.far (q := q) (by omega) 0 (.int .i64 t.op)).far (q := q) (by omega) 1 (.int .i64 t.x)).far (q := q) (by omega) 2 (.int .i64 t.y)).far (q := q) (by omega) 3 (.int .i64 t.n)).far (q := q) (by omega) 4 (.slice t.a4 t.ls.length t.c4)).far (q := q) (by omega) 5 (.slice t.a5 t.body.len t.c5)).far (q := q) (by omega) 6 (.slice t.a6 t.els.len t.c6))
    have hrw := Nat.le_of_eq hq.out.symm
    have hWe := (((((((hW6'.fresh (q := q) hrw 0 (.int .i64 t.op)).fresh (q := q) hrw 1 (.int .i64 t.x)).fresh (q := q) hrw 2 (.int .i64 t.y)).fresh (q := q) hrw 3 (.int .i64 t.n)).fresh (q := q) hrw 4 (.slice t.a4 t.ls.length t.c4)).fresh (q := q) hrw 5 (.slice t.a5 t.body.len t.c5)).fresh (q := q) hrw 6 (.slice t.a6 t.els.len t.c6))
    replace F := Lib.hid F
    replace hRe := Lib.hid hRe
    replace hWe := Lib.hid hWe
    clear hW6 hW6' hK6 hI6 hR6 hrw
    go_wp2_with fail
    refine bodyPost_ret (results_cell_row (P := Tryz.prog) rfl _ _ q 88 (eV t).toArray (0, 0) _ rfl F.out.row Tryz.underlying88 rfl info70s) rfl ?_
    rw [hfin.out]
    exact ⟨hWe.out, _, ⟨flat.1, flat.2.1, flat.2.2, t, same.out, rfl⟩, rfl, hRe.out⟩
end Go.Proofs.YtkbfjkbokifgkaaGreatDoor

namespace Go.Proofs.YtkbfjkbokifgkaaGreatDoor
open Go.RowKit
set_option linter.unusedVariables false
set_option linter.unusedSimpArgs false

theorem info90t : (Tryz.prog.info? 90).map (·.size) = some 9 := by kernel_rfl
def rGlobal (s : List UInt8) (r : RS) : Rg (Int × Bool × One) :=
  let t := rTyp s r
  let b := rByte s t.2
  let c := rConst s (if 1 < b.1 then b.2.bad 50 else b.2)
  ((t.1, b.1 == 1, c.1), c.2)
def VGlo (v : Int × Bool × One) (x : Value) : Prop := v.2.2.ls = [] ∧ v.2.2.body = .nil ∧ v.2.2.els = .nil ∧ ∃ t, Same7 t v.2.2 ∧ x = .agg (.int .i64 v.1 :: .bool v.2.1 :: eV t).toArray
set_option maxRecDepth 100000 in
set_option maxHeartbeats 8000000 in
theorem qglobal_any {w : World} {p : Nat} {s : ByteArray} {r : RS} (h : RrAt w p s r) (hs : s.size ≤ 262144) (ha : r.Ok) (he : r.e ≤ s.size) :
    Calls Tryz.prog 147 #[.pointer (some ⟨p, 0, none⟩)] w (Rv VGlo p s (rGlobal (strl s) r) w) := by
  obtain ⟨q, hq⟩ : ∃ q, q = w.heap.size := ⟨_, rfl⟩
  have hB0 : Below w.heap.size w (w.alloc (.cells #[.int .i64 0, .bool false, .int .i64 0, .int .i64 0, .int .i64 0, .int .i64 0, .slice none 0 0, .slice none 0 0, .slice none 0 0] 90)) := (Below.refl _ _).alloc (Nat.le_refl _) _
  have hR0 := h.below hB0
  have hK0 : Bk (w.alloc (.cells #[.int .i64 0, .bool false, .int .i64 0, .int .i64 0, .int .i64 0, .int .i64 0, .slice none 0 0, .slice none 0 0, .slice none 0 0] 90)) q [.int .i64 0, .bool false, .int .i64 0, .int .i64 0, .int .i64 0, .int .i64 0, .slice none 0 0, .slice none 0 0, .slice none 0 0] 90 := by rw [hq]; exact Bk.new _ _ _
  have hW0 : Wr (· = p) w (w.alloc (.cells #[.int .i64 0, .bool false, .int .i64 0, .int .i64 0, .int .i64 0, .int .i64 0, .slice none 0 0, .slice none 0 0, .slice none 0 0] 90)) := Wr.of_below hB0
  have hpq : p < q := by rw [hq]; exact h.lt
  have hbo := (go_typ (strl s) r).ok ha
  have hbe := (go_typ (strl s) r).e
  clear h
  obtain ⟨X, hX⟩ : ∃ X, X = rGlobal (strl s) r := ⟨_, rfl⟩
  rw [← hX]
  unfold rGlobal at hX
  dsimp only at hX
  replace hX := Lib.hid hX
  go_enter Tryz.func147, Tryz.ntmps147
  go_upto_region 1 with (fail)
  rw [← hq]
  obtain ⟨w0, hw0⟩ : ∃ w0, w0 = w.alloc (.cells #[.int .i64 0, .bool false, .int .i64 0, .int .i64 0, .int .i64 0, .int .i64 0, .slice none 0 0, .slice none 0 0, .slice none 0 0] 90) := ⟨_, rfl⟩
  rw [← hw0] at hR0 hK0 hW0 ⊢
  clear hw0 hB0
  replace hq := Lib.hid hq
  replace hW0 := Lib.hid hW0
  replace hK0 := Lib.hid hK0
  go_wp2_with fail
  refine (qtyp_any hR0 hs he).mono ?_
  rintro e' w1 ⟨hW1, v', rfl, rfl, hR1⟩
  have hW1' := hW0.out.trans hW1
  have hK1 := hK0.out.wr hW1 (by omega)
  have hX2 := hX.out
  obtain ⟨B, hB⟩ : ∃ B, B = rTyp (strl s) r := ⟨_, rfl⟩
  rw [← hB] at hR1 hX2 hbo hbe ⊢
  clear hB hX hW1 hK0 hW0 hR0
  obtain ⟨ty, r0⟩ := B
  dsimp only at hR1 hX2 hbo hbe ⊢
  replace hX2 := Lib.hid hX2
  go_upto_region 2 with (fail)
  have hB1 : Below w1.heap.size w1 (w1.alloc (.cells #[.int .i64 ty, .bool false, .int .i64 0, .int .i64 0, .int .i64 0, .int .i64 0, .slice none 0 0, .slice none 0 0, .slice none 0 0] 90)) := (Below.refl _ _).alloc (Nat.le_refl _) _
  have hR2 := hR1.below hB1
  have hK2 := hK1.below hB1
  have hW2 := hW1'.trans (Wr.of_below hB1)
  have hX3 := Bk.new w1 [.int .i64 ty, .bool false, .int .i64 0, .int .i64 0, .int .i64 0, .int .i64 0, .slice none 0 0, .slice none 0 0, .slice none 0 0] 90
  have hqx : q < w1.heap.size := hK1.lt
  obtain ⟨x, hx⟩ : ∃ x, x = w1.heap.size := ⟨_, rfl⟩
  obtain ⟨w2, hw2⟩ : ∃ w2, w2 = w1.alloc (.cells #[.int .i64 ty, .bool false, .int .i64 0, .int .i64 0, .int .i64 0, .int .i64 0, .slice none 0 0, .slice none 0 0, .slice none 0 0] 90) := ⟨_, rfl⟩
  rw [← hx] at hX3 hqx ⊢
  rw [show (w1.alloc (.cells [.int .i64 ty, .bool false, .int .i64 0, .int .i64 0, .int .i64 0, .int .i64 0, .slice none 0 0, .slice none 0 0, .slice none 0 0].toArray 90)) = w2 from hw2.symm] at hX3
  rw [← hw2] at hR2 hK2 hW2 ⊢
  clear hw2 hB1 hR1 hK1 hW1'
  have hwx : w.heap.size ≤ x := by rw [hq.out] at hqx; omega
  replace hx := Lib.hid hx
  replace hK2 := Lib.hid hK2
  replace hW2 := Lib.hid hW2
  replace hX3 := Lib.hid hX3
  have hco := (go_byte (strl s) r0).ok hbo
  have hce := ((go_byte (strl s) r0).e).trans hbe
  go_wp2_with fail
  refine (qbyte_any hR2 hs (by omega)).mono ?_
  rintro e' w3 ⟨hW3, v', rfl, rfl, hR3⟩
  have hW3' := hW2.out.trans hW3
  have hK3 := hK2.out.wr hW3 (by omega)
  have hX4 := hX3.out.wr hW3 (by omega)
  have hX5 := hX2.out
  obtain ⟨C, hC⟩ : ∃ C, C = rByte (strl s) r0 := ⟨_, rfl⟩
  rw [← hC] at hR3 hX5 hco hce ⊢
  clear hC hX2 hW3 hK2 hW2 hR2 hX3
  obtain ⟨b, r2⟩ := C
  dsimp only at hR3 hX5 hco hce ⊢
  obtain ⟨r1, hr1⟩ : ∃ r1, r1 = if 1 < b then r2.bad 50 else r2 := ⟨_, rfl⟩
  rw [← hr1] at hX5
  have h1a : r1.Ok := by rw [hr1]; split; exact (Mv.bad r2 50 (by decide)).ok hco; exact hco
  have h1e : r1.e = r.e := by rw [hr1]; split; exact (Mv.bad r2 50 (by decide)).e.trans hce; exact hce
  obtain ⟨d, hd⟩ : ∃ d : Bool, (b == 1) = d := ⟨_, rfl⟩
  rw [hd] at hX5
  replace hX5 := Lib.hid hX5
  by_cases hb : 1 < b
  case' pos =>
    rw [if_pos hb] at hr1
    have hbb : decide (1 < b) = true := decide_eq_true hb
    replace hr1 := Lib.hid hr1
    go_wp2_with fail
    refine (qbad_any hR3 50).mono ?_
    rintro e' wy ⟨rfl, hWy, hRy⟩
    rw [← hr1.out] at hRy
    have hKy := hK3.wr hWy (by omega)
    have hXy := hX4.wr hWy (by omega)
    replace hWy := hW3'.trans hWy
  case' neg =>
    rw [if_neg hb] at hr1
    have hbb : decide (1 < b) = false := decide_eq_false hb
    subst hr1
    obtain ⟨wy, hwy⟩ : ∃ wy, wy = w3 := ⟨_, rfl⟩
    subst hwy
    have hRy := hR3
    have hWy := hW3'
    have hKy := hK3
    have hXy := hX4
  all_goals
    clear hR3 hW3' hK3 hX4
    have x1 := hXy.cell (j := 1) rfl
    have fx := hXy.fr 1
    replace hKy := Lib.hid hKy
    replace hWy := Lib.hid hWy
    replace hXy := Lib.hid hXy
    replace hRy := Lib.hid hRy
    go_upto_region 6 with (fail)
    have hR4 := hRy.out.far (q := x) (by omega) 1 (.bool d)
    have hK4 := hKy.out.far (p := x) (by omega) 1 (.bool d)
    have hX6 := hXy.out.set 1 (.bool d)
    have hW4 := hWy.out.fresh (q := x) hwx 1 (.bool d)
    obtain ⟨w4, hw4⟩ : ∃ w4, w4 = wy.setCell ⟨x, 1, none⟩ (.bool d) := ⟨_, rfl⟩
    rw [← hw4] at hR4 hK4 hX6 hW4 ⊢
    clear hw4 hRy hKy hXy hWy x1 fx
    replace hK4 := Lib.hid hK4
    replace hW4 := Lib.hid hW4
    replace hX6 := Lib.hid hX6
    replace hR4 := Lib.hid hR4
    go_wp2_with fail
    refine (qconst_any hR4.out hs h1a (by omega)).mono ?_
    rintro e' w5 ⟨hW5, v', ⟨f1, f2, f3, t, hS, rfl⟩, rfl, hR5⟩
    have hX7 := hX5.out
    obtain ⟨M, hM⟩ : ∃ M, M = rConst (strl s) r1 := ⟨_, rfl⟩
    rw [← hM] at hR5 hX7 hS f1 f2 f3
    clear hM hX5
    obtain ⟨o, r5⟩ := M
    dsimp only at hR5 hX7 hS f1 f2 f3
    replace hX7 := Lib.hid hX7
    replace hS := Lib.hid hS
    replace f1 := Lib.hid f1
    replace f2 := Lib.hid f2
    replace f3 := Lib.hid f3
    have hW5' := hW4.out.trans hW5
    have hK5 := hK4.out.wr hW5 (by omega)
    have hX8 := hX6.out.wr hW5 (by omega)
    have fx2 := hX8.fr 2
    have xx2 := hX8.cell (j := 2) rfl
    have fx3 := hX8.fr 3
    have xx3 := hX8.cell (j := 3) rfl
    have fx4 := hX8.fr 4
    have xx4 := hX8.cell (j := 4) rfl
    have fx5 := hX8.fr 5
    have xx5 := hX8.cell (j := 5) rfl
    have fx6 := hX8.fr 6
    have xx6 := hX8.cell (j := 6) rfl
    have fx7 := hX8.fr 7
    have xx7 := hX8.cell (j := 7) rfl
    have fx8 := hX8.fr 8
    have xx8 := hX8.cell (j := 8) rfl
    clear hW5 hK4 hW4 hR4 hX6
    unfold eV
    go_upto_region 7 with (fail)
    have hR6 := (((((((hR5.far (q := x) (by omega) 2 (.int .i64 t.op)).far (q := x) (by omega) 3 (.int .i64 t.x)).far (q := x) (by omega) 4 (.int .i64 t.y)).far (q := x) (by omega) 5 (.int .i64 t.n)).far (q := x) (by omega) 6 (.slice t.a4 t.ls.length t.c4)).far (q := x) (by omega) 7 (.slice t.a5 t.body.len t.c5)).far (q := x) (by omega) 8 (.slice t.a6 t.els.len t.c6))
    have hK6 := (((((((hK5.far (p := x) (by omega) 2 (.int .i64 t.op)).far (p := x) (by omega) 3 (.int .i64 t.x)).far (p := x) (by omega) 4 (.int .i64 t.y)).far (p := x) (by omega) 5 (.int .i64 t.n)).far (p := x) (by omega) 6 (.slice t.a4 t.ls.length t.c4)).far (p := x) (by omega) 7 (.slice t.a5 t.body.len t.c5)).far (p := x) (by omega) 8 (.slice t.a6 t.els.len t.c6))
    have hX9 := (((((((hX8.set 2 (.int .i64 t.op)).set 3 (.int .i64 t.x)).set 4 (.int .i64 t.y)).set 5 (.int .i64 t.n)).set 6 (.slice t.a4 t.ls.length t.c4)).set 7 (.slice t.a5 t.body.len t.c5)).set 8 (.slice t.a6 t.els.len t.c6))
    have hW6 := (((((((hW5'.fresh (q := x) hwx 2 (.int .i64 t.op)).fresh (q := x) hwx 3 (.int .i64 t.x)).fresh (q := x) hwx 4 (.int .i64 t.y)).fresh (q := x) hwx 5 (.int .i64 t.n)).fresh (q := x) hwx 6 (.slice t.a4 t.ls.length t.c4)).fresh (q := x) hwx 7 (.slice t.a5 t.body.len t.c5)).fresh (q := x) hwx 8 (.slice t.a6 t.els.len t.c6))
    obtain ⟨w6, hw6⟩ : ∃ w6, w6 = (((((((w5.setCell ⟨x, 2, none⟩ (.int .i64 t.op)).setCell ⟨x, 3, none⟩ (.int .i64 t.x)).setCell ⟨x, 4, none⟩ (.int .i64 t.y)).setCell ⟨x, 5, none⟩ (.int .i64 t.n)).setCell ⟨x, 6, none⟩ (.slice t.a4 t.ls.length t.c4)).setCell ⟨x, 7, none⟩ (.slice t.a5 t.body.len t.c5)).setCell ⟨x, 8, none⟩ (.slice t.a6 t.els.len t.c6)) := ⟨_, rfl⟩
    rw [← hw6] at hR6 hK6 hX9 hW6 ⊢
    clear hw6 hR5 hK5 hX8 hW5' fx2 xx2 fx3 xx3 fx4 xx4 fx5 xx5 fx6 xx6 fx7 xx7 fx8 xx8
    have y0 := hX9.cell (j := 0) rfl
    have y1 := hX9.cell (j := 1) rfl
    have y2 := hX9.cell (j := 2) rfl
    have y3 := hX9.cell (j := 3) rfl
    have y4 := hX9.cell (j := 4) rfl
    have y5 := hX9.cell (j := 5) rfl
    have y6 := hX9.cell (j := 6) rfl
    have y7 := hX9.cell (j := 7) rfl
    have y8 := hX9.cell (j := 8) rfl
    have z0 := hK6.cell (j := 0) rfl
    have z1 := hK6.cell (j := 1) rfl
    have z2 := hK6.cell (j := 2) rfl
    have z3 := hK6.cell (j := 3) rfl
    have z4 := hK6.cell (j := 4) rfl
    have z5 := hK6.cell (j := 5) rfl
    have z6 := hK6.cell (j := 6) rfl
    have z7 := hK6.cell (j := 7) rfl
    have z8 := hK6.cell (j := 8) rfl
    have q0 := hK6.fr 0
    have q1 := hK6.fr 1
    have q2 := hK6.fr 2
    have q3 := hK6.fr 3
    have q4 := hK6.fr 4
    have q5 := hK6.fr 5
    have q6 := hK6.fr 6
    have q7 := hK6.fr 7
    have q8 := hK6.fr 8
    have hrw := Nat.le_of_eq hq.out.symm
    have F := (((((((((hK6.set 0 (.int .i64 ty)).set 1 (.bool d)).set 2 (.int .i64 t.op)).set 3 (.int .i64 t.x)).set 4 (.int .i64 t.y)).set 5 (.int .i64 t.n)).set 6 (.slice t.a4 t.ls.length t.c4)).set 7 (.slice t.a5 t.body.len t.c5)).set 8 (.slice t.a6 t.els.len t.c6))
    have hRe := (((((((((hR6.far (q := q) (by omega) 0 (.int .i64 ty)).far (q := q) (by omega) 1 (.bool d)).far (q := q) (by omega) 2 (.int .i64 t.op)).far (q := q) (by omega) 3 (.int .i64 t.x)).far (q := q) (by omega) 4 (.int .i64 t.y)).far (q := q) (by omega) 5 (.int .i64 t.n)).far (q := q) (by omega) 6 (.slice t.a4 t.ls.length t.c4)).far (q := q) (by omega) 7 (.slice t.a5 t.body.len t.c5)).far (q := q) (by omega) 8 (.slice t.a6 t.els.len t.c6))
    have hWe := (((((((((hW6.fresh (q := q) hrw 0 (.int .i64 ty)).fresh (q := q) hrw 1 (.bool d)).fresh (q := q) hrw 2 (.int .i64 t.op)).fresh (q := q) hrw 3 (.int .i64 t.x)).fresh (q := q) hrw 4 (.int .i64 t.y)).fresh (q := q) hrw 5 (.int .i64 t.n)).fresh (q := q) hrw 6 (.slice t.a4 t.ls.length t.c4)).fresh (q := q) hrw 7 (.slice t.a5 t.body.len t.c5)).fresh (q := q) hrw 8 (.slice t.a6 t.els.len t.c6))
    replace F := Lib.hid F
    replace hRe := Lib.hid hRe
    replace hWe := Lib.hid hWe
    clear hR6 hK6 hX9 hW6 hrw
    go_wp2_with fail
    refine bodyPost_ret (results_cell_row (P := Tryz.prog) rfl _ _ q 90 (Value.int .i64 ty :: Value.bool d :: eV t).toArray (0, 0) _ rfl F.out.row Tryz.underlying90 rfl info90t) rfl ?_
    rw [hX7.out]
    exact ⟨hWe.out, _, ⟨f1.out, f2.out, f3.out, t, hS.out, rfl⟩, rfl, hRe.out⟩
end Go.Proofs.YtkbfjkbokifgkaaGreatDoor
