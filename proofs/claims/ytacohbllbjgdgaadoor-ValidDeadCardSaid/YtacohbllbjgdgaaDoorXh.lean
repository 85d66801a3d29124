/- The typer: what has nothing. -/
import Derived.Test.YtacohbllbjgdgaaDoorXg
namespace Go.Proofs.YtacohbllbjgdgaaDoor
open Go.RowKit
set_option linter.unusedVariables false
set_option linter.unusedSimpArgs false

def insV (op a y n : Int) (v4 v5 v6 : Value) : Value := .agg #[.int .i64 op, .int .i64 a, .int .i64 y, .int .i64 n, v4, v5, v6]
def insO (op a y n : Int) (v4 v5 v6 : Value) : Obj := .cells #[.int .i64 op, .int .i64 a, .int .i64 y, .int .i64 n, v4, v5, v6] 26
theorem ins_c (w : World) (op a y n : Int) (v4 v5 v6 : Value) : (w.alloc (insO op a y n v4 v5 v6)).heap[w.heap.size]? = some (insO op a y n v4 v5 v6) := World.alloc_heap_new w _
/-- The instruction's box. -/
structure Bx (w : World) (b : Nat) (op a y n : Int) (v4 v5 v6 : Value) : Prop where
  h : w.heap[b]? = some (insO op a y n v4 v5 v6)
theorem Bx.c {w : World} {b : Nat} {op a y n : Int} {v4 v5 v6 : Value} (h : Bx w b op a y n v4 v5 v6) : w.cell? ⟨b, 0, none⟩ = some (.int .i64 op) ∧ w.cell? ⟨b, 1, none⟩ = some (.int .i64 a) ∧ w.cell? ⟨b, 2, none⟩ = some (.int .i64 y) ∧ w.cell? ⟨b, 3, none⟩ = some (.int .i64 n) ∧
    w.cell? ⟨b, 4, none⟩ = some v4 ∧ w.cell? ⟨b, 5, none⟩ = some v5 ∧ w.cell? ⟨b, 6, none⟩ = some v6 := by
  have := h.h
  unfold insO at this
  refine ⟨?_, ?_, ?_, ?_, ?_, ?_, ?_⟩
  all_goals rw [cell_of_row w b _ _ _ _ this]; rfl
theorem Bx.tw {w w' : World} {p : Nat} {sv fv sv' fv' : Value} {b : Nat} {op a y n : Int} {v4 v5 v6 : Value} (h : Bx w b op a y n v4 v5 v6) (o : Off w p sv fv b) (t : Tw p sv fv sv' fv' w w') : Bx w' b op a y n v4 v5 v6 := ⟨(o.tw t).2.trans h.h⟩
section
variable {w0 : World} {N p c : Nat} {lv : Value} {E : Ev} {w : World} {sv fv : Value} {s : Ts}
theorem box_step (h : Cx w0 N p c lv E w sv fv s) (op a y n : Int) (v4 v5 v6 : Value) : ∃ w1, w1 = w.alloc (.cells #[.int .i64 op, .int .i64 a, .int .i64 y, .int .i64 n, v4, v5, v6] 26) ∧ Cx w0 N p c lv E w1 sv fv s ∧ Bx w1 w.heap.size op a y n v4 v5 v6 ∧ Off w1 p sv fv w.heap.size ∧ Tw p sv fv sv fv w w1 :=
  ⟨_, rfl, h.step (Below.of_alloc w _), ⟨ins_c w op a y n v4 v5 v6⟩, h.t.off _, .of_below (Below.of_alloc w _)⟩
theorem ret_at {s : Ts} (hw : Wf s) : ∃ f, s.fs[s.fs.length - 1]? = some f ∧ tRet s = f.ends := by
  obtain ⟨f, r, e, _⟩ := hw.fs
  have h1 : s.fs.getLast? = s.fs[s.fs.length - 1]? := List.getLast?_eq_getElem? ..
  have h2 : s.fs.length - 1 < s.fs.length := by rw [e]; simp
  refine ⟨s.fs[s.fs.length - 1], List.getElem?_eq_getElem h2, ?_⟩
  unfold tRet
  rw [h1, List.getElem?_eq_getElem h2]
set_option maxRecDepth 100000 in
set_option maxHeartbeats 4000000 in
theorem plain_0 (h : Cx w0 N p c lv E w sv fv s) (a y n : Int) (v4 v5 v6 : Value) :
    Calls Tryd.prog 54 #[.pointer (some ⟨p, 0, none⟩), insV 0 a y n v4 v5 v6] w (endT N p (.pointer (some ⟨c, 0, none⟩)) lv w sv fv (.ok (tDies s))) := by
  obtain ⟨w1, hw1, h1, hx, ho, t1⟩ := box_step h 0 a y n v4 v5 v6
  obtain ⟨x0, x1, x2, x3, x4, x5, x6⟩ := hx.c
  unfold insV
  go_enter Tryd.func54, Tryd.ntmps54
  go_wp2_with fail
  refine (dies_any (hw1 ▸ h1.t) h.wf).mono ?_
  rintro e w2 ⟨rfl, sv2, h2, t2⟩
  go_wp2
  go_end0
  exact ⟨rfl, sv2, h2, t1.trans (hw1 ▸ t2)⟩
set_option maxRecDepth 100000 in
set_option maxHeartbeats 4000000 in
theorem plain_15 (h : Cx w0 N p c lv E w sv fv s) (a y n : Int) (v4 v5 v6 : Value) :
    Calls Tryd.prog 54 #[.pointer (some ⟨p, 0, none⟩), insV 15 a y n v4 v5 v6] w (endT N p (.pointer (some ⟨c, 0, none⟩)) lv w sv fv ((tPopL (tRet s) s).bind fun s => .ok (tDies s))) := by
  obtain ⟨w1, hw1, h1, hx, ho, t1⟩ := box_step h 15 a y n v4 v5 v6
  obtain ⟨fl, hfl, hret⟩ := ret_at h.wf
  obtain ⟨g, cap, fa, hfv, hg, c0, c1, c2, c3, z3, l1, l2, hn, hm⟩ := h1.t.o.frame hfl
  have e0 : s.fs.length - 1 - (s.fs.length - 1) = 0 := by omega
  have hpos : 0 < s.fs.length := by have := (List.getElem?_eq_some_iff.1 hfl).1; omega
  rw [e0] at c1
  have hty := (h.wf.ty fl (List.mem_of_getElem? hfl)).2
  obtain ⟨k0, k1, k2, k3, z2, z3'⟩ := h1.t.c
  rw [hfv] at k3
  rw [hret]
  unfold insV
  rw [hw1] at h1 l2 k3 c1 t1
  clear hfl hret e0 c0 c2 c3 z3 l1 hw1 k0 k1 k2
  cases hq : tPopL fl.ends s with
  | error m =>
    have hc := pops_er (lc := fa.ec) h1.t h.wf l2 hty hq
    clear hq
    go_enter Tryd.func54, Tryd.ntmps54
    go_wp2_with fail
    refine hc.mono ?_
    rintro e w2 ⟨rfl, sv2, fv2, t2⟩
    go_wp2
    exact ⟨rfl, rfl, sv2, fv2, t1.trans t2⟩
  | ok u =>
    have hc := pops_ok (lc := fa.ec) h1.t h.wf l2 hty hq
    have hu := (tPopL_wf h.wf hq).1
    clear hq
    go_enter Tryd.func54, Tryd.ntmps54
    go_wp2_with fail
    refine hc.mono ?_
    rintro e w2 ⟨rfl, sv2, h2, t2⟩
    go_wp2_with fail
    refine (dies_any h2 hu).mono ?_
    rintro e w3 ⟨rfl, sv3, h3, t3⟩
    go_wp2
    go_end0
    exact ⟨rfl, sv3, h3, (t1.trans t2).trans t3⟩
set_option maxRecDepth 100000 in
set_option maxHeartbeats 4000000 in
theorem plain_26 (h : Cx w0 N p c lv E w sv fv s) (a y n : Int) (v4 v5 v6 : Value) :
    Calls Tryd.prog 54 #[.pointer (some ⟨p, 0, none⟩), insV 26 a y n v4 v5 v6] w (endT N p (.pointer (some ⟨c, 0, none⟩)) lv w sv fv ((tPop 0 s).bind fun q => .ok q.2)) := by
  obtain ⟨w1, hw1, h1, hx, ho, t1⟩ := box_step h 26 a y n v4 v5 v6
  unfold insV
  rw [hw1] at h1 t1
  clear hw1
  cases hq : tPop 0 s with
  | error m =>
    have hc := pop_er h1.t h.wf (.inl ⟨rfl, rfl⟩) hq
    clear hq
    go_enter Tryd.func54, Tryd.ntmps54
    go_wp2_with fail
    refine hc.mono ?_
    rintro e w2 ⟨rfl, sv2, fv2, t2⟩
    go_wp2
    exact ⟨rfl, rfl, sv2, fv2, t1.trans t2⟩
  | ok q =>
    have hc := pop_ok h1.t h.wf (.inl ⟨rfl, rfl⟩) hq
    clear hq
    go_enter Tryd.func54, Tryd.ntmps54
    go_wp2_with fail
    refine hc.mono ?_
    rintro e w2 ⟨rfl, sv2, h2, t2⟩
    go_wp2
    go_end0
    exact ⟨rfl, sv2, h2, t1.trans t2⟩
set_option maxRecDepth 100000 in
set_option maxHeartbeats 4000000 in
theorem plain_27 (h : Cx w0 N p c lv E w sv fv s) (a y n : Int) (v4 v5 v6 : Value) (hb : s.st.length + 1 ≤ 1099511627776) :
    Calls Tryd.prog 54 #[.pointer (some ⟨p, 0, none⟩), insV 27 a y n v4 v5 v6] w (endT N p (.pointer (some ⟨c, 0, none⟩)) lv w sv fv (tPlain E 27 s)) := by
  obtain ⟨w1, hw1, h1, hx, ho, t1⟩ := box_step h 27 a y n v4 v5 v6
  unfold insV
  rw [hw1] at h1 t1
  clear hw1
  have e0 : tPlain E 27 s = (tPop 127 s).bind fun q => (tPop 0 q.2).bind fun a => (tPop 0 a.2).bind fun b => if a.1 = b.1 ∨ a.1 = 0 ∨ b.1 = 0 then .ok (tPush [if a.1 = 0 then b.1 else a.1] b.2) else .error 60 := rfl
  generalize tPlain E 27 s = X at e0 ⊢
  cases hq : tPop 127 s with
  | error m =>
    rw [hq] at e0
    have hc := pop_er h1.t h.wf (.inr ⟨.inr rfl, rfl⟩) hq
    clear hq
    replace e0 := Lib.hid e0
    go_enter Tryd.func54, Tryd.ntmps54
    go_wp2_with fail
    refine hc.mono ?_
    rintro e w2 ⟨rfl, sv2, fv2, t2⟩
    go_wp2
    exact ⟨rfl, by rw [e0.out]; exact ⟨rfl, sv2, fv2, t1.trans t2⟩⟩
  | ok q =>
    rw [hq] at e0
    have hc := pop_ok h1.t h.wf (.inr ⟨.inr rfl, rfl⟩) hq
    have l1 := tPop_len hq
    have wq := (tPop_wf h.wf hq).1
    clear hq
    change X = (tPop 0 q.2).bind _ at e0
    cases hq2 : tPop 0 q.2 with
    | error m =>
      rw [hq2] at e0
      replace e0 := Lib.hid e0
      go_enter Tryd.func54, Tryd.ntmps54
      go_wp2_with fail
      refine hc.mono ?_
      rintro e w2 ⟨rfl, sv2, h2, t2⟩
      have hc2 := pop_er h2 wq (.inl ⟨rfl, rfl⟩) hq2
      clear hq2
      go_wp2_with fail
      refine hc2.mono ?_
      rintro e w3 ⟨rfl, sv3, fv3, t3⟩
      go_wp2
      exact ⟨rfl, by rw [e0.out]; exact ⟨rfl, sv3, fv3, (t1.trans t2).trans t3⟩⟩
    | ok r =>
      rw [hq2] at e0
      have l2 := tPop_len hq2
      obtain ⟨wr, _, or⟩ := tPop_wf wq hq2
      change X = (tPop 0 r.2).bind _ at e0
      cases hq3 : tPop 0 r.2 with
      | error m =>
        rw [hq3] at e0
        replace e0 := Lib.hid e0
        go_enter Tryd.func54, Tryd.ntmps54
        go_wp2_with fail
        refine hc.mono ?_
        rintro e w2 ⟨rfl, sv2, h2, t2⟩
        have hc2 := pop_ok h2 wq (.inl ⟨rfl, rfl⟩) hq2
        clear hq2
        go_wp2_with fail
        refine hc2.mono ?_
        rintro e w3 ⟨rfl, sv3, h3, t3⟩
        have hc3 := pop_er h3 wr (.inl ⟨rfl, rfl⟩) hq3
        clear hq3
        go_wp2_with fail
        refine hc3.mono ?_
        rintro e w4 ⟨rfl, sv4, fv4, t4⟩
        go_wp2
        exact ⟨rfl, by rw [e0.out]; exact ⟨rfl, sv4, fv4, ((t1.trans t2).trans t3).trans t4⟩⟩
      | ok z =>
        rw [hq3] at e0
        have l3 := tPop_len hq3
        obtain ⟨wz, _, oz⟩ := tPop_wf wr hq3
        change X = (if r.1 = z.1 ∨ r.1 = 0 ∨ z.1 = 0 then .ok (tPush [if r.1 = 0 then z.1 else r.1] z.2) else .error 60) at e0
        unfold ok01 at or oz
        by_cases hb1 : r.1 = z.1 ∨ r.1 = 0 ∨ z.1 = 0
        · rw [if_pos hb1] at e0
          replace e0 := Lib.hid e0
          have y4 : ((encT 1 r.1 == encT 1 z.1) = true ∧ (encT 1 r.1 == 1) = true) ∨ ((encT 1 r.1 == encT 1 z.1) = true ∧ (encT 1 r.1 == 1) = false) ∨ ((encT 1 r.1 == encT 1 z.1) = false ∧ (encT 1 r.1 == 1) = true) ∨ ((encT 1 r.1 == encT 1 z.1) = false ∧ (encT 1 r.1 == 1) = false ∧ (encT 1 z.1 == 1) = true) := by
            unfold encT
            simp
            omega
          have hen : encT 1 (if r.1 = 0 then z.1 else r.1) = if (encT 1 r.1 == 1) = true then encT 1 z.1 else encT 1 r.1 := by
            unfold encT
            simp
            split <;> omega
          replace hb1 := Lib.hid hb1
          have hlen : z.2.st.length + 1 ≤ 1099511627776 := by omega
          rcases y4 with ⟨y1, y2⟩ | ⟨y1, y2⟩ | ⟨y1, y2⟩ | ⟨y1, y2, y3⟩
          all_goals first | rw [if_pos y2] at hen | rw [if_neg (show ¬ (encT 1 r.1 == 1) = true by rw [y2]; exact Bool.false_ne_true)] at hen
          all_goals replace hen := Lib.hid hen.symm
          all_goals clear or oz
          all_goals (
            go_enter Tryd.func54, Tryd.ntmps54
            go_wp2_with fail
            refine hc.mono ?_
            rintro e w2 ⟨rfl, sv2, h2, t2⟩
            have hc2 := pop_ok h2 wq (.inl ⟨rfl, rfl⟩) hq2
            clear hq2
            go_wp2_with fail
            refine hc2.mono ?_
            rintro e w3 ⟨rfl, sv3, h3, t3⟩
            have hc3 := pop_ok h3 wr (.inl ⟨rfl, rfl⟩) hq3
            clear hq3
            go_wp2_with fail
            refine hc3.mono ?_
            rintro e w4 ⟨rfl, sv4, h4, t4⟩
            go_wp2_with fail
            refine (vwant_yes 60 _).mono ?_
            rintro e w' ⟨rfl, rfl⟩
            go_wp2_with fail
            refine (push1 h4 hen.out hlen).mono ?_
            rintro e w5 ⟨rfl, sv5, h5, t5⟩
            go_wp2
            go_end0
            rw [e0.out]
            exact ⟨rfl, sv5, h5, (((t1.trans t2).trans t3).trans t4).trans t5⟩)
        · rw [if_neg hb1] at e0
          replace e0 := Lib.hid e0
          have y1 : (encT 1 r.1 == encT 1 z.1) = false := by unfold encT; simp; omega
          have y2 : (encT 1 r.1 == 1) = false := by unfold encT; simp; omega
          have y3 : (encT 1 z.1 == 1) = false := by unfold encT; simp; omega
          clear hb1 or oz
          go_enter Tryd.func54, Tryd.ntmps54
          go_wp2_with fail
          refine hc.mono ?_
          rintro e w2 ⟨rfl, sv2, h2, t2⟩
          have hc2 := pop_ok h2 wq (.inl ⟨rfl, rfl⟩) hq2
          clear hq2
          go_wp2_with fail
          refine hc2.mono ?_
          rintro e w3 ⟨rfl, sv3, h3, t3⟩
          have hc3 := pop_ok h3 wr (.inl ⟨rfl, rfl⟩) hq3
          clear hq3
          go_wp2_with fail
          refine hc3.mono ?_
          rintro e w4 ⟨rfl, sv4, h4, t4⟩
          go_wp2_with fail
          refine (vwant_no 60 _).mono ?_
          rintro e w' ⟨rfl, rfl⟩
          go_wp2
          exact ⟨rfl, by rw [e0.out]; exact ⟨rfl, sv4, fv, ((t1.trans t2).trans t3).trans t4⟩⟩
set_option maxRecDepth 100000 in
set_option maxHeartbeats 4000000 in
theorem plain_63 (h : Cx w0 N p c lv E w sv fv s) (a y n : Int) (v4 v5 v6 : Value) (hb : s.st.length + 1 ≤ 1099511627776) :
    Calls Tryd.prog 54 #[.pointer (some ⟨p, 0, none⟩), insV 63 a y n v4 v5 v6] w (endT N p (.pointer (some ⟨c, 0, none⟩)) lv w sv fv (tPlain E 63 s)) := by
  obtain ⟨w1, hw1, h1, hx, ho, t1⟩ := box_step h 63 a y n v4 v5 v6
  obtain ⟨ma, mk, hm⟩ := h1.env.mems
  obtain ⟨k0, k1, k2, k3, z2, z3'⟩ := h1.t.c
  unfold insV
  obtain ⟨x0, x1, x2, x3, x4, x5, x6⟩ := hx.c
  clear k1 k2 k3 z2 z3'
  have e0 : tPlain E 63 s = if 0 < E.mems then .ok (tPush [127] s) else .error 61 := rfl
  generalize tPlain E 63 s = X at e0 ⊢
  by_cases hm0 : 0 < E.mems
  · rw [if_pos hm0] at e0
    replace e0 := Lib.hid e0
    have hm1 : (0 : Int) < (E.mems : Int) := by omega
    clear hm0
    go_enter Tryd.func54, Tryd.ntmps54
    go_upto_region 1 with (fail)
    rw [← hw1]
    clear hw1
    go_wp2_with fail
    refine (has_yes hm1 _).mono ?_
    rintro e w2 ⟨rfl, rfl⟩
    have hpu := push1 h1.t (t := 127) (v := 127) rfl hb
    go_wp2_with fail
    refine hpu.mono ?_
    rintro e w5 ⟨rfl, sv5, h5, t5⟩
    go_wp2
    go_end0
    rw [e0.out]
    exact ⟨rfl, sv5, h5, t1.trans t5⟩
  · rw [if_neg hm0] at e0
    replace e0 := Lib.hid e0
    have hm1 : ¬ (0 : Int) < (E.mems : Int) := by omega
    have hHN := fun w => Lib.hid (has_no hm1 w)
    clear hm0 hm1
    go_enter Tryd.func54, Tryd.ntmps54
    go_upto_region 1 with (fail)
    rw [← hw1]
    clear hw1
    go_wp2_with fail
    refine (hHN _).out.mono ?_
    rintro e w2 ⟨rfl, rfl⟩
    go_wp2
    exact ⟨rfl, by rw [e0.out]; exact ⟨rfl, sv, fv, t1⟩⟩
set_option maxRecDepth 100000 in
set_option maxHeartbeats 4000000 in
theorem plain_64 (h : Cx w0 N p c lv E w sv fv s) (a y n : Int) (v4 v5 v6 : Value) (hb : s.st.length + 1 ≤ 1099511627776) :
    Calls Tryd.prog 54 #[.pointer (some ⟨p, 0, none⟩), insV 64 a y n v4 v5 v6] w (endT N p (.pointer (some ⟨c, 0, none⟩)) lv w sv fv (tPlain E 64 s)) := by
  obtain ⟨w1, hw1, h1, hx, ho, t1⟩ := box_step h 64 a y n v4 v5 v6
  obtain ⟨ma, mk, hm⟩ := h1.env.mems
  obtain ⟨k0, k1, k2, k3, z2, z3'⟩ := h1.t.c
  unfold insV
  rw [hw1] at h1 t1 k0 hm
  clear hw1 k1 k2 k3 z2 z3'
  have e0 : tPlain E 64 s = if 0 < E.mems then (tPop 127 s).bind fun q => .ok (tPush [127] q.2) else .error 61 := rfl
  generalize tPlain E 64 s = X at e0 ⊢
  by_cases hm0 : 0 < E.mems
  · rw [if_pos hm0] at e0
    have hm1 : (0 : Int) < (E.mems : Int) := by omega
    clear hm0
    cases hq : tPop 127 s with
    | error m =>
      rw [hq] at e0
      replace e0 := Lib.hid e0
      have hc := pop_er h1.t h.wf (.inr ⟨.inr rfl, rfl⟩) hq
      clear hq
      go_enter Tryd.func54, Tryd.ntmps54
      go_wp2_with fail
      refine (has_yes hm1 _).mono ?_
      rintro e w2 ⟨rfl, rfl⟩
      go_wp2_with fail
      refine hc.mono ?_
      rintro e w2 ⟨rfl, sv2, fv2, t2⟩
      go_wp2
      exact ⟨rfl, by rw [e0.out]; exact ⟨rfl, sv2, fv2, t1.trans t2⟩⟩
    | ok q =>
      rw [hq] at e0
      replace e0 := Lib.hid e0
      have hc := pop_ok h1.t h.wf (.inr ⟨.inr rfl, rfl⟩) hq
      have hlen := tPop_len hq
      clear hq
      go_enter Tryd.func54, Tryd.ntmps54
      go_wp2_with fail
      refine (has_yes hm1 _).mono ?_
      rintro e w2 ⟨rfl, rfl⟩
      go_wp2_with fail
      refine hc.mono ?_
      rintro e w2 ⟨rfl, sv2, h2, t2⟩
      have hpu := push1 h2 (t := 127) (v := 127) rfl (by omega)
      go_wp2_with fail
      refine hpu.mono ?_
      rintro e w5 ⟨rfl, sv5, h5, t5⟩
      go_wp2
      go_end0
      rw [e0.out]
      exact ⟨rfl, sv5, h5, (t1.trans t2).trans t5⟩
  · rw [if_neg hm0] at e0
    replace e0 := Lib.hid e0
    have hm1 : ¬ (0 : Int) < (E.mems : Int) := by omega
    have hHN := fun w => Lib.hid (has_no hm1 w)
    clear hm0 hm1
    go_enter Tryd.func54, Tryd.ntmps54
    go_wp2_with fail
    refine (hHN _).out.mono ?_
    rintro e w2 ⟨rfl, rfl⟩
    go_wp2
    exact ⟨rfl, by rw [e0.out]; exact ⟨rfl, sv, fv, t1⟩⟩
set_option maxRecDepth 100000 in
set_option maxHeartbeats 4000000 in
theorem plain_no (h : Cx w0 N p c lv E w sv fv s) (op a y n : Int) (v4 v5 v6 : Value) (g0 : op ≠ 0) (g15 : op ≠ 15) (g26 : op ≠ 26) (g27 : op ≠ 27) (g63 : op ≠ 63) (g64 : op ≠ 64) :
    Calls Tryd.prog 54 #[.pointer (some ⟨p, 0, none⟩), insV op a y n v4 v5 v6] w (endT N p (.pointer (some ⟨c, 0, none⟩)) lv w sv fv (.ok s)) := by
  obtain ⟨w1, hw1, h1, hx, ho, t1⟩ := box_step h op a y n v4 v5 v6
  unfold insV
  rw [hw1] at h1 t1
  clear hw1
  have f0 : (op == 0) = false := by simp [g0]
  have f15 : (op == 15) = false := by simp [g15]
  have f26 : (op == 26) = false := by simp [g26]
  have f27 : (op == 27) = false := by simp [g27]
  have f63 : (op == 63) = false := by simp [g63]
  have f64 : (op == 64) = false := by simp [g64]
  go_enter Tryd.func54, Tryd.ntmps54
  go_wp2
  go_end0
  exact ⟨rfl, sv, h1.t, t1⟩
theorem plain_any (h : Cx w0 N p c lv E w sv fv s) (op a y n : Int) (v4 v5 v6 : Value) (hb : s.st.length + 1 ≤ 1099511627776) :
    Calls Tryd.prog 54 #[.pointer (some ⟨p, 0, none⟩), insV op a y n v4 v5 v6] w (endT N p (.pointer (some ⟨c, 0, none⟩)) lv w sv fv (tPlain E op s)) := by
  by_cases g0 : op = 0
  · subst g0; exact plain_0 h a y n v4 v5 v6
  by_cases g15 : op = 15
  · subst g15; exact plain_15 h a y n v4 v5 v6
  by_cases g26 : op = 26
  · subst g26; exact plain_26 h a y n v4 v5 v6
  by_cases g27 : op = 27
  · subst g27; exact plain_27 h a y n v4 v5 v6 hb
  by_cases g63 : op = 63
  · subst g63; exact plain_63 h a y n v4 v5 v6 hb
  by_cases g64 : op = 64
  · subst g64; exact plain_64 h a y n v4 v5 v6 hb
  have e : tPlain E op s = .ok s := by
    unfold tPlain
    rw [if_neg g0, if_neg g15, if_neg g26, if_neg g27, if_neg g63, if_neg g64]
  rw [e]
  exact plain_no h op a y n v4 v5 v6 g0 g15 g26 g27 g63 g64
end

end Go.Proofs.YtacohbllbjgdgaaDoor
