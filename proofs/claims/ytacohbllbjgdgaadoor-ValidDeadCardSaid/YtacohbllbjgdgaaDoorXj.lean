/- The typer: loads and stores. -/
import Derived.Test.YtacohbllbjgdgaaDoorXi
import Derived.Deep.RegionWith
namespace Go.Proofs.YtacohbllbjgdgaaDoor
open Go.RowKit
set_option linter.unusedVariables false
set_option linter.unusedSimpArgs false
section
variable {w0 : World} {N p c : Nat} {lv : Value} {E : Ev} {w : World} {sv fv : Value} {s : Ts}
theorem vwant_no' (n : Int) (w : World) : Calls Tryd.prog 20 #[.bool false, .int .i64 n] w fun e w' => (e = .returned (.tuple #[]) ∧ Hid False) ∨ (e = .panicked (faultV n) ∧ w = w') := (vwant_no n w).mono fun _ _ q => .inr q
set_option maxRecDepth 100000 in
set_option maxHeartbeats 4000000 in
theorem memory_61e (h : Cx w0 N p c lv E w sv fv s) (op a y n : Int) (v4 v5 v6 : Value) (hm0 : ¬ 0 < E.mems) :
    Calls Tryd.prog 53 #[.pointer (some ⟨p, 0, none⟩), insV op a y n v4 v5 v6] w (endT N p (.pointer (some ⟨c, 0, none⟩)) lv w sv fv (.error 61)) := by
  obtain ⟨w1, hw1, h1, hx1, ho1, t1⟩ := box_step h op a y n v4 v5 v6
  obtain ⟨ma, mk, hm⟩ := h1.env.mems
  unfold insV
  obtain ⟨B, hB⟩ : ∃ B, B = w.heap.size := ⟨_, rfl⟩
  obtain ⟨k0, k1, k2, k3, z2, z3'⟩ := h1.t.c
  obtain ⟨x0, x1, x2, x3, x4, x5, x6⟩ := hx1.c
  have hHN := fun w => Lib.hid (has_no (show ¬ (0 : Int) < (E.mems : Int) by omega) w)
  clear hm0
  go_enter Tryd.func53, Tryd.ntmps53
  go_upto_region 1 with (fail)
  rw [← hw1]
  rw [← hB] at x0 x1 x2 x3 x4 x5 x6 hx1 ho1 ⊢
  clear hw1 hB
  go_wp2_with fail
  refine ((hHN _).out).mono ?_
  rintro e w' ⟨rfl, rfl⟩
  go_wp2
  exact ⟨rfl, rfl, _, _, t1⟩
set_option maxRecDepth 100000 in
set_option maxHeartbeats 4000000 in
theorem memory_60e (h : Cx w0 N p c lv E w sv fv s) (op a y n : Int) (v4 v5 v6 : Value) (hm0 : 0 < E.mems) (hle : ¬ a ≤ bytesV op) :
    Calls Tryd.prog 53 #[.pointer (some ⟨p, 0, none⟩), insV op a y n v4 v5 v6] w (endT N p (.pointer (some ⟨c, 0, none⟩)) lv w sv fv (.error 60)) := by
  obtain ⟨w1, hw1, h1, hx1, ho1, t1⟩ := box_step h op a y n v4 v5 v6
  obtain ⟨ma, mk, hm⟩ := h1.env.mems
  unfold insV
  obtain ⟨B, hB⟩ : ∃ B, B = w.heap.size := ⟨_, rfl⟩
  obtain ⟨k0, k1, k2, k3, z2, z3'⟩ := h1.t.c
  obtain ⟨x0, x1, x2, x3, x4, x5, x6⟩ := hx1.c
  have hHY := fun w => Lib.hid (has_yes (show (0 : Int) < (E.mems : Int) by omega) w)
  have hBy := fun w => Lib.hid (bytes_any op w)
  generalize bytesV op = bv at hle hBy
  have hld : decide (a ≤ bv) = false := decide_eq_false hle
  have hlt : bv < a := by omega
  clear hm0
  go_enter Tryd.func53, Tryd.ntmps53
  go_upto_region 1 with (fail)
  rw [← hw1]
  rw [← hB] at x0 x1 x2 x3 x4 x5 x6 hx1 ho1 ⊢
  clear hw1 hB
  go_wp2_with fail
  refine ((hHY _).out).mono ?_
  rintro e w' ⟨rfl, rfl⟩
  obtain ⟨h2, d2⟩ := drew_step h1
  have t2 := Lib.hid (t1.trans d2)
  clear t1 d2 h2 hm
  go_wp2_with fail
  go_region_with (first | (go_at_call 62; refine (hBy _).out.mono ?_; rintro e w' ⟨rfl, rfl⟩) | (go_at_call 20; refine (vwant_no' 60 _).mono ?_; rintro e w' (⟨rfl, hF⟩ | ⟨rfl, rfl⟩); rotate_left; exact ⟨rfl, rfl, _, _, t2.out⟩))
  all_goals exact hF.out.elim
set_option maxRecDepth 100000 in
set_option maxHeartbeats 4000000 in
theorem memory_40 (h : Cx w0 N p c lv E w sv fv s) (a y n : Int) (v4 v5 v6 : Value) (hm0 : 0 < E.mems) (hle : a ≤ bytesV 40) (hb : s.st.length + 1 ≤ 1099511627776) :
    Calls Tryd.prog 53 #[.pointer (some ⟨p, 0, none⟩), insV 40 a y n v4 v5 v6] w (endT N p (.pointer (some ⟨c, 0, none⟩)) lv w sv fv (tMemory E 40 a s)) := by
  obtain ⟨w1, hw1, h1, hx1, ho1, t1⟩ := box_step h 40 a y n v4 v5 v6
  obtain ⟨ma, mk, hm⟩ := h1.env.mems
  unfold insV
  obtain ⟨B, hB⟩ : ∃ B, B = w.heap.size := ⟨_, rfl⟩
  obtain ⟨k0, k1, k2, k3, z2, z3'⟩ := h1.t.c
  obtain ⟨x0, x1, x2, x3, x4, x5, x6⟩ := hx1.c
  have e0 : tMemory E 40 a s = (tPop 127 s).bind fun q => .ok (tPush [127] q.2) := by
    unfold tMemory
    rw [if_pos hm0, if_pos hle]
    rfl
  generalize tMemory E 40 a s = X at e0 ⊢
  have hHY := fun w => Lib.hid (has_yes (show (0 : Int) < (E.mems : Int) by omega) w)
  have hBy := fun w => Lib.hid (bytes_any 40 w)
  generalize bytesV 40 = bv at hle hBy
  have hld : decide (a ≤ bv) = true := decide_eq_true hle
  replace e0 := Lib.hid e0
  clear hm0
  have hB2 : ∀ w, Calls Tryd.prog 62 #[.int .i64 40] w fun e w' => e = .returned (.int .i64 bv) ∧ w' = w := fun w => (hBy w).out.mono fun _ _ q => ⟨q.1, q.2.symm⟩
  have hW2 : ∀ w, Calls Tryd.prog 20 #[.bool true, .int .i64 60] w fun e w' => e = .returned (.tuple #[]) ∧ w' = w := fun w => (vwant_yes 60 w).mono fun _ _ q => ⟨q.1, q.2.symm⟩
  clear hBy
  go_enter Tryd.func53, Tryd.ntmps53
  go_upto_region 1 with (fail)
  rw [← hw1]
  rw [← hB] at x0 x1 x2 x3 x4 x5 x6 hx1 ho1 ⊢
  clear hw1 hB
  go_wp2_with fail
  refine ((hHY _).out).mono ?_
  rintro e w' ⟨rfl, rfl⟩
  go_wp2_with fail
  go_quiet (first | (go_at_call 62; exact Calls.quiet_of_same (hB2 _)) | (go_at_call 20; exact Calls.quiet_of_same (hW2 _)))
  have h2 := h1.step (below_drawn nq)
  have d2 : Tw p sv fv sv fv w1 (w1.drewN nq) := .of_below (below_drawn nq)
  have t2 := t1.trans d2
  have hx2 := hx1.tw ho1 d2
  have ho2 := (ho1.tw d2).1
  obtain ⟨w2, hw2⟩ : ∃ w2, w2 = w1.drewN nq := ⟨_, rfl⟩
  rw [← hw2] at h2 t2 d2 hx2 ho2 ⊢
  clear hw2 h1 d2 t1 hx1 ho1 hm hB2 hW2 k0 k1 k2 k3 z2 z3' x0 x1 x2 x3 x4 x5 x6
  obtain ⟨x0, x1, x2, x3, x4, x5, x6⟩ := hx2.c
  cases hq : tPop 127 s with
  | error m =>
    replace e0 := Lib.hid (e0.out.trans (by rw [hq]; rfl : _ = Except.error m))
    have hc := pop_er h2.t h.wf (.inr ⟨.inr rfl, rfl⟩) hq
    clear hq
    go_wp2_with fail
    refine hc.mono ?_
    rintro e wz ⟨rfl, svz, fvz, tz⟩
    go_wp2
    exact ⟨rfl, by rw [e0.out]; exact ⟨rfl, svz, fvz, t2.trans tz⟩⟩
  | ok q =>
    replace e0 := Lib.hid (e0.out.trans (by rw [hq]; rfl : _ = Except.ok (tPush [127] q.2)))
    have hc := pop_ok h2.t h.wf (.inr ⟨.inr rfl, rfl⟩) hq
    have hwq := (tPop_wf h.wf hq).1
    have hle2 := tPop_len hq
    clear hq
    go_wp2_with fail
    refine hc.mono ?_
    rintro e w3 ⟨rfl, sv3, h3, d3⟩
    have t3 := t2.trans d3
    have hx3 := hx2.tw ho2 d3
    have ho3 := (ho2.tw d3).1
    clear x0 x1 x2 x3 x4 x5 x6
    obtain ⟨x0, x1, x2, x3, x4, x5, x6⟩ := hx3.c
    have hpu := push1 h3 (t := 127) (v := 127) rfl (by omega)
    go_wp2_with fail
    refine hpu.mono ?_
    rintro e w4 ⟨rfl, sv4, h4, d4⟩
    go_wp2
    go_end0
    rw [e0.out]
    exact ⟨rfl, sv4, h4, t3.trans d4⟩
set_option maxRecDepth 100000 in
set_option maxHeartbeats 4000000 in
theorem memory_41 (h : Cx w0 N p c lv E w sv fv s) (a y n : Int) (v4 v5 v6 : Value) (hm0 : 0 < E.mems) (hle : a ≤ bytesV 41) (hb : s.st.length + 1 ≤ 1099511627776) :
    Calls Tryd.prog 53 #[.pointer (some ⟨p, 0, none⟩), insV 41 a y n v4 v5 v6] w (endT N p (.pointer (some ⟨c, 0, none⟩)) lv w sv fv (tMemory E 41 a s)) := by
  obtain ⟨w1, hw1, h1, hx1, ho1, t1⟩ := box_step h 41 a y n v4 v5 v6
  obtain ⟨ma, mk, hm⟩ := h1.env.mems
  unfold insV
  obtain ⟨B, hB⟩ : ∃ B, B = w.heap.size := ⟨_, rfl⟩
  obtain ⟨k0, k1, k2, k3, z2, z3'⟩ := h1.t.c
  obtain ⟨x0, x1, x2, x3, x4, x5, x6⟩ := hx1.c
  have e0 : tMemory E 41 a s = (tPop 127 s).bind fun q => .ok (tPush [126] q.2) := by
    unfold tMemory
    rw [if_pos hm0, if_pos hle]
    rfl
  generalize tMemory E 41 a s = X at e0 ⊢
  have hHY := fun w => Lib.hid (has_yes (show (0 : Int) < (E.mems : Int) by omega) w)
  have hBy := fun w => Lib.hid (bytes_any 41 w)
  generalize bytesV 41 = bv at hle hBy
  have hld : decide (a ≤ bv) = true := decide_eq_true hle
  replace e0 := Lib.hid e0
  clear hm0
  have hB2 : ∀ w, Calls Tryd.prog 62 #[.int .i64 41] w fun e w' => e = .returned (.int .i64 bv) ∧ w' = w := fun w => (hBy w).out.mono fun _ _ q => ⟨q.1, q.2.symm⟩
  have hW2 : ∀ w, Calls Tryd.prog 20 #[.bool true, .int .i64 60] w fun e w' => e = .returned (.tuple #[]) ∧ w' = w := fun w => (vwant_yes 60 w).mono fun _ _ q => ⟨q.1, q.2.symm⟩
  clear hBy
  go_enter Tryd.func53, Tryd.ntmps53
  go_upto_region 1 with (fail)
  rw [← hw1]
  rw [← hB] at x0 x1 x2 x3 x4 x5 x6 hx1 ho1 ⊢
  clear hw1 hB
  go_wp2_with fail
  refine ((hHY _).out).mono ?_
  rintro e w' ⟨rfl, rfl⟩
  go_wp2_with fail
  go_quiet (first | (go_at_call 62; exact Calls.quiet_of_same (hB2 _)) | (go_at_call 20; exact Calls.quiet_of_same (hW2 _)))
  have h2 := h1.step (below_drawn nq)
  have d2 : Tw p sv fv sv fv w1 (w1.drewN nq) := .of_below (below_drawn nq)
  have t2 := t1.trans d2
  have hx2 := hx1.tw ho1 d2
  have ho2 := (ho1.tw d2).1
  obtain ⟨w2, hw2⟩ : ∃ w2, w2 = w1.drewN nq := ⟨_, rfl⟩
  rw [← hw2] at h2 t2 d2 hx2 ho2 ⊢
  clear hw2 h1 d2 t1 hx1 ho1 hm hB2 hW2 k0 k1 k2 k3 z2 z3' x0 x1 x2 x3 x4 x5 x6
  obtain ⟨x0, x1, x2, x3, x4, x5, x6⟩ := hx2.c
  cases hq : tPop 127 s with
  | error m =>
    replace e0 := Lib.hid (e0.out.trans (by rw [hq]; rfl : _ = Except.error m))
    have hc := pop_er h2.t h.wf (.inr ⟨.inr rfl, rfl⟩) hq
    clear hq
    go_wp2_with fail
    refine hc.mono ?_
    rintro e wz ⟨rfl, svz, fvz, tz⟩
    go_wp2
    exact ⟨rfl, by rw [e0.out]; exact ⟨rfl, svz, fvz, t2.trans tz⟩⟩
  | ok q =>
    replace e0 := Lib.hid (e0.out.trans (by rw [hq]; rfl : _ = Except.ok (tPush [126] q.2)))
    have hc := pop_ok h2.t h.wf (.inr ⟨.inr rfl, rfl⟩) hq
    have hwq := (tPop_wf h.wf hq).1
    have hle2 := tPop_len hq
    clear hq
    go_wp2_with fail
    refine hc.mono ?_
    rintro e w3 ⟨rfl, sv3, h3, d3⟩
    have t3 := t2.trans d3
    have hx3 := hx2.tw ho2 d3
    have ho3 := (ho2.tw d3).1
    clear x0 x1 x2 x3 x4 x5 x6
    obtain ⟨x0, x1, x2, x3, x4, x5, x6⟩ := hx3.c
    have hpu := push1 h3 (t := 126) (v := 126) rfl (by omega)
    go_wp2_with fail
    refine hpu.mono ?_
    rintro e w4 ⟨rfl, sv4, h4, d4⟩
    go_wp2
    go_end0
    rw [e0.out]
    exact ⟨rfl, sv4, h4, t3.trans d4⟩
set_option maxRecDepth 100000 in
set_option maxHeartbeats 4000000 in
theorem memory_44 (h : Cx w0 N p c lv E w sv fv s) (a y n : Int) (v4 v5 v6 : Value) (hm0 : 0 < E.mems) (hle : a ≤ bytesV 44) (hb : s.st.length + 1 ≤ 1099511627776) :
    Calls Tryd.prog 53 #[.pointer (some ⟨p, 0, none⟩), insV 44 a y n v4 v5 v6] w (endT N p (.pointer (some ⟨c, 0, none⟩)) lv w sv fv (tMemory E 44 a s)) := by
  obtain ⟨w1, hw1, h1, hx1, ho1, t1⟩ := box_step h 44 a y n v4 v5 v6
  obtain ⟨ma, mk, hm⟩ := h1.env.mems
  unfold insV
  obtain ⟨B, hB⟩ : ∃ B, B = w.heap.size := ⟨_, rfl⟩
  obtain ⟨k0, k1, k2, k3, z2, z3'⟩ := h1.t.c
  obtain ⟨x0, x1, x2, x3, x4, x5, x6⟩ := hx1.c
  have e0 : tMemory E 44 a s = (tPop 127 s).bind fun q => .ok (tPush [127] q.2) := by
    unfold tMemory
    rw [if_pos hm0, if_pos hle]
    rfl
  generalize tMemory E 44 a s = X at e0 ⊢
  have hHY := fun w => Lib.hid (has_yes (show (0 : Int) < (E.mems : Int) by omega) w)
  have hBy := fun w => Lib.hid (bytes_any 44 w)
  generalize bytesV 44 = bv at hle hBy
  have hld : decide (a ≤ bv) = true := decide_eq_true hle
  replace e0 := Lib.hid e0
  clear hm0
  have hB2 : ∀ w, Calls Tryd.prog 62 #[.int .i64 44] w fun e w' => e = .returned (.int .i64 bv) ∧ w' = w := fun w => (hBy w).out.mono fun _ _ q => ⟨q.1, q.2.symm⟩
  have hW2 : ∀ w, Calls Tryd.prog 20 #[.bool true, .int .i64 60] w fun e w' => e = .returned (.tuple #[]) ∧ w' = w := fun w => (vwant_yes 60 w).mono fun _ _ q => ⟨q.1, q.2.symm⟩
  clear hBy
  go_enter Tryd.func53, Tryd.ntmps53
  go_upto_region 1 with (fail)
  rw [← hw1]
  rw [← hB] at x0 x1 x2 x3 x4 x5 x6 hx1 ho1 ⊢
  clear hw1 hB
  go_wp2_with fail
  refine ((hHY _).out).mono ?_
  rintro e w' ⟨rfl, rfl⟩
  go_wp2_with fail
  go_quiet (first | (go_at_call 62; exact Calls.quiet_of_same (hB2 _)) | (go_at_call 20; exact Calls.quiet_of_same (hW2 _)))
  have h2 := h1.step (below_drawn nq)
  have d2 : Tw p sv fv sv fv w1 (w1.drewN nq) := .of_below (below_drawn nq)
  have t2 := t1.trans d2
  have hx2 := hx1.tw ho1 d2
  have ho2 := (ho1.tw d2).1
  obtain ⟨w2, hw2⟩ : ∃ w2, w2 = w1.drewN nq := ⟨_, rfl⟩
  rw [← hw2] at h2 t2 d2 hx2 ho2 ⊢
  clear hw2 h1 d2 t1 hx1 ho1 hm hB2 hW2 k0 k1 k2 k3 z2 z3' x0 x1 x2 x3 x4 x5 x6
  obtain ⟨x0, x1, x2, x3, x4, x5, x6⟩ := hx2.c
  cases hq : tPop 127 s with
  | error m =>
    replace e0 := Lib.hid (e0.out.trans (by rw [hq]; rfl : _ = Except.error m))
    have hc := pop_er h2.t h.wf (.inr ⟨.inr rfl, rfl⟩) hq
    clear hq
    go_wp2_with fail
    refine hc.mono ?_
    rintro e wz ⟨rfl, svz, fvz, tz⟩
    go_wp2
    exact ⟨rfl, by rw [e0.out]; exact ⟨rfl, svz, fvz, t2.trans tz⟩⟩
  | ok q =>
    replace e0 := Lib.hid (e0.out.trans (by rw [hq]; rfl : _ = Except.ok (tPush [127] q.2)))
    have hc := pop_ok h2.t h.wf (.inr ⟨.inr rfl, rfl⟩) hq
    have hwq := (tPop_wf h.wf hq).1
    have hle2 := tPop_len hq
    clear hq
    go_wp2_with fail
    refine hc.mono ?_
    rintro e w3 ⟨rfl, sv3, h3, d3⟩
    have t3 := t2.trans d3
    have hx3 := hx2.tw ho2 d3
    have ho3 := (ho2.tw d3).1
    clear x0 x1 x2 x3 x4 x5 x6
    obtain ⟨x0, x1, x2, x3, x4, x5, x6⟩ := hx3.c
    have hpu := push1 h3 (t := 127) (v := 127) rfl (by omega)
    go_wp2_with fail
    refine hpu.mono ?_
    rintro e w4 ⟨rfl, sv4, h4, d4⟩
    go_wp2
    go_end0
    rw [e0.out]
    exact ⟨rfl, sv4, h4, t3.trans d4⟩
set_option maxRecDepth 100000 in
set_option maxHeartbeats 4000000 in
theorem memory_45 (h : Cx w0 N p c lv E w sv fv s) (a y n : Int) (v4 v5 v6 : Value) (hm0 : 0 < E.mems) (hle : a ≤ bytesV 45) (hb : s.st.length + 1 ≤ 1099511627776) :
    Calls Tryd.prog 53 #[.pointer (some ⟨p, 0, none⟩), insV 45 a y n v4 v5 v6] w (endT N p (.pointer (some ⟨c, 0, none⟩)) lv w sv fv (tMemory E 45 a s)) := by
  obtain ⟨w1, hw1, h1, hx1, ho1, t1⟩ := box_step h 45 a y n v4 v5 v6
  obtain ⟨ma, mk, hm⟩ := h1.env.mems
  unfold insV
  obtain ⟨B, hB⟩ : ∃ B, B = w.heap.size := ⟨_, rfl⟩
  obtain ⟨k0, k1, k2, k3, z2, z3'⟩ := h1.t.c
  obtain ⟨x0, x1, x2, x3, x4, x5, x6⟩ := hx1.c
  have e0 : tMemory E 45 a s = (tPop 127 s).bind fun q => .ok (tPush [127] q.2) := by
    unfold tMemory
    rw [if_pos hm0, if_pos hle]
    rfl
  generalize tMemory E 45 a s = X at e0 ⊢
  have hHY := fun w => Lib.hid (has_yes (show (0 : Int) < (E.mems : Int) by omega) w)
  have hBy := fun w => Lib.hid (bytes_any 45 w)
  generalize bytesV 45 = bv at hle hBy
  have hld : decide (a ≤ bv) = true := decide_eq_true hle
  replace e0 := Lib.hid e0
  clear hm0
  have hB2 : ∀ w, Calls Tryd.prog 62 #[.int .i64 45] w fun e w' => e = .returned (.int .i64 bv) ∧ w' = w := fun w => (hBy w).out.mono fun _ _ q => ⟨q.1, q.2.symm⟩
  have hW2 : ∀ w, Calls Tryd.prog 20 #[.bool true, .int .i64 60] w fun e w' => e = .returned (.tuple #[]) ∧ w' = w := fun w => (vwant_yes 60 w).mono fun _ _ q => ⟨q.1, q.2.symm⟩
  clear hBy
  go_enter Tryd.func53, Tryd.ntmps53
  go_upto_region 1 with (fail)
  rw [← hw1]
  rw [← hB] at x0 x1 x2 x3 x4 x5 x6 hx1 ho1 ⊢
  clear hw1 hB
  go_wp2_with fail
  refine ((hHY _).out).mono ?_
  rintro e w' ⟨rfl, rfl⟩
  go_wp2_with fail
  go_quiet (first | (go_at_call 62; exact Calls.quiet_of_same (hB2 _)) | (go_at_call 20; exact Calls.quiet_of_same (hW2 _)))
  have h2 := h1.step (below_drawn nq)
  have d2 : Tw p sv fv sv fv w1 (w1.drewN nq) := .of_below (below_drawn nq)
  have t2 := t1.trans d2
  have hx2 := hx1.tw ho1 d2
  have ho2 := (ho1.tw d2).1
  obtain ⟨w2, hw2⟩ : ∃ w2, w2 = w1.drewN nq := ⟨_, rfl⟩
  rw [← hw2] at h2 t2 d2 hx2 ho2 ⊢
  clear hw2 h1 d2 t1 hx1 ho1 hm hB2 hW2 k0 k1 k2 k3 z2 z3' x0 x1 x2 x3 x4 x5 x6
  obtain ⟨x0, x1, x2, x3, x4, x5, x6⟩ := hx2.c
  cases hq : tPop 127 s with
  | error m =>
    replace e0 := Lib.hid (e0.out.trans (by rw [hq]; rfl : _ = Except.error m))
    have hc := pop_er h2.t h.wf (.inr ⟨.inr rfl, rfl⟩) hq
    clear hq
    go_wp2_with fail
    refine hc.mono ?_
    rintro e wz ⟨rfl, svz, fvz, tz⟩
    go_wp2
    exact ⟨rfl, by rw [e0.out]; exact ⟨rfl, svz, fvz, t2.trans tz⟩⟩
  | ok q =>
    replace e0 := Lib.hid (e0.out.trans (by rw [hq]; rfl : _ = Except.ok (tPush [127] q.2)))
    have hc := pop_ok h2.t h.wf (.inr ⟨.inr rfl, rfl⟩) hq
    have hwq := (tPop_wf h.wf hq).1
    have hle2 := tPop_len hq
    clear hq
    go_wp2_with fail
    refine hc.mono ?_
    rintro e w3 ⟨rfl, sv3, h3, d3⟩
    have t3 := t2.trans d3
    have hx3 := hx2.tw ho2 d3
    have ho3 := (ho2.tw d3).1
    clear x0 x1 x2 x3 x4 x5 x6
    obtain ⟨x0, x1, x2, x3, x4, x5, x6⟩ := hx3.c
    have hpu := push1 h3 (t := 127) (v := 127) rfl (by omega)
    go_wp2_with fail
    refine hpu.mono ?_
    rintro e w4 ⟨rfl, sv4, h4, d4⟩
    go_wp2
    go_end0
    rw [e0.out]
    exact ⟨rfl, sv4, h4, t3.trans d4⟩
set_option maxRecDepth 100000 in
set_option maxHeartbeats 4000000 in
theorem memory_46 (h : Cx w0 N p c lv E w sv fv s) (a y n : Int) (v4 v5 v6 : Value) (hm0 : 0 < E.mems) (hle : a ≤ bytesV 46) (hb : s.st.length + 1 ≤ 1099511627776) :
    Calls Tryd.prog 53 #[.pointer (some ⟨p, 0, none⟩), insV 46 a y n v4 v5 v6] w (endT N p (.pointer (some ⟨c, 0, none⟩)) lv w sv fv (tMemory E 46 a s)) := by
  obtain ⟨w1, hw1, h1, hx1, ho1, t1⟩ := box_step h 46 a y n v4 v5 v6
  obtain ⟨ma, mk, hm⟩ := h1.env.mems
  unfold insV
  obtain ⟨B, hB⟩ : ∃ B, B = w.heap.size := ⟨_, rfl⟩
  obtain ⟨k0, k1, k2, k3, z2, z3'⟩ := h1.t.c
  obtain ⟨x0, x1, x2, x3, x4, x5, x6⟩ := hx1.c
  have e0 : tMemory E 46 a s = (tPop 127 s).bind fun q => .ok (tPush [127] q.2) := by
    unfold tMemory
    rw [if_pos hm0, if_pos hle]
    rfl
  generalize tMemory E 46 a s = X at e0 ⊢
  have hHY := fun w => Lib.hid (has_yes (show (0 : Int) < (E.mems : Int) by omega) w)
  have hBy := fun w => Lib.hid (bytes_any 46 w)
  generalize bytesV 46 = bv at hle hBy
  have hld : decide (a ≤ bv) = true := decide_eq_true hle
  replace e0 := Lib.hid e0
  clear hm0
  have hB2 : ∀ w, Calls Tryd.prog 62 #[.int .i64 46] w fun e w' => e = .returned (.int .i64 bv) ∧ w' = w := fun w => (hBy w).out.mono fun _ _ q => ⟨q.1, q.2.symm⟩
  have hW2 : ∀ w, Calls Tryd.prog 20 #[.bool true, .int .i64 60] w fun e w' => e = .returned (.tuple #[]) ∧ w' = w := fun w => (vwant_yes 60 w).mono fun _ _ q => ⟨q.1, q.2.symm⟩
  clear hBy
  go_enter Tryd.func53, Tryd.ntmps53
  go_upto_region 1 with (fail)
  rw [← hw1]
  rw [← hB] at x0 x1 x2 x3 x4 x5 x6 hx1 ho1 ⊢
  clear hw1 hB
  go_wp2_with fail
  refine ((hHY _).out).mono ?_
  rintro e w' ⟨rfl, rfl⟩
  go_wp2_with fail
  go_quiet (first | (go_at_call 62; exact Calls.quiet_of_same (hB2 _)) | (go_at_call 20; exact Calls.quiet_of_same (hW2 _)))
  have h2 := h1.step (below_drawn nq)
  have d2 : Tw p sv fv sv fv w1 (w1.drewN nq) := .of_below (below_drawn nq)
  have t2 := t1.trans d2
  have hx2 := hx1.tw ho1 d2
  have ho2 := (ho1.tw d2).1
  obtain ⟨w2, hw2⟩ : ∃ w2, w2 = w1.drewN nq := ⟨_, rfl⟩
  rw [← hw2] at h2 t2 d2 hx2 ho2 ⊢
  clear hw2 h1 d2 t1 hx1 ho1 hm hB2 hW2 k0 k1 k2 k3 z2 z3' x0 x1 x2 x3 x4 x5 x6
  obtain ⟨x0, x1, x2, x3, x4, x5, x6⟩ := hx2.c
  cases hq : tPop 127 s with
  | error m =>
    replace e0 := Lib.hid (e0.out.trans (by rw [hq]; rfl : _ = Except.error m))
    have hc := pop_er h2.t h.wf (.inr ⟨.inr rfl, rfl⟩) hq
    clear hq
    go_wp2_with fail
    refine hc.mono ?_
    rintro e wz ⟨rfl, svz, fvz, tz⟩
    go_wp2
    exact ⟨rfl, by rw [e0.out]; exact ⟨rfl, svz, fvz, t2.trans tz⟩⟩
  | ok q =>
    replace e0 := Lib.hid (e0.out.trans (by rw [hq]; rfl : _ = Except.ok (tPush [127] q.2)))
    have hc := pop_ok h2.t h.wf (.inr ⟨.inr rfl, rfl⟩) hq
    have hwq := (tPop_wf h.wf hq).1
    have hle2 := tPop_len hq
    clear hq
    go_wp2_with fail
    refine hc.mono ?_
    rintro e w3 ⟨rfl, sv3, h3, d3⟩
    have t3 := t2.trans d3
    have hx3 := hx2.tw ho2 d3
    have ho3 := (ho2.tw d3).1
    clear x0 x1 x2 x3 x4 x5 x6
    obtain ⟨x0, x1, x2, x3, x4, x5, x6⟩ := hx3.c
    have hpu := push1 h3 (t := 127) (v := 127) rfl (by omega)
    go_wp2_with fail
    refine hpu.mono ?_
    rintro e w4 ⟨rfl, sv4, h4, d4⟩
    go_wp2
    go_end0
    rw [e0.out]
    exact ⟨rfl, sv4, h4, t3.trans d4⟩
set_option maxRecDepth 100000 in
set_option maxHeartbeats 4000000 in
theorem memory_47 (h : Cx w0 N p c lv E w sv fv s) (a y n : Int) (v4 v5 v6 : Value) (hm0 : 0 < E.mems) (hle : a ≤ bytesV 47) (hb : s.st.length + 1 ≤ 1099511627776) :
    Calls Tryd.prog 53 #[.pointer (some ⟨p, 0, none⟩), insV 47 a y n v4 v5 v6] w (endT N p (.pointer (some ⟨c, 0, none⟩)) lv w sv fv (tMemory E 47 a s)) := by
  obtain ⟨w1, hw1, h1, hx1, ho1, t1⟩ := box_step h 47 a y n v4 v5 v6
  obtain ⟨ma, mk, hm⟩ := h1.env.mems
  unfold insV
  obtain ⟨B, hB⟩ : ∃ B, B = w.heap.size := ⟨_, rfl⟩
  obtain ⟨k0, k1, k2, k3, z2, z3'⟩ := h1.t.c
  obtain ⟨x0, x1, x2, x3, x4, x5, x6⟩ := hx1.c
  have e0 : tMemory E 47 a s = (tPop 127 s).bind fun q => .ok (tPush [127] q.2) := by
    unfold tMemory
    rw [if_pos hm0, if_pos hle]
    rfl
  generalize tMemory E 47 a s = X at e0 ⊢
  have hHY := fun w => Lib.hid (has_yes (show (0 : Int) < (E.mems : Int) by omega) w)
  have hBy := fun w => Lib.hid (bytes_any 47 w)
  generalize bytesV 47 = bv at hle hBy
  have hld : decide (a ≤ bv) = true := decide_eq_true hle
  replace e0 := Lib.hid e0
  clear hm0
  have hB2 : ∀ w, Calls Tryd.prog 62 #[.int .i64 47] w fun e w' => e = .returned (.int .i64 bv) ∧ w' = w := fun w => (hBy w).out.mono fun _ _ q => ⟨q.1, q.2.symm⟩
  have hW2 : ∀ w, Calls Tryd.prog 20 #[.bool true, .int .i64 60] w fun e w' => e = .returned (.tuple #[]) ∧ w' = w := fun w => (vwant_yes 60 w).mono fun _ _ q => ⟨q.1, q.2.symm⟩
  clear hBy
  go_enter Tryd.func53, Tryd.ntmps53
  go_upto_region 1 with (fail)
  rw [← hw1]
  rw [← hB] at x0 x1 x2 x3 x4 x5 x6 hx1 ho1 ⊢
  clear hw1 hB
  go_wp2_with fail
  refine ((hHY _).out).mono ?_
  rintro e w' ⟨rfl, rfl⟩
  go_wp2_with fail
  go_quiet (first | (go_at_call 62; exact Calls.quiet_of_same (hB2 _)) | (go_at_call 20; exact Calls.quiet_of_same (hW2 _)))
  have h2 := h1.step (below_drawn nq)
  have d2 : Tw p sv fv sv fv w1 (w1.drewN nq) := .of_below (below_drawn nq)
  have t2 := t1.trans d2
  have hx2 := hx1.tw ho1 d2
  have ho2 := (ho1.tw d2).1
  obtain ⟨w2, hw2⟩ : ∃ w2, w2 = w1.drewN nq := ⟨_, rfl⟩
  rw [← hw2] at h2 t2 d2 hx2 ho2 ⊢
  clear hw2 h1 d2 t1 hx1 ho1 hm hB2 hW2 k0 k1 k2 k3 z2 z3' x0 x1 x2 x3 x4 x5 x6
  obtain ⟨x0, x1, x2, x3, x4, x5, x6⟩ := hx2.c
  cases hq : tPop 127 s with
  | error m =>
    replace e0 := Lib.hid (e0.out.trans (by rw [hq]; rfl : _ = Except.error m))
    have hc := pop_er h2.t h.wf (.inr ⟨.inr rfl, rfl⟩) hq
    clear hq
    go_wp2_with fail
    refine hc.mono ?_
    rintro e wz ⟨rfl, svz, fvz, tz⟩
    go_wp2
    exact ⟨rfl, by rw [e0.out]; exact ⟨rfl, svz, fvz, t2.trans tz⟩⟩
  | ok q =>
    replace e0 := Lib.hid (e0.out.trans (by rw [hq]; rfl : _ = Except.ok (tPush [127] q.2)))
    have hc := pop_ok h2.t h.wf (.inr ⟨.inr rfl, rfl⟩) hq
    have hwq := (tPop_wf h.wf hq).1
    have hle2 := tPop_len hq
    clear hq
    go_wp2_with fail
    refine hc.mono ?_
    rintro e w3 ⟨rfl, sv3, h3, d3⟩
    have t3 := t2.trans d3
    have hx3 := hx2.tw ho2 d3
    have ho3 := (ho2.tw d3).1
    clear x0 x1 x2 x3 x4 x5 x6
    obtain ⟨x0, x1, x2, x3, x4, x5, x6⟩ := hx3.c
    have hpu := push1 h3 (t := 127) (v := 127) rfl (by omega)
    go_wp2_with fail
    refine hpu.mono ?_
    rintro e w4 ⟨rfl, sv4, h4, d4⟩
    go_wp2
    go_end0
    rw [e0.out]
    exact ⟨rfl, sv4, h4, t3.trans d4⟩
set_option maxRecDepth 100000 in
set_option maxHeartbeats 4000000 in
theorem memory_48 (h : Cx w0 N p c lv E w sv fv s) (a y n : Int) (v4 v5 v6 : Value) (hm0 : 0 < E.mems) (hle : a ≤ bytesV 48) (hb : s.st.length + 1 ≤ 1099511627776) :
    Calls Tryd.prog 53 #[.pointer (some ⟨p, 0, none⟩), insV 48 a y n v4 v5 v6] w (endT N p (.pointer (some ⟨c, 0, none⟩)) lv w sv fv (tMemory E 48 a s)) := by
  obtain ⟨w1, hw1, h1, hx1, ho1, t1⟩ := box_step h 48 a y n v4 v5 v6
  obtain ⟨ma, mk, hm⟩ := h1.env.mems
  unfold insV
  obtain ⟨B, hB⟩ : ∃ B, B = w.heap.size := ⟨_, rfl⟩
  obtain ⟨k0, k1, k2, k3, z2, z3'⟩ := h1.t.c
  obtain ⟨x0, x1, x2, x3, x4, x5, x6⟩ := hx1.c
  have e0 : tMemory E 48 a s = (tPop 127 s).bind fun q => .ok (tPush [126] q.2) := by
    unfold tMemory
    rw [if_pos hm0, if_pos hle]
    rfl
  generalize tMemory E 48 a s = X at e0 ⊢
  have hHY := fun w => Lib.hid (has_yes (show (0 : Int) < (E.mems : Int) by omega) w)
  have hBy := fun w => Lib.hid (bytes_any 48 w)
  generalize bytesV 48 = bv at hle hBy
  have hld : decide (a ≤ bv) = true := decide_eq_true hle
  replace e0 := Lib.hid e0
  clear hm0
  have hB2 : ∀ w, Calls Tryd.prog 62 #[.int .i64 48] w fun e w' => e = .returned (.int .i64 bv) ∧ w' = w := fun w => (hBy w).out.mono fun _ _ q => ⟨q.1, q.2.symm⟩
  have hW2 : ∀ w, Calls Tryd.prog 20 #[.bool true, .int .i64 60] w fun e w' => e = .returned (.tuple #[]) ∧ w' = w := fun w => (vwant_yes 60 w).mono fun _ _ q => ⟨q.1, q.2.symm⟩
  clear hBy
  go_enter Tryd.func53, Tryd.ntmps53
  go_upto_region 1 with (fail)
  rw [← hw1]
  rw [← hB] at x0 x1 x2 x3 x4 x5 x6 hx1 ho1 ⊢
  clear hw1 hB
  go_wp2_with fail
  refine ((hHY _).out).mono ?_
  rintro e w' ⟨rfl, rfl⟩
  go_wp2_with fail
  go_quiet (first | (go_at_call 62; exact Calls.quiet_of_same (hB2 _)) | (go_at_call 20; exact Calls.quiet_of_same (hW2 _)))
  have h2 := h1.step (below_drawn nq)
  have d2 : Tw p sv fv sv fv w1 (w1.drewN nq) := .of_below (below_drawn nq)
  have t2 := t1.trans d2
  have hx2 := hx1.tw ho1 d2
  have ho2 := (ho1.tw d2).1
  obtain ⟨w2, hw2⟩ : ∃ w2, w2 = w1.drewN nq := ⟨_, rfl⟩
  rw [← hw2] at h2 t2 d2 hx2 ho2 ⊢
  clear hw2 h1 d2 t1 hx1 ho1 hm hB2 hW2 k0 k1 k2 k3 z2 z3' x0 x1 x2 x3 x4 x5 x6
  obtain ⟨x0, x1, x2, x3, x4, x5, x6⟩ := hx2.c
  cases hq : tPop 127 s with
  | error m =>
    replace e0 := Lib.hid (e0.out.trans (by rw [hq]; rfl : _ = Except.error m))
    have hc := pop_er h2.t h.wf (.inr ⟨.inr rfl, rfl⟩) hq
    clear hq
    go_wp2_with fail
    refine hc.mono ?_
    rintro e wz ⟨rfl, svz, fvz, tz⟩
    go_wp2
    exact ⟨rfl, by rw [e0.out]; exact ⟨rfl, svz, fvz, t2.trans tz⟩⟩
  | ok q =>
    replace e0 := Lib.hid (e0.out.trans (by rw [hq]; rfl : _ = Except.ok (tPush [126] q.2)))
    have hc := pop_ok h2.t h.wf (.inr ⟨.inr rfl, rfl⟩) hq
    have hwq := (tPop_wf h.wf hq).1
    have hle2 := tPop_len hq
    clear hq
    go_wp2_with fail
    refine hc.mono ?_
    rintro e w3 ⟨rfl, sv3, h3, d3⟩
    have t3 := t2.trans d3
    have hx3 := hx2.tw ho2 d3
    have ho3 := (ho2.tw d3).1
    clear x0 x1 x2 x3 x4 x5 x6
    obtain ⟨x0, x1, x2, x3, x4, x5, x6⟩ := hx3.c
    have hpu := push1 h3 (t := 126) (v := 126) rfl (by omega)
    go_wp2_with fail
    refine hpu.mono ?_
    rintro e w4 ⟨rfl, sv4, h4, d4⟩
    go_wp2
    go_end0
    rw [e0.out]
    exact ⟨rfl, sv4, h4, t3.trans d4⟩
set_option maxRecDepth 100000 in
set_option maxHeartbeats 4000000 in
theorem memory_49 (h : Cx w0 N p c lv E w sv fv s) (a y n : Int) (v4 v5 v6 : Value) (hm0 : 0 < E.mems) (hle : a ≤ bytesV 49) (hb : s.st.length + 1 ≤ 1099511627776) :
    Calls Tryd.prog 53 #[.pointer (some ⟨p, 0, none⟩), insV 49 a y n v4 v5 v6] w (endT N p (.pointer (some ⟨c, 0, none⟩)) lv w sv fv (tMemory E 49 a s)) := by
  obtain ⟨w1, hw1, h1, hx1, ho1, t1⟩ := box_step h 49 a y n v4 v5 v6
  obtain ⟨ma, mk, hm⟩ := h1.env.mems
  unfold insV
  obtain ⟨B, hB⟩ : ∃ B, B = w.heap.size := ⟨_, rfl⟩
  obtain ⟨k0, k1, k2, k3, z2, z3'⟩ := h1.t.c
  obtain ⟨x0, x1, x2, x3, x4, x5, x6⟩ := hx1.c
  have e0 : tMemory E 49 a s = (tPop 127 s).bind fun q => .ok (tPush [126] q.2) := by
    unfold tMemory
    rw [if_pos hm0, if_pos hle]
    rfl
  generalize tMemory E 49 a s = X at e0 ⊢
  have hHY := fun w => Lib.hid (has_yes (show (0 : Int) < (E.mems : Int) by omega) w)
  have hBy := fun w => Lib.hid (bytes_any 49 w)
  generalize bytesV 49 = bv at hle hBy
  have hld : decide (a ≤ bv) = true := decide_eq_true hle
  replace e0 := Lib.hid e0
  clear hm0
  have hB2 : ∀ w, Calls Tryd.prog 62 #[.int .i64 49] w fun e w' => e = .returned (.int .i64 bv) ∧ w' = w := fun w => (hBy w).out.mono fun _ _ q => ⟨q.1, q.2.symm⟩
  have hW2 : ∀ w, Calls Tryd.prog 20 #[.bool true, .int .i64 60] w fun e w' => e = .returned (.tuple #[]) ∧ w' = w := fun w => (vwant_yes 60 w).mono fun _ _ q => ⟨q.1, q.2.symm⟩
  clear hBy
  go_enter Tryd.func53, Tryd.ntmps53
  go_upto_region 1 with (fail)
  rw [← hw1]
  rw [← hB] at x0 x1 x2 x3 x4 x5 x6 hx1 ho1 ⊢
  clear hw1 hB
  go_wp2_with fail
  refine ((hHY _).out).mono ?_
  rintro e w' ⟨rfl, rfl⟩
  go_wp2_with fail
  go_quiet (first | (go_at_call 62; exact Calls.quiet_of_same (hB2 _)) | (go_at_call 20; exact Calls.quiet_of_same (hW2 _)))
  have h2 := h1.step (below_drawn nq)
  have d2 : Tw p sv fv sv fv w1 (w1.drewN nq) := .of_below (below_drawn nq)
  have t2 := t1.trans d2
  have hx2 := hx1.tw ho1 d2
  have ho2 := (ho1.tw d2).1
  obtain ⟨w2, hw2⟩ : ∃ w2, w2 = w1.drewN nq := ⟨_, rfl⟩
  rw [← hw2] at h2 t2 d2 hx2 ho2 ⊢
  clear hw2 h1 d2 t1 hx1 ho1 hm hB2 hW2 k0 k1 k2 k3 z2 z3' x0 x1 x2 x3 x4 x5 x6
  obtain ⟨x0, x1, x2, x3, x4, x5, x6⟩ := hx2.c
  cases hq : tPop 127 s with
  | error m =>
    replace e0 := Lib.hid (e0.out.trans (by rw [hq]; rfl : _ = Except.error m))
    have hc := pop_er h2.t h.wf (.inr ⟨.inr rfl, rfl⟩) hq
    clear hq
    go_wp2_with fail
    refine hc.mono ?_
    rintro e wz ⟨rfl, svz, fvz, tz⟩
    go_wp2
    exact ⟨rfl, by rw [e0.out]; exact ⟨rfl, svz, fvz, t2.trans tz⟩⟩
  | ok q =>
    replace e0 := Lib.hid (e0.out.trans (by rw [hq]; rfl : _ = Except.ok (tPush [126] q.2)))
    have hc := pop_ok h2.t h.wf (.inr ⟨.inr rfl, rfl⟩) hq
    have hwq := (tPop_wf h.wf hq).1
    have hle2 := tPop_len hq
    clear hq
    go_wp2_with fail
    refine hc.mono ?_
    rintro e w3 ⟨rfl, sv3, h3, d3⟩
    have t3 := t2.trans d3
    have hx3 := hx2.tw ho2 d3
    have ho3 := (ho2.tw d3).1
    clear x0 x1 x2 x3 x4 x5 x6
    obtain ⟨x0, x1, x2, x3, x4, x5, x6⟩ := hx3.c
    have hpu := push1 h3 (t := 126) (v := 126) rfl (by omega)
    go_wp2_with fail
    refine hpu.mono ?_
    rintro e w4 ⟨rfl, sv4, h4, d4⟩
    go_wp2
    go_end0
    rw [e0.out]
    exact ⟨rfl, sv4, h4, t3.trans d4⟩
set_option maxRecDepth 100000 in
set_option maxHeartbeats 4000000 in
theorem memory_50 (h : Cx w0 N p c lv E w sv fv s) (a y n : Int) (v4 v5 v6 : Value) (hm0 : 0 < E.mems) (hle : a ≤ bytesV 50) (hb : s.st.length + 1 ≤ 1099511627776) :
    Calls Tryd.prog 53 #[.pointer (some ⟨p, 0, none⟩), insV 50 a y n v4 v5 v6] w (endT N p (.pointer (some ⟨c, 0, none⟩)) lv w sv fv (tMemory E 50 a s)) := by
  obtain ⟨w1, hw1, h1, hx1, ho1, t1⟩ := box_step h 50 a y n v4 v5 v6
  obtain ⟨ma, mk, hm⟩ := h1.env.mems
  unfold insV
  obtain ⟨B, hB⟩ : ∃ B, B = w.heap.size := ⟨_, rfl⟩
  obtain ⟨k0, k1, k2, k3, z2, z3'⟩ := h1.t.c
  obtain ⟨x0, x1, x2, x3, x4, x5, x6⟩ := hx1.c
  have e0 : tMemory E 50 a s = (tPop 127 s).bind fun q => .ok (tPush [126] q.2) := by
    unfold tMemory
    rw [if_pos hm0, if_pos hle]
    rfl
  generalize tMemory E 50 a s = X at e0 ⊢
  have hHY := fun w => Lib.hid (has_yes (show (0 : Int) < (E.mems : Int) by omega) w)
  have hBy := fun w => Lib.hid (bytes_any 50 w)
  generalize bytesV 50 = bv at hle hBy
  have hld : decide (a ≤ bv) = true := decide_eq_true hle
  replace e0 := Lib.hid e0
  clear hm0
  have hB2 : ∀ w, Calls Tryd.prog 62 #[.int .i64 50] w fun e w' => e = .returned (.int .i64 bv) ∧ w' = w := fun w => (hBy w).out.mono fun _ _ q => ⟨q.1, q.2.symm⟩
  have hW2 : ∀ w, Calls Tryd.prog 20 #[.bool true, .int .i64 60] w fun e w' => e = .returned (.tuple #[]) ∧ w' = w := fun w => (vwant_yes 60 w).mono fun _ _ q => ⟨q.1, q.2.symm⟩
  clear hBy
  go_enter Tryd.func53, Tryd.ntmps53
  go_upto_region 1 with (fail)
  rw [← hw1]
  rw [← hB] at x0 x1 x2 x3 x4 x5 x6 hx1 ho1 ⊢
  clear hw1 hB
  go_wp2_with fail
  refine ((hHY _).out).mono ?_
  rintro e w' ⟨rfl, rfl⟩
  go_wp2_with fail
  go_quiet (first | (go_at_call 62; exact Calls.quiet_of_same (hB2 _)) | (go_at_call 20; exact Calls.quiet_of_same (hW2 _)))
  have h2 := h1.step (below_drawn nq)
  have d2 : Tw p sv fv sv fv w1 (w1.drewN nq) := .of_below (below_drawn nq)
  have t2 := t1.trans d2
  have hx2 := hx1.tw ho1 d2
  have ho2 := (ho1.tw d2).1
  obtain ⟨w2, hw2⟩ : ∃ w2, w2 = w1.drewN nq := ⟨_, rfl⟩
  rw [← hw2] at h2 t2 d2 hx2 ho2 ⊢
  clear hw2 h1 d2 t1 hx1 ho1 hm hB2 hW2 k0 k1 k2 k3 z2 z3' x0 x1 x2 x3 x4 x5 x6
  obtain ⟨x0, x1, x2, x3, x4, x5, x6⟩ := hx2.c
  cases hq : tPop 127 s with
  | error m =>
    replace e0 := Lib.hid (e0.out.trans (by rw [hq]; rfl : _ = Except.error m))
    have hc := pop_er h2.t h.wf (.inr ⟨.inr rfl, rfl⟩) hq
    clear hq
    go_wp2_with fail
    refine hc.mono ?_
    rintro e wz ⟨rfl, svz, fvz, tz⟩
    go_wp2
    exact ⟨rfl, by rw [e0.out]; exact ⟨rfl, svz, fvz, t2.trans tz⟩⟩
  | ok q =>
    replace e0 := Lib.hid (e0.out.trans (by rw [hq]; rfl : _ = Except.ok (tPush [126] q.2)))
    have hc := pop_ok h2.t h.wf (.inr ⟨.inr rfl, rfl⟩) hq
    have hwq := (tPop_wf h.wf hq).1
    have hle2 := tPop_len hq
    clear hq
    go_wp2_with fail
    refine hc.mono ?_
    rintro e w3 ⟨rfl, sv3, h3, d3⟩
    have t3 := t2.trans d3
    have hx3 := hx2.tw ho2 d3
    have ho3 := (ho2.tw d3).1
    clear x0 x1 x2 x3 x4 x5 x6
    obtain ⟨x0, x1, x2, x3, x4, x5, x6⟩ := hx3.c
    have hpu := push1 h3 (t := 126) (v := 126) rfl (by omega)
    go_wp2_with fail
    refine hpu.mono ?_
    rintro e w4 ⟨rfl, sv4, h4, d4⟩
    go_wp2
    go_end0
    rw [e0.out]
    exact ⟨rfl, sv4, h4, t3.trans d4⟩
set_option maxRecDepth 100000 in
set_option maxHeartbeats 4000000 in
theorem memory_51 (h : Cx w0 N p c lv E w sv fv s) (a y n : Int) (v4 v5 v6 : Value) (hm0 : 0 < E.mems) (hle : a ≤ bytesV 51) (hb : s.st.length + 1 ≤ 1099511627776) :
    Calls Tryd.prog 53 #[.pointer (some ⟨p, 0, none⟩), insV 51 a y n v4 v5 v6] w (endT N p (.pointer (some ⟨c, 0, none⟩)) lv w sv fv (tMemory E 51 a s)) := by
  obtain ⟨w1, hw1, h1, hx1, ho1, t1⟩ := box_step h 51 a y n v4 v5 v6
  obtain ⟨ma, mk, hm⟩ := h1.env.mems
  unfold insV
  obtain ⟨B, hB⟩ : ∃ B, B = w.heap.size := ⟨_, rfl⟩
  obtain ⟨k0, k1, k2, k3, z2, z3'⟩ := h1.t.c
  obtain ⟨x0, x1, x2, x3, x4, x5, x6⟩ := hx1.c
  have e0 : tMemory E 51 a s = (tPop 127 s).bind fun q => .ok (tPush [126] q.2) := by
    unfold tMemory
    rw [if_pos hm0, if_pos hle]
    rfl
  generalize tMemory E 51 a s = X at e0 ⊢
  have hHY := fun w => Lib.hid (has_yes (show (0 : Int) < (E.mems : Int) by omega) w)
  have hBy := fun w => Lib.hid (bytes_any 51 w)
  generalize bytesV 51 = bv at hle hBy
  have hld : decide (a ≤ bv) = true := decide_eq_true hle
  replace e0 := Lib.hid e0
  clear hm0
  have hB2 : ∀ w, Calls Tryd.prog 62 #[.int .i64 51] w fun e w' => e = .returned (.int .i64 bv) ∧ w' = w := fun w => (hBy w).out.mono fun _ _ q => ⟨q.1, q.2.symm⟩
  have hW2 : ∀ w, Calls Tryd.prog 20 #[.bool true, .int .i64 60] w fun e w' => e = .returned (.tuple #[]) ∧ w' = w := fun w => (vwant_yes 60 w).mono fun _ _ q => ⟨q.1, q.2.symm⟩
  clear hBy
  go_enter Tryd.func53, Tryd.ntmps53
  go_upto_region 1 with (fail)
  rw [← hw1]
  rw [← hB] at x0 x1 x2 x3 x4 x5 x6 hx1 ho1 ⊢
  clear hw1 hB
  go_wp2_with fail
  refine ((hHY _).out).mono ?_
  rintro e w' ⟨rfl, rfl⟩
  go_wp2_with fail
  go_quiet (first | (go_at_call 62; exact Calls.quiet_of_same (hB2 _)) | (go_at_call 20; exact Calls.quiet_of_same (hW2 _)))
  have h2 := h1.step (below_drawn nq)
  have d2 : Tw p sv fv sv fv w1 (w1.drewN nq) := .of_below (below_drawn nq)
  have t2 := t1.trans d2
  have hx2 := hx1.tw ho1 d2
  have ho2 := (ho1.tw d2).1
  obtain ⟨w2, hw2⟩ : ∃ w2, w2 = w1.drewN nq := ⟨_, rfl⟩
  rw [← hw2] at h2 t2 d2 hx2 ho2 ⊢
  clear hw2 h1 d2 t1 hx1 ho1 hm hB2 hW2 k0 k1 k2 k3 z2 z3' x0 x1 x2 x3 x4 x5 x6
  obtain ⟨x0, x1, x2, x3, x4, x5, x6⟩ := hx2.c
  cases hq : tPop 127 s with
  | error m =>
    replace e0 := Lib.hid (e0.out.trans (by rw [hq]; rfl : _ = Except.error m))
    have hc := pop_er h2.t h.wf (.inr ⟨.inr rfl, rfl⟩) hq
    clear hq
    go_wp2_with fail
    refine hc.mono ?_
    rintro e wz ⟨rfl, svz, fvz, tz⟩
    go_wp2
    exact ⟨rfl, by rw [e0.out]; exact ⟨rfl, svz, fvz, t2.trans tz⟩⟩
  | ok q =>
    replace e0 := Lib.hid (e0.out.trans (by rw [hq]; rfl : _ = Except.ok (tPush [126] q.2)))
    have hc := pop_ok h2.t h.wf (.inr ⟨.inr rfl, rfl⟩) hq
    have hwq := (tPop_wf h.wf hq).1
    have hle2 := tPop_len hq
    clear hq
    go_wp2_with fail
    refine hc.mono ?_
    rintro e w3 ⟨rfl, sv3, h3, d3⟩
    have t3 := t2.trans d3
    have hx3 := hx2.tw ho2 d3
    have ho3 := (ho2.tw d3).1
    clear x0 x1 x2 x3 x4 x5 x6
    obtain ⟨x0, x1, x2, x3, x4, x5, x6⟩ := hx3.c
    have hpu := push1 h3 (t := 126) (v := 126) rfl (by omega)
    go_wp2_with fail
    refine hpu.mono ?_
    rintro e w4 ⟨rfl, sv4, h4, d4⟩
    go_wp2
    go_end0
    rw [e0.out]
    exact ⟨rfl, sv4, h4, t3.trans d4⟩
set_option maxRecDepth 100000 in
set_option maxHeartbeats 4000000 in
theorem memory_52 (h : Cx w0 N p c lv E w sv fv s) (a y n : Int) (v4 v5 v6 : Value) (hm0 : 0 < E.mems) (hle : a ≤ bytesV 52) (hb : s.st.length + 1 ≤ 1099511627776) :
    Calls Tryd.prog 53 #[.pointer (some ⟨p, 0, none⟩), insV 52 a y n v4 v5 v6] w (endT N p (.pointer (some ⟨c, 0, none⟩)) lv w sv fv (tMemory E 52 a s)) := by
  obtain ⟨w1, hw1, h1, hx1, ho1, t1⟩ := box_step h 52 a y n v4 v5 v6
  obtain ⟨ma, mk, hm⟩ := h1.env.mems
  unfold insV
  obtain ⟨B, hB⟩ : ∃ B, B = w.heap.size := ⟨_, rfl⟩
  obtain ⟨k0, k1, k2, k3, z2, z3'⟩ := h1.t.c
  obtain ⟨x0, x1, x2, x3, x4, x5, x6⟩ := hx1.c
  have e0 : tMemory E 52 a s = (tPop 127 s).bind fun q => .ok (tPush [126] q.2) := by
    unfold tMemory
    rw [if_pos hm0, if_pos hle]
    rfl
  generalize tMemory E 52 a s = X at e0 ⊢
  have hHY := fun w => Lib.hid (has_yes (show (0 : Int) < (E.mems : Int) by omega) w)
  have hBy := fun w => Lib.hid (bytes_any 52 w)
  generalize bytesV 52 = bv at hle hBy
  have hld : decide (a ≤ bv) = true := decide_eq_true hle
  replace e0 := Lib.hid e0
  clear hm0
  have hB2 : ∀ w, Calls Tryd.prog 62 #[.int .i64 52] w fun e w' => e = .returned (.int .i64 bv) ∧ w' = w := fun w => (hBy w).out.mono fun _ _ q => ⟨q.1, q.2.symm⟩
  have hW2 : ∀ w, Calls Tryd.prog 20 #[.bool true, .int .i64 60] w fun e w' => e = .returned (.tuple #[]) ∧ w' = w := fun w => (vwant_yes 60 w).mono fun _ _ q => ⟨q.1, q.2.symm⟩
  clear hBy
  go_enter Tryd.func53, Tryd.ntmps53
  go_upto_region 1 with (fail)
  rw [← hw1]
  rw [← hB] at x0 x1 x2 x3 x4 x5 x6 hx1 ho1 ⊢
  clear hw1 hB
  go_wp2_with fail
  refine ((hHY _).out).mono ?_
  rintro e w' ⟨rfl, rfl⟩
  go_wp2_with fail
  go_quiet (first | (go_at_call 62; exact Calls.quiet_of_same (hB2 _)) | (go_at_call 20; exact Calls.quiet_of_same (hW2 _)))
  have h2 := h1.step (below_drawn nq)
  have d2 : Tw p sv fv sv fv w1 (w1.drewN nq) := .of_below (below_drawn nq)
  have t2 := t1.trans d2
  have hx2 := hx1.tw ho1 d2
  have ho2 := (ho1.tw d2).1
  obtain ⟨w2, hw2⟩ : ∃ w2, w2 = w1.drewN nq := ⟨_, rfl⟩
  rw [← hw2] at h2 t2 d2 hx2 ho2 ⊢
  clear hw2 h1 d2 t1 hx1 ho1 hm hB2 hW2 k0 k1 k2 k3 z2 z3' x0 x1 x2 x3 x4 x5 x6
  obtain ⟨x0, x1, x2, x3, x4, x5, x6⟩ := hx2.c
  cases hq : tPop 127 s with
  | error m =>
    replace e0 := Lib.hid (e0.out.trans (by rw [hq]; rfl : _ = Except.error m))
    have hc := pop_er h2.t h.wf (.inr ⟨.inr rfl, rfl⟩) hq
    clear hq
    go_wp2_with fail
    refine hc.mono ?_
    rintro e wz ⟨rfl, svz, fvz, tz⟩
    go_wp2
    exact ⟨rfl, by rw [e0.out]; exact ⟨rfl, svz, fvz, t2.trans tz⟩⟩
  | ok q =>
    replace e0 := Lib.hid (e0.out.trans (by rw [hq]; rfl : _ = Except.ok (tPush [126] q.2)))
    have hc := pop_ok h2.t h.wf (.inr ⟨.inr rfl, rfl⟩) hq
    have hwq := (tPop_wf h.wf hq).1
    have hle2 := tPop_len hq
    clear hq
    go_wp2_with fail
    refine hc.mono ?_
    rintro e w3 ⟨rfl, sv3, h3, d3⟩
    have t3 := t2.trans d3
    have hx3 := hx2.tw ho2 d3
    have ho3 := (ho2.tw d3).1
    clear x0 x1 x2 x3 x4 x5 x6
    obtain ⟨x0, x1, x2, x3, x4, x5, x6⟩ := hx3.c
    have hpu := push1 h3 (t := 126) (v := 126) rfl (by omega)
    go_wp2_with fail
    refine hpu.mono ?_
    rintro e w4 ⟨rfl, sv4, h4, d4⟩
    go_wp2
    go_end0
    rw [e0.out]
    exact ⟨rfl, sv4, h4, t3.trans d4⟩
set_option maxRecDepth 100000 in
set_option maxHeartbeats 4000000 in
theorem memory_53 (h : Cx w0 N p c lv E w sv fv s) (a y n : Int) (v4 v5 v6 : Value) (hm0 : 0 < E.mems) (hle : a ≤ bytesV 53) (hb : s.st.length + 1 ≤ 1099511627776) :
    Calls Tryd.prog 53 #[.pointer (some ⟨p, 0, none⟩), insV 53 a y n v4 v5 v6] w (endT N p (.pointer (some ⟨c, 0, none⟩)) lv w sv fv (tMemory E 53 a s)) := by
  obtain ⟨w1, hw1, h1, hx1, ho1, t1⟩ := box_step h 53 a y n v4 v5 v6
  obtain ⟨ma, mk, hm⟩ := h1.env.mems
  unfold insV
  obtain ⟨B, hB⟩ : ∃ B, B = w.heap.size := ⟨_, rfl⟩
  obtain ⟨k0, k1, k2, k3, z2, z3'⟩ := h1.t.c
  obtain ⟨x0, x1, x2, x3, x4, x5, x6⟩ := hx1.c
  have e0 : tMemory E 53 a s = (tPop 127 s).bind fun q => .ok (tPush [126] q.2) := by
    unfold tMemory
    rw [if_pos hm0, if_pos hle]
    rfl
  generalize tMemory E 53 a s = X at e0 ⊢
  have hHY := fun w => Lib.hid (has_yes (show (0 : Int) < (E.mems : Int) by omega) w)
  have hBy := fun w => Lib.hid (bytes_any 53 w)
  generalize bytesV 53 = bv at hle hBy
  have hld : decide (a ≤ bv) = true := decide_eq_true hle
  replace e0 := Lib.hid e0
  clear hm0
  have hB2 : ∀ w, Calls Tryd.prog 62 #[.int .i64 53] w fun e w' => e = .returned (.int .i64 bv) ∧ w' = w := fun w => (hBy w).out.mono fun _ _ q => ⟨q.1, q.2.symm⟩
  have hW2 : ∀ w, Calls Tryd.prog 20 #[.bool true, .int .i64 60] w fun e w' => e = .returned (.tuple #[]) ∧ w' = w := fun w => (vwant_yes 60 w).mono fun _ _ q => ⟨q.1, q.2.symm⟩
  clear hBy
  go_enter Tryd.func53, Tryd.ntmps53
  go_upto_region 1 with (fail)
  rw [← hw1]
  rw [← hB] at x0 x1 x2 x3 x4 x5 x6 hx1 ho1 ⊢
  clear hw1 hB
  go_wp2_with fail
  refine ((hHY _).out).mono ?_
  rintro e w' ⟨rfl, rfl⟩
  go_wp2_with fail
  go_quiet (first | (go_at_call 62; exact Calls.quiet_of_same (hB2 _)) | (go_at_call 20; exact Calls.quiet_of_same (hW2 _)))
  have h2 := h1.step (below_drawn nq)
  have d2 : Tw p sv fv sv fv w1 (w1.drewN nq) := .of_below (below_drawn nq)
  have t2 := t1.trans d2
  have hx2 := hx1.tw ho1 d2
  have ho2 := (ho1.tw d2).1
  obtain ⟨w2, hw2⟩ : ∃ w2, w2 = w1.drewN nq := ⟨_, rfl⟩
  rw [← hw2] at h2 t2 d2 hx2 ho2 ⊢
  clear hw2 h1 d2 t1 hx1 ho1 hm hB2 hW2 k0 k1 k2 k3 z2 z3' x0 x1 x2 x3 x4 x5 x6
  obtain ⟨x0, x1, x2, x3, x4, x5, x6⟩ := hx2.c
  cases hq : tPop 127 s with
  | error m =>
    replace e0 := Lib.hid (e0.out.trans (by rw [hq]; rfl : _ = Except.error m))
    have hc := pop_er h2.t h.wf (.inr ⟨.inr rfl, rfl⟩) hq
    clear hq
    go_wp2_with fail
    refine hc.mono ?_
    rintro e wz ⟨rfl, svz, fvz, tz⟩
    go_wp2
    exact ⟨rfl, by rw [e0.out]; exact ⟨rfl, svz, fvz, t2.trans tz⟩⟩
  | ok q =>
    replace e0 := Lib.hid (e0.out.trans (by rw [hq]; rfl : _ = Except.ok (tPush [126] q.2)))
    have hc := pop_ok h2.t h.wf (.inr ⟨.inr rfl, rfl⟩) hq
    have hwq := (tPop_wf h.wf hq).1
    have hle2 := tPop_len hq
    clear hq
    go_wp2_with fail
    refine hc.mono ?_
    rintro e w3 ⟨rfl, sv3, h3, d3⟩
    have t3 := t2.trans d3
    have hx3 := hx2.tw ho2 d3
    have ho3 := (ho2.tw d3).1
    clear x0 x1 x2 x3 x4 x5 x6
    obtain ⟨x0, x1, x2, x3, x4, x5, x6⟩ := hx3.c
    have hpu := push1 h3 (t := 126) (v := 126) rfl (by omega)
    go_wp2_with fail
    refine hpu.mono ?_
    rintro e w4 ⟨rfl, sv4, h4, d4⟩
    go_wp2
    go_end0
    rw [e0.out]
    exact ⟨rfl, sv4, h4, t3.trans d4⟩
set_option maxRecDepth 100000 in
set_option maxHeartbeats 4000000 in
theorem memory_54 (h : Cx w0 N p c lv E w sv fv s) (a y n : Int) (v4 v5 v6 : Value) (hm0 : 0 < E.mems) (hle : a ≤ bytesV 54) (hb : s.st.length + 1 ≤ 1099511627776) :
    Calls Tryd.prog 53 #[.pointer (some ⟨p, 0, none⟩), insV 54 a y n v4 v5 v6] w (endT N p (.pointer (some ⟨c, 0, none⟩)) lv w sv fv (tMemory E 54 a s)) := by
  obtain ⟨w1, hw1, h1, hx1, ho1, t1⟩ := box_step h 54 a y n v4 v5 v6
  obtain ⟨ma, mk, hm⟩ := h1.env.mems
  unfold insV
  obtain ⟨B, hB⟩ : ∃ B, B = w.heap.size := ⟨_, rfl⟩
  obtain ⟨k0, k1, k2, k3, z2, z3'⟩ := h1.t.c
  obtain ⟨x0, x1, x2, x3, x4, x5, x6⟩ := hx1.c
  have e0 : tMemory E 54 a s = (tPop 127 s).bind fun q => (tPop 127 q.2).bind fun r => .ok r.2 := by
    unfold tMemory
    rw [if_pos hm0, if_pos hle]
    show ((tPop 127 s).bind fun q => .ok q.2).bind _ = _; cases tPop 127 s <;> rfl
  generalize tMemory E 54 a s = X at e0 ⊢
  have hHY := fun w => Lib.hid (has_yes (show (0 : Int) < (E.mems : Int) by omega) w)
  have hBy := fun w => Lib.hid (bytes_any 54 w)
  generalize bytesV 54 = bv at hle hBy
  have hld : decide (a ≤ bv) = true := decide_eq_true hle
  replace e0 := Lib.hid e0
  clear hm0
  have hB2 : ∀ w, Calls Tryd.prog 62 #[.int .i64 54] w fun e w' => e = .returned (.int .i64 bv) ∧ w' = w := fun w => (hBy w).out.mono fun _ _ q => ⟨q.1, q.2.symm⟩
  have hW2 : ∀ w, Calls Tryd.prog 20 #[.bool true, .int .i64 60] w fun e w' => e = .returned (.tuple #[]) ∧ w' = w := fun w => (vwant_yes 60 w).mono fun _ _ q => ⟨q.1, q.2.symm⟩
  clear hBy
  go_enter Tryd.func53, Tryd.ntmps53
  go_upto_region 1 with (fail)
  rw [← hw1]
  rw [← hB] at x0 x1 x2 x3 x4 x5 x6 hx1 ho1 ⊢
  clear hw1 hB
  go_wp2_with fail
  refine ((hHY _).out).mono ?_
  rintro e w' ⟨rfl, rfl⟩
  go_wp2_with fail
  go_quiet (first | (go_at_call 62; exact Calls.quiet_of_same (hB2 _)) | (go_at_call 20; exact Calls.quiet_of_same (hW2 _)))
  have h2 := h1.step (below_drawn nq)
  have d2 : Tw p sv fv sv fv w1 (w1.drewN nq) := .of_below (below_drawn nq)
  have t2 := t1.trans d2
  have hx2 := hx1.tw ho1 d2
  have ho2 := (ho1.tw d2).1
  obtain ⟨w2, hw2⟩ : ∃ w2, w2 = w1.drewN nq := ⟨_, rfl⟩
  rw [← hw2] at h2 t2 d2 hx2 ho2 ⊢
  clear hw2 h1 d2 t1 hx1 ho1 hm hB2 hW2 k0 k1 k2 k3 z2 z3' x0 x1 x2 x3 x4 x5 x6
  obtain ⟨x0, x1, x2, x3, x4, x5, x6⟩ := hx2.c
  cases hq : tPop 127 s with
  | error m =>
    replace e0 := Lib.hid (e0.out.trans (by rw [hq]; rfl : _ = Except.error m))
    have hc := pop_er h2.t h.wf (.inr ⟨.inr rfl, rfl⟩) hq
    clear hq
    go_wp2_with fail
    refine hc.mono ?_
    rintro e wz ⟨rfl, svz, fvz, tz⟩
    go_wp2
    exact ⟨rfl, by rw [e0.out]; exact ⟨rfl, svz, fvz, t2.trans tz⟩⟩
  | ok q =>
    replace e0 := Lib.hid (e0.out.trans (by rw [hq]; rfl : _ = (tPop 127 q.2).bind fun r => .ok r.2))
    have hc := pop_ok h2.t h.wf (.inr ⟨.inr rfl, rfl⟩) hq
    have hwq := (tPop_wf h.wf hq).1
    have hle2 := tPop_len hq
    clear hq
    go_wp2_with fail
    refine hc.mono ?_
    rintro e w3 ⟨rfl, sv3, h3, d3⟩
    have t3 := t2.trans d3
    have hx3 := hx2.tw ho2 d3
    have ho3 := (ho2.tw d3).1
    clear x0 x1 x2 x3 x4 x5 x6
    obtain ⟨x0, x1, x2, x3, x4, x5, x6⟩ := hx3.c
    cases hq : tPop 127 q.2 with
    | error m =>
      replace e0 := Lib.hid (e0.out.trans (by rw [hq]; rfl : _ = Except.error m))
      have hc := pop_er h3 hwq (.inr ⟨.inr rfl, rfl⟩) hq
      clear hq
      go_wp2_with fail
      refine hc.mono ?_
      rintro e wz ⟨rfl, svz, fvz, tz⟩
      go_wp2
      exact ⟨rfl, by rw [e0.out]; exact ⟨rfl, svz, fvz, t3.trans tz⟩⟩
    | ok r =>
      replace e0 := Lib.hid (e0.out.trans (by rw [hq]; rfl : _ = Except.ok r.2))
      have hc := pop_ok h3 hwq (.inr ⟨.inr rfl, rfl⟩) hq
      clear hq
      go_wp2_with fail
      refine hc.mono ?_
      rintro e w4 ⟨rfl, sv4, h4, d4⟩
      have hx4 := hx3.tw ho3 d4
      clear x0 x1 x2 x3 x4 x5 x6
      obtain ⟨x0, x1, x2, x3, x4, x5, x6⟩ := hx4.c
      go_wp2
      go_end0
      rw [e0.out]
      exact ⟨rfl, sv4, h4, t3.trans d4⟩
set_option maxRecDepth 100000 in
set_option maxHeartbeats 4000000 in
theorem memory_55 (h : Cx w0 N p c lv E w sv fv s) (a y n : Int) (v4 v5 v6 : Value) (hm0 : 0 < E.mems) (hle : a ≤ bytesV 55) (hb : s.st.length + 1 ≤ 1099511627776) :
    Calls Tryd.prog 53 #[.pointer (some ⟨p, 0, none⟩), insV 55 a y n v4 v5 v6] w (endT N p (.pointer (some ⟨c, 0, none⟩)) lv w sv fv (tMemory E 55 a s)) := by
  obtain ⟨w1, hw1, h1, hx1, ho1, t1⟩ := box_step h 55 a y n v4 v5 v6
  obtain ⟨ma, mk, hm⟩ := h1.env.mems
  unfold insV
  obtain ⟨B, hB⟩ : ∃ B, B = w.heap.size := ⟨_, rfl⟩
  obtain ⟨k0, k1, k2, k3, z2, z3'⟩ := h1.t.c
  obtain ⟨x0, x1, x2, x3, x4, x5, x6⟩ := hx1.c
  have e0 : tMemory E 55 a s = (tPop 126 s).bind fun q => (tPop 127 q.2).bind fun r => .ok r.2 := by
    unfold tMemory
    rw [if_pos hm0, if_pos hle]
    show ((tPop 126 s).bind fun q => .ok q.2).bind _ = _; cases tPop 126 s <;> rfl
  generalize tMemory E 55 a s = X at e0 ⊢
  have hHY := fun w => Lib.hid (has_yes (show (0 : Int) < (E.mems : Int) by omega) w)
  have hBy := fun w => Lib.hid (bytes_any 55 w)
  generalize bytesV 55 = bv at hle hBy
  have hld : decide (a ≤ bv) = true := decide_eq_true hle
  replace e0 := Lib.hid e0
  clear hm0
  have hB2 : ∀ w, Calls Tryd.prog 62 #[.int .i64 55] w fun e w' => e = .returned (.int .i64 bv) ∧ w' = w := fun w => (hBy w).out.mono fun _ _ q => ⟨q.1, q.2.symm⟩
  have hW2 : ∀ w, Calls Tryd.prog 20 #[.bool true, .int .i64 60] w fun e w' => e = .returned (.tuple #[]) ∧ w' = w := fun w => (vwant_yes 60 w).mono fun _ _ q => ⟨q.1, q.2.symm⟩
  clear hBy
  go_enter Tryd.func53, Tryd.ntmps53
  go_upto_region 1 with (fail)
  rw [← hw1]
  rw [← hB] at x0 x1 x2 x3 x4 x5 x6 hx1 ho1 ⊢
  clear hw1 hB
  go_wp2_with fail
  refine ((hHY _).out).mono ?_
  rintro e w' ⟨rfl, rfl⟩
  go_wp2_with fail
  go_quiet (first | (go_at_call 62; exact Calls.quiet_of_same (hB2 _)) | (go_at_call 20; exact Calls.quiet_of_same (hW2 _)))
  have h2 := h1.step (below_drawn nq)
  have d2 : Tw p sv fv sv fv w1 (w1.drewN nq) := .of_below (below_drawn nq)
  have t2 := t1.trans d2
  have hx2 := hx1.tw ho1 d2
  have ho2 := (ho1.tw d2).1
  obtain ⟨w2, hw2⟩ : ∃ w2, w2 = w1.drewN nq := ⟨_, rfl⟩
  rw [← hw2] at h2 t2 d2 hx2 ho2 ⊢
  clear hw2 h1 d2 t1 hx1 ho1 hm hB2 hW2 k0 k1 k2 k3 z2 z3' x0 x1 x2 x3 x4 x5 x6
  obtain ⟨x0, x1, x2, x3, x4, x5, x6⟩ := hx2.c
  cases hq : tPop 126 s with
  | error m =>
    replace e0 := Lib.hid (e0.out.trans (by rw [hq]; rfl : _ = Except.error m))
    have hc := pop_er h2.t h.wf (.inr ⟨.inl rfl, rfl⟩) hq
    clear hq
    go_wp2_with fail
    refine hc.mono ?_
    rintro e wz ⟨rfl, svz, fvz, tz⟩
    go_wp2
    exact ⟨rfl, by rw [e0.out]; exact ⟨rfl, svz, fvz, t2.trans tz⟩⟩
  | ok q =>
    replace e0 := Lib.hid (e0.out.trans (by rw [hq]; rfl : _ = (tPop 127 q.2).bind fun r => .ok r.2))
    have hc := pop_ok h2.t h.wf (.inr ⟨.inl rfl, rfl⟩) hq
    have hwq := (tPop_wf h.wf hq).1
    have hle2 := tPop_len hq
    clear hq
    go_wp2_with fail
    refine hc.mono ?_
    rintro e w3 ⟨rfl, sv3, h3, d3⟩
    have t3 := t2.trans d3
    have hx3 := hx2.tw ho2 d3
    have ho3 := (ho2.tw d3).1
    clear x0 x1 x2 x3 x4 x5 x6
    obtain ⟨x0, x1, x2, x3, x4, x5, x6⟩ := hx3.c
    cases hq : tPop 127 q.2 with
    | error m =>
      replace e0 := Lib.hid (e0.out.trans (by rw [hq]; rfl : _ = Except.error m))
      have hc := pop_er h3 hwq (.inr ⟨.inr rfl, rfl⟩) hq
      clear hq
      go_wp2_with fail
      refine hc.mono ?_
      rintro e wz ⟨rfl, svz, fvz, tz⟩
      go_wp2
      exact ⟨rfl, by rw [e0.out]; exact ⟨rfl, svz, fvz, t3.trans tz⟩⟩
    | ok r =>
      replace e0 := Lib.hid (e0.out.trans (by rw [hq]; rfl : _ = Except.ok r.2))
      have hc := pop_ok h3 hwq (.inr ⟨.inr rfl, rfl⟩) hq
      clear hq
      go_wp2_with fail
      refine hc.mono ?_
      rintro e w4 ⟨rfl, sv4, h4, d4⟩
      have hx4 := hx3.tw ho3 d4
      clear x0 x1 x2 x3 x4 x5 x6
      obtain ⟨x0, x1, x2, x3, x4, x5, x6⟩ := hx4.c
      go_wp2
      go_end0
      rw [e0.out]
      exact ⟨rfl, sv4, h4, t3.trans d4⟩
set_option maxRecDepth 100000 in
set_option maxHeartbeats 4000000 in
theorem memory_58 (h : Cx w0 N p c lv E w sv fv s) (a y n : Int) (v4 v5 v6 : Value) (hm0 : 0 < E.mems) (hle : a ≤ bytesV 58) (hb : s.st.length + 1 ≤ 1099511627776) :
    Calls Tryd.prog 53 #[.pointer (some ⟨p, 0, none⟩), insV 58 a y n v4 v5 v6] w (endT N p (.pointer (some ⟨c, 0, none⟩)) lv w sv fv (tMemory E 58 a s)) := by
  obtain ⟨w1, hw1, h1, hx1, ho1, t1⟩ := box_step h 58 a y n v4 v5 v6
  obtain ⟨ma, mk, hm⟩ := h1.env.mems
  unfold insV
  obtain ⟨B, hB⟩ : ∃ B, B = w.heap.size := ⟨_, rfl⟩
  obtain ⟨k0, k1, k2, k3, z2, z3'⟩ := h1.t.c
  obtain ⟨x0, x1, x2, x3, x4, x5, x6⟩ := hx1.c
  have e0 : tMemory E 58 a s = (tPop 127 s).bind fun q => (tPop 127 q.2).bind fun r => .ok r.2 := by
    unfold tMemory
    rw [if_pos hm0, if_pos hle]
    show ((tPop 127 s).bind fun q => .ok q.2).bind _ = _; cases tPop 127 s <;> rfl
  generalize tMemory E 58 a s = X at e0 ⊢
  have hHY := fun w => Lib.hid (has_yes (show (0 : Int) < (E.mems : Int) by omega) w)
  have hBy := fun w => Lib.hid (bytes_any 58 w)
  generalize bytesV 58 = bv at hle hBy
  have hld : decide (a ≤ bv) = true := decide_eq_true hle
  replace e0 := Lib.hid e0
  clear hm0
  have hB2 : ∀ w, Calls Tryd.prog 62 #[.int .i64 58] w fun e w' => e = .returned (.int .i64 bv) ∧ w' = w := fun w => (hBy w).out.mono fun _ _ q => ⟨q.1, q.2.symm⟩
  have hW2 : ∀ w, Calls Tryd.prog 20 #[.bool true, .int .i64 60] w fun e w' => e = .returned (.tuple #[]) ∧ w' = w := fun w => (vwant_yes 60 w).mono fun _ _ q => ⟨q.1, q.2.symm⟩
  clear hBy
  go_enter Tryd.func53, Tryd.ntmps53
  go_upto_region 1 with (fail)
  rw [← hw1]
  rw [← hB] at x0 x1 x2 x3 x4 x5 x6 hx1 ho1 ⊢
  clear hw1 hB
  go_wp2_with fail
  refine ((hHY _).out).mono ?_
  rintro e w' ⟨rfl, rfl⟩
  go_wp2_with fail
  go_quiet (first | (go_at_call 62; exact Calls.quiet_of_same (hB2 _)) | (go_at_call 20; exact Calls.quiet_of_same (hW2 _)))
  have h2 := h1.step (below_drawn nq)
  have d2 : Tw p sv fv sv fv w1 (w1.drewN nq) := .of_below (below_drawn nq)
  have t2 := t1.trans d2
  have hx2 := hx1.tw ho1 d2
  have ho2 := (ho1.tw d2).1
  obtain ⟨w2, hw2⟩ : ∃ w2, w2 = w1.drewN nq := ⟨_, rfl⟩
  rw [← hw2] at h2 t2 d2 hx2 ho2 ⊢
  clear hw2 h1 d2 t1 hx1 ho1 hm hB2 hW2 k0 k1 k2 k3 z2 z3' x0 x1 x2 x3 x4 x5 x6
  obtain ⟨x0, x1, x2, x3, x4, x5, x6⟩ := hx2.c
  cases hq : tPop 127 s with
  | error m =>
    replace e0 := Lib.hid (e0.out.trans (by rw [hq]; rfl : _ = Except.error m))
    have hc := pop_er h2.t h.wf (.inr ⟨.inr rfl, rfl⟩) hq
    clear hq
    go_wp2_with fail
    refine hc.mono ?_
    rintro e wz ⟨rfl, svz, fvz, tz⟩
    go_wp2
    exact ⟨rfl, by rw [e0.out]; exact ⟨rfl, svz, fvz, t2.trans tz⟩⟩
  | ok q =>
    replace e0 := Lib.hid (e0.out.trans (by rw [hq]; rfl : _ = (tPop 127 q.2).bind fun r => .ok r.2))
    have hc := pop_ok h2.t h.wf (.inr ⟨.inr rfl, rfl⟩) hq
    have hwq := (tPop_wf h.wf hq).1
    have hle2 := tPop_len hq
    clear hq
    go_wp2_with fail
    refine hc.mono ?_
    rintro e w3 ⟨rfl, sv3, h3, d3⟩
    have t3 := t2.trans d3
    have hx3 := hx2.tw ho2 d3
    have ho3 := (ho2.tw d3).1
    clear x0 x1 x2 x3 x4 x5 x6
    obtain ⟨x0, x1, x2, x3, x4, x5, x6⟩ := hx3.c
    cases hq : tPop 127 q.2 with
    | error m =>
      replace e0 := Lib.hid (e0.out.trans (by rw [hq]; rfl : _ = Except.error m))
      have hc := pop_er h3 hwq (.inr ⟨.inr rfl, rfl⟩) hq
      clear hq
      go_wp2_with fail
      refine hc.mono ?_
      rintro e wz ⟨rfl, svz, fvz, tz⟩
      go_wp2
      exact ⟨rfl, by rw [e0.out]; exact ⟨rfl, svz, fvz, t3.trans tz⟩⟩
    | ok r =>
      replace e0 := Lib.hid (e0.out.trans (by rw [hq]; rfl : _ = Except.ok r.2))
      have hc := pop_ok h3 hwq (.inr ⟨.inr rfl, rfl⟩) hq
      clear hq
      go_wp2_with fail
      refine hc.mono ?_
      rintro e w4 ⟨rfl, sv4, h4, d4⟩
      have hx4 := hx3.tw ho3 d4
      clear x0 x1 x2 x3 x4 x5 x6
      obtain ⟨x0, x1, x2, x3, x4, x5, x6⟩ := hx4.c
      go_wp2
      go_end0
      rw [e0.out]
      exact ⟨rfl, sv4, h4, t3.trans d4⟩
set_option maxRecDepth 100000 in
set_option maxHeartbeats 4000000 in
theorem memory_59 (h : Cx w0 N p c lv E w sv fv s) (a y n : Int) (v4 v5 v6 : Value) (hm0 : 0 < E.mems) (hle : a ≤ bytesV 59) (hb : s.st.length + 1 ≤ 1099511627776) :
    Calls Tryd.prog 53 #[.pointer (some ⟨p, 0, none⟩), insV 59 a y n v4 v5 v6] w (endT N p (.pointer (some ⟨c, 0, none⟩)) lv w sv fv (tMemory E 59 a s)) := by
  obtain ⟨w1, hw1, h1, hx1, ho1, t1⟩ := box_step h 59 a y n v4 v5 v6
  obtain ⟨ma, mk, hm⟩ := h1.env.mems
  unfold insV
  obtain ⟨B, hB⟩ : ∃ B, B = w.heap.size := ⟨_, rfl⟩
  obtain ⟨k0, k1, k2, k3, z2, z3'⟩ := h1.t.c
  obtain ⟨x0, x1, x2, x3, x4, x5, x6⟩ := hx1.c
  have e0 : tMemory E 59 a s = (tPop 127 s).bind fun q => (tPop 127 q.2).bind fun r => .ok r.2 := by
    unfold tMemory
    rw [if_pos hm0, if_pos hle]
    show ((tPop 127 s).bind fun q => .ok q.2).bind _ = _; cases tPop 127 s <;> rfl
  generalize tMemory E 59 a s = X at e0 ⊢
  have hHY := fun w => Lib.hid (has_yes (show (0 : Int) < (E.mems : Int) by omega) w)
  have hBy := fun w => Lib.hid (bytes_any 59 w)
  generalize bytesV 59 = bv at hle hBy
  have hld : decide (a ≤ bv) = true := decide_eq_true hle
  replace e0 := Lib.hid e0
  clear hm0
  have hB2 : ∀ w, Calls Tryd.prog 62 #[.int .i64 59] w fun e w' => e = .returned (.int .i64 bv) ∧ w' = w := fun w => (hBy w).out.mono fun _ _ q => ⟨q.1, q.2.symm⟩
  have hW2 : ∀ w, Calls Tryd.prog 20 #[.bool true, .int .i64 60] w fun e w' => e = .returned (.tuple #[]) ∧ w' = w := fun w => (vwant_yes 60 w).mono fun _ _ q => ⟨q.1, q.2.symm⟩
  clear hBy
  go_enter Tryd.func53, Tryd.ntmps53
  go_upto_region 1 with (fail)
  rw [← hw1]
  rw [← hB] at x0 x1 x2 x3 x4 x5 x6 hx1 ho1 ⊢
  clear hw1 hB
  go_wp2_with fail
  refine ((hHY _).out).mono ?_
  rintro e w' ⟨rfl, rfl⟩
  go_wp2_with fail
  go_quiet (first | (go_at_call 62; exact Calls.quiet_of_same (hB2 _)) | (go_at_call 20; exact Calls.quiet_of_same (hW2 _)))
  have h2 := h1.step (below_drawn nq)
  have d2 : Tw p sv fv sv fv w1 (w1.drewN nq) := .of_below (below_drawn nq)
  have t2 := t1.trans d2
  have hx2 := hx1.tw ho1 d2
  have ho2 := (ho1.tw d2).1
  obtain ⟨w2, hw2⟩ : ∃ w2, w2 = w1.drewN nq := ⟨_, rfl⟩
  rw [← hw2] at h2 t2 d2 hx2 ho2 ⊢
  clear hw2 h1 d2 t1 hx1 ho1 hm hB2 hW2 k0 k1 k2 k3 z2 z3' x0 x1 x2 x3 x4 x5 x6
  obtain ⟨x0, x1, x2, x3, x4, x5, x6⟩ := hx2.c
  cases hq : tPop 127 s with
  | error m =>
    replace e0 := Lib.hid (e0.out.trans (by rw [hq]; rfl : _ = Except.error m))
    have hc := pop_er h2.t h.wf (.inr ⟨.inr rfl, rfl⟩) hq
    clear hq
    go_wp2_with fail
    refine hc.mono ?_
    rintro e wz ⟨rfl, svz, fvz, tz⟩
    go_wp2
    exact ⟨rfl, by rw [e0.out]; exact ⟨rfl, svz, fvz, t2.trans tz⟩⟩
  | ok q =>
    replace e0 := Lib.hid (e0.out.trans (by rw [hq]; rfl : _ = (tPop 127 q.2).bind fun r => .ok r.2))
    have hc := pop_ok h2.t h.wf (.inr ⟨.inr rfl, rfl⟩) hq
    have hwq := (tPop_wf h.wf hq).1
    have hle2 := tPop_len hq
    clear hq
    go_wp2_with fail
    refine hc.mono ?_
    rintro e w3 ⟨rfl, sv3, h3, d3⟩
    have t3 := t2.trans d3
    have hx3 := hx2.tw ho2 d3
    have ho3 := (ho2.tw d3).1
    clear x0 x1 x2 x3 x4 x5 x6
    obtain ⟨x0, x1, x2, x3, x4, x5, x6⟩ := hx3.c
    cases hq : tPop 127 q.2 with
    | error m =>
      replace e0 := Lib.hid (e0.out.trans (by rw [hq]; rfl : _ = Except.error m))
      have hc := pop_er h3 hwq (.inr ⟨.inr rfl, rfl⟩) hq
      clear hq
      go_wp2_with fail
      refine hc.mono ?_
      rintro e wz ⟨rfl, svz, fvz, tz⟩
      go_wp2
      exact ⟨rfl, by rw [e0.out]; exact ⟨rfl, svz, fvz, t3.trans tz⟩⟩
    | ok r =>
      replace e0 := Lib.hid (e0.out.trans (by rw [hq]; rfl : _ = Except.ok r.2))
      have hc := pop_ok h3 hwq (.inr ⟨.inr rfl, rfl⟩) hq
      clear hq
      go_wp2_with fail
      refine hc.mono ?_
      rintro e w4 ⟨rfl, sv4, h4, d4⟩
      have hx4 := hx3.tw ho3 d4
      clear x0 x1 x2 x3 x4 x5 x6
      obtain ⟨x0, x1, x2, x3, x4, x5, x6⟩ := hx4.c
      go_wp2
      go_end0
      rw [e0.out]
      exact ⟨rfl, sv4, h4, t3.trans d4⟩
set_option maxRecDepth 100000 in
set_option maxHeartbeats 4000000 in
theorem memory_60 (h : Cx w0 N p c lv E w sv fv s) (a y n : Int) (v4 v5 v6 : Value) (hm0 : 0 < E.mems) (hle : a ≤ bytesV 60) (hb : s.st.length + 1 ≤ 1099511627776) :
    Calls Tryd.prog 53 #[.pointer (some ⟨p, 0, none⟩), insV 60 a y n v4 v5 v6] w (endT N p (.pointer (some ⟨c, 0, none⟩)) lv w sv fv (tMemory E 60 a s)) := by
  obtain ⟨w1, hw1, h1, hx1, ho1, t1⟩ := box_step h 60 a y n v4 v5 v6
  obtain ⟨ma, mk, hm⟩ := h1.env.mems
  unfold insV
  obtain ⟨B, hB⟩ : ∃ B, B = w.heap.size := ⟨_, rfl⟩
  obtain ⟨k0, k1, k2, k3, z2, z3'⟩ := h1.t.c
  obtain ⟨x0, x1, x2, x3, x4, x5, x6⟩ := hx1.c
  have e0 : tMemory E 60 a s = (tPop 126 s).bind fun q => (tPop 127 q.2).bind fun r => .ok r.2 := by
    unfold tMemory
    rw [if_pos hm0, if_pos hle]
    show ((tPop 126 s).bind fun q => .ok q.2).bind _ = _; cases tPop 126 s <;> rfl
  generalize tMemory E 60 a s = X at e0 ⊢
  have hHY := fun w => Lib.hid (has_yes (show (0 : Int) < (E.mems : Int) by omega) w)
  have hBy := fun w => Lib.hid (bytes_any 60 w)
  generalize bytesV 60 = bv at hle hBy
  have hld : decide (a ≤ bv) = true := decide_eq_true hle
  replace e0 := Lib.hid e0
  clear hm0
  have hB2 : ∀ w, Calls Tryd.prog 62 #[.int .i64 60] w fun e w' => e = .returned (.int .i64 bv) ∧ w' = w := fun w => (hBy w).out.mono fun _ _ q => ⟨q.1, q.2.symm⟩
  have hW2 : ∀ w, Calls Tryd.prog 20 #[.bool true, .int .i64 60] w fun e w' => e = .returned (.tuple #[]) ∧ w' = w := fun w => (vwant_yes 60 w).mono fun _ _ q => ⟨q.1, q.2.symm⟩
  clear hBy
  go_enter Tryd.func53, Tryd.ntmps53
  go_upto_region 1 with (fail)
  rw [← hw1]
  rw [← hB] at x0 x1 x2 x3 x4 x5 x6 hx1 ho1 ⊢
  clear hw1 hB
  go_wp2_with fail
  refine ((hHY _).out).mono ?_
  rintro e w' ⟨rfl, rfl⟩
  go_wp2_with fail
  go_quiet (first | (go_at_call 62; exact Calls.quiet_of_same (hB2 _)) | (go_at_call 20; exact Calls.quiet_of_same (hW2 _)))
  have h2 := h1.step (below_drawn nq)
  have d2 : Tw p sv fv sv fv w1 (w1.drewN nq) := .of_below (below_drawn nq)
  have t2 := t1.trans d2
  have hx2 := hx1.tw ho1 d2
  have ho2 := (ho1.tw d2).1
  obtain ⟨w2, hw2⟩ : ∃ w2, w2 = w1.drewN nq := ⟨_, rfl⟩
  rw [← hw2] at h2 t2 d2 hx2 ho2 ⊢
  clear hw2 h1 d2 t1 hx1 ho1 hm hB2 hW2 k0 k1 k2 k3 z2 z3' x0 x1 x2 x3 x4 x5 x6
  obtain ⟨x0, x1, x2, x3, x4, x5, x6⟩ := hx2.c
  cases hq : tPop 126 s with
  | error m =>
    replace e0 := Lib.hid (e0.out.trans (by rw [hq]; rfl : _ = Except.error m))
    have hc := pop_er h2.t h.wf (.inr ⟨.inl rfl, rfl⟩) hq
    clear hq
    go_wp2_with fail
    refine hc.mono ?_
    rintro e wz ⟨rfl, svz, fvz, tz⟩
    go_wp2
    exact ⟨rfl, by rw [e0.out]; exact ⟨rfl, svz, fvz, t2.trans tz⟩⟩
  | ok q =>
    replace e0 := Lib.hid (e0.out.trans (by rw [hq]; rfl : _ = (tPop 127 q.2).bind fun r => .ok r.2))
    have hc := pop_ok h2.t h.wf (.inr ⟨.inl rfl, rfl⟩) hq
    have hwq := (tPop_wf h.wf hq).1
    have hle2 := tPop_len hq
    clear hq
    go_wp2_with fail
    refine hc.mono ?_
    rintro e w3 ⟨rfl, sv3, h3, d3⟩
    have t3 := t2.trans d3
    have hx3 := hx2.tw ho2 d3
    have ho3 := (ho2.tw d3).1
    clear x0 x1 x2 x3 x4 x5 x6
    obtain ⟨x0, x1, x2, x3, x4, x5, x6⟩ := hx3.c
    cases hq : tPop 127 q.2 with
    | error m =>
      replace e0 := Lib.hid (e0.out.trans (by rw [hq]; rfl : _ = Except.error m))
      have hc := pop_er h3 hwq (.inr ⟨.inr rfl, rfl⟩) hq
      clear hq
      go_wp2_with fail
      refine hc.mono ?_
      rintro e wz ⟨rfl, svz, fvz, tz⟩
      go_wp2
      exact ⟨rfl, by rw [e0.out]; exact ⟨rfl, svz, fvz, t3.trans tz⟩⟩
    | ok r =>
      replace e0 := Lib.hid (e0.out.trans (by rw [hq]; rfl : _ = Except.ok r.2))
      have hc := pop_ok h3 hwq (.inr ⟨.inr rfl, rfl⟩) hq
      clear hq
      go_wp2_with fail
      refine hc.mono ?_
      rintro e w4 ⟨rfl, sv4, h4, d4⟩
      have hx4 := hx3.tw ho3 d4
      clear x0 x1 x2 x3 x4 x5 x6
      obtain ⟨x0, x1, x2, x3, x4, x5, x6⟩ := hx4.c
      go_wp2
      go_end0
      rw [e0.out]
      exact ⟨rfl, sv4, h4, t3.trans d4⟩
set_option maxRecDepth 100000 in
set_option maxHeartbeats 4000000 in
theorem memory_61 (h : Cx w0 N p c lv E w sv fv s) (a y n : Int) (v4 v5 v6 : Value) (hm0 : 0 < E.mems) (hle : a ≤ bytesV 61) (hb : s.st.length + 1 ≤ 1099511627776) :
    Calls Tryd.prog 53 #[.pointer (some ⟨p, 0, none⟩), insV 61 a y n v4 v5 v6] w (endT N p (.pointer (some ⟨c, 0, none⟩)) lv w sv fv (tMemory E 61 a s)) := by
  obtain ⟨w1, hw1, h1, hx1, ho1, t1⟩ := box_step h 61 a y n v4 v5 v6
  obtain ⟨ma, mk, hm⟩ := h1.env.mems
  unfold insV
  obtain ⟨B, hB⟩ : ∃ B, B = w.heap.size := ⟨_, rfl⟩
  obtain ⟨k0, k1, k2, k3, z2, z3'⟩ := h1.t.c
  obtain ⟨x0, x1, x2, x3, x4, x5, x6⟩ := hx1.c
  have e0 : tMemory E 61 a s = (tPop 126 s).bind fun q => (tPop 127 q.2).bind fun r => .ok r.2 := by
    unfold tMemory
    rw [if_pos hm0, if_pos hle]
    show ((tPop 126 s).bind fun q => .ok q.2).bind _ = _; cases tPop 126 s <;> rfl
  generalize tMemory E 61 a s = X at e0 ⊢
  have hHY := fun w => Lib.hid (has_yes (show (0 : Int) < (E.mems : Int) by omega) w)
  have hBy := fun w => Lib.hid (bytes_any 61 w)
  generalize bytesV 61 = bv at hle hBy
  have hld : decide (a ≤ bv) = true := decide_eq_true hle
  replace e0 := Lib.hid e0
  clear hm0
  have hB2 : ∀ w, Calls Tryd.prog 62 #[.int .i64 61] w fun e w' => e = .returned (.int .i64 bv) ∧ w' = w := fun w => (hBy w).out.mono fun _ _ q => ⟨q.1, q.2.symm⟩
  have hW2 : ∀ w, Calls Tryd.prog 20 #[.bool true, .int .i64 60] w fun e w' => e = .returned (.tuple #[]) ∧ w' = w := fun w => (vwant_yes 60 w).mono fun _ _ q => ⟨q.1, q.2.symm⟩
  clear hBy
  go_enter Tryd.func53, Tryd.ntmps53
  go_upto_region 1 with (fail)
  rw [← hw1]
  rw [← hB] at x0 x1 x2 x3 x4 x5 x6 hx1 ho1 ⊢
  clear hw1 hB
  go_wp2_with fail
  refine ((hHY _).out).mono ?_
  rintro e w' ⟨rfl, rfl⟩
  go_wp2_with fail
  go_quiet (first | (go_at_call 62; exact Calls.quiet_of_same (hB2 _)) | (go_at_call 20; exact Calls.quiet_of_same (hW2 _)))
  have h2 := h1.step (below_drawn nq)
  have d2 : Tw p sv fv sv fv w1 (w1.drewN nq) := .of_below (below_drawn nq)
  have t2 := t1.trans d2
  have hx2 := hx1.tw ho1 d2
  have ho2 := (ho1.tw d2).1
  obtain ⟨w2, hw2⟩ : ∃ w2, w2 = w1.drewN nq := ⟨_, rfl⟩
  rw [← hw2] at h2 t2 d2 hx2 ho2 ⊢
  clear hw2 h1 d2 t1 hx1 ho1 hm hB2 hW2 k0 k1 k2 k3 z2 z3' x0 x1 x2 x3 x4 x5 x6
  obtain ⟨x0, x1, x2, x3, x4, x5, x6⟩ := hx2.c
  cases hq : tPop 126 s with
  | error m =>
    replace e0 := Lib.hid (e0.out.trans (by rw [hq]; rfl : _ = Except.error m))
    have hc := pop_er h2.t h.wf (.inr ⟨.inl rfl, rfl⟩) hq
    clear hq
    go_wp2_with fail
    refine hc.mono ?_
    rintro e wz ⟨rfl, svz, fvz, tz⟩
    go_wp2
    exact ⟨rfl, by rw [e0.out]; exact ⟨rfl, svz, fvz, t2.trans tz⟩⟩
  | ok q =>
    replace e0 := Lib.hid (e0.out.trans (by rw [hq]; rfl : _ = (tPop 127 q.2).bind fun r => .ok r.2))
    have hc := pop_ok h2.t h.wf (.inr ⟨.inl rfl, rfl⟩) hq
    have hwq := (tPop_wf h.wf hq).1
    have hle2 := tPop_len hq
    clear hq
    go_wp2_with fail
    refine hc.mono ?_
    rintro e w3 ⟨rfl, sv3, h3, d3⟩
    have t3 := t2.trans d3
    have hx3 := hx2.tw ho2 d3
    have ho3 := (ho2.tw d3).1
    clear x0 x1 x2 x3 x4 x5 x6
    obtain ⟨x0, x1, x2, x3, x4, x5, x6⟩ := hx3.c
    cases hq : tPop 127 q.2 with
    | error m =>
      replace e0 := Lib.hid (e0.out.trans (by rw [hq]; rfl : _ = Except.error m))
      have hc := pop_er h3 hwq (.inr ⟨.inr rfl, rfl⟩) hq
      clear hq
      go_wp2_with fail
      refine hc.mono ?_
      rintro e wz ⟨rfl, svz, fvz, tz⟩
      go_wp2
      exact ⟨rfl, by rw [e0.out]; exact ⟨rfl, svz, fvz, t3.trans tz⟩⟩
    | ok r =>
      replace e0 := Lib.hid (e0.out.trans (by rw [hq]; rfl : _ = Except.ok r.2))
      have hc := pop_ok h3 hwq (.inr ⟨.inr rfl, rfl⟩) hq
      clear hq
      go_wp2_with fail
      refine hc.mono ?_
      rintro e w4 ⟨rfl, sv4, h4, d4⟩
      have hx4 := hx3.tw ho3 d4
      clear x0 x1 x2 x3 x4 x5 x6
      obtain ⟨x0, x1, x2, x3, x4, x5, x6⟩ := hx4.c
      go_wp2
      go_end0
      rw [e0.out]
      exact ⟨rfl, sv4, h4, t3.trans d4⟩
set_option maxRecDepth 100000 in
set_option maxHeartbeats 4000000 in
theorem memory_62 (h : Cx w0 N p c lv E w sv fv s) (a y n : Int) (v4 v5 v6 : Value) (hm0 : 0 < E.mems) (hle : a ≤ bytesV 62) (hb : s.st.length + 1 ≤ 1099511627776) :
    Calls Tryd.prog 53 #[.pointer (some ⟨p, 0, none⟩), insV 62 a y n v4 v5 v6] w (endT N p (.pointer (some ⟨c, 0, none⟩)) lv w sv fv (tMemory E 62 a s)) := by
  obtain ⟨w1, hw1, h1, hx1, ho1, t1⟩ := box_step h 62 a y n v4 v5 v6
  obtain ⟨ma, mk, hm⟩ := h1.env.mems
  unfold insV
  obtain ⟨B, hB⟩ : ∃ B, B = w.heap.size := ⟨_, rfl⟩
  obtain ⟨k0, k1, k2, k3, z2, z3'⟩ := h1.t.c
  obtain ⟨x0, x1, x2, x3, x4, x5, x6⟩ := hx1.c
  have e0 : tMemory E 62 a s = (tPop 126 s).bind fun q => (tPop 127 q.2).bind fun r => .ok r.2 := by
    unfold tMemory
    rw [if_pos hm0, if_pos hle]
    show ((tPop 126 s).bind fun q => .ok q.2).bind _ = _; cases tPop 126 s <;> rfl
  generalize tMemory E 62 a s = X at e0 ⊢
  have hHY := fun w => Lib.hid (has_yes (show (0 : Int) < (E.mems : Int) by omega) w)
  have hBy := fun w => Lib.hid (bytes_any 62 w)
  generalize bytesV 62 = bv at hle hBy
  have hld : decide (a ≤ bv) = true := decide_eq_true hle
  replace e0 := Lib.hid e0
  clear hm0
  have hB2 : ∀ w, Calls Tryd.prog 62 #[.int .i64 62] w fun e w' => e = .returned (.int .i64 bv) ∧ w' = w := fun w => (hBy w).out.mono fun _ _ q => ⟨q.1, q.2.symm⟩
  have hW2 : ∀ w, Calls Tryd.prog 20 #[.bool true, .int .i64 60] w fun e w' => e = .returned (.tuple #[]) ∧ w' = w := fun w => (vwant_yes 60 w).mono fun _ _ q => ⟨q.1, q.2.symm⟩
  clear hBy
  go_enter Tryd.func53, Tryd.ntmps53
  go_upto_region 1 with (fail)
  rw [← hw1]
  rw [← hB] at x0 x1 x2 x3 x4 x5 x6 hx1 ho1 ⊢
  clear hw1 hB
  go_wp2_with fail
  refine ((hHY _).out).mono ?_
  rintro e w' ⟨rfl, rfl⟩
  go_wp2_with fail
  go_quiet (first | (go_at_call 62; exact Calls.quiet_of_same (hB2 _)) | (go_at_call 20; exact Calls.quiet_of_same (hW2 _)))
  have h2 := h1.step (below_drawn nq)
  have d2 : Tw p sv fv sv fv w1 (w1.drewN nq) := .of_below (below_drawn nq)
  have t2 := t1.trans d2
  have hx2 := hx1.tw ho1 d2
  have ho2 := (ho1.tw d2).1
  obtain ⟨w2, hw2⟩ : ∃ w2, w2 = w1.drewN nq := ⟨_, rfl⟩
  rw [← hw2] at h2 t2 d2 hx2 ho2 ⊢
  clear hw2 h1 d2 t1 hx1 ho1 hm hB2 hW2 k0 k1 k2 k3 z2 z3' x0 x1 x2 x3 x4 x5 x6
  obtain ⟨x0, x1, x2, x3, x4, x5, x6⟩ := hx2.c
  cases hq : tPop 126 s with
  | error m =>
    replace e0 := Lib.hid (e0.out.trans (by rw [hq]; rfl : _ = Except.error m))
    have hc := pop_er h2.t h.wf (.inr ⟨.inl rfl, rfl⟩) hq
    clear hq
    go_wp2_with fail
    refine hc.mono ?_
    rintro e wz ⟨rfl, svz, fvz, tz⟩
    go_wp2
    exact ⟨rfl, by rw [e0.out]; exact ⟨rfl, svz, fvz, t2.trans tz⟩⟩
  | ok q =>
    replace e0 := Lib.hid (e0.out.trans (by rw [hq]; rfl : _ = (tPop 127 q.2).bind fun r => .ok r.2))
    have hc := pop_ok h2.t h.wf (.inr ⟨.inl rfl, rfl⟩) hq
    have hwq := (tPop_wf h.wf hq).1
    have hle2 := tPop_len hq
    clear hq
    go_wp2_with fail
    refine hc.mono ?_
    rintro e w3 ⟨rfl, sv3, h3, d3⟩
    have t3 := t2.trans d3
    have hx3 := hx2.tw ho2 d3
    have ho3 := (ho2.tw d3).1
    clear x0 x1 x2 x3 x4 x5 x6
    obtain ⟨x0, x1, x2, x3, x4, x5, x6⟩ := hx3.c
    cases hq : tPop 127 q.2 with
    | error m =>
      replace e0 := Lib.hid (e0.out.trans (by rw [hq]; rfl : _ = Except.error m))
      have hc := pop_er h3 hwq (.inr ⟨.inr rfl, rfl⟩) hq
      clear hq
      go_wp2_with fail
      refine hc.mono ?_
      rintro e wz ⟨rfl, svz, fvz, tz⟩
      go_wp2
      exact ⟨rfl, by rw [e0.out]; exact ⟨rfl, svz, fvz, t3.trans tz⟩⟩
    | ok r =>
      replace e0 := Lib.hid (e0.out.trans (by rw [hq]; rfl : _ = Except.ok r.2))
      have hc := pop_ok h3 hwq (.inr ⟨.inr rfl, rfl⟩) hq
      clear hq
      go_wp2_with fail
      refine hc.mono ?_
      rintro e w4 ⟨rfl, sv4, h4, d4⟩
      have hx4 := hx3.tw ho3 d4
      clear x0 x1 x2 x3 x4 x5 x6
      obtain ⟨x0, x1, x2, x3, x4, x5, x6⟩ := hx4.c
      go_wp2
      go_end0
      rw [e0.out]
      exact ⟨rfl, sv4, h4, t3.trans d4⟩
theorem memory_any (h : Cx w0 N p c lv E w sv fv s) (op a y n : Int) (v4 v5 v6 : Value) (ho : 40 ≤ op ∧ op ≤ 62 ∧ op ≠ 42 ∧ op ≠ 43 ∧ op ≠ 56 ∧ op ≠ 57) (hb : s.st.length + 1 ≤ 1099511627776) :
    Calls Tryd.prog 53 #[.pointer (some ⟨p, 0, none⟩), insV op a y n v4 v5 v6] w (endT N p (.pointer (some ⟨c, 0, none⟩)) lv w sv fv (tMemory E op a s)) := by
  by_cases hm0 : 0 < E.mems
  · by_cases hle : a ≤ bytesV op
    · rcases op8 ho with rfl | rfl | rfl | rfl | rfl | rfl | rfl | rfl | rfl | rfl | rfl | rfl | rfl | rfl | rfl | rfl | rfl | rfl | rfl
      · exact memory_40 h a y n v4 v5 v6 hm0 hle hb
      · exact memory_41 h a y n v4 v5 v6 hm0 hle hb
      · exact memory_44 h a y n v4 v5 v6 hm0 hle hb
      · exact memory_45 h a y n v4 v5 v6 hm0 hle hb
      · exact memory_46 h a y n v4 v5 v6 hm0 hle hb
      · exact memory_47 h a y n v4 v5 v6 hm0 hle hb
      · exact memory_48 h a y n v4 v5 v6 hm0 hle hb
      · exact memory_49 h a y n v4 v5 v6 hm0 hle hb
      · exact memory_50 h a y n v4 v5 v6 hm0 hle hb
      · exact memory_51 h a y n v4 v5 v6 hm0 hle hb
      · exact memory_52 h a y n v4 v5 v6 hm0 hle hb
      · exact memory_53 h a y n v4 v5 v6 hm0 hle hb
      · exact memory_54 h a y n v4 v5 v6 hm0 hle hb
      · exact memory_55 h a y n v4 v5 v6 hm0 hle hb
      · exact memory_58 h a y n v4 v5 v6 hm0 hle hb
      · exact memory_59 h a y n v4 v5 v6 hm0 hle hb
      · exact memory_60 h a y n v4 v5 v6 hm0 hle hb
      · exact memory_61 h a y n v4 v5 v6 hm0 hle hb
      · exact memory_62 h a y n v4 v5 v6 hm0 hle hb
    · have e : tMemory E op a s = .error 60 := by unfold tMemory; rw [if_pos hm0, if_neg hle]
      rw [e]
      exact memory_60e h op a y n v4 v5 v6 hm0 hle
  · have e : tMemory E op a s = .error 61 := by unfold tMemory; rw [if_neg hm0]
    rw [e]
    exact memory_61e h op a y n v4 v5 v6 hm0
end

end Go.Proofs.YtacohbllbjgdgaaDoor
