/- The typer: an if; any instruction, given what stands in it. -/
import Derived.Test.YtacohbllbjgdgaaDoorXl
namespace Go.Proofs.YtacohbllbjgdgaaDoor
open Go.RowKit
set_option linter.unusedVariables false
set_option linter.unusedSimpArgs false
section
variable {w0 : World} {N p c : Nat} {lv : Value} {E : Ev} {w : World} {sv fv : Value} {s : Ts}
set_option maxRecDepth 100000 in
set_option maxHeartbeats 4000000 in
theorem blocks_4 (h : Cx w0 N p c lv E w sv fv s) (hR : EvR E) (hRf : Rf s) (a y n : Int) (ha : a = 0 ∨ a = 126 ∨ a = 127) {body els : Il} (hB : BlkC body) (hC : BlkC els) (hf : formB body = true) (hfe : formB els = true) {ao : Option Addr} {k : Nat} {bo : Option Addr} {k2 : Nat} (v4 : Value)
    (hlen : body.len ≤ 9223372036854775807) (hi : IlIn w0 ao 0 body) (hlen2 : els.len ≤ 9223372036854775807) (hi2 : IlIn w0 bo 0 els)
    (b1 : s.st.length + szI body ≤ 1099511627775) (b2 : s.fs.length + szI body ≤ 1099511627775) (c1 : s.st.length + szI els ≤ 1099511627775) (c2 : s.fs.length + szI els ≤ 1099511627775) :
    Calls Tryd.prog 48 #[.pointer (some ⟨p, 0, none⟩), insV 4 a y n v4 (.slice ao body.len k) (.slice bo els.len k2)] w (endF N p (.pointer (some ⟨c, 0, none⟩)) lv w sv fv (tBlocks 4 a els.len (tyL E body) (tyL E els) s)) := by
  have hty := res_ok ha
  have hrl := resV_len a
  have e0 : tBlocks 4 a els.len (tyL E body) (tyL E els) s = (tPop 127 s).bind fun q => if 0 < els.len ∨ a = 0 then (tBlock (tyL E body) (resV a) (resV a) q.2).bind fun s => (if 0 < els.len then tBlock (tyL E els) (resV a) (resV a) s else .ok s).bind fun s => .ok (tPush (resV a) s) else .error 60 := rfl
  generalize tBlocks 4 a els.len (tyL E body) (tyL E els) s = X at e0 ⊢
  replace e0 := Lib.hid e0
  obtain ⟨w1, hw1, h1, hx1, ho1, t1⟩ := box_step h 4 a y n v4 (.slice ao body.len k) (.slice bo els.len k2)
  unfold insV
  obtain ⟨B, hB0⟩ : ∃ B, B = w.heap.size := ⟨_, rfl⟩
  obtain ⟨x0, x1, x2, x3, x4, x5, x6⟩ := hx1.c
  go_enter Tryd.func48, Tryd.ntmps48
  go_upto_region 1 with (fail)
  rw [← hw1]
  rw [← hB0] at x0 x1 x2 x3 x4 x5 x6 hx1 ho1 ⊢
  clear hw1 hB0
  go_wp2_with fail
  refine (result_v a _).mono ?_
  rintro e w2 ⟨⟨ra, rc, rfl, ri, rf⟩, b2'⟩
  have d2 : Tw p sv fv sv fv w1 w2 := .of_below b2'
  have h2 := h1.step b2'
  have hl2 := LiB.fresh h1.t.o ri rf
  have hx2 := hx1.tw ho1 d2
  have ho2 := (ho1.tw d2).1
  have t2 := t1.trans d2
  clear x0 x1 x2 x3 x4 x5 x6 hx1 ho1 t1 d2 h1 b2' ri rf
  obtain ⟨x0, x1, x2, x3, x4, x5, x6⟩ := hx2.c
  cases hq : tPop 127 s with
  | error m =>
    have hc := pop_er h2.t h.wf (.inr ⟨.inr rfl, rfl⟩) hq
    have e3 : X = .error m := by rw [e0.out, hq]; rfl
    replace e3 := Lib.hid e3
    clear hq e0
    go_wp2_with fail
    refine hc.mono ?_
    rintro e w3 ⟨rfl, sv3, fv3, d3⟩
    go_wp2
    exact ⟨rfl, by rw [e3.out]; exact ⟨rfl, _, _, t2.trans d3⟩⟩
  | ok q =>
    have hc := pop_ok h2.t h.wf (.inr ⟨.inr rfl, rfl⟩) hq
    obtain ⟨hwq, hkq, _⟩ := tPop_wf h.wf hq
    have hql := tPop_len hq
    have hqf := kf_len hkq
    have hRq := hRf.kf hkq
    have e3 : X = if 0 < els.len ∨ a = 0 then (tBlock (tyL E body) (resV a) (resV a) q.2).bind fun s => (if 0 < els.len then tBlock (tyL E els) (resV a) (resV a) s else .ok s).bind fun s => .ok (tPush (resV a) s) else .error 60 := by rw [e0.out, hq]; rfl
    clear e0
    replace e3 := Lib.hid e3
    clear hq
    go_wp2_with fail
    refine hc.mono ?_
    rintro e w3 ⟨rfl, sv3, h3', d3⟩
    have h3 := h2.go hwq h3' d3
    have t3 := t2.trans d3
    have hl3 := hl2.tw d3
    have hx3 := hx2.tw ho2 d3
    have ho3 := (ho2.tw d3).1
    clear x0 x1 x2 x3 x4 x5 x6 hx2 ho2 t2 d3 h2 h3' hl2
    obtain ⟨x0, x1, x2, x3, x4, x5, x6⟩ := hx3.c
    by_cases hn : 0 < els.len
    · have e4 : X = (tBlock (tyL E body) (resV a) (resV a) q.2).bind fun s => (if 0 < els.len then tBlock (tyL E els) (resV a) (resV a) s else .ok s).bind fun s => .ok (tPush (resV a) s) := e3.out.trans (if_pos (.inl hn))
      clear e3
      replace e4 := Lib.hid e4
      have i1 : (0 : Int) < (els.len : Int) := by omega
      have i2 : decide ((0 : Int) < (els.len : Int)) = true := decide_eq_true i1
      cases hq2 : tBlock (tyL E body) (resV a) (resV a) q.2 with
      | error m =>
        have e5 : X = .error m := by rw [e4.out, hq2]; rfl
        replace e5 := Lib.hid e5
        have hc := blk_er (gc := rc) (ec := rc) (k := k) hB h3 hR hRq hf hl3 hl3 hty hty hrl hrl hlen hi (by omega) (by omega) hq2
        clear hq2 e4
        go_wp2_with fail
        refine (vwant_yes 60 _).mono ?_
        rintro e w' ⟨rfl, rfl⟩
        go_wp2_with fail
        refine hc.mono ?_
        rintro e w4 ⟨rfl, sv4, fv4, d4⟩
        go_wp2
        exact ⟨rfl, by rw [e5.out]; exact ⟨rfl, _, _, t3.trans d4⟩⟩
      | ok u =>
        have hc := blk_ok (gc := rc) (ec := rc) (k := k) hB h3 hR hRq hf hl3 hl3 hty hty hrl hrl hlen hi (by omega) (by omega) hq2
        obtain ⟨ul, uw, uk⟩ := tBlock_len (tyL_ok h.ok body hf) hty hty hwq hq2
        have huf := kf_len uk
        have hRu := hRq.kf uk
        go_wp2_with fail
        refine (vwant_yes 60 _).mono ?_
        rintro e w' ⟨rfl, rfl⟩
        go_wp2_with fail
        refine hc.mono ?_
        rintro e w4 ⟨rfl, sv4, fv4, h4', d4⟩
        have h4 := h3.go uw h4' d4
        have t4 := t3.trans d4
        have hl4 := hl3.tw d4
        have hx4 := hx3.tw ho3 d4
        clear x0 x1 x2 x3 x4 x5 x6
        obtain ⟨x0, x1, x2, x3, x4, x5, x6⟩ := hx4.c
        have e5 : X = (tBlock (tyL E els) (resV a) (resV a) u).bind fun s => .ok (tPush (resV a) s) := by rw [e4.out, hq2]; show Except.bind (if 0 < els.len then _ else _) _ = _; rw [if_pos hn]
        replace e5 := Lib.hid e5
        clear hq2 e4
        cases hq3 : tBlock (tyL E els) (resV a) (resV a) u with
        | error m =>
          have e6 : X = .error m := by rw [e5.out, hq3]; rfl
          replace e6 := Lib.hid e6
          have hc := blk_er (gc := rc) (ec := rc) (k := k2) hC h4 hR hRu hfe hl4 hl4 hty hty hrl hrl hlen2 hi2 (by omega) (by omega) hq3
          clear hq3 e5
          go_wp2_with fail
          refine hc.mono ?_
          rintro e w5 ⟨rfl, sv5, fv5, d5⟩
          go_wp2
          exact ⟨rfl, by rw [e6.out]; exact ⟨rfl, _, _, t4.trans d5⟩⟩
        | ok v =>
          have e6 : X = .ok (tPush (resV a) v) := by rw [e5.out, hq3]; rfl
          replace e6 := Lib.hid e6
          have hc := blk_ok (gc := rc) (ec := rc) (k := k2) hC h4 hR hRu hfe hl4 hl4 hty hty hrl hrl hlen2 hi2 (by omega) (by omega) hq3
          obtain ⟨vl, vw, vk⟩ := tBlock_len (tyL_ok h.ok els hfe) hty hty uw hq3
          clear hq3 e5
          go_wp2_with fail
          refine hc.mono ?_
          rintro e w5 ⟨rfl, sv5, fv5, h5, d5⟩
          have hpu := push_ty (lc := rc) h5 (hl4.tw d5).1 hty (by omega)
          go_wp2_with fail
          refine hpu.mono ?_
          rintro e wz ⟨rfl, svz, hz, dz⟩
          go_wp2
          go_end0
          rw [e6.out]
          exact ⟨rfl, svz, fv5, hz, (t4.trans d5).trans dz⟩
    · have hz : els.len = 0 := by omega
      have i2 : decide ((0 : Int) < (els.len : Int)) = false := decide_eq_false (by omega)
      by_cases ha0 : a = 0
      · have e4 : X = (tBlock (tyL E body) (resV a) (resV a) q.2).bind fun s => (if 0 < els.len then tBlock (tyL E els) (resV a) (resV a) s else .ok s).bind fun s => .ok (tPush (resV a) s) := e3.out.trans (if_pos (.inr ha0))
        clear e3
        replace e4 := Lib.hid e4
        have i3 : (a == 0) = true := by simp [ha0]
        replace ha0 := Lib.hid ha0
        clear ha
        rw [hz] at x6 i2
        cases hq2 : tBlock (tyL E body) (resV a) (resV a) q.2 with
        | error m =>
          have e5 : X = .error m := by rw [e4.out, hq2]; rfl
          replace e5 := Lib.hid e5
          have hc := blk_er (gc := rc) (ec := rc) (k := k) hB h3 hR hRq hf hl3 hl3 hty hty hrl hrl hlen hi (by omega) (by omega) hq2
          clear hq2 e4
          go_wp2_with fail
          refine (vwant_yes 60 _).mono ?_
          rintro e w' ⟨rfl, rfl⟩
          go_wp2_with fail
          refine hc.mono ?_
          rintro e w4 ⟨rfl, sv4, fv4, d4⟩
          go_wp2
          exact ⟨rfl, by rw [e5.out]; exact ⟨rfl, _, _, t3.trans d4⟩⟩
        | ok u =>
          have hc := blk_ok (gc := rc) (ec := rc) (k := k) hB h3 hR hRq hf hl3 hl3 hty hty hrl hrl hlen hi (by omega) (by omega) hq2
          obtain ⟨ul, uw, uk⟩ := tBlock_len (tyL_ok h.ok body hf) hty hty hwq hq2
          have huf := kf_len uk
          have hRu := hRq.kf uk
          go_wp2_with fail
          refine (vwant_yes 60 _).mono ?_
          rintro e w' ⟨rfl, rfl⟩
          go_wp2_with fail
          refine hc.mono ?_
          rintro e w4 ⟨rfl, sv4, fv4, h4', d4⟩
          have h4 := h3.go uw h4' d4
          have t4 := t3.trans d4
          have hl4 := hl3.tw d4
          have hx4 := hx3.tw ho3 d4
          clear x0 x1 x2 x3 x4 x5 x6
          obtain ⟨x0, x1, x2, x3, x4, x5, x6⟩ := hx4.c
          rw [hz] at x6
          have e6 : X = .ok (tPush (resV a) u) := by rw [e4.out, hq2]; show Except.bind (if 0 < els.len then _ else _) _ = _; rw [if_neg hn]; rfl
          replace e6 := Lib.hid e6
          clear hq2 e4
          have hpu := push_ty (lc := rc) h4' hl4.1 hty (by omega)
          go_wp2_with fail
          refine hpu.mono ?_
          rintro e wz ⟨rfl, svz, hz, dz⟩
          go_wp2
          go_end0
          rw [e6.out]
          exact ⟨rfl, svz, fv4, hz, t4.trans dz⟩
      · have e4 : X = .error 60 := e3.out.trans (if_neg (by omega))
        clear e3
        replace e4 := Lib.hid e4
        have i3 : (a == 0) = false := by simp [ha0]
        clear ha ha0
        rw [hz] at x6 i2
        go_wp2_with fail
        refine (vwant_no 60 _).mono ?_
        rintro e w' ⟨rfl, rfl⟩
        go_wp2
        exact ⟨rfl, by rw [e4.out]; exact ⟨rfl, _, _, t3⟩⟩
end

end Go.Proofs.YtacohbllbjgdgaaDoor
