/- The typer: any instruction, given what stands in it. -/
import Derived.Test.YtacohbllbjgdgaaDoorXm
import Derived.Test.YtacohbllbjgdgaaDoorFa
namespace Go.Proofs.YtacohbllbjgdgaaDoor
open Go.RowKit
set_option linter.unusedVariables false
set_option linter.unusedSimpArgs false
section
variable {w0 : World} {N p c : Nat} {lv : Value} {E : Ev} {w : World} {sv fv : Value} {s : Ts}
theorem of_ty {op k n t : Int} (h : OfIs op k n t) (hr : reck op) : k ≠ 0 ∧ tyo t ∧ (sN k).toNat ≤ 2 := by
  have h := h.is
  unfold reck at hr
  unfold tyo
  refine ⟨by omega, by omega, ?_⟩
  unfold sN
  repeat' split
  all_goals omega
theorem of_no {op k n t : Int} (h : OfIs op k n t) (hr : ¬ reck op) : k = 0 := by
  have h := h.is
  unfold reck at hr
  omega
set_option maxRecDepth 100000 in
set_option maxHeartbeats 4000000 in
theorem instr_reck (h : Cx w0 N p c lv E w sv fv s) (op a y n : Int) (v4 v5 v6 : Value) (hr : reck op) (hb : s.st.length + 1 ≤ 1099511627776) :
    Calls Tryd.prog 39 #[.pointer (some ⟨p, 0, none⟩), insV op a y n v4 v5 v6] w (endF N p (.pointer (some ⟨c, 0, none⟩)) lv w sv fv ((tPopL (List.replicate (sgN (sgV op).1) (sgV op).2.2) s).bind fun s => .ok (tPush [sgR (sgV op).1 (sgV op).2.2] s))) := by
  obtain ⟨k, m, t, hof⟩ := of_ex op
  obtain ⟨e1, e2, e3⟩ := sg_of hof
  obtain ⟨hk, hty, hm2⟩ := of_ty hof hr
  have hro : tyo (sR k t) := by
    have := (sg_reck hr).2.1
    rw [e1] at this
    rw [← e3]
    exact this
  rw [e1]
  show Calls _ _ _ _ (endF N p _ lv w sv fv ((tPopL (List.replicate (sgN k) t) s).bind fun s => .ok (tPush [sgR k t] s)))
  rw [e2, e3]
  have hkb : (k != 0) = true := by simp [hk]
  have hsig := fun w => Lib.hid (sigl_any op k m t w hof)
  clear e1 e2 e3 hk hof hr
  obtain ⟨w1, hw1, h1, hx1, ho1, t1⟩ := box_step h op a y n v4 v5 v6
  unfold insV
  obtain ⟨B, hB0⟩ : ∃ B, B = w.heap.size := ⟨_, rfl⟩
  obtain ⟨x0, x1, x2, x3, x4, x5, x6⟩ := hx1.c
  have hrep : ∀ u ∈ List.replicate (sN k).toNat t, tyo u := fun u hu => by rw [(List.mem_replicate.1 hu).2]; exact hty
  have hrl : (List.replicate (sN k).toNat t).length = (sN k).toNat := List.length_replicate ..
  cases hq : tPopL (List.replicate (sN k).toNat t) s with
  | error z =>
    show Calls _ _ _ _ (endF N p _ lv w sv fv (.error z))
    go_enter Tryd.func39, Tryd.ntmps39
    go_upto_region 1 with (fail)
    rw [← hw1]
    rw [← hB0] at x0 x1 x2 x3 x4 x5 x6 hx1 ho1 ⊢
    clear hw1 hB0
    go_wp2_with fail
    refine (hsig _).out.mono ?_
    rintro e w2 ⟨v, rfl, hv, b2⟩
    obtain ⟨va, vc, rfl, vi, vf⟩ := hv.ints hm2
    have d2 : Tw p sv fv sv fv w1 w2 := .of_below b2
    have h2 := h1.step b2
    have hl2 := LiB.fresh h1.t.o vi vf
    have hc := pops_er (lc := vc) h2.t h.wf hl2 hrep hq
    rw [hrl] at hc
    clear hq hv
    go_wp2_with fail
    refine hc.mono ?_
    rintro e w3 ⟨rfl, sv3, fv3, d3⟩
    go_wp2
    exact ⟨rfl, rfl, _, _, (t1.trans d2).trans d3⟩
  | ok u =>
    show Calls _ _ _ _ (endF N p _ lv w sv fv (.ok (tPush [sR k t] u)))
    have hul := tPops_len _ hq
    go_enter Tryd.func39, Tryd.ntmps39
    go_upto_region 1 with (fail)
    rw [← hw1]
    rw [← hB0] at x0 x1 x2 x3 x4 x5 x6 hx1 ho1 ⊢
    clear hw1 hB0
    go_wp2_with fail
    refine (hsig _).out.mono ?_
    rintro e w2 ⟨v, rfl, hv, b2⟩
    obtain ⟨va, vc, rfl, vi, vf⟩ := hv.ints hm2
    have d2 : Tw p sv fv sv fv w1 w2 := .of_below b2
    have h2 := h1.step b2
    have hl2 := LiB.fresh h1.t.o vi vf
    have hc := pops_ok (lc := vc) h2.t h.wf hl2 hrep hq
    rw [hrl] at hc
    clear hq hv
    go_wp2_with fail
    refine hc.mono ?_
    rintro e w3 ⟨rfl, sv3, h3, d3⟩
    have hpu := push1 h3 (t := sR k t) (v := sR k t) (enc_tyo hro).symm (by omega)
    go_wp2_with fail
    refine hpu.mono ?_
    rintro e w4 ⟨rfl, sv4, h4, d4⟩
    go_wp2
    refine bodyPost_ret (results_none rfl _ _ _) rfl ?_
    exact ⟨rfl, sv4, fv, h4, ((t1.trans d2).trans d3).trans d4⟩
set_option maxRecDepth 100000 in
set_option maxHeartbeats 4000000 in
theorem instr_any (h : Cx w0 N p c lv E w sv fv s) (hR : EvR E) (hRf : Rf s) {op a y n : Int} {ls : List Int} {body els : Il} (hf1 : form1 op a y n ls body.len els.len = true) (hB : BlkC body) (hC : BlkC els) (hf : formB body = true) (hfe : formB els = true)
    {la : Option Addr} {lc : Nat} {ao : Option Addr} {k : Nat} {bo : Option Addr} {k2 : Nat} (hls : IntsIn w0 la ls) (hlen : body.len ≤ 9223372036854775807) (hi : IlIn w0 ao 0 body) (hlen2 : els.len ≤ 9223372036854775807) (hi2 : IlIn w0 bo 0 els)
    (b1 : s.st.length + (1 + szI body + szI els) ≤ 1099511627775) (b2 : s.fs.length + (szI body + szI els) ≤ 1099511627775) :
    Calls Tryd.prog 39 #[.pointer (some ⟨p, 0, none⟩), insV op a y n (.slice la ls.length lc) (.slice ao body.len k) (.slice bo els.len k2)] w (endF N p (.pointer (some ⟨c, 0, none⟩)) lv w sv fv (tInstr E op a ls els.len (tyL E body) (tyL E els) s)) := by
  have hb : s.st.length + 1 ≤ 1099511627776 := by omega
  by_cases hr : reck op
  · have e : tInstr E op a ls els.len (tyL E body) (tyL E els) s = (tPopL (List.replicate (sgN (sgV op).1) (sgV op).2.2) s).bind fun s => .ok (tPush [sgR (sgV op).1 (sgV op).2.2] s) := by
      unfold tInstr
      rw [if_pos (sg_reck hr).1]
    rw [e]
    exact instr_reck h op a y n _ _ _ hr hb
  · obtain ⟨kk, m, t, hof⟩ := of_ex op
    have hk0 := of_no hof hr
    subst hk0
    obtain ⟨g0, g1, g2, g3, g4⟩ := plainfacts hf1
    obtain ⟨i1, i2, i3, i4, i5, i6, i7, i8, i9⟩ := fv_inv op
    have e0 : tInstr E op a ls els.len (tyL E body) (tyL E els) s = if formV op = 2 ∨ formV op = 3 then tBlocks op a els.len (tyL E body) (tyL E els) s else if formV op = 4 ∨ formV op = 5 then tLeaves op a ls s else if formV op = 6 then tNamed E op a s else if formV op = 7 then tIndirect E a s else if formV op = 8 then tMemory E op a s else if formV op = 9 then .ok (tPush [if op = 65 then 127 else 126] s) else tPlain E op s := by
      unfold tInstr
      rw [sg_not hr, if_neg (fun q => q rfl)]
    generalize tInstr E op a ls els.len (tyL E body) (tyL E els) s = X at e0 ⊢
    replace e0 := Lib.hid e0
    have hsig := fun w => Lib.hid (sigl_any op 0 m t w hof)
    have hfm := fun w => Lib.hid (form_any op w)
    clear hof hf1
    obtain ⟨w1, hw1, h1, hx1, ho1, t1⟩ := box_step h op a y n (.slice la ls.length lc) (.slice ao body.len k) (.slice bo els.len k2)
    unfold insV
    obtain ⟨B, hB0⟩ : ∃ B, B = w.heap.size := ⟨_, rfl⟩
    obtain ⟨x0, x1, x2, x3, x4, x5, x6⟩ := hx1.c
    have hk00 : ((0 : Int) != 0) = false := rfl
    generalize hfv : formV op = F at *
    replace hfv := Lib.hid hfv
    replace hr := Lib.hid hr
    replace i1 := Lib.hid i1
    replace i2 := Lib.hid i2
    replace i3 := Lib.hid i3
    replace i4 := Lib.hid i4
    replace i5 := Lib.hid i5
    replace i6 := Lib.hid i6
    replace i7 := Lib.hid i7
    replace i8 := Lib.hid i8
    replace i9 := Lib.hid i9
    replace g0 := Lib.hid g0
    replace g1 := Lib.hid g1
    replace g2 := Lib.hid g2
    replace g3 := Lib.hid g3
    replace g4 := Lib.hid g4
    go_enter Tryd.func39, Tryd.ntmps39
    go_upto_region 1 with (fail)
    rw [← hw1]
    rw [← hB0] at x0 x1 x2 x3 x4 x5 x6 hx1 ho1 ⊢
    clear hw1 hB0
    go_wp2_with fail
    refine (hsig _).out.mono ?_
    rintro e w2 ⟨v, rfl, hv, b2'⟩
    have d2 : Tw p sv fv sv fv w1 w2 := .of_below b2'
    have h2 := h1.step b2'
    have hx2 := hx1.tw ho1 d2
    have ho2 := (ho1.tw d2).1
    have t2 := t1.trans d2
    clear x0 x1 x2 x3 x4 x5 x6 hx1 ho1 t1 d2 h1 b2' hsig hv
    obtain ⟨x0, x1, x2, x3, x4, x5, x6⟩ := hx2.c
    go_wp2_with fail
    refine (hfm _).out.mono ?_
    rintro e w3 ⟨rfl, b3'⟩
    have d3 : Tw p sv fv sv fv w2 w3 := .of_below b3'
    have h3 := h2.step b3'
    have hx3 := hx2.tw ho2 d3
    have ho3 := (ho2.tw d3).1
    have t3 := t2.trans d3
    clear x0 x1 x2 x3 x4 x5 x6 hx2 ho2 t2 d3 h2 b3' hfm
    obtain ⟨x0, x1, x2, x3, x4, x5, x6⟩ := hx3.c
    have hF9 := g0.out
    rcases hF9 with rfl | rfl | rfl | rfl | rfl | rfl | rfl | rfl | rfl
    · have e4 : Hid (X = tPlain E op s) := Lib.hid (e0.out.trans (by simp))
      have hc := plain_any h3 op a y n (.slice la ls.length lc) (.slice ao body.len k) (.slice bo els.len k2) hb
      cases hq : tPlain E op s with
      | error m =>
        rw [hq] at hc
        have e5 := Lib.hid (e4.out.trans hq)
        clear hq e4
        go_wp2_with fail
        refine hc.mono ?_
        rintro e w4 ⟨rfl, sv4, fv4, d4⟩
        go_wp2
        exact ⟨rfl, by rw [e5.out]; exact ⟨rfl, _, _, t3.trans d4⟩⟩
      | ok u =>
        rw [hq] at hc
        have e5 := Lib.hid (e4.out.trans hq)
        clear hq e4
        go_wp2_with fail
        refine hc.mono ?_
        rintro e w4 ⟨rfl, sv4, h4, d4⟩
        go_wp2
        go_end0
        rw [e5.out]
        exact ⟨rfl, sv4, fv, h4, t3.trans d4⟩
    · have hop := i2.out rfl
      have e4 : Hid (X = (tBlock (tyL E body) (if op = 3 then [] else resV a) (resV a) s).bind fun s => .ok (tPush (resV a) s)) := Lib.hid (e0.out.trans (by
        rw [if_pos (.inl rfl)]
        rcases hop with rfl | rfl <;> rfl))
      have hc := blocks_23 h3 hR hRf hop a y n (g1.out (.inl rfl)) hB hf (k := k) (.slice la ls.length lc) (.slice bo els.len k2) hlen hi (by omega) (by omega)
      replace hop := Lib.hid hop
      cases hq : (tBlock (tyL E body) (if op = 3 then [] else resV a) (resV a) s).bind fun s => .ok (tPush (resV a) s) with
      | error m =>
        rw [hq] at hc
        have e5 := Lib.hid (e4.out.trans hq)
        clear hq e4
        go_wp2_with fail
        refine hc.mono ?_
        rintro e w4 ⟨rfl, sv4, fv4, d4⟩
        go_wp2
        exact ⟨rfl, by rw [e5.out]; exact ⟨rfl, _, _, t3.trans d4⟩⟩
      | ok u =>
        rw [hq] at hc
        have e5 := Lib.hid (e4.out.trans hq)
        clear hq e4
        go_wp2_with fail
        refine hc.mono ?_
        rintro e w4 ⟨rfl, sv4, fv4, h4, d4⟩
        go_wp2
        go_end0
        rw [e5.out]
        exact ⟨rfl, sv4, fv4, h4, t3.trans d4⟩
    · obtain rfl := i3.out rfl
      have e4 : Hid (X = tBlocks 4 a els.len (tyL E body) (tyL E els) s) := Lib.hid (e0.out.trans (if_pos (.inr rfl)))
      have hc := blocks_4 h3 hR hRf a y n (g1.out (.inr rfl)) hB hC hf hfe (k := k) (k2 := k2) (.slice la ls.length lc) hlen hi hlen2 hi2 (by omega) (by omega) (by omega) (by omega)
      cases hq : tBlocks 4 a els.len (tyL E body) (tyL E els) s with
      | error m =>
        rw [hq] at hc
        have e5 := Lib.hid (e4.out.trans hq)
        clear hq e4
        go_wp2_with fail
        refine hc.mono ?_
        rintro e w4 ⟨rfl, sv4, fv4, d4⟩
        go_wp2
        exact ⟨rfl, by rw [e5.out]; exact ⟨rfl, _, _, t3.trans d4⟩⟩
      | ok u =>
        rw [hq] at hc
        have e5 := Lib.hid (e4.out.trans hq)
        clear hq e4
        go_wp2_with fail
        refine hc.mono ?_
        rintro e w4 ⟨rfl, sv4, fv4, h4, d4⟩
        go_wp2
        go_end0
        rw [e5.out]
        exact ⟨rfl, sv4, fv4, h4, t3.trans d4⟩
    · have hop : op = 12 ∨ op = 13 ∨ op = 14 := by have := i4.out rfl; omega
      have hl0 : ∀ x ∈ ls, 0 ≤ x := by rw [g4.out (by decide)]; intro x hx; cases hx
      have e4 : Hid (X = tLeaves op a ls s) := Lib.hid (e0.out.trans (by simp))
      have hc := leaves_any h3 (fun f hf => (hRf f hf).1) hop a y n (g2.out (by simp)) (lc := lc) (.slice ao body.len k) (.slice bo els.len k2) hls hl0 hb
      replace hop := Lib.hid hop
      cases hq : tLeaves op a ls s with
      | error m =>
        rw [hq] at hc
        have e5 := Lib.hid (e4.out.trans hq)
        clear hq e4
        go_wp2_with fail
        refine hc.mono ?_
        rintro e w4 ⟨rfl, sv4, fv4, d4⟩
        go_wp2
        exact ⟨rfl, by rw [e5.out]; exact ⟨rfl, _, _, t3.trans d4⟩⟩
      | ok u =>
        rw [hq] at hc
        have e5 := Lib.hid (e4.out.trans hq)
        clear hq e4
        go_wp2_with fail
        refine hc.mono ?_
        rintro e w4 ⟨rfl, sv4, h4, d4⟩
        go_wp2
        go_end0
        rw [e5.out]
        exact ⟨rfl, sv4, fv, h4, t3.trans d4⟩
    · have hop : op = 12 ∨ op = 13 ∨ op = 14 := by have := i5.out rfl; omega
      have hl0 : ∀ x ∈ ls, 0 ≤ x := g3.out rfl
      have e4 : Hid (X = tLeaves op a ls s) := Lib.hid (e0.out.trans (by simp))
      have hc := leaves_any h3 (fun f hf => (hRf f hf).1) hop a y n (g2.out (by simp)) (lc := lc) (.slice ao body.len k) (.slice bo els.len k2) hls hl0 hb
      replace hop := Lib.hid hop
      cases hq : tLeaves op a ls s with
      | error m =>
        rw [hq] at hc
        have e5 := Lib.hid (e4.out.trans hq)
        clear hq e4
        go_wp2_with fail
        refine hc.mono ?_
        rintro e w4 ⟨rfl, sv4, fv4, d4⟩
        go_wp2
        exact ⟨rfl, by rw [e5.out]; exact ⟨rfl, _, _, t3.trans d4⟩⟩
      | ok u =>
        rw [hq] at hc
        have e5 := Lib.hid (e4.out.trans hq)
        clear hq e4
        go_wp2_with fail
        refine hc.mono ?_
        rintro e w4 ⟨rfl, sv4, h4, d4⟩
        go_wp2
        go_end0
        rw [e5.out]
        exact ⟨rfl, sv4, fv, h4, t3.trans d4⟩
    · have hop := i6.out rfl
      have e4 : Hid (X = tNamed E op a s) := Lib.hid (e0.out.trans (by simp))
      have hc := named_any h3 hR op a y n (.slice la ls.length lc) (.slice ao body.len k) (.slice bo els.len k2) hop (g2.out (by simp)) hb
      replace hop := Lib.hid hop
      cases hq : tNamed E op a s with
      | error m =>
        rw [hq] at hc
        have e5 := Lib.hid (e4.out.trans hq)
        clear hq e4
        go_wp2_with fail
        refine hc.mono ?_
        rintro e w4 ⟨rfl, sv4, fv4, d4⟩
        go_wp2
        exact ⟨rfl, by rw [e5.out]; exact ⟨rfl, _, _, t3.trans d4⟩⟩
      | ok u =>
        rw [hq] at hc
        have e5 := Lib.hid (e4.out.trans hq)
        clear hq e4
        go_wp2_with fail
        refine hc.mono ?_
        rintro e w4 ⟨rfl, sv4, h4, d4⟩
        go_wp2
        go_end0
        rw [e5.out]
        exact ⟨rfl, sv4, fv, h4, t3.trans d4⟩
    · obtain ⟨i, rfl⟩ : ∃ i : Nat, a = i := ⟨a.toNat, by have := g2.out (by simp); omega⟩
      have e4 : Hid (X = tIndirect E (i : Int) s) := Lib.hid (e0.out.trans (by simp))
      clear e0
      obtain ⟨ta, tk, htb⟩ := h3.env.tables
      obtain ⟨ya, yk, hty0, hrow⟩ := h3.e0.types
      have hty := keep_below h3.b _ _ hty0
      obtain ⟨k0, k1, k2', k3, z2, z3'⟩ := h3.t.c
      by_cases ht0 : 0 < E.tables
      · have hHT := fun w => Lib.hid (has_yes (show (0 : Int) < (E.tables : Int) by omega) w)
        by_cases hi0 : i < E.types.length
        · obtain ⟨t, ht⟩ : ∃ t, E.types[i]? = some t := ⟨_, List.getElem?_eq_getElem hi0⟩
          have hmem := List.mem_of_getElem? ht
          have j1 : (i : Int) < (E.types.length : Int) := by omega
          have j0 : (0 : Int) ≤ (i : Int) := by omega
          have hHY := fun w => Lib.hid (has_yes j1 w)
          have e5 : X = (tPop 127 s).bind fun q => tCalls t q.2 := by
            rw [e4.out]
            show (if 0 < E.tables then (match E.types[i]? with | some t => _ | none => _) else _) = _
            rw [if_pos ht0, ht]
          replace e5 := Lib.hid e5
          clear ht0 e4
          go_wp2_with fail
          refine (hHT _).out.mono ?_
          rintro e w' ⟨rfl, rfl⟩
          go_wp2_with fail
          refine wp_region_still_tail 11 (by kernel_rfl) (by kernel_rfl) ?_
          simp only [List.take_succ_cons, List.take_zero, List.drop_succ_cons, List.drop_zero]
          repeat still_step
          refine wpStill_nil ?_
          change wpList _ _ _ _ _ w3.drew
          obtain ⟨h4, d4⟩ := drew_step h3
          have t4 := t3.trans d4
          have hx4 := hx3.tw ho3 d4
          have ho4 := (ho3.tw d4).1
          obtain ⟨w4, hw4⟩ : ∃ w4, w4 = w3.drew := ⟨_, rfl⟩
          rw [← hw4] at h4 d4 t4 hx4 ho4 ⊢
          clear hw4 k0 k1 k2' k3 z2 z3' x0 x1 x2 x3 x4 x5 x6 hty htb
          go_wp2_with fail
          refine (hHY _).out.mono ?_
          rintro e w' ⟨rfl, rfl⟩
          cases hq : tPop 127 s with
          | error m =>
            have hc := pop_er h4.t h.wf (.inr ⟨.inr rfl, rfl⟩) hq
            have e6 : X = .error m := by rw [e5.out, hq]; rfl
            replace e6 := Lib.hid e6
            clear hq e5
            go_wp2_with fail
            refine hc.mono ?_
            rintro e w5 ⟨rfl, sv5, fv5, d5⟩
            go_wp2
            exact ⟨rfl, by rw [e6.out]; exact ⟨rfl, _, _, t4.trans d5⟩⟩
          | ok q =>
            have hc := pop_ok h4.t h.wf (.inr ⟨.inr rfl, rfl⟩) hq
            obtain ⟨hwq, hkq, _⟩ := tPop_wf h.wf hq
            have hql := tPop_len hq
            have e6 : X = tCalls t q.2 := by rw [e5.out, hq]; rfl
            replace e6 := Lib.hid e6
            clear hq e5
            go_wp2_with fail
            refine hc.mono ?_
            rintro e w5 ⟨rfl, sv5, h5', d5⟩
            have h5 := h4.go hwq h5' d5
            have t5 := t4.trans d5
            have hx5 := hx4.tw ho4 d5
            have ho5 := (ho4.tw d5).1
            obtain ⟨k0, k1, k2', k3, z2, z3'⟩ := h5.t.c
            obtain ⟨x0, x1, x2, x3, x4, x5, x6⟩ := hx5.c
            have hty := keep_below h5.b _ _ hty0
            obtain ⟨b, o, pa, pc, ra, rc, rfl, c1, c2, l1, l2⟩ := type_row h5 hrow ht
            go_wp2_with fail
            refine wp_region_still_tail 13 (by kernel_rfl) (by kernel_rfl) ?_
            simp only [List.take_succ_cons, List.take_zero, List.drop_succ_cons, List.drop_zero]
            repeat still_step
            refine wpStill_nil ?_
            change wpList _ _ _ _ _ w5.drew
            obtain ⟨h6, d6⟩ := drew_step h5
            have t6 := t5.trans d6
            have hx6 := hx5.tw ho5 d6
            have ho6 := (ho5.tw d6).1
            obtain ⟨w6, hw6⟩ : ∃ w6, w6 = w5.drew := ⟨_, rfl⟩
            rw [← hw6] at h6 d6 t6 hx6 ho6 ⊢
            clear hw6 k0 k1 k2' k3 z2 z3' x0 x1 x2 x3 x4 x5 x6 hty c1 c2
            have hc := calls_any (pc := pc) (rc := rc) h6.t hwq (l1.tw d6) (l2.tw d6) (h.ok.types t hmem).1 (h.ok.types t hmem).2 (by have := hR.types t hmem; omega)
            cases hq : tCalls t q.2 with
            | error m =>
              rw [hq] at hc
              have e7 := Lib.hid (e6.out.trans hq)
              clear hq e6
              go_wp2_with fail
              refine hc.mono ?_
              rintro e w7 ⟨rfl, sv7, fv7, d7⟩
              go_wp2
              exact ⟨rfl, by rw [e7.out]; exact ⟨rfl, _, _, t6.trans d7⟩⟩
            | ok u =>
              rw [hq] at hc
              have e7 := Lib.hid (e6.out.trans hq)
              clear hq e6
              go_wp2_with fail
              refine hc.mono ?_
              rintro e w7 ⟨rfl, sv7, h7, d7⟩
              go_wp2
              go_end0
              rw [e7.out]
              exact ⟨rfl, sv7, fv, h7, t6.trans d7⟩
        · have e5 : X = .error 61 := by
            rw [e4.out]
            show (if 0 < E.tables then (match E.types[i]? with | some t => _ | none => _) else _) = _
            rw [if_pos ht0, List.getElem?_eq_none (by omega)]
          replace e5 := Lib.hid e5
          have hHN := fun w => Lib.hid (has_no (show ¬ (i : Int) < (E.types.length : Int) by omega) w)
          clear ht0 e4
          go_wp2_with fail
          refine (hHT _).out.mono ?_
          rintro e w' ⟨rfl, rfl⟩
          go_wp2_with fail
          refine wp_region_still_tail 11 (by kernel_rfl) (by kernel_rfl) ?_
          simp only [List.take_succ_cons, List.take_zero, List.drop_succ_cons, List.drop_zero]
          repeat still_step
          refine wpStill_nil ?_
          change wpList _ _ _ _ _ w3.drew
          obtain ⟨h4, d4⟩ := drew_step h3
          have t4 := t3.trans d4
          have hx4 := hx3.tw ho3 d4
          have ho4 := (ho3.tw d4).1
          obtain ⟨w4, hw4⟩ : ∃ w4, w4 = w3.drew := ⟨_, rfl⟩
          rw [← hw4] at h4 d4 t4 hx4 ho4 ⊢
          clear hw4 k0 k1 k2' k3 z2 z3' x0 x1 x2 x3 x4 x5 x6 hty htb
          go_wp2_with fail
          refine (hHN _).out.mono ?_
          rintro e w' ⟨rfl, rfl⟩
          go_wp2
          exact ⟨rfl, by rw [e5.out]; exact ⟨rfl, _, _, t4⟩⟩
      · have e5 : X = .error 61 := by
          rw [e4.out]
          show (if 0 < E.tables then _ else _) = _
          rw [if_neg ht0]
        replace e5 := Lib.hid e5
        have hHN := fun w => Lib.hid (has_no (show ¬ (0 : Int) < (E.tables : Int) by omega) w)
        clear ht0 e4
        go_wp2_with fail
        refine (hHN _).out.mono ?_
        rintro e w' ⟨rfl, rfl⟩
        go_wp2
        exact ⟨rfl, by rw [e5.out]; exact ⟨rfl, _, _, t3⟩⟩
    · have hop := i8.out rfl
      have e4 : Hid (X = tMemory E op a s) := Lib.hid (e0.out.trans (by simp))
      have hc := memory_any h3 op a y n (.slice la ls.length lc) (.slice ao body.len k) (.slice bo els.len k2) hop hb
      replace hop := Lib.hid hop
      cases hq : tMemory E op a s with
      | error m =>
        rw [hq] at hc
        have e5 := Lib.hid (e4.out.trans hq)
        clear hq e4
        go_wp2_with fail
        refine hc.mono ?_
        rintro e w4 ⟨rfl, sv4, fv4, d4⟩
        go_wp2
        exact ⟨rfl, by rw [e5.out]; exact ⟨rfl, _, _, t3.trans d4⟩⟩
      | ok u =>
        rw [hq] at hc
        have e5 := Lib.hid (e4.out.trans hq)
        clear hq e4
        go_wp2_with fail
        refine hc.mono ?_
        rintro e w4 ⟨rfl, sv4, h4, d4⟩
        go_wp2
        go_end0
        rw [e5.out]
        exact ⟨rfl, sv4, fv, h4, t3.trans d4⟩
    · have hop := i9.out rfl
      rcases hop with rfl | rfl
      · have e5 : Hid (X = .ok (tPush [127] s)) := Lib.hid (e0.out.trans (by simp))
        have hpu := push1 h3.t (t := 127) (v := 127) rfl hb
        go_wp2_with fail
        refine hpu.mono ?_
        rintro e w4 ⟨rfl, sv4, h4, d4⟩
        go_wp2
        go_end0
        rw [e5.out]
        exact ⟨rfl, sv4, fv, h4, t3.trans d4⟩
      · have e5 : Hid (X = .ok (tPush [126] s)) := Lib.hid (e0.out.trans (by simp))
        have hpu := push1 h3.t (t := 126) (v := 126) rfl hb
        go_wp2_with fail
        refine hpu.mono ?_
        rintro e w4 ⟨rfl, sv4, h4, d4⟩
        go_wp2
        go_end0
        rw [e5.out]
        exact ⟨rfl, sv4, fv, h4, t3.trans d4⟩
end

end Go.Proofs.YtacohbllbjgdgaaDoor
