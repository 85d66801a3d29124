/- DecodeCustom: the walk. -/
import Derived.Test.YtkbfjkbokifgkaaGreatDoorCs
namespace Go.Proofs.YtkbfjkbokifgkaaGreatDoor
open Go.RowKit
set_option linter.unusedVariables false
set_option linter.unusedSimpArgs false
theorem dec_wipe {w w' : World} {s : ByteArray} {e : Ending} (h : DecV w s e w') (p : Nat) (hp : p < w.heap.size) : DecS (gModule (strl s)) (wipe p w') e := by
 rcases h with ⟨m, cd, q, a0, a1, a2, a3, a4, a5, a6, a7, a8, a9, k0, k1, k2, k3, k4, k5, k6, k7, k8, k9, hg, he, hM⟩ | ⟨n, hg, he⟩
 · refine ⟨m, 0, a0, a1, a2, a3, a4, a5, a6, a7, a8, a9, k0, k1, k2, k3, k4, k5, k6, k7, k8, k9, .inl ⟨hg, rfl⟩, he, ms_mds (hM.old (S := (· = p)) (N' := w.heap.size) ⟨rfl, rfl, rfl, ?_, fun k _ hs => wipe_at hs⟩ (fun b hb => by omega) (Nat.le_refl _))⟩; unfold wipe; simp
 · exact ⟨md0, n, none, none, none, none, none, none, none, none, none, none, 0, 0, 0, 0, 0, 0, 0, 0, 0, 0, .inr ⟨hg, rfl⟩, he, mds_nil⟩
set_option maxRecDepth 100000
set_option maxHeartbeats 4000000
theorem cusw_any (m : Md) (hN : NOk m) (a0 : Option Addr) (k0 : Nat) (a1 : Option Addr) (k1 : Nat) (a2 : Option Addr) (k2 : Nat) (a3 : Option Addr) (k3 : Nat) (a4 : Option Addr) (k4 : Nat) (a5 : Option Addr) (k5 : Nat) (a6 : Option Addr) (k6 : Nat) (a7 : Option Addr) (k7 : Nat) (a8 : Option Addr) (k8 : Nat) (a9 : Option Addr) (k9 : Nat) (w : World) (h : MdAt w m a0 k0 a1 k1 a2 k2 a3 k3 a4 k4 a5 k5 a6 k6 a7 k7 a8 k8 a9 k9) (hT : TabU w) (at_ : Int) (name bytes : ByteArray) :
 Calls Tryz.prog 4 #[mdV m a0 k0 a1 k1 a2 k2 a3 k3 a4 k4 a5 k5 a6 k6 a7 k7 a8 k8 a9 k9, .agg #[.int .i64 at_, .string name, .string bytes]] w fun e w' => e = .returned (.bool true) ∧ Below w.heap.size w w' := by
 have mx : Tryz.prog.follows .mixedOrders = true := (by kernel_rfl)
 have hBa : Below w.heap.size w (w.alloc (.cells #[.slice a0 m.types.length k0, .slice a1 m.imports.length k1, .slice a2 m.funcs.length k2, .slice a3 m.tables.length k3, .slice a4 m.mems.length k4, .slice a5 m.globals.length k5, .slice a6 m.exports.length k6, .slice a7 m.start.length k7, .slice a8 m.elems.length k8, .slice a9 m.datas.length k9] 33)) := (Below.refl _ _).alloc (Nat.le_refl _) _; have hK0 : Bk (w.alloc (.cells #[.slice a0 m.types.length k0, .slice a1 m.imports.length k1, .slice a2 m.funcs.length k2, .slice a3 m.tables.length k3, .slice a4 m.mems.length k4, .slice a5 m.globals.length k5, .slice a6 m.exports.length k6, .slice a7 m.start.length k7, .slice a8 m.elems.length k8, .slice a9 m.datas.length k9] 33)) w.heap.size [.slice a0 m.types.length k0, .slice a1 m.imports.length k1, .slice a2 m.funcs.length k2, .slice a3 m.tables.length k3, .slice a4 m.mems.length k4, .slice a5 m.globals.length k5, .slice a6 m.exports.length k6, .slice a7 m.start.length k7, .slice a8 m.elems.length k8, .slice a9 m.datas.length k9] 33 := Bk.new w [.slice a0 m.types.length k0, .slice a1 m.imports.length k1, .slice a2 m.funcs.length k2, .slice a3 m.tables.length k3, .slice a4 m.mems.length k4, .slice a5 m.globals.length k5, .slice a6 m.exports.length k6, .slice a7 m.start.length k7, .slice a8 m.elems.length k8, .slice a9 m.datas.length k9] 33; obtain ⟨wa, hwa⟩ : ∃ wa, wa = w.alloc (.cells #[.slice a0 m.types.length k0, .slice a1 m.imports.length k1, .slice a2 m.funcs.length k2, .slice a3 m.tables.length k3, .slice a4 m.mems.length k4, .slice a5 m.globals.length k5, .slice a6 m.exports.length k6, .slice a7 m.start.length k7, .slice a8 m.elems.length k8, .slice a9 m.datas.length k9] 33) := ⟨_, rfl⟩
 have hBb : Below w.heap.size w (wa.alloc (.cells #[.int .i64 at_, .string name, .string bytes] 42)) := (by rw [← hwa] at hBa; exact hBa.alloc hBa.size _)
 have hK1 : Bk (wa.alloc (.cells #[.int .i64 at_, .string name, .string bytes] 42)) (w.heap.size + 1) [.int .i64 at_, .string name, .string bytes] 42 := by
  have := Bk.new wa [.int .i64 at_, .string name, .string bytes] 42
  rwa [show wa.heap.size = w.heap.size + 1 by rw [hwa]; simp] at this
 obtain ⟨w0, hw0⟩ : ∃ w0, w0 = wa.alloc (.cells #[.int .i64 at_, .string name, .string bytes] 42) := ⟨_, rfl⟩
 have hK2 : Bk w0 w.heap.size [.slice a0 m.types.length k0, .slice a1 m.imports.length k1, .slice a2 m.funcs.length k2, .slice a3 m.tables.length k3, .slice a4 m.mems.length k4, .slice a5 m.globals.length k5, .slice a6 m.exports.length k6, .slice a7 m.start.length k7, .slice a8 m.elems.length k8, .slice a9 m.datas.length k9] 33 := by rw [← hwa] at hK0; rw [hw0]; exact hK0.below ((Below.refl _ _).alloc (Nat.le_refl _) _)
 rw [← hw0] at hBb hK1; have HM0 := zh (h.keep (keep_below hBb)); have HT0 := zh (hT.below hBb); clear hK0 hBa h hT; replace hK1 := zh hK1; replace hK2 := zh hK2; replace hBb := zh hBb; replace hN := zh hN; replace mx := zh mx; unfold mdV; go_enter Tryz.func4, Tryz.ntmps4
 go_upto_region 1 with (fail)
 rw [← hwa, ← hw0]; clear hwa hw0; have c0 := hK1.out.cell (j := 0) rfl; have c1 := hK1.out.cell (j := 1) rfl; have c2 := hK1.out.cell (j := 2) rfl
 go_quiet (fail)
 obtain ⟨w1, hw1⟩ : ∃ w1, w1 = w0.drewN nq := ⟨_, rfl⟩
 rw [← hw1]; have hb1 : Below w0.heap.size w0 w1 := (by rw [hw1]; exact belowN (Below.refl _ _) nq)
 clear hw1 c0 c1 c2 hK1; have hB0 := hBb; have hK0 := hK2; clear hBb hK2; have hB1 := zh (hB0.out.trans (hb1.mono hB0.out.size)); have HM1 := zh (HM0.out.keep (keep_below hb1)); have HT1 := zh (HT0.out.below hb1); have hK1 := zh (hK0.out.below hb1); clear hb1 HM0 hB0 HT0 hK0; have x0 := hK1.out.cell (j := 0) rfl; have x1 := hK1.out.cell (j := 1) rfl; have x2 := hK1.out.cell (j := 2) rfl; have x3 := hK1.out.cell (j := 3) rfl; have x4 := hK1.out.cell (j := 4) rfl; have x5 := hK1.out.cell (j := 5) rfl; have x6 := hK1.out.cell (j := 6) rfl; have x7 := hK1.out.cell (j := 7) rfl; have x8 := hK1.out.cell (j := 8) rfl; have x9 := hK1.out.cell (j := 9) rfl; go_wp2_with fail; refine (large_any m a0 k0 a1 k1 a2 k2 a3 k3 a4 k4 a5 k5 a6 k6 a7 k7 a8 k8 a9 k9 w1 HM1.out).mono ?_; rintro e w2 ⟨L, rfl, hS, hb2⟩; replace hS := zh hS; clear x0 x1 x2 x3 x4 x5 x6 x7 x8 x9; have hB2 := zh (hB1.out.trans (hb2.mono hB1.out.size)); have HM2 := zh (HM1.out.keep (keep_below hb2)); have HT2 := zh (HT1.out.below hb2); have hK2 := zh (hK1.out.below hb2); clear hb2 HM1 hB1 HT1 hK1; cases L
 · have hS1 := zh (hS.out rfl); clear hS
   by_cases hn : name.size ≤ 300
   · have hn' : ¬ (300 : Int) < (name.size : Int) := (by omega)
     by_cases hy : bytes.size ≤ 300
     · have hy' : ¬ (300 : Int) < (bytes.size : Int) := (by omega)
       have x0 := hK2.out.cell (j := 0) rfl; have x1 := hK2.out.cell (j := 1) rfl; have x2 := hK2.out.cell (j := 2) rfl; have x3 := hK2.out.cell (j := 3) rfl; have x4 := hK2.out.cell (j := 4) rfl; have x5 := hK2.out.cell (j := 5) rfl; have x6 := hK2.out.cell (j := 6) rfl; have x7 := hK2.out.cell (j := 7) rfl; have x8 := hK2.out.cell (j := 8) rfl; have x9 := hK2.out.cell (j := 9) rfl; go_wp2_with fail; refine (renc_any m a0 k0 a1 k1 a2 k2 a3 k3 a4 k4 a5 k5 a6 k6 a7 k7 a8 k8 a9 k9 w2 HM2.out (fun t ht => (hS1.out.datas t ht).1) (fit_of hN.out)).mono ?_; rintro e w3 ⟨rfl, hb3⟩; clear x0 x1 x2 x3 x4 x5 x6 x7 x8 x9; have hB3 := zh (hB2.out.trans (hb3.mono hB2.out.size)); have HM3 := zh (HM2.out.keep (keep_below hb3)); have HT3 := zh (HT2.out.below hb3); have hK3 := zh (hK2.out.below hb3); clear hb3 HM2 hB2 HT2 hK2; obtain ⟨E, hE⟩ : ∃ E, encE m = E := ⟨_, rfl⟩
       obtain ⟨S0, hS0⟩ : ∃ S0, mks (encB m) = S0 := ⟨_, rfl⟩
       rw [hE, hS0]
       by_cases hE0 : E = 0
       · subst hE0; obtain ⟨hcv, hlx, hex⟩ := encE_ok hE; rw [hex] at hS0; have hsz : S0.size = (xMd m).length := (by rw [← hS0, mks_size])
         have hst : strl S0 = xMd m := (by rw [← hS0, strl_mks])
         clear hE hex hS0
         by_cases h2 : (xMd m).length ≤ 20000
         · have h2' : ¬ (20000 : Int) < (S0.size : Int) := (by omega)
           have hck := zh (cks_md hcv (nm_of hN.out) hlx); clear hcv hlx h2; have h8 : 8 ≤ S0.size := (by rw [hsz, hck.out.eq, List.length_append]; show 8 ≤ 8 + _; omega)
           have h26 : S0.size ≤ 262144 := (by omega)
           replace hst := zh hst; replace hsz := zh hsz; go_wp2_with fail; refine (ends_any h26 h8).mono ?_; rintro e w4 ⟨v, rfl, hEd⟩; have hb4 := hEd.below; obtain ⟨X, hX⟩ : ∃ X, X = 8 :: endsOf (strl S0) (S0.size + 1) 8 := ⟨_, rfl⟩
           rw [← hX] at hEd; replace hX := zh hX; have hown := hEd.own; clear hEd; have hB4 := zh (hB3.out.trans (hb4.mono hB3.out.size)); have HM4 := zh (HM3.out.keep (keep_below hb4)); have HT4 := zh (HT3.out.below hb4); have hK4 := zh (hK3.out.below hb4); clear hb4 HM3 hB3 HT3 hK3
           obtain ⟨g, cap, rfl⟩ : ∃ g cap, v = .slice (some ⟨g, 0, none⟩) X.length cap := by
            rcases hown.2 with ⟨_, h0⟩ | ⟨g, cap, cur, h, _⟩
            · rw [hX.out] at h0; cases h0
            · exact ⟨g, cap, h⟩
           have hcell : ∀ (i x : Nat), X[i]? = some x → w4.cell? ⟨g, i, none⟩ = some (.int .i64 (x : Int)) := fun i x h => by
            have := hown.cells (g := g) rfl i (.int .i64 (x : Int)) (by unfold intsV; rw [List.getElem?_map, h]; rfl); rw [show ((⟨g, 0, none⟩ : Addr).add i) = ⟨g, i, none⟩ from by cases i <;> simp [Addr.add]] at this; exact this
           have hXl : 1 ≤ X.length ∧ X.length ≤ 262144 := by rw [hX.out, hst.out, hsz.out, ends_md hck.out, List.length_cons, endsC_len]; have := cks_many (cksOf m 0 (scs m)); have := congrArg List.length hck.out.eq; rw [List.length_append] at this; have := hsz.out; omega
           clear hown; go_wp2_with fail; refine (mod_any at_ X.length hXl.1 hXl.2 _).mono ?_; rintro e w5 ⟨⟨k, hk, rfl⟩, rfl⟩; obtain ⟨x, hx⟩ : ∃ x, X[k]? = some x := ⟨X[k], List.getElem?_eq_getElem hk⟩
           have hxc := hcell k x hx; have hxm := zh (List.mem_of_getElem? hx); have hki : (k : Int) < (X.length : Int) := (by omega)
           have hxl : Hid (X.length ≤ 262144) := zh hXl.2; clear hcell hx hXl; go_wp2_with fail; refine (rputU_any name.size (by omega) _).mono ?_; rintro e w6 ⟨rfl, hb6⟩; obtain ⟨u0, hu0⟩ : ∃ u0, mks (lebU name.size) = u0 := ⟨_, rfl⟩
           have hu0l : u0.size ≤ 10 := (by rw [← hu0, mks_size]; exact lebU_ten (by omega))
           rw [hu0]; replace hu0 := zh hu0; have hB6 := zh (hB4.out.trans (hb6.mono hB4.out.size)); have HM6 := zh (HM4.out.keep (keep_below hb6)); have HT6 := zh (HT4.out.below hb6); have hK6 := zh (hK4.out.below hb6); clear hb6 HM4 hB4 HT4 hK4
           go_upto_region 10 with (fail)
           obtain ⟨tin, htin⟩ : ∃ tin, u0 ++ name ++ bytes = tin := ⟨_, rfl⟩
           rw [htin]; have htz : tin.size ≤ 610 := (by rw [← htin, ByteArray.size_append, ByteArray.size_append]; omega)
           have hcus : Hid (strl tin = cus (strl name) (strl bytes)) := zh (by
            rw [← htin, ← hu0.out]; unfold cus xLg; rw [strl_append, strl_append, strl_mks, uB_nat' name.size (by omega), strl_length])
           obtain ⟨U, hU⟩ : ∃ U, S0.extract 0 x ++ ⟨#[0]⟩ ++ mks (lebU tin.size) ++ tin ++ S0.extract x S0.size = U := ⟨_, rfl⟩
           have hpl := custom_plain hck.out (by rw [← hsz.out]; omega) (x := x) (by rw [← hst.out, strl_length, ← hX.out]; exact hxm.out) (name := strl name) (bytes := strl bytes) (by rw [strl_length]; exact hn) (by rw [strl_length]; exact hy); have hxs : x ≤ S0.size := (by rw [hsz.out]; exact hpl.1)
           have hgU : gModule (strl U) = if Lib.validD (strl name) = true then .ok m else .error 50 := by rw [← hpl.2, ← hU, strl_append, strl_append, strl_append, strl_append, strl_mks, strl_ext, strl_ext, List.drop_zero, hcus.out, uB_nat' tin.size (by omega), hst.out]; congr 1; rw [← strl_length tin, hcus.out, List.take_of_length_le (i := S0.size) (l := xMd m) (by rw [hsz.out]; exact Nat.le_refl _)]; rfl
           obtain ⟨M, n', hMn, hV1, hV2⟩ : ∃ M n', ((gModule (strl U) = .ok M ∧ n' = 0) ∨ (gModule (strl U) = .error n' ∧ M = md0)) ∧ (Lib.validD (strl name) = true → n' = 0 ∧ M = m) ∧ (¬ Lib.validD (strl name) = true → n' = 50) := by
            by_cases hv : Lib.validD (strl name) = true
            · exact ⟨m, 0, .inl ⟨by rw [hgU, if_pos hv], rfl⟩, fun _ => ⟨rfl, rfl⟩, fun h => absurd hv h⟩
            · exact ⟨md0, 50, .inr ⟨by rw [hgU, if_neg hv], rfl⟩, fun h => absurd h hv, fun _ => rfl⟩
           clear hgU hpl hcus hck; replace hMn := zh hMn; refine wpv_then ?_; intro K hK
           go_cut [13, 14] from 64 to 82 (fun v13 v14 wx => ∃ (p : Nat) (b0 b1 b2 b3 b4 b5 b6 b7 b8 b9 : Option Addr) (r0 r1 r2 r3 r4 r5 r6 r7 r8 r9 : Nat), v13 = .pointer (some ⟨p, 0, none⟩) ∧ v14 = .int .i64 n' ∧ Hid (Bk wx p [.slice b0 M.types.length r0, .slice b1 M.imports.length r1, .slice b2 M.funcs.length r2, .slice b3 M.tables.length r3, .slice b4 M.mems.length r4, .slice b5 M.globals.length r5, .slice b6 M.exports.length r6, .slice b7 M.start.length r7, .slice b8 M.elems.length r8, .slice b9 M.datas.length r9] 33) ∧ Hid (MdS wx M b0 b1 b2 b3 b4 b5 b6 b7 b8 b9) ∧ Hid (Below w6.heap.size w6 wx))
           case first =>
            refine wp_fv _ 101 rfl (region_boxl mx.out 101 21 19 20 17 [65, 66, 67, 68, 69, 70, 71, 72, 73, 74, 75, 76, 77, 78, 79, 80, 64, 81, 82, 13, 14] 33 (List.replicate 10 (.slice none 0 0)).toArray (fun v cs => v = .agg cs)
             [isV (.string S0), isV (.int .i64 x), isV (.string (S0.extract 0 x)), isV (.string (S0.extract 0 x ++ ⟨#[0]⟩)), isV (.string tin), isV (.int .i64 tin.size), isV (.int .u64 tin.size), isV (.string (mks (lebU tin.size))), isV (.string (S0.extract 0 x ++ ⟨#[0]⟩ ++ mks (lebU tin.size))), isV (.string tin), isV (.string (S0.extract 0 x ++ ⟨#[0]⟩ ++ mks (lebU tin.size) ++ tin)),
              isV (.string S0), isV (.int .i64 x), isV (.string (S0.extract x S0.size)), isV (.string U), TuD M n', TuD M n', TuM M, isV (.int .i64 n'), fun _ _ => True, fun _ _ => True, fun _ _ => True]
             rfl (by kernel_rfl) (by kernel_rfl) (by kernel_rfl) (by kernel_rfl) rfl rfl ?_ ?_ ?_ ?_ ?_)
            · intro r hr v wp wq hk h; simp only [List.mem_cons, List.not_mem_nil, or_false] at hr
              rcases hr with rfl | rfl | rfl | rfl | rfl | rfl | rfl | rfl | rfl | rfl | rfl | rfl | rfl | rfl | rfl | rfl | rfl | rfl | rfl | rfl | rfl | rfl
              all_goals first | exact h | exact TuD.keep h hk | exact TuM.keep h hk
            · intro f wf hbf ho; have e8 : f 8 = .string S0 := ho 8 (by decide); have e11 : f 11 = .int .i64 x := ho 11 (by decide); have e12 : f 12 = .string tin := ho 12 (by decide); clear ho; have hTf := HT6.out.below hbf; replace hbf := zh hbf; have q0 : (S0.extract 0 x).size ≤ 20000 := (by rw [ByteArray.size_extract]; omega)
              have q4 : (S0.extract x S0.size).size ≤ 20000 := (by rw [ByteArray.size_extract]; omega)
              have q2 : (mks (lebU tin.size)).size ≤ 10 := (by rw [mks_size]; exact lebU_ten (by omega))
              have q5 : (⟨#[0]⟩ : ByteArray).size = 1 := rfl; have q6 : (S0.extract 0 x ++ ⟨#[0]⟩ : ByteArray).size ≤ 20001 := (by rw [ByteArray.size_append]; omega)
              have q7 : (S0.extract 0 x ++ ⟨#[0]⟩ ++ mks (lebU tin.size) : ByteArray).size ≤ 20011 := (by rw [ByteArray.size_append]; omega)
              have q8 : (S0.extract 0 x ++ ⟨#[0]⟩ ++ mks (lebU tin.size) ++ tin : ByteArray).size ≤ 20621 := (by rw [ByteArray.size_append]; omega)
              have hxs' : (x : Int) ≤ (S0.size : Int) := (by omega)
              have hwz : IntKind.u64.wrap (tin.size : Int) = (tin.size : Int) := (by rw [IntKind.wrap_u64]; omega)
              iterate 15 (refine .run rfl ?_ ?_; rotate_left)
              refine .tell rfl ?_ (.tell rfl ?_ (.tell rfl ?_ (.run rfl ?_ (.pass rfl (.pass rfl (.pass rfl .nil))))))
              all_goals
               intro hv K' hK'; simp [NeedsR, Region.binds, isV] at hv
              · go_simp; (try simp (disch := decide) only [fv_t, hv])
                go_at_call 10
                refine (dec_any (s := U) hTf).mono ?_; rintro e w4 ⟨hB, hV⟩; obtain ⟨v, rfl⟩ := decs_ret (decS_of hV); go_simp; rw [fv_set]; exact hK' v w4 hB (rd_of (decS_of hV) hMn.out) (fun p _ hp _ => rd_of (dec_wipe hV p hp) hMn.out)
              · go_simp; (try simp (disch := decide) only [fv_t]); rw [fv_set]; exact hK' _ _ (Below.refl _ _) hv (fun p _ _ hq => by simp [NeedsR, Region.binds] at hq; exact hq)
              · obtain ⟨a0, a1, a2, a3, a4, a5, a6, a7, a8, a9, k0, k1, k2, k3, k4, k5, k6, k7, k8, k9, ev, hm⟩ := id hv; go_simp; (try simp (disch := decide) only [fv_t, ev, mdV]); (try go_simp); rw [fv_set]
                exact hK' _ _ (Below.refl _ _) ⟨a0, a1, a2, a3, a4, a5, a6, a7, a8, a9, k0, k1, k2, k3, k4, k5, k6, k7, k8, k9, rfl, hm⟩ (fun p _ _ hq => by
                 simp [NeedsR, Region.binds] at hq; obtain ⟨d0, d1, d2, d3, d4, d5, d6, d7, d8, d9, j0, j1, j2, j3, j4, j5, j6, j7, j8, j9, ew, hm2⟩ := hq; rw [ev] at ew
                 injection ew with ew
                 have ew2 := congrArg Array.toList ew; simp at ew2; exact ⟨d0, d1, d2, d3, d4, d5, d6, d7, d8, d9, j0, j1, j2, j3, j4, j5, j6, j7, j8, j9, ew2, hm2⟩)
              · obtain ⟨a0, a1, a2, a3, a4, a5, a6, a7, a8, a9, k0, k1, k2, k3, k4, k5, k6, k7, k8, k9, ev, hm⟩ := id hv; go_simp; (try simp (disch := decide) only [fv_t, ev, mdV]); (try go_simp); exact hK' _ _ ⟨fv_set _ _, Below.refl _ _⟩
              all_goals
               go_simp; (try simp (disch := decide) only [fv_t, hv, e8, e11, e12]); (try go_simp); (try simp only [hwz, if_pos hxs', if_neg (show ¬ (x : Int) < 0 by omega)])
               first
                | (exact hK' _ _ ⟨fv_set _ _, Below.refl _ _⟩)
                | (go_at_call 17; refine (rputU_any tin.size (by omega) _).mono ?_; rintro e w4 ⟨rfl, hB⟩; go_simp; exact hK' _ _ ⟨fv_set _ _, hB⟩)
                | (rw [if_neg (by omega)]; (try go_simp); exact hK' _ _ ⟨fv_set _ _, Below.refl _ _⟩)
                | (rw [if_neg (by omega)]; (try go_simp); rw [hU]; exact hK' _ _ ⟨fv_set _ _, Below.refl _ _⟩)
            · intro f wf; refine wpOp_step rfl fun K' hK' => ?_; rw [if_pos (wanted_none rfl)]; go_simp; exact hK' _ _ ⟨fv_set _ _, rfl⟩
            · intro f wf p hp hf hz hr; obtain ⟨c0, c1, c2, c3, c4, c5, c6, c7, c8, c9, j0, j1, j2, j3, j4, j5, j6, j7, j8, j9, ev, hm⟩ := id hr; replace ev : f 81 = _ := ev; replace hf : f 13 = .pointer (some ⟨p, 0, none⟩) := hf; refine wpOp_step rfl fun K' hK' => ?_; rw [if_pos (wanted_none rfl)]; go_simp; simp (disch := decide) only [fv_t, hf, ev, mdV]; go_simp; have hb0 : Bk wf p [.slice none 0 0, .slice none 0 0, .slice none 0 0, .slice none 0 0, .slice none 0 0, .slice none 0 0, .slice none 0 0, .slice none 0 0, .slice none 0 0, .slice none 0 0] 33 := ⟨hz⟩
              have c0 := hb0.cell (j := 0) rfl; have c1 := hb0.cell (j := 1) rfl; have c2 := hb0.cell (j := 2) rfl; have c3 := hb0.cell (j := 3) rfl; have c4 := hb0.cell (j := 4) rfl; have c5 := hb0.cell (j := 5) rfl; have c6 := hb0.cell (j := 6) rfl; have c7 := hb0.cell (j := 7) rfl; have c8 := hb0.cell (j := 8) rfl; have c9 := hb0.cell (j := 9) rfl; have hfz := hb0.fr; simp (disch := simp) only [World.cell?_setCell_other, World.frozen?_setCell, c0, c1, c2, c3, c4, c5, c6, c7, c8, c9, hfz, Bool.false_eq_true, if_false]; go_simp; refine hK' _ _ ⟨rfl, ⟨_, (((((((((hb0.set 0 _).set 1 _).set 2 _).set 3 _).set 4 _).set 5 _).set 6 _).set 7 _).set 8 _ |>.set 9 _).row, ev⟩, fun b hb => ?_, ?_⟩
              · rw [Below.heap_setCell _ _ _ _ (show b ≠ p from hb), Below.heap_setCell _ _ _ _ (show b ≠ p from hb), Below.heap_setCell _ _ _ _ (show b ≠ p from hb), Below.heap_setCell _ _ _ _ (show b ≠ p from hb), Below.heap_setCell _ _ _ _ (show b ≠ p from hb), Below.heap_setCell _ _ _ _ (show b ≠ p from hb), Below.heap_setCell _ _ _ _ (show b ≠ p from hb), Below.heap_setCell _ _ _ _ (show b ≠ p from hb), Below.heap_setCell _ _ _ _ (show b ≠ p from hb), Below.heap_setCell _ _ _ _ (show b ≠ p from hb)]
              · exact ((((((((((Below.refl p wf).setCell (Nat.le_refl p) _).setCell (Nat.le_refl p) _).setCell (Nat.le_refl p) _).setCell (Nat.le_refl p) _).setCell (Nat.le_refl p) _).setCell (Nat.le_refl p) _).setCell (Nat.le_refl p) _).setCell (Nat.le_refl p) _).setCell (Nat.le_refl p) _).setCell (Nat.le_refl p) _
            · intro f wf p cs hbf hp ho hf hz hG hr; have e82 : f 82 = .int .i64 n' := hr 18 (by decide); obtain ⟨c0, c1, c2, c3, c4, c5, c6, c7, c8, c9, j0, j1, j2, j3, j4, j5, j6, j7, j8, j9, e81, hm⟩ := hr 17 (by decide); replace hG : f 81 = .agg cs := hG; replace e81 : f 81 = _ := e81; rw [hG] at e81
              injection e81 with e81
              subst e81; have hout := wipe_keeps p wf; have hfe := box_out ho 13 14 64 19 (by decide) (.int .i64 n') hf; clear ho hr hG hf; have hKp : Hid (Bk wf p [.slice c0 M.types.length j0, .slice c1 M.imports.length j1, .slice c2 M.funcs.length j2, .slice c3 M.tables.length j3, .slice c4 M.mems.length j4, .slice c5 M.globals.length j5, .slice c6 M.exports.length j6, .slice c7 M.start.length j7, .slice c8 M.elems.length j8, .slice c9 M.datas.length j9] 33) := zh ⟨hz⟩; replace hm := zh (hm.keep hout); replace hbf := zh hbf; clear hz hout; refine wpOp_step rfl fun K' hK' => ?_; rw [if_pos (wanted_none rfl)]; go_simp; (try simp (disch := decide) only [fv_t, e82]); refine hK' _ _ ?_; rw [fv_set, show Fv 101 (upv f 14 (.int .i64 n')) = _ from congrArg _ hfe]; clear hfe e82; go_wp2_with fail; go_meet; exact ⟨p, c0, c1, c2, c3, c4, c5, c6, c7, c8, c9, j0, j1, j2, j3, j4, j5, j6, j7, j8, j9, rfl, rfl, hKp, hm, hbf⟩
           case' rest =>
            obtain ⟨p, b0, b1, b2, b3, b4, b5, b6, b7, b8, b9, r0, r1, r2, r3, r4, r5, r6, r7, r8, r9, rfl, rfl, hKp, hMS, hbx⟩ := hcut; refine (hK _ _).2 ?_; clear hK hMn hxm hX htz htin; have hb7 := hbx.out; clear hbx; have hB7 := zh (hB6.out.trans (hb7.mono hB6.out.size)); have HM7 := zh (HM6.out.keep (keep_below hb7)); have HT7 := zh (HT6.out.below hb7); have hK7 := zh (hK6.out.below hb7); clear hb7 HM6 hB6 HT6 hK6
            by_cases hv : Lib.validD (strl name) = true
            · obtain ⟨rfl, rfl⟩ := hV1 hv; clear hV1 hV2; have hv' : Lib.validD name.data.toList = true := hv; clear hv; have x0 := hK7.out.cell (j := 0) rfl; have x1 := hK7.out.cell (j := 1) rfl; have x2 := hK7.out.cell (j := 2) rfl; have x3 := hK7.out.cell (j := 3) rfl; have x4 := hK7.out.cell (j := 4) rfl; have x5 := hK7.out.cell (j := 5) rfl; have x6 := hK7.out.cell (j := 6) rfl; have x7 := hK7.out.cell (j := 7) rfl; have x8 := hK7.out.cell (j := 8) rfl; have x9 := hK7.out.cell (j := 9) rfl; have z0 := hKp.out.cell (j := 0) rfl; have z1 := hKp.out.cell (j := 1) rfl; have z2 := hKp.out.cell (j := 2) rfl; have z3 := hKp.out.cell (j := 3) rfl; have z4 := hKp.out.cell (j := 4) rfl; have z5 := hKp.out.cell (j := 5) rfl; have z6 := hKp.out.cell (j := 6) rfl; have z7 := hKp.out.cell (j := 7) rfl; have z8 := hKp.out.cell (j := 8) rfl; have z9 := hKp.out.cell (j := 9) rfl; go_wp2_with fail; refine (utf_any name _ (by omega)).mono ?_; rintro e w8 ⟨rfl, rfl⟩; rw [hv']; go_wp2_with fail; refine (same_true M a0 k0 a1 k1 a2 k2 a3 k3 a4 k4 a5 k5 a6 k6 a7 k7 a8 k8 a9 k9 b0 r0 b1 r1 b2 r2 b3 r3 b4 r4 b5 r5 b6 r6 b7 r7 b8 r8 b9 r9 _ HM7.out.s hMS.out).mono ?_; rintro e w9 ⟨rfl, hb9⟩; clear x0 x1 x2 x3 x4 x5 x6 x7 x8 x9; clear z0 z1 z2 z3 z4 z5 z6 z7 z8 z9; have hB9 := zh (hB7.out.trans (hb9.mono hB7.out.size)); have HM9 := zh (HM7.out.keep (keep_below hb9)); have HT9 := zh (HT7.out.below hb9); have hK9 := zh (hK7.out.below hb9); clear hb9 HM7 hB7 HT7 hK7; go_wp2_with fail
              refine (wakes_any HT9.out).mono ?_; rintro e wz ⟨rfl, hbz⟩; have hBz := zh (hB9.out.trans (hbz.mono hB9.out.size)); clear hbz; go_wp2_with fail; go_ret; exact ⟨rfl, hBz.out⟩
            · obtain rfl := hV2 hv; clear hV1 hV2 hKp hMS; have hv' : Lib.validD name.data.toList = false := Bool.eq_false_iff.2 hv; clear hv; go_wp2_with fail; refine (utf_any name _ (by omega)).mono ?_; rintro e w8 ⟨rfl, rfl⟩; rw [hv']; go_wp2_with fail; refine (wakes_any HT7.out).mono ?_; rintro e wz ⟨rfl, hbz⟩; have hBz := zh (hB7.out.trans (hbz.mono hB7.out.size)); clear hbz; go_wp2_with fail; go_ret; exact ⟨rfl, hBz.out⟩
         · have h2' : (20000 : Int) < (S0.size : Int) := (by omega)
           clear hcv hlx hsz hst hS1; go_wp2_with fail; refine (wakes_any HT3.out).mono ?_; rintro e wz ⟨rfl, hbz⟩; have hBz := zh (hB3.out.trans (hbz.mono hB3.out.size)); clear hbz; go_wp2_with fail; go_ret; exact ⟨rfl, hBz.out⟩
       · have hz : (E != 0) = true := (by simpa using hE0)
         clear hE hS0; go_wp2_with fail; refine (wakes_any HT3.out).mono ?_; rintro e wz ⟨rfl, hbz⟩; have hBz := zh (hB3.out.trans (hbz.mono hB3.out.size)); clear hbz; go_wp2_with fail; go_ret; exact ⟨rfl, hBz.out⟩
     · have hy' : (300 : Int) < (bytes.size : Int) := (by omega)
       go_wp2_with fail; refine (wakes_any HT2.out).mono ?_; rintro e wz ⟨rfl, hbz⟩; have hBz := zh (hB2.out.trans (hbz.mono hB2.out.size)); clear hbz; go_wp2_with fail; go_ret; exact ⟨rfl, hBz.out⟩
   · have hn' : (300 : Int) < (name.size : Int) := (by omega)
     go_wp2_with fail; refine (wakes_any HT2.out).mono ?_; rintro e wz ⟨rfl, hbz⟩; have hBz := zh (hB2.out.trans (hbz.mono hB2.out.size)); clear hbz; go_wp2_with fail; go_ret; exact ⟨rfl, hBz.out⟩
 · go_wp2_with fail; refine (wakes_any HT2.out).mono ?_; rintro e wz ⟨rfl, hbz⟩; have hBz := zh (hB2.out.trans (hbz.mono hB2.out.size)); clear hbz; go_wp2_with fail; go_ret; exact ⟨rfl, hBz.out⟩
end Go.Proofs.YtkbfjkbokifgkaaGreatDoor
namespace Go.Proofs.YtkbfjkbokifgkaaGreatDoor
open Go.ChangeShapes Go.WideShapes Go.ChangeAt Go.RowKit
set_option linter.unusedVariables false
set_option maxRecDepth 100000
theorem cells42 : Tryz.prog.cellsOf 42 = 3 := by kernel_rfl
theorem open_between {H : Type} {enc : TypeId × Value → H} {w : World} {base base0 : Nat} {sp : Nat → Bool} {held : Bool} {v : Value} {d : DataW H} {ps : List MemPlace} (hval : Value.okWide Tryz.prog w .any base0 42 v) (hd : DataW.Trod enc Tryz.prog w base sp held 42 v d ps) :
 ∃ (a : Int) (s t : ByteArray), v = .agg #[.int .i64 a, .string s, .string t] := by
 unfold Value.okWide at hval; rw [Tryz.underlying42] at hval; obtain ⟨cs, rfl, hsz, _⟩ := hval; rw [cells42] at hsz; obtain ⟨fuel, hf⟩ := hd; obtain ⟨_, n, hn, hf⟩ := struct_field Tryz.underlying42 hf; obtain ⟨cs⟩ := cs; rw [List.size_toArray] at hsz
 rcases cs with _ | ⟨x0, _ | ⟨x1, _ | ⟨x2, _ | ⟨x3, cs⟩⟩⟩⟩
 all_goals first | (exfalso; simp only [List.length_cons, List.length_nil] at hsz; omega) | skip
 obtain ⟨y0, f0⟩ := hf 0 _ rfl; obtain ⟨v0, e0⟩ := open_int_cell (cs := [x0]) Tryz.underlying3 f0; obtain ⟨y1, f1⟩ := hf 1 _ rfl; obtain ⟨v1, e1, s1⟩ := open_str_cell (cs := [x1]) Tryz.underlying9 f1; obtain ⟨y2, f2⟩ := hf 2 _ rfl; obtain ⟨v2, e2, s2⟩ := open_str_cell (cs := [x2]) Tryz.underlying9 f2; obtain rfl := List.head_eq_of_cons_eq e0; obtain rfl := List.head_eq_of_cons_eq e1; obtain rfl := List.head_eq_of_cons_eq e2; exact ⟨v0, v1, v2, rfl⟩
theorem custom_walk {H : Type} {enc : TypeId × Value → H} (W : World) (base : Nat) (hT : TabU W)
 (v0 : Value) (d0 : DataW H) (p0 : List MemPlace) (o0 : Value.okWide Tryz.prog W .any base 33 v0) (h0 : DataW.Trod enc Tryz.prog W 0 (fun _ => true) true 33 v0 d0 p0)
 (v1 : Value) (d1 : DataW H) (p1 : List MemPlace) (o1 : Value.okWide Tryz.prog W .any base 42 v1) (h1 : DataW.Trod enc Tryz.prog W 0 (fun _ => true) true 42 v1 d1 p1) :
 Calls Tryz.prog 4 #[v0, v1] W fun e W' => e = .returned (.bool true) ∧ Below W.heap.size W W' := by
 obtain ⟨m, a0, k0, a1, k1, a2, k2, a3, k3, a4, k4, a5, k5, a6, k6, a7, k7, a8, k8, a9, k9, rfl, h, n1, n2, n3, n4⟩ := open_module o0 h0; obtain ⟨a, s, t, rfl⟩ := open_between o1 h1; exact cusw_any m ⟨n1, n2, n3, n4⟩ a0 k0 a1 k1 a2 k2 a3 k3 a4 k4 a5 k5 a6 k6 a7 k7 a8 k8 a9 k9 W h hT a s t
end Go.Proofs.YtkbfjkbokifgkaaGreatDoor
