/- Where: which modules are valid, what is wrong first, and where. -/
import Derived.Test.YtacohbllbjgdgaaDoorXy
import Derived.Test.YtacohbllbjgdgaaDoorVw
import Derived.Test.YtacohbllbjgdgaaDoorWd
import Derived.Defers
import Derived.Recover
namespace Go.Proofs.YtacohbllbjgdgaaDoor
open Go.RowKit
set_option linter.unusedVariables false
set_option linter.unusedSimpArgs false

theorem vcatch_idle (p : Addr) (w : World) :
    CallsD Tryd.prog 10 #[.pointer (some p)] .returning w fun e u' w' => e = .returned (.tuple #[]) ∧ u' = .returning ∧ w' = w := by
  refine callsD_of_wpS Tryd.func10 rfl fun c₀ cs hu => ?_
  apply wpS_seq
  apply wpS_region
  simp [wpOpsS, go_sem, recoverD, hu, Tryd.ntmps10, Exit.thenS]
  refine wpS_of_wp ?_
  go_wp2
  cases c₀
  simp_all [bodyPostS, results, Tryd.results10]
theorem vassert_fault (n : Int) (w : World) : (Instr.typeAssert (Value.iface 50 (.agg #[.int .i64 n])) 20 50 true).run Tryd.prog w = .ok (.tuple #[.agg #[.int .i64 n], .bool true]) w := by kernel_rfl
set_option maxRecDepth 100000 in
theorem vcatch_fault (p : Nat) (x n : Int) (older : List PanicEntry) (w : World) (hc : w.cell? ⟨p, 0, none⟩ = some (.int .i64 x)) (hz : w.frozen? ⟨p, 0, none⟩ = false) :
    CallsD Tryd.prog 10 #[.pointer (some ⟨p, 0, none⟩)] (.panicking ({ v := .iface 50 (.agg #[.int .i64 n]), recovered := false } :: older)) w fun e u' w' =>
      e = .returned (.tuple #[]) ∧ u' = .panicking ({ v := .iface 50 (.agg #[.int .i64 n]), recovered := true } :: older) ∧ w' = (w.setCell ⟨p, 0, none⟩ (.int .i64 n)).alloc (.cells #[.int .i64 n] 50) := by
  refine callsD_of_wpS Tryd.func10 rfl fun c₀ cs hu => ?_
  apply wpS_seq
  apply wpS_region
  simp [wpOpsS, go_sem, recoverD, hu, Tryd.ntmps10, Exit.thenS]
  refine wpS_of_wp ?_
  have hta := vassert_fault n
  have hp : p < w.heap.size := World.block_lt_of_cell? _ _ hc
  change Code.wp Tryd.prog _ _ { tmps := #[.pointer (some ⟨p, 0, none⟩), undef, undef, undef, .iface 50 (.agg #[.int .i64 n]), undef, undef, undef, undef, undef, undef, undef], defers := [] } w
  go_wp2
  cases c₀
  simp_all [bodyPostS, results, Tryd.results10]

theorem ck_chk {N c : Nat} {A : MA} {m : Md} {w0 w : World} {fv : Value} (h : Ck N c A m w0 w fv (funcT m)) : ∃ fa fk, ChkAt w c m (funcT m) A.a0 A.k0 A.a1 A.k1 A.a2 A.k2 A.a3 A.k3 A.a4 A.k4 A.a5 A.k5 A.a6 A.k6 A.a7 A.k7 A.a8 A.k8 A.a9 A.k9 fa fk := by
  obtain ⟨cs, hown, hl, htc⟩ := h.own
  have hb := h.b
  have kb := keep_below h.bw
  have hmd : MdAt w m A.a0 A.k0 A.a1 A.k1 A.a2 A.k2 A.a3 A.k3 A.a4 A.k4 A.a5 A.k5 A.a6 A.k6 A.a7 A.k7 A.a8 A.k8 A.a9 A.k9 := MdAt.keep kb h.md
  have hown2 := hown.2
  rcases hown2 with ⟨rfl, h0⟩ | ⟨g, cap, cur, rfl, hg, hgg, hnc, hcm, _⟩
  · refine ⟨none, 0, ⟨by rw [h0]; exact hb, hmd, ?_⟩⟩
    exact ⟨by omega, .inl (List.eq_nil_of_length_eq_zero h0)⟩
  · refine ⟨some ⟨g, 0, none⟩, cap, ⟨hb, hmd, ?_⟩⟩
    simp only [maxLen] at hcm
    refine ⟨by omega, .inr ⟨g, 0, rfl, fun i t ht => ?_⟩⟩
    obtain ⟨pa, pc, ra, rc, e1, e2, i1, i2⟩ := htc i t ht
    have hi := (List.getElem?_eq_some_iff.1 ht).1
    refine ⟨⟨pa, pc, ?_, i1.below h.bw⟩, ⟨ra, rc, ?_, i2.below h.bw⟩⟩
    · rw [Nat.zero_add, hown.cellAt _ (by omega)]; exact e1
    · rw [Nat.zero_add, hown.cellAt _ (by omega)]; exact e2
theorem where_head {m : Md} {k : Int} (h : headV m = k) (hk : k ≠ 0) : whereV m = (-1, k) := by
  unfold whereV
  rw [h, if_neg hk]
section
variable {w : World} {A : MA} {m : Md}
set_option maxRecDepth 100000 in
set_option maxHeartbeats 8000000 in
theorem where_any (hA : MdA w m A) (hT : TabU w) :
    Calls Tryd.prog 7 #[.agg #[(A.v m).v0, (A.v m).v1, (A.v m).v2, (A.v m).v3, (A.v m).v4, (A.v m).v5, (A.v m).v6, (A.v m).v7, (A.v m).v8, (A.v m).v9]] w fun e w' => e = .returned (.tuple #[.int .i64 (whereV m).1, .int .i64 (whereV m).2]) ∧ Below w.heap.size w w' := by
  have hb2 := below2 w (boxM A m) (.cells #[.int .i64 0] 41)
  have hck := check_any m A.a0 A.k0 A.a1 A.k1 A.a2 A.k2 A.a3 A.k3 A.a4 A.k4 A.a5 A.k5 A.a6 A.k6 A.a7 A.k7 A.a8 A.k8 A.a9 A.k9 _ (MdAt.keep (keep_below hb2) hA) (hT.below hb2)
  have hbx : ((w.alloc (boxM A m)).alloc (.cells #[.int .i64 0] 41)).heap[w.heap.size]? = some (boxM A m) := (Below.heap_alloc _ _ _ (by simp)).trans (heap_alloc_new w _)
  have hrq := alloc2 w (boxM A m) (.cells #[.int .i64 0] 41)
  obtain ⟨w1, hw1⟩ : ∃ w1, w1 = (w.alloc (boxM A m)).alloc (.cells #[.int .i64 0] 41) := ⟨_, rfl⟩
  rw [← hw1] at hb2 hck hbx hrq
  have hsz1 : w1.heap.size = w.heap.size + 2 := by rw [hw1]; simp
  unfold boxM at hw1
  unfold mdV at hck
  obtain ⟨S, hS⟩ : ∃ S, S = w.heap.size := ⟨_, rfl⟩
  rw [← hS] at hbx hrq hsz1
  obtain ⟨x0, x1, x2, x3, x4, x5, x6, x7, x8, x9⟩ := box_c hbx
  go_enter_defers Tryd.func7, Tryd.ntmps7
  go_upto_region 1 with (fail)
  rw [← hw1]
  rw [← hS]
  clear hw1
  replace hsz1 := Lib.hid hsz1
  replace hS := Lib.hid hS
  replace hbx := Lib.hid hbx
  replace hrq := Lib.hid hrq
  go_wp2_with fail
  refine hck.mono ?_
  rintro e w2 ⟨rfl, b2⟩
  have hbx2 := Lib.hid ((b2.block S (by rw [hsz1.out]; omega)).trans hbx.out)
  have hrq2 := Lib.hid ((b2.block (S + 1) (by rw [hsz1.out]; omega)).trans hrq.out)
  have hB2 : Hid (Below w.heap.size w w2) := Lib.hid (hb2.trans (b2.mono hb2.size))
  clear hck x0 x1 x2 x3 x4 x5 x6 x7 x8 x9 hbx hrq
  have r0 : w2.cell? ⟨S + 1, 0, none⟩ = some (.int .i64 0) := by rw [cell_of_row _ (S + 1) 0 _ _ _ hrq2.out]; rfl
  have z0 := frozen_of_row w2 (S + 1) 0 _ _ hrq2.out
  by_cases hc : checkV m = 0
  · have cm := cm_of hc
    have hok := idx_ok cm
    have hhd : headV m = fst2 (typesV m) (fst2 (idxV m) (fst2 (partsV m) (fst2 (exportsV m) (fillsV m (funcT m).length)))) := by unfold headV; rw [hc]; rfl
    rw [hc]
    obtain ⟨x0, x1, x2, x3, x4, x5, x6, x7, x8, x9⟩ := box_c hbx2.out
    have hob : Hid (Below w.heap.size w (w2.alloc (.cells #[.slice A.a0 m.types.length A.k0, .slice A.a1 m.imports.length A.k1, .slice A.a2 m.funcs.length A.k2, .slice A.a3 m.tables.length A.k3, .slice A.a4 m.mems.length A.k4, .slice A.a5 m.globals.length A.k5, .slice A.a6 m.exports.length A.k6, .slice A.a7 m.start.length A.k7, .slice A.a8 m.elems.length A.k8, .slice A.a9 m.datas.length A.k9, .slice none 0 0] 53)) ∧ (w2.alloc (.cells #[.slice A.a0 m.types.length A.k0, .slice A.a1 m.imports.length A.k1, .slice A.a2 m.funcs.length A.k2, .slice A.a3 m.tables.length A.k3, .slice A.a4 m.mems.length A.k4, .slice A.a5 m.globals.length A.k5, .slice A.a6 m.exports.length A.k6, .slice A.a7 m.start.length A.k7, .slice A.a8 m.elems.length A.k8, .slice A.a9 m.datas.length A.k9, .slice none 0 0] 53)).heap[w2.heap.size]? = some (.cells #[.slice A.a0 m.types.length A.k0, .slice A.a1 m.imports.length A.k1, .slice A.a2 m.funcs.length A.k2, .slice A.a3 m.tables.length A.k3, .slice A.a4 m.mems.length A.k4, .slice A.a5 m.globals.length A.k5, .slice A.a6 m.exports.length A.k6, .slice A.a7 m.start.length A.k7, .slice A.a8 m.elems.length A.k8, .slice A.a9 m.datas.length A.k9, .slice none 0 0] 53)) := Lib.hid ⟨hB2.out.trans ((Below.of_alloc w2 _).mono hB2.out.size), heap_alloc_new w2 _⟩
    obtain ⟨w3, hw3⟩ : ∃ w3, w3 = w2.alloc (.cells #[.slice A.a0 m.types.length A.k0, .slice A.a1 m.imports.length A.k1, .slice A.a2 m.funcs.length A.k2, .slice A.a3 m.tables.length A.k3, .slice A.a4 m.mems.length A.k4, .slice A.a5 m.globals.length A.k5, .slice A.a6 m.exports.length A.k6, .slice A.a7 m.start.length A.k7, .slice A.a8 m.elems.length A.k8, .slice A.a9 m.datas.length A.k9, .slice none 0 0] 53) := ⟨_, rfl⟩
    rw [← hw3] at hob
    have hA2 : MdA w2 m A := MdAt.keep (keep_below hB2.out) hA
    have hbo : Below w2.heap.size w2 w3 := by rw [hw3]; exact Below.of_alloc w2 _
    have hSl : Hid (S + 1 < w2.heap.size) := Lib.hid (by have := lt_of_block hrq2.out; omega)
    have l12 := cm.l1
    have l22 := cm.l2
    have htyp := types_any (c := w2.heap.size) (A := A) hob.out.2 hbo hA2 (Nat.le_refl _) hok (by omega)
    replace htyp := Lib.hid htyp
    have hcl := hob.out.2
    replace hcl := Lib.hid hcl
    replace hob := Lib.hid hob.out.1
    have hkeepc : True := trivial
    go_upto_region 7 with (fail)
    rw [← hw3]
    clear hw3 x0 x1 x2 x3 x4 x5 x6 x7 x8 x9 r0 z0
    generalize hcc : w2.heap.size = c at htyp hcl hSl hbo ⊢
    replace hcc := Lib.hid hcc
    go_wp2_with fail
    refine htyp.out.mono ?_
    rintro e w4 ⟨hh, hbk⟩
    rcases hh with ⟨hX, rfl, N, fv, hck4⟩ | ⟨hX, rfl⟩
    · obtain ⟨h1, h2⟩ := fst2_zero hX
      replace hbk := Lib.hid hbk
      replace hbk : Hid (Below w2.heap.size w2 w4) := hbk
      obtain ⟨fa, fk, hch4⟩ := ck_chk hck4
      clear hck4
      have hs4 := parts_any hch4
      replace hs4 := Lib.hid hs4
      go_wp2_with fail
      refine hs4.out.mono ?_
      rintro e w5 ⟨⟨hX4, rfl⟩ | ⟨hX4, rfl⟩, b5⟩
      rotate_left
      · have hbk5 := Lib.hid (hbk.out.trans (b5.mono hbk.out.size))
        go_wp2
        unfold faultV
        have hpq := ((hbk5.out.block (S + 1) (by have := hSl.out; have := hcc.out; omega)).trans hrq2.out)
        have hpc : w5.cell? ⟨S + 1, 0, none⟩ = some (.int .i64 0) := by rw [cell_of_row _ (S + 1) 0 _ _ _ hpq]; rfl
        have hpz := frozen_of_row w5 (S + 1) 0 _ _ hpq
        refine leaves_cons (f := 10) (args := #[.pointer (some ⟨S + 1, 0, none⟩)]) (by simp) (by simp [go_sem]) ?_
        refine (vcatch_fault (S + 1) 0 (partsV m) [] _ hpc hpz).mono ?_
        rintro e u' w'' ⟨rfl, rfl, rfl⟩
        have hca := caught_cell (n := partsV m) (o := .cells #[.int .i64 (partsV m)] 50) hpc
        have hcb := caught_below (v := .int .i64 (partsV m)) (o := .cells #[.int .i64 (partsV m)] 50) (hB2.out.trans (hbk5.out.mono hB2.out.size)) (show w.heap.size ≤ S + 1 by have := hS.out; omega)
        have e9 : whereV m = (-1, partsV m) := where_head (by rw [hhd, h1, h2]; simp [fst2, hX4]) hX4
        simp [Leaves, settle, results, Tryd.results7, go_sem]
        rw [hca, e9]
        exact ⟨_, rfl, rfl, hcb⟩
      have hbk5 := Lib.hid (hbk.out.trans (b5.mono hbk.out.size))
      have hch5 := hch4.step b5
      have hs5 := exports_any hch5 (by have := cm.l6; omega) (fun x hx => (cm.exports x hx).2.1) (fun n hn => by have := cm.start n hn; unfold idx1 at this; simp only [Bool.and_eq_true, decide_eq_true_eq] at this; exact this.1)
      replace hs5 := Lib.hid hs5
      go_wp2_with fail
      refine hs5.out.mono ?_
      rintro e w6 ⟨⟨hX5, rfl⟩ | ⟨hX5, rfl⟩, b6⟩
      rotate_left
      · have hbk6 := Lib.hid (hbk5.out.trans (b6.mono hbk5.out.size))
        go_wp2
        unfold faultV
        have hpq := ((hbk6.out.block (S + 1) (by have := hSl.out; have := hcc.out; omega)).trans hrq2.out)
        have hpc : w6.cell? ⟨S + 1, 0, none⟩ = some (.int .i64 0) := by rw [cell_of_row _ (S + 1) 0 _ _ _ hpq]; rfl
        have hpz := frozen_of_row w6 (S + 1) 0 _ _ hpq
        refine leaves_cons (f := 10) (args := #[.pointer (some ⟨S + 1, 0, none⟩)]) (by simp) (by simp [go_sem]) ?_
        refine (vcatch_fault (S + 1) 0 (exportsV m) [] _ hpc hpz).mono ?_
        rintro e u' w'' ⟨rfl, rfl, rfl⟩
        have hca := caught_cell (n := exportsV m) (o := .cells #[.int .i64 (exportsV m)] 50) hpc
        have hcb := caught_below (v := .int .i64 (exportsV m)) (o := .cells #[.int .i64 (exportsV m)] 50) (hB2.out.trans (hbk6.out.mono hB2.out.size)) (show w.heap.size ≤ S + 1 by have := hS.out; omega)
        have e9 : whereV m = (-1, exportsV m) := where_head (by rw [hhd, h1, h2, hX4]; simp [fst2, hX5]) hX5
        simp [Leaves, settle, results, Tryd.results7, go_sem]
        rw [hca, e9]
        exact ⟨_, rfl, rfl, hcb⟩
      have hbk6 := Lib.hid (hbk5.out.trans (b6.mono hbk5.out.size))
      have hch6 := hch5.step b6
      have hs6 := fills_any hch6
      replace hs6 := Lib.hid hs6
      go_wp2_with fail
      refine hs6.out.mono ?_
      rintro e w7 ⟨⟨hX6, rfl⟩ | ⟨hX6, rfl⟩, b7⟩
      rotate_left
      · have hbk7 := Lib.hid (hbk6.out.trans (b7.mono hbk6.out.size))
        go_wp2
        unfold faultV
        have hpq := ((hbk7.out.block (S + 1) (by have := hSl.out; have := hcc.out; omega)).trans hrq2.out)
        have hpc : w7.cell? ⟨S + 1, 0, none⟩ = some (.int .i64 0) := by rw [cell_of_row _ (S + 1) 0 _ _ _ hpq]; rfl
        have hpz := frozen_of_row w7 (S + 1) 0 _ _ hpq
        refine leaves_cons (f := 10) (args := #[.pointer (some ⟨S + 1, 0, none⟩)]) (by simp) (by simp [go_sem]) ?_
        refine (vcatch_fault (S + 1) 0 (fillsV m (funcT m).length) [] _ hpc hpz).mono ?_
        rintro e u' w'' ⟨rfl, rfl, rfl⟩
        have hca := caught_cell (n := fillsV m (funcT m).length) (o := .cells #[.int .i64 (fillsV m (funcT m).length)] 50) hpc
        have hcb := caught_below (v := .int .i64 (fillsV m (funcT m).length)) (o := .cells #[.int .i64 (fillsV m (funcT m).length)] 50) (hB2.out.trans (hbk7.out.mono hB2.out.size)) (show w.heap.size ≤ S + 1 by have := hS.out; omega)
        have e9 : whereV m = (-1, fillsV m (funcT m).length) := where_head (by rw [hhd, h1, h2, hX4, hX5]; simp [fst2]) hX6
        simp [Leaves, settle, results, Tryd.results7, go_sem]
        rw [hca, e9]
        exact ⟨_, rfl, rfl, hcb⟩
      have hbk7 := Lib.hid (hbk6.out.trans (b7.mono hbk6.out.size))
      have hch7 := hch6.step b7
      have hw0 : whereV m = bodiesGo m (m.funcs.drop 0) (m.imports.length + 0) := by
        have hz : headV m = 0 := by rw [hhd, h1, h2, hX4, hX5, hX6]; rfl
        unfold whereV
        rw [if_pos hz]
        rfl
      replace hw0 := Lib.hid hw0
      have hEv := fun fn (hf : fn ∈ m.funcs) => ev_ok cm (getD_types (m := m) (P := fun t => ∀ x ∈ t.1, tyo x) (fun t ht => (types_ok cm t ht).1) (by intro x hx; cases hx) fn.1.toNat) (cm.funcs fn hf).2.2.1
      have hEr := fun t ls => ev_r (m := m) h1 t ls
      have hcnt := cntF_sz m.funcs 65536 cm.cnt
      have hbx7 := Lib.hid ((hbk7.out.block S (by have := hSl.out; have := hcc.out; omega)).trans hbx2.out)
      have hch0 := Lib.hid hch7
      replace hch0 : Hid (ChkAt w7 c m (funcT m) A.a0 A.k0 A.a1 A.k1 A.a2 A.k2 A.a3 A.k3 A.a4 A.k4 A.a5 A.k5 A.a6 A.k6 A.a7 A.k7 A.a8 A.k8 A.a9 A.k9 fa fk) := hch0
      obtain ⟨x0, x1, x2, x3, x4, x5, x6, x7, x8, x9⟩ := box_c hbx7.out
      have lfn := hch7.md.funcs.1
      replace hEv := Lib.hid hEv
      replace hEr := Lib.hid hEr
      replace hcnt := Lib.hid hcnt
      replace h1 := Lib.hid h1
      replace h2 := Lib.hid h2
      replace cm := Lib.hid cm
      have hb77 : Hid (Below w7.heap.size w7 w7) := Lib.hid (Below.refl _ _)
      clear hch4 hch5 hch6 hch7 hs4 hs5 hs6 hX hhd hok hX4 hX5 hX6
      go_wp2_with fail
      go_loopw [2, 27] (fun va vi wr => ∃ (i : Nat) (at0 : Int), va = .int .i64 at0 ∧ vi = .int .i64 i ∧ i ≤ m.funcs.length ∧ Hid (whereV m = bodiesGo m (m.funcs.drop i) (m.imports.length + i)) ∧ Hid (Below w7.heap.size w7 wr)) (fun _ vi _ => m.funcs.length - (intOf vi).toNat)
      case atStart => exact ⟨0, -1, rfl, rfl, Nat.zero_le _, hw0, hb77⟩
      case round =>
        clear hw0 hb77 x0 x1 x2 x3 x4 x5 x6 x7 x8 x9
        obtain ⟨i, at0, rfl, rfl, hi, hwq, hb7⟩ := hrel
        have hbk8 := Lib.hid (hbk7.out.trans (hb7.out.mono hbk7.out.size))
        have hbx8 := Lib.hid ((hb7.out.block S (lt_of_block hbx7.out)).trans hbx7.out)
        obtain ⟨x0, x1, x2, x3, x4, x5, x6, x7, x8, x9⟩ := box_c hbx8.out
        by_cases hlt : i < m.funcs.length
        · obtain ⟨fn, hfn⟩ : ∃ fn, m.funcs[i]? = some fn := ⟨_, List.getElem?_eq_getElem hlt⟩
          have hmem := List.mem_of_getElem? hfn
          have hch8 := hch0.out.step hb7.out
          have hd : m.funcs.drop i = fn :: m.funcs.drop (i + 1) := by rw [List.drop_eq_getElem_cons hlt, (List.getElem?_eq_some_iff.1 hfn).2]
          have hft : (funcT m).getD (m.imports.length + i) ([], []) = tyF m fn := by
            rw [List.getD_eq_getElem?_getD, funcT_at hfn]
            rfl
          have hwq2 : whereV m = (match bodyT m (funcT m) (tyF m fn) fn with | .ok _ => bodiesGo m (m.funcs.drop (i + 1)) (m.imports.length + i + 1) | .error e => (((m.imports.length + i : Nat) : Int), e)) := by
            rw [hwq.out, hd]
            show (match bodyT m (funcT m) ((funcT m).getD (m.imports.length + i) ([], [])) fn with | .ok _ => _ | .error e => _) = _
            rw [hft]
          have hszf := hcnt.out fn hmem
          have htl : (tyF m fn).1.length ≤ 4096 := getD_types (m := m) (P := fun t => t.1.length ≤ 4096) (fun t ht => (cm.out.types t ht).1) (by simp) fn.1.toNat
          have ht2l : (tyF m fn).2.length ≤ 1 := getD_types (m := m) (P := fun t => t.2.length ≤ 1) (types_r h1.out) (by simp) fn.1.toNat
          have hty2 : ∀ x ∈ (tyF m fn).2, tyo x := getD_types (m := m) (P := fun t => ∀ x ∈ t.2, tyo x) (fun t ht => (types_ok cm.out t ht).2) (by intro x hx; cases hx) fn.1.toNat
          have hbd := body_any hch8 hfn (funcT_at hfn) (hEv.out fn hmem) (hEr.out (tyF m fn) fn.2.1) (cm.out.funcs fn hmem).2.2.2.2.1 (by omega) hty2 ht2l (by have := (cm.out.funcs fn hmem).2.1; omega)
          have i0 : (0 : Int) ≤ (i : Int) := by omega
          have ilt : (i : Int) < (m.funcs.length : Int) := by omega
          have hwr2 : IntKind.i64.wrap ((m.imports.length : Int) + (i : Int)) = ((m.imports.length + i : Nat) : Int) := by rw [IntKind.wrap_i64]; omega
          replace hlt := Lib.hid hlt
          replace hwq2 := Lib.hid hwq2
          clear hwq hd hft hfn hmem hszf htl ht2l hty2 hch8
          cases hb9 : bodyT m (funcT m) (tyF m fn) fn with
          | ok u =>
            rw [hb9] at hbd
            have hw9 : Hid (whereV m = bodiesGo m (m.funcs.drop (i + 1)) (m.imports.length + (i + 1))) := Lib.hid (by rw [hwq2.out, hb9]; rfl)
            replace hb9 := Lib.hid hb9
            replace hbd := Lib.hid hbd
            go_wp2_with fail
            refine hbd.out.mono ?_
            rintro e w9 ⟨rfl, b9⟩
            have hb10 := Lib.hid (hb7.out.trans (b9.mono hb7.out.size))
            go_wp2
            go_roundw
            case rel => exact ⟨i + 1, _, rfl, by simp, by have := hlt.out; omega, hw9, hb10⟩
            case measure => simp [intOf]; have := hlt.out; omega
          | error k =>
            rw [hb9] at hbd
            have hw9 : whereV m = (((m.imports.length + i : Nat) : Int), k) := by rw [hwq2.out, hb9]
            replace hb9 := Lib.hid hb9
            replace hbd := Lib.hid hbd
            replace hw9 := Lib.hid hw9
            go_wp2_with fail
            refine hbd.out.mono ?_
            rintro e w9 ⟨rfl, b9⟩
            have hbk9 := Lib.hid (hbk8.out.trans (b9.mono hbk8.out.size))
            go_wp2
            unfold faultV
            have hpq := ((hbk9.out.block (S + 1) (by have := hSl.out; have := hcc.out; omega)).trans hrq2.out)
            have hpc : w9.cell? ⟨S + 1, 0, none⟩ = some (.int .i64 0) := by rw [cell_of_row _ (S + 1) 0 _ _ _ hpq]; rfl
            have hpz := frozen_of_row w9 (S + 1) 0 _ _ hpq
            refine leaves_cons (f := 10) (args := #[.pointer (some ⟨S + 1, 0, none⟩)]) (by simp) (by simp [go_sem]) ?_
            refine (vcatch_fault (S + 1) 0 (k) [] _ hpc hpz).mono ?_
            rintro e u' w'' ⟨rfl, rfl, rfl⟩
            have hca := caught_cell (n := k) (o := .cells #[.int .i64 (k)] 50) hpc
            have hcb := caught_below (v := .int .i64 (k)) (o := .cells #[.int .i64 (k)] 50) (hB2.out.trans (hbk9.out.mono hB2.out.size)) (show w.heap.size ≤ S + 1 by have := hS.out; omega)
            have e9 : whereV m = (((m.imports.length + i : Nat) : Int), k) := hw9.out
            simp [Leaves, settle, results, Tryd.results7, go_sem]
            rw [hca, e9]
            exact ⟨_, rfl, rfl, hcb⟩
        · obtain rfl : i = m.funcs.length := by omega
          have hw9 : whereV m = (-1, 0) := by
            have := hwq.out
            rw [List.drop_length] at this
            exact this
          have hpq := (hbk8.out.block (S + 1) (by have := hSl.out; have := hcc.out; omega)).trans hrq2.out
          have hpc : wr.cell? ⟨S + 1, 0, none⟩ = some (.int .i64 0) := by rw [cell_of_row _ (S + 1) 0 _ _ _ hpq]; rfl
          have hpz := frozen_of_row wr (S + 1) 0 _ _ hpq
          replace hw9 := Lib.hid hw9
          go_wp2_with fail
          refine leaves_cons (f := 10) (args := #[.pointer (some ⟨S + 1, 0, none⟩)]) (by simp) (by simp [go_sem]) ?_
          refine (vcatch_idle ⟨S + 1, 0, none⟩ _).mono ?_
          rintro e u' w'' ⟨rfl, rfl, rfl⟩
          have hca : (wr.setCell ⟨S + 1, 0, none⟩ (.int .i64 0)).cell? ⟨S + 1, 0, none⟩ = some (.int .i64 0) := so_same hpc
          have hcb := (hB2.out.trans (hbk8.out.mono hB2.out.size)).trans (Below.setAt (j := 0) (u := .int .i64 0) (show w.heap.size ≤ S + 1 by have := hS.out; omega))
          simp [Leaves, settle, results, Tryd.results7, go_sem, hca]
          rw [hw9.out]
          exact ⟨⟨rfl, rfl⟩, hcb⟩
    · replace hbk : Hid (Below w2.heap.size w2 w4) := Lib.hid hbk
      go_wp2
      unfold faultV
      have hpq := ((hbk.out.block (S + 1) (by have := hSl.out; have := hcc.out; omega)).trans hrq2.out)
      have hpc : w4.cell? ⟨S + 1, 0, none⟩ = some (.int .i64 0) := by rw [cell_of_row _ (S + 1) 0 _ _ _ hpq]; rfl
      have hpz := frozen_of_row w4 (S + 1) 0 _ _ hpq
      refine leaves_cons (f := 10) (args := #[.pointer (some ⟨S + 1, 0, none⟩)]) (by simp) (by simp [go_sem]) ?_
      refine (vcatch_fault (S + 1) 0 (fst2 (typesV m) (idxV m)) [] _ hpc hpz).mono ?_
      rintro e u' w'' ⟨rfl, rfl, rfl⟩
      have hca := caught_cell (n := fst2 (typesV m) (idxV m)) (o := .cells #[.int .i64 (fst2 (typesV m) (idxV m))] 50) hpc
      have hcb := caught_below (v := .int .i64 (fst2 (typesV m) (idxV m))) (o := .cells #[.int .i64 (fst2 (typesV m) (idxV m))] 50) (hB2.out.trans (hbk.out.mono hB2.out.size)) (show w.heap.size ≤ S + 1 by have := hS.out; omega)
      have e9 : whereV m = (-1, fst2 (typesV m) (idxV m)) := where_head (by rw [hhd, ← fst2_assoc]; generalize fst2 (typesV m) (idxV m) = Q at hX ⊢; unfold fst2; rw [if_neg hX]) hX
      simp [Leaves, settle, results, Tryd.results7, go_sem]
      rw [hca, e9]
      exact ⟨_, rfl, rfl, hcb⟩
  · have e1 : Hid (whereV m = (-1, checkV m)) := Lib.hid (by
      have hh : headV m = checkV m := by unfold headV fst2; rw [if_neg hc]
      unfold whereV
      rw [hh, if_neg hc])
    have hb : (checkV m != 0) = true := by simp [hc]
    have b5 : ∀ v, Hid (Below w.heap.size w (w2.setCell ⟨S + 1, 0, none⟩ v)) := fun v => Lib.hid (hB2.out.trans (Below.setAt (by have := hS.out; omega)))
    have hca : ∀ v : Value, (w2.setCell ⟨S + 1, 0, none⟩ v).cell? ⟨S + 1, 0, none⟩ = some v := fun v => so_same r0
    generalize checkV m = K at e1 hb ⊢
    clear hc
    go_wp2
    replace e1 := e1.out
    replace b5 := (b5 (.int .i64 K)).out
    replace hca := hca (.int .i64 K)
    simp [bodyPostD, Leaves, settle, results, Tryd.results7, go_sem, hca]
    rw [e1]
    exact ⟨⟨rfl, rfl⟩, b5⟩
end

end Go.Proofs.YtacohbllbjgdgaaDoor
