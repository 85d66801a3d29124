/- Globals, exports, datas. -/
import Derived.Test.YtkbfjkbokifgkaaGreatDoorSg
import Derived.Deep.RegionHeld2
namespace Go.Proofs.YtkbfjkbokifgkaaGreatDoor
open Go.RowKit
set_option linter.unusedVariables false
set_option linter.unusedSimpArgs false

set_option maxRecDepth 100000 in
set_option maxHeartbeats 16000000 in
theorem globals_row : RowFn gloK 90 5 131 gGlobal := by
  intro w0 ws p br s a e l cs xs hp hbr hs he ha hx hJ
  obtain ⟨ts, v0, hS, rfl⟩ := hJ
  rw [List.length_map] at hx
  have hbw : br < ws.heap.size := hS.bx.lt
  have hbl : w0.heap.size ≤ br := Nat.le_of_eq hbr.symm
  replace hbr := Lib.hid hbr
  have hRs := hS.rd
  have c0 := hS.bx.cell (j := 0) rfl
  have hbk := Lib.hid hS.bx
  replace hS := Lib.hid hS
  obtain ⟨G2, hG0⟩ : ∃ G2, gGlobal (strl s) e a = G2 := ⟨_, rfl⟩
  rw [hG0]
  replace hG0 := Lib.hid hG0
  go_enter Tryz.func131, Tryz.ntmps131
  go_wp2_with fail
  refine (typ_any hRs hs he).mono ?_
  rintro e' w1 ⟨hV, ⟨ty, a1, v', hg, ha1, ⟨rfl, ht0, ht1⟩, rfl, hR1⟩ | ⟨n, hg, rfl⟩⟩
  rotate_left
  · exact ⟨rfl, .inr ⟨n, by rw [← hG0.out]; unfold gGlobal; rw [rd_err hg], rfl, hS.out.wr.trans hV⟩⟩
  have hG1 := hG0.out.symm.trans (show gGlobal (strl s) e a = _ from by unfold gGlobal; exact rd_bind hg)
  replace hG1 := Lib.hid hG1
  have hk1 := hbk.out.wr hV (by omega)
  have hW1 := hV
  clear hg hV c0 hG0 hRs
  go_upto_region 1 with (fail)
  have hB : Below w1.heap.size w1 (w1.alloc (.cells #[.int .i64 ty, .bool false, .int .i64 0, .int .i64 0, .int .i64 0, .int .i64 0, .slice none 0 0, .slice none 0 0, .slice none 0 0] 90)) := (Below.refl _ _).alloc (Nat.le_refl _) _
  have hX2 := Bk.new w1 [.int .i64 ty, .bool false, .int .i64 0, .int .i64 0, .int .i64 0, .int .i64 0, .slice none 0 0, .slice none 0 0, .slice none 0 0] 90
  have hR2 := hR1.below hB
  have hk2 := hk1.below hB
  have hwx : ws.heap.size ≤ w1.heap.size := hW1.size
  have hW2 := hW1.trans (Wr.of_below hB)
  have hbx : br < w1.heap.size := hk1.lt
  obtain ⟨x, hx'⟩ : ∃ x, x = w1.heap.size := ⟨_, rfl⟩
  obtain ⟨w2, hww⟩ : ∃ w2, w2 = w1.alloc (.cells #[.int .i64 ty, .bool false, .int .i64 0, .int .i64 0, .int .i64 0, .int .i64 0, .slice none 0 0, .slice none 0 0, .slice none 0 0] 90) := ⟨_, rfl⟩
  rw [← hx'] at hX2 hwx hbx ⊢
  rw [show (w1.alloc (.cells [.int .i64 ty, .bool false, .int .i64 0, .int .i64 0, .int .i64 0, .int .i64 0, .slice none 0 0, .slice none 0 0, .slice none 0 0].toArray 90)) = w2 from hww.symm] at hX2
  rw [← hww] at hR2 hk2 hW2 ⊢
  clear hww hB hR1 hk1 hW1
  replace hx' := Lib.hid hx' 
  have c0 := hk2.cell (j := 0) rfl
  replace hX2 := Lib.hid hX2
  replace hR2 := Lib.hid hR2
  replace hk2 := Lib.hid hk2
  replace hW2 := Lib.hid hW2
  go_wp2_with fail
  refine (flag_any hR2.out hs he).mono ?_
  rintro e' w3 ⟨hV, ⟨mu, a3, v', hg, ha3, rfl, rfl, hR3⟩ | ⟨n, hg, rfl⟩⟩
  rotate_left
  · exact ⟨rfl, .inr ⟨n, by rw [hG1.out]; exact rd_err hg, rfl, hS.out.wr.trans (hW2.out.trans hV)⟩⟩
  have hG3 := hG1.out.trans (rd_bind hg)
  replace hG3 := Lib.hid hG3
  have hk3 := hk2.out.wr hV (by omega)
  have hW3 := hW2.out.trans hV
  have hX3 := hX2.out.wr hV (by omega)
  clear hg hV c0 hG1 hX2 hR2 hk2 hW2
  have x1 := hX3.cell (j := 1) rfl
  have f1 := hX3.fr 1
  have c0 := hk3.cell (j := 0) rfl
  go_upto_region 2 with (fail)
  have hR4 := (hR3.far (q := x) (by omega) 1 (.bool mu))
  have hk4 := (hk3.far (p := x) (by omega) 1 (.bool mu))
  have hX4 := (hX3.set 1 (.bool mu))
  have hW4 := (hW3.fresh (q := x) hwx 1 (.bool mu))
  obtain ⟨w4, hww⟩ : ∃ w4, w4 = (w3.setCell ⟨x, 1, none⟩ (.bool mu)) := ⟨_, rfl⟩
  rw [← hww] at hR4 hk4 hX4 hW4 ⊢
  clear hww hR3 hk3 hX3 hW3 c0 x1 f1
  replace hX4 : Bk w4 x [.int .i64 ty, .bool mu, .int .i64 0, .int .i64 0, .int .i64 0, .int .i64 0, .slice none 0 0, .slice none 0 0, .slice none 0 0] 90 := hX4
  have c0 := hk4.cell (j := 0) rfl
  replace hX4 := Lib.hid hX4
  replace hR4 := Lib.hid hR4
  replace hk4 := Lib.hid hk4
  replace hW4 := Lib.hid hW4
  go_wp2_with fail
  refine (constant_any hR4.out hs he ha3).mono ?_
  rintro e' w5 ⟨hV, ⟨o, a5, v', hg, ha5, ⟨fl1, fl2, fl3, ti, hs7, hvt⟩, rfl, hR5⟩ | ⟨n, hg, rfl⟩⟩
  rotate_left
  · exact ⟨rfl, .inr ⟨n, by rw [hG3.out]; exact rd_err hg, rfl, hS.out.wr.trans (hW4.out.trans hV)⟩⟩
  have hG5 := hG3.out.trans (rd_bind hg)
  replace hG5 := Lib.hid hG5
  have hk5 := hk4.out.wr hV (by omega)
  have hW5 := hW4.out.trans hV
  have hX5 := hX4.out.wr hV (by omega)
  clear hg hV c0 hG3 hX4 hR4 hk4 hW4
  replace hvt : v' = .agg #[.int .i64 ti.op, .int .i64 ti.x, .int .i64 ti.y, .int .i64 ti.n, .slice ti.a4 ti.ls.length ti.c4, .slice ti.a5 ti.body.len ti.c5, .slice ti.a6 ti.els.len ti.c6] := hvt
  subst hvt
  obtain rfl : o = oneOf ti := by obtain ⟨h1, h2, h3, h4, h5, h6, h7⟩ := hs7; cases o; simp only [oneOf] at *; simp [*]
  replace fl1 := Lib.hid fl1
  replace fl2 := Lib.hid fl2
  replace fl3 := Lib.hid fl3
  replace hs7 := Lib.hid hs7
  have x2 := hX5.cell (j := 2) rfl
  have f2 := hX5.fr 2
  have x3 := hX5.cell (j := 3) rfl
  have f3 := hX5.fr 3
  have x4 := hX5.cell (j := 4) rfl
  have f4 := hX5.fr 4
  have x5 := hX5.cell (j := 5) rfl
  have f5 := hX5.fr 5
  have x6 := hX5.cell (j := 6) rfl
  have f6 := hX5.fr 6
  have x7 := hX5.cell (j := 7) rfl
  have f7 := hX5.fr 7
  have x8 := hX5.cell (j := 8) rfl
  have f8 := hX5.fr 8
  have c0 := hk5.cell (j := 0) rfl
  go_upto_region 3 with (fail)
  have hR6 := (((((((hR5.far (q := x) (by omega) 2 (.int .i64 ti.op)).far (q := x) (by omega) 3 (.int .i64 ti.x)).far (q := x) (by omega) 4 (.int .i64 ti.y)).far (q := x) (by omega) 5 (.int .i64 ti.n)).far (q := x) (by omega) 6 (.slice ti.a4 ti.ls.length ti.c4)).far (q := x) (by omega) 7 (.slice ti.a5 ti.body.len ti.c5)).far (q := x) (by omega) 8 (.slice ti.a6 ti.els.len ti.c6))
  have hk6 := (((((((hk5.far (p := x) (by omega) 2 (.int .i64 ti.op)).far (p := x) (by omega) 3 (.int .i64 ti.x)).far (p := x) (by omega) 4 (.int .i64 ti.y)).far (p := x) (by omega) 5 (.int .i64 ti.n)).far (p := x) (by omega) 6 (.slice ti.a4 ti.ls.length ti.c4)).far (p := x) (by omega) 7 (.slice ti.a5 ti.body.len ti.c5)).far (p := x) (by omega) 8 (.slice ti.a6 ti.els.len ti.c6))
  have hX6 := (((((((hX5.set 2 (.int .i64 ti.op)).set 3 (.int .i64 ti.x)).set 4 (.int .i64 ti.y)).set 5 (.int .i64 ti.n)).set 6 (.slice ti.a4 ti.ls.length ti.c4)).set 7 (.slice ti.a5 ti.body.len ti.c5)).set 8 (.slice ti.a6 ti.els.len ti.c6))
  have hW6 := (((((((hW5.fresh (q := x) hwx 2 (.int .i64 ti.op)).fresh (q := x) hwx 3 (.int .i64 ti.x)).fresh (q := x) hwx 4 (.int .i64 ti.y)).fresh (q := x) hwx 5 (.int .i64 ti.n)).fresh (q := x) hwx 6 (.slice ti.a4 ti.ls.length ti.c4)).fresh (q := x) hwx 7 (.slice ti.a5 ti.body.len ti.c5)).fresh (q := x) hwx 8 (.slice ti.a6 ti.els.len ti.c6))
  obtain ⟨w6, hww⟩ : ∃ w6, w6 = (((((((w5.setCell ⟨x, 2, none⟩ (.int .i64 ti.op)).setCell ⟨x, 3, none⟩ (.int .i64 ti.x)).setCell ⟨x, 4, none⟩ (.int .i64 ti.y)).setCell ⟨x, 5, none⟩ (.int .i64 ti.n)).setCell ⟨x, 6, none⟩ (.slice ti.a4 ti.ls.length ti.c4)).setCell ⟨x, 7, none⟩ (.slice ti.a5 ti.body.len ti.c5)).setCell ⟨x, 8, none⟩ (.slice ti.a6 ti.els.len ti.c6)) := ⟨_, rfl⟩
  rw [← hww] at hR6 hk6 hX6 hW6 ⊢
  clear hww hR5 hk5 hX5 hW5 c0 x2 f2 x3 f3 x4 f4 x5 f5 x6 f6 x7 f7 x8 f8
  replace hX6 : Bk w6 x [.int .i64 ty, .bool mu, .int .i64 ti.op, .int .i64 ti.x, .int .i64 ti.y, .int .i64 ti.n, .slice ti.a4 ti.ls.length ti.c4, .slice ti.a5 ti.body.len ti.c5, .slice ti.a6 ti.els.len ti.c6] 90 := hX6
  have hfin := hG5.out
  replace hfin : G2 = .ok ((ty, mu, oneOf ti), a5) := hfin
  replace hfin := Lib.hid hfin
  replace hfin := hfin
  obtain ⟨wz, hwz⟩ : ∃ wz, wz = w6 := ⟨_, rfl⟩
  obtain ⟨az, haz'⟩ : ∃ az, az = a5 := ⟨_, rfl⟩
  have haz : az ≤ e := by rw [haz']; exact ha5
  rw [← haz'] at hfin hR6
  rw [← hwz] at hR6 hX6 hW6 ⊢
  have hRz := hR6
  have hX := hX6
  have hWz := hW6
  clear hwz haz' hR6 hX6 hW6 hk6
  have hok : (gloK).ok (fun b => ws.heap.size ≤ b) wz ((ty, mu, ti)) := ⟨fl1.out, fl2.out, fl3.out⟩
  have c0 := 0
  obtain ⟨ie, hie, hze, hse, hbe⟩ := info_parts info80
  have hSz := hS.out.rdd hp hWz hRz
  have hcells := Lib.hid (fun k v w' (hX' : XC gloK 90 w0 wz p br s e l cs 5 v0 ts x [.int .i64 ty, .bool mu, .int .i64 ti.op, .int .i64 ti.x, .int .i64 ti.y, .int .i64 ti.n, .slice ti.a4 ti.ls.length ti.c4, .slice ti.a5 ti.body.len ti.c5, .slice ti.a6 ti.els.len ti.c6] 90 ws.heap.size ((ty, mu, oneOf ti)) az k v w') => XC.cells hSz hp hX hX' (by decide))
  have hvo : ∀ g, v0.ownBlock = some g → g < ws.heap.size := fun g hg => (hS.out.own.lt g hg).2
  have hvo2 : ∀ g, v0.ownBlock = some g → br + 1 ≤ g := fun g hg => (hS.out.own.lt g hg).1
  have hbrw : br + 1 ≤ ws.heap.size := hbw
  replace hSz := Lib.hid hSz
  replace hX := Lib.hid hX
  replace hok := Lib.hid hok
  clear hWz hRz c0
  refine wp_fv _ 23 rfl ?_
  refine region_chain hmix 23 12 2 (fun k => match k with | 0 => 7 | 1 => 8 | _ => 12) (fun j => 11 + j) rfl (by kernel_rfl) (by kernel_rfl) (by kernel_rfl) (by kernel_rfl) (fun j => match j with | 0 => .pointer (some ⟨p, 0, none⟩) | 1 => .pointer (some ⟨p, 0, none⟩) | 2 => .pointer (some ⟨p, 0, none⟩) | 3 => .pointer (some ⟨p, 4, none⟩) | 4 => .pointer (some ⟨p, 9, none⟩) | 5 => v0 | 6 => .agg #[.int .i64 ty, .bool mu, .int .i64 ti.op, .int .i64 ti.x, .int .i64 ti.y, .int .i64 ti.n, .slice ti.a4 ti.ls.length ti.c4, .slice ti.a5 ti.body.len ti.c5, .slice ti.a6 ti.els.len ti.c6] | 9 => .pointer (some ⟨p, 0, none⟩) | 10 => .pointer (some ⟨p, 4, none⟩) | 11 => .pointer (some ⟨p, 9, none⟩) | _ => undef) (XC gloK 90 w0 wz p br s e l cs 5 v0 ts x [.int .i64 ty, .bool mu, .int .i64 ti.op, .int .i64 ti.x, .int .i64 ti.y, .int .i64 ti.n, .slice ti.a4 ti.ls.length ti.c4, .slice ti.a5 ti.body.len ti.c5, .slice ti.a6 ti.els.len ti.c6] 90 ws.heap.size ((ty, mu, oneOf ti)) az) ?_ ?_ ?_ ?_
  · exact rfl
  · intro i hi hn k v f w' hk hX' hoth hv
    obtain ⟨g0, g1, gx⟩ := hcells.out k v w' hX'
    have x0 := gx.cell (j := 0) rfl
    have x1 := gx.cell (j := 1) rfl
    have x2 := gx.cell (j := 2) rfl
    have x3 := gx.cell (j := 3) rfl
    have x4 := gx.cell (j := 4) rfl
    have x5 := gx.cell (j := 5) rfl
    have x6 := gx.cell (j := 6) rfl
    have x7 := gx.cell (j := 7) rfl
    have x8 := gx.cell (j := 8) rfl
    clear hX' gx
    match i, hi with
    | 0, _ =>
      have z0 := fv_get (n := 23) (by decide) (show f 0 = .pointer (some ⟨br, 0, none⟩) from (hoth 0 (by decide)).trans rfl)
      refine wpOp_step rfl ?_
      intro K' hK'
      rw [if_pos (wanted_none rfl)]
      go_simp
      (try simp only [z0])
      (try go_simp)
      exact hK' _ _ ⟨fv_set _ _, rfl⟩
    | 1, _ =>
      have z0 := fv_get (n := 23) (by decide) (show f 0 = .pointer (some ⟨br, 0, none⟩) from (hoth 0 (by decide)).trans rfl)
      refine wpOp_step rfl ?_
      intro K' hK'
      rw [if_pos (wanted_none rfl)]
      go_simp
      (try simp only [z0])
      (try go_simp)
      exact hK' _ _ ⟨fv_set _ _, rfl⟩
    | 2, _ =>
      have z0 := fv_get (n := 23) (by decide) (show f 12 = .pointer (some ⟨p, 0, none⟩) from hv 1 (by kernel_rfl) (by decide))
      refine wpOp_step rfl ?_
      intro K' hK'
      rw [if_pos (wanted_none rfl)]
      go_simp
      (try simp only [z0])
      (try go_simp)
      exact hK' _ _ ⟨fv_set _ _, rfl⟩
    | 3, _ =>
      have z0 := fv_get (n := 23) (by decide) (show f 13 = .pointer (some ⟨p, 0, none⟩) from hv 2 (by kernel_rfl) (by decide))
      refine wpOp_step rfl ?_
      intro K' hK'
      rw [if_pos (wanted_none rfl)]
      go_simp
      (try simp only [z0])
      (try go_simp)
      exact hK' _ _ ⟨fv_set _ _, rfl⟩
    | 4, _ =>
      have z0 := fv_get (n := 23) (by decide) (show f 14 = .pointer (some ⟨p, 4, none⟩) from hv 3 (by kernel_rfl) (by decide))
      refine wpOp_step rfl ?_
      intro K' hK'
      rw [if_pos (wanted_none rfl)]
      go_simp
      (try simp only [z0])
      (try go_simp)
      exact hK' _ _ ⟨fv_set _ _, rfl⟩
    | 5, _ =>
      have z0 := fv_get (n := 23) (by decide) (show f 15 = .pointer (some ⟨p, 9, none⟩) from hv 4 (by kernel_rfl) (by decide))
      refine wpOp_step rfl ?_
      intro K' hK'
      rw [if_pos (wanted_none rfl)]
      go_simp
      (try simp only [z0])
      (try go_simp)
      exact hK' _ _ ⟨fv_set _ _, rfl⟩
    | 6, _ =>
      have z0 := fv_get (n := 23) (by decide) (show f 1 = .pointer (some ⟨x, 0, none⟩) from (hoth 1 (by decide)).trans rfl)
      refine wpOp_step rfl ?_
      intro K' hK'
      rw [if_pos (wanted_none rfl)]
      go_simp
      (try simp only [z0])
      (try go_simp)
      exact hK' _ _ ⟨fv_set _ _, rfl⟩
    | 7, _ => exact absurd rfl (hn 0 (by decide))
    | 8, _ => exact absurd rfl (hn 1 (by decide))
    | 9, _ =>
      have z0 := fv_get (n := 23) (by decide) (show f 11 = .pointer (some ⟨p, 0, none⟩) from hv 0 (by kernel_rfl) (by decide))
      refine wpOp_step rfl ?_
      intro K' hK'
      rw [if_pos (wanted_none rfl)]
      go_simp
      (try simp only [z0])
      (try go_simp)
      exact hK' _ _ ⟨fv_set _ _, rfl⟩
    | 10, _ =>
      have z0 := fv_get (n := 23) (by decide) (show f 20 = .pointer (some ⟨p, 0, none⟩) from hv 9 (by kernel_rfl) (by decide))
      refine wpOp_step rfl ?_
      intro K' hK'
      rw [if_pos (wanted_none rfl)]
      go_simp
      (try simp only [z0])
      (try go_simp)
      exact hK' _ _ ⟨fv_set _ _, rfl⟩
    | 11, _ =>
      have z0 := fv_get (n := 23) (by decide) (show f 21 = .pointer (some ⟨p, 4, none⟩) from hv 10 (by kernel_rfl) (by decide))
      refine wpOp_step rfl ?_
      intro K' hK'
      rw [if_pos (wanted_none rfl)]
      go_simp
      (try simp only [z0])
      (try go_simp)
      exact hK' _ _ ⟨fv_set _ _, rfl⟩
    | i + 12, h => exact absurd h (by omega)
  · intro k hk v f w' hX' hfv hoth hv
    match k, hk with
    | 0, _ =>
      obtain rfl : w' = wz.drew := hX'
      have z0 := fv_get (n := 23) (by decide) (show f 17 = .agg #[.int .i64 ty, .bool mu, .int .i64 ti.op, .int .i64 ti.x, .int .i64 ti.y, .int .i64 ti.n, .slice ti.a4 ti.ls.length ti.c4, .slice ti.a5 ti.body.len ti.c5, .slice ti.a6 ti.els.len ti.c6] from hv 6 (by kernel_rfl) (by decide))
      refine wpOp_step rfl ?_
      intro K' hK'
      rw [if_pos (wanted_none rfl)]
      go_simp
      (try simp only [z0])
      (try go_simp)
      exact hK' _ _ ⟨_, fv_set _ _, PhS.of (K := gloK) (hSz.out.drew hp) hp (hX.out.below (Below.refl _ _).drew) ((ty, mu, ti)) rfl (gloK.keep (keeps_drew' _) hok.out)⟩
    | 1, _ =>
      obtain ⟨b, t, rfl, hb, hz, hk, h1, hxx⟩ := hX'
      have z0 := fv_get (n := 23) (by decide) (show f 18 = .slice (some ⟨b, 0, none⟩) 1 1 from hfv (by decide))
      have z1 := fv_get (n := 23) (by decide) (show f 16 = v0 from hv 5 (by kernel_rfl) (by decide))
      refine wpOp_step rfl ?_
      intro K' hK'
      refine step_append_lies _ (by rfl) (.tmp 16) (.tmp 18) 27 (by rfl) (br + 1) 90 ie _ 9 120 Tryz.underlying27 hie hze hse hbe rfl (by decide) v0 ts.length (ts.flatMap (gloK).enc) (by exact z1) h1.own ⟨b, 0, none⟩ 1 1 ((gloK).enc t) (by exact z0) (by rw [(gloK).len]; rfl) (World.news_of_block (cs := ((gloK).enc t).toArray) (t := 90) (fr := (0, 0)) hb) ((gloK).one t) (by decide) (by unfold maxLen; omega) (by omega) h1.bx.lt w'.heap.size rfl ?_
      intro g cap w5 hown hgrow hat hlt
      exact hK' _ _ ⟨_, fv_put _ _, PhA.of h1 hp hbl hxx (fun g hg => by have := hvo g hg; omega) hz hk hvo hbrw hown hgrow hat⟩
    | k + 2, h => exact absurd h (by omega)
  · intro v f w' hX' hfv hoth hv
    obtain ⟨g, cap, t, rfl, hz, hG, hxx⟩ := hX'
    have z0 := fv_get (n := 23) (by decide) (show f 19 = .slice (some ⟨g, 0, none⟩) (ts.length + 1) cap from hfv (by decide))
    have f4 := hG.rd.fr 9
    have c4 := hG.rd.field (j := 5) (by decide)
    have z1 := fv_get (n := 23) (by decide) (show f 22 = .pointer (some ⟨p, 9, none⟩) from hv 11 (by decide) (by decide))
    refine wpOp_step rfl ?_
    intro K' hK'
    rw [if_pos (wanted_none rfl)]
    go_simp
    (try simp only [z0, z1])
    (try go_simp)
    refine hK' _ _ ?_
    exact ⟨rfl, _, results_none rfl _ _ _, .inl ⟨(ty, mu, oneOf ti), az, hfin.out, haz, rfl, ts ++ [t], _, hG.store hp, by rw [List.map_append, List.map_cons, List.map_nil, hz]⟩⟩
set_option maxRecDepth 100000 in
set_option maxHeartbeats 16000000 in
theorem datas_row : RowFn datK 97 9 141 gData := by
  intro w0 ws p br s a e l cs xs hp hbr hs he ha hx hJ
  obtain ⟨ts, v0, hS, rfl⟩ := hJ
  rw [List.length_map] at hx
  have hbw : br < ws.heap.size := hS.bx.lt
  have hbl : w0.heap.size ≤ br := Nat.le_of_eq hbr.symm
  replace hbr := Lib.hid hbr
  have hRs := hS.rd
  have c0 := hS.bx.cell (j := 0) rfl
  have hbk := Lib.hid hS.bx
  replace hS := Lib.hid hS
  obtain ⟨G2, hG0⟩ : ∃ G2, gData (strl s) e a = G2 := ⟨_, rfl⟩
  rw [hG0]
  replace hG0 := Lib.hid hG0
  go_enter Tryz.func141, Tryz.ntmps141
  go_wp2_with fail
  refine (is_any hRs hs he 0).mono ?_
  rintro e' w1 ⟨hV, ⟨z1, a1, v', hg, ha1, rfl, rfl, hR1⟩ | ⟨n, hg, rfl⟩⟩
  rotate_left
  · exact ⟨rfl, .inr ⟨n, by rw [← hG0.out]; unfold gData; rw [rd_err hg], rfl, hS.out.wr.trans hV⟩⟩
  have hG1 := hG0.out.symm.trans (show gData (strl s) e a = _ from by unfold gData; exact rd_bind hg)
  replace hG1 := Lib.hid hG1
  have hk1 := hbk.out.wr hV (by omega)
  have hW1 := hV
  clear hg hV c0 hG0 hRs
  have c0 := hk1.cell (j := 0) rfl
  replace hR1 := Lib.hid hR1
  replace hk1 := Lib.hid hk1
  replace hW1 := Lib.hid hW1
  go_wp2_with fail
  refine (constant_any hR1.out hs he ha1).mono ?_
  rintro e' w2 ⟨hV, ⟨o, a2, v', hg, ha2, ⟨fl1, fl2, fl3, ti, hs7, hvt⟩, rfl, hR2⟩ | ⟨n, hg, rfl⟩⟩
  rotate_left
  · exact ⟨rfl, .inr ⟨n, by rw [hG1.out]; exact rd_err hg, rfl, hS.out.wr.trans (hW1.out.trans hV)⟩⟩
  have hG2 := hG1.out.trans (rd_bind hg)
  replace hG2 := Lib.hid hG2
  have hk2 := hk1.out.wr hV (by omega)
  have hW2 := hW1.out.trans hV
  clear hg hV c0 hG1 hR1 hk1 hW1
  replace hvt : v' = .agg #[.int .i64 ti.op, .int .i64 ti.x, .int .i64 ti.y, .int .i64 ti.n, .slice ti.a4 ti.ls.length ti.c4, .slice ti.a5 ti.body.len ti.c5, .slice ti.a6 ti.els.len ti.c6] := hvt
  subst hvt
  obtain rfl : o = oneOf ti := by obtain ⟨h1, h2, h3, h4, h5, h6, h7⟩ := hs7; cases o; simp only [oneOf] at *; simp [*]
  replace fl1 := Lib.hid fl1
  replace fl2 := Lib.hid fl2
  replace fl3 := Lib.hid fl3
  replace hs7 := Lib.hid hs7
  go_upto_region 2 with (fail)
  have hB : Below w2.heap.size w2 (w2.alloc (.cells #[.int .i64 ti.op, .int .i64 ti.x, .int .i64 ti.y, .int .i64 ti.n, .slice ti.a4 ti.ls.length ti.c4, .slice ti.a5 ti.body.len ti.c5, .slice ti.a6 ti.els.len ti.c6, .string ⟨#[]⟩] 97)) := (Below.refl _ _).alloc (Nat.le_refl _) _
  have hX3 := Bk.new w2 [.int .i64 ti.op, .int .i64 ti.x, .int .i64 ti.y, .int .i64 ti.n, .slice ti.a4 ti.ls.length ti.c4, .slice ti.a5 ti.body.len ti.c5, .slice ti.a6 ti.els.len ti.c6, .string ⟨#[]⟩] 97
  have hR3 := hR2.below hB
  have hk3 := hk2.below hB
  have hwx : ws.heap.size ≤ w2.heap.size := hW2.size
  have hW3 := hW2.trans (Wr.of_below hB)
  have hbx : br < w2.heap.size := hk2.lt
  obtain ⟨x, hx'⟩ : ∃ x, x = w2.heap.size := ⟨_, rfl⟩
  obtain ⟨w3, hww⟩ : ∃ w3, w3 = w2.alloc (.cells #[.int .i64 ti.op, .int .i64 ti.x, .int .i64 ti.y, .int .i64 ti.n, .slice ti.a4 ti.ls.length ti.c4, .slice ti.a5 ti.body.len ti.c5, .slice ti.a6 ti.els.len ti.c6, .string ⟨#[]⟩] 97) := ⟨_, rfl⟩
  rw [← hx'] at hX3 hwx hbx ⊢
  rw [show (w2.alloc (.cells [.int .i64 ti.op, .int .i64 ti.x, .int .i64 ti.y, .int .i64 ti.n, .slice ti.a4 ti.ls.length ti.c4, .slice ti.a5 ti.body.len ti.c5, .slice ti.a6 ti.els.len ti.c6, .string ⟨#[]⟩].toArray 97)) = w3 from hww.symm] at hX3
  rw [← hww] at hR3 hk3 hW3 ⊢
  clear hww hB hR2 hk2 hW2
  replace hx' := Lib.hid hx' 
  have c0 := hk3.cell (j := 0) rfl
  replace hX3 := Lib.hid hX3
  replace hR3 := Lib.hid hR3
  replace hk3 := Lib.hid hk3
  replace hW3 := Lib.hid hW3
  go_wp2_with fail
  refine (rtext_any hR3.out hs he ha2).mono ?_
  rintro e' w4 ⟨hV, ⟨tx, a4, v', hg, ha4, ⟨rfl, hl3⟩, rfl, hR4⟩ | ⟨n, hg, rfl⟩⟩
  rotate_left
  · exact ⟨rfl, .inr ⟨n, by rw [hG2.out]; exact rd_err hg, rfl, hS.out.wr.trans (hW3.out.trans hV)⟩⟩
  have hG4 := hG2.out.trans (rd_bind hg)
  replace hG4 := Lib.hid hG4
  have hk4 := hk3.out.wr hV (by omega)
  have hW4 := hW3.out.trans hV
  have hX4 := hX3.out.wr hV (by omega)
  clear hg hV c0 hG2 hX3 hR3 hk3 hW3
  have x7 := hX4.cell (j := 7) rfl
  have f7 := hX4.fr 7
  have c0 := hk4.cell (j := 0) rfl
  go_upto_region 3 with (fail)
  have hR5 := (hR4.far (q := x) (by omega) 7 (.string (mkb tx)))
  have hk5 := (hk4.far (p := x) (by omega) 7 (.string (mkb tx)))
  have hX5 := (hX4.set 7 (.string (mkb tx)))
  have hW5 := (hW4.fresh (q := x) hwx 7 (.string (mkb tx)))
  obtain ⟨w5, hww⟩ : ∃ w5, w5 = (w4.setCell ⟨x, 7, none⟩ (.string (mkb tx))) := ⟨_, rfl⟩
  rw [← hww] at hR5 hk5 hX5 hW5 ⊢
  clear hww hR4 hk4 hX4 hW4 c0 x7 f7
  replace hX5 : Bk w5 x [.int .i64 ti.op, .int .i64 ti.x, .int .i64 ti.y, .int .i64 ti.n, .slice ti.a4 ti.ls.length ti.c4, .slice ti.a5 ti.body.len ti.c5, .slice ti.a6 ti.els.len ti.c6, .string (mkb tx)] 97 := hX5
  have hfin := hG4.out
  replace hfin : G2 = .ok ((oneOf ti, mkb tx), a4) := hfin
  replace hfin := Lib.hid hfin
  replace hfin := hfin
  obtain ⟨wz, hwz⟩ : ∃ wz, wz = w5 := ⟨_, rfl⟩
  obtain ⟨az, haz'⟩ : ∃ az, az = a4 := ⟨_, rfl⟩
  have haz : az ≤ e := by rw [haz']; exact ha4
  rw [← haz'] at hfin hR5
  rw [← hwz] at hR5 hX5 hW5 ⊢
  have hRz := hR5
  have hX := hX5
  have hWz := hW5
  clear hwz haz' hR5 hX5 hW5 hk5
  have hok : (datK).ok (fun b => ws.heap.size ≤ b) wz ((ti, mkb tx)) := ⟨fl1.out, fl2.out, fl3.out⟩
  have c0 := 0
  obtain ⟨ie, hie, hze, hse, hbe⟩ := info_parts info78
  have hSz := hS.out.rdd hp hWz hRz
  have hcells := Lib.hid (fun k v w' (hX' : XC datK 97 w0 wz p br s e l cs 9 v0 ts x [.int .i64 ti.op, .int .i64 ti.x, .int .i64 ti.y, .int .i64 ti.n, .slice ti.a4 ti.ls.length ti.c4, .slice ti.a5 ti.body.len ti.c5, .slice ti.a6 ti.els.len ti.c6, .string (mkb tx)] 97 ws.heap.size ((oneOf ti, mkb tx)) az k v w') => XC.cells hSz hp hX hX' (by decide))
  have hvo : ∀ g, v0.ownBlock = some g → g < ws.heap.size := fun g hg => (hS.out.own.lt g hg).2
  have hvo2 : ∀ g, v0.ownBlock = some g → br + 1 ≤ g := fun g hg => (hS.out.own.lt g hg).1
  have hbrw : br + 1 ≤ ws.heap.size := hbw
  replace hSz := Lib.hid hSz
  replace hX := Lib.hid hX
  replace hok := Lib.hid hok
  clear hWz hRz c0
  refine wp_fv _ 22 rfl ?_
  refine region_chain hmix 22 12 2 (fun k => match k with | 0 => 7 | 1 => 8 | _ => 12) (fun j => 10 + j) rfl (by kernel_rfl) (by kernel_rfl) (by kernel_rfl) (by kernel_rfl) (fun j => match j with | 0 => .pointer (some ⟨p, 0, none⟩) | 1 => .pointer (some ⟨p, 0, none⟩) | 2 => .pointer (some ⟨p, 0, none⟩) | 3 => .pointer (some ⟨p, 4, none⟩) | 4 => .pointer (some ⟨p, 13, none⟩) | 5 => v0 | 6 => .agg #[.int .i64 ti.op, .int .i64 ti.x, .int .i64 ti.y, .int .i64 ti.n, .slice ti.a4 ti.ls.length ti.c4, .slice ti.a5 ti.body.len ti.c5, .slice ti.a6 ti.els.len ti.c6, .string (mkb tx)] | 9 => .pointer (some ⟨p, 0, none⟩) | 10 => .pointer (some ⟨p, 4, none⟩) | 11 => .pointer (some ⟨p, 13, none⟩) | _ => undef) (XC datK 97 w0 wz p br s e l cs 9 v0 ts x [.int .i64 ti.op, .int .i64 ti.x, .int .i64 ti.y, .int .i64 ti.n, .slice ti.a4 ti.ls.length ti.c4, .slice ti.a5 ti.body.len ti.c5, .slice ti.a6 ti.els.len ti.c6, .string (mkb tx)] 97 ws.heap.size ((oneOf ti, mkb tx)) az) ?_ ?_ ?_ ?_
  · exact rfl
  · intro i hi hn k v f w' hk hX' hoth hv
    obtain ⟨g0, g1, gx⟩ := hcells.out k v w' hX'
    have x0 := gx.cell (j := 0) rfl
    have x1 := gx.cell (j := 1) rfl
    have x2 := gx.cell (j := 2) rfl
    have x3 := gx.cell (j := 3) rfl
    have x4 := gx.cell (j := 4) rfl
    have x5 := gx.cell (j := 5) rfl
    have x6 := gx.cell (j := 6) rfl
    have x7 := gx.cell (j := 7) rfl
    clear hX' gx
    match i, hi with
    | 0, _ =>
      have z0 := fv_get (n := 22) (by decide) (show f 0 = .pointer (some ⟨br, 0, none⟩) from (hoth 0 (by decide)).trans rfl)
      refine wpOp_step rfl ?_
      intro K' hK'
      rw [if_pos (wanted_none rfl)]
      go_simp
      (try simp only [z0])
      (try go_simp)
      exact hK' _ _ ⟨fv_set _ _, rfl⟩
    | 1, _ =>
      have z0 := fv_get (n := 22) (by decide) (show f 0 = .pointer (some ⟨br, 0, none⟩) from (hoth 0 (by decide)).trans rfl)
      refine wpOp_step rfl ?_
      intro K' hK'
      rw [if_pos (wanted_none rfl)]
      go_simp
      (try simp only [z0])
      (try go_simp)
      exact hK' _ _ ⟨fv_set _ _, rfl⟩
    | 2, _ =>
      have z0 := fv_get (n := 22) (by decide) (show f 11 = .pointer (some ⟨p, 0, none⟩) from hv 1 (by kernel_rfl) (by decide))
      refine wpOp_step rfl ?_
      intro K' hK'
      rw [if_pos (wanted_none rfl)]
      go_simp
      (try simp only [z0])
      (try go_simp)
      exact hK' _ _ ⟨fv_set _ _, rfl⟩
    | 3, _ =>
      have z0 := fv_get (n := 22) (by decide) (show f 12 = .pointer (some ⟨p, 0, none⟩) from hv 2 (by kernel_rfl) (by decide))
      refine wpOp_step rfl ?_
      intro K' hK'
      rw [if_pos (wanted_none rfl)]
      go_simp
      (try simp only [z0])
      (try go_simp)
      exact hK' _ _ ⟨fv_set _ _, rfl⟩
    | 4, _ =>
      have z0 := fv_get (n := 22) (by decide) (show f 13 = .pointer (some ⟨p, 4, none⟩) from hv 3 (by kernel_rfl) (by decide))
      refine wpOp_step rfl ?_
      intro K' hK'
      rw [if_pos (wanted_none rfl)]
      go_simp
      (try simp only [z0])
      (try go_simp)
      exact hK' _ _ ⟨fv_set _ _, rfl⟩
    | 5, _ =>
      have z0 := fv_get (n := 22) (by decide) (show f 14 = .pointer (some ⟨p, 13, none⟩) from hv 4 (by kernel_rfl) (by decide))
      refine wpOp_step rfl ?_
      intro K' hK'
      rw [if_pos (wanted_none rfl)]
      go_simp
      (try simp only [z0])
      (try go_simp)
      exact hK' _ _ ⟨fv_set _ _, rfl⟩
    | 6, _ =>
      have z0 := fv_get (n := 22) (by decide) (show f 1 = .pointer (some ⟨x, 0, none⟩) from (hoth 1 (by decide)).trans rfl)
      refine wpOp_step rfl ?_
      intro K' hK'
      rw [if_pos (wanted_none rfl)]
      go_simp
      (try simp only [z0])
      (try go_simp)
      exact hK' _ _ ⟨fv_set _ _, rfl⟩
    | 7, _ => exact absurd rfl (hn 0 (by decide))
    | 8, _ => exact absurd rfl (hn 1 (by decide))
    | 9, _ =>
      have z0 := fv_get (n := 22) (by decide) (show f 10 = .pointer (some ⟨p, 0, none⟩) from hv 0 (by kernel_rfl) (by decide))
      refine wpOp_step rfl ?_
      intro K' hK'
      rw [if_pos (wanted_none rfl)]
      go_simp
      (try simp only [z0])
      (try go_simp)
      exact hK' _ _ ⟨fv_set _ _, rfl⟩
    | 10, _ =>
      have z0 := fv_get (n := 22) (by decide) (show f 19 = .pointer (some ⟨p, 0, none⟩) from hv 9 (by kernel_rfl) (by decide))
      refine wpOp_step rfl ?_
      intro K' hK'
      rw [if_pos (wanted_none rfl)]
      go_simp
      (try simp only [z0])
      (try go_simp)
      exact hK' _ _ ⟨fv_set _ _, rfl⟩
    | 11, _ =>
      have z0 := fv_get (n := 22) (by decide) (show f 20 = .pointer (some ⟨p, 4, none⟩) from hv 10 (by kernel_rfl) (by decide))
      refine wpOp_step rfl ?_
      intro K' hK'
      rw [if_pos (wanted_none rfl)]
      go_simp
      (try simp only [z0])
      (try go_simp)
      exact hK' _ _ ⟨fv_set _ _, rfl⟩
    | i + 12, h => exact absurd h (by omega)
  · intro k hk v f w' hX' hfv hoth hv
    match k, hk with
    | 0, _ =>
      obtain rfl : w' = wz.drew := hX'
      have z0 := fv_get (n := 22) (by decide) (show f 16 = .agg #[.int .i64 ti.op, .int .i64 ti.x, .int .i64 ti.y, .int .i64 ti.n, .slice ti.a4 ti.ls.length ti.c4, .slice ti.a5 ti.body.len ti.c5, .slice ti.a6 ti.els.len ti.c6, .string (mkb tx)] from hv 6 (by kernel_rfl) (by decide))
      refine wpOp_step rfl ?_
      intro K' hK'
      rw [if_pos (wanted_none rfl)]
      go_simp
      (try simp only [z0])
      (try go_simp)
      exact hK' _ _ ⟨_, fv_set _ _, PhS.of (K := datK) (hSz.out.drew hp) hp (hX.out.below (Below.refl _ _).drew) ((ti, mkb tx)) rfl (datK.keep (keeps_drew' _) hok.out)⟩
    | 1, _ =>
      obtain ⟨b, t, rfl, hb, hz, hk, h1, hxx⟩ := hX'
      have z0 := fv_get (n := 22) (by decide) (show f 17 = .slice (some ⟨b, 0, none⟩) 1 1 from hfv (by decide))
      have z1 := fv_get (n := 22) (by decide) (show f 15 = v0 from hv 5 (by kernel_rfl) (by decide))
      refine wpOp_step rfl ?_
      intro K' hK'
      refine step_append_lies _ (by rfl) (.tmp 15) (.tmp 17) 31 (by rfl) (br + 1) 97 ie _ 8 120 Tryz.underlying31 hie hze hse hbe rfl (by decide) v0 ts.length (ts.flatMap (datK).enc) (by exact z1) h1.own ⟨b, 0, none⟩ 1 1 ((datK).enc t) (by exact z0) (by rw [(datK).len]; rfl) (World.news_of_block (cs := ((datK).enc t).toArray) (t := 97) (fr := (0, 0)) hb) ((datK).one t) (by decide) (by unfold maxLen; omega) (by omega) h1.bx.lt w'.heap.size rfl ?_
      intro g cap w5 hown hgrow hat hlt
      exact hK' _ _ ⟨_, fv_put _ _, PhA.of h1 hp hbl hxx (fun g hg => by have := hvo g hg; omega) hz hk hvo hbrw hown hgrow hat⟩
    | k + 2, h => exact absurd h (by omega)
  · intro v f w' hX' hfv hoth hv
    obtain ⟨g, cap, t, rfl, hz, hG, hxx⟩ := hX'
    have z0 := fv_get (n := 22) (by decide) (show f 18 = .slice (some ⟨g, 0, none⟩) (ts.length + 1) cap from hfv (by decide))
    have f4 := hG.rd.fr 13
    have c4 := hG.rd.field (j := 9) (by decide)
    have z1 := fv_get (n := 22) (by decide) (show f 21 = .pointer (some ⟨p, 13, none⟩) from hv 11 (by decide) (by decide))
    refine wpOp_step rfl ?_
    intro K' hK'
    rw [if_pos (wanted_none rfl)]
    go_simp
    (try simp only [z0, z1])
    (try go_simp)
    refine hK' _ _ ?_
    exact ⟨rfl, _, results_none rfl _ _ _, .inl ⟨(oneOf ti, mkb tx), az, hfin.out, haz, rfl, ts ++ [t], _, hG.store hp, by rw [List.map_append, List.map_cons, List.map_nil, hz]⟩⟩
set_option maxRecDepth 100000 in
set_option maxHeartbeats 16000000 in
theorem exports_row : RowFnT expK 93 6 134 gExport := by
  intro w0 ws p br s a e l cs xs hT hp hbr hs he ha hx hJ
  obtain ⟨ts, v0, hS, rfl⟩ := hJ
  rw [List.length_map] at hx
  have hbw : br < ws.heap.size := hS.bx.lt
  have hbl : w0.heap.size ≤ br := Nat.le_of_eq hbr.symm
  replace hbr := Lib.hid hbr
  have hRs := hS.rd
  have c0 := hS.bx.cell (j := 0) rfl
  have hbk := Lib.hid hS.bx
  have hTs := Lib.hid (hT.wr hS.wr)
  replace hS := Lib.hid hS
  obtain ⟨G2, hG0⟩ : ∃ G2, gExport (strl s) e a = G2 := ⟨_, rfl⟩
  rw [hG0]
  replace hG0 := Lib.hid hG0
  go_enter Tryz.func134, Tryz.ntmps134
  have hRd := hRs.drew
  have hWd := (Wr.refl (· = p) ws).drew
  have hWa := (Wr.of_below (S := (· = p)) ((Below.refl ws.heap.size ws).alloc (Nat.le_refl _) (.cells #[.string ⟨#[]⟩, .int .i64 0, .int .i64 0] 93))).drew
  have hRa := (hRs.below ((Below.refl ws.heap.size ws).alloc (Nat.le_refl _) (.cells #[.string ⟨#[]⟩, .int .i64 0, .int .i64 0] 93))).drew
  have hTa := Lib.hid (hTs.out.wr hWa)
  have hza := Lib.hid ((Bk.new ws [.string ⟨#[]⟩, .int .i64 0, .int .i64 0] 93).wr (Wr.refl (· = p) _).drew (by omega))
  have hTd := Lib.hid (hTs.out.wr (Wr.refl (· = p) ws).drew)
  have hkd := Lib.hid (hbk.out.wr (Wr.refl (· = p) ws).drew (by omega))
  go_upto_region 0 with (fail)
  go_region_held2 (fun w' => w'.cell? ⟨br, 0, none⟩ = some (.pointer (some ⟨p, 0, none⟩))) (first | assumption | go_keep)
    ((first
      | (go_at_call 125; refine (rname_any hRa hs he ha hTa.out).mono ?_; rintro e' w1 ⟨hV, ⟨n1, a1, v', hg, ha1, ⟨rfl, hl1⟩, rfl, hR1⟩ | ⟨n, hg, rfl⟩⟩; rotate_left; exact ⟨rfl, .inr ⟨n, by rw [← hG0.out]; unfold gExport; rw [rd_err hg], rfl, hS.out.wr.trans (hWa.trans hV)⟩⟩; have hW1 : Wr (· = p) ws w1 := hWa.trans hV; have hz1 : Bk w1 ws.heap.size [.string ⟨#[]⟩, .int .i64 0, .int .i64 0] 93 := hza.out.wr hV (by omega); replace hz1 := Lib.hid hz1; have hG1 := hG0.out.symm.trans (show gExport (strl s) e a = _ from by unfold gExport; exact rd_bind hg); replace hG1 := Lib.hid hG1; have hk1 := hbk.out.wr hW1 (by omega); have c1 := hk1.cell (j := 0) rfl; have n1c := World.new_ne w1 _ c1; replace hk1 := Lib.hid hk1; replace hR1 := Lib.hid hR1; replace hW1 := Lib.hid hW1; clear hg hV)
      | (go_at_call 125; refine (rname_any hRd hs he ha hTd.out).mono ?_; rintro e' w1 ⟨hV, ⟨n1, a1, v', hg, ha1, ⟨rfl, hl1⟩, rfl, hR1⟩ | ⟨n, hg, rfl⟩⟩; rotate_left; exact ⟨rfl, .inr ⟨n, by rw [← hG0.out]; unfold gExport; rw [rd_err hg], rfl, hS.out.wr.trans (hWd.trans hV)⟩⟩; have hW1 : Wr (· = p) ws w1 := hWd.trans hV; have hG1 := hG0.out.symm.trans (show gExport (strl s) e a = _ from by unfold gExport; exact rd_bind hg); replace hG1 := Lib.hid hG1; have hk1 := hbk.out.wr hW1 (by omega); have c1 := hk1.cell (j := 0) rfl; have n1c := World.new_ne w1 _ c1; replace hk1 := Lib.hid hk1; replace hR1 := Lib.hid hR1; replace hW1 := Lib.hid hW1; clear hg hV)
      | (have _t := hz1; go_at_call 78; refine (byte_any hR1.out hs he).mono ?_; rintro e' w2 ⟨hV, ⟨kd, a2, v', hg, ha2, ⟨rfl, hkd0, hkd1⟩, rfl, hR2⟩ | ⟨n, hg, rfl⟩⟩; rotate_left; exact ⟨rfl, .inr ⟨n, by rw [hG1.out]; exact rd_err hg, rfl, hS.out.wr.trans (hW1.out.trans hV)⟩⟩; have hV1 : Wr (· = p) w1 w2 := hV; have hz2 : Bk w2 ws.heap.size [.string ⟨#[]⟩, .int .i64 0, .int .i64 0] 93 := hz1.out.wr hV1 (by omega); have hG2 := hG1.out.trans (rd_bind hg); replace hG2 := Lib.hid hG2; have hk2 := hk1.out.wr hV1 (by omega); have hW2 := hW1.out.trans hV1; have hs12 := hW1.out.size; have hs2 := hV1.size; have hb1 := hk1.out.lt; have c2 := hk2.cell (j := 0) rfl; have n2c := World.new_ne w2 _ c2; have c2' : ∀ u1 u2 u3, (((w2.setCell ⟨ws.heap.size, 0, none⟩ u1).setCell ⟨ws.heap.size, 1, none⟩ u2).setCell ⟨ws.heap.size, 2, none⟩ u3).cell? ⟨br, 0, none⟩ = some (.pointer (some ⟨p, 0, none⟩)) := fun u1 u2 u3 => so_far (so_far (so_far c2 (by show ws.heap.size ≠ br; omega)) (by show ws.heap.size ≠ br; omega)) (by show ws.heap.size ≠ br; omega); have z0 := hz2.cell (j := 0) rfl; have z1 := hz2.cell (j := 1) rfl; have z2 := hz2.cell (j := 2) rfl; have f0 := hz2.fr 0; have f1 := hz2.fr 1; have f2 := hz2.fr 2; replace hz2 := Lib.hid hz2; replace hk2 := Lib.hid hk2; replace hR2 := Lib.hid hR2; replace hW2 := Lib.hid hW2; clear hg hV hV1)
      | (go_at_call 78; refine (byte_any hR1.out hs he).mono ?_; rintro e' w2 ⟨hV, ⟨kd, a2, v', hg, ha2, ⟨rfl, hkd0, hkd1⟩, rfl, hR2⟩ | ⟨n, hg, rfl⟩⟩; rotate_left; exact ⟨rfl, .inr ⟨n, by rw [hG1.out]; exact rd_err hg, rfl, hS.out.wr.trans (hW1.out.trans hV)⟩⟩; have hV1 : Wr (· = p) w1 w2 := hV; have hG2 := hG1.out.trans (rd_bind hg); replace hG2 := Lib.hid hG2; have hk2 := hk1.out.wr hV1 (by omega); have hW2 := hW1.out.trans hV1; have hs12 := hW1.out.size; have hs2 := hV1.size; have hb1 := hk1.out.lt; have c2 := hk2.cell (j := 0) rfl; have n2c := World.new_ne w2 _ c2; replace hk2 := Lib.hid hk2; replace hR2 := Lib.hid hR2; replace hW2 := Lib.hid hW2; clear hg hV hV1)
      | (go_at_call 78; refine (byte_any (hR1.out.below ((Below.refl _ _).alloc (Nat.le_refl _) _)) hs he).mono ?_; rintro e' w2 ⟨hV, ⟨kd, a2, v', hg, ha2, ⟨rfl, hkd0, hkd1⟩, rfl, hR2⟩ | ⟨n, hg, rfl⟩⟩; rotate_left; exact ⟨rfl, .inr ⟨n, by rw [hG1.out]; exact rd_err hg, rfl, hS.out.wr.trans (hW1.out.trans ((Wr.of_below ((Below.refl _ _).alloc (Nat.le_refl _) _)).trans hV))⟩⟩; have hV1 : Wr (· = p) w1 w2 := (Wr.of_below ((Below.refl _ _).alloc (Nat.le_refl _) _)).trans hV; have hz2 : Bk w2 w1.heap.size [.string ⟨#[]⟩, .int .i64 0, .int .i64 0] 93 := (Bk.new w1 [.string ⟨#[]⟩, .int .i64 0, .int .i64 0] 93).wr hV (by have := hW1.out.size; omega); have hG2 := hG1.out.trans (rd_bind hg); replace hG2 := Lib.hid hG2; have hk2 := hk1.out.wr hV1 (by omega); have hW2 := hW1.out.trans hV1; have hs12 := hW1.out.size; have hs2 := hV1.size; have hb1 := hk1.out.lt; have c2 := hk2.cell (j := 0) rfl; have n2c := World.new_ne w2 _ c2; have c2' : ∀ u1 u2 u3, (((w2.setCell ⟨w1.heap.size, 0, none⟩ u1).setCell ⟨w1.heap.size, 1, none⟩ u2).setCell ⟨w1.heap.size, 2, none⟩ u3).cell? ⟨br, 0, none⟩ = some (.pointer (some ⟨p, 0, none⟩)) := fun u1 u2 u3 => so_far (so_far (so_far c2 (by show w1.heap.size ≠ br; omega)) (by show w1.heap.size ≠ br; omega)) (by show w1.heap.size ≠ br; omega); have z0 := hz2.cell (j := 0) rfl; have z1 := hz2.cell (j := 1) rfl; have z2 := hz2.cell (j := 2) rfl; have f0 := hz2.fr 0; have f1 := hz2.fr 1; have f2 := hz2.fr 2; replace hz2 := Lib.hid hz2; replace hk2 := Lib.hid hk2; replace hR2 := Lib.hid hR2; replace hW2 := Lib.hid hW2; clear hg hV hV1)))
  all_goals
    go_upto_region 1 with (fail)
    have hlp := hbw
    first
      | (obtain ⟨x, w3, hX3, hR3, hk3, hW3, hwx, hbx, hx', hwe⟩ : ∃ x w3, Bk w3 x [.string (mkb n1), .int .i64 kd, .int .i64 0] 93 ∧ RdAt w3 p s (a2 : Int) (e : Int) (l : Int) (cs.set 6 v0) ∧ Bk w3 br [.pointer (some ⟨p, 0, none⟩)] 60 ∧ Wr (· = p) ws w3 ∧ ws.heap.size ≤ x ∧ br < x ∧ x = ws.heap.size ∧ w3 = ((w2.setCell ⟨ws.heap.size, 0, none⟩ (.string (mkb n1))).setCell ⟨ws.heap.size, 1, none⟩ (.int .i64 kd)).setCell ⟨ws.heap.size, 2, none⟩ (.int .i64 0) := ⟨ws.heap.size, ((w2.setCell ⟨ws.heap.size, 0, none⟩ (.string (mkb n1))).setCell ⟨ws.heap.size, 1, none⟩ (.int .i64 kd)).setCell ⟨ws.heap.size, 2, none⟩ (.int .i64 0), ((hz2.out.set 0 _).set 1 _).set 2 _, ((hR2.out.far (by omega) 0 _).far (by omega) 1 _).far (by omega) 2 _, ((hk2.out.far (by omega) 0 _).far (by omega) 1 _).far (by omega) 2 _, ((hW2.out.fresh (by omega) 0 _).fresh (by omega) 1 _).fresh (by omega) 2 _, by omega, by omega, rfl, rfl⟩; rw [← hwe, ← hx']; clear hwe)
      | (obtain ⟨x, w3, hX3, hR3, hk3, hW3, hwx, hbx, hx', hwe⟩ : ∃ x w3, Bk w3 x [.string (mkb n1), .int .i64 kd, .int .i64 0] 93 ∧ RdAt w3 p s (a2 : Int) (e : Int) (l : Int) (cs.set 6 v0) ∧ Bk w3 br [.pointer (some ⟨p, 0, none⟩)] 60 ∧ Wr (· = p) ws w3 ∧ ws.heap.size ≤ x ∧ br < x ∧ x = w1.heap.size ∧ w3 = ((w2.setCell ⟨w1.heap.size, 0, none⟩ (.string (mkb n1))).setCell ⟨w1.heap.size, 1, none⟩ (.int .i64 kd)).setCell ⟨w1.heap.size, 2, none⟩ (.int .i64 0) := ⟨w1.heap.size, ((w2.setCell ⟨w1.heap.size, 0, none⟩ (.string (mkb n1))).setCell ⟨w1.heap.size, 1, none⟩ (.int .i64 kd)).setCell ⟨w1.heap.size, 2, none⟩ (.int .i64 0), ((hz2.out.set 0 _).set 1 _).set 2 _, ((hR2.out.far (by omega) 0 _).far (by omega) 1 _).far (by omega) 2 _, ((hk2.out.far (by omega) 0 _).far (by omega) 1 _).far (by omega) 2 _, ((hW2.out.fresh (by omega) 0 _).fresh (by omega) 1 _).fresh (by omega) 2 _, by omega, by omega, rfl, rfl⟩; rw [← hwe, ← hx']; clear hwe)
      | (obtain ⟨x, w3, hX3, hR3, hk3, hW3, hwx, hbx, hx', hwe⟩ : ∃ x w3, Bk w3 x [.string (mkb n1), .int .i64 kd, .int .i64 0] 93 ∧ RdAt w3 p s (a2 : Int) (e : Int) (l : Int) (cs.set 6 v0) ∧ Bk w3 br [.pointer (some ⟨p, 0, none⟩)] 60 ∧ Wr (· = p) ws w3 ∧ ws.heap.size ≤ x ∧ br < x ∧ x = w2.heap.size ∧ w3 = w2.alloc (.cells #[.string (mkb n1), .int .i64 kd, .int .i64 0] 93) := ⟨w2.heap.size, w2.alloc (.cells #[.string (mkb n1), .int .i64 kd, .int .i64 0] 93), Bk.new w2 [.string (mkb n1), .int .i64 kd, .int .i64 0] 93, hR2.out.below ((Below.refl _ _).alloc (Nat.le_refl _) _), hk2.out.below ((Below.refl _ _).alloc (Nat.le_refl _) _), hW2.out.trans (Wr.of_below ((Below.refl _ _).alloc (Nat.le_refl _) _)), by omega, by omega, rfl, rfl⟩; rw [← hwe, ← hx']; clear hwe)
    clear c0 c1 n1c hRd hRs hG0 hG1 hk1 hR1 hW1 hkd hTd hRa hTa hWa hza hWd c2 n2c hR2 hk2 hW2
    replace hx' := Lib.hid hx'
    have x1 := hX3.cell (j := 1) rfl
    have hG3 : G2 = if kd ≤ 3 then (gU (strl s) e a2).bind fun i => .ok ((mkb n1, kd, i.1), i.2) else .error 50 := hG2.out
    replace hG3 := Lib.hid hG3
    clear hG2
    by_cases hk3' : kd ≤ 3
    rotate_left
    · have hb : decide (kd ≤ 3) = false := decide_eq_false hk3'
      have hf : G2 = .error 50 := by rw [hG3.out, if_neg hk3']
      replace hf := Lib.hid hf
      replace hk3' := Lib.hid hk3'
      replace hW3 := Lib.hid hW3
      go_wp2_with fail
      refine (dwant_no 50 _).mono ?_
      rintro e' w4 ⟨rfl, rfl⟩
      exact ⟨rfl, .inr ⟨50, hf.out, rfl, hS.out.wr.trans hW3.out⟩⟩
    have hb : decide (kd ≤ 3) = true := decide_eq_true hk3'
    have hGk : G2 = (gU (strl s) e a2).bind fun i => .ok ((mkb n1, kd, i.1), i.2) := by rw [hG3.out, if_pos hk3']
    replace hGk := Lib.hid hGk
    replace hk3' := Lib.hid hk3'
    replace hW3 := Lib.hid hW3
    replace hR3 := Lib.hid hR3
    replace hX3 := Lib.hid hX3
    replace hk3 := Lib.hid hk3
    clear hG3
    go_wp2_with fail
    refine (dwant_yes 50 _).mono ?_
    rintro e' w4 ⟨rfl, rfl⟩
    clear hb x1
    replace hW3 := hW3.out
    replace hR3 := hR3.out
    replace hX3 := hX3.out
    replace hk3 := hk3.out
    have c0 := hk3.cell (j := 0) rfl
    replace hX3 := Lib.hid hX3
    replace hR3 := Lib.hid hR3
    replace hk3 := Lib.hid hk3
    replace hW3 := Lib.hid hW3
    go_wp2_with fail
    refine (u_any hR3.out hs he ha2).mono ?_
    rintro e' w4 ⟨hV, ⟨ix, a4, v', hg, ha4, ⟨rfl, hi0, hi1⟩, rfl, hR4⟩ | ⟨n, hg, rfl⟩⟩
    rotate_left
    · exact ⟨rfl, .inr ⟨n, by rw [hGk.out]; exact rd_err hg, rfl, hS.out.wr.trans (hW3.out.trans hV)⟩⟩
    have hG4 := hGk.out.trans (rd_bind hg)
    replace hG4 := Lib.hid hG4
    have hk4 := hk3.out.wr hV (by omega)
    have hW4 := hW3.out.trans hV
    have hX4 := hX3.out.wr hV (by omega)
    clear hg hV c0 hGk hX3 hR3 hk3 hW3
    have x2 := hX4.cell (j := 2) rfl
    have f2 := hX4.fr 2
    have c0 := hk4.cell (j := 0) rfl
    go_upto_region 3 with (fail)
    have hR5 := (hR4.far (q := x) (by omega) 2 (.int .i64 ix))
    have hk5 := (hk4.far (p := x) (by omega) 2 (.int .i64 ix))
    have hX5 := (hX4.set 2 (.int .i64 ix))
    have hW5 := (hW4.fresh (q := x) hwx 2 (.int .i64 ix))
    obtain ⟨w5, hww⟩ : ∃ w5, w5 = (w4.setCell ⟨x, 2, none⟩ (.int .i64 ix)) := ⟨_, rfl⟩
    rw [← hww] at hR5 hk5 hX5 hW5 ⊢
    clear hww hR4 hk4 hX4 hW4 c0 x2 f2
    replace hX5 : Bk w5 x [.string (mkb n1), .int .i64 kd, .int .i64 ix] 93 := hX5
    have hfin := hG4.out
    replace hfin : G2 = .ok ((mkb n1, kd, ix), a4) := hfin
    replace hfin := Lib.hid hfin
    replace hfin := hfin
    obtain ⟨wz, hwz⟩ : ∃ wz, wz = w5 := ⟨_, rfl⟩
    obtain ⟨az, haz'⟩ : ∃ az, az = a4 := ⟨_, rfl⟩
    have haz : az ≤ e := by rw [haz']; exact ha4
    rw [← haz'] at hfin hR5
    rw [← hwz] at hR5 hX5 hW5 ⊢
    have hRz := hR5
    have hX := hX5
    have hWz := hW5
    clear hwz haz' hR5 hX5 hW5 hk5
    have hok : (expK).ok (fun b => ws.heap.size ≤ b) wz ((mkb n1, kd, ix)) := trivial
    have c0 := 0
    obtain ⟨ie, hie, hze, hse, hbe⟩ := info_parts info114
    have hSz := hS.out.rdd hp hWz hRz
    have hcells := Lib.hid (fun k v w' (hX' : XC expK 93 w0 wz p br s e l cs 6 v0 ts x [.string (mkb n1), .int .i64 kd, .int .i64 ix] 93 ws.heap.size ((mkb n1, kd, ix)) az k v w') => XC.cells hSz hp hX hX' (by decide))
    have hvo : ∀ g, v0.ownBlock = some g → g < ws.heap.size := fun g hg => (hS.out.own.lt g hg).2
    have hvo2 : ∀ g, v0.ownBlock = some g → br + 1 ≤ g := fun g hg => (hS.out.own.lt g hg).1
    have hbrw : br + 1 ≤ ws.heap.size := hbw
    replace hSz := Lib.hid hSz
    replace hX := Lib.hid hX
    replace hok := Lib.hid hok
    clear hWz hRz c0
    refine wp_fv _ 26 rfl ?_
    refine region_chain hmix 26 12 2 (fun k => match k with | 0 => 7 | 1 => 8 | _ => 12) (fun j => 14 + j) rfl (by kernel_rfl) (by kernel_rfl) (by kernel_rfl) (by kernel_rfl) (fun j => match j with | 0 => .pointer (some ⟨p, 0, none⟩) | 1 => .pointer (some ⟨p, 0, none⟩) | 2 => .pointer (some ⟨p, 0, none⟩) | 3 => .pointer (some ⟨p, 4, none⟩) | 4 => .pointer (some ⟨p, 10, none⟩) | 5 => v0 | 6 => .agg #[.string (mkb n1), .int .i64 kd, .int .i64 ix] | 9 => .pointer (some ⟨p, 0, none⟩) | 10 => .pointer (some ⟨p, 4, none⟩) | 11 => .pointer (some ⟨p, 10, none⟩) | _ => undef) (XC expK 93 w0 wz p br s e l cs 6 v0 ts x [.string (mkb n1), .int .i64 kd, .int .i64 ix] 93 ws.heap.size ((mkb n1, kd, ix)) az) ?_ ?_ ?_ ?_
    · exact rfl
    · intro i hi hn k v f w' hk hX' hoth hv
      obtain ⟨g0, g1, gx⟩ := hcells.out k v w' hX'
      have x0 := gx.cell (j := 0) rfl
      have x1 := gx.cell (j := 1) rfl
      have x2 := gx.cell (j := 2) rfl
      clear hX' gx
      match i, hi with
      | 0, _ =>
        have z0 := fv_get (n := 26) (by decide) (show f 0 = .pointer (some ⟨br, 0, none⟩) from (hoth 0 (by decide)).trans rfl)
        refine wpOp_step rfl ?_
        intro K' hK'
        rw [if_pos (wanted_none rfl)]
        go_simp
        (try simp only [z0])
        (try go_simp)
        exact hK' _ _ ⟨fv_set _ _, rfl⟩
      | 1, _ =>
        have z0 := fv_get (n := 26) (by decide) (show f 0 = .pointer (some ⟨br, 0, none⟩) from (hoth 0 (by decide)).trans rfl)
        refine wpOp_step rfl ?_
        intro K' hK'
        rw [if_pos (wanted_none rfl)]
        go_simp
        (try simp only [z0])
        (try go_simp)
        exact hK' _ _ ⟨fv_set _ _, rfl⟩
      | 2, _ =>
        have z0 := fv_get (n := 26) (by decide) (show f 15 = .pointer (some ⟨p, 0, none⟩) from hv 1 (by kernel_rfl) (by decide))
        refine wpOp_step rfl ?_
        intro K' hK'
        rw [if_pos (wanted_none rfl)]
        go_simp
        (try simp only [z0])
        (try go_simp)
        exact hK' _ _ ⟨fv_set _ _, rfl⟩
      | 3, _ =>
        have z0 := fv_get (n := 26) (by decide) (show f 16 = .pointer (some ⟨p, 0, none⟩) from hv 2 (by kernel_rfl) (by decide))
        refine wpOp_step rfl ?_
        intro K' hK'
        rw [if_pos (wanted_none rfl)]
        go_simp
        (try simp only [z0])
        (try go_simp)
        exact hK' _ _ ⟨fv_set _ _, rfl⟩
      | 4, _ =>
        have z0 := fv_get (n := 26) (by decide) (show f 17 = .pointer (some ⟨p, 4, none⟩) from hv 3 (by kernel_rfl) (by decide))
        refine wpOp_step rfl ?_
        intro K' hK'
        rw [if_pos (wanted_none rfl)]
        go_simp
        (try simp only [z0])
        (try go_simp)
        exact hK' _ _ ⟨fv_set _ _, rfl⟩
      | 5, _ =>
        have z0 := fv_get (n := 26) (by decide) (show f 18 = .pointer (some ⟨p, 10, none⟩) from hv 4 (by kernel_rfl) (by decide))
        refine wpOp_step rfl ?_
        intro K' hK'
        rw [if_pos (wanted_none rfl)]
        go_simp
        (try simp only [z0])
        (try go_simp)
        exact hK' _ _ ⟨fv_set _ _, rfl⟩
      | 6, _ =>
        have z0 := fv_get (n := 26) (by decide) (show f 1 = .pointer (some ⟨x, 0, none⟩) from (hoth 1 (by decide)).trans rfl)
        refine wpOp_step rfl ?_
        intro K' hK'
        rw [if_pos (wanted_none rfl)]
        go_simp
        (try simp only [z0])
        (try go_simp)
        exact hK' _ _ ⟨fv_set _ _, rfl⟩
      | 7, _ => exact absurd rfl (hn 0 (by decide))
      | 8, _ => exact absurd rfl (hn 1 (by decide))
      | 9, _ =>
        have z0 := fv_get (n := 26) (by decide) (show f 14 = .pointer (some ⟨p, 0, none⟩) from hv 0 (by kernel_rfl) (by decide))
        refine wpOp_step rfl ?_
        intro K' hK'
        rw [if_pos (wanted_none rfl)]
        go_simp
        (try simp only [z0])
        (try go_simp)
        exact hK' _ _ ⟨fv_set _ _, rfl⟩
      | 10, _ =>
        have z0 := fv_get (n := 26) (by decide) (show f 23 = .pointer (some ⟨p, 0, none⟩) from hv 9 (by kernel_rfl) (by decide))
        refine wpOp_step rfl ?_
        intro K' hK'
        rw [if_pos (wanted_none rfl)]
        go_simp
        (try simp only [z0])
        (try go_simp)
        exact hK' _ _ ⟨fv_set _ _, rfl⟩
      | 11, _ =>
        have z0 := fv_get (n := 26) (by decide) (show f 24 = .pointer (some ⟨p, 4, none⟩) from hv 10 (by kernel_rfl) (by decide))
        refine wpOp_step rfl ?_
        intro K' hK'
        rw [if_pos (wanted_none rfl)]
        go_simp
        (try simp only [z0])
        (try go_simp)
        exact hK' _ _ ⟨fv_set _ _, rfl⟩
      | i + 12, h => exact absurd h (by omega)
    · intro k hk v f w' hX' hfv hoth hv
      match k, hk with
      | 0, _ =>
        obtain rfl : w' = wz.drew := hX'
        have z0 := fv_get (n := 26) (by decide) (show f 20 = .agg #[.string (mkb n1), .int .i64 kd, .int .i64 ix] from hv 6 (by kernel_rfl) (by decide))
        refine wpOp_step rfl ?_
        intro K' hK'
        rw [if_pos (wanted_none rfl)]
        go_simp
        (try simp only [z0])
        (try go_simp)
        exact hK' _ _ ⟨_, fv_set _ _, PhS.of (K := expK) (hSz.out.drew hp) hp (hX.out.below (Below.refl _ _).drew) ((mkb n1, kd, ix)) rfl (expK.keep (keeps_drew' _) hok.out)⟩
      | 1, _ =>
        obtain ⟨b, t, rfl, hb, hz, hk, h1, hxx⟩ := hX'
        have z0 := fv_get (n := 26) (by decide) (show f 21 = .slice (some ⟨b, 0, none⟩) 1 1 from hfv (by decide))
        have z1 := fv_get (n := 26) (by decide) (show f 19 = v0 from hv 5 (by kernel_rfl) (by decide))
        refine wpOp_step rfl ?_
        intro K' hK'
        refine step_append_lies _ (by rfl) (.tmp 19) (.tmp 21) 28 (by rfl) (br + 1) 93 ie _ 3 32 Tryz.underlying28 hie hze hse hbe rfl (by decide) v0 ts.length (ts.flatMap (expK).enc) (by exact z1) h1.own ⟨b, 0, none⟩ 1 1 ((expK).enc t) (by exact z0) (by rw [(expK).len]; rfl) (World.news_of_block (cs := ((expK).enc t).toArray) (t := 93) (fr := (0, 0)) hb) ((expK).one t) (by decide) (by unfold maxLen; omega) (by omega) h1.bx.lt w'.heap.size rfl ?_
        intro g cap w5 hown hgrow hat hlt
        exact hK' _ _ ⟨_, fv_put _ _, PhA.of h1 hp hbl hxx (fun g hg => by have := hvo g hg; omega) hz hk hvo hbrw hown hgrow hat⟩
      | k + 2, h => exact absurd h (by omega)
    · intro v f w' hX' hfv hoth hv
      obtain ⟨g, cap, t, rfl, hz, hG, hxx⟩ := hX'
      have z0 := fv_get (n := 26) (by decide) (show f 22 = .slice (some ⟨g, 0, none⟩) (ts.length + 1) cap from hfv (by decide))
      have f4 := hG.rd.fr 10
      have c4 := hG.rd.field (j := 6) (by decide)
      have z1 := fv_get (n := 26) (by decide) (show f 25 = .pointer (some ⟨p, 10, none⟩) from hv 11 (by decide) (by decide))
      refine wpOp_step rfl ?_
      intro K' hK'
      rw [if_pos (wanted_none rfl)]
      go_simp
      (try simp only [z0, z1])
      (try go_simp)
      refine hK' _ _ ?_
      exact ⟨rfl, _, results_none rfl _ _ _, .inl ⟨(mkb n1, kd, ix), az, hfin.out, haz, rfl, ts ++ [t], _, hG.store hp, by rw [List.map_append, List.map_cons, List.map_nil, hz]⟩⟩
end Go.Proofs.YtkbfjkbokifgkaaGreatDoor
