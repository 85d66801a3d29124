/- The sections whose entries are put together. -/
import Derived.Test.YtkbfjkbokifgkaaGreatDoorSf
namespace Go.Proofs.YtkbfjkbokifgkaaGreatDoor
open Go.RowKit
set_option linter.unusedVariables false
set_option linter.unusedSimpArgs false

def impK : Kd (ByteArray × ByteArray × Int) := ⟨ByteArray × ByteArray × Int, fun t => [.string t.1, .string t.2.1, .int .i64 t.2.2], 3, id, fun _ _ _ => True, fun _ => rfl, fun t u hu => by simp only [List.mem_cons, List.mem_nil_iff, or_false] at hu; rcases hu with rfl | rfl | rfl <;> rfl, fun _ _ => trivial⟩
def expK : Kd (ByteArray × Int × Int) := ⟨ByteArray × Int × Int, fun t => [.string t.1, .int .i64 t.2.1, .int .i64 t.2.2], 3, id, fun _ _ _ => True, fun _ => rfl, fun t u hu => by simp only [List.mem_cons, List.mem_nil_iff, or_false] at hu; rcases hu with rfl | rfl | rfl <;> rfl, fun _ _ => trivial⟩
def oneOf (t : ERec) : One := ⟨t.op, t.x, t.y, t.n, t.ls, t.body, t.els⟩
def Flat (t : ERec) : Prop := t.ls = [] ∧ t.body = .nil ∧ t.els = .nil
theorem eV_one (t : ERec) : ∀ u ∈ eV t, u.oneCell' = true := fun u hu => by
  simp only [eV, List.mem_cons, List.mem_nil_iff, or_false] at hu
  rcases hu with rfl | rfl | rfl | rfl | rfl | rfl | rfl <;> rfl
/-- A list of numbers, and where it lies. -/
abbrev Li := List Int × Option Addr × Nat
def liV (l : Li) : Value := .slice l.2.1 l.1.length l.2.2
def gloK : Kd (Int × Bool × One) := ⟨Int × Bool × ERec, fun t => [.int .i64 t.1, .bool t.2.1, .int .i64 t.2.2.op, .int .i64 t.2.2.x, .int .i64 t.2.2.y, .int .i64 t.2.2.n, .slice t.2.2.a4 t.2.2.ls.length t.2.2.c4, .slice t.2.2.a5 t.2.2.body.len t.2.2.c5, .slice t.2.2.a6 t.2.2.els.len t.2.2.c6], 9, fun t => (t.1, t.2.1, oneOf t.2.2), fun _ _ t => Flat t.2.2, fun _ => rfl, fun t u hu => by simp only [List.mem_cons, List.mem_nil_iff, or_false] at hu; rcases hu with rfl | rfl | rfl | rfl | rfl | rfl | rfl | rfl | rfl <;> rfl, fun _ h => h⟩
def datK : Kd (One × ByteArray) := ⟨ERec × ByteArray, fun t => [.int .i64 t.1.op, .int .i64 t.1.x, .int .i64 t.1.y, .int .i64 t.1.n, .slice t.1.a4 t.1.ls.length t.1.c4, .slice t.1.a5 t.1.body.len t.1.c5, .slice t.1.a6 t.1.els.len t.1.c6, .string t.2], 8, fun t => (oneOf t.1, t.2), fun _ _ t => Flat t.1, fun _ => rfl, fun t u hu => by simp only [List.mem_cons, List.mem_nil_iff, or_false] at hu; rcases hu with rfl | rfl | rfl | rfl | rfl | rfl | rfl | rfl <;> rfl, fun _ h => h⟩
def elmK : Kd (One × List Int) := ⟨ERec × Li, fun t => [.int .i64 t.1.op, .int .i64 t.1.x, .int .i64 t.1.y, .int .i64 t.1.n, .slice t.1.a4 t.1.ls.length t.1.c4, .slice t.1.a5 t.1.body.len t.1.c5, .slice t.1.a6 t.1.els.len t.1.c6, .slice t.2.2.1 t.2.1.length t.2.2.2], 8, fun t => (oneOf t.1, t.2.1), fun R w t => Flat t.1 ∧ IntsR R w t.2.2.1 t.2.1, fun _ => rfl, fun t u hu => by simp only [List.mem_cons, List.mem_nil_iff, or_false] at hu; rcases hu with rfl | rfl | rfl | rfl | rfl | rfl | rfl | rfl <;> rfl, fun f h => ⟨h.1, h.2.keep f⟩⟩
def typK : Kd (List Int × List Int) := ⟨Li × Li, fun t => [.slice t.1.2.1 t.1.1.length t.1.2.2, .slice t.2.2.1 t.2.1.length t.2.2.2], 2, fun t => (t.1.1, t.2.1), fun R w t => IntsR R w t.1.2.1 t.1.1 ∧ IntsR R w t.2.2.1 t.2.1, fun _ => rfl, fun t u hu => by simp only [List.mem_cons, List.mem_nil_iff, or_false] at hu; rcases hu with rfl | rfl <;> rfl, fun f h => ⟨h.1.keep f, h.2.keep f⟩⟩
theorem info108 : (Tryz.prog.info? 80).map (fun i => (i.zero, i.size, i.bytes)) = some (some (.agg #[.string ByteArray.empty, .string ByteArray.empty, .int .i64 0]), 3, 40) := by kernel_rfl
theorem info114 : (Tryz.prog.info? 93).map (fun i => (i.zero, i.size, i.bytes)) = some (some (.agg #[.string ByteArray.empty, .int .i64 0, .int .i64 0]), 3, 32) := by kernel_rfl
theorem info80 : (Tryz.prog.info? 90).map (fun i => (i.zero, i.size, i.bytes)) = some (some (.agg #[.int .i64 0, .bool false, .int .i64 0, .int .i64 0, .int .i64 0, .int .i64 0, .slice none 0 0, .slice none 0 0, .slice none 0 0]), 9, 120) := by kernel_rfl
theorem info76 : (Tryz.prog.info? 95).map (fun i => (i.zero, i.size, i.bytes)) = some (some (.agg #[.int .i64 0, .int .i64 0, .int .i64 0, .int .i64 0, .slice none 0 0, .slice none 0 0, .slice none 0 0, .slice none 0 0]), 8, 128) := by kernel_rfl
theorem info78 : (Tryz.prog.info? 97).map (fun i => (i.zero, i.size, i.bytes)) = some (some (.agg #[.int .i64 0, .int .i64 0, .int .i64 0, .int .i64 0, .slice none 0 0, .slice none 0 0, .slice none 0 0, .string ByteArray.empty]), 8, 120) := by kernel_rfl
theorem info74 : (Tryz.prog.info? 78).map (fun i => (i.zero, i.size, i.bytes)) = some (some (.agg #[.slice none 0 0, .slice none 0 0]), 2, 48) := by kernel_rfl
set_option maxRecDepth 100000 in
set_option maxHeartbeats 16000000 in
theorem imports_row : RowFnT impK 80 1 124 gImport := by
  intro w0 ws p br s a e l cs xs hT hp hbr hs he ha hx hJ
  obtain ⟨ts, v0, hS, rfl⟩ := hJ
  rw [List.length_map] at hx
  have hbw : br < ws.heap.size := hS.bx.lt
  have hbl : w0.heap.size ≤ br := Nat.le_of_eq hbr.symm
  replace hbr := Lib.hid hbr
  have hRs := hS.rd
  have c0 := hS.bx.cell (j := 0) rfl
  have hbk := Lib.hid hS.bx
  have hTs := Lib.hid (hT.wr hS.wr)
  replace hS := Lib.hid hS
  obtain ⟨G2, hG0⟩ : ∃ G2, gImport (strl s) e a = G2 := ⟨_, rfl⟩
  rw [hG0]
  replace hG0 := Lib.hid hG0
  go_enter Tryz.func124, Tryz.ntmps124
  go_wp2_with fail
  refine (rname_any hRs hs he ha hTs.out).mono ?_
  rintro e' w1 ⟨hW1, ⟨n1, a1, v', hg1, ha1, ⟨rfl, hl1⟩, rfl, hR1⟩ | ⟨n, hg1, rfl⟩⟩
  rotate_left
  · exact ⟨rfl, .inr ⟨n, by rw [← hG0.out]; unfold gImport; rw [rd_err hg1], rfl, hS.out.wr.trans hW1⟩⟩
  have hG1 := hG0.out.symm.trans (show gImport (strl s) e a = _ from by unfold gImport; exact rd_bind hg1)
  replace hG1 := Lib.hid hG1
  have hk1 := hbk.out.wr hW1 (by omega)
  clear hg1 hG0 hRs c0
  go_upto_region 1 with (fail)
  have hB1 : Below w1.heap.size w1 (w1.alloc (.cells #[.string (mkb n1), .string ⟨#[]⟩, .int .i64 0] 80)) := (Below.refl _ _).alloc (Nat.le_refl _) _
  have hX2 := Bk.new w1 [.string (mkb n1), .string ⟨#[]⟩, .int .i64 0] 80
  have hR2 := hR1.below hB1
  have hk2 := hk1.below hB1
  have hW2 := hW1.trans (Wr.of_below hB1)
  have hwx : ws.heap.size ≤ w1.heap.size := hW1.size
  obtain ⟨x, hx'⟩ : ∃ x, x = w1.heap.size := ⟨_, rfl⟩
  obtain ⟨w2, hw2⟩ : ∃ w2, w2 = w1.alloc (.cells #[.string (mkb n1), .string ⟨#[]⟩, .int .i64 0] 80) := ⟨_, rfl⟩
  rw [← hx'] at hX2 hwx ⊢
  rw [show (w1.alloc (.cells [.string (mkb n1), .string ⟨#[]⟩, .int .i64 0].toArray 80)) = w2 from hw2.symm] at hX2
  rw [← hw2] at hR2 hk2 hW2 ⊢
  clear hw2 hB1 hR1 hk1 hW1
  have c0 := hk2.cell (j := 0) rfl
  replace hx' := Lib.hid hx'
  replace hX2 := Lib.hid hX2
  replace hR2 := Lib.hid hR2
  replace hk2 := Lib.hid hk2
  replace hW2 := Lib.hid hW2
  go_wp2_with fail
  refine (rname_any hR2.out hs he ha1 (hTs.out.wr hW2.out)).mono ?_
  rintro e' w3 ⟨hW3, ⟨n2, a3, v', hg3, ha3, ⟨rfl, hl3⟩, rfl, hR3⟩ | ⟨n, hg3, rfl⟩⟩
  rotate_left
  · exact ⟨rfl, .inr ⟨n, by rw [hG1.out, rd_err hg3], rfl, hS.out.wr.trans (hW2.out.trans hW3)⟩⟩
  have hG3 := hG1.out.trans (rd_bind hg3)
  replace hG3 := Lib.hid hG3
  have hX3 := hX2.out.wr hW3 (by omega)
  have hk3 := hk2.out.wr hW3 (by omega)
  have hW3' := hW2.out.trans hW3
  clear hg3 hG1 hR2 hX2 hk2 hW2 hW3 c0
  have x1 := hX3.cell (j := 1) rfl
  have f1 := hX3.fr 1
  have c0 := hk3.cell (j := 0) rfl
  go_upto_region 2 with (fail)
  have hR4 := hR3.far (q := x) (by omega) 1 (.string (mkb n2))
  have hk4 := hk3.far (p := x) (by omega) 1 (.string (mkb n2))
  have hX4 := hX3.set 1 (.string (mkb n2))
  have hW4 := hW3'.fresh (q := x) hwx 1 (.string (mkb n2))
  obtain ⟨w4, hw4⟩ : ∃ w4, w4 = w3.setCell ⟨x, 1, none⟩ (.string (mkb n2)) := ⟨_, rfl⟩
  rw [← hw4] at hR4 hk4 hX4 hW4 ⊢
  clear hw4 hR3 hk3 hX3 hW3' x1 f1 c0
  have c0 := hk4.cell (j := 0) rfl
  replace hX4 := Lib.hid hX4
  replace hR4 := Lib.hid hR4
  replace hk4 := Lib.hid hk4
  replace hW4 := Lib.hid hW4
  go_wp2_with fail
  refine (is_any hR4.out hs he 0).mono ?_
  rintro e' w5 ⟨hW5, ⟨z5, a5, v', hg5, ha5, rfl, rfl, hR5⟩ | ⟨n, hg5, rfl⟩⟩
  rotate_left
  · exact ⟨rfl, .inr ⟨n, by rw [hG3.out]; exact rd_err hg5, rfl, hS.out.wr.trans (hW4.out.trans hW5)⟩⟩
  have hG5 := hG3.out.trans (rd_bind hg5)
  replace hG5 := Lib.hid hG5
  have hX5 := Lib.hid (hX4.out.wr hW5 (by omega))
  have hk5 := hk4.out.wr hW5 (by omega)
  have hW5' := Lib.hid (hW4.out.trans hW5)
  clear hg5 hG3 hR4 hX4 hk4 hW4 hW5 c0
  have c0 := hk5.cell (j := 0) rfl
  replace hk5 := Lib.hid hk5
  replace hR5 := Lib.hid hR5
  go_wp2_with fail
  refine (u_any hR5.out hs he ha5).mono ?_
  rintro e' w6 ⟨hW6, ⟨ty, az, v', hg6, haz, ⟨rfl, ht0, ht1⟩, rfl, hR6⟩ | ⟨n, hg6, rfl⟩⟩
  rotate_left
  · exact ⟨rfl, .inr ⟨n, by rw [hG5.out]; exact rd_err hg6, rfl, hS.out.wr.trans (hW5'.out.trans hW6)⟩⟩
  have hfin := hG5.out.trans (rd_bind hg6)
  replace hfin := Lib.hid hfin
  have hX6 := hX5.out.wr hW6 (by omega)
  have hk6 := hk5.out.wr hW6 (by omega)
  have hW6' := hW5'.out.trans hW6
  clear hg6 hG5 hR5 hX5 hk5 hW5' hW6 c0
  have x2 := hX6.cell (j := 2) rfl
  have f2 := hX6.fr 2
  have c0 := hk6.cell (j := 0) rfl
  go_upto_region 4 with (fail)
  have hRz := hR6.far (q := x) (by omega) 2 (.int .i64 ty)
  have hX := hX6.set 2 (.int .i64 ty)
  have hWz := hW6'.fresh (q := x) hwx 2 (.int .i64 ty)
  obtain ⟨wz, hw7⟩ : ∃ wz, wz = w6.setCell ⟨x, 2, none⟩ (.int .i64 ty) := ⟨_, rfl⟩
  rw [← hw7] at hRz hX hWz ⊢
  clear hw7 hR6 hk6 hX6 hW6' x2 f2 c0
  replace hX : Bk wz x [.string (mkb n1), .string (mkb n2), .int .i64 ty] 80 := hX
  have hok : (impK).ok (fun b => ws.heap.size ≤ b) wz (mkb n1, mkb n2, ty) := trivial
  have c0 := 0
  obtain ⟨ie, hie, hze, hse, hbe⟩ := info_parts info108
  have hSz := hS.out.rdd hp hWz hRz
  have hcells := Lib.hid (fun k v w' (hX' : XC impK 80 w0 wz p br s e l cs 1 v0 ts x [.string (mkb n1), .string (mkb n2), .int .i64 ty] 80 ws.heap.size ((mkb n1, mkb n2, ty)) az k v w') => XC.cells hSz hp hX hX' (by decide))
  have hvo : ∀ g, v0.ownBlock = some g → g < ws.heap.size := fun g hg => (hS.out.own.lt g hg).2
  have hvo2 : ∀ g, v0.ownBlock = some g → br + 1 ≤ g := fun g hg => (hS.out.own.lt g hg).1
  have hbrw : br + 1 ≤ ws.heap.size := hbw
  replace hSz := Lib.hid hSz
  replace hX := Lib.hid hX
  replace hok := Lib.hid hok
  clear hWz hRz c0
  refine wp_fv _ 25 rfl ?_
  refine region_chain hmix 25 12 2 (fun k => match k with | 0 => 7 | 1 => 8 | _ => 12) (fun j => 13 + j) rfl (by kernel_rfl) (by kernel_rfl) (by kernel_rfl) (by kernel_rfl) (fun j => match j with | 0 => .pointer (some ⟨p, 0, none⟩) | 1 => .pointer (some ⟨p, 0, none⟩) | 2 => .pointer (some ⟨p, 0, none⟩) | 3 => .pointer (some ⟨p, 4, none⟩) | 4 => .pointer (some ⟨p, 5, none⟩) | 5 => v0 | 6 => .agg #[.string (mkb n1), .string (mkb n2), .int .i64 ty] | 9 => .pointer (some ⟨p, 0, none⟩) | 10 => .pointer (some ⟨p, 4, none⟩) | 11 => .pointer (some ⟨p, 5, none⟩) | _ => undef) (XC impK 80 w0 wz p br s e l cs 1 v0 ts x [.string (mkb n1), .string (mkb n2), .int .i64 ty] 80 ws.heap.size ((mkb n1, mkb n2, ty)) az) ?_ ?_ ?_ ?_
  · exact rfl
  · intro i hi hn k v f w' hk hX' hoth hv
    obtain ⟨g0, g1, gx⟩ := hcells.out k v w' hX'
    have x0 := gx.cell (j := 0) rfl
    have x1 := gx.cell (j := 1) rfl
    have x2 := gx.cell (j := 2) rfl
    clear hX' gx
    match i, hi with
    | 0, _ =>
      have z0 := fv_get (n := 25) (by decide) (show f 0 = .pointer (some ⟨br, 0, none⟩) from (hoth 0 (by decide)).trans rfl)
      refine wpOp_step rfl ?_
      intro K' hK'
      rw [if_pos (wanted_none rfl)]
      go_simp
      (try simp only [z0])
      (try go_simp)
      exact hK' _ _ ⟨fv_set _ _, rfl⟩
    | 1, _ =>
      have z0 := fv_get (n := 25) (by decide) (show f 0 = .pointer (some ⟨br, 0, none⟩) from (hoth 0 (by decide)).trans rfl)
      refine wpOp_step rfl ?_
      intro K' hK'
      rw [if_pos (wanted_none rfl)]
      go_simp
      (try simp only [z0])
      (try go_simp)
      exact hK' _ _ ⟨fv_set _ _, rfl⟩
    | 2, _ =>
      have z0 := fv_get (n := 25) (by decide) (show f 14 = .pointer (some ⟨p, 0, none⟩) from hv 1 (by kernel_rfl) (by decide))
      refine wpOp_step rfl ?_
      intro K' hK'
      rw [if_pos (wanted_none rfl)]
      go_simp
      (try simp only [z0])
      (try go_simp)
      exact hK' _ _ ⟨fv_set _ _, rfl⟩
    | 3, _ =>
      have z0 := fv_get (n := 25) (by decide) (show f 15 = .pointer (some ⟨p, 0, none⟩) from hv 2 (by kernel_rfl) (by decide))
      refine wpOp_step rfl ?_
      intro K' hK'
      rw [if_pos (wanted_none rfl)]
      go_simp
      (try simp only [z0])
      (try go_simp)
      exact hK' _ _ ⟨fv_set _ _, rfl⟩
    | 4, _ =>
      have z0 := fv_get (n := 25) (by decide) (show f 16 = .pointer (some ⟨p, 4, none⟩) from hv 3 (by kernel_rfl) (by decide))
      refine wpOp_step rfl ?_
      intro K' hK'
      rw [if_pos (wanted_none rfl)]
      go_simp
      (try simp only [z0])
      (try go_simp)
      exact hK' _ _ ⟨fv_set _ _, rfl⟩
    | 5, _ =>
      have z0 := fv_get (n := 25) (by decide) (show f 17 = .pointer (some ⟨p, 5, none⟩) from hv 4 (by kernel_rfl) (by decide))
      refine wpOp_step rfl ?_
      intro K' hK'
      rw [if_pos (wanted_none rfl)]
      go_simp
      (try simp only [z0])
      (try go_simp)
      exact hK' _ _ ⟨fv_set _ _, rfl⟩
    | 6, _ =>
      have z0 := fv_get (n := 25) (by decide) (show f 1 = .pointer (some ⟨x, 0, none⟩) from (hoth 1 (by decide)).trans rfl)
      refine wpOp_step rfl ?_
      intro K' hK'
      rw [if_pos (wanted_none rfl)]
      go_simp
      (try simp only [z0])
      (try go_simp)
      exact hK' _ _ ⟨fv_set _ _, rfl⟩
    | 7, _ => exact absurd rfl (hn 0 (by decide))
    | 8, _ => exact absurd rfl (hn 1 (by decide))
    | 9, _ =>
      have z0 := fv_get (n := 25) (by decide) (show f 13 = .pointer (some ⟨p, 0, none⟩) from hv 0 (by kernel_rfl) (by decide))
      refine wpOp_step rfl ?_
      intro K' hK'
      rw [if_pos (wanted_none rfl)]
      go_simp
      (try simp only [z0])
      (try go_simp)
      exact hK' _ _ ⟨fv_set _ _, rfl⟩
    | 10, _ =>
      have z0 := fv_get (n := 25) (by decide) (show f 22 = .pointer (some ⟨p, 0, none⟩) from hv 9 (by kernel_rfl) (by decide))
      refine wpOp_step rfl ?_
      intro K' hK'
      rw [if_pos (wanted_none rfl)]
      go_simp
      (try simp only [z0])
      (try go_simp)
      exact hK' _ _ ⟨fv_set _ _, rfl⟩
    | 11, _ =>
      have z0 := fv_get (n := 25) (by decide) (show f 23 = .pointer (some ⟨p, 4, none⟩) from hv 10 (by kernel_rfl) (by decide))
      refine wpOp_step rfl ?_
      intro K' hK'
      rw [if_pos (wanted_none rfl)]
      go_simp
      (try simp only [z0])
      (try go_simp)
      exact hK' _ _ ⟨fv_set _ _, rfl⟩
    | i + 12, h => exact absurd h (by omega)
  · intro k hk v f w' hX' hfv hoth hv
    match k, hk with
    | 0, _ =>
      obtain rfl : w' = wz.drew := hX'
      have z0 := fv_get (n := 25) (by decide) (show f 19 = .agg #[.string (mkb n1), .string (mkb n2), .int .i64 ty] from hv 6 (by kernel_rfl) (by decide))
      refine wpOp_step rfl ?_
      intro K' hK'
      rw [if_pos (wanted_none rfl)]
      go_simp
      (try simp only [z0])
      (try go_simp)
      exact hK' _ _ ⟨_, fv_set _ _, PhS.of (K := impK) (hSz.out.drew hp) hp (hX.out.below (Below.refl _ _).drew) ((mkb n1, mkb n2, ty)) rfl (impK.keep (keeps_drew' _) hok.out)⟩
    | 1, _ =>
      obtain ⟨b, t, rfl, hb, hz, hk, h1, hxx⟩ := hX'
      have z0 := fv_get (n := 25) (by decide) (show f 20 = .slice (some ⟨b, 0, none⟩) 1 1 from hfv (by decide))
      have z1 := fv_get (n := 25) (by decide) (show f 18 = v0 from hv 5 (by kernel_rfl) (by decide))
      refine wpOp_step rfl ?_
      intro K' hK'
      refine step_append_lies _ (by rfl) (.tmp 18) (.tmp 20) 24 (by rfl) (br + 1) 80 ie _ 3 40 Tryz.underlying24 hie hze hse hbe rfl (by decide) v0 ts.length (ts.flatMap (impK).enc) (by exact z1) h1.own ⟨b, 0, none⟩ 1 1 ((impK).enc t) (by exact z0) (by rw [(impK).len]; rfl) (World.news_of_block (cs := ((impK).enc t).toArray) (t := 80) (fr := (0, 0)) hb) ((impK).one t) (by decide) (by unfold maxLen; omega) (by omega) h1.bx.lt w'.heap.size rfl ?_
      intro g cap w5 hown hgrow hat hlt
      exact hK' _ _ ⟨_, fv_put _ _, PhA.of h1 hp hbl hxx (fun g hg => by have := hvo g hg; omega) hz hk hvo hbrw hown hgrow hat⟩
    | k + 2, h => exact absurd h (by omega)
  · intro v f w' hX' hfv hoth hv
    obtain ⟨g, cap, t, rfl, hz, hG, hxx⟩ := hX'
    have z0 := fv_get (n := 25) (by decide) (show f 21 = .slice (some ⟨g, 0, none⟩) (ts.length + 1) cap from hfv (by decide))
    have f4 := hG.rd.fr 5
    have c4 := hG.rd.field (j := 1) (by decide)
    have z1 := fv_get (n := 25) (by decide) (show f 24 = .pointer (some ⟨p, 5, none⟩) from hv 11 (by decide) (by decide))
    refine wpOp_step rfl ?_
    intro K' hK'
    rw [if_pos (wanted_none rfl)]
    go_simp
    (try simp only [z0, z1])
    (try go_simp)
    refine hK' _ _ ?_
    exact ⟨rfl, _, results_none rfl _ _ _, .inl ⟨(mkb n1, mkb n2, ty), az, hfin.out, haz, rfl, ts ++ [t], _, hG.store hp, by rw [List.map_append, List.map_cons, List.map_nil, hz]⟩⟩
end Go.Proofs.YtkbfjkbokifgkaaGreatDoor
