/- The sections whose entries are read by one call. -/
import Derived.Test.YtkbfjkbokifgkaaGreatDoorSq
namespace Go.Proofs.YtkbfjkbokifgkaaGreatDoor
open Go.RowKit
set_option linter.unusedVariables false
set_option linter.unusedSimpArgs false

theorem JK.wr {α : Type} {K : Kd α} {E : TypeId} {w0 w w' : World} {p br : Nat} {s : ByteArray} {a e l : Int} {cs : List Value} {j : Nat} {v : Value} {ts : List K.R} (h : SecAt K E w0 w p br s a e l cs j v ts) (k : Wr (· = p) w w') : Wr (· = p) w0 w' := h.wr.trans k
/-- Functions of which the type alone is there. -/
def fnK : Kd Int := ⟨Int, fun t => [.int .i64 t, .slice none 0 0, .slice none 0 0], 3, id, fun _ _ _ => True, fun _ => rfl, fun t u hu => by simp only [List.mem_cons, List.mem_nil_iff, or_false] at hu; rcases hu with rfl | rfl | rfl <;> rfl, fun _ _ => trivial⟩
def limK : Kd (Int × Int × Bool) := ⟨Int × Int × Bool, fun t => [.int .i64 t.1, .int .i64 t.2.1, .bool t.2.2], 3, id, fun _ _ _ => True, fun _ => rfl, fun t u hu => by simp only [List.mem_cons, List.mem_nil_iff, or_false] at hu; rcases hu with rfl | rfl | rfl <;> rfl, fun _ _ => trivial⟩
theorem info48 : (Tryz.prog.info? 83).map (fun i => (i.zero, i.size, i.bytes)) = some (some (.agg #[.int .i64 0, .slice none 0 0, .slice none 0 0]), 3, 56) := by kernel_rfl
theorem info110l : (Tryz.prog.info? 86).map (fun i => (i.zero, i.size, i.bytes)) = some (some (.agg #[.int .i64 0, .int .i64 0, .bool false]), 3, 24) := by kernel_rfl
set_option maxRecDepth 100000 in
set_option maxHeartbeats 8000000 in
theorem funcs_row : RowFn fnK 83 2 127 gU := by
  intro w0 w p br s a e l cs xs hp hbr hs he ha hx hJ
  obtain ⟨ts, v0, hS, rfl⟩ := hJ
  rw [List.length_map] at hx
  have hbw : br < w.heap.size := hS.bx.lt
  have hbl : w0.heap.size ≤ br := Nat.le_of_eq hbr.symm
  replace hbr := Lib.hid hbr
  obtain ⟨ie, hie, hze, hse, hbe⟩ := info_parts info48
  replace hS := Lib.hid hS
  go_enter Tryz.func127, Tryz.ntmps127
  have hcells := Lib.hid (fun k v w' (hX : XB fnK 83 w0 w p br s e l cs 2 v0 ts w.heap.size (gU (strl s) e a) [fun z => .int .i64 z, fun z => .agg #[.int .i64 z, .slice none 0 0, .slice none 0 0]] k v w') => XB.cells hS.out hp hX (by decide))
  have hvo : ∀ g, v0.ownBlock = some g → g < w.heap.size := fun g hg => (hS.out.own.lt g hg).2
  have hbrw : br + 1 ≤ w.heap.size := hS.out.bx.lt
  refine wp_fv _ 15 rfl ?_
  refine region_chain hmix 15 14 4 (fun k => match k with | 0 => 7 | 1 => 8 | 2 => 9 | 3 => 10 | _ => 14) (fun j => 1 + j) rfl (by kernel_rfl) (by kernel_rfl) (by kernel_rfl) (by kernel_rfl) (fun j => match j with | 0 => .pointer (some ⟨p, 0, none⟩) | 1 => .pointer (some ⟨p, 0, none⟩) | 2 => .pointer (some ⟨p, 0, none⟩) | 3 => .pointer (some ⟨p, 4, none⟩) | 4 => .pointer (some ⟨p, 6, none⟩) | 5 => v0 | 6 => .pointer (some ⟨p, 0, none⟩) | 11 => .pointer (some ⟨p, 0, none⟩) | 12 => .pointer (some ⟨p, 4, none⟩) | 13 => .pointer (some ⟨p, 6, none⟩) | _ => undef) (XB fnK 83 w0 w p br s e l cs 2 v0 ts w.heap.size (gU (strl s) e a) [fun z => .int .i64 z, fun z => .agg #[.int .i64 z, .slice none 0 0, .slice none 0 0]]) ?_ ?_ ?_ ?_
  · exact rfl
  · intro i hi hn k v f w' hk hX hoth hv
    obtain ⟨g0, g1⟩ := hcells.out k v w' hX
    clear hX
    match i, hi with
    | 0, _ =>
      have z0 := fv_get (n := 15) (by decide) (show f 0 = .pointer (some ⟨br, 0, none⟩) from (hoth 0 (by decide)).trans rfl)
      refine wpOp_step rfl ?_
      intro K' hK'
      rw [if_pos (wanted_none rfl)]
      go_simp
      (try simp only [z0])
      (try go_simp)
      exact hK' _ _ ⟨fv_set _ _, rfl⟩
    | 1, _ =>
      have z0 := fv_get (n := 15) (by decide) (show f 0 = .pointer (some ⟨br, 0, none⟩) from (hoth 0 (by decide)).trans rfl)
      refine wpOp_step rfl ?_
      intro K' hK'
      rw [if_pos (wanted_none rfl)]
      go_simp
      (try simp only [z0])
      (try go_simp)
      exact hK' _ _ ⟨fv_set _ _, rfl⟩
    | 2, _ =>
      have z0 := fv_get (n := 15) (by decide) (show f 2 = .pointer (some ⟨p, 0, none⟩) from hv 1 (by kernel_rfl) (by decide))
      refine wpOp_step rfl ?_
      intro K' hK'
      rw [if_pos (wanted_none rfl)]
      go_simp
      (try simp only [z0])
      (try go_simp)
      exact hK' _ _ ⟨fv_set _ _, rfl⟩
    | 3, _ =>
      have z0 := fv_get (n := 15) (by decide) (show f 3 = .pointer (some ⟨p, 0, none⟩) from hv 2 (by kernel_rfl) (by decide))
      refine wpOp_step rfl ?_
      intro K' hK'
      rw [if_pos (wanted_none rfl)]
      go_simp
      (try simp only [z0])
      (try go_simp)
      exact hK' _ _ ⟨fv_set _ _, rfl⟩
    | 4, _ =>
      have z0 := fv_get (n := 15) (by decide) (show f 4 = .pointer (some ⟨p, 4, none⟩) from hv 3 (by kernel_rfl) (by decide))
      refine wpOp_step rfl ?_
      intro K' hK'
      rw [if_pos (wanted_none rfl)]
      go_simp
      (try simp only [z0])
      (try go_simp)
      exact hK' _ _ ⟨fv_set _ _, rfl⟩
    | 5, _ =>
      have z0 := fv_get (n := 15) (by decide) (show f 5 = .pointer (some ⟨p, 6, none⟩) from hv 4 (by kernel_rfl) (by decide))
      refine wpOp_step rfl ?_
      intro K' hK'
      rw [if_pos (wanted_none rfl)]
      go_simp
      (try simp only [z0])
      (try go_simp)
      exact hK' _ _ ⟨fv_set _ _, rfl⟩
    | 6, _ =>
      have z0 := fv_get (n := 15) (by decide) (show f 0 = .pointer (some ⟨br, 0, none⟩) from (hoth 0 (by decide)).trans rfl)
      refine wpOp_step rfl ?_
      intro K' hK'
      rw [if_pos (wanted_none rfl)]
      go_simp
      (try simp only [z0])
      (try go_simp)
      exact hK' _ _ ⟨fv_set _ _, rfl⟩
    | 7, _ => exact absurd rfl (hn 0 (by decide))
    | 8, _ => exact absurd rfl (hn 1 (by decide))
    | 9, _ => exact absurd rfl (hn 2 (by decide))
    | 10, _ => exact absurd rfl (hn 3 (by decide))
    | 11, _ =>
      have z0 := fv_get (n := 15) (by decide) (show f 1 = .pointer (some ⟨p, 0, none⟩) from hv 0 (by kernel_rfl) (by decide))
      refine wpOp_step rfl ?_
      intro K' hK'
      rw [if_pos (wanted_none rfl)]
      go_simp
      (try simp only [z0])
      (try go_simp)
      exact hK' _ _ ⟨fv_set _ _, rfl⟩
    | 12, _ =>
      have z0 := fv_get (n := 15) (by decide) (show f 12 = .pointer (some ⟨p, 0, none⟩) from hv 11 (by kernel_rfl) (by decide))
      refine wpOp_step rfl ?_
      intro K' hK'
      rw [if_pos (wanted_none rfl)]
      go_simp
      (try simp only [z0])
      (try go_simp)
      exact hK' _ _ ⟨fv_set _ _, rfl⟩
    | 13, _ =>
      have z0 := fv_get (n := 15) (by decide) (show f 13 = .pointer (some ⟨p, 4, none⟩) from hv 12 (by kernel_rfl) (by decide))
      refine wpOp_step rfl ?_
      intro K' hK'
      rw [if_pos (wanted_none rfl)]
      go_simp
      (try simp only [z0])
      (try go_simp)
      exact hK' _ _ ⟨fv_set _ _, rfl⟩
    | i + 14, h => exact absurd h (by omega)
  · intro k hk v f w' hX hfv hoth hv
    match k, hk with
    | 0, _ =>
      obtain rfl : w' = w.drew := hX
      have z0 := fv_get (n := 15) (by decide) (show f 7 = .pointer (some ⟨p, 0, none⟩) from hv 6 (by kernel_rfl) (by decide))
      refine wpOp_step rfl ?_
      intro K' hK'
      rw [if_pos (wanted_none rfl)]
      go_simp
      (try simp only [z0])
      (try go_simp)
      go_at_call 126
      refine (u_any (hS.out.drew hp).rd hs he ha).mono ?_
      rintro e' w4 ⟨hW, ⟨z, a', v', hg, ha', ⟨rfl, hv0, hv1⟩, rfl, hR⟩ | ⟨n, hg, rfl⟩⟩
      · go_simp
        exact hK' _ _ ⟨_, fv_set _ _, z, a', hg, ha', rfl, (hS.out.drew hp).rdd hp hW hR⟩
      · exact ⟨rfl, .inr ⟨n, hg, rfl, (hS.out.drew hp).wr.trans hW⟩⟩
    | 1, _ =>
      obtain ⟨z, a', hg, ha', rfl, h1⟩ := hX
      replace hg := Lib.hid hg
      have z0 := fv_get (n := 15) (by decide) (show f 8 = .int .i64 z from hfv (by decide))
      refine wpOp_step rfl ?_
      intro K' hK'
      rw [if_pos (wanted_none rfl)]
      go_simp
      (try simp only [z0])
      (try go_simp)
      exact hK' _ _ ⟨_, fv_set _ _, z, a', hg.out, ha', rfl, h1⟩
    | 2, _ =>
      obtain ⟨z, a', hg, ha', rfl, h1⟩ := hX
      replace hg := Lib.hid hg
      have z0 := fv_get (n := 15) (by decide) (show f 9 = .agg #[.int .i64 z, .slice none 0 0, .slice none 0 0] from hfv (by decide))
      refine wpOp_step rfl ?_
      intro K' hK'
      rw [if_pos (wanted_none rfl)]
      go_simp
      (try simp only [z0])
      (try go_simp)
      exact hK' _ _ ⟨_, fv_set _ _, z, a', hg.out, ha', PhS.of (K := fnK) h1 hp h1.bx (z) rfl trivial⟩
    | 3, _ =>
      obtain ⟨z, a', hg, ha', b, t, rfl, hb, hz, hk, h1, hxx⟩ := hX
      replace hg := Lib.hid hg
      have z0 := fv_get (n := 15) (by decide) (show f 10 = .slice (some ⟨b, 0, none⟩) 1 1 from hfv (by decide))
      have z1 := fv_get (n := 15) (by decide) (show f 6 = v0 from hv 5 (by kernel_rfl) (by decide))
      refine wpOp_step rfl ?_
      intro K' hK'
      refine step_append_lies _ (by rfl) (.tmp 6) (.tmp 10) 25 (by rfl) (br + 1) 83 ie _ 3 56 Tryz.underlying25 hie hze hse hbe rfl (by decide) v0 ts.length (ts.flatMap (fnK).enc) (by exact z1) h1.own ⟨b, 0, none⟩ 1 1 ((fnK).enc t) (by exact z0) (by rw [(fnK).len]; rfl) (World.news_of_block (cs := ((fnK).enc t).toArray) (t := 83) (fr := (0, 0)) hb) ((fnK).one t) (by decide) (by unfold maxLen; omega) (by omega) h1.bx.lt w'.heap.size rfl ?_
      intro g cap w5 hown hgrow hat hlt
      exact hK' _ _ ⟨_, fv_put _ _, z, a', hg.out, ha', PhA.of h1 hp (by omega) hxx (fun g hg => by have := (h1.own.lt g hg).1; omega) hz hk hvo hbrw hown hgrow hat⟩
    | k + 4, h => exact absurd h (by omega)
  · intro v f w' hX hfv hoth hv
    obtain ⟨z, a', hg, ha', g, cap, t, rfl, hz, hG, hxx⟩ := hX
    replace hg := Lib.hid hg
    have z0 := fv_get (n := 15) (by decide) (show f 11 = .slice (some ⟨g, 0, none⟩) (ts.length + 1) cap from hfv (by decide))
    have f4 := hG.rd.fr 6
    have c4 := hG.rd.field (j := 2) (by decide)
    have z1 := fv_get (n := 15) (by decide) (show f 14 = .pointer (some ⟨p, 6, none⟩) from hv 13 (by decide) (by decide))
    refine wpOp_step rfl ?_
    intro K' hK'
    rw [if_pos (wanted_none rfl)]
    go_simp
    (try simp only [z0, z1])
    (try go_simp)
    refine hK' _ _ ?_
    exact ⟨rfl, _, results_none rfl _ _ _, .inl ⟨z, a', hg.out, ha', rfl, ts ++ [t], _, hG.store hp, by rw [List.map_append, List.map_cons, List.map_nil, hz]⟩⟩
set_option maxRecDepth 100000 in
set_option maxHeartbeats 8000000 in
theorem mems_row : RowFn limK 86 4 130 gLimits := by
  intro w0 w p br s a e l cs xs hp hbr hs he ha hx hJ
  obtain ⟨ts, v0, hS, rfl⟩ := hJ
  rw [List.length_map] at hx
  have hbw : br < w.heap.size := hS.bx.lt
  have hbl : w0.heap.size ≤ br := Nat.le_of_eq hbr.symm
  replace hbr := Lib.hid hbr
  obtain ⟨ie, hie, hze, hse, hbe⟩ := info_parts info110l
  replace hS := Lib.hid hS
  go_enter Tryz.func130, Tryz.ntmps130
  have hcells := Lib.hid (fun k v w' (hX : XB limK 86 w0 w p br s e l cs 4 v0 ts w.heap.size (gLimits (strl s) e a) [fun z => .agg #[.int .i64 z.1, .int .i64 z.2.1, .bool z.2.2]] k v w') => XB.cells hS.out hp hX (by decide))
  have hvo : ∀ g, v0.ownBlock = some g → g < w.heap.size := fun g hg => (hS.out.own.lt g hg).2
  have hbrw : br + 1 ≤ w.heap.size := hS.out.bx.lt
  refine wp_fv _ 14 rfl ?_
  refine region_chain hmix 14 13 3 (fun k => match k with | 0 => 7 | 1 => 8 | 2 => 9 | _ => 13) (fun j => 1 + j) rfl (by kernel_rfl) (by kernel_rfl) (by kernel_rfl) (by kernel_rfl) (fun j => match j with | 0 => .pointer (some ⟨p, 0, none⟩) | 1 => .pointer (some ⟨p, 0, none⟩) | 2 => .pointer (some ⟨p, 0, none⟩) | 3 => .pointer (some ⟨p, 4, none⟩) | 4 => .pointer (some ⟨p, 8, none⟩) | 5 => v0 | 6 => .pointer (some ⟨p, 0, none⟩) | 10 => .pointer (some ⟨p, 0, none⟩) | 11 => .pointer (some ⟨p, 4, none⟩) | 12 => .pointer (some ⟨p, 8, none⟩) | _ => undef) (XB limK 86 w0 w p br s e l cs 4 v0 ts w.heap.size (gLimits (strl s) e a) [fun z => .agg #[.int .i64 z.1, .int .i64 z.2.1, .bool z.2.2]]) ?_ ?_ ?_ ?_
  · exact rfl
  · intro i hi hn k v f w' hk hX hoth hv
    obtain ⟨g0, g1⟩ := hcells.out k v w' hX
    clear hX
    match i, hi with
    | 0, _ =>
      have z0 := fv_get (n := 14) (by decide) (show f 0 = .pointer (some ⟨br, 0, none⟩) from (hoth 0 (by decide)).trans rfl)
      refine wpOp_step rfl ?_
      intro K' hK'
      rw [if_pos (wanted_none rfl)]
      go_simp
      (try simp only [z0])
      (try go_simp)
      exact hK' _ _ ⟨fv_set _ _, rfl⟩
    | 1, _ =>
      have z0 := fv_get (n := 14) (by decide) (show f 0 = .pointer (some ⟨br, 0, none⟩) from (hoth 0 (by decide)).trans rfl)
      refine wpOp_step rfl ?_
      intro K' hK'
      rw [if_pos (wanted_none rfl)]
      go_simp
      (try simp only [z0])
      (try go_simp)
      exact hK' _ _ ⟨fv_set _ _, rfl⟩
    | 2, _ =>
      have z0 := fv_get (n := 14) (by decide) (show f 2 = .pointer (some ⟨p, 0, none⟩) from hv 1 (by kernel_rfl) (by decide))
      refine wpOp_step rfl ?_
      intro K' hK'
      rw [if_pos (wanted_none rfl)]
      go_simp
      (try simp only [z0])
      (try go_simp)
      exact hK' _ _ ⟨fv_set _ _, rfl⟩
    | 3, _ =>
      have z0 := fv_get (n := 14) (by decide) (show f 3 = .pointer (some ⟨p, 0, none⟩) from hv 2 (by kernel_rfl) (by decide))
      refine wpOp_step rfl ?_
      intro K' hK'
      rw [if_pos (wanted_none rfl)]
      go_simp
      (try simp only [z0])
      (try go_simp)
      exact hK' _ _ ⟨fv_set _ _, rfl⟩
    | 4, _ =>
      have z0 := fv_get (n := 14) (by decide) (show f 4 = .pointer (some ⟨p, 4, none⟩) from hv 3 (by kernel_rfl) (by decide))
      refine wpOp_step rfl ?_
      intro K' hK'
      rw [if_pos (wanted_none rfl)]
      go_simp
      (try simp only [z0])
      (try go_simp)
      exact hK' _ _ ⟨fv_set _ _, rfl⟩
    | 5, _ =>
      have z0 := fv_get (n := 14) (by decide) (show f 5 = .pointer (some ⟨p, 8, none⟩) from hv 4 (by kernel_rfl) (by decide))
      refine wpOp_step rfl ?_
      intro K' hK'
      rw [if_pos (wanted_none rfl)]
      go_simp
      (try simp only [z0])
      (try go_simp)
      exact hK' _ _ ⟨fv_set _ _, rfl⟩
    | 6, _ =>
      have z0 := fv_get (n := 14) (by decide) (show f 0 = .pointer (some ⟨br, 0, none⟩) from (hoth 0 (by decide)).trans rfl)
      refine wpOp_step rfl ?_
      intro K' hK'
      rw [if_pos (wanted_none rfl)]
      go_simp
      (try simp only [z0])
      (try go_simp)
      exact hK' _ _ ⟨fv_set _ _, rfl⟩
    | 7, _ => exact absurd rfl (hn 0 (by decide))
    | 8, _ => exact absurd rfl (hn 1 (by decide))
    | 9, _ => exact absurd rfl (hn 2 (by decide))
    | 10, _ =>
      have z0 := fv_get (n := 14) (by decide) (show f 1 = .pointer (some ⟨p, 0, none⟩) from hv 0 (by kernel_rfl) (by decide))
      refine wpOp_step rfl ?_
      intro K' hK'
      rw [if_pos (wanted_none rfl)]
      go_simp
      (try simp only [z0])
      (try go_simp)
      exact hK' _ _ ⟨fv_set _ _, rfl⟩
    | 11, _ =>
      have z0 := fv_get (n := 14) (by decide) (show f 11 = .pointer (some ⟨p, 0, none⟩) from hv 10 (by kernel_rfl) (by decide))
      refine wpOp_step rfl ?_
      intro K' hK'
      rw [if_pos (wanted_none rfl)]
      go_simp
      (try simp only [z0])
      (try go_simp)
      exact hK' _ _ ⟨fv_set _ _, rfl⟩
    | 12, _ =>
      have z0 := fv_get (n := 14) (by decide) (show f 12 = .pointer (some ⟨p, 4, none⟩) from hv 11 (by kernel_rfl) (by decide))
      refine wpOp_step rfl ?_
      intro K' hK'
      rw [if_pos (wanted_none rfl)]
      go_simp
      (try simp only [z0])
      (try go_simp)
      exact hK' _ _ ⟨fv_set _ _, rfl⟩
    | i + 13, h => exact absurd h (by omega)
  · intro k hk v f w' hX hfv hoth hv
    match k, hk with
    | 0, _ =>
      obtain rfl : w' = w.drew := hX
      have z0 := fv_get (n := 14) (by decide) (show f 7 = .pointer (some ⟨p, 0, none⟩) from hv 6 (by kernel_rfl) (by decide))
      refine wpOp_step rfl ?_
      intro K' hK'
      rw [if_pos (wanted_none rfl)]
      go_simp
      (try simp only [z0])
      (try go_simp)
      go_at_call 129
      refine (rlimits_any (hS.out.drew hp).rd hs he ha).mono ?_
      rintro e' w4 ⟨hW, ⟨z, a', v', hg, ha', rfl, rfl, hR⟩ | ⟨n, hg, rfl⟩⟩
      · go_simp
        exact hK' _ _ ⟨_, fv_set _ _, z, a', hg, ha', rfl, (hS.out.drew hp).rdd hp hW hR⟩
      · exact ⟨rfl, .inr ⟨n, hg, rfl, (hS.out.drew hp).wr.trans hW⟩⟩
    | 1, _ =>
      obtain ⟨z, a', hg, ha', rfl, h1⟩ := hX
      replace hg := Lib.hid hg
      have z0 := fv_get (n := 14) (by decide) (show f 8 = .agg #[.int .i64 z.1, .int .i64 z.2.1, .bool z.2.2] from hfv (by decide))
      refine wpOp_step rfl ?_
      intro K' hK'
      rw [if_pos (wanted_none rfl)]
      go_simp
      (try simp only [z0])
      (try go_simp)
      exact hK' _ _ ⟨_, fv_set _ _, z, a', hg.out, ha', PhS.of (K := limK) h1 hp h1.bx (z) rfl trivial⟩
    | 2, _ =>
      obtain ⟨z, a', hg, ha', b, t, rfl, hb, hz, hk, h1, hxx⟩ := hX
      replace hg := Lib.hid hg
      have z0 := fv_get (n := 14) (by decide) (show f 9 = .slice (some ⟨b, 0, none⟩) 1 1 from hfv (by decide))
      have z1 := fv_get (n := 14) (by decide) (show f 6 = v0 from hv 5 (by kernel_rfl) (by decide))
      refine wpOp_step rfl ?_
      intro K' hK'
      refine step_append_lies _ (by rfl) (.tmp 6) (.tmp 9) 26 (by rfl) (br + 1) 86 ie _ 3 24 Tryz.underlying26 hie hze hse hbe rfl (by decide) v0 ts.length (ts.flatMap (limK).enc) (by exact z1) h1.own ⟨b, 0, none⟩ 1 1 ((limK).enc t) (by exact z0) (by rw [(limK).len]; rfl) (World.news_of_block (cs := ((limK).enc t).toArray) (t := 86) (fr := (0, 0)) hb) ((limK).one t) (by decide) (by unfold maxLen; omega) (by omega) h1.bx.lt w'.heap.size rfl ?_
      intro g cap w5 hown hgrow hat hlt
      exact hK' _ _ ⟨_, fv_put _ _, z, a', hg.out, ha', PhA.of h1 hp (by omega) hxx (fun g hg => by have := (h1.own.lt g hg).1; omega) hz hk hvo hbrw hown hgrow hat⟩
    | k + 3, h => exact absurd h (by omega)
  · intro v f w' hX hfv hoth hv
    obtain ⟨z, a', hg, ha', g, cap, t, rfl, hz, hG, hxx⟩ := hX
    replace hg := Lib.hid hg
    have z0 := fv_get (n := 14) (by decide) (show f 10 = .slice (some ⟨g, 0, none⟩) (ts.length + 1) cap from hfv (by decide))
    have f4 := hG.rd.fr 8
    have c4 := hG.rd.field (j := 4) (by decide)
    have z1 := fv_get (n := 14) (by decide) (show f 13 = .pointer (some ⟨p, 8, none⟩) from hv 12 (by decide) (by decide))
    refine wpOp_step rfl ?_
    intro K' hK'
    rw [if_pos (wanted_none rfl)]
    go_simp
    (try simp only [z0, z1])
    (try go_simp)
    refine hK' _ _ ?_
    exact ⟨rfl, _, results_none rfl _ _ _, .inl ⟨z, a', hg.out, ha', rfl, ts ++ [t], _, hG.store hp, by rw [List.map_append, List.map_cons, List.map_nil, hz]⟩⟩
set_option maxRecDepth 100000 in
set_option maxHeartbeats 8000000 in
theorem tables_row : RowFn limK 86 3 128 gTable := by
  intro w0 w p br s a e l cs xs hp hbr hs he ha hx hJ
  obtain ⟨ts, v0, hS, rfl⟩ := hJ
  rw [List.length_map] at hx
  have hbw : br < w.heap.size := hS.bx.lt
  have hbl : w0.heap.size ≤ br := Nat.le_of_eq hbr.symm
  replace hbr := Lib.hid hbr
  obtain ⟨ie, hie, hze, hse, hbe⟩ := info_parts info110l
  replace hS := Lib.hid hS
  go_enter Tryz.func128, Tryz.ntmps128
  have c0 := hS.out.bx.cell (j := 0) rfl
  go_wp2_with fail
  refine (is_any hS.out.rd hs he 112).mono ?_
  rintro e' w1 ⟨hW1, ⟨z0, a1, v', hg1, ha1, rfl, rfl, hR1⟩ | ⟨n1, hg1, rfl⟩⟩
  rotate_left
  · exact ⟨rfl, .inr ⟨n1, by unfold gTable; exact rd_err hg1, rfl, hS.out.wr.trans hW1⟩⟩
  have hS1 := Lib.hid (hS.out.rdd hp hW1 hR1)
  have hG1 : gTable (strl s) e a = gLimits (strl s) e a1 := by unfold gTable; exact rd_bind hg1
  replace hG1 := Lib.hid hG1
  have hw1 := hW1.size
  clear hS hW1 hR1 hg1 c0
  go_wp2_with fail
  have hcells := Lib.hid (fun k v w' (hX : XB limK 86 w0 w1 p br s e l cs 3 v0 ts w1.heap.size (gLimits (strl s) e a1) [fun z => .agg #[.int .i64 z.1, .int .i64 z.2.1, .bool z.2.2]] k v w') => XB.cells hS1.out hp hX (by decide))
  have hvo : ∀ g, v0.ownBlock = some g → g < w1.heap.size := fun g hg => (hS1.out.own.lt g hg).2
  have hbrw : br + 1 ≤ w1.heap.size := hS1.out.bx.lt
  refine wp_fv _ 16 rfl ?_
  refine region_chain hmix 16 13 3 (fun k => match k with | 0 => 7 | 1 => 8 | 2 => 9 | _ => 13) (fun j => 3 + j) rfl (by kernel_rfl) (by kernel_rfl) (by kernel_rfl) (by kernel_rfl) (fun j => match j with | 0 => .pointer (some ⟨p, 0, none⟩) | 1 => .pointer (some ⟨p, 0, none⟩) | 2 => .pointer (some ⟨p, 0, none⟩) | 3 => .pointer (some ⟨p, 4, none⟩) | 4 => .pointer (some ⟨p, 7, none⟩) | 5 => v0 | 6 => .pointer (some ⟨p, 0, none⟩) | 10 => .pointer (some ⟨p, 0, none⟩) | 11 => .pointer (some ⟨p, 4, none⟩) | 12 => .pointer (some ⟨p, 7, none⟩) | _ => undef) (XB limK 86 w0 w1 p br s e l cs 3 v0 ts w1.heap.size (gLimits (strl s) e a1) [fun z => .agg #[.int .i64 z.1, .int .i64 z.2.1, .bool z.2.2]]) ?_ ?_ ?_ ?_
  · exact rfl
  · intro i hi hn k v f w' hk hX hoth hv
    obtain ⟨g0, g1⟩ := hcells.out k v w' hX
    clear hX
    match i, hi with
    | 0, _ =>
      have z0 := fv_get (n := 16) (by decide) (show f 0 = .pointer (some ⟨br, 0, none⟩) from (hoth 0 (by decide)).trans rfl)
      refine wpOp_step rfl ?_
      intro K' hK'
      rw [if_pos (wanted_none rfl)]
      go_simp
      (try simp only [z0])
      (try go_simp)
      exact hK' _ _ ⟨fv_set _ _, rfl⟩
    | 1, _ =>
      have z0 := fv_get (n := 16) (by decide) (show f 0 = .pointer (some ⟨br, 0, none⟩) from (hoth 0 (by decide)).trans rfl)
      refine wpOp_step rfl ?_
      intro K' hK'
      rw [if_pos (wanted_none rfl)]
      go_simp
      (try simp only [z0])
      (try go_simp)
      exact hK' _ _ ⟨fv_set _ _, rfl⟩
    | 2, _ =>
      have z0 := fv_get (n := 16) (by decide) (show f 4 = .pointer (some ⟨p, 0, none⟩) from hv 1 (by kernel_rfl) (by decide))
      refine wpOp_step rfl ?_
      intro K' hK'
      rw [if_pos (wanted_none rfl)]
      go_simp
      (try simp only [z0])
      (try go_simp)
      exact hK' _ _ ⟨fv_set _ _, rfl⟩
    | 3, _ =>
      have z0 := fv_get (n := 16) (by decide) (show f 5 = .pointer (some ⟨p, 0, none⟩) from hv 2 (by kernel_rfl) (by decide))
      refine wpOp_step rfl ?_
      intro K' hK'
      rw [if_pos (wanted_none rfl)]
      go_simp
      (try simp only [z0])
      (try go_simp)
      exact hK' _ _ ⟨fv_set _ _, rfl⟩
    | 4, _ =>
      have z0 := fv_get (n := 16) (by decide) (show f 6 = .pointer (some ⟨p, 4, none⟩) from hv 3 (by kernel_rfl) (by decide))
      refine wpOp_step rfl ?_
      intro K' hK'
      rw [if_pos (wanted_none rfl)]
      go_simp
      (try simp only [z0])
      (try go_simp)
      exact hK' _ _ ⟨fv_set _ _, rfl⟩
    | 5, _ =>
      have z0 := fv_get (n := 16) (by decide) (show f 7 = .pointer (some ⟨p, 7, none⟩) from hv 4 (by kernel_rfl) (by decide))
      refine wpOp_step rfl ?_
      intro K' hK'
      rw [if_pos (wanted_none rfl)]
      go_simp
      (try simp only [z0])
      (try go_simp)
      exact hK' _ _ ⟨fv_set _ _, rfl⟩
    | 6, _ =>
      have z0 := fv_get (n := 16) (by decide) (show f 0 = .pointer (some ⟨br, 0, none⟩) from (hoth 0 (by decide)).trans rfl)
      refine wpOp_step rfl ?_
      intro K' hK'
      rw [if_pos (wanted_none rfl)]
      go_simp
      (try simp only [z0])
      (try go_simp)
      exact hK' _ _ ⟨fv_set _ _, rfl⟩
    | 7, _ => exact absurd rfl (hn 0 (by decide))
    | 8, _ => exact absurd rfl (hn 1 (by decide))
    | 9, _ => exact absurd rfl (hn 2 (by decide))
    | 10, _ =>
      have z0 := fv_get (n := 16) (by decide) (show f 3 = .pointer (some ⟨p, 0, none⟩) from hv 0 (by kernel_rfl) (by decide))
      refine wpOp_step rfl ?_
      intro K' hK'
      rw [if_pos (wanted_none rfl)]
      go_simp
      (try simp only [z0])
      (try go_simp)
      exact hK' _ _ ⟨fv_set _ _, rfl⟩
    | 11, _ =>
      have z0 := fv_get (n := 16) (by decide) (show f 13 = .pointer (some ⟨p, 0, none⟩) from hv 10 (by kernel_rfl) (by decide))
      refine wpOp_step rfl ?_
      intro K' hK'
      rw [if_pos (wanted_none rfl)]
      go_simp
      (try simp only [z0])
      (try go_simp)
      exact hK' _ _ ⟨fv_set _ _, rfl⟩
    | 12, _ =>
      have z0 := fv_get (n := 16) (by decide) (show f 14 = .pointer (some ⟨p, 4, none⟩) from hv 11 (by kernel_rfl) (by decide))
      refine wpOp_step rfl ?_
      intro K' hK'
      rw [if_pos (wanted_none rfl)]
      go_simp
      (try simp only [z0])
      (try go_simp)
      exact hK' _ _ ⟨fv_set _ _, rfl⟩
    | i + 13, h => exact absurd h (by omega)
  · intro k hk v f w' hX hfv hoth hv
    match k, hk with
    | 0, _ =>
      obtain rfl : w' = w1.drew := hX
      have z0 := fv_get (n := 16) (by decide) (show f 9 = .pointer (some ⟨p, 0, none⟩) from hv 6 (by kernel_rfl) (by decide))
      refine wpOp_step rfl ?_
      intro K' hK'
      rw [if_pos (wanted_none rfl)]
      go_simp
      (try simp only [z0])
      (try go_simp)
      go_at_call 129
      refine (rlimits_any (hS1.out.drew hp).rd hs he ha1).mono ?_
      rintro e' w4 ⟨hW, ⟨z, a', v', hg, ha', rfl, rfl, hR⟩ | ⟨n, hg, rfl⟩⟩
      · go_simp
        exact hK' _ _ ⟨_, fv_set _ _, z, a', hg, ha', rfl, (hS1.out.drew hp).rdd hp hW hR⟩
      · exact ⟨rfl, .inr ⟨n, hG1.out.trans hg, rfl, (hS1.out.drew hp).wr.trans hW⟩⟩
    | 1, _ =>
      obtain ⟨z, a', hg, ha', rfl, h1⟩ := hX
      replace hg := Lib.hid hg
      have z0 := fv_get (n := 16) (by decide) (show f 10 = .agg #[.int .i64 z.1, .int .i64 z.2.1, .bool z.2.2] from hfv (by decide))
      refine wpOp_step rfl ?_
      intro K' hK'
      rw [if_pos (wanted_none rfl)]
      go_simp
      (try simp only [z0])
      (try go_simp)
      exact hK' _ _ ⟨_, fv_set _ _, z, a', hg.out, ha', PhS.of (K := limK) h1 hp h1.bx (z) rfl trivial⟩
    | 2, _ =>
      obtain ⟨z, a', hg, ha', b, t, rfl, hb, hz, hk, h1, hxx⟩ := hX
      replace hg := Lib.hid hg
      have z0 := fv_get (n := 16) (by decide) (show f 11 = .slice (some ⟨b, 0, none⟩) 1 1 from hfv (by decide))
      have z1 := fv_get (n := 16) (by decide) (show f 8 = v0 from hv 5 (by kernel_rfl) (by decide))
      refine wpOp_step rfl ?_
      intro K' hK'
      refine step_append_lies _ (by rfl) (.tmp 8) (.tmp 11) 26 (by rfl) (br + 1) 86 ie _ 3 24 Tryz.underlying26 hie hze hse hbe rfl (by decide) v0 ts.length (ts.flatMap (limK).enc) (by exact z1) h1.own ⟨b, 0, none⟩ 1 1 ((limK).enc t) (by exact z0) (by rw [(limK).len]; rfl) (World.news_of_block (cs := ((limK).enc t).toArray) (t := 86) (fr := (0, 0)) hb) ((limK).one t) (by decide) (by unfold maxLen; omega) (by omega) h1.bx.lt w'.heap.size rfl ?_
      intro g cap w5 hown hgrow hat hlt
      exact hK' _ _ ⟨_, fv_put _ _, z, a', hg.out, ha', PhA.of h1 hp (by omega) hxx (fun g hg => by have := (h1.own.lt g hg).1; omega) hz hk hvo hbrw hown hgrow hat⟩
    | k + 3, h => exact absurd h (by omega)
  · intro v f w' hX hfv hoth hv
    obtain ⟨z, a', hg, ha', g, cap, t, rfl, hz, hG, hxx⟩ := hX
    replace hg := Lib.hid hg
    have z0 := fv_get (n := 16) (by decide) (show f 12 = .slice (some ⟨g, 0, none⟩) (ts.length + 1) cap from hfv (by decide))
    have f4 := hG.rd.fr 7
    have c4 := hG.rd.field (j := 3) (by decide)
    have z1 := fv_get (n := 16) (by decide) (show f 15 = .pointer (some ⟨p, 7, none⟩) from hv 12 (by decide) (by decide))
    refine wpOp_step rfl ?_
    intro K' hK'
    rw [if_pos (wanted_none rfl)]
    go_simp
    (try simp only [z0, z1])
    (try go_simp)
    refine hK' _ _ ?_
    exact ⟨rfl, _, results_none rfl _ _ _, .inl ⟨z, a', hG1.out.trans hg.out, ha', rfl, ts ++ [t], _, hG.store hp, by rw [List.map_append, List.map_cons, List.map_nil, hz]⟩⟩
end Go.Proofs.YtkbfjkbokifgkaaGreatDoor
