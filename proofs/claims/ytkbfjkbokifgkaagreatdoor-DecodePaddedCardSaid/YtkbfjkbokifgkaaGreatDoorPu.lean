/- Lists of numbers that closures of the reader append to. -/
import Derived.Test.YtkbfjkbokifgkaaGreatDoorPt
import Derived.Test.YtkbfjkbokifgkaaGreatDoorDv
import Derived.Deep.AppendLies
namespace Go.Proofs.YtkbfjkbokifgkaaGreatDoor
open Go.RowKit
set_option linter.unusedVariables false
set_option linter.unusedSimpArgs false
theorem info3 : (Tryz.prog.info? 3).map (fun i => (i.zero, i.size, i.bytes)) = some (some (.int .i64 0), 1, 8) := by kernel_rfl
theorem Wr.grown {p : Nat} {w w' : World} (h : Wr (· = p) w w') : w.grownBy w' (some p) := ⟨h.os, h.tape, h.output, h.size, fun k hk hne => h.block k hk (fun e => hne (by rw [e]))⟩
theorem Wr.of_grown {S : Nat → Prop} {w w' : World} {row : Option Nat} (h : w.grownBy w' row) (hs : ∀ k, row = some k → k < w.heap.size → S k) : Wr S w w' :=
 ⟨h.os, h.tape, h.output, h.size, fun k hk hn => h.block k hk (fun e => hn (hs k e.symm hk))⟩
theorem set_grown (w : World) (p : Addr) (v : Value) : w.grownBy (w.setCell p v) (some p.block) :=
 ⟨rfl, rfl, rfl, by simp [World.setCell], fun k hk hne => Below.heap_setCell _ _ _ _ (fun e => hne (by rw [e]))⟩
theorem Wr.newer {S S' : Nat → Prop} {a b c : World} (h : Wr S a b) (k : Wr S' b c) (hs : ∀ k, S' k → k < a.heap.size → S k) : Wr S a c :=
 ⟨k.os.trans h.os, k.tape.trans h.tape, k.output.trans h.output, Nat.le_trans h.size k.size, fun i hi hn => (k.block i (Nat.lt_of_lt_of_le hi h.size) (fun e => hn (hs i e hi))).trans (h.block i hi hn)⟩
theorem PAt0.grown {w w1 w2 : World} {p q : Nat} {s : ByteArray} {a e l : Int} {cs : List Value} {t : ERec} {row : Option Nat} (h : PAt0 w w1 p q s a e l cs t) (hp : p < w.heap.size) (hq : q < w.heap.size) (k : w1.grownBy w2 row) (hr : ∀ k, row = some k → w.heap.size + 2 ≤ k) : PAt0 w w2 p q s a e l cs t := by
 have hn : ∀ j, j < w.heap.size + 2 → some j ≠ row := fun j hj e => by have := hr j e.symm; omega
 have b0 := (Array.getElem?_eq_some_iff.1 h.b0).1; have b1 := (Array.getElem?_eq_some_iff.1 h.b1).1
 exact ⟨⟨(k.block p h.rd.lt (hn p (by omega))).trans h.rd.row, h.rd.eleven⟩, ⟨(k.block q h.ins.lt (hn q (by omega))).trans h.ins.row⟩, (k.block _ b0 (hn _ (by omega))).trans h.b0, (k.block _ b1 (hn _ (by omega))).trans h.b1,
  h.wr.newer (Wr.of_grown (S := fun j => row = some j) k fun j e _ => e) (fun j e hj => by have := hr j e; omega)⟩
structure LbAt (w0 w : World) (p q : Nat) (s : ByteArray) (a e l : Int) (cs : List Value) (op : Int) (xs : List Int) (ao : Option Addr) (c : Nat) : Prop where
 pat : PAt0 w0 w p q s a e l cs ⟨op, 0, 0, 0, xs, .nil, .nil, ao, c, none, 0, none, 0⟩
 own : w.ownsRow (w0.heap.size + 2) 3 1 (.slice ao xs.length c) xs.length (xs.map (Value.int .i64))
theorem hmix : Tryz.prog.follows .mixedOrders = true := by kernel_rfl
def Xl (w0 w : World) (p q : Nat) (s : ByteArray) (a e l : Nat) (cs : List Value) (op : Int) (xs : List Int) (ao : Option Addr) (c : Nat) : Nat → Value → World → Prop
 | 0, _, w' => w' = w.drew
 | 1, v, w' => ∃ z a', gU (strl s) e a = .ok (z, a') ∧ a' ≤ e ∧ v = .int .i64 z ∧ LbAt w0 w' p q s ((a' : Nat) : Int) (e : Int) (l : Int) cs op xs ao c
 | 2, v, w' => ∃ z a' b, gU (strl s) e a = .ok (z, a') ∧ a' ≤ e ∧ v = .slice (some ⟨b, 0, none⟩) 1 1 ∧ w'.heap[b]? = some (.cells #[.int .i64 z] 3 (0, 0)) ∧ LbAt w0 w' p q s ((a' : Nat) : Int) (e : Int) (l : Int) cs op xs ao c
 | _, v, w' => ∃ z a' g cap, gU (strl s) e a = .ok (z, a') ∧ a' ≤ e ∧ v = .slice (some ⟨g, 0, none⟩) (xs.length + 1) cap ∧ PAt0 w0 w' p q s ((a' : Nat) : Int) (e : Int) (l : Int) cs ⟨op, 0, 0, 0, xs, .nil, .nil, ao, c, none, 0, none, 0⟩ ∧ w'.ownsRow (w0.heap.size + 2) 3 1 v (xs.length + 1) (xs.map (Value.int .i64) ++ [.int .i64 z])
theorem LbAt.below {w0 w w' : World} {p q : Nat} {s : ByteArray} {a e l : Int} {cs : List Value} {op : Int} {xs : List Int} {ao : Option Addr} {c : Nat} (h : LbAt w0 w p q s a e l cs op xs ao c) (k : Below w.heap.size w w') : LbAt w0 w' p q s a e l cs op xs ao c := ⟨h.pat.below k, own_below h.own k⟩
theorem Xl.pat {w0 w : World} {p q : Nat} {s : ByteArray} {a e l : Nat} {cs : List Value} {op : Int} {xs : List Int} {ao : Option Addr} {c : Nat} (h : LbAt w0 w p q s (a : Int) (e : Int) (l : Int) cs op xs ao c) : ∀ k v w', Xl w0 w p q s a e l cs op xs ao c k v w' →
 w'.cell? ⟨w0.heap.size + 1, 0, none⟩ = some (.pointer (some ⟨q, 0, none⟩)) ∧ w'.cell? ⟨w0.heap.size, 0, none⟩ = some (.pointer (some ⟨p, 0, none⟩)) ∧ w'.cell? ⟨q, 4, none⟩ = some (.slice ao xs.length c) := by
 have go : ∀ {w' : World} {a' : Int}, PAt0 w0 w' p q s a' (e : Int) (l : Int) cs ⟨op, 0, 0, 0, xs, .nil, .nil, ao, c, none, 0, none, 0⟩ → w'.cell? ⟨w0.heap.size + 1, 0, none⟩ = some (.pointer (some ⟨q, 0, none⟩)) ∧ w'.cell? ⟨w0.heap.size, 0, none⟩ = some (.pointer (some ⟨p, 0, none⟩)) ∧ w'.cell? ⟨q, 4, none⟩ = some (.slice ao xs.length c) :=
  fun h => ⟨cell0 h.b1, cell0 h.b0, h.ins.cell (j := 4) rfl⟩
 intro k v w' hX
 match k, hX with
 | 0, hX => subst hX; exact go h.pat.drew
 | 1, ⟨z, a', _, _, _, h1⟩ => exact go h1.pat
 | 2, ⟨z, a', b, _, _, _, _, h1⟩ => exact go h1.pat
 | k + 3, ⟨z, a', g, cap, _, _, _, h1, _⟩ => exact go h1
set_option maxRecDepth 100000 in
set_option maxHeartbeats 8000000 in
theorem plabel_any {w0 w : World} {p q : Nat} {s : ByteArray} {a e l : Nat} {cs : List Value} {op : Int} {xs : List Int} {ao : Option Addr} {c : Nat} (h : LbAt w0 w p q s (a : Int) (e : Int) (l : Int) cs op xs ao c)
 (hpl : p < w0.heap.size) (hql : q < w0.heap.size) (hpq : p ≠ q) (hs : s.size ≤ 262144) (he : e ≤ s.size) (ha : a ≤ e) (hx : xs.length < 4096) :
 Calls Tryz.prog 189 #[.pointer (some ⟨w0.heap.size + 1, 0, none⟩), .pointer (some ⟨w0.heap.size, 0, none⟩)] w fun e' w' =>
  (∃ v a', gU (strl s) e a = .ok (v, a') ∧ a' ≤ e ∧ e' = .returned (.tuple #[]) ∧ ∃ ao' c', LbAt w0 w' p q s ((a' : Nat) : Int) (e : Int) (l : Int) cs op (xs ++ [v]) ao' c') ∨
  (∃ n, gU (strl s) e a = .error n ∧ e' = .panicked (flt n) ∧ Wr (Spq p q) w0 w') := by
 obtain ⟨i3, hi3, hz3, hs3, hb3⟩ := info_parts info3; have hcells := zh (Xl.pat h); replace h := zh h; go_enter Tryz.func189, Tryz.ntmps189; refine wp_fv _ 13 rfl ?_; refine region_chain hmix 13 11 3 (fun k => match k with | 0 => 6 | 1 => 7 | 2 => 8 | _ => 11) (fun j => 2 + j) rfl (by kernel_rfl) (by kernel_rfl) (by kernel_rfl) (by kernel_rfl) (fun j => match j with | 0 => .pointer (some ⟨q, 0, none⟩) | 1 => .pointer (some ⟨q, 0, none⟩) | 2 => .pointer (some ⟨q, 0, none⟩) | 3 => .pointer (some ⟨q, 4, none⟩) | 4 => .slice ao xs.length c | 5 => .pointer (some ⟨p, 0, none⟩) | 9 => .pointer (some ⟨q, 0, none⟩) | 10 => .pointer (some ⟨q, 4, none⟩) | _ => undef) (Xl w0 w p q s a e l cs op xs ao c) ?_ ?_ ?_ ?_
 · exact rfl
 · intro i hi hn k v f w' hk hX hoth hv; obtain ⟨g1, g0, g4⟩ := hcells.out k v w' hX; clear hX
   match i, hi with
   | 0, _ => have z0 := fv_get (n := 13) (by decide) (show f 0 = .pointer (some ⟨w0.heap.size + 1, 0, none⟩) from (hoth 0 (by decide)).trans rfl); refine wpOp_step rfl ?_; intro K' hK'; rw [if_pos (wanted_none rfl)]; go_simp; (try simp only [z0]); (try go_simp); exact hK' _ _ ⟨fv_set _ _, rfl⟩
   | 1, _ => have z0 := fv_get (n := 13) (by decide) (show f 0 = .pointer (some ⟨w0.heap.size + 1, 0, none⟩) from (hoth 0 (by decide)).trans rfl); refine wpOp_step rfl ?_; intro K' hK'; rw [if_pos (wanted_none rfl)]; go_simp; (try simp only [z0]); (try go_simp); exact hK' _ _ ⟨fv_set _ _, rfl⟩
   | 2, _ => have z0 := fv_get (n := 13) (by decide) (show f 3 = .pointer (some ⟨q, 0, none⟩) from hv 1 (by kernel_rfl) (by decide)); refine wpOp_step rfl ?_; intro K' hK'; rw [if_pos (wanted_none rfl)]; go_simp; (try simp only [z0]); (try go_simp); exact hK' _ _ ⟨fv_set _ _, rfl⟩
   | 3, _ => have z0 := fv_get (n := 13) (by decide) (show f 4 = .pointer (some ⟨q, 0, none⟩) from hv 2 (by kernel_rfl) (by decide)); refine wpOp_step rfl ?_; intro K' hK'; rw [if_pos (wanted_none rfl)]; go_simp; (try simp only [z0]); (try go_simp); exact hK' _ _ ⟨fv_set _ _, rfl⟩
   | 4, _ => have z0 := fv_get (n := 13) (by decide) (show f 5 = .pointer (some ⟨q, 4, none⟩) from hv 3 (by kernel_rfl) (by decide)); refine wpOp_step rfl ?_; intro K' hK'; rw [if_pos (wanted_none rfl)]; go_simp; (try simp only [z0]); (try go_simp); exact hK' _ _ ⟨fv_set _ _, rfl⟩
   | 5, _ => have z0 := fv_get (n := 13) (by decide) (show f 1 = .pointer (some ⟨w0.heap.size, 0, none⟩) from (hoth 1 (by decide)).trans rfl); refine wpOp_step rfl ?_; intro K' hK'; rw [if_pos (wanted_none rfl)]; go_simp; (try simp only [z0]); (try go_simp); exact hK' _ _ ⟨fv_set _ _, rfl⟩
   | 6, _ => exact absurd rfl (hn 0 (by decide))
   | 7, _ => exact absurd rfl (hn 1 (by decide))
   | 8, _ => exact absurd rfl (hn 2 (by decide))
   | 9, _ => have z0 := fv_get (n := 13) (by decide) (show f 2 = .pointer (some ⟨q, 0, none⟩) from hv 0 (by kernel_rfl) (by decide)); refine wpOp_step rfl ?_; intro K' hK'; rw [if_pos (wanted_none rfl)]; go_simp; (try simp only [z0]); (try go_simp); exact hK' _ _ ⟨fv_set _ _, rfl⟩
   | 10, _ => have z0 := fv_get (n := 13) (by decide) (show f 11 = .pointer (some ⟨q, 0, none⟩) from hv 9 (by kernel_rfl) (by decide)); refine wpOp_step rfl ?_; intro K' hK'; rw [if_pos (wanted_none rfl)]; go_simp; (try simp only [z0]); (try go_simp); exact hK' _ _ ⟨fv_set _ _, rfl⟩
   | i + 11, h => exact absurd h (by omega)
 · intro k hk v f w' hX hfv hoth hv
   match k, hk with
   | 0, _ =>
     obtain rfl : w' = w.drew := hX; have z0 := fv_get (n := 13) (by decide) (show f 7 = .pointer (some ⟨p, 0, none⟩) from hv 5 (by kernel_rfl) (by decide)); refine wpOp_step rfl ?_; intro K' hK'; rw [if_pos (wanted_none rfl)]; go_simp; (try simp only [z0]); (try go_simp)
     go_at_call 126
     refine (u_any h.out.pat.drew.rd hs he ha).mono ?_; rintro e' w4 ⟨hW, ⟨z, a', v', hg, ha', ⟨rfl, hv0, hv1⟩, rfl, hR⟩ | ⟨n, hg, rfl⟩⟩
     · go_simp; refine hK' _ _ ⟨_, fv_set _ _, z, a', hg, ha', rfl, h.out.pat.drew.rdd hpl hpq hW hR, h.out.own.drew.kept hW.grown (.inr (fun e => by have := (h.out.own.lt _ e).1; omega))⟩
     · exact ⟨rfl, .inr ⟨n, hg, rfl, h.out.pat.drew.wr.trans (hW.mono fun _ e => .inl e)⟩⟩
   | 1, _ => obtain ⟨z, a', hg, ha', rfl, h1⟩ := hX; replace hg := zh hg; have z0 := fv_get (n := 13) (by decide) (show f 8 = .int .i64 z from hfv (by decide)); refine wpOp_step rfl ?_; intro K' hK'; rw [if_pos (wanted_none rfl)]; go_simp; (try simp only [z0]); (try go_simp); exact hK' _ _ ⟨_, fv_set _ _, z, a', w'.heap.size, hg.out, ha', rfl, heap_alloc_new _ _, h1.below (Below.alloc (Below.refl _ _) (Nat.le_refl _) _)⟩
   | 2, _ => obtain ⟨z, a', b, hg, ha', rfl, hb, h1⟩ := hX; replace hg := zh hg; have z0 := fv_get (n := 13) (by decide) (show f 9 = .slice (some ⟨b, 0, none⟩) 1 1 from hfv (by decide)); have z1 := fv_get (n := 13) (by decide) (show f 6 = .slice ao xs.length c from hv 4 (by kernel_rfl) (by decide)); refine wpOp_step rfl ?_; intro K' hK'; refine step_append_lies _ (by rfl) (.tmp 6) (.tmp 9) 29 (by rfl) (w0.heap.size + 2) 3 i3 _ 1 8 Tryz.underlying29 hi3 hz3 hs3 hb3 rfl (by omega) (.slice ao xs.length c) xs.length (xs.map (Value.int .i64)) (by exact z1) h1.own ⟨b, 0, none⟩ 1 1 [.int .i64 z] (by exact z0) (by rfl) (World.news_of_block (cs := #[.int .i64 z]) (t := 3) (fr := (0, 0)) hb) (by intro u hu; simp only [List.mem_cons, List.mem_nil_iff, or_false] at hu; rcases hu with rfl; rfl) (by omega) (by unfold maxLen; omega) (by omega) (by have := (Array.getElem?_eq_some_iff.1 h1.pat.b1).1; omega) w'.heap.size rfl ?_; intro g cap w5 hown hgrow hat hlt; exact hK' _ _ ⟨_, fv_put _ _, z, a', g, cap, hg.out, ha', rfl, h1.pat.grown hpl hql hgrow (fun k e => (h1.own.lt k e).1), hown⟩
   | k + 3, h => exact absurd h (by omega)
 · intro v f w' hX hfv hoth hv; obtain ⟨z, a', g, cap, hg, ha', rfl, hP5, hown⟩ := hX; replace hg := zh hg; have z0 := fv_get (n := 13) (by decide) (show f 10 = .slice (some ⟨g, 0, none⟩) (xs.length + 1) cap from hfv (by decide)); have f4 := hP5.ins.fr 4; have c4 := hP5.ins.cell (j := 4) (u := .slice ao xs.length c) rfl; have z1 := fv_get (n := 13) (by decide) (show f 12 = .pointer (some ⟨q, 4, none⟩) from hv 10 (by decide) (by decide)); refine wpOp_step rfl ?_; intro K' hK'; rw [if_pos (wanted_none rfl)]; go_simp; (try simp only [z0, z1]); (try go_simp); refine hK' _ _ ?_; have hP6 := hP5.put hpl hql hpq (hP5.ins.setl (xs ++ [z]) (some ⟨g, 0, none⟩) cap); rw [List.length_append] at hP6; refine ⟨rfl, _, results_none rfl _ _ _, .inl ⟨z, a', hg.out, ha', rfl, some ⟨g, 0, none⟩, cap, ?_⟩⟩; refine ⟨hP6, ?_⟩; have ho := hown.kept (set_grown w' ⟨q, 4, none⟩ (.slice (some ⟨g, 0, none⟩) (xs.length + 1) cap)) (.inr (fun e => by have := (hown.lt g rfl).1; have e2 : g = q := (by simpa [Value.ownBlock] using e); omega)); rw [List.length_append, List.map_append]; exact ho
theorem ints_own {w : World} {base B : Nat} {a : Option Addr} {c : Nat} {l : List Int} (h : w.ownsRow base 3 1 (.slice a l.length c) l.length (l.map (Value.int .i64))) (hB : B ≤ base) : IntsR (fun b => B ≤ b) w a l := by
 refine ⟨?_, ?_⟩
 · rcases h.2 with ⟨_, h0⟩ | ⟨g, cap, cur, _, _, _, h1, h2, _⟩
   · omega
   · unfold maxLen at h2; omega
 · rcases h.2 with ⟨_, h0⟩ | ⟨g, cap, cur, hv, hb, _, _⟩
   · exact .inl (List.length_eq_zero_iff.1 h0)
   · right; cases hv; refine ⟨g, 0, rfl, by omega, fun i x hx => ?_⟩; have := h.cells (g := g) rfl i (.int .i64 x) (by rw [List.getElem?_map, hx]; rfl); have e : (⟨g, 0, none⟩ : Addr).add i = ⟨g, 0 + i, none⟩ := (by unfold Addr.add; split <;> simp_all)
     rw [e] at this; exact this
set_option maxRecDepth 100000 in
set_option maxHeartbeats 8000000 in
theorem parts_5 {w : World} {p q : Nat} {s : ByteArray} {a e left : Nat} {cs : List Value} {op : Int} (h : RdAt w p s (a : Int) (e : Int) (left : Int) cs) (k : InsAt w q (e0 op)) (hpq : p ≠ q) (hs : s.size ≤ 262144) (he : e ≤ s.size) (ha : a ≤ e) (d : Int)
 (hf : formV op = 5) :
 Calls Tryz.prog 178 #[.pointer (some ⟨p, 0, none⟩), .pointer (some ⟨q, 0, none⟩), .int .i64 d] w
  (Pd p q s e cs ((gEach (strl s) e a (gU (strl s) e)).bind fun l => (gU (strl s) e l.2).bind fun q => .ok ((⟨op, q.1, 0, 0, l.1, .nil, .nil⟩, left), q.2)) left w) := by
 have hP := PAt0.start h k; have hpl := h.lt; have hql := k.lt; clear h k; replace hf := zh hf; have c0 := cell0 hP.b0; have c1 := cell0 hP.b1; have i0 := hP.ins.cell (j := 0) rfl; replace hP := zh hP; go_enter Tryz.func178, Tryz.ntmps178; go_wp2_with fail; refine (form_any op _).mono ?_; rintro e' w2 ⟨rfl, hB⟩; replace hP := hP.out.below hB; clear hB c0 c1 i0; have c0 := cell0 hP.b0; have c1 := cell0 hP.b1; rw [hf.out]; replace hP := zh hP; go_wp2_with fail
 refine (each_any (J := fun xs a' w' => ∃ ao c, LbAt w w' p q s ((a' : Nat) : Int) (e : Int) (left : Int) cs op xs ao c) (T := fun w' => Wr (Spq p q) w w') (g := gU (strl s) e) hP.out.rd hs he ha
  (fun a' w' k r => ⟨none, 0, hP.out.rdd hpl hpq k r, World.ownsRow_nil _ _ _ _⟩) (fun w' k => hP.out.wr.trans (k.mono fun _ e => .inl e))
  (fun xs a' w' ha' hx ⟨ao, c, hJ⟩ => (plabel_any hJ hpl hql hpq hs he ha' hx).mono fun e' w2 hh => hh) (fun _ => rfl)).mono ?_
 rintro e' w3 (⟨vs, a1, hg1, ha1, rfl, ao, c, hL⟩ | ⟨n, hg1, rfl, hT⟩)
 · clear c0 c1 ha; have c0 := cell0 hL.pat.b0; have c1 := cell0 hL.pat.b1; have hown := zh hL.own; have hP3 := hL.pat; replace hg1 := zh hg1; clear hL hP; replace hP3 := zh hP3; go_wp2_with fail
   go_region_with
    (first | (go_at_call 126; refine (u_any hP3.out.drew.rd hs he ha1).mono ?_; rintro e' w4 ⟨hW, ⟨v, a', v', hg, ha', ⟨rfl, hv0, hv1⟩, rfl, hR⟩ | ⟨n, hg, rfl⟩⟩; rotate_left; exact ⟨rfl, hP3.out.drew.wr.trans (hW.mono fun _ e => .inl e), .inr ⟨n, by rw [rd_bind hg1.out, rd_err hg], rfl⟩⟩; have hP4 := hP3.out.drew.rdd hpl hpq hW hR; have k0 := cell0 hP4.b0; have k1 := cell0 hP4.b1; have i1 := hP4.ins.cell (j := 1) rfl; have f1 := hP4.ins.fr 1; have k0' : ∀ u, (w4.setCell ⟨q, 1, none⟩ u).cell? ⟨w.heap.size, 0, none⟩ = _ := fun u => so_far k0 (by show q ≠ w.heap.size; omega); have k1' : ∀ u, (w4.setCell ⟨q, 1, none⟩ u).cell? ⟨w.heap.size + 1, 0, none⟩ = _ := fun u => so_far k1 (by show q ≠ w.heap.size + 1; omega); have hown4 := zh ((hown.out.drew).kept hW.grown (.inr (fun e => by have := (hown.out.lt _ e).1; omega))); replace hP4 := zh hP4; replace hg := zh hg; clear hR hW))
   all_goals
    go_wp2_with fail; go_end0; have hP2 := hP4.out.put hpl hql hpq (hP4.out.ins.setx v); have hO := hown4.out.kept (set_grown w4 ⟨q, 1, none⟩ (.int .i64 v)) (.inr (fun e => by have := (hown4.out.lt _ e).1; have e2 : q < w.heap.size := hql; simp at this; omega)); refine ⟨hP2.wr, .inl ⟨⟨op, v, 0, 0, vs, .nil, .nil⟩, left, a', _, by rw [rd_bind hg1.out, rd_bind hg.out], ha', Nat.le_refl _, rfl, hP2.rd, hP2.ins, ⟨rfl, rfl, rfl, rfl, rfl, rfl, rfl⟩, ⟨?_, by show (0 : Nat) ≤ _; omega, .inl rfl, by show (0 : Nat) ≤ _; omega, .inl rfl⟩⟩⟩; exact ints_own hO (by omega)
 · exact ⟨rfl, hT, .inr ⟨n, by rw [rd_err hg1], rfl⟩⟩
end Go.Proofs.YtkbfjkbokifgkaaGreatDoor
