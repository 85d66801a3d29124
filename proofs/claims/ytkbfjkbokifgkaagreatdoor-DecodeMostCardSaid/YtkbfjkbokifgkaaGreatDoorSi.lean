/- Types and elements. -/
import Derived.Test.YtkbfjkbokifgkaaGreatDoorSh
namespace Go.Proofs.YtkbfjkbokifgkaaGreatDoor
open Go.RowKit
set_option linter.unusedVariables false
set_option linter.unusedSimpArgs false

/-- A list of numbers that is being read, in a field of a box. -/
structure LiAt (ws w : World) (p br x : Nat) (s : ByteArray) (a e l : Int) (cs vs : List Value) (Ty : TypeId) (k : Nat) (xs : List Int) (ao : Option Addr) (c : Nat) : Prop where
  rd : RdAt w p s a e l cs
  bx : Bk w br [.pointer (some ⟨p, 0, none⟩)] 60
  bk : Bk w x (vs.set k (.slice ao xs.length c)) Ty
  wr : Wr (Spq p x) ws w
  own : w.ownsRow ws.heap.size 3 1 (.slice ao xs.length c) xs.length (xs.map (Value.int .i64))
theorem LiAt.rdd {ws w w' : World} {p br x : Nat} {s : ByteArray} {a e l : Int} {cs vs : List Value} {Ty : TypeId} {k : Nat} {xs : List Int} {ao : Option Addr} {c : Nat} (h : LiAt ws w p br x s a e l cs vs Ty k xs ao c) (hp : p < br) (hb : br < x) (hx : x < ws.heap.size) {a' e' l' : Int} (q : Wr (· = p) w w') (r : RdAt w' p s a' e' l' cs) : LiAt ws w' p br x s a' e' l' cs vs Ty k xs ao c :=
  ⟨r, h.bx.wr q (by omega), h.bk.wr q (by omega), h.wr.trans (q.mono fun _ e => .inl e), own_same h.own fun g hg => q.block g (h.own.lt g hg).2 (by have := (h.own.lt g hg).1; omega)⟩
theorem LiAt.below {ws w w' : World} {p br x : Nat} {s : ByteArray} {a e l : Int} {cs vs : List Value} {Ty : TypeId} {k : Nat} {xs : List Int} {ao : Option Addr} {c : Nat} (h : LiAt ws w p br x s a e l cs vs Ty k xs ao c) (hp : p < br) (hb : br < x) (hx : x < ws.heap.size) (q : Below w.heap.size w w') : LiAt ws w' p br x s a e l cs vs Ty k xs ao c := h.rdd hp hb hx (Wr.of_below q) (h.rd.below q)
theorem LiAt.grown {ws w w' : World} {p br x : Nat} {s : ByteArray} {a e l : Int} {cs vs : List Value} {Ty : TypeId} {k : Nat} {xs : List Int} {ao : Option Addr} {c g cap : Nat} {z : Int} (h : LiAt ws w p br x s a e l cs vs Ty k xs ao c) (hp : p < br) (hb : br < x) (hx : x < ws.heap.size) (hk : k < vs.length) (q : w.grownBy w' (Value.slice ao xs.length c).ownBlock)
    (own : w'.ownsRow ws.heap.size 3 1 (.slice (some ⟨g, 0, none⟩) (xs.length + 1) cap) (xs.length + 1) (xs.map (Value.int .i64) ++ [.int .i64 z])) :
    w'.cell? ⟨x, k, none⟩ = some (.slice ao xs.length c) ∧ w'.frozen? ⟨x, k, none⟩ = false ∧ Bk w' br [.pointer (some ⟨p, 0, none⟩)] 60 ∧ LiAt ws (w'.setCell ⟨x, k, none⟩ (.slice (some ⟨g, 0, none⟩) (xs.length + 1) cap)) p br x s a e l cs vs Ty k (xs ++ [z]) (some ⟨g, 0, none⟩) cap := by
  have hr : ∀ j, (Value.slice ao xs.length c).ownBlock = some j → ws.heap.size ≤ j := fun j hj => (h.own.lt j hj).1
  have hbk := h.bk.grown q (fun e => by have := hr x e.symm; omega)
  have hbx := h.bx.grown q (fun e => by have := hr br e.symm; omega)
  have hrd := h.rd.grown q (fun e => by have := hr p e.symm; omega)
  have hgx : g ≠ x := by have := (own.lt g rfl).1; omega
  refine ⟨hbk.cell (List.getElem?_set_self hk), hbk.fr k, hbx, hrd.far (by omega) _ _, hbx.far (by omega) _ _, ?_, ?_, ?_⟩
  · have := hbk.set k (.slice (some ⟨g, 0, none⟩) (xs.length + 1) cap)
    rw [List.set_set] at this
    rw [List.length_append]
    exact this
  · exact ((h.wr.newer (Wr.of_grown (S := fun j => (Value.slice ao xs.length c).ownBlock = some j) q fun j e _ => e) (fun j e hj => by have := hr j e; omega))).set (S := Spq p x) (.inr rfl) k _
  · rw [List.length_append, List.map_append]
    exact own_same own fun j hj => Below.heap_setCell _ _ _ _ (fun e => by have hj' : some g = some j := hj; cases hj'; exact hgx e)
/-- What the chain has done. -/
def XL (ws w : World) (p br x : Nat) (s : ByteArray) (e l : Nat) (cs vs : List Value) (Ty : TypeId) (fk : Nat) (xs : List Int) (ao : Option Addr) (c : Nat) (G : Got Int) : Nat → Value → World → Prop
  | 0, _, w' => w' = w.drew
  | 1, v, w' => ∃ z a', G = .ok (z, a') ∧ a' ≤ e ∧ v = .int .i64 z ∧ LiAt ws w' p br x s ((a' : Nat) : Int) (e : Int) (l : Int) cs vs Ty fk xs ao c
  | 2, v, w' => ∃ z a' b, G = .ok (z, a') ∧ a' ≤ e ∧ v = .slice (some ⟨b, 0, none⟩) 1 1 ∧ w'.heap[b]? = some (.cells #[.int .i64 z] 3 (0, 0)) ∧ LiAt ws w' p br x s ((a' : Nat) : Int) (e : Int) (l : Int) cs vs Ty fk xs ao c
  | _, v, w' => ∃ z a' g cap, G = .ok (z, a') ∧ a' ≤ e ∧ v = .slice (some ⟨g, 0, none⟩) (xs.length + 1) cap ∧ w'.cell? ⟨x, fk, none⟩ = some (.slice ao xs.length c) ∧ w'.frozen? ⟨x, fk, none⟩ = false ∧ Bk w' br [.pointer (some ⟨p, 0, none⟩)] 60 ∧ LiAt ws (w'.setCell ⟨x, fk, none⟩ v) p br x s ((a' : Nat) : Int) (e : Int) (l : Int) cs vs Ty fk (xs ++ [z]) (some ⟨g, 0, none⟩) cap
theorem XL.cells {ws w : World} {p br x : Nat} {s : ByteArray} {a : Int} {e l : Nat} {cs vs : List Value} {Ty : TypeId} {fk : Nat} {xs : List Int} {ao : Option Addr} {c : Nat} {G : Got Int} (h : LiAt ws w p br x s a (e : Int) (l : Int) cs vs Ty fk xs ao c) (hp : p < br) (hb : br < x) (hx : x < ws.heap.size) (hk : fk < vs.length) : ∀ k v w', XL ws w p br x s e l cs vs Ty fk xs ao c G k v w' →
    w'.cell? ⟨br, 0, none⟩ = some (.pointer (some ⟨p, 0, none⟩)) ∧ w'.cell? ⟨x, fk, none⟩ = some (.slice ao xs.length c) := by
  intro k v w' hX
  have go : ∀ {w' : World} {a' : Int}, LiAt ws w' p br x s a' (e : Int) (l : Int) cs vs Ty fk xs ao c → w'.cell? ⟨br, 0, none⟩ = some (.pointer (some ⟨p, 0, none⟩)) ∧ w'.cell? ⟨x, fk, none⟩ = some (.slice ao xs.length c) := fun h => ⟨h.bx.cell rfl, h.bk.cell (List.getElem?_set_self hk)⟩
  match k, hX with
  | 0, hX => subst hX; exact go (h.below hp hb hx (Below.refl _ _).drew)
  | 1, ⟨z, a', _, _, _, h1⟩ => exact go h1
  | 2, ⟨z, a', b, _, _, _, _, h1⟩ => exact go h1
  | k + 3, ⟨z, a', g, cap, _, _, _, h1, _, h2, _⟩ => exact ⟨h2.cell rfl, h1⟩
theorem LiAt.start {ws : World} {p br x : Nat} {s : ByteArray} {a e l : Int} {cs vs : List Value} {Ty : TypeId} {k : Nat} {w' : World} (hp : p < br) (hb : br < x) (hk : vs[k]? = some (.slice none 0 0)) (hbx : Bk ws br [.pointer (some ⟨p, 0, none⟩)] 60) (hbk : Bk ws x vs Ty) (q : Wr (· = p) ws w') (r : RdAt w' p s a e l cs) : LiAt ws w' p br x s a e l cs vs Ty k [] none 0 := by
  refine ⟨r, hbx.wr q (by omega), ?_, q.mono fun _ e => .inl e, World.ownsRow_nil _ _ _ _⟩
  have : vs.set k (.slice none 0 0) = vs := by
    obtain ⟨hlt, he⟩ := List.getElem?_eq_some_iff.1 hk
    rw [← he]
    exact List.set_getElem_self hlt
  show Bk w' x (vs.set k (.slice none 0 0)) Ty
  rw [this]
  exact hbk.wr q (by omega)
theorem keeps_wr2 {R : Nat → Prop} {p q : Nat} {w w' : World} (h : Wr (Spq p q) w w') (hp : ∀ b, R b → b ≠ p ∧ b ≠ q) : KeepsR R R w w' := ⟨fun a v hb hc => by
  have hs := World.cell?_spot hc
  obtain ⟨b, o, s⟩ := a
  cases hs
  have hlt := World.block_lt_of_cell? _ _ hc
  rw [World.cell?_of_block (w := w) (w' := w') (h.block b hlt (fun e => e.elim (hp b hb).1 (hp b hb).2))]
  exact hc, fun b hb _ => hb⟩
theorem IntsR.low {M B : Nat} {w : World} {a : Option Addr} {l : List Int} (h : IntsR (fun b => M ≤ b) w a l) (hB : B ≤ M) : IntsR (fun b => B ≤ b) w a l := h.keep ⟨fun _ _ _ h => h, fun b hb _ => Nat.le_trans hB hb⟩
theorem ints_own' {w : World} {base B : Nat} {a : Option Addr} {c : Nat} {l : List Int} (h : w.ownsRow base 3 1 (.slice a l.length c) l.length (l.map (Value.int .i64))) (hB : B ≤ base) : IntsR (fun b => B ≤ b) w a l := ints_own h hB
set_option maxRecDepth 100000 in
set_option maxHeartbeats 8000000 in
theorem li63 {ws w : World} {p br x : Nat} {s : ByteArray} {a e l : Nat} {cs vs : List Value} {xs : List Int} {ao : Option Addr} {c : Nat} (h : LiAt ws w p br x s (a : Int) (e : Int) (l : Int) cs vs 78 0 xs ao c)
    (hp : p < br) (hb : br < x) (hxs : x < ws.heap.size) (hkl : 0 < vs.length) (hs : s.size ≤ 262144) (he : e ≤ s.size) (ha : a ≤ e) (hx : xs.length < 4096) :
    Calls Tryz.prog 121 #[.pointer (some ⟨x, 0, none⟩), .pointer (some ⟨br, 0, none⟩)] w fun e' w' =>
      (∃ v a', gTyp (strl s) e a = .ok (v, a') ∧ a' ≤ e ∧ e' = .returned (.tuple #[]) ∧ ∃ ao' c', LiAt ws w' p br x s ((a' : Nat) : Int) (e : Int) (l : Int) cs vs 78 0 (xs ++ [v]) ao' c') ∨
      (∃ n, gTyp (strl s) e a = .error n ∧ e' = .panicked (flt n) ∧ Wr (Spq p x) ws w') := by
  obtain ⟨i3, hi3, hz3, hs3, hb3⟩ := info_parts info3
  have hcells := Lib.hid (XL.cells (G := gTyp (strl s) e a) h hp hb hxs hkl)
  replace h := Lib.hid h
  go_enter Tryz.func121, Tryz.ntmps121
  refine wp_fv _ 9 rfl ?_
  refine region_chain hmix 9 7 3 (fun k => match k with | 0 => 3 | 1 => 4 | 2 => 5 | _ => 7) (fun j => 2 + j) rfl (by kernel_rfl) (by kernel_rfl) (by kernel_rfl) (by kernel_rfl) (fun j => match j with | 0 => .pointer (some ⟨x, 0, none⟩) | 1 => .slice ao xs.length c | 2 => .pointer (some ⟨p, 0, none⟩) | 6 => .pointer (some ⟨x, 0, none⟩) | _ => undef) (XL ws w p br x s e l cs vs 78 0 xs ao c (gTyp (strl s) e a)) ?_ ?_ ?_ ?_
  · exact rfl
  · intro i hi hn k v f w' hk hX hoth hv
    obtain ⟨g0, g1⟩ := hcells.out k v w' hX
    clear hX
    match i, hi with
    | 0, _ =>
      have z0 := fv_get (n := 9) (by decide) (show f 0 = .pointer (some ⟨x, 0, none⟩) from (hoth 0 (by decide)).trans rfl)
      refine wpOp_step rfl ?_
      intro K' hK'
      rw [if_pos (wanted_none rfl)]
      go_simp
      (try simp only [z0])
      (try go_simp)
      exact hK' _ _ ⟨fv_set _ _, rfl⟩
    | 1, _ =>
      have z0 := fv_get (n := 9) (by decide) (show f 2 = .pointer (some ⟨x, 0, none⟩) from hv 0 (by kernel_rfl) (by decide))
      refine wpOp_step rfl ?_
      intro K' hK'
      rw [if_pos (wanted_none rfl)]
      go_simp
      (try simp only [z0])
      (try go_simp)
      exact hK' _ _ ⟨fv_set _ _, rfl⟩
    | 2, _ =>
      have z0 := fv_get (n := 9) (by decide) (show f 1 = .pointer (some ⟨br, 0, none⟩) from (hoth 1 (by decide)).trans rfl)
      refine wpOp_step rfl ?_
      intro K' hK'
      rw [if_pos (wanted_none rfl)]
      go_simp
      (try simp only [z0])
      (try go_simp)
      exact hK' _ _ ⟨fv_set _ _, rfl⟩
    | 3, _ => exact absurd rfl (hn 0 (by decide))
    | 4, _ => exact absurd rfl (hn 1 (by decide))
    | 5, _ => exact absurd rfl (hn 2 (by decide))
    | 6, _ =>
      have z0 := fv_get (n := 9) (by decide) (show f 0 = .pointer (some ⟨x, 0, none⟩) from (hoth 0 (by decide)).trans rfl)
      refine wpOp_step rfl ?_
      intro K' hK'
      rw [if_pos (wanted_none rfl)]
      go_simp
      (try simp only [z0])
      (try go_simp)
      exact hK' _ _ ⟨fv_set _ _, rfl⟩
    | i + 7, h => exact absurd h (by omega)
  · intro k hk v f w' hX hfv hoth hv
    match k, hk with
    | 0, _ =>
      obtain rfl : w' = w.drew := hX
      have z0 := fv_get (n := 9) (by decide) (show f 4 = .pointer (some ⟨p, 0, none⟩) from hv 2 (by kernel_rfl) (by decide))
      refine wpOp_step rfl ?_
      intro K' hK'
      rw [if_pos (wanted_none rfl)]
      go_simp
      (try simp only [z0])
      (try go_simp)
      go_at_call 122
      refine (typ_any (h.out.below hp hb hxs (Below.refl _ _).drew).rd hs he).mono ?_
      rintro e' w4 ⟨hW, ⟨z, a', v', hg, ha', ⟨rfl, hv0, hv1⟩, rfl, hR⟩ | ⟨n, hg, rfl⟩⟩
      · go_simp
        exact hK' _ _ ⟨_, fv_set _ _, z, a', hg, ha', rfl, (h.out.below hp hb hxs (Below.refl _ _).drew).rdd hp hb hxs hW hR⟩
      · exact ⟨rfl, .inr ⟨n, hg, rfl, (h.out.below hp hb hxs (Below.refl _ _).drew).wr.trans (hW.mono fun _ e => .inl e)⟩⟩
    | 1, _ =>
      obtain ⟨z, a', hg, ha', rfl, h1⟩ := hX
      replace hg := Lib.hid hg
      have z0 := fv_get (n := 9) (by decide) (show f 5 = .int .i64 z from hfv (by decide))
      refine wpOp_step rfl ?_
      intro K' hK'
      rw [if_pos (wanted_none rfl)]
      go_simp
      (try simp only [z0])
      (try go_simp)
      exact hK' _ _ ⟨_, fv_set _ _, z, a', w'.heap.size, hg.out, ha', rfl, heap_alloc_new _ _, h1.below hp hb hxs (Below.alloc (Below.refl _ _) (Nat.le_refl _) _)⟩
    | 2, _ =>
      obtain ⟨z, a', b, hg, ha', rfl, hbb, h1⟩ := hX
      replace hg := Lib.hid hg
      have z0 := fv_get (n := 9) (by decide) (show f 6 = .slice (some ⟨b, 0, none⟩) 1 1 from hfv (by decide))
      have z1 := fv_get (n := 9) (by decide) (show f 3 = .slice ao xs.length c from hv 1 (by kernel_rfl) (by decide))
      refine wpOp_step rfl ?_
      intro K' hK'
      refine step_append_lies _ (by rfl) (.tmp 3) (.tmp 6) 29 (by rfl) ws.heap.size 3 i3 _ 1 8 Tryz.underlying29 hi3 hz3 hs3 hb3 rfl (by omega) (.slice ao xs.length c) xs.length (xs.map (Value.int .i64)) (by exact z1) h1.own ⟨b, 0, none⟩ 1 1 [.int .i64 z] (by exact z0) (by rfl) (World.news_of_block (cs := #[.int .i64 z]) (t := 3) (fr := (0, 0)) hbb) (by intro u hu; simp only [List.mem_cons, List.mem_nil_iff, or_false] at hu; rcases hu with rfl; rfl) (by omega) (by unfold maxLen; omega) (by omega) h1.wr.size w'.heap.size rfl ?_
      intro g cap w5 hown hgrow hat hlt
      exact hK' _ _ ⟨_, fv_put _ _, z, a', g, cap, hg.out, ha', rfl, h1.grown hp hb hxs hkl hgrow hown⟩
    | k + 3, h => exact absurd h (by omega)
  · intro v f w' hX hfv hoth hv
    obtain ⟨z, a', g, cap, hg, ha', rfl, c4, f4, _, hL⟩ := hX
    replace hg := Lib.hid hg
    have z0 := fv_get (n := 9) (by decide) (show f 7 = .slice (some ⟨g, 0, none⟩) (xs.length + 1) cap from hfv (by decide))
    have z1 := fv_get (n := 9) (by decide) (show f 8 = .pointer (some ⟨x, 0, none⟩) from hv 6 (by decide) (by decide))
    refine wpOp_step rfl ?_
    intro K' hK'
    rw [if_pos (wanted_none rfl)]
    go_simp
    (try simp only [z0, z1])
    (try go_simp)
    refine hK' _ _ ?_
    exact ⟨rfl, _, results_none rfl _ _ _, .inl ⟨z, a', hg.out, ha', rfl, some ⟨g, 0, none⟩, cap, hL⟩⟩
set_option maxRecDepth 100000 in
set_option maxHeartbeats 8000000 in
theorem li65 {ws w : World} {p br x : Nat} {s : ByteArray} {a e l : Nat} {cs vs : List Value} {xs : List Int} {ao : Option Addr} {c : Nat} (h : LiAt ws w p br x s (a : Int) (e : Int) (l : Int) cs vs 78 1 xs ao c)
    (hp : p < br) (hb : br < x) (hxs : x < ws.heap.size) (hkl : 1 < vs.length) (hs : s.size ≤ 262144) (he : e ≤ s.size) (ha : a ≤ e) (hx : xs.length < 4096) :
    Calls Tryz.prog 123 #[.pointer (some ⟨x, 0, none⟩), .pointer (some ⟨br, 0, none⟩)] w fun e' w' =>
      (∃ v a', gTyp (strl s) e a = .ok (v, a') ∧ a' ≤ e ∧ e' = .returned (.tuple #[]) ∧ ∃ ao' c', LiAt ws w' p br x s ((a' : Nat) : Int) (e : Int) (l : Int) cs vs 78 1 (xs ++ [v]) ao' c') ∨
      (∃ n, gTyp (strl s) e a = .error n ∧ e' = .panicked (flt n) ∧ Wr (Spq p x) ws w') := by
  obtain ⟨i3, hi3, hz3, hs3, hb3⟩ := info_parts info3
  have hcells := Lib.hid (XL.cells (G := gTyp (strl s) e a) h hp hb hxs hkl)
  replace h := Lib.hid h
  go_enter Tryz.func123, Tryz.ntmps123
  refine wp_fv _ 9 rfl ?_
  refine region_chain hmix 9 7 3 (fun k => match k with | 0 => 3 | 1 => 4 | 2 => 5 | _ => 7) (fun j => 2 + j) rfl (by kernel_rfl) (by kernel_rfl) (by kernel_rfl) (by kernel_rfl) (fun j => match j with | 0 => .pointer (some ⟨x, 1, none⟩) | 1 => .slice ao xs.length c | 2 => .pointer (some ⟨p, 0, none⟩) | 6 => .pointer (some ⟨x, 1, none⟩) | _ => undef) (XL ws w p br x s e l cs vs 78 1 xs ao c (gTyp (strl s) e a)) ?_ ?_ ?_ ?_
  · exact rfl
  · intro i hi hn k v f w' hk hX hoth hv
    obtain ⟨g0, g1⟩ := hcells.out k v w' hX
    clear hX
    match i, hi with
    | 0, _ =>
      have z0 := fv_get (n := 9) (by decide) (show f 0 = .pointer (some ⟨x, 0, none⟩) from (hoth 0 (by decide)).trans rfl)
      refine wpOp_step rfl ?_
      intro K' hK'
      rw [if_pos (wanted_none rfl)]
      go_simp
      (try simp only [z0])
      (try go_simp)
      exact hK' _ _ ⟨fv_set _ _, rfl⟩
    | 1, _ =>
      have z0 := fv_get (n := 9) (by decide) (show f 2 = .pointer (some ⟨x, 1, none⟩) from hv 0 (by kernel_rfl) (by decide))
      refine wpOp_step rfl ?_
      intro K' hK'
      rw [if_pos (wanted_none rfl)]
      go_simp
      (try simp only [z0])
      (try go_simp)
      exact hK' _ _ ⟨fv_set _ _, rfl⟩
    | 2, _ =>
      have z0 := fv_get (n := 9) (by decide) (show f 1 = .pointer (some ⟨br, 0, none⟩) from (hoth 1 (by decide)).trans rfl)
      refine wpOp_step rfl ?_
      intro K' hK'
      rw [if_pos (wanted_none rfl)]
      go_simp
      (try simp only [z0])
      (try go_simp)
      exact hK' _ _ ⟨fv_set _ _, rfl⟩
    | 3, _ => exact absurd rfl (hn 0 (by decide))
    | 4, _ => exact absurd rfl (hn 1 (by decide))
    | 5, _ => exact absurd rfl (hn 2 (by decide))
    | 6, _ =>
      have z0 := fv_get (n := 9) (by decide) (show f 0 = .pointer (some ⟨x, 0, none⟩) from (hoth 0 (by decide)).trans rfl)
      refine wpOp_step rfl ?_
      intro K' hK'
      rw [if_pos (wanted_none rfl)]
      go_simp
      (try simp only [z0])
      (try go_simp)
      exact hK' _ _ ⟨fv_set _ _, rfl⟩
    | i + 7, h => exact absurd h (by omega)
  · intro k hk v f w' hX hfv hoth hv
    match k, hk with
    | 0, _ =>
      obtain rfl : w' = w.drew := hX
      have z0 := fv_get (n := 9) (by decide) (show f 4 = .pointer (some ⟨p, 0, none⟩) from hv 2 (by kernel_rfl) (by decide))
      refine wpOp_step rfl ?_
      intro K' hK'
      rw [if_pos (wanted_none rfl)]
      go_simp
      (try simp only [z0])
      (try go_simp)
      go_at_call 122
      refine (typ_any (h.out.below hp hb hxs (Below.refl _ _).drew).rd hs he).mono ?_
      rintro e' w4 ⟨hW, ⟨z, a', v', hg, ha', ⟨rfl, hv0, hv1⟩, rfl, hR⟩ | ⟨n, hg, rfl⟩⟩
      · go_simp
        exact hK' _ _ ⟨_, fv_set _ _, z, a', hg, ha', rfl, (h.out.below hp hb hxs (Below.refl _ _).drew).rdd hp hb hxs hW hR⟩
      · exact ⟨rfl, .inr ⟨n, hg, rfl, (h.out.below hp hb hxs (Below.refl _ _).drew).wr.trans (hW.mono fun _ e => .inl e)⟩⟩
    | 1, _ =>
      obtain ⟨z, a', hg, ha', rfl, h1⟩ := hX
      replace hg := Lib.hid hg
      have z0 := fv_get (n := 9) (by decide) (show f 5 = .int .i64 z from hfv (by decide))
      refine wpOp_step rfl ?_
      intro K' hK'
      rw [if_pos (wanted_none rfl)]
      go_simp
      (try simp only [z0])
      (try go_simp)
      exact hK' _ _ ⟨_, fv_set _ _, z, a', w'.heap.size, hg.out, ha', rfl, heap_alloc_new _ _, h1.below hp hb hxs (Below.alloc (Below.refl _ _) (Nat.le_refl _) _)⟩
    | 2, _ =>
      obtain ⟨z, a', b, hg, ha', rfl, hbb, h1⟩ := hX
      replace hg := Lib.hid hg
      have z0 := fv_get (n := 9) (by decide) (show f 6 = .slice (some ⟨b, 0, none⟩) 1 1 from hfv (by decide))
      have z1 := fv_get (n := 9) (by decide) (show f 3 = .slice ao xs.length c from hv 1 (by kernel_rfl) (by decide))
      refine wpOp_step rfl ?_
      intro K' hK'
      refine step_append_lies _ (by rfl) (.tmp 3) (.tmp 6) 29 (by rfl) ws.heap.size 3 i3 _ 1 8 Tryz.underlying29 hi3 hz3 hs3 hb3 rfl (by omega) (.slice ao xs.length c) xs.length (xs.map (Value.int .i64)) (by exact z1) h1.own ⟨b, 0, none⟩ 1 1 [.int .i64 z] (by exact z0) (by rfl) (World.news_of_block (cs := #[.int .i64 z]) (t := 3) (fr := (0, 0)) hbb) (by intro u hu; simp only [List.mem_cons, List.mem_nil_iff, or_false] at hu; rcases hu with rfl; rfl) (by omega) (by unfold maxLen; omega) (by omega) h1.wr.size w'.heap.size rfl ?_
      intro g cap w5 hown hgrow hat hlt
      exact hK' _ _ ⟨_, fv_put _ _, z, a', g, cap, hg.out, ha', rfl, h1.grown hp hb hxs hkl hgrow hown⟩
    | k + 3, h => exact absurd h (by omega)
  · intro v f w' hX hfv hoth hv
    obtain ⟨z, a', g, cap, hg, ha', rfl, c4, f4, _, hL⟩ := hX
    replace hg := Lib.hid hg
    have z0 := fv_get (n := 9) (by decide) (show f 7 = .slice (some ⟨g, 0, none⟩) (xs.length + 1) cap from hfv (by decide))
    have z1 := fv_get (n := 9) (by decide) (show f 8 = .pointer (some ⟨x, 1, none⟩) from hv 6 (by decide) (by decide))
    refine wpOp_step rfl ?_
    intro K' hK'
    rw [if_pos (wanted_none rfl)]
    go_simp
    (try simp only [z0, z1])
    (try go_simp)
    refine hK' _ _ ?_
    exact ⟨rfl, _, results_none rfl _ _ _, .inl ⟨z, a', hg.out, ha', rfl, some ⟨g, 0, none⟩, cap, hL⟩⟩
set_option maxRecDepth 100000 in
set_option maxHeartbeats 8000000 in
theorem li78 {ws w : World} {p br x : Nat} {s : ByteArray} {a e l : Nat} {cs vs : List Value} {xs : List Int} {ao : Option Addr} {c : Nat} (h : LiAt ws w p br x s (a : Int) (e : Int) (l : Int) cs vs 95 7 xs ao c)
    (hp : p < br) (hb : br < x) (hxs : x < ws.heap.size) (hkl : 7 < vs.length) (hs : s.size ≤ 262144) (he : e ≤ s.size) (ha : a ≤ e) (hx : xs.length < 4096) :
    Calls Tryz.prog 136 #[.pointer (some ⟨x, 0, none⟩), .pointer (some ⟨br, 0, none⟩)] w fun e' w' =>
      (∃ v a', gU (strl s) e a = .ok (v, a') ∧ a' ≤ e ∧ e' = .returned (.tuple #[]) ∧ ∃ ao' c', LiAt ws w' p br x s ((a' : Nat) : Int) (e : Int) (l : Int) cs vs 95 7 (xs ++ [v]) ao' c') ∨
      (∃ n, gU (strl s) e a = .error n ∧ e' = .panicked (flt n) ∧ Wr (Spq p x) ws w') := by
  obtain ⟨i3, hi3, hz3, hs3, hb3⟩ := info_parts info3
  have hcells := Lib.hid (XL.cells (G := gU (strl s) e a) h hp hb hxs hkl)
  replace h := Lib.hid h
  go_enter Tryz.func136, Tryz.ntmps136
  refine wp_fv _ 9 rfl ?_
  refine region_chain hmix 9 7 3 (fun k => match k with | 0 => 3 | 1 => 4 | 2 => 5 | _ => 7) (fun j => 2 + j) rfl (by kernel_rfl) (by kernel_rfl) (by kernel_rfl) (by kernel_rfl) (fun j => match j with | 0 => .pointer (some ⟨x, 7, none⟩) | 1 => .slice ao xs.length c | 2 => .pointer (some ⟨p, 0, none⟩) | 6 => .pointer (some ⟨x, 7, none⟩) | _ => undef) (XL ws w p br x s e l cs vs 95 7 xs ao c (gU (strl s) e a)) ?_ ?_ ?_ ?_
  · exact rfl
  · intro i hi hn k v f w' hk hX hoth hv
    obtain ⟨g0, g1⟩ := hcells.out k v w' hX
    clear hX
    match i, hi with
    | 0, _ =>
      have z0 := fv_get (n := 9) (by decide) (show f 0 = .pointer (some ⟨x, 0, none⟩) from (hoth 0 (by decide)).trans rfl)
      refine wpOp_step rfl ?_
      intro K' hK'
      rw [if_pos (wanted_none rfl)]
      go_simp
      (try simp only [z0])
      (try go_simp)
      exact hK' _ _ ⟨fv_set _ _, rfl⟩
    | 1, _ =>
      have z0 := fv_get (n := 9) (by decide) (show f 2 = .pointer (some ⟨x, 7, none⟩) from hv 0 (by kernel_rfl) (by decide))
      refine wpOp_step rfl ?_
      intro K' hK'
      rw [if_pos (wanted_none rfl)]
      go_simp
      (try simp only [z0])
      (try go_simp)
      exact hK' _ _ ⟨fv_set _ _, rfl⟩
    | 2, _ =>
      have z0 := fv_get (n := 9) (by decide) (show f 1 = .pointer (some ⟨br, 0, none⟩) from (hoth 1 (by decide)).trans rfl)
      refine wpOp_step rfl ?_
      intro K' hK'
      rw [if_pos (wanted_none rfl)]
      go_simp
      (try simp only [z0])
      (try go_simp)
      exact hK' _ _ ⟨fv_set _ _, rfl⟩
    | 3, _ => exact absurd rfl (hn 0 (by decide))
    | 4, _ => exact absurd rfl (hn 1 (by decide))
    | 5, _ => exact absurd rfl (hn 2 (by decide))
    | 6, _ =>
      have z0 := fv_get (n := 9) (by decide) (show f 0 = .pointer (some ⟨x, 0, none⟩) from (hoth 0 (by decide)).trans rfl)
      refine wpOp_step rfl ?_
      intro K' hK'
      rw [if_pos (wanted_none rfl)]
      go_simp
      (try simp only [z0])
      (try go_simp)
      exact hK' _ _ ⟨fv_set _ _, rfl⟩
    | i + 7, h => exact absurd h (by omega)
  · intro k hk v f w' hX hfv hoth hv
    match k, hk with
    | 0, _ =>
      obtain rfl : w' = w.drew := hX
      have z0 := fv_get (n := 9) (by decide) (show f 4 = .pointer (some ⟨p, 0, none⟩) from hv 2 (by kernel_rfl) (by decide))
      refine wpOp_step rfl ?_
      intro K' hK'
      rw [if_pos (wanted_none rfl)]
      go_simp
      (try simp only [z0])
      (try go_simp)
      go_at_call 126
      refine (u_any (h.out.below hp hb hxs (Below.refl _ _).drew).rd hs he ha).mono ?_
      rintro e' w4 ⟨hW, ⟨z, a', v', hg, ha', ⟨rfl, hv0, hv1⟩, rfl, hR⟩ | ⟨n, hg, rfl⟩⟩
      · go_simp
        exact hK' _ _ ⟨_, fv_set _ _, z, a', hg, ha', rfl, (h.out.below hp hb hxs (Below.refl _ _).drew).rdd hp hb hxs hW hR⟩
      · exact ⟨rfl, .inr ⟨n, hg, rfl, (h.out.below hp hb hxs (Below.refl _ _).drew).wr.trans (hW.mono fun _ e => .inl e)⟩⟩
    | 1, _ =>
      obtain ⟨z, a', hg, ha', rfl, h1⟩ := hX
      replace hg := Lib.hid hg
      have z0 := fv_get (n := 9) (by decide) (show f 5 = .int .i64 z from hfv (by decide))
      refine wpOp_step rfl ?_
      intro K' hK'
      rw [if_pos (wanted_none rfl)]
      go_simp
      (try simp only [z0])
      (try go_simp)
      exact hK' _ _ ⟨_, fv_set _ _, z, a', w'.heap.size, hg.out, ha', rfl, heap_alloc_new _ _, h1.below hp hb hxs (Below.alloc (Below.refl _ _) (Nat.le_refl _) _)⟩
    | 2, _ =>
      obtain ⟨z, a', b, hg, ha', rfl, hbb, h1⟩ := hX
      replace hg := Lib.hid hg
      have z0 := fv_get (n := 9) (by decide) (show f 6 = .slice (some ⟨b, 0, none⟩) 1 1 from hfv (by decide))
      have z1 := fv_get (n := 9) (by decide) (show f 3 = .slice ao xs.length c from hv 1 (by kernel_rfl) (by decide))
      refine wpOp_step rfl ?_
      intro K' hK'
      refine step_append_lies _ (by rfl) (.tmp 3) (.tmp 6) 29 (by rfl) ws.heap.size 3 i3 _ 1 8 Tryz.underlying29 hi3 hz3 hs3 hb3 rfl (by omega) (.slice ao xs.length c) xs.length (xs.map (Value.int .i64)) (by exact z1) h1.own ⟨b, 0, none⟩ 1 1 [.int .i64 z] (by exact z0) (by rfl) (World.news_of_block (cs := #[.int .i64 z]) (t := 3) (fr := (0, 0)) hbb) (by intro u hu; simp only [List.mem_cons, List.mem_nil_iff, or_false] at hu; rcases hu with rfl; rfl) (by omega) (by unfold maxLen; omega) (by omega) h1.wr.size w'.heap.size rfl ?_
      intro g cap w5 hown hgrow hat hlt
      exact hK' _ _ ⟨_, fv_put _ _, z, a', g, cap, hg.out, ha', rfl, h1.grown hp hb hxs hkl hgrow hown⟩
    | k + 3, h => exact absurd h (by omega)
  · intro v f w' hX hfv hoth hv
    obtain ⟨z, a', g, cap, hg, ha', rfl, c4, f4, _, hL⟩ := hX
    replace hg := Lib.hid hg
    have z0 := fv_get (n := 9) (by decide) (show f 7 = .slice (some ⟨g, 0, none⟩) (xs.length + 1) cap from hfv (by decide))
    have z1 := fv_get (n := 9) (by decide) (show f 8 = .pointer (some ⟨x, 7, none⟩) from hv 6 (by decide) (by decide))
    refine wpOp_step rfl ?_
    intro K' hK'
    rw [if_pos (wanted_none rfl)]
    go_simp
    (try simp only [z0, z1])
    (try go_simp)
    refine hK' _ _ ?_
    exact ⟨rfl, _, results_none rfl _ _ _, .inl ⟨z, a', hg.out, ha', rfl, some ⟨g, 0, none⟩, cap, hL⟩⟩
set_option maxRecDepth 100000 in
set_option maxHeartbeats 16000000 in
theorem types_row : RowFn typK 78 0 120 gType := by
  intro w0 ws p br s a e l cs xs hp hbr hs he ha hx hJ
  obtain ⟨ts, v0, hS, rfl⟩ := hJ
  rw [List.length_map] at hx
  have hbw : br < ws.heap.size := hS.bx.lt
  have hbl : w0.heap.size ≤ br := Nat.le_of_eq hbr.symm
  replace hbr := Lib.hid hbr
  have hRs := hS.rd
  have c0 := hS.bx.cell (j := 0) rfl
  have hbk := Lib.hid hS.bx
  replace hS := Lib.hid hS
  obtain ⟨G2, hG0⟩ : ∃ G2, gType (strl s) e a = G2 := ⟨_, rfl⟩
  rw [hG0]
  replace hG0 := Lib.hid hG0
  go_enter Tryz.func120, Tryz.ntmps120
  go_wp2_with fail
  refine (is_any hRs hs he 96).mono ?_
  rintro e' w1 ⟨hV, ⟨z1, a1, v', hg, ha1, rfl, rfl, hR1⟩ | ⟨n, hg, rfl⟩⟩
  rotate_left
  · exact ⟨rfl, .inr ⟨n, by rw [← hG0.out]; unfold gType; rw [rd_err hg], rfl, hS.out.wr.trans hV⟩⟩
  have hG1 := hG0.out.symm.trans (show gType (strl s) e a = _ from by unfold gType; exact rd_bind hg)
  replace hG1 := Lib.hid hG1
  have hk1 := hbk.out.wr hV (by omega)
  have hW1 := hV
  clear hg hV c0 hG0 hRs
  go_upto_region 2 with (fail)
  have hB : Below w1.heap.size w1 (w1.alloc (.cells #[.slice none 0 0, .slice none 0 0] 78)) := (Below.refl _ _).alloc (Nat.le_refl _) _
  have hX2 := Bk.new w1 [.slice none 0 0, .slice none 0 0] 78
  have hR2 := hR1.below hB
  have hk2 := hk1.below hB
  have hwx : ws.heap.size ≤ w1.heap.size := hW1.size
  have hW2 := hW1.trans (Wr.of_below hB)
  have hbx : br < w1.heap.size := hk1.lt
  obtain ⟨x, hx'⟩ : ∃ x, x = w1.heap.size := ⟨_, rfl⟩
  obtain ⟨w2, hww⟩ : ∃ w2, w2 = w1.alloc (.cells #[.slice none 0 0, .slice none 0 0] 78) := ⟨_, rfl⟩
  rw [← hx'] at hX2 hwx hbx ⊢
  rw [show (w1.alloc (.cells [.slice none 0 0, .slice none 0 0].toArray 78)) = w2 from hww.symm] at hX2
  rw [← hww] at hR2 hk2 hW2 ⊢
  clear hww hB hR1 hk1 hW1
  replace hx' := Lib.hid hx' 
  have c0 := hk2.cell (j := 0) rfl
  replace hX2 := Lib.hid hX2
  replace hR2 := Lib.hid hR2
  replace hk2 := Lib.hid hk2
  replace hW2 := Lib.hid hW2
  go_wp2_with fail
  refine (each_any (J := fun xs a' w' => ∃ ao c, LiAt w2 w' p br x s ((a' : Nat) : Int) (e : Int) (l : Int) (cs.set 0 v0) [.slice none 0 0, .slice none 0 0] 78 0 xs ao c) (T := fun w' => Wr (Spq p x) w2 w') (g := gTyp (strl s) e) hR2.out hs he ha1
    (fun a' w' k r => ⟨none, 0, LiAt.start hp hbx rfl hk2.out hX2.out k r⟩) (fun w' k => k.mono fun _ e => .inl e)
    (fun xs a' w' ha' hx ⟨ao, c, hJ⟩ => (li63 hJ hp hbx hX2.out.lt (by simp) hs he ha' hx).mono fun e' w2 hh => hh) (fun _ => rfl)).mono ?_
  rintro e' w3 (⟨ps, a3, hg, ha3, rfl, pa, pc, hL⟩ | ⟨n, hg, rfl, hV⟩)
  rotate_left
  · exact ⟨rfl, .inr ⟨n, by rw [hG1.out]; exact rd_err hg, rfl, hS.out.wr.trans (hW2.out.newer hV (fun j hj hlt => hj.elim id (fun e => by omega)))⟩⟩
  have hG3 := hG1.out.trans (rd_bind hg)
  replace hG3 := Lib.hid hG3
  have hk3 := hL.bx
  have hX3 := hL.bk
  replace hX3 : Bk w3 x [.slice pa ps.length pc, .slice none 0 0] 78 := hX3
  have hR3 := hL.rd
  have hW3 := hW2.out.newer hL.wr (fun j hj hlt => hj.elim id (fun e => by omega))
  have hV3 := Lib.hid hL.wr
  have hI3 := ints_own' (B := w2.heap.size) hL.own (Nat.le_refl _)
  have hxl2 := hX2.out.lt
  replace hI3 := Lib.hid hI3
  have hsz2 : ws.heap.size ≤ w2.heap.size := hW2.out.size
  clear hg hL c0 hG1 hX2 hk2 hW2 hR2
  have c0 := hk3.cell (j := 0) rfl
  replace hX3 := Lib.hid hX3
  replace hR3 := Lib.hid hR3
  replace hk3 := Lib.hid hk3
  replace hW3 := Lib.hid hW3
  go_wp2_with fail
  refine (each_any (J := fun xs a' w' => ∃ ao c, LiAt w3 w' p br x s ((a' : Nat) : Int) (e : Int) (l : Int) (cs.set 0 v0) [.slice pa ps.length pc, .slice none 0 0] 78 1 xs ao c) (T := fun w' => Wr (Spq p x) w3 w') (g := gTyp (strl s) e) hR3.out hs he ha3
    (fun a' w' k r => ⟨none, 0, LiAt.start hp hbx rfl hk3.out hX3.out k r⟩) (fun w' k => k.mono fun _ e => .inl e)
    (fun xs a' w' ha' hx ⟨ao, c, hJ⟩ => (li65 hJ hp hbx hX3.out.lt (by simp) hs he ha' hx).mono fun e' w2 hh => hh) (fun _ => rfl)).mono ?_
  rintro e' w4 (⟨rs, a4, hg, ha4, rfl, ra, rc, hL⟩ | ⟨n, hg, rfl, hV⟩)
  rotate_left
  · exact ⟨rfl, .inr ⟨n, by rw [hG3.out]; exact rd_err hg, rfl, hS.out.wr.trans (hW3.out.newer hV (fun j hj hlt => hj.elim id (fun e => by omega)))⟩⟩
  have hG4 := hG3.out.trans (rd_bind hg)
  replace hG4 := Lib.hid hG4
  have hk4 := hL.bx
  have hX4 := hL.bk
  replace hX4 : Bk w4 x [.slice pa ps.length pc, .slice ra rs.length rc] 78 := hX4
  have hR4 := hL.rd
  have hW4 := hW3.out.newer hL.wr (fun j hj hlt => hj.elim id (fun e => by omega))
  have hV4 := Lib.hid hL.wr
  have hI4 := ints_own' (B := w3.heap.size) hL.own (Nat.le_refl _)
  have hxl3 := hX3.out.lt
  replace hI4 := Lib.hid hI4
  have hsz3 : ws.heap.size ≤ w3.heap.size := hW3.out.size
  clear hg hL c0 hG3 hX3 hk3 hW3 hR3
  have hok0 : (typK).ok (fun b => ws.heap.size ≤ b) w4 ((ps, pa, pc), (rs, ra, rc)) := ⟨(hI3.out.keep (keeps_wr2 hV4.out (fun b hb => by have : w2.heap.size ≤ b := hb; omega))).low hsz2, hI4.out.low hsz3⟩
  have hfin := hG4.out
  replace hfin : G2 = .ok ((ps, rs), a4) := hfin
  replace hfin := Lib.hid hfin
  have c0 := hk4.cell (j := 0) rfl
  clear hI3 hI4 hV3 hV4 c0
  go_upto_region 4 with (fail)
  replace hfin := hfin
  obtain ⟨wz, hwz⟩ : ∃ wz, wz = w4 := ⟨_, rfl⟩
  obtain ⟨az, haz'⟩ : ∃ az, az = a4 := ⟨_, rfl⟩
  have haz : az ≤ e := by rw [haz']; exact ha4
  rw [← haz'] at hfin hR4
  rw [← hwz] at hR4 hX4 hW4 hok0 ⊢
  have hRz := hR4
  have hX := hX4
  have hWz := hW4
  clear hwz haz' hR4 hX4 hW4 hk4
  have hok : (typK).ok (fun b => ws.heap.size ≤ b) wz (((ps, pa, pc), (rs, ra, rc))) := hok0
  have c0 := 0
  obtain ⟨ie, hie, hze, hse, hbe⟩ := info_parts info74
  have hSz := hS.out.rdd hp hWz hRz
  have hcells := Lib.hid (fun k v w' (hX' : XC typK 78 w0 wz p br s e l cs 0 v0 ts x [.slice pa ps.length pc, .slice ra rs.length rc] 78 ws.heap.size ((ps, rs)) az k v w') => XC.cells hSz hp hX hX' (by decide))
  have hvo : ∀ g, v0.ownBlock = some g → g < ws.heap.size := fun g hg => (hS.out.own.lt g hg).2
  have hvo2 : ∀ g, v0.ownBlock = some g → br + 1 ≤ g := fun g hg => (hS.out.own.lt g hg).1
  have hbrw : br + 1 ≤ ws.heap.size := hbw
  replace hSz := Lib.hid hSz
  replace hX := Lib.hid hX
  replace hok := Lib.hid hok
  clear hWz hRz c0
  refine wp_fv _ 22 rfl ?_
  refine region_chain hmix 22 12 2 (fun k => match k with | 0 => 7 | 1 => 8 | _ => 12) (fun j => 10 + j) rfl (by kernel_rfl) (by kernel_rfl) (by kernel_rfl) (by kernel_rfl) (fun j => match j with | 0 => .pointer (some ⟨p, 0, none⟩) | 1 => .pointer (some ⟨p, 0, none⟩) | 2 => .pointer (some ⟨p, 0, none⟩) | 3 => .pointer (some ⟨p, 4, none⟩) | 4 => .pointer (some ⟨p, 4, none⟩) | 5 => v0 | 6 => .agg #[.slice pa ps.length pc, .slice ra rs.length rc] | 9 => .pointer (some ⟨p, 0, none⟩) | 10 => .pointer (some ⟨p, 4, none⟩) | 11 => .pointer (some ⟨p, 4, none⟩) | _ => undef) (XC typK 78 w0 wz p br s e l cs 0 v0 ts x [.slice pa ps.length pc, .slice ra rs.length rc] 78 ws.heap.size ((ps, rs)) az) ?_ ?_ ?_ ?_
  · exact rfl
  · intro i hi hn k v f w' hk hX' hoth hv
    obtain ⟨g0, g1, gx⟩ := hcells.out k v w' hX'
    have x0 := gx.cell (j := 0) rfl
    have x1 := gx.cell (j := 1) rfl
    clear hX' gx
    match i, hi with
    | 0, _ =>
      have z0 := fv_get (n := 22) (by decide) (show f 0 = .pointer (some ⟨br, 0, none⟩) from (hoth 0 (by decide)).trans rfl)
      refine wpOp_step rfl ?_
      intro K' hK'
      rw [if_pos (wanted_none rfl)]
      go_simp
      (try simp only [z0])
      (try go_simp)
      exact hK' _ _ ⟨fv_set _ _, rfl⟩
    | 1, _ =>
      have z0 := fv_get (n := 22) (by decide) (show f 0 = .pointer (some ⟨br, 0, none⟩) from (hoth 0 (by decide)).trans rfl)
      refine wpOp_step rfl ?_
      intro K' hK'
      rw [if_pos (wanted_none rfl)]
      go_simp
      (try simp only [z0])
      (try go_simp)
      exact hK' _ _ ⟨fv_set _ _, rfl⟩
    | 2, _ =>
      have z0 := fv_get (n := 22) (by decide) (show f 11 = .pointer (some ⟨p, 0, none⟩) from hv 1 (by kernel_rfl) (by decide))
      refine wpOp_step rfl ?_
      intro K' hK'
      rw [if_pos (wanted_none rfl)]
      go_simp
      (try simp only [z0])
      (try go_simp)
      exact hK' _ _ ⟨fv_set _ _, rfl⟩
    | 3, _ =>
      have z0 := fv_get (n := 22) (by decide) (show f 12 = .pointer (some ⟨p, 0, none⟩) from hv 2 (by kernel_rfl) (by decide))
      refine wpOp_step rfl ?_
      intro K' hK'
      rw [if_pos (wanted_none rfl)]
      go_simp
      (try simp only [z0])
      (try go_simp)
      exact hK' _ _ ⟨fv_set _ _, rfl⟩
    | 4, _ =>
      have z0 := fv_get (n := 22) (by decide) (show f 13 = .pointer (some ⟨p, 4, none⟩) from hv 3 (by kernel_rfl) (by decide))
      refine wpOp_step rfl ?_
      intro K' hK'
      rw [if_pos (wanted_none rfl)]
      go_simp
      (try simp only [z0])
      (try go_simp)
      exact hK' _ _ ⟨fv_set _ _, rfl⟩
    | 5, _ =>
      have z0 := fv_get (n := 22) (by decide) (show f 14 = .pointer (some ⟨p, 4, none⟩) from hv 4 (by kernel_rfl) (by decide))
      refine wpOp_step rfl ?_
      intro K' hK'
      rw [if_pos (wanted_none rfl)]
      go_simp
      (try simp only [z0])
      (try go_simp)
      exact hK' _ _ ⟨fv_set _ _, rfl⟩
    | 6, _ =>
      have z0 := fv_get (n := 22) (by decide) (show f 1 = .pointer (some ⟨x, 0, none⟩) from (hoth 1 (by decide)).trans rfl)
      refine wpOp_step rfl ?_
      intro K' hK'
      rw [if_pos (wanted_none rfl)]
      go_simp
      (try simp only [z0])
      (try go_simp)
      exact hK' _ _ ⟨fv_set _ _, rfl⟩
    | 7, _ => exact absurd rfl (hn 0 (by decide))
    | 8, _ => exact absurd rfl (hn 1 (by decide))
    | 9, _ =>
      have z0 := fv_get (n := 22) (by decide) (show f 10 = .pointer (some ⟨p, 0, none⟩) from hv 0 (by kernel_rfl) (by decide))
      refine wpOp_step rfl ?_
      intro K' hK'
      rw [if_pos (wanted_none rfl)]
      go_simp
      (try simp only [z0])
      (try go_simp)
      exact hK' _ _ ⟨fv_set _ _, rfl⟩
    | 10, _ =>
      have z0 := fv_get (n := 22) (by decide) (show f 19 = .pointer (some ⟨p, 0, none⟩) from hv 9 (by kernel_rfl) (by decide))
      refine wpOp_step rfl ?_
      intro K' hK'
      rw [if_pos (wanted_none rfl)]
      go_simp
      (try simp only [z0])
      (try go_simp)
      exact hK' _ _ ⟨fv_set _ _, rfl⟩
    | 11, _ =>
      have z0 := fv_get (n := 22) (by decide) (show f 20 = .pointer (some ⟨p, 4, none⟩) from hv 10 (by kernel_rfl) (by decide))
      refine wpOp_step rfl ?_
      intro K' hK'
      rw [if_pos (wanted_none rfl)]
      go_simp
      (try simp only [z0])
      (try go_simp)
      exact hK' _ _ ⟨fv_set _ _, rfl⟩
    | i + 12, h => exact absurd h (by omega)
  · intro k hk v f w' hX' hfv hoth hv
    match k, hk with
    | 0, _ =>
      obtain rfl : w' = wz.drew := hX'
      have z0 := fv_get (n := 22) (by decide) (show f 16 = .agg #[.slice pa ps.length pc, .slice ra rs.length rc] from hv 6 (by kernel_rfl) (by decide))
      refine wpOp_step rfl ?_
      intro K' hK'
      rw [if_pos (wanted_none rfl)]
      go_simp
      (try simp only [z0])
      (try go_simp)
      exact hK' _ _ ⟨_, fv_set _ _, PhS.of (K := typK) (hSz.out.drew hp) hp (hX.out.below (Below.refl _ _).drew) (((ps, pa, pc), (rs, ra, rc))) rfl (typK.keep (keeps_drew' _) hok.out)⟩
    | 1, _ =>
      obtain ⟨b, t, rfl, hb, hz, hk, h1, hxx⟩ := hX'
      have z0 := fv_get (n := 22) (by decide) (show f 17 = .slice (some ⟨b, 0, none⟩) 1 1 from hfv (by decide))
      have z1 := fv_get (n := 22) (by decide) (show f 15 = v0 from hv 5 (by kernel_rfl) (by decide))
      refine wpOp_step rfl ?_
      intro K' hK'
      refine step_append_lies _ (by rfl) (.tmp 15) (.tmp 17) 23 (by rfl) (br + 1) 78 ie _ 2 48 Tryz.underlying23 hie hze hse hbe rfl (by decide) v0 ts.length (ts.flatMap (typK).enc) (by exact z1) h1.own ⟨b, 0, none⟩ 1 1 ((typK).enc t) (by exact z0) (by rw [(typK).len]; rfl) (World.news_of_block (cs := ((typK).enc t).toArray) (t := 78) (fr := (0, 0)) hb) ((typK).one t) (by decide) (by unfold maxLen; omega) (by omega) h1.bx.lt w'.heap.size rfl ?_
      intro g cap w5 hown hgrow hat hlt
      exact hK' _ _ ⟨_, fv_put _ _, PhA.of h1 hp hbl hxx (fun g hg => by have := hvo g hg; omega) hz hk hvo hbrw hown hgrow hat⟩
    | k + 2, h => exact absurd h (by omega)
  · intro v f w' hX' hfv hoth hv
    obtain ⟨g, cap, t, rfl, hz, hG, hxx⟩ := hX'
    have z0 := fv_get (n := 22) (by decide) (show f 18 = .slice (some ⟨g, 0, none⟩) (ts.length + 1) cap from hfv (by decide))
    have f4 := hG.rd.fr 4
    have c4 := hG.rd.field (j := 0) (by decide)
    have z1 := fv_get (n := 22) (by decide) (show f 21 = .pointer (some ⟨p, 4, none⟩) from hv 11 (by decide) (by decide))
    refine wpOp_step rfl ?_
    intro K' hK'
    rw [if_pos (wanted_none rfl)]
    go_simp
    (try simp only [z0, z1])
    (try go_simp)
    refine hK' _ _ ?_
    exact ⟨rfl, _, results_none rfl _ _ _, .inl ⟨(ps, rs), az, hfin.out, haz, rfl, ts ++ [t], _, hG.store hp, by rw [List.map_append, List.map_cons, List.map_nil, hz]⟩⟩
set_option maxRecDepth 100000 in
set_option maxHeartbeats 16000000 in
theorem elems_row : RowFn elmK 95 8 135 gElem := by
  intro w0 ws p br s a e l cs xs hp hbr hs he ha hx hJ
  obtain ⟨ts, v0, hS, rfl⟩ := hJ
  rw [List.length_map] at hx
  have hbw : br < ws.heap.size := hS.bx.lt
  have hbl : w0.heap.size ≤ br := Nat.le_of_eq hbr.symm
  replace hbr := Lib.hid hbr
  have hRs := hS.rd
  have c0 := hS.bx.cell (j := 0) rfl
  have hbk := Lib.hid hS.bx
  replace hS := Lib.hid hS
  obtain ⟨G2, hG0⟩ : ∃ G2, gElem (strl s) e a = G2 := ⟨_, rfl⟩
  rw [hG0]
  replace hG0 := Lib.hid hG0
  go_enter Tryz.func135, Tryz.ntmps135
  go_wp2_with fail
  refine (is_any hRs hs he 0).mono ?_
  rintro e' w1 ⟨hV, ⟨z1, a1, v', hg, ha1, rfl, rfl, hR1⟩ | ⟨n, hg, rfl⟩⟩
  rotate_left
  · exact ⟨rfl, .inr ⟨n, by rw [← hG0.out]; unfold gElem; rw [rd_err hg], rfl, hS.out.wr.trans hV⟩⟩
  have hG1 := hG0.out.symm.trans (show gElem (strl s) e a = _ from by unfold gElem; exact rd_bind hg)
  replace hG1 := Lib.hid hG1
  have hk1 := hbk.out.wr hV (by omega)
  have hW1 := hV
  clear hg hV c0 hG0 hRs
  have c0 := hk1.cell (j := 0) rfl
  replace hR1 := Lib.hid hR1
  replace hk1 := Lib.hid hk1
  replace hW1 := Lib.hid hW1
  go_wp2_with fail
  refine (constant_any hR1.out hs he ha1).mono ?_
  rintro e' w2 ⟨hV, ⟨o, a2, v', hg, ha2, ⟨fl1, fl2, fl3, ti, hs7, hvt⟩, rfl, hR2⟩ | ⟨n, hg, rfl⟩⟩
  rotate_left
  · exact ⟨rfl, .inr ⟨n, by rw [hG1.out]; exact rd_err hg, rfl, hS.out.wr.trans (hW1.out.trans hV)⟩⟩
  have hG2 := hG1.out.trans (rd_bind hg)
  replace hG2 := Lib.hid hG2
  have hk2 := hk1.out.wr hV (by omega)
  have hW2 := hW1.out.trans hV
  clear hg hV c0 hG1 hR1 hk1 hW1
  replace hvt : v' = .agg #[.int .i64 ti.op, .int .i64 ti.x, .int .i64 ti.y, .int .i64 ti.n, .slice ti.a4 ti.ls.length ti.c4, .slice ti.a5 ti.body.len ti.c5, .slice ti.a6 ti.els.len ti.c6] := hvt
  subst hvt
  obtain rfl : o = oneOf ti := by obtain ⟨h1, h2, h3, h4, h5, h6, h7⟩ := hs7; cases o; simp only [oneOf] at *; simp [*]
  replace fl1 := Lib.hid fl1
  replace fl2 := Lib.hid fl2
  replace fl3 := Lib.hid fl3
  replace hs7 := Lib.hid hs7
  go_upto_region 2 with (fail)
  have hB : Below w2.heap.size w2 (w2.alloc (.cells #[.int .i64 ti.op, .int .i64 ti.x, .int .i64 ti.y, .int .i64 ti.n, .slice ti.a4 ti.ls.length ti.c4, .slice ti.a5 ti.body.len ti.c5, .slice ti.a6 ti.els.len ti.c6, .slice none 0 0] 95)) := (Below.refl _ _).alloc (Nat.le_refl _) _
  have hX3 := Bk.new w2 [.int .i64 ti.op, .int .i64 ti.x, .int .i64 ti.y, .int .i64 ti.n, .slice ti.a4 ti.ls.length ti.c4, .slice ti.a5 ti.body.len ti.c5, .slice ti.a6 ti.els.len ti.c6, .slice none 0 0] 95
  have hR3 := hR2.below hB
  have hk3 := hk2.below hB
  have hwx : ws.heap.size ≤ w2.heap.size := hW2.size
  have hW3 := hW2.trans (Wr.of_below hB)
  have hbx : br < w2.heap.size := hk2.lt
  obtain ⟨x, hx'⟩ : ∃ x, x = w2.heap.size := ⟨_, rfl⟩
  obtain ⟨w3, hww⟩ : ∃ w3, w3 = w2.alloc (.cells #[.int .i64 ti.op, .int .i64 ti.x, .int .i64 ti.y, .int .i64 ti.n, .slice ti.a4 ti.ls.length ti.c4, .slice ti.a5 ti.body.len ti.c5, .slice ti.a6 ti.els.len ti.c6, .slice none 0 0] 95) := ⟨_, rfl⟩
  rw [← hx'] at hX3 hwx hbx ⊢
  rw [show (w2.alloc (.cells [.int .i64 ti.op, .int .i64 ti.x, .int .i64 ti.y, .int .i64 ti.n, .slice ti.a4 ti.ls.length ti.c4, .slice ti.a5 ti.body.len ti.c5, .slice ti.a6 ti.els.len ti.c6, .slice none 0 0].toArray 95)) = w3 from hww.symm] at hX3
  rw [← hww] at hR3 hk3 hW3 ⊢
  clear hww hB hR2 hk2 hW2
  replace hx' := Lib.hid hx' 
  have c0 := hk3.cell (j := 0) rfl
  replace hX3 := Lib.hid hX3
  replace hR3 := Lib.hid hR3
  replace hk3 := Lib.hid hk3
  replace hW3 := Lib.hid hW3
  go_wp2_with fail
  refine (each_any (J := fun xs a' w' => ∃ ao c, LiAt w3 w' p br x s ((a' : Nat) : Int) (e : Int) (l : Int) (cs.set 8 v0) [.int .i64 ti.op, .int .i64 ti.x, .int .i64 ti.y, .int .i64 ti.n, .slice ti.a4 ti.ls.length ti.c4, .slice ti.a5 ti.body.len ti.c5, .slice ti.a6 ti.els.len ti.c6, .slice none 0 0] 95 7 xs ao c) (T := fun w' => Wr (Spq p x) w3 w') (g := gU (strl s) e) hR3.out hs he ha2
    (fun a' w' k r => ⟨none, 0, LiAt.start hp hbx rfl hk3.out hX3.out k r⟩) (fun w' k => k.mono fun _ e => .inl e)
    (fun xs a' w' ha' hx ⟨ao, c, hJ⟩ => (li78 hJ hp hbx hX3.out.lt (by simp) hs he ha' hx).mono fun e' w2 hh => hh) (fun _ => rfl)).mono ?_
  rintro e' w4 (⟨fs, a4, hg, ha4, rfl, fa, fc, hL⟩ | ⟨n, hg, rfl, hV⟩)
  rotate_left
  · exact ⟨rfl, .inr ⟨n, by rw [hG2.out]; exact rd_err hg, rfl, hS.out.wr.trans (hW3.out.newer hV (fun j hj hlt => hj.elim id (fun e => by omega)))⟩⟩
  have hG4 := hG2.out.trans (rd_bind hg)
  replace hG4 := Lib.hid hG4
  have hk4 := hL.bx
  have hX4 := hL.bk
  replace hX4 : Bk w4 x [.int .i64 ti.op, .int .i64 ti.x, .int .i64 ti.y, .int .i64 ti.n, .slice ti.a4 ti.ls.length ti.c4, .slice ti.a5 ti.body.len ti.c5, .slice ti.a6 ti.els.len ti.c6, .slice fa fs.length fc] 95 := hX4
  have hR4 := hL.rd
  have hW4 := hW3.out.newer hL.wr (fun j hj hlt => hj.elim id (fun e => by omega))
  have hV4 := Lib.hid hL.wr
  have hI4 := ints_own' (B := w3.heap.size) hL.own (Nat.le_refl _)
  have hxl3 := hX3.out.lt
  replace hI4 := Lib.hid hI4
  have hsz3 : ws.heap.size ≤ w3.heap.size := hW3.out.size
  clear hg hL c0 hG2 hX3 hk3 hW3 hR3
  have hok0 : (elmK).ok (fun b => ws.heap.size ≤ b) w4 (ti, (fs, fa, fc)) := ⟨⟨fl1.out, fl2.out, fl3.out⟩, hI4.out.low hsz3⟩
  have hfin := hG4.out
  replace hfin : G2 = .ok ((oneOf ti, fs), a4) := hfin
  replace hfin := Lib.hid hfin
  clear hI4 hV4
  go_upto_region 3 with (fail)
  replace hfin := hfin
  obtain ⟨wz, hwz⟩ : ∃ wz, wz = w4 := ⟨_, rfl⟩
  obtain ⟨az, haz'⟩ : ∃ az, az = a4 := ⟨_, rfl⟩
  have haz : az ≤ e := by rw [haz']; exact ha4
  rw [← haz'] at hfin hR4
  rw [← hwz] at hR4 hX4 hW4 hok0 ⊢
  have hRz := hR4
  have hX := hX4
  have hWz := hW4
  clear hwz haz' hR4 hX4 hW4 hk4
  have hok : (elmK).ok (fun b => ws.heap.size ≤ b) wz ((ti, (fs, fa, fc))) := hok0
  have c0 := 0
  obtain ⟨ie, hie, hze, hse, hbe⟩ := info_parts info76
  have hSz := hS.out.rdd hp hWz hRz
  have hcells := Lib.hid (fun k v w' (hX' : XC elmK 95 w0 wz p br s e l cs 8 v0 ts x [.int .i64 ti.op, .int .i64 ti.x, .int .i64 ti.y, .int .i64 ti.n, .slice ti.a4 ti.ls.length ti.c4, .slice ti.a5 ti.body.len ti.c5, .slice ti.a6 ti.els.len ti.c6, .slice fa fs.length fc] 95 ws.heap.size ((oneOf ti, fs)) az k v w') => XC.cells hSz hp hX hX' (by decide))
  have hvo : ∀ g, v0.ownBlock = some g → g < ws.heap.size := fun g hg => (hS.out.own.lt g hg).2
  have hvo2 : ∀ g, v0.ownBlock = some g → br + 1 ≤ g := fun g hg => (hS.out.own.lt g hg).1
  have hbrw : br + 1 ≤ ws.heap.size := hbw
  replace hSz := Lib.hid hSz
  replace hX := Lib.hid hX
  replace hok := Lib.hid hok
  clear hWz hRz c0
  refine wp_fv _ 22 rfl ?_
  refine region_chain hmix 22 12 2 (fun k => match k with | 0 => 7 | 1 => 8 | _ => 12) (fun j => 10 + j) rfl (by kernel_rfl) (by kernel_rfl) (by kernel_rfl) (by kernel_rfl) (fun j => match j with | 0 => .pointer (some ⟨p, 0, none⟩) | 1 => .pointer (some ⟨p, 0, none⟩) | 2 => .pointer (some ⟨p, 0, none⟩) | 3 => .pointer (some ⟨p, 4, none⟩) | 4 => .pointer (some ⟨p, 12, none⟩) | 5 => v0 | 6 => .agg #[.int .i64 ti.op, .int .i64 ti.x, .int .i64 ti.y, .int .i64 ti.n, .slice ti.a4 ti.ls.length ti.c4, .slice ti.a5 ti.body.len ti.c5, .slice ti.a6 ti.els.len ti.c6, .slice fa fs.length fc] | 9 => .pointer (some ⟨p, 0, none⟩) | 10 => .pointer (some ⟨p, 4, none⟩) | 11 => .pointer (some ⟨p, 12, none⟩) | _ => undef) (XC elmK 95 w0 wz p br s e l cs 8 v0 ts x [.int .i64 ti.op, .int .i64 ti.x, .int .i64 ti.y, .int .i64 ti.n, .slice ti.a4 ti.ls.length ti.c4, .slice ti.a5 ti.body.len ti.c5, .slice ti.a6 ti.els.len ti.c6, .slice fa fs.length fc] 95 ws.heap.size ((oneOf ti, fs)) az) ?_ ?_ ?_ ?_
  · exact rfl
  · intro i hi hn k v f w' hk hX' hoth hv
    obtain ⟨g0, g1, gx⟩ := hcells.out k v w' hX'
    have x0 := gx.cell (j := 0) rfl
    have x1 := gx.cell (j := 1) rfl
    have x2 := gx.cell (j := 2) rfl
    have x3 := gx.cell (j := 3) rfl
    have x4 := gx.cell (j := 4) rfl
    have x5 := gx.cell (j := 5) rfl
    have x6 := gx.cell (j := 6) rfl
    have x7 := gx.cell (j := 7) rfl
    clear hX' gx
    match i, hi with
    | 0, _ =>
      have z0 := fv_get (n := 22) (by decide) (show f 0 = .pointer (some ⟨br, 0, none⟩) from (hoth 0 (by decide)).trans rfl)
      refine wpOp_step rfl ?_
      intro K' hK'
      rw [if_pos (wanted_none rfl)]
      go_simp
      (try simp only [z0])
      (try go_simp)
      exact hK' _ _ ⟨fv_set _ _, rfl⟩
    | 1, _ =>
      have z0 := fv_get (n := 22) (by decide) (show f 0 = .pointer (some ⟨br, 0, none⟩) from (hoth 0 (by decide)).trans rfl)
      refine wpOp_step rfl ?_
      intro K' hK'
      rw [if_pos (wanted_none rfl)]
      go_simp
      (try simp only [z0])
      (try go_simp)
      exact hK' _ _ ⟨fv_set _ _, rfl⟩
    | 2, _ =>
      have z0 := fv_get (n := 22) (by decide) (show f 11 = .pointer (some ⟨p, 0, none⟩) from hv 1 (by kernel_rfl) (by decide))
      refine wpOp_step rfl ?_
      intro K' hK'
      rw [if_pos (wanted_none rfl)]
      go_simp
      (try simp only [z0])
      (try go_simp)
      exact hK' _ _ ⟨fv_set _ _, rfl⟩
    | 3, _ =>
      have z0 := fv_get (n := 22) (by decide) (show f 12 = .pointer (some ⟨p, 0, none⟩) from hv 2 (by kernel_rfl) (by decide))
      refine wpOp_step rfl ?_
      intro K' hK'
      rw [if_pos (wanted_none rfl)]
      go_simp
      (try simp only [z0])
      (try go_simp)
      exact hK' _ _ ⟨fv_set _ _, rfl⟩
    | 4, _ =>
      have z0 := fv_get (n := 22) (by decide) (show f 13 = .pointer (some ⟨p, 4, none⟩) from hv 3 (by kernel_rfl) (by decide))
      refine wpOp_step rfl ?_
      intro K' hK'
      rw [if_pos (wanted_none rfl)]
      go_simp
      (try simp only [z0])
      (try go_simp)
      exact hK' _ _ ⟨fv_set _ _, rfl⟩
    | 5, _ =>
      have z0 := fv_get (n := 22) (by decide) (show f 14 = .pointer (some ⟨p, 12, none⟩) from hv 4 (by kernel_rfl) (by decide))
      refine wpOp_step rfl ?_
      intro K' hK'
      rw [if_pos (wanted_none rfl)]
      go_simp
      (try simp only [z0])
      (try go_simp)
      exact hK' _ _ ⟨fv_set _ _, rfl⟩
    | 6, _ =>
      have z0 := fv_get (n := 22) (by decide) (show f 1 = .pointer (some ⟨x, 0, none⟩) from (hoth 1 (by decide)).trans rfl)
      refine wpOp_step rfl ?_
      intro K' hK'
      rw [if_pos (wanted_none rfl)]
      go_simp
      (try simp only [z0])
      (try go_simp)
      exact hK' _ _ ⟨fv_set _ _, rfl⟩
    | 7, _ => exact absurd rfl (hn 0 (by decide))
    | 8, _ => exact absurd rfl (hn 1 (by decide))
    | 9, _ =>
      have z0 := fv_get (n := 22) (by decide) (show f 10 = .pointer (some ⟨p, 0, none⟩) from hv 0 (by kernel_rfl) (by decide))
      refine wpOp_step rfl ?_
      intro K' hK'
      rw [if_pos (wanted_none rfl)]
      go_simp
      (try simp only [z0])
      (try go_simp)
      exact hK' _ _ ⟨fv_set _ _, rfl⟩
    | 10, _ =>
      have z0 := fv_get (n := 22) (by decide) (show f 19 = .pointer (some ⟨p, 0, none⟩) from hv 9 (by kernel_rfl) (by decide))
      refine wpOp_step rfl ?_
      intro K' hK'
      rw [if_pos (wanted_none rfl)]
      go_simp
      (try simp only [z0])
      (try go_simp)
      exact hK' _ _ ⟨fv_set _ _, rfl⟩
    | 11, _ =>
      have z0 := fv_get (n := 22) (by decide) (show f 20 = .pointer (some ⟨p, 4, none⟩) from hv 10 (by kernel_rfl) (by decide))
      refine wpOp_step rfl ?_
      intro K' hK'
      rw [if_pos (wanted_none rfl)]
      go_simp
      (try simp only [z0])
      (try go_simp)
      exact hK' _ _ ⟨fv_set _ _, rfl⟩
    | i + 12, h => exact absurd h (by omega)
  · intro k hk v f w' hX' hfv hoth hv
    match k, hk with
    | 0, _ =>
      obtain rfl : w' = wz.drew := hX'
      have z0 := fv_get (n := 22) (by decide) (show f 16 = .agg #[.int .i64 ti.op, .int .i64 ti.x, .int .i64 ti.y, .int .i64 ti.n, .slice ti.a4 ti.ls.length ti.c4, .slice ti.a5 ti.body.len ti.c5, .slice ti.a6 ti.els.len ti.c6, .slice fa fs.length fc] from hv 6 (by kernel_rfl) (by decide))
      refine wpOp_step rfl ?_
      intro K' hK'
      rw [if_pos (wanted_none rfl)]
      go_simp
      (try simp only [z0])
      (try go_simp)
      exact hK' _ _ ⟨_, fv_set _ _, PhS.of (K := elmK) (hSz.out.drew hp) hp (hX.out.below (Below.refl _ _).drew) ((ti, (fs, fa, fc))) rfl (elmK.keep (keeps_drew' _) hok.out)⟩
    | 1, _ =>
      obtain ⟨b, t, rfl, hb, hz, hk, h1, hxx⟩ := hX'
      have z0 := fv_get (n := 22) (by decide) (show f 17 = .slice (some ⟨b, 0, none⟩) 1 1 from hfv (by decide))
      have z1 := fv_get (n := 22) (by decide) (show f 15 = v0 from hv 5 (by kernel_rfl) (by decide))
      refine wpOp_step rfl ?_
      intro K' hK'
      refine step_append_lies _ (by rfl) (.tmp 15) (.tmp 17) 30 (by rfl) (br + 1) 95 ie _ 8 128 Tryz.underlying30 hie hze hse hbe rfl (by decide) v0 ts.length (ts.flatMap (elmK).enc) (by exact z1) h1.own ⟨b, 0, none⟩ 1 1 ((elmK).enc t) (by exact z0) (by rw [(elmK).len]; rfl) (World.news_of_block (cs := ((elmK).enc t).toArray) (t := 95) (fr := (0, 0)) hb) ((elmK).one t) (by decide) (by unfold maxLen; omega) (by omega) h1.bx.lt w'.heap.size rfl ?_
      intro g cap w5 hown hgrow hat hlt
      exact hK' _ _ ⟨_, fv_put _ _, PhA.of h1 hp hbl hxx (fun g hg => by have := hvo g hg; omega) hz hk hvo hbrw hown hgrow hat⟩
    | k + 2, h => exact absurd h (by omega)
  · intro v f w' hX' hfv hoth hv
    obtain ⟨g, cap, t, rfl, hz, hG, hxx⟩ := hX'
    have z0 := fv_get (n := 22) (by decide) (show f 18 = .slice (some ⟨g, 0, none⟩) (ts.length + 1) cap from hfv (by decide))
    have f4 := hG.rd.fr 12
    have c4 := hG.rd.field (j := 8) (by decide)
    have z1 := fv_get (n := 22) (by decide) (show f 21 = .pointer (some ⟨p, 12, none⟩) from hv 11 (by decide) (by decide))
    refine wpOp_step rfl ?_
    intro K' hK'
    rw [if_pos (wanted_none rfl)]
    go_simp
    (try simp only [z0, z1])
    (try go_simp)
    refine hK' _ _ ?_
    exact ⟨rfl, _, results_none rfl _ _ _, .inl ⟨(oneOf ti, fs), az, hfin.out, haz, rfl, ts ++ [t], _, hG.store hp, by rw [List.map_append, List.map_cons, List.map_nil, hz]⟩⟩
end Go.Proofs.YtkbfjkbokifgkaaGreatDoor
