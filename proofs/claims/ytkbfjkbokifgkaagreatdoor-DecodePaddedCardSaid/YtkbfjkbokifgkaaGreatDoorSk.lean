/- Codes: the runs of locals. -/
import Derived.Test.YtkbfjkbokifgkaaGreatDoorSj
import Derived.Deep.DeepCutAuto
namespace Go.Proofs.YtkbfjkbokifgkaaGreatDoor
open Go.RowKit
set_option linter.unusedVariables false
set_option linter.unusedSimpArgs false
def gFold {σ : Type} (f : σ → Nat → Got σ) : Nat → σ → Nat → Got σ
 | 0, x, a => .ok (x, a)
 | k + 1, x, a => (f x a).bind fun q => gFold f k q.1 q.2
def gAcc {σ : Type} (s : List UInt8) (e a : Nat) (f : σ → Nat → Got σ) (x : σ) : Got σ := (gCount s e a).bind fun q => gFold f q.1.toNat x q.2
def gRun (s : List UInt8) (e : Nat) (l : List Int) (a : Nat) : Got (List Int) := (gU s e a).bind fun n => if n.1 ≤ 256 - (l.length : Int) then (gTyp s e n.2).bind fun t => .ok (l ++ List.replicate n.1.toNat t.1, t.2) else .error 3
theorem gFold_runs (s : List UInt8) (e : Nat) : ∀ k l a, gFold (gRun s e) k l a = gRuns s e k l a
 | 0, l, a => rfl
 | k + 1, l, a => by
   show (gRun s e l a).bind _ = _
   unfold gRun gRuns; rw [except_assoc]; refine bind_congr fun n _ => ?_
   by_cases h : n.1 ≤ 256 - (l.length : Int)
   · rw [if_pos h, if_pos h, except_assoc]; refine bind_congr fun t _ => ?_; exact gFold_runs s e k _ _
   · rw [if_neg h, if_neg h]; rfl
set_option maxRecDepth 100000 in
set_option maxHeartbeats 4000000 in
theorem each_acc {σ : Type} {J : σ → Nat → World → Prop} {T : World → Prop} {w : World} {p : Nat} {s : ByteArray} {a e : Nat} {l : Int} {cs : List Value} {g : σ → Nat → Got σ} {x0 : σ} {k : Nat} {cap : Array Value}
 (h : RdAt w p s (a : Int) (e : Int) l cs) (hs : s.size ≤ 262144) (he : e ≤ s.size) (ha : a ≤ e)
 (h0 : ∀ (a' : Nat) w', Wr (· = p) w w' → RdAt w' p s (a' : Int) (e : Int) l cs → J x0 a' w') (hT : ∀ w', Wr (· = p) w w' → T w') (hst : ∀ x a w, a ≤ e → J x a w → Calls Tryz.prog k cap w fun e' w' => (∃ v a', g x a = .ok (v, a') ∧ a' ≤ e ∧ e' = .returned (.tuple #[]) ∧ J v a' w') ∨ (∃ n, g x a = .error n ∧ e' = .panicked (flt n) ∧ T w')) (hcall : ∀ w, (callFunc k cap).run Tryz.prog w = .ok (.enter k cap) w) :
 Calls Tryz.prog 119 #[.pointer (some ⟨p, 0, none⟩), .func (Fn.func k) #[] cap] w fun e' w' => (∃ vs a', gAcc (strl s) e a g x0 = .ok (vs, a') ∧ a' ≤ e ∧ e' = .returned (.tuple #[]) ∧ J vs a' w') ∨ (∃ n, gAcc (strl s) e a g x0 = .error n ∧ e' = .panicked (flt n) ∧ T w') := by
 obtain ⟨R, hRR⟩ : ∃ R, gAcc (strl s) e a g x0 = R := ⟨_, rfl⟩
 rw [hRR]; replace hRR := zh hRR; replace hst := zh hst; replace h0 := zh h0; replace hT := zh hT; go_enter Tryz.func119, Tryz.ntmps119; go_wp2_with fail; refine (count_any h hs he ha).mono ?_; rintro e' w' ⟨hW, ⟨v, a1, v', hg, ha', ⟨rfl, hv0, hv1⟩, rfl, hR⟩ | ⟨n, hg, rfl⟩⟩
 · obtain ⟨m, rfl⟩ : ∃ m : Nat, v = (m : Int) := ⟨v.toNat, by omega⟩
   have hR1 : R = gFold g m x0 a1 := by
    rw [← hRR.out]; unfold gAcc; rw [rd_bind hg]
    show gFold g (m : Int).toNat x0 a1 = _
    rw [Int.toNat_natCast]
   have hJ := h0.out a1 w' hW hR
   have hm4 : m ≤ 4096 := by have := gCount_le hg; omega
   replace hg := zh hg; replace hR1 := zh hR1; replace hJ := zh hJ; replace hW := zh hW; replace hR := zh hR; go_wp2_with fail
   go_loopg [6] m (fun k' v6 wr => ∃ (i : Nat) (xs : σ) (ai : Nat), v6 = .int .i64 i ∧ i + k' = m ∧ ai ≤ e ∧ Hid (J xs ai wr) ∧ Hid (R = gFold g k' xs ai))
   case atStart => exact ⟨0, x0, a1, rfl, by omega, ha', hJ, hR1⟩
   case round =>
    obtain ⟨i, xs, ai, rfl, hik, hai, hJi, hRi⟩ := hrel; clear hJ hR1 hR hW
    by_cases hlt : i < m
    · obtain ⟨k1, rfl⟩ : ∃ k1, gk = k1 + 1 := ⟨gk - 1, by omega⟩
      have hi : (i : Int) < (m : Int) := (by omega)
      have hw : IntKind.i64.wrap ((i : Int) + 1) = (i : Int) + 1 := wid64 _ (by omega) (by omega); go_wp2_with fail; refine (hst.out xs ai wr hai hJi.out).mono ?_; rintro e' w2 (⟨v, a2, hgv, ha2, rfl, hJ2⟩ | ⟨n, hgv, rfl, hT2⟩)
      · replace hJ2 := zh hJ2; replace hgv := zh hgv; go_wp2_with fail
        go_roundg k1
        case measure => omega
        case rel => exact ⟨i + 1, v, a2, by push_cast; rfl, by omega, ha2, hJ2, zh (by rw [hRi.out]; exact rd_bind hgv.out)⟩
      · exact ⟨rfl, .inr ⟨n, by rw [hRi.out]; exact rd_err hgv, rfl, hT2⟩⟩
    · have hi : ¬ (i : Int) < (m : Int) := (by omega)
      obtain rfl : gk = 0 := by omega
      go_wp2_with fail; go_end0; exact .inl ⟨xs, ai, by rw [hRi.out]; rfl, hai, rfl, hJi.out⟩
 · exact ⟨rfl, .inr ⟨n, by rw [← hRR.out]; unfold gAcc; rw [rd_err hg], rfl, hT.out _ hW⟩⟩
structure Ap (ws : World) (p br fb g : Nat) : Prop where
 pb : p < br
 gb : g < br
 gp : g ≠ p
 bf : br < fb
 fs : fb < ws.heap.size
structure CdAt (ws w : World) (p br fb g : Nat) (s : ByteArray) (a e l : Int) (cs cur : List Value) (o : Nat) (xs : List Int) (ao : Option Addr) (c : Nat) : Prop where
 rd : RdAt w p s a e l cs
 bx : Bk w br [.pointer (some ⟨p, 0, none⟩)] 60
 fx : Bk w fb [.pointer (some ⟨g, o, none⟩)] 142
 bk : Bk w g (cur.set (o + 1) (.slice ao xs.length c)) 83
 wr : Wr (Spq p g) ws w
 own : w.ownsRow ws.heap.size 3 1 (.slice ao xs.length c) xs.length (xs.map (Value.int .i64))
section
variable {ws w w' : World} {p br fb g : Nat} {s : ByteArray} {a e l : Int} {cs cur : List Value} {o : Nat} {xs : List Int} {ao : Option Addr} {c : Nat}
theorem CdAt.rdd (h : CdAt ws w p br fb g s a e l cs cur o xs ao c) (ap : Ap ws p br fb g) {a' e' l' : Int} (q : Wr (· = p) w w') (r : RdAt w' p s a' e' l' cs) : CdAt ws w' p br fb g s a' e' l' cs cur o xs ao c := by obtain ⟨h1, h2, h3, h4, h5⟩ := ap; exact ⟨r, h.bx.wr q (by omega), h.fx.wr q (by omega), h.bk.wr q h3, h.wr.trans (q.mono fun _ e => .inl e), own_same h.own fun g hg => q.block g (h.own.lt g hg).2 (by have := (h.own.lt g hg).1; omega)⟩
theorem CdAt.below (h : CdAt ws w p br fb g s a e l cs cur o xs ao c) (ap : Ap ws p br fb g) (q : Below w.heap.size w w') : CdAt ws w' p br fb g s a e l cs cur o xs ao c := h.rdd ap (Wr.of_below q) (h.rd.below q)
theorem CdAt.grown {gg cap : Nat} {z : Int} (h : CdAt ws w p br fb g s a e l cs cur o xs ao c) (ap : Ap ws p br fb g) (hk : o + 1 < cur.length) (q : w.grownBy w' (Value.slice ao xs.length c).ownBlock)
 (own : w'.ownsRow ws.heap.size 3 1 (.slice (some ⟨gg, 0, none⟩) (xs.length + 1) cap) (xs.length + 1) (xs.map (Value.int .i64) ++ [.int .i64 z])) :
 w'.cell? ⟨g, o + 1, none⟩ = some (.slice ao xs.length c) ∧ w'.frozen? ⟨g, o + 1, none⟩ = false ∧ Bk w' fb [.pointer (some ⟨g, o, none⟩)] 142 ∧ CdAt ws (w'.setCell ⟨g, o + 1, none⟩ (.slice (some ⟨gg, 0, none⟩) (xs.length + 1) cap)) p br fb g s a e l cs cur o (xs ++ [z]) (some ⟨gg, 0, none⟩) cap := by
 obtain ⟨h1, h2, h3, h4, h5⟩ := ap; have hr : ∀ j, (Value.slice ao xs.length c).ownBlock = some j → ws.heap.size ≤ j := fun j hj => (h.own.lt j hj).1; have hbk := h.bk.grown q (fun e => by have := hr g e.symm; omega); have hbx := h.bx.grown q (fun e => by have := hr br e.symm; omega); have hfx := h.fx.grown q (fun e => by have := hr fb e.symm; omega); have hrd := h.rd.grown q (fun e => by have := hr p e.symm; omega); have hgx : gg ≠ g := (by have := (own.lt gg rfl).1; omega)
 refine ⟨hbk.cell (List.getElem?_set_self hk), hbk.fr _, hfx, hrd.far (Ne.symm h3) _ _, hbx.far (by omega) _ _, hfx.far (by omega) _ _, ?_, ?_, ?_⟩
 · have := hbk.set (o + 1) (.slice (some ⟨gg, 0, none⟩) (xs.length + 1) cap); rw [List.set_set] at this; rw [List.length_append]; exact this
 · exact ((h.wr.newer (Wr.of_grown (S := fun j => (Value.slice ao xs.length c).ownBlock = some j) q fun j e _ => e) (fun j e hj => by have := hr j e; omega))).set (S := Spq p g) (.inr rfl) _ _
 · rw [List.length_append, List.map_append]; exact own_same own fun j hj => Below.heap_setCell _ _ _ _ (fun e => by have hj' : some gg = some j := hj; cases hj'; exact hgx e)
end
def XD (ws w : World) (p br fb g : Nat) (s : ByteArray) (a e l : Int) (cs cur : List Value) (o : Nat) (xs : List Int) (ao : Option Addr) (c : Nat) (z : Int) : Nat → Value → World → Prop
 | 0, _, w' => w' = w.drew
 | 1, v, w' => ∃ b, v = .slice (some ⟨b, 0, none⟩) 1 1 ∧ w'.heap[b]? = some (.cells #[.int .i64 z] 3 (0, 0)) ∧ CdAt ws w' p br fb g s a e l cs cur o xs ao c
 | _, v, w' => ∃ gg cap, v = .slice (some ⟨gg, 0, none⟩) (xs.length + 1) cap ∧ w'.cell? ⟨g, o + 1, none⟩ = some (.slice ao xs.length c) ∧ w'.frozen? ⟨g, o + 1, none⟩ = false ∧ Bk w' fb [.pointer (some ⟨g, o, none⟩)] 142 ∧ CdAt ws (w'.setCell ⟨g, o + 1, none⟩ v) p br fb g s a e l cs cur o (xs ++ [z]) (some ⟨gg, 0, none⟩) cap
theorem XD.cells {ws w : World} {p br fb g : Nat} {s : ByteArray} {a e l : Int} {cs cur : List Value} {o : Nat} {xs : List Int} {ao : Option Addr} {c : Nat} {z : Int} (h : CdAt ws w p br fb g s a e l cs cur o xs ao c) (ap : Ap ws p br fb g) (hk : o + 1 < cur.length) : ∀ k v w', XD ws w p br fb g s a e l cs cur o xs ao c z k v w' →
 w'.cell? ⟨fb, 0, none⟩ = some (.pointer (some ⟨g, o, none⟩)) ∧ w'.cell? ⟨g, o + 1, none⟩ = some (.slice ao xs.length c) := by
 intro k v w' hX; have go : ∀ {w' : World}, CdAt ws w' p br fb g s a e l cs cur o xs ao c → w'.cell? ⟨fb, 0, none⟩ = some (.pointer (some ⟨g, o, none⟩)) ∧ w'.cell? ⟨g, o + 1, none⟩ = some (.slice ao xs.length c) := fun h => ⟨h.fx.cell rfl, h.bk.cell (List.getElem?_set_self hk)⟩
 match k, hX with
 | 0, hX => subst hX; exact go (h.below ap (Below.refl _ _).drew)
 | 1, ⟨b, _, _, h1⟩ => exact go h1
 | k + 2, ⟨gg, cap, _, h1, _, h2, _⟩ => exact ⟨h2.cell rfl, h1⟩
theorem rep_snoc (xs : List Int) (i : Nat) (z : Int) : xs ++ List.replicate (i + 1) z = (xs ++ List.replicate i z) ++ [z] := by rw [List.replicate_succ', List.append_assoc]
set_option maxRecDepth 100000 in
set_option maxHeartbeats 16000000 in
theorem cd81_any {ws w : World} {p br fb g : Nat} {s : ByteArray} {a e l : Nat} {cs cur : List Value} {o : Nat} {xs : List Int} {ao : Option Addr} {c : Nat} (h : CdAt ws w p br fb g s (a : Int) (e : Int) (l : Int) cs cur o xs ao c)
 (ap : Ap ws p br fb g) (hkl : o + 1 < cur.length) (hs : s.size ≤ 262144) (he : e ≤ s.size) (ha : a ≤ e) (hx : xs.length ≤ 256) :
 Calls Tryz.prog 139 #[.pointer (some ⟨br, 0, none⟩), .pointer (some ⟨fb, 0, none⟩)] w fun e' w' =>
  (∃ v a', gRun (strl s) e xs a = .ok (v, a') ∧ a' ≤ e ∧ e' = .returned (.tuple #[]) ∧ v.length ≤ 256 ∧ ∃ ao' c', CdAt ws w' p br fb g s ((a' : Nat) : Int) (e : Int) (l : Int) cs cur o v ao' c') ∨
  (∃ n, gRun (strl s) e xs a = .error n ∧ e' = .panicked (flt n) ∧ Wr (Spq p g) ws w') := by
 obtain ⟨i3, hi3, hz3, hs3, hb3⟩ := info_parts info3; obtain ⟨G2, hG0⟩ : ∃ G2, gRun (strl s) e xs a = G2 := ⟨_, rfl⟩
 rw [hG0]; replace hG0 := zh hG0; have c0 := h.bx.cell (j := 0) rfl; replace h := zh h; go_enter Tryz.func139, Tryz.ntmps139; go_wp2_with fail; refine (u_any h.out.rd hs he ha).mono ?_; rintro e' w1 ⟨hV, ⟨n, a1, v', hg, ha1, ⟨rfl, hn0, hn1⟩, rfl, hR⟩ | ⟨n, hg, rfl⟩⟩
 rotate_left
 · exact ⟨rfl, .inr ⟨n, by rw [← hG0.out]; unfold gRun; rw [rd_err hg], rfl, h.out.wr.trans (hV.mono fun _ e => .inl e)⟩⟩
 obtain ⟨m, rfl⟩ : ∃ m : Nat, n = (m : Int) := ⟨n.toNat, by omega⟩
 have hG1 : G2 = if (m : Int) ≤ 256 - (xs.length : Int) then (gTyp (strl s) e a1).bind fun t => .ok (xs ++ List.replicate m t.1, t.2) else .error 3 := by rw [← hG0.out]; unfold gRun; rw [rd_bind hg]; rw [show ((m : Int)).toNat = m from Int.toNat_natCast m]
 replace hG1 := zh hG1; have h1 := h.out.rdd ap hV hR; clear hg hG0 hV hR h c0; have c1 := h1.fx.cell (j := 0) rfl; have cg := h1.bk.cell (List.getElem?_set_self hkl); have hwl : IntKind.i64.wrap (256 - (xs.length : Int)) = 256 - (xs.length : Int) := wid64 _ (by omega) (by omega); replace h1 := zh h1
 by_cases hm : (m : Int) ≤ 256 - (xs.length : Int)
 rotate_left
 · have hb : decide ((m : Int) ≤ 256 - (xs.length : Int)) = false := decide_eq_false hm; have hf : G2 = .error 3 := (by rw [hG1.out, if_neg hm])
   replace hf := zh hf; replace hm := zh hm; go_wp2_with fail; refine (dwant_no 3 _).mono ?_; rintro e' w2 ⟨rfl, rfl⟩; exact ⟨rfl, .inr ⟨3, hf.out, rfl, h1.out.wr⟩⟩
 have hb : decide ((m : Int) ≤ 256 - (xs.length : Int)) = true := decide_eq_true hm; have hG2 : G2 = (gTyp (strl s) e a1).bind fun t => .ok (xs ++ List.replicate m t.1, t.2) := (by rw [hG1.out, if_pos hm])
 replace hG2 := zh hG2; have hml : m + xs.length ≤ 256 := (by omega)
 replace hm := zh hm; clear hG1; go_wp2_with fail; refine (dwant_yes 3 _).mono ?_; rintro e' w2 ⟨rfl, rfl⟩; clear hb c1 cg hwl; have c0 := h1.out.bx.cell (j := 0) rfl; go_wp2_with fail; refine (typ_any h1.out.rd hs he).mono ?_; rintro e' w3 ⟨hV, ⟨z, a3, v', hg, ha3, ⟨rfl, hz0, hz1⟩, rfl, hR⟩ | ⟨n, hg, rfl⟩⟩
 rotate_left
 · exact ⟨rfl, .inr ⟨n, by rw [hG2.out, rd_err hg], rfl, h1.out.wr.trans (hV.mono fun _ e => .inl e)⟩⟩
 have hG3 : G2 = .ok (xs ++ List.replicate m z, a3) := (by rw [hG2.out, rd_bind hg])
 replace hG3 := zh hG3; have h3 := h1.out.rdd ap hV hR; replace h3 := zh h3; clear hg hG2 hV hR h1 c0; obtain ⟨ai, hai⟩ : ∃ ai : Int, ai = (a3 : Int) := ⟨_, rfl⟩
 rw [← hai] at h3; replace hai := zh hai; go_wp2_with fail
 go_loopg [18] m (fun k' v18 wr => ∃ (i : Nat), v18 = .int .i64 i ∧ i + k' = m ∧ Hid (∃ ao c, CdAt ws wr p br fb g s ai (e : Int) (l : Int) cs cur o (xs ++ List.replicate i z) ao c))
 case atStart => exact ⟨0, rfl, by omega, zh ⟨ao, c, by rw [List.replicate_zero, List.append_nil]; exact h3.out⟩⟩
 case round =>
  obtain ⟨i, rfl, hik, hC⟩ := hrel; clear h3; obtain ⟨ao, c, hC⟩ := hC.out
  by_cases hlt : i < m
  · obtain ⟨k1, rfl⟩ : ∃ k1, gk = k1 + 1 := ⟨gk - 1, by omega⟩
    have hi : (i : Int) < (m : Int) := (by omega)
    have hw : IntKind.i64.wrap ((i : Int) + 1) = (i : Int) + 1 := wid64 _ (by omega) (by omega); obtain ⟨ys, hys⟩ : ∃ ys, ys = xs ++ List.replicate i z := ⟨_, rfl⟩
    rw [← hys] at hC; have hyl : ys.length < 4096 := (by rw [hys, List.length_append, List.length_replicate]; omega)
    replace hys := zh hys; have hcells := zh (XD.cells (z := z) hC ap hkl); replace hC := zh hC
    go_upto_region 5 with (fail)
    refine wpk_then ?_; intro K hK
    go_cut [] from 20 to 29 (fun wx => Hid (∃ ao c, CdAt ws wx p br fb g s ai (e : Int) (l : Int) cs cur o (ys ++ [z]) ao c))
    case first =>
     refine wp_fv _ 31 rfl ?_; refine region_chain hmix 31 10 2 (fun k => match k with | 0 => 6 | 1 => 7 | _ => 10) (fun j => 20 + j) rfl (by kernel_rfl) (by kernel_rfl) (by kernel_rfl) (by kernel_rfl) (fun j => match j with | 0 => .pointer (some ⟨g, o, none⟩) | 1 => .pointer (some ⟨g, o, none⟩) | 2 => .pointer (some ⟨g, o, none⟩) | 3 => .pointer (some ⟨g, o + 1, none⟩) | 4 => .slice ao ys.length c | 5 => .int .i64 z | 8 => .pointer (some ⟨g, o, none⟩) | 9 => .pointer (some ⟨g, o + 1, none⟩) | _ => undef) (XD ws wr p br fb g s ai (e : Int) (l : Int) cs cur o ys ao c z) ?_ ?_ ?_ ?_
     · exact rfl
     · intro i' hi' hn k v f w' hk hX hoth hv; obtain ⟨g0, g1⟩ := hcells.out k v w' hX; clear hX
       match i', hi' with
       | 0, _ => have z0 := fv_get (n := 31) (by decide) (show f 1 = .pointer (some ⟨fb, 0, none⟩) from (hoth 1 (by decide)).trans rfl); refine wpOp_step rfl ?_; intro K' hK'; rw [if_pos (wanted_none rfl)]; go_simp; (try simp only [z0]); (try go_simp); exact hK' _ _ ⟨fv_set _ _, rfl⟩
       | 1, _ => have z0 := fv_get (n := 31) (by decide) (show f 1 = .pointer (some ⟨fb, 0, none⟩) from (hoth 1 (by decide)).trans rfl); refine wpOp_step rfl ?_; intro K' hK'; rw [if_pos (wanted_none rfl)]; go_simp; (try simp only [z0]); (try go_simp); exact hK' _ _ ⟨fv_set _ _, rfl⟩
       | 2, _ => have z0 := fv_get (n := 31) (by decide) (show f 21 = .pointer (some ⟨g, o, none⟩) from hv 1 (by kernel_rfl) (by decide)); refine wpOp_step rfl ?_; intro K' hK'; rw [if_pos (wanted_none rfl)]; go_simp; (try simp only [z0]); (try go_simp); exact hK' _ _ ⟨fv_set _ _, rfl⟩
       | 3, _ => have z0 := fv_get (n := 31) (by decide) (show f 22 = .pointer (some ⟨g, o, none⟩) from hv 2 (by kernel_rfl) (by decide)); refine wpOp_step rfl ?_; intro K' hK'; rw [if_pos (wanted_none rfl)]; go_simp; (try simp only [z0]); (try go_simp); exact hK' _ _ ⟨fv_set _ _, rfl⟩
       | 4, _ => have z0 := fv_get (n := 31) (by decide) (show f 23 = .pointer (some ⟨g, o + 1, none⟩) from hv 3 (by kernel_rfl) (by decide)); refine wpOp_step rfl ?_; intro K' hK'; rw [if_pos (wanted_none rfl)]; go_simp; (try simp only [z0]); (try go_simp); exact hK' _ _ ⟨fv_set _ _, rfl⟩
       | 5, _ => have z0 := fv_get (n := 31) (by decide) (show f 3 = .int .i64 z from (hoth 3 (by decide)).trans rfl); refine wpOp_step rfl ?_; intro K' hK'; rw [if_pos (wanted_none rfl)]; go_simp; (try simp only [z0]); (try go_simp); exact hK' _ _ ⟨fv_set _ _, rfl⟩
       | 6, _ => exact absurd rfl (hn 0 (by decide))
       | 7, _ => exact absurd rfl (hn 1 (by decide))
       | 8, _ => have z0 := fv_get (n := 31) (by decide) (show f 20 = .pointer (some ⟨g, o, none⟩) from hv 0 (by kernel_rfl) (by decide)); refine wpOp_step rfl ?_; intro K' hK'; rw [if_pos (wanted_none rfl)]; go_simp; (try simp only [z0]); (try go_simp); exact hK' _ _ ⟨fv_set _ _, rfl⟩
       | 9, _ => have z0 := fv_get (n := 31) (by decide) (show f 28 = .pointer (some ⟨g, o, none⟩) from hv 8 (by kernel_rfl) (by decide)); refine wpOp_step rfl ?_; intro K' hK'; rw [if_pos (wanted_none rfl)]; go_simp; (try simp only [z0]); (try go_simp); exact hK' _ _ ⟨fv_set _ _, rfl⟩
       | i + 10, h => exact absurd h (by omega)
     · intro k hk v f w' hX hfv hoth hv
       match k, hk with
       | 0, _ => obtain rfl : w' = wr.drew := hX; have z0 := fv_get (n := 31) (by decide) (show f 25 = .int .i64 z from hv 5 (by kernel_rfl) (by decide)); refine wpOp_step rfl ?_; intro K' hK'; rw [if_pos (wanted_none rfl)]; go_simp; (try simp only [z0]); (try go_simp); exact hK' _ _ ⟨_, fv_set _ _, wr.drew.heap.size, rfl, heap_alloc_new _ _, (hC.out.below ap (Below.refl _ _).drew).below ap (Below.alloc (Below.refl _ _) (Nat.le_refl _) _)⟩
       | 1, _ => obtain ⟨b, rfl, hbb, h1⟩ := hX; have z0 := fv_get (n := 31) (by decide) (show f 26 = .slice (some ⟨b, 0, none⟩) 1 1 from hfv (by decide)); have z1 := fv_get (n := 31) (by decide) (show f 24 = .slice ao ys.length c from hv 4 (by kernel_rfl) (by decide)); refine wpOp_step rfl ?_; intro K' hK'; refine step_append_lies _ (by rfl) (.tmp 24) (.tmp 26) 29 (by rfl) ws.heap.size 3 i3 _ 1 8 Tryz.underlying29 hi3 hz3 hs3 hb3 rfl (by omega) (.slice ao ys.length c) ys.length (ys.map (Value.int .i64)) (by exact z1) h1.own ⟨b, 0, none⟩ 1 1 [.int .i64 z] (by exact z0) (by rfl) (World.news_of_block (cs := #[.int .i64 z]) (t := 3) (fr := (0, 0)) hbb) (by intro u hu; simp only [List.mem_cons, List.mem_nil_iff, or_false] at hu; rcases hu with rfl; rfl) (by omega) (by unfold maxLen; omega) (by omega) h1.wr.size w'.heap.size rfl ?_; intro gg cap w5 hown hgrow hat hlt; exact hK' _ _ ⟨_, fv_put _ _, gg, cap, rfl, h1.grown ap hkl hgrow hown⟩
       | k + 2, h => exact absurd h (by omega)
     · intro v f w' hX hfv hoth hv; obtain ⟨gg, cap, rfl, c4, f4, _, hL⟩ := hX; have z0 := fv_get (n := 31) (by decide) (show f 27 = .slice (some ⟨gg, 0, none⟩) (ys.length + 1) cap from hfv (by decide)); have z1 := fv_get (n := 31) (by decide) (show f 29 = .pointer (some ⟨g, o + 1, none⟩) from hv 9 (by decide) (by decide)); refine wpOp_step rfl ?_; intro K' hK'; rw [if_pos (wanted_none rfl)]; go_simp; (try simp only [z0, z1]); (try go_simp); refine hK' _ _ ?_; replace hL := zh hL; rw [ovk_eq (f := f) (ds := [20, 21, 22, 23, 24, 25, 26, 27, 28, 29]) (fun t ht => hoth t (fun j hj e => ht (by subst e; have : j < 10 := hj; simp; omega)))]; clear z0 z1 hfv hv hoth; go_wp2_with fail; go_meet; exact zh ⟨some ⟨gg, 0, none⟩, cap, hL.out⟩
    case rest =>
     refine (hK _ _).2 ?_; clear hK; clear hcells hC; go_wp2_with fail
     go_roundg k1
     case measure => omega
     case rel => exact ⟨i + 1, by push_cast; rfl, by omega, zh (by rw [rep_snoc, ← hys.out]; exact hcut.out)⟩
  · have hi : ¬ (i : Int) < (m : Int) := (by omega)
    obtain rfl : i = m := by omega
    replace hC := zh hC; go_wp2_with fail; go_end0; refine .inl ⟨_, a3, hG3.out, ha3, rfl, by rw [List.length_append, List.length_replicate]; omega, ao, c, ?_⟩; rw [← hai.out]; exact hC.out
def gFn (s : List UInt8) (left e a : Nat) : Got ((List Int × Il) × Nat) := (gCount s e a).bind fun n => (gRuns s e n.1.toNat [] n.2).bind fun l => (gList s e (e + 1) 0 false left l.2).bind fun b => .ok (((l.1, b.1.1), b.1.2.2), b.2)
theorem gFn_acc {s : List UInt8} {left e a : Nat} : gFn s left e a = (gAcc s e a (gRun s e) []).bind fun l => (gList s e (e + 1) 0 false left l.2).bind fun b => .ok (((l.1, b.1.1), b.1.2.2), b.2) := by unfold gFn gAcc; rw [except_assoc]; refine bind_congr fun n _ => ?_; rw [gFold_runs]
structure CJ (w : World) (p br g : Nat) (s : ByteArray) (left : Nat) (cs cur : List Value) (o : Nat) (v : (List Int × Il) × Nat) (b e1 : Nat) (w' : World) (la : Option Addr) (lc : Nat) (ba : Option Addr) (bc : Nat) : Prop where
 rd : RdAt w' p s ((b : Nat) : Int) ((e1 : Nat) : Int) ((v.2 : Nat) : Int) cs
 bx : Bk w' br [.pointer (some ⟨p, 0, none⟩)] 60
 bk : Bk w' g ((cur.set (o + 1) (.slice la v.1.1.length lc)).set (o + 2) (.slice ba v.1.2.len bc)) 83
 wr : Wr (Spq p g) w w'
 li : IntsR (fun b => w.heap.size ≤ b) w' la v.1.1
 sl : SlR (fun b => w.heap.size ≤ b) w' ba v.1.2
 ln : v.1.2.len ≤ 9223372036854775807
 lf : v.2 ≤ left
theorem CdAt.start {w w' : World} {p br fb g : Nat} {s : ByteArray} {a e l : Int} {cs cur : List Value} {o : Nat} (ap : Ap w p br fb g) (hk : cur[o + 1]? = some (.slice none 0 0)) (hbx : Bk w br [.pointer (some ⟨p, 0, none⟩)] 60) (hfx : Bk w fb [.pointer (some ⟨g, o, none⟩)] 142) (hbk : Bk w g cur 83) (q : Wr (· = p) w w') (r : RdAt w' p s a e l cs) : CdAt w w' p br fb g s a e l cs cur o [] none 0 := by
 obtain ⟨h1, h2, h3, h4, h5⟩ := ap; refine ⟨r, hbx.wr q (by omega), hfx.wr q (by omega), ?_, q.mono fun _ e => .inl e, World.ownsRow_nil _ _ _ _⟩
 show Bk w' g (cur.set (o + 1) (.slice none 0 0)) 83
 rw [set_same7 hk]; exact hbk.wr q h3
set_option maxRecDepth 100000 in
set_option maxHeartbeats 16000000 in
theorem cd80_any {w : World} {p br fb g : Nat} {s : ByteArray} {a e left : Nat} {cs cur : List Value} {o : Nat} (hR : RdAt w p s (a : Int) (e : Int) (left : Int) cs) (hbx : Bk w br [.pointer (some ⟨p, 0, none⟩)] 60) (hfx : Bk w fb [.pointer (some ⟨g, o, none⟩)] 142) (hbk : Bk w g cur 83)
 (ap : Ap w p br fb g) (hk1 : cur[o + 1]? = some (.slice none 0 0)) (hk2 : cur[o + 2]? = some (.slice none 0 0)) (hs : s.size ≤ 262144) (he : e ≤ s.size) (ha : a ≤ e) (hl : left ≤ 65536) :
 Calls Tryz.prog 138 #[.pointer (some ⟨br, 0, none⟩), .pointer (some ⟨fb, 0, none⟩)] w fun e' w' =>
  (∃ v b, gFn (strl s) left e a = .ok (v, b) ∧ b ≤ e ∧ e' = .returned (.tuple #[]) ∧ ∃ la lc ba bc, CJ w p br g s left cs cur o v b e w' la lc ba bc) ∨
  (∃ n, gFn (strl s) left e a = .error n ∧ e' = .panicked (flt n) ∧ Wr (Spq p g) w w') := by
 have hkl : o + 1 < cur.length := (List.getElem?_eq_some_iff.1 hk1).1; obtain ⟨G2, hG0⟩ : ∃ G2, gFn (strl s) left e a = G2 := ⟨_, rfl⟩
 rw [hG0]; have hG1 := hG0.symm.trans gFn_acc; replace hG1 := zh hG1; clear hG0; have c0 := hbx.cell (j := 0) rfl; replace hR := zh hR; replace hbx := zh hbx; replace hfx := zh hfx; replace hbk := zh hbk; replace hk1 := zh hk1; replace hk2 := zh hk2; go_enter Tryz.func138, Tryz.ntmps138; go_wp2_with fail
 refine (each_acc (J := fun (x : List Int) a' w' => x.length ≤ 256 ∧ ∃ ao c, CdAt w w' p br fb g s ((a' : Nat) : Int) (e : Int) (left : Int) cs cur o x ao c) (T := fun w' => Wr (Spq p g) w w') (g := gRun (strl s) e) (x0 := []) hR.out hs he ha
  (fun a' w' k r => ⟨by decide, none, 0, CdAt.start ap hk1.out hbx.out hfx.out hbk.out k r⟩) (fun w' k => k.mono fun _ e => .inl e)
  (fun x a' w' ha' ⟨hx, ao, c, hJ⟩ => (cd81_any hJ ap hkl hs he ha' hx).mono fun e' w2 hh => hh.imp (fun ⟨v, b, h1, h2, h3, h4, h5⟩ => ⟨v, b, h1, h2, h3, h4, h5⟩) id) (fun _ => rfl)).mono ?_
 rintro e' w3 (⟨ls, a3, hg, ha3, rfl, hl3, la, lc, hC⟩ | ⟨n, hg, rfl, hV⟩)
 rotate_left
 · exact ⟨rfl, .inr ⟨n, by rw [hG1.out, rd_err hg], rfl, hV⟩⟩
 have hG3 := hG1.out.trans (rd_bind hg); replace hG3 := zh hG3; clear hg hG1 c0; have hb3 := zh hC.bx; have hf3 := zh hC.fx; have hk3 := zh hC.bk; have hW3 := zh hC.wr; have hI3 := zh (ints_own' (B := w.heap.size) hC.own (Nat.le_refl _)); have hR3 := hC.rd; have c0 := hC.bx.cell (j := 0) rfl; have c1 := hC.fx.cell (j := 0) rfl; clear hC; obtain ⟨h1, h2, h3, h4, h5⟩ := ap; have hLs := fun W hRW => list_any s (e + 1) W p a3 e left cs 0 false hRW hs he ha3 (by omega) (by omega) hl; replace hLs := zh hLs; replace hR3 := zh hR3
 go_upto_region 1 with (fail)
 go_region_held2 (fun w' => w'.cell? ⟨br, 0, none⟩ = some (.pointer (some ⟨p, 0, none⟩)) ∧ w'.cell? ⟨fb, 0, none⟩ = some (.pointer (some ⟨g, o, none⟩))) (go_keep)
  ((go_at_call 140; refine (hLs.out _ hR3.out.drew).mono ?_; rintro e' w4 ⟨hV, ⟨il, b, l4, a4, ba, bc, hg, ha4, hl4, rfl, hR4, ln4, sl4⟩ | ⟨n, hg, rfl⟩⟩; rotate_left; exact ⟨rfl, .inr ⟨n, by rw [hG3.out, rd_err hg], rfl, hW3.out.trans ((Wr.refl (Spq p g) w3).drew.trans (hV.mono fun _ e => .inl e))⟩⟩; have hV3 : Wr (· = p) w3 w4 := (Wr.refl (· = p) w3).drew.trans hV; have b4 := hb3.out.wr hV3 (by omega); have f4 := hf3.out.wr hV3 (by omega); have k4 := hk3.out.wr hV3 h3; have k0 := b4.cell (j := 0) rfl; have k1 := f4.cell (j := 0) rfl; have i1 := k4.cell (j := o + 2) (by rw [List.getElem?_set_ne (by omega)]; exact hk2.out); have q1 := k4.fr (o + 2); have k0' : ∀ u, (w4.setCell ⟨g, o + 2, none⟩ u).cell? ⟨br, 0, none⟩ = some (.pointer (some ⟨p, 0, none⟩)) := fun u => so_far k0 (by show g ≠ br; omega); have k1' : ∀ u, (w4.setCell ⟨g, o + 2, none⟩ u).cell? ⟨fb, 0, none⟩ = some (.pointer (some ⟨g, o, none⟩)) := fun u => so_far k1 (by show g ≠ fb; omega); replace b4 := zh b4; replace k4 := zh k4; replace hg := zh hg; replace hR4 := zh hR4; replace sl4 := zh sl4; replace hV3 := zh hV3; clear hV))
 all_goals
  go_wp2_with fail; go_end0; have hsz : w.heap.size ≤ w3.drew.heap.size := hW3.out.size; refine .inl ⟨((ls, il), l4), a4, by rw [hG3.out, rd_bind hg.out], ha4, rfl, la, lc, ba, bc, hR4.out.far (Ne.symm h3) _ _, b4.out.far (by omega) _ _, k4.out.set (o + 2) _, (hW3.out.trans (hV3.out.mono fun _ e => .inl e)).set (S := Spq p g) (.inr rfl) _ _, ?_, (sl4.out.low hsz).keep (keeps_set (by omega)), ln4, hl4⟩; exact (hI3.out.keep (keeps_wr hV3.out (by omega))).keep (keeps_set (by omega))
end Go.Proofs.YtkbfjkbokifgkaaGreatDoor
