/- Gh -/
import Derived.Test.YtanpjbbhhofkfaaGreatDoorGg
import Derived.Deep.RegionLaw
namespace Go.Proofs.YtanpjbbhhofkfaaGreatDoor
open Go.RowKit
set_option linter.unusedVariables false
set_option linter.unusedSimpArgs false
set_option maxRecDepth 100000
set_option maxHeartbeats 4000000
def fo {α : Type} (f : α → WS → WS) (l : List α) (s : WS) : WS := l.foldl (fun s x => f x s) s
theorem fo_take {α : Type} {f : α → WS → WS} {l : List α} {i : Nat} {x : α} (hx : l[i]? = some x) (s : WS) : fo f (l.take (i + 1)) s = f x (fo f (l.take i) s) := by rw [fo, List.take_add_one, hx, List.foldl_append]; rfl
def cs {α : Type} (c : α → Nat) (l : List α) : Nat := (l.map c).sum
theorem cs_take {α : Type} (c : α → Nat) {l : List α} {i : Nat} {x : α} (hx : l[i]? = some x) : cs c (l.take i) + c x ≤ cs c l := by
 have h : l = l.take i ++ x :: l.drop (i + 1) := by obtain ⟨hi, he⟩ := List.getElem?_eq_some_iff.1 hx; rw [← he, ← List.drop_eq_getElem_cons hi, List.take_append_drop]
 have h2 : cs c l = cs c (l.take i) + (c x + cs c (l.drop (i + 1))) := by have := congrArg (cs c) h; rw [this]; simp [cs]
 omega
theorem fo_n {α : Type} {f : α → WS → WS} {c : α → Nat} : ∀ (l : List α) (s : WS), (∀ x ∈ l, InR (f x) (c x)) → s.n ≤ (fo f l s).n ∧ (fo f l s).n ≤ s.n + cs c l
 | [], s, _ => ⟨Int.le_refl _, by simp [fo, cs]⟩
 | x :: l, s, h => by
   have h1 := h x (List.mem_cons_self ..) s; have h2 := fo_n l (f x s) (fun y hy => h y (List.mem_cons_of_mem _ hy)); have e : fo f (x :: l) s = fo f l (f x s) := rfl; have e2 : cs c (x :: l) = c x + cs c l := (by simp [cs])
   rw [e, e2]; omega
theorem fo_bd {α : Type} {f : α → WS → WS} {c : α → Nat} {l : List α} {s : WS} (h : ∀ x ∈ l, InR (f x) (c x)) {i : Nat} {x : α} (hx : l[i]? = some x) : s.n ≤ (fo f (l.take i) s).n ∧ (fo f (l.take i) s).n + c x ≤ s.n + cs c l := by have h1 := fo_n (f := f) (c := c) (l.take i) s (fun y hy => h y (List.mem_of_mem_take hy)); have h2 := cs_take c hx; omega
def lg (l : List UInt8) (s : WS) : WS := put l (put (uB l.length) s)
def wEx (l : Il) (s : WS) : WS := put [b1 11] (wl l s)
def wLim (t : Int × Int × Bool) (s : WS) : WS := if t.2.2 = true then put (uB t.2.1) (put (uB t.1) (put [b1 1] s)) else put (uB t.1) (put [b1 0] s)
theorem WAt.far {N p : Nat} {w : World} {mv : List Value} {v : Value} {s : WS} (h : WAt N p w mv v s) (n c : Nat) : ∀ g, (Value.slice (some ⟨w.heap.size, 0, none⟩) n c).ownBlock = some g → v.ownBlock ≠ some g := fun g e e2 => by
 have := (h.own.lt g e2).2; have e' : w.heap.size = g := (by simpa [Value.ownBlock] using e)
 omega
theorem InR.put (t : List UInt8) : InR (put t) t.length := fun s => by rw [put_n]; omega
theorem InR.puts (c : List (List UInt8)) : InR (puts c) (tot c) := fun s => by rw [puts_n]; omega
theorem InR.mono {f : WS → WS} {c d : Nat} (h : InR f c) (hc : c ≤ d) : InR f d := fun s => by have := h s; omega
theorem InR.comp {f g : WS → WS} {c d : Nat} (hf : InR f c) (hg : InR g d) : InR (fun s => g (f s)) (c + d) := fun s => by
 have := hf s; have := hg (f s)
 show s.n ≤ (g (f s)).n ∧ (g (f s)).n ≤ s.n + (c + d : Nat)
 omega
theorem InR.u (n : Int) : InR (Go.Proofs.YtanpjbbhhofkfaaGreatDoor.put (uB n)) 10 := (InR.put _).mono (uB_len n)
theorem InR.b (n : Int) : InR (Go.Proofs.YtanpjbbhhofkfaaGreatDoor.put [b1 n]) 1 := InR.put _
theorem InR.lg (l : List UInt8) : InR (lg l) (10 + l.length) := (InR.u _).comp (InR.put l)
theorem InR.ex (l : Il) (ok : nOk l) : InR (wEx l) (cl l + 1) := (wl_n l ok).comp (InR.b 11)
theorem InR.lim (t : Int × Int × Bool) : InR (wLim t) 21 := by
 unfold wLim; split
 · exact ((InR.b 1).comp ((InR.u _).comp (InR.u _)))
 · exact ((InR.b 0).comp (InR.u _)).mono (by omega)
theorem bytes_of_str (w : World) (t : ByteArray) : ∃ c w', (convert 9 47 (.string t)).run Tryz.prog w = .ok (.slice (some ⟨w.heap.size, 0, none⟩) t.size c) w' ∧ Below w.heap.size w w' ∧ BIn w' (.slice (some ⟨w.heap.size, 0, none⟩) t.size c) (strl t) ∧ w'.heap.size = w.heap.size + 1 := by refine ⟨_, _, run_bytes_of_string w 9 47 5 t Tryz.underlying9 Tryz.underlying47 Tryz.underlying5, (Below.refl _ _).drew.alloc (Nat.le_refl _) _, .inr ⟨w.heap.size, _, rfl, fun j hj => ?_⟩, by simp⟩; have := World.cell?_alloc_mark w.drew (bytesRow t (grownCap w t.size 0 5)) 5 ((bytesRow t (grownCap w t.size 0 5)).size, (bytesRow t (grownCap w t.size 0 5)).size + 1) j; exact this.trans (bytesRow_at t _ j (by simpa [strl] using hj))
theorem wlimits_any {N p : Nat} {w : World} {mv : List Value} {v : Value} {s : WS} (h : WAt N p w mv v s) (mn mx : Int) (has : Bool) (hs : s.n + 21 ≤ 4611686018427387904) :
 Calls Tryz.prog 42 #[.pointer (some ⟨p, 0, none⟩), .agg #[.int .i64 mn, .int .i64 mx, .bool has]] w fun e w' => e = .returned (.tuple #[]) ∧ WOut N p w mv v (wLim (mn, mx, has) s) w' := by
 have hu1 := uB_len mn; have hu2 := uB_len mx; obtain ⟨q, hq⟩ : ∃ q, w.heap.size = q := ⟨_, rfl⟩
 obtain ⟨wA, hwA⟩ : ∃ wA, wA = w.alloc (.cells #[.int .i64 mn, .int .i64 mx, .bool has] 43) := ⟨_, rfl⟩
 have hbel : Below w.heap.size w wA := (by rw [hwA]; exact (Below.refl _ _).alloc (Nat.le_refl _) _)
 have hqp := zh (show q ≠ p by have := h.lt; omega); have hqv := zh (show v.ownBlock ≠ some q from fun e => by have := (h.own.lt q e).2; omega); have hbx : Box wA q #[.int .i64 mn, .int .i64 mx, .bool has] := (by rw [hwA, ← hq]; exact box_new w _ _)
 have h0 := zh (h.below hbel); have t0' := zh (Tr.of_below (p := p) (v := v) hbel); have t0 := zh (Tr.refl p v wA); have p2 : wA.cell? ⟨q, 2, none⟩ = some (.bool has) := hbx 2 _ rfl; replace hbx := zh hbx; clear h hbel; go_enter Tryz.func42, Tryz.ntmps42; cases has
 · rw [hwA] at p2; go_wp2_with fail; rw [← hwA]; clear p2 hwA; refine (byte_any h0.out 0 (by omega)).mono ?_; rintro e w1 ⟨rfl, v1, hh, tt⟩; have h1 := zh hh; have t1 := zh (t0.out.trans tt); clear hh tt; have p0 : w1.cell? ⟨q, 0, none⟩ = some (.int .i64 mn) := (t1.out.box hqp.out hqv.out hbx.out) 0 _ rfl; go_wp2_with fail; refine (u_any h1.out mn (by rw [put_n]; simp only [List.length_cons, List.length_nil]; omega)).mono ?_; rintro e w2 ⟨rfl, ho⟩; clear p0; go_wp2; refine bodyPost_ret (results_none rfl _ _ _) rfl ?_; exact ⟨rfl, WOut.trans (t0'.out.trans t1.out) ho⟩
 · rw [hwA] at p2; go_wp2_with fail; rw [← hwA]; clear p2 hwA; refine (byte_any h0.out 1 (by omega)).mono ?_; rintro e w1 ⟨rfl, v1, hh, tt⟩; have h1 := zh hh; have t1 := zh (t0.out.trans tt); clear hh tt; have p0 : w1.cell? ⟨q, 0, none⟩ = some (.int .i64 mn) := (t1.out.box hqp.out hqv.out hbx.out) 0 _ rfl; go_wp2_with fail; refine (u_any h1.out mn (by rw [put_n]; simp only [List.length_cons, List.length_nil]; omega)).mono ?_; rintro e w2 ⟨rfl, v2, hh, tt⟩; have h2 := zh hh; have t2 := zh (t1.out.trans tt); clear hh tt p0; have p1 : w2.cell? ⟨q, 1, none⟩ = some (.int .i64 mx) := (t2.out.box hqp.out hqv.out hbx.out) 1 _ rfl; go_wp2_with fail; refine (u_any h2.out mx (by rw [put_n, put_n]; simp only [List.length_cons, List.length_nil]; omega)).mono ?_; rintro e w3 ⟨rfl, ho⟩; clear p1; go_wp2; go_end0; exact ⟨rfl, WOut.trans (t0'.out.trans t2.out) ho⟩
theorem one_view {w0 w : World} {p q : Nat} {v : Value} {op x y n : Int} {ls : List Int} {body els : Il} {u4 u5 u6 : Option Addr} {r4 r5 r6 : Nat} (hv : Vw w0 p v w) (hb : Box w q #[.int .i64 op, .int .i64 x, .int .i64 y, .int .i64 n, .slice u4 ls.length r4, .slice u5 body.len r5, .slice u6 els.len r6]) (hp : q ≠ p) (hq : v.ownBlock ≠ some q)
 (i4 : IntsIn w0 u4 ls) (l5 : body.len ≤ 9223372036854775807) (i5 : body = .nil ∨ ∃ b2 o2, u5 = some ⟨b2, o2, none⟩ ∧ IlAt w0 b2 o2 body) (l6 : els.len ≤ 9223372036854775807) (i6 : els = .nil ∨ ∃ b2 o2, u6 = some ⟨b2, o2, none⟩ ∧ IlAt w0 b2 o2 els) :
 ∃ V, Vw V p v w ∧ IlIn V (some ⟨q, 0, none⟩) 0 (Il.cons op x y n ls body els .nil) := by
 obtain ⟨V, hV⟩ : ∃ V : World, V = { w with heap := (w.heap.setIfInBounds p (.cells #[] 0 (0, 0))).setIfInBounds (v.ownBlock.getD p) (.cells #[] 0 (0, 0)) } := ⟨_, rfl⟩
 have far : ∀ k, k ≠ p → v.ownBlock ≠ some k → V.heap[k]? = w.heap[k]? := fun k hk hk2 => by
  rw [hV]; simp only; rw [Array.getElem?_setIfInBounds_ne, Array.getElem?_setIfInBounds_ne (fun e => hk e.symm)]; intro e; cases ho : v.ownBlock with
  | none => rw [ho] at e; exact hk e.symm
  | some g => rw [ho] at e hk2; exact hk2 (by rw [← e]; rfl)
 have near : ∀ a u, V.cell? a = some u → a.block ≠ p ∧ v.ownBlock ≠ some a.block := fun a u hc => by
  have hnone : ∀ k, (k = p ∨ v.ownBlock = some k) → V.heap[k]? = none ∨ V.heap[k]? = some (.cells #[] 0 (0, 0)) := fun k hk => by
   rcases Nat.lt_or_ge k V.heap.size with hlt | hge
   · right; rw [hV] at hlt ⊢; simp only [Array.size_setIfInBounds] at hlt ⊢
     by_cases e : v.ownBlock.getD p = k
     · rw [e, Array.getElem?_setIfInBounds_self_of_lt (by simpa using hlt)]
     · rw [Array.getElem?_setIfInBounds_ne e]
       rcases hk with rfl | hk
       · rw [Array.getElem?_setIfInBounds_self_of_lt hlt]
       · rw [hk] at e; exact absurd rfl e
   · left; exact Array.getElem?_eq_none hge
  have hno : ∀ k, (k = p ∨ v.ownBlock = some k) → a.block = k → False := fun k hk e => by
   have h0 := hnone k hk; rw [← e] at h0; unfold World.cell? at hc
   rcases h0 with h0 | h0
   · rw [h0] at hc; simp at hc
   · rw [h0] at hc; split at hc <;> simp_all
  exact ⟨fun e => hno p (.inl rfl) e, fun e => hno a.block (.inr e) rfl⟩
 have hVw : Vw V p v w := fun a u hc => by
  obtain ⟨h1, h2⟩ := near a u hc; exact ⟨(World.cell?_of_block (far a.block h1 h2)).symm.trans hc, h1, h2⟩
 have up : ∀ a u, w0.cell? a = some u → V.cell? a = some u := fun a u hc => by
  obtain ⟨h1, h2, h3⟩ := hv a u hc; exact (World.cell?_of_block (far a.block h2 h3)).trans h1
 have c : ∀ j u, (#[.int .i64 op, .int .i64 x, .int .i64 y, .int .i64 n, .slice u4 ls.length r4, .slice u5 body.len r5, .slice u6 els.len r6] : Array Value)[j]? = some u → V.cell? ⟨q, j, none⟩ = some u := fun j u hu => (World.cell?_of_block (far q hp hq)).trans (hb j u hu); refine ⟨V, hVw, .inr ⟨q, 0, rfl, ?_⟩⟩; refine ⟨⟨c 0 _ rfl, c 1 _ rfl, c 2 _ rfl, c 3 _ rfl⟩, ⟨u4, r4, c 4 _ rfl, i4.keep up⟩, ⟨u5, r5, c 5 _ rfl, l5, ?_⟩, ⟨u6, r6, c 6 _ rfl, l6, ?_⟩, trivial⟩
 · rcases i5 with e | ⟨b2, o2, e, h⟩
   · exact .inl e
   · exact .inr ⟨b2, o2, e, IlAt.keep up _ _ _ h⟩
 · rcases i6 with e | ⟨b2, o2, e, h⟩
   · exact .inl e
   · exact .inr ⟨b2, o2, e, IlAt.keep up _ _ _ h⟩
theorem infoE3 : (Tryz.prog.info? 3).map (fun i => (i.zero, i.size, i.bytes)) = some (some (.int .i64 0), 1, 8) := by kernel_rfl
theorem infoE3_parts : ∃ i, Tryz.prog.info? 3 = some i ∧ i.zero = some (.int .i64 0) ∧ i.size = 1 ∧ i.bytes = 8 := by
 have h := infoE3; cases hi : Tryz.prog.info? 3 with
 | none => rw [hi] at h; cases h
 | some i => rw [hi] at h; simp only [Option.map_some, Option.some.injEq, Prod.mk.injEq] at h; exact ⟨i, rfl, h.1, h.2.1, h.2.2⟩
def ic (l : List Int) : List Value := l.map fun x => .int .i64 x
theorem ic_append (l t : List Int) : ic (l ++ t) = ic l ++ ic t := by simp [ic]
theorem ic_length (l : List Int) : (ic l).length = l.length := by simp [ic]
theorem ic_one (x : Int) : ic [x] = [.int .i64 x] := rfl
theorem own_set {w : World} {base n : Nat} {e : TypeId} {g cap : Nat} {xs : List Value} (h : w.ownsRow base e 1 (.slice (some ⟨g, 0, none⟩) n cap) n xs) (j : Nat) (u : Value) : (w.setCell ⟨g, j, none⟩ u).ownsRow base e 1 (.slice (some ⟨g, 0, none⟩) n cap) n (xs.set j u) := by
 refine ⟨by rw [List.length_set]; exact h.1, ?_⟩
 rcases h.2 with ⟨e1, _⟩ | ⟨g', cap', cur, e1, hg, hh, h1, h2, h3, h4⟩
 · cases e1
 · cases e1; refine .inr ⟨g, cap, cur.setIfInBounds j u, rfl, hg, heap_setCell_same w g j _ _ _ hh, h1, h2, by rw [Array.size_setIfInBounds]; exact h3, ?_⟩; rw [Array.toList_setIfInBounds, ← h4, List.take_set]
theorem own_free {w : World} {base n : Nat} {e : TypeId} {g cap : Nat} {xs : List Value} (h : w.ownsRow base e 1 (.slice (some ⟨g, 0, none⟩) n cap) n xs) (j : Nat) : w.frozen? ⟨g, j, none⟩ = false := by
 rcases h.2 with ⟨e1, _⟩ | ⟨g', cap', cur, e1, hg, hh, _⟩
 · cases e1
 · cases e1; exact frozen_of_row w g j _ _ hh
def rstep (r : List (Nat × Int)) (x : Int) : List (Nat × Int) :=
 match r with
 | [] => [(1, x)]
 | (c, t) :: r => if t = x then (c + 1, t) :: r else (1, x) :: (c, t) :: r
def rns (l : List Int) : List (Nat × Int) := l.foldl rstep []
def runs (l : List Int) : List (Nat × Int) := (rns l).reverse
def psum (R : List (Nat × Int)) : Nat := (R.map (·.1)).sum
def endsL (R : List (Nat × Int)) : List Int := (List.range R.length).map fun j => ((psum (R.take (j + 1)) : Nat) : Int)
theorem rns_take {l : List Int} {i : Nat} {x : Int} (hx : l[i]? = some x) : rns (l.take (i + 1)) = rstep (rns (l.take i)) x := by rw [rns, List.take_add_one, hx, List.foldl_append]; rfl
theorem psum_snoc (R : List (Nat × Int)) (q : Nat × Int) : psum (R ++ [q]) = psum R + q.1 := by simp [psum]
theorem endsL_length (R : List (Nat × Int)) : (endsL R).length = R.length := by simp [endsL]
theorem endsL_snoc (R : List (Nat × Int)) (q : Nat × Int) : endsL (R ++ [q]) = endsL R ++ [((psum R + q.1 : Nat) : Int)] := by
 unfold endsL; rw [List.length_append, List.length_singleton, List.range_succ, List.map_append]; congr 1
 · apply List.map_congr_left; intro j hj; have := List.mem_range.1 hj; rw [List.take_append_of_le_length (by omega)]
 · rw [List.map_singleton, List.take_of_length_le (by simp), psum_snoc]
theorem endsL_at {R : List (Nat × Int)} {j : Nat} (hj : j < R.length) : (endsL R)[j]? = some ((psum (R.take (j + 1)) : Nat) : Int) := by unfold endsL; rw [List.getElem?_map, List.getElem?_range hj]; rfl
theorem rns_known (l : List Int) : ∀ i, i ≤ l.length → psum (rns (l.take i)).reverse = i ∧ (rns (l.take i)).length ≤ i ∧ (∀ j q, (rns (l.take i)).reverse[j]? = some q → l[psum ((rns (l.take i)).reverse.take j)]? = some q.2) ∧ ((i = 0 ∧ rns (l.take i) = []) ∨ ∃ k c t r, i = k + 1 ∧ l[k]? = some t ∧ rns (l.take i) = (c, t) :: r)
 | 0, _ => by
   rw [List.take_zero]; exact ⟨rfl, Nat.le_refl _, fun j q h => by simp [rns] at h, .inl ⟨rfl, rfl⟩⟩
 | i + 1, hi => by
   obtain ⟨x, hx⟩ : ∃ x, l[i]? = some x := ⟨_, List.getElem?_eq_getElem (by omega)⟩
   obtain ⟨h1, h2, h3, h4⟩ := rns_known l i (by omega); rw [rns_take hx]; generalize rns (l.take i) = rr at h1 h2 h3 h4 ⊢
   have new : ∀ rr' : List (Nat × Int), rr' = rr → psum ((1, x) :: rr').reverse = i + 1 ∧ ((1, x) :: rr').length ≤ i + 1 ∧ (∀ j q, ((1, x) :: rr').reverse[j]? = some q → l[psum (((1, x) :: rr').reverse.take j)]? = some q.2) := by
    rintro rr' rfl; rw [List.reverse_cons]; refine ⟨by rw [psum_snoc, h1], by simpa using h2, fun j q hq => ?_⟩
    by_cases hj : j < rr'.reverse.length
    · rw [List.getElem?_append_left hj] at hq; rw [List.take_append_of_le_length (by omega)]; exact h3 j q hq
    · have hlt := (List.getElem?_eq_some_iff.1 hq).1; rw [List.length_append, List.length_singleton] at hlt; have hje : j = rr'.reverse.length := (by omega)
      subst hje; rw [List.getElem?_append_right (Nat.le_refl _), Nat.sub_self] at hq; cases hq; rw [List.take_left, h1]; exact hx
   rcases h4 with ⟨rfl, rfl⟩ | ⟨k, c, t, r, rfl, hk, rfl⟩
   · obtain ⟨a1, a2, a3⟩ := new [] rfl; exact ⟨a1, a2, a3, .inr ⟨0, 1, x, [], rfl, hx, rfl⟩⟩
   · unfold rstep
     by_cases he : t = x
     · subst he; simp only [if_pos]; rw [List.reverse_cons] at h1 h3 ⊢; rw [psum_snoc] at h1; refine ⟨by rw [psum_snoc]; simp only at h1 ⊢; omega, by simpa using Nat.le_succ_of_le h2, fun j q hq => ?_, .inr ⟨k + 1, c + 1, t, r, rfl, hx, rfl⟩⟩
       by_cases hj : j < r.reverse.length
       · rw [List.getElem?_append_left hj] at hq; rw [List.take_append_of_le_length (by omega)]; have := h3 j q (by rw [List.getElem?_append_left hj]; exact hq); rw [List.take_append_of_le_length (by omega)] at this; exact this
       · have hlt := (List.getElem?_eq_some_iff.1 hq).1; rw [List.length_append, List.length_singleton] at hlt; have hje : j = r.reverse.length := (by omega)
         subst hje; rw [List.getElem?_append_right (Nat.le_refl _), Nat.sub_self] at hq; cases hq; have := h3 r.reverse.length (c, t) (by rw [List.getElem?_append_right (Nat.le_refl _), Nat.sub_self]; rfl); rw [List.take_left] at this ⊢; exact this
     · simp only [if_neg he]; obtain ⟨a1, a2, a3⟩ := new _ rfl; exact ⟨a1, a2, a3, .inr ⟨k + 1, 1, x, _, rfl, hx, rfl⟩⟩
theorem psum_take_le (R : List (Nat × Int)) (j : Nat) : psum (R.take j) ≤ psum R := by
 have h : psum R = psum (R.take j) + psum (R.drop j) := by unfold psum; rw [← List.sum_append, ← List.map_append, List.take_append_drop]
 omega
def locF (q : Nat × Int) : List (List UInt8) := [uB q.1, [b1 q.2]]
def locC (l : List Int) : List (List UInt8) := uB (runs l).length :: (runs l).flatMap locF
theorem runs_len (l : List Int) : (runs l).length ≤ l.length := by have := (rns_known l l.length (Nat.le_refl _)).2.1; rw [List.take_length] at this; simpa [runs] using this
theorem loc_tot : ∀ R : List (Nat × Int), tot (R.flatMap locF) ≤ 11 * R.length
 | [] => by simp [tot]
 | q :: R => by
   rw [List.flatMap_cons, tot_append]; have := loc_tot R; have := uB_len q.1; simp only [locF, tot, List.length_cons, List.length_nil]; omega
theorem locC_tot (l : List Int) : tot (locC l) ≤ 10 + 11 * l.length := by have := loc_tot (runs l); have := runs_len l; have := uB_len (runs l).length; simp only [locC, tot]; omega
theorem loc_take {R : List (Nat × Int)} {j : Nat} {q : Nat × Int} (hq : R[j]? = some q) (s : WS) : puts ((R.take (j + 1)).flatMap locF) s = put [b1 q.2] (put (uB q.1) (puts ((R.take j).flatMap locF) s)) := by rw [List.take_add_one, hq, List.flatMap_append, puts_append]; rfl
section
variable {N : Nat} {w0 : World} {p : Nat} {w : World} {mv : List Value} {v : Value} {s : WS}
theorem sStart_any (h : WAt N p w mv v s) (hb : Vw w0 p v w) (l : List Int) (a : Option Addr) (c : Nat) (hj : mv[7]? = some (.slice a l.length c)) (hi : IntsIn w0 a l) (hn : s.n + 10 * l.length ≤ 4611686018427387904) :
 Calls Tryz.prog 22 #[.pointer (some ⟨p, 0, none⟩)] w fun e w' => e = .returned (.bool (decide (0 < l.length))) ∧ WOut N p w mv v (puts (l.map uB) s) w' := by
 obtain ⟨n, hl⟩ : ∃ n, l.length = n := ⟨_, rfl⟩
 have hl63 := hi.1; rw [hl] at hn hl63 hj ⊢; have x0 : w.cell? ⟨p, 7, none⟩ = some (.slice a n c) := h.cm hj; replace h := zh h; replace hb := zh hb; replace hi := zh hi; replace hj := zh hj; replace hl := zh hl; go_enter Tryz.func22, Tryz.ntmps22; go_wp2_with fail; go_loopw [11] (fun vi wr => ∃ (i : Nat) (v2 : Value), i ≤ n ∧ vi = .int .i64 i ∧ Hid (WAt N p wr mv v2 (puts ((l.take i).map uB) s)) ∧ Hid (Tr p v v2 w wr)) (fun vi _ => n - (intOf vi).toNat)
 case atStart => exact ⟨0, v, Nat.zero_le _, rfl, h, zh (Tr.refl _ _ _)⟩
 case round =>
  clear x0; obtain ⟨i, v2, hle, rfl, h2, t2⟩ := hrel
  by_cases hlt : i < n
  · obtain ⟨x, hx⟩ : ∃ x, l[i]? = some x := ⟨_, List.getElem?_eq_getElem (by rw [hl.out]; exact hlt)⟩
    obtain ⟨b, o, rfl, hc⟩ := (hi.out.old (hb.out.tr t2.out)).cell hx; have hst := zh (puts_take (f := uB) hx s); have htot := tot_map uB 10 (fun x => uB_len x) (l.take i); have htl : (l.take i).length = i := (by rw [List.length_take, hl.out]; omega)
    rw [htl] at htot; clear hx htl; go_wp2_with fail; refine (u_any h2.out x (by rw [puts_n]; omega)).mono ?_; rintro e w3 ⟨rfl, v3, h3, t3⟩; rw [← hst.out] at h3; have hfb := zh (t2.out.trans t3); clear hst htot t3; go_wp2; exact ⟨⟨i + 1, v3, by omega, by simp, zh h3, hfb⟩, by simp [intOf]; omega⟩
  · have hin : i = n := (by omega)
    have hv : puts (l.map uB) s = puts ((l.take i).map uB) s := (by rw [List.take_of_length_le (by rw [hl.out]; omega)])
    replace hv := zh hv; have x2 : wr.cell? ⟨p, 7, none⟩ = some (.slice a n c) := h2.out.cm hj.out; go_wp2; go_ret; exact ⟨by simp, by rw [hv.out]; exact ⟨v2, h2.out, t2.out⟩⟩
theorem locals_any (h : WAt N p w mv v s) (hb : Vw w0 p v w) (l : List Int) (a : Option Addr) (c : Nat) (hi : IntsIn w0 a l) (hm : l.length ≤ 65536) (hn : s.n + 10 + 11 * l.length ≤ 4611686018427387904) :
 Calls Tryz.prog 47 #[.pointer (some ⟨p, 0, none⟩), .slice a l.length c] w fun e w' => e = .returned (.tuple #[]) ∧ WOut N p w mv v (puts (locC l) s) w' := by
 obtain ⟨i3, hi3, hz3, hs3, hby3⟩ := infoE3_parts; obtain ⟨n, hl⟩ : ∃ n, l.length = n := ⟨_, rfl⟩
 have hkn := zh (rns_known l); rw [hl] at hn hm ⊢; replace h := zh h; have hI := zh (hi.old hb); replace hb := zh hb; replace hi := zh hi; replace hl := zh hl; replace hn := zh hn; go_enter Tryz.func47, Tryz.ntmps47; go_wp2_with fail; go_loopw [4, 12] (fun v4 vi wr => ∃ (i k : Nat) (a4 : Option Addr) (c4 : Nat), i ≤ n ∧ vi = .int .i64 i ∧ v4 = .slice a4 k c4 ∧ k ≤ i ∧ Hid (k = (rns (l.take i)).reverse.length ∧ wr.ownsRow w.heap.size 3 1 (.slice a4 k c4) k (ic (endsL (rns (l.take i)).reverse))) ∧ Hid (Below w.heap.size w wr)) (fun _ vi _ => n - (intOf vi).toNat)
 case atStart => exact ⟨0, 0, none, 0, Nat.zero_le _, rfl, rfl, Nat.le_refl _, zh ⟨rfl, World.ownsRow_nil _ _ _ _⟩, zh (Below.refl _ _)⟩
 case round =>
  obtain ⟨i, k, a4, c4, hle, rfl, rfl, hki, hown, hbel⟩ := hrel; obtain ⟨j1, j2, j3, j4⟩ := hkn.out i (by rw [hl.out]; omega)
  by_cases hlt : i < n
  · obtain ⟨x, hx⟩ : ∃ x, l[i]? = some x := ⟨_, List.getElem?_eq_getElem (by rw [hl.out]; exact hlt)⟩
    have hst := rns_take hx; have hI2 := hI.out.below hbel.out
    rcases j4 with ⟨hi0, hr0⟩ | ⟨k', c', t, r, hik, hk', hr0⟩
    · obtain ⟨b, o, rfl, hc⟩ := hI2.cell hx; rw [hr0] at hst; have hst2 := zh (show rns (l.take (i + 1)) = (1, x) :: rns (l.take i) by rw [hst, hr0]; rfl); have hps := zh (show psum (rns (l.take i)).reverse + 1 = i + 1 by rw [j1]); have hd0 : ¬ 0 < i := (by omega)
      clear hst hx j1 j2 j3 hI2 hr0 hi0
      go_wp2_with (first | (
       at_builtin
       refine wpList_append_lies _ rfl _ _ _ rfl w.heap.size 3 i3 _ 1 8 Tryz.underlying28 hi3 hz3 hs3 hby3 rfl (by omega) (.slice a4 k c4) k (ic (endsL (rns (l.take i)).reverse)) (by rfl) (hown.out.2.alloc _)
        ⟨wr.heap.size, 0, none⟩ 1 1 [.int .i64 ((i : Int) + 1)] (by rfl) (by rfl) (World.news_of_block (cs := #[.int .i64 ((i : Int) + 1)]) (t := 3) (fr := (0, 0)) (heap_alloc_new _ _)) (by intro u hu; simp only [List.mem_cons, List.mem_nil_iff, or_false] at hu; subst hu; rfl)
        (by omega) (by unfold maxLen; omega) (by omega) (by have := hbel.out.size; simp; omega) (wr.heap.size + 1) (by simp) ?_
       intro g cap w1 hown1 hgrow hat hlt1; have hbw := zh (((hbel.out.alloc hbel.out.size (.cells #[.int .i64 ((i : Int) + 1)] 3)).grown hgrow (by have := hbel.out.size; simp; omega) (fun k hk => (hown.out.2.lt k hk).1))); replace hown1 := zh hown1; clear hgrow hat))
      exact ⟨⟨i + 1, k + 1, some ⟨g, 0, none⟩, cap, by omega, by simp, by simp, by omega, zh (by
       rw [hst2.out, List.reverse_cons, List.length_append, endsL_snoc, ic_append, List.length_singleton]; exact ⟨by rw [hown.out.1], by simpa [hps.out, ic_one] using hown1.out⟩), hbw⟩, by simp [intOf]; omega⟩
    · obtain ⟨b, o, rfl, hc⟩ := hI2.cell hx; obtain ⟨b', o', hbo, hc'⟩ := hI2.cell hk'; cases hbo; subst hik
      by_cases he : x = t
      · subst he; rw [hr0] at hst; have hst2 := zh (show rns (l.take (k' + 1 + 1)) = (c' + 1, x) :: r by rw [hst]; show (if x = x then _ else _) = _; rw [if_pos rfl]); have hkr : k = r.length + 1 := (by rw [hown.out.1, hr0]; simp)
        have hps := zh (show psum r.reverse + c' = k' + 1 by rw [hr0, List.reverse_cons, psum_snoc] at j1; exact j1); have hown2 := hown.out.2; rw [hr0, List.reverse_cons, endsL_snoc, ic_append] at hown2; obtain ⟨kk, hkk⟩ : ∃ kk, r.length = kk := ⟨_, rfl⟩
        have hel : (ic (endsL r.reverse)).length = kk := (by rw [ic_length, endsL_length, List.length_reverse, hkk])
        rw [hkk] at hkr; subst hkr
        rcases hown2.2 with ⟨e1, _⟩ | ⟨g, cap, cur, e1, hg, _⟩
        · cases e1
        cases e1
        have hcell : wr.cell? ⟨g, kk, none⟩ = some (.int .i64 ((psum r.reverse + c' : Nat) : Int)) := by have := hown2.cells (g := g) rfl kk (.int .i64 ((psum r.reverse + c' : Nat) : Int)) (by rw [List.getElem?_append_right (by omega), hel, Nat.sub_self]; rfl); simpa [Addr.add_lit] using this
        have hfree := own_free hown2 kk; have hnew := zh (own_set hown2 kk (.int .i64 (((k' + 1 : Nat) : Int) + 1))); have hbw := zh (hbel.out.setCell (p := ⟨g, kk, none⟩) hg (.int .i64 (((k' + 1 : Nat) : Int) + 1))); replace hel := zh hel; clear hst hx j1 j2 j3 hI2 hr0 hown2 hk' hg; go_wp2
        exact ⟨⟨k' + 1 + 1, kk + 1, some ⟨g, 0, none⟩, c4, by omega, by simp, by simp, by omega, zh (by
         rw [hst2.out, List.reverse_cons, List.length_append, endsL_snoc, ic_append, List.length_singleton, List.length_reverse]; refine ⟨by rw [hkk], ?_⟩; have h9 := hnew.out; rw [List.set_append_right _ _ (by rw [hel.out]; omega), hel.out, Nat.sub_self] at h9; have h8 : (((psum r.reverse + (c' + 1, x).1 : Nat) : Nat) : Int) = ((k' + 1 : Nat) : Int) + 1 := (by have := hps.out; simp only; omega)
         rw [h8]; exact h9), hbw⟩, by simp [intOf]; omega⟩
      · have hne : (x == t) = false := (by simp [he])
        rw [hr0] at hst; have hst2 := zh (show rns (l.take (k' + 1 + 1)) = (1, x) :: rns (l.take (k' + 1)) by rw [hst, hr0]; show (if t = x then _ else _) = _; rw [if_neg (fun e => he e.symm)]); have hps := zh (show psum (rns (l.take (k' + 1))).reverse + 1 = k' + 1 + 1 by rw [j1]); clear hst hx j1 j2 j3 hI2 hr0 hk'
        go_wp2_with (first | (
         at_builtin
         refine wpList_append_lies _ rfl _ _ _ rfl w.heap.size 3 i3 _ 1 8 Tryz.underlying28 hi3 hz3 hs3 hby3 rfl (by omega) (.slice a4 k c4) k (ic (endsL (rns (l.take (k' + 1))).reverse)) (by rfl) (hown.out.2.alloc _)
          ⟨wr.heap.size, 0, none⟩ 1 1 [.int .i64 (((k' + 1 : Nat) : Int) + 1)] (by rfl) (by rfl) (World.news_of_block (cs := #[.int .i64 (((k' + 1 : Nat) : Int) + 1)]) (t := 3) (fr := (0, 0)) (heap_alloc_new _ _)) (by intro u hu; simp only [List.mem_cons, List.mem_nil_iff, or_false] at hu; subst hu; rfl)
          (by omega) (by unfold maxLen; omega) (by omega) (by have := hbel.out.size; simp; omega) (wr.heap.size + 1) (by simp) ?_
         intro g cap w1 hown1 hgrow hat hlt1; have hbw := zh (((hbel.out.alloc hbel.out.size (.cells #[.int .i64 (((k' + 1 : Nat) : Int) + 1)] 3)).grown hgrow (by have := hbel.out.size; simp; omega) (fun k hk => (hown.out.2.lt k hk).1))); replace hown1 := zh hown1; clear hgrow hat))
        exact ⟨⟨k' + 1 + 1, k + 1, some ⟨g, 0, none⟩, cap, by omega, by simp, by simp, by omega, zh (by
         rw [hst2.out, List.reverse_cons, List.length_append, endsL_snoc, ic_append, List.length_singleton]; exact ⟨by rw [hown.out.1], by simpa [hps.out, ic_one] using hown1.out⟩), hbw⟩, by simp [intOf]; omega⟩
  · have hin : i = n := (by omega)
    have hrn : rns (l.take i) = rns l := (by rw [List.take_of_length_le (by rw [hl.out]; omega)])
    rw [hrn] at j1 j2 j3; have hrl := hown.out.1; rw [hrn] at hrl; have hR := hown.out.2; rw [hrn] at hR; obtain ⟨R, hRe⟩ : ∃ R, (rns l).reverse = R := ⟨_, rfl⟩
    rw [hRe] at j1 j3 hrl hR; have hE : ∀ j, j < k → wr.cell? ⟨0, j, none⟩ = none ∨ True := fun _ _ => .inr trivial; have hcells := zh hR; have hlc := zh (show locC l = uB R.length :: R.flatMap locF by unfold locC runs; rw [hRe]); have hW := zh (h.out.below hbel.out); have hT := zh (Tr.of_below (p := p) (v := v) hbel.out); have hkn2 : k ≤ n := (by omega)
    have hul := uB_len (k : Int); have hn2 := hn.out; replace j3 := zh j3; replace hRe := zh hRe; replace hrl := zh hrl; clear hR hE j2 j4 hrn; obtain ⟨wq, hwq⟩ : ∃ wq, wq = wr := ⟨_, rfl⟩
    subst hwq
    have E0 : ∀ j x, (endsL R)[j]? = some x → ∃ g, a4 = some ⟨g, 0, none⟩ ∧ g ≠ p ∧ v.ownBlock ≠ some g ∧ wq.cell? ⟨g, j, none⟩ = some (.int .i64 x) := fun j x hx => by
     rcases hcells.out.2 with ⟨e1, e2⟩ | ⟨g, cap, cur, e1, hg, _⟩
     · have := (List.getElem?_eq_some_iff.1 hx).1; rw [endsL_length, ← hrl.out] at this; omega
     · cases e1; refine ⟨g, rfl, by have := h.out.lt; omega, fun e => by have := (h.out.own.lt g e).2; omega, ?_⟩; simpa [Addr.add_lit] using hcells.out.cells (g := g) rfl j (.int .i64 x) (by unfold ic; rw [List.getElem?_map, hx]; rfl)
    replace E0 := zh E0; have hnp := zh (fun j => psum_take_le R j); have hpn := zh j1; clear hkn hI j1; go_wp2_with fail; refine (u_any hW.out k (by omega)).mono ?_; rintro e w1 ⟨rfl, v1, h1, t1⟩; replace h1 := zh h1; replace t1 := zh t1; go_wp2_with fail; clear hcells hki hle; go_loopw [7, 47] (fun vf vi wr => ∃ (j P : Nat) (v2 : Value), j ≤ k ∧ vi = .int .i64 j ∧ vf = .int .i64 P ∧ Hid (P = psum (R.take j)) ∧ Hid (WAt N p wr mv v2 (puts ((R.take j).flatMap locF) (put (uB k) s))) ∧ Hid (Tr p v v2 wq wr)) (fun _ vi _ => k - (intOf vi).toNat)
    case atStart => exact ⟨0, 0, v1, Nat.zero_le _, rfl, rfl, zh rfl, h1, t1⟩
    case round =>
     obtain ⟨j, P, v2, hle, rfl, rfl, hP, h2, t2⟩ := hrel
     by_cases hlt : j < k
     · obtain ⟨q, hq⟩ : ∃ q, R[j]? = some q := ⟨_, List.getElem?_eq_getElem (by rw [← hrl.out]; exact hlt)⟩
       obtain ⟨T, hTe⟩ : ∃ T, psum (R.take (j + 1)) = T := ⟨_, rfl⟩
       have hTq : T = P + q.1 := (by rw [← hTe, hP.out, List.take_add_one, hq]; exact psum_snoc _ _)
       have hTn : T ≤ n := (by have := hnp.out (j + 1); have h9 := hpn.out; omega)
       have hlq := j3.out j q hq; rw [← hP.out] at hlq; have hPn : P < n := (by rw [← hl.out]; exact (List.getElem?_eq_some_iff.1 hlq).1)
       obtain ⟨g, rfl, g1, g2, g3⟩ := E0.out j _ (endsL_at (by rw [← hrl.out]; exact hlt)); rw [hTe] at g3; have g4 : wr.cell? ⟨g, j, none⟩ = some (.int .i64 (T : Int)) := t2.out.cell g1 g2 g3; have hB := hb.out.tr (hT.out.trans t2.out); obtain ⟨b, o, rfl, hc0⟩ := hi.out.cell hlq; have hcf := zh (fun (v' : Value) (w' : World) (hv' : Vw w0 p v' w') => hv'.keeps _ _ hc0); have hst := zh (loc_take hq (put (uB k) s)); have htot := loc_tot (R.take j); have htl : (R.take j).length = j := (by rw [List.length_take, ← hrl.out]; omega)
       rw [htl] at htot; have hux := uB_len ((T : Int) - (P : Int)); have hue := zh (show uB ((T : Int) - (P : Int)) = uB ((q.1 : Nat) : Int) by rw [hTq]; congr 1; omega); have hPT : P ≤ T := (by omega)
       replace hTq := zh hTq; have hTe2 := zh hTe; clear hTe hq hlq htl hB g1 g2 g3; obtain ⟨q1, q2⟩ := q; clear hc0; simp only at hcf; go_wp2_with fail; refine (u_any h2.out ((T : Int) - (P : Int)) (by rw [puts_n, put_n]; omega)).mono ?_; rintro e w3 ⟨rfl, v3, h3, t3⟩; replace h3 := zh h3; replace t3 := zh (t2.out.trans t3); have hc3 : w3.cell? ⟨b, o + P, none⟩ = some (.int .i64 q2) := hcf.out _ _ (hb.out.tr (hT.out.trans t3.out)); clear g4; go_wp2_with fail; refine (byte_any h3.out q2 (by rw [put_n, puts_n, put_n]; omega)).mono ?_; rintro e w4 ⟨rfl, v4, h4, t4⟩; have h5 := zh (show WAt N p w4 mv v4 (puts ((R.take (j + 1)).flatMap locF) (put (uB k) s)) by rw [hst.out, ← hue.out]; exact h4); replace t4 := zh (t3.out.trans t4); clear h4 hc3 htot hux; go_wp2; exact ⟨⟨j + 1, T, v4, by omega, by simp, by simp, zh hTe2.out.symm, h5, t4⟩, by simp [intOf]; omega⟩
     · have hjk : j = k := (by omega)
       have hfin := zh (show puts (locC l) s = puts ((R.take j).flatMap locF) (put (uB k) s) by rw [hlc.out, puts, List.take_of_length_le (by rw [← hrl.out]; omega), hrl.out]); go_wp2; go_end0; exact ⟨rfl, by rw [hfin.out]; exact ⟨v2, h2.out, hT.out.trans t2.out⟩⟩
end
def ap (f : WS → WS) (s : WS) : WS := lg (f ⟨[], s.n⟩).l ⟨s.l, (f ⟨[], s.n⟩).n⟩
def wCode (lo : List Int) (bo : Il) (s : WS) : WS := wEx bo (puts (locC lo) s)
def cCode (lo : List Int) (bo : Il) : Nat := 11 + 11 * lo.length + cl bo
def InL (f : WS → WS) : Prop := ∀ s, ((f s).l.length : Int) + s.n ≤ (s.l.length : Int) + (f s).n
theorem InL.put (t : List UInt8) : InL (put t) := fun s => by
 unfold Go.Proofs.YtanpjbbhhofkfaaGreatDoor.put; split
 · simp only [List.length_append]; push_cast; omega
 · simp only; omega
theorem InL.comp {f g : WS → WS} (hf : InL f) (hg : InL g) : InL (fun s => g (f s)) := fun s => by
 have := hf s; have := hg (f s)
 show ((g (f s)).l.length : Int) + s.n ≤ s.l.length + (g (f s)).n
 omega
theorem InL.id : InL (fun s => s) := fun s => Int.le_refl _
theorem InL.puts : ∀ c : List (List UInt8), InL (puts c)
 | [] => InL.id
 | t :: r => (InL.put t).comp (InL.puts r)
theorem InL.tail (f op x y n : Int) (ls : List Int) (elen : Nat) {B E : WS → WS} (hB : InL B) (hE : InL E) : InL (wTail f op x y n ls elen B E) := by
 unfold wTail; split
 · split
   · exact InL.put _
   · exact InL.id
 split
 · split
   · exact ((((InL.put _).comp hB).comp (InL.put _)).comp hE).comp (InL.put _)
   · exact ((InL.put _).comp hB).comp (InL.put _)
 split
 · exact InL.put _
 split
 · exact (InL.puts _).comp (InL.put _)
 split
 · exact (InL.put _).comp (InL.put _)
 split
 · exact (InL.put _).comp (InL.put _)
 split
 · exact InL.put _
 · exact InL.id
theorem InL.wl : ∀ l : Il, InL (wl l)
 | .nil => InL.id
 | .cons op x y n ls b e r => fun s => by
   unfold Go.Proofs.YtanpjbbhhofkfaaGreatDoor.wl; split
   · exact Int.le_refl _
   · exact (((InL.put [b1 op]).comp (InL.tail (formV op) op x y n ls e.len (InL.wl b) (InL.wl e))).comp (InL.wl r)) s
theorem InL.code (lo : List Int) (bo : Il) : InL (wCode lo bo) := ((InL.puts _).comp (InL.wl bo)).comp (InL.put _)
theorem InR.code (lo : List Int) (bo : Il) (ok : nOk bo) : InR (wCode lo bo) (cCode lo bo) := ((InR.puts (locC lo)).comp (InR.ex bo ok)).mono (by have := locC_tot lo; unfold cCode; omega)
theorem InR.ap {f : WS → WS} {c : Nat} (h : InR f c) (hl : InL f) : InR (ap f) (2 * c + 10) := fun s => by
 have h1 := h ⟨[], s.n⟩; have h2 := hl ⟨[], s.n⟩; have h3 := InR.lg (f ⟨[], s.n⟩).l ⟨s.l, (f ⟨[], s.n⟩).n⟩; unfold Go.Proofs.YtanpjbbhhofkfaaGreatDoor.ap; simp only [List.length_nil] at h1 h2 h3; omega
section
variable {N p : Nat} {w0 w : World} {mv : List Value} {v : Value} {s : WS}
theorem WAt.nil (h : WAt N p w mv v s) : WAt N p (w.setCell ⟨p, 10, none⟩ (.slice none 0 0)) mv (.slice none 0 0) ⟨[], s.n⟩ :=
 h.turn (l := []) (w' := w) rfl (World.ownsRow_nil _ _ _ _) (fun e => by cases e) (Nat.le_refl _) (by have := h.low; simpa using this) (by decide)
theorem Tr.nil (p : Nat) (v : Value) (w : World) : Tr p v (.slice none 0 0) w (w.setCell ⟨p, 10, none⟩ (.slice none 0 0)) :=
 have h := (Tr.refl p v w).set 10 (.slice none 0 0)
 ⟨h.os, h.tape, h.output, h.size, h.block, .inr fun g e => by cases e⟩
theorem WAt.back {w2 : World} {v2 : Value} {s2 : WS} (h : WAt N p w mv v s) (h2 : WAt N p w2 mv v2 s2) (t : Tr p (.slice none 0 0) v2 (w.setCell ⟨p, 10, none⟩ (.slice none 0 0)) w2) (hn : s.n ≤ s2.n) :
 WAt N p (w2.setCell ⟨p, 10, none⟩ v) mv v ⟨s.l, s2.n⟩ ∧ Tr p v v w (w2.setCell ⟨p, 10, none⟩ v) ∧ BIn (w2.setCell ⟨p, 10, none⟩ v) v2 s2.l ∧ v2.ownBlock ≠ some p ∧ ∀ g, v2.ownBlock = some g → w.heap.size ≤ g := by
 have hlt := h.lt; have hsz : (w.setCell ⟨p, 10, none⟩ (.slice none 0 0)).heap.size = w.heap.size := (by simp)
 have blk : ∀ k, k < w.heap.size → k ≠ p → w2.heap[k]? = w.heap[k]? := fun k hk hp => (t.block k (by rw [hsz]; exact hk) hp (fun e => by cases e)).trans (Below.heap_setCell _ _ _ _ hp)
 have hgs : ∀ g, v2.ownBlock = some g → w.heap.size ≤ g := fun g e => by
  rcases t.own with e2 | e2
  · rw [e2] at e; cases e
  · rw [← hsz]; exact e2 g e
 have hne2 : v2.ownBlock ≠ some p := h2.ne; have hb2 : BIn w2 v2 s2.l := BIn.own h2.own; refine ⟨h2.turn rfl ?_ h.ne (Nat.le_refl _) (by have := h.len; omega) h.cap, ⟨t.os, t.tape, t.output, by have := t.size; rw [hsz] at this; simpa using this, fun k hk hp hv => (Below.heap_setCell _ _ _ _ hp).trans (blk k hk hp), .inl rfl⟩, ?_, hne2, hgs⟩
 · refine ⟨h.own.1, ?_⟩
   rcases h.own.2 with e | ⟨g, cap, cur, e, hg, hh, r⟩
   · exact .inl e
   · refine .inr ⟨g, cap, cur, e, hg, (blk g (lt_of_block hh) (fun e2 => h.ne (by rw [e, ← e2]; rfl))).trans hh, r⟩
 · rcases hb2 with hb | ⟨g, c, rfl, hc⟩
   · exact .inl hb
   · refine .inr ⟨g, c, rfl, fun j hj => ?_⟩; refine (World.cell?_of_block (Below.heap_setCell _ _ _ _ (fun e : g = p => hne2 (by rw [e]; rfl)))).trans (hc j hj)
theorem code_any (h : WAt N p w mv v s) (hb : Vw w0 p v w) (c1 f4 : Nat) (ty : Int) (lo : List Int) (bo : Il) (u1 : Option Addr) (r1 : Nat) (u2 : Option Addr) (r2 : Nat)
 (hc1 : w.cell? ⟨c1, 0, none⟩ = some (.pointer (some ⟨p, 0, none⟩))) (hf : Box w f4 #[.int .i64 ty, .slice u1 lo.length r1, .slice u2 bo.len r2]) (n1 : c1 ≠ p) (m1 : v.ownBlock ≠ some c1) (n2 : f4 ≠ p) (m2 : v.ownBlock ≠ some f4)
 (i1 : IntsIn w0 u1 lo) (hm : lo.length ≤ 65536) (l2 : bo.len ≤ 9223372036854775807) (i2 : IlIn w0 u2 0 bo) (ok : nOk bo) (hn : s.n + cCode lo bo ≤ 4611686018427387904) :
 Calls Tryz.prog 46 #[.pointer (some ⟨c1, 0, none⟩), .pointer (some ⟨f4, 0, none⟩)] w fun e w' => e = .returned (.tuple #[]) ∧ WOut N p w mv v (wCode lo bo s) w' := by
 have p1 : w.cell? ⟨f4, 1, none⟩ = some (.slice u1 lo.length r1) := hf 1 _ rfl; have L1 := i1.1; unfold cCode at hn; have htot := locC_tot lo; replace h := zh h; replace hb := zh hb; have hc1' := zh hc1; replace hf := zh hf; replace i1 := zh i1; replace i2 := zh i2; replace n1 := zh n1; replace m1 := zh m1; replace n2 := zh n2; replace m2 := zh m2; go_enter Tryz.func46, Tryz.ntmps46; go_wp2_with fail; refine (locals_any h.out hb.out lo u1 r1 i1.out hm (by omega)).mono ?_; rintro e w1 ⟨rfl, v1, h1, t1⟩; have q1 : w1.cell? ⟨c1, 0, none⟩ = some (.pointer (some ⟨p, 0, none⟩)) := t1.cell n1.out m1.out hc1'.out; have q2 : w1.cell? ⟨f4, 2, none⟩ = some (.slice u2 bo.len r2) := t1.cell n2.out m2.out (hf.out 2 _ rfl); have hpn := puts_n (locC lo) s; replace h1 := zh h1; replace t1 := zh t1; clear hc1 p1; go_wp2_with fail; refine (expr_any bo w0 N p w1 mv v1 (puts (locC lo) s) u2 r2 h1.out (hb.out.tr t1.out) l2 i2.out ok (by omega)).mono ?_; rintro e w2 ⟨rfl, ho⟩; replace ho := zh ho; clear hpn; go_wp2; go_end0; exact ⟨rfl, WOut.trans t1.out ho.out⟩
theorem apart_any (h : WAt N p w mv v s) (hb : Vw w0 p v w) (c1 f4 : Nat) (ty : Int) (lo : List Int) (bo : Il) (u1 : Option Addr) (r1 : Nat) (u2 : Option Addr) (r2 : Nat)
 (hc1 : w.cell? ⟨c1, 0, none⟩ = some (.pointer (some ⟨p, 0, none⟩))) (hf : Box w f4 #[.int .i64 ty, .slice u1 lo.length r1, .slice u2 bo.len r2]) (n1 : c1 ≠ p) (n2 : f4 ≠ p)
 (i1 : IntsIn w0 u1 lo) (hm : lo.length ≤ 65536) (l2 : bo.len ≤ 9223372036854775807) (i2 : IlIn w0 u2 0 bo) (ok : nOk bo) (hn : s.n + cCode lo bo ≤ 4611686018427387904) :
 Calls Tryz.prog 45 #[.pointer (some ⟨p, 0, none⟩), .func (.func 46) #[] #[.pointer (some ⟨c1, 0, none⟩), .pointer (some ⟨f4, 0, none⟩)]] w fun e w' => ∃ v2, e = .returned v2 ∧ WAt N p w' mv v ⟨s.l, (wCode lo bo ⟨[], s.n⟩).n⟩ ∧ Tr p v v w w' ∧ BIn w' v2 (wCode lo bo ⟨[], s.n⟩).l ∧ v2.ownBlock ≠ some p ∧ ∀ g, v2.ownBlock = some g → w.heap.size ≤ g := by
 obtain ⟨a, c, hv⟩ := own_slice h.own; subst hv; have c10 := h.c10; have fr := h.free 10; have hnil := h.nil; have hcode := (InR.code lo bo ok) ⟨[], s.n⟩
 have tn := Tr.nil p (.slice a s.l.length c) w; obtain ⟨w1, hw1⟩ : ∃ w1, w1 = w.setCell ⟨p, 10, none⟩ (.slice none 0 0) := ⟨_, rfl⟩
 have hc1' : w1.cell? ⟨c1, 0, none⟩ = some (.pointer (some ⟨p, 0, none⟩)) := (by rw [hw1]; exact (World.cell?_of_block (Below.heap_setCell _ _ _ _ n1)).trans hc1)
 have hf' : Box w1 f4 #[.int .i64 ty, .slice u1 lo.length r1, .slice u2 bo.len r2] := fun j u hj => by rw [hw1]; exact (World.cell?_of_block (Below.heap_setCell _ _ _ _ n2)).trans (hf j u hj)
 have hback := fun (w2 : World) (v2 : Value) (h2 : WAt N p w2 mv v2 (wCode lo bo ⟨[], s.n⟩)) (t : Tr p (.slice none 0 0) v2 w1 w2) => h.back h2 (hw1 ▸ t) hcode.1; rw [← hw1] at hnil tn; have hb1 := hb.tr tn; replace hb1 := zh hb1; replace h := zh h; replace hnil := zh hnil; replace hc1' := zh hc1'; replace hf' := zh hf'; replace hback := zh hback; clear hb hc1 hf tn; go_enter Tryz.func45, Tryz.ntmps45; go_wp2_with fail; rw [← hw1]; clear hw1 c10 fr; refine (code_any hnil.out hb1.out c1 f4 ty lo bo u1 r1 u2 r2 hc1'.out hf'.out n1 (fun e => by cases e) n2 (fun e => by cases e) i1 hm l2 i2 ok hn).mono ?_; rintro e w2 ⟨rfl, v2, h2, t2⟩; obtain ⟨a2, k2, hv2⟩ := own_slice h2.own; subst hv2; have c10 := h2.c10; have fr := h2.free 10; have hbk := zh (hback.out _ _ h2 t2); clear h2 t2; go_wp2; go_ret; exact ⟨_, rfl, hbk.out⟩
end
end Go.Proofs.YtanpjbbhhofkfaaGreatDoor
