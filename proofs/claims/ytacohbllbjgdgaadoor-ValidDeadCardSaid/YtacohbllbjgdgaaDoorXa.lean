/- What a body is typed with, as it lies in memory: two rows that grow, and a block that holds them. -/
import Derived.Test.YtacohbllbjgdgaaDoorVu
import Derived.Laws.AppendOwn
import Derived.Laws.OwnMore
import Derived.Maps.AppendAt
import Derived.OneCell
import Derived.Below
import Derived.Laws.Rows
namespace Go.Proofs.YtacohbllbjgdgaaDoor
open Go.RowKit
set_option linter.unusedVariables false
set_option linter.unusedSimpArgs false

def encT (un t : Int) : Int := if t = 0 then un else t
def stC (un : Int) (st : List Int) : List Value := st.reverse.map fun t => Value.int .i64 (encT un t)
structure FA where
  ga : Option Addr
  gc : Nat
  ea : Option Addr
  ec : Nat
def frV (q : Fr × FA) : List Value := [.slice q.2.ga q.1.goes.length q.2.gc, .slice q.2.ea q.1.ends.length q.2.ec, .int .i64 q.1.h, .bool q.1.dead]
def frC (L : List (Fr × FA)) : List Value := L.reverse.flatMap frV
theorem stC_cons (un x : Int) (r : List Int) : stC un (x :: r) = stC un r ++ [.int .i64 (encT un x)] := by simp [stC]
theorem stC_app (un : Int) (l r : List Int) : stC un (l.reverse ++ r) = stC un r ++ l.map fun t => Value.int .i64 (encT un t) := by simp [stC]
theorem stC_length (un : Int) (r : List Int) : (stC un r).length = r.length := by simp [stC]
theorem frC_cons (q : Fr × FA) (L : List (Fr × FA)) : frC (q :: L) = frC L ++ frV q := by simp [frC]
theorem frC_length : ∀ L : List (Fr × FA), (frC L).length = L.length * 4
  | [] => rfl
  | q :: L => by rw [frC_cons, List.length_append, frC_length L, List.length_cons]; simp [frV]; omega
theorem frC_at : ∀ (L : List (Fr × FA)) (n : Nat) (q : Fr × FA), L[n]? = some q → ∀ j, j < 4 → (frC L)[(L.length - 1 - n) * 4 + j]? = (frV q)[j]?
  | [], n, q, h, j, hj => by simp at h
  | a :: L, 0, q, h, j, hj => by
    simp at h
    subst h
    rw [frC_cons, List.getElem?_append_right (by rw [frC_length, List.length_cons]; omega), frC_length, List.length_cons]
    congr 1
    omega
  | a :: L, n + 1, q, h, j, hj => by
    have h' : L[n]? = some q := by simpa using h
    have hl := (List.getElem?_eq_some_iff.1 h').1
    rw [frC_cons, List.length_cons]
    have e : (L.length + 1 - 1 - (n + 1)) * 4 + j = (L.length - 1 - n) * 4 + j := by omega
    rw [e, List.getElem?_append_left (by rw [frC_length]; omega)]
    exact frC_at L n q h' j hj

/-- A list of numbers that lies in a block of its own. -/
def LiB (w : World) (p : Nat) (sv fv : Value) (a : Option Addr) (l : List Int) : Prop :=
  IntsIn w a l ∧ (l = [] ∨ ∀ ad, a = some ad → ad.block ≠ p ∧ sv.ownBlock ≠ some ad.block ∧ fv.ownBlock ≠ some ad.block)
/-- What a call may change: the block p, what the rows own, and what is new. -/
structure Tw (p : Nat) (sv fv sv' fv' : Value) (w w' : World) : Prop where
  os : w'.os = w.os
  tape : w'.tape = w.tape
  output : w'.output = w.output
  size : w.heap.size ≤ w'.heap.size
  block : ∀ k, k < w.heap.size → k ≠ p → sv.ownBlock ≠ some k → fv.ownBlock ≠ some k → w'.heap[k]? = w.heap[k]?
  s : sv'.ownBlock = sv.ownBlock ∨ ∀ g, sv'.ownBlock = some g → w.heap.size ≤ g
  f : fv'.ownBlock = fv.ownBlock ∨ ∀ g, fv'.ownBlock = some g → w.heap.size ≤ g
section
variable {p N : Nat} {sv fv sv' fv' sv'' fv'' : Value} {w w' a b c : World}
theorem Tw.refl (p : Nat) (sv fv : Value) (w : World) : Tw p sv fv sv fv w w := ⟨rfl, rfl, rfl, Nat.le_refl _, fun _ _ _ _ _ => rfl, .inl rfl, .inl rfl⟩
theorem own_tr {v v' v'' : Value} {n m : Nat} (h : v'.ownBlock = v.ownBlock ∨ ∀ g, v'.ownBlock = some g → n ≤ g) (k : v''.ownBlock = v'.ownBlock ∨ ∀ g, v''.ownBlock = some g → m ≤ g) (hnm : n ≤ m) : v''.ownBlock = v.ownBlock ∨ ∀ g, v''.ownBlock = some g → n ≤ g := by
  rcases k with e | e
  · rcases h with e2 | e2
    · exact .inl (e.trans e2)
    · exact .inr fun g hg => e2 g (e ▸ hg)
  · exact .inr fun g hg => Nat.le_trans hnm (e g hg)
theorem own_no {v v' : Value} {n k : Nat} (h : v'.ownBlock = v.ownBlock ∨ ∀ g, v'.ownBlock = some g → n ≤ g) (hk : k < n) (hv : v.ownBlock ≠ some k) : v'.ownBlock ≠ some k := by
  rcases h with e | e
  · rw [e]; exact hv
  · intro e2; have := e k e2; omega
theorem Tw.trans (h : Tw p sv fv sv' fv' a b) (k : Tw p sv' fv' sv'' fv'' b c) : Tw p sv fv sv'' fv'' a c :=
  ⟨k.os.trans h.os, k.tape.trans h.tape, k.output.trans h.output, Nat.le_trans h.size k.size, fun i hi hp hs hf => by
    rw [k.block i (Nat.lt_of_lt_of_le hi h.size) hp (own_no h.s hi hs) (own_no h.f hi hf)]
    exact h.block i hi hp hs hf, own_tr h.s k.s h.size, own_tr h.f k.f h.size⟩
theorem Tw.of_below (h : Below w.heap.size w w') : Tw p sv fv sv fv w w' := ⟨h.os, h.tape, h.output, h.size, fun k hk _ _ _ => h.block k hk, .inl rfl, .inl rfl⟩
theorem Tw.step (h : Tw p sv fv sv' fv' a b) (k : Below b.heap.size b c) : Tw p sv fv sv' fv' a c := h.trans (.of_below k)
theorem Tw.set (h : Tw p sv fv sv' fv' a b) (j : Nat) (u : Value) : Tw p sv fv sv' fv' a (b.setCell ⟨p, j, none⟩ u) :=
  ⟨h.os, h.tape, h.output, by have := h.size; simpa [World.setCell] using this, fun k hk hp hs hf => (Below.heap_setCell _ _ _ _ hp).trans (h.block k hk hp hs hf), h.s, h.f⟩
theorem Tw.cutS (h : Tw p sv fv sv' fv' a b) (e : sv''.ownBlock = sv'.ownBlock) : Tw p sv fv sv'' fv' a b := ⟨h.os, h.tape, h.output, h.size, h.block, by rw [e]; exact h.s, h.f⟩
theorem Tw.cutF (h : Tw p sv fv sv' fv' a b) (e : fv''.ownBlock = fv'.ownBlock) : Tw p sv fv sv' fv'' a b := ⟨h.os, h.tape, h.output, h.size, h.block, h.s, by rw [e]; exact h.f⟩
theorem Tw.growS (hg : w.grownBy w' sv.ownBlock) (ho : sv'.ownBlock = sv.ownBlock ∨ sv'.ownBlock = some w.heap.size) : Tw p sv fv sv' fv w w' :=
  ⟨hg.os, hg.tape, hg.output, hg.size, fun k hk _ hs _ => hg.block k hk (fun e => hs e.symm), ho.imp_right fun e g hg => by rw [e] at hg; cases hg; exact Nat.le_refl _, .inl rfl⟩
theorem Tw.growF (hg : w.grownBy w' fv.ownBlock) (ho : fv'.ownBlock = fv.ownBlock ∨ fv'.ownBlock = some w.heap.size) : Tw p sv fv sv fv' w w' :=
  ⟨hg.os, hg.tape, hg.output, hg.size, fun k hk _ _ hf => hg.block k hk (fun e => hf e.symm), .inl rfl, ho.imp_right fun e g hg => by rw [e] at hg; cases hg; exact Nat.le_refl _⟩
theorem Tw.below (h : Tw p sv fv sv' fv' w w') {M : Nat} (hp : M ≤ p) (hs : ∀ g, sv.ownBlock = some g → M ≤ g) (hf : ∀ g, fv.ownBlock = some g → M ≤ g) (hM : M ≤ w.heap.size) : Below M w w' :=
  ⟨h.os, h.tape, h.output, h.size, fun k hk => h.block k (by omega) (by omega) (fun e => by have := hs k e; omega) (fun e => by have := hf k e; omega)⟩
theorem LiB.tw {ao : Option Addr} {l : List Int} (h : LiB w p sv fv ao l) (t : Tw p sv fv sv' fv' w w') : LiB w' p sv' fv' ao l := by
  obtain ⟨⟨h1, h2⟩, h3⟩ := h
  by_cases hl : l = []
  · exact ⟨⟨h1, .inl hl⟩, .inl hl⟩
  · obtain ⟨b, o, rfl, hc⟩ := h2.resolve_left hl
    obtain ⟨g1, g2, g3⟩ := h3.resolve_left hl _ rfl
    have hlt : b < w.heap.size := by
      cases l with
      | nil => exact absurd rfl hl
      | cons x r => exact World.block_lt_of_cell? _ _ (hc 0 x rfl)
    refine ⟨⟨h1, .inr ⟨b, o, rfl, fun i x hx => ?_⟩⟩, .inr fun ad e => ?_⟩
    · exact (World.cell?_of_block (t.block b hlt g1 g2 g3)).trans (hc i x hx)
    · cases e
      exact ⟨g1, own_no t.s hlt g2, own_no t.f hlt g3⟩
/-- A list that lay there ahead of all. -/
theorem LiB.old {ao : Option Addr} {l : List Int} (h : IntsIn w ao l) {M : Nat} (hM : l = [] ∨ ∀ ad, ao = some ad → ad.block < M) (hp : M ≤ p) (hs : ∀ g, sv.ownBlock = some g → M ≤ g) (hf : ∀ g, fv.ownBlock = some g → M ≤ g) : LiB w p sv fv ao l :=
  ⟨h, hM.imp_right fun h ad e => by have := h ad e; exact ⟨by omega, fun q => by have := hs _ q; omega, fun q => by have := hf _ q; omega⟩⟩
end

structure Ows (N p : Nat) (et : TypeId) (un : Int) (w : World) (sv fv : Value) (s : Ts) : Prop where
  hN : p < N
  hw : N ≤ w.heap.size
  st : w.ownsRow N 3 1 sv s.st.length (stC un s.st)
  fs : ∃ L : List (Fr × FA), L.map Prod.fst = s.fs ∧ w.ownsRow N et 4 fv L.length (frC L) ∧ ∀ q ∈ L, LiB w p sv fv q.2.ga q.1.goes ∧ LiB w p sv fv q.2.ea q.1.ends
theorem own_ne {w : World} {B B' e e' size size' n n' : Nat} {v v' : Value} {xs xs' : List Value} (h : w.ownsRow B e size v n xs) (h' : w.ownsRow B' e' size' v' n' xs') (hne : e ≠ e') : v.ownBlock = none ∨ v.ownBlock ≠ v'.ownBlock := by
  rcases h.2 with ⟨rfl, _⟩ | ⟨g, cap, cur, rfl, _, hgg, _⟩
  · exact .inl rfl
  · rcases h'.2 with ⟨rfl, _⟩ | ⟨g', cap', cur', rfl, _, hgg', _⟩
    · exact .inr (by simp [Value.ownBlock])
    · refine .inr fun he => ?_
      simp only [Value.ownBlock, Option.some.injEq] at he
      subst he
      rw [hgg] at hgg'
      simp only [Option.some.injEq, Obj.cells.injEq] at hgg'
      exact hne hgg'.2.1
theorem own_take {w : World} {base : Nat} {e : TypeId} {size g cap n m : Nat} {xs : List Value} (h : w.ownsRow base e size (.slice (some ⟨g, 0, none⟩) n cap) n xs) (hm : m ≤ n) : w.ownsRow base e size (.slice (some ⟨g, 0, none⟩) m cap) m (xs.take (m * size)) := by
  have hms : m * size ≤ n * size := Nat.mul_le_mul_right _ hm
  rcases h.2 with ⟨h', _⟩ | ⟨g', cap', cur, h', hb, hg, hnc, hcm, hcs, htake⟩
  · simp at h'
  · simp only [Value.slice.injEq, Option.some.injEq, Addr.mk.injEq, and_true, true_and] at h'
    obtain ⟨rfl, rfl⟩ := h'
    refine ⟨by rw [List.length_take, h.1]; omega, .inr ⟨g, cap, cur, rfl, hb, hg, by omega, hcm, hcs, ?_⟩⟩
    rw [← htake, List.take_take, Nat.min_eq_left hms]
theorem own_block {w w' : World} {base : Nat} {e : TypeId} {size n : Nat} {v : Value} {xs : List Value} (h : w.ownsRow base e size v n xs) (hb : ∀ g, v.ownBlock = some g → w'.heap[g]? = w.heap[g]?) : w'.ownsRow base e size v n xs := by
  refine ⟨h.1, ?_⟩
  rcases h.2 with hn | ⟨g, cap, cur, rfl, h1, hg, rest⟩
  · exact .inl hn
  · exact .inr ⟨g, cap, cur, rfl, h1, by rw [hb g rfl]; exact hg, rest⟩
section
variable {N p : Nat} {et : TypeId} {un : Int} {w w' : World} {sv fv sv' fv' : Value} {s : Ts}
theorem Ows.ne (h : Ows N p et un w sv fv s) (he : et ≠ 3) : (sv.ownBlock = none ∨ sv.ownBlock ≠ fv.ownBlock) ∧ (fv.ownBlock = none ∨ fv.ownBlock ≠ sv.ownBlock) := by
  obtain ⟨L, _, h2, _⟩ := h.fs
  exact ⟨own_ne h.st h2 (fun e => he e.symm), own_ne h2 h.st he⟩
theorem Ows.low (h : Ows N p et un w sv fv s) : (∀ g, sv.ownBlock = some g → N ≤ g) ∧ (∀ g, fv.ownBlock = some g → N ≤ g) := by
  obtain ⟨L, _, h2, _⟩ := h.fs
  exact ⟨fun g hg => (h.st.lt g hg).1, fun g hg => (h2.lt g hg).1⟩
theorem Ows.below (h : Ows N p et un w sv fv s) (t : Tw p sv fv sv' fv' w w') : Below p w w' := by
  have hN := h.hN
  obtain ⟨h1, h2⟩ := h.low
  have hw := h.hw
  exact t.below (Nat.le_refl _) (fun g hg => by have := h1 g hg; omega) (fun g hg => by have := h2 g hg; omega) (by omega)
/-- Whatever leaves the rows alone. -/
theorem Ows.keep (h : Ows N p et un w sv fv s) (t : Tw p sv fv sv fv w w') (hb : ∀ g, sv.ownBlock = some g ∨ fv.ownBlock = some g → w'.heap[g]? = w.heap[g]?) : Ows N p et un w' sv fv s := by
  obtain ⟨L, h1, h2, h3⟩ := h.fs
  exact ⟨h.hN, Nat.le_trans h.hw t.size, own_block h.st fun g hg => hb g (.inl hg), L, h1, own_block h2 fun g hg => hb g (.inr hg), fun q hq => ⟨(h3 q hq).1.tw t, (h3 q hq).2.tw t⟩⟩
theorem Ows.step (h : Ows N p et un w sv fv s) (b : Below w.heap.size w w') : Ows N p et un w' sv fv s := by
  obtain ⟨L, h1, h2, h3⟩ := h.fs
  refine h.keep (.of_below b) fun g hg => b.block g ?_
  rcases hg with hg | hg
  · exact (h.st.lt g hg).2
  · exact (h2.lt g hg).2
theorem Ows.setP (h : Ows N p et un w sv fv s) (j : Nat) (u : Value) : Ows N p et un (w.setCell ⟨p, j, none⟩ u) sv fv s := by
  have hN := h.hN
  obtain ⟨h1, h2⟩ := h.low
  refine h.keep ((Tw.refl p sv fv w).set j u) fun g hg => Below.heap_setCell _ _ _ _ ?_
  rcases hg with hg | hg
  · have := h1 g hg; show g ≠ p; omega
  · have := h2 g hg; show g ≠ p; omega
/-- The frame that is the n-th from the innermost. -/
theorem Ows.frame (h : Ows N p et un w sv fv s) {n : Nat} {f : Fr} (hf : s.fs[n]? = some f) : ∃ g cap, ∃ fa : FA, fv = .slice (some ⟨g, 0, none⟩) s.fs.length cap ∧ N ≤ g ∧
    w.cell? ⟨g, (s.fs.length - 1 - n) * 4, none⟩ = some (.slice fa.ga f.goes.length fa.gc) ∧ w.cell? ⟨g, (s.fs.length - 1 - n) * 4 + 1, none⟩ = some (.slice fa.ea f.ends.length fa.ec) ∧
    w.cell? ⟨g, (s.fs.length - 1 - n) * 4 + 2, none⟩ = some (.int .i64 f.h) ∧ w.cell? ⟨g, (s.fs.length - 1 - n) * 4 + 3, none⟩ = some (.bool f.dead) ∧ w.frozen? ⟨g, (s.fs.length - 1 - n) * 4 + 3, none⟩ = false ∧
    LiB w p sv fv fa.ga f.goes ∧ LiB w p sv fv fa.ea f.ends ∧ s.fs.length ≤ cap ∧ cap ≤ maxLen := by
  obtain ⟨L, h1, h2, h3⟩ := h.fs
  have hl : L.length = s.fs.length := by rw [← h1, List.length_map]
  obtain ⟨q, hq, rfl⟩ : ∃ q, L[n]? = some q ∧ q.1 = f := by
    rw [← h1, List.getElem?_map] at hf
    cases hL : L[n]? with
    | none => rw [hL] at hf; cases hf
    | some q => rw [hL] at hf; exact ⟨q, rfl, by simpa using hf⟩
  have hn := (List.getElem?_eq_some_iff.1 hq).1
  rcases h2.2 with ⟨_, h0⟩ | ⟨g, cap, cur, hv, hg, hh, hnc, hcm, _⟩
  · omega
  · subst hv
    have ha : ∀ j, j < 4 → w.cell? ⟨g, (L.length - 1 - n) * 4 + j, none⟩ = (frV q)[j]? := fun j hj => by rw [h2.cellAt _ (by omega)]; exact frC_at L n q hq j hj
    have hm := h3 q (List.mem_of_getElem? hq)
    rw [← hl]
    exact ⟨g, cap, q.2, rfl, hg, ha 0 (by omega), ha 1 (by omega), ha 2 (by omega), ha 3 (by omega), h2.frozenAt _, hm.1, hm.2, hnc, hcm⟩
/-- The last type. -/
theorem Ows.last (h : Ows N p et un w sv fv s) {x : Int} {r : List Int} (hs : s.st = x :: r) : ∃ g cap, sv = .slice (some ⟨g, 0, none⟩) (r.length + 1) cap ∧ N ≤ g ∧ w.cell? ⟨g, r.length, none⟩ = some (.int .i64 (encT un x)) ∧ r.length + 1 ≤ cap ∧ cap ≤ maxLen := by
  have h2 := h.st
  rw [hs, List.length_cons, stC_cons] at h2
  rcases h2.2 with ⟨_, h0⟩ | ⟨g, cap, cur, hv, hg, hh, hnc, hcm, _⟩
  · omega
  · subst hv
    refine ⟨g, cap, rfl, hg, ?_, hnc, hcm⟩
    rw [h2.cellAt _ (by omega), List.getElem?_append_right (by rw [stC_length]; exact Nat.le_refl _), stC_length, Nat.sub_self]
    rfl
/-- Types are taken off. -/
theorem Ows.drop (h : Ows N p et un w sv fv s) {g n cap m : Nat} (e : sv = .slice (some ⟨g, 0, none⟩) n cap) (hm : m ≤ s.st.length) : Ows N p et un w (.slice (some ⟨g, 0, none⟩) m cap) fv ⟨s.st.drop (s.st.length - m), s.fs⟩ := by
  subst e
  obtain ⟨L, h1, h2, h3⟩ := h.fs
  have hst := h.st
  have hn : s.st.length = n := by
    rcases hst.2 with ⟨h', _⟩ | ⟨g', cap', cur, h', _⟩
    · simp at h'
    · simp only [Value.slice.injEq] at h'; exact h'.2.1.symm
  subst hn
  refine ⟨h.hN, h.hw, ?_, L, h1, h2, fun q hq => h3 q hq⟩
  have ht := own_take hst hm
  rw [Nat.mul_one] at ht
  have e1 : (s.st.drop (s.st.length - m)).length = m := by rw [List.length_drop]; omega
  have e2 : stC un (s.st.drop (s.st.length - m)) = (stC un s.st).take m := by
    unfold stC
    rw [← List.map_take, List.take_reverse]
  show w.ownsRow N 3 1 _ (s.st.drop (s.st.length - m)).length (stC un (s.st.drop (s.st.length - m)))
  rw [e1, e2]
  exact ht
theorem Ows.push (h : Ows N p et un w sv fv s) (he : et ≠ 3) {l : List Int} {v' : Value} (ho : w'.ownsRow N 3 1 v' (s.st.length + l.length) (stC un s.st ++ l.map fun t => Value.int .i64 (encT un t))) (hg : w.grownBy w' sv.ownBlock) (hb : v'.ownBlock = sv.ownBlock ∨ v'.ownBlock = some w.heap.size) :
    Ows N p et un w' v' fv (tPush l s) ∧ Tw p sv fv v' fv w w' := by
  obtain ⟨L, h1, h2, h3⟩ := h.fs
  have t : Tw p sv fv v' fv w w' := .growS hg hb
  refine ⟨⟨h.hN, Nat.le_trans h.hw t.size, ?_, L, h1, h2.kept hg (h.ne he).2, fun q hq => ⟨(h3 q hq).1.tw t, (h3 q hq).2.tw t⟩⟩, t⟩
  unfold tPush
  rw [stC_app, List.length_append, List.length_reverse, Nat.add_comm]
  exact ho
theorem Ows.leave (h : Ows N p et un w sv fv s) {g n cap : Nat} {f : Fr} {r : List Fr} (e : fv = .slice (some ⟨g, 0, none⟩) n cap) (hf : s.fs = f :: r) : Ows N p et un w sv (.slice (some ⟨g, 0, none⟩) r.length cap) ⟨s.st, r⟩ := by
  subst e
  obtain ⟨L, h1, h2, h3⟩ := h.fs
  cases L with
  | nil => rw [hf] at h1; cases h1
  | cons q L =>
    rw [hf, List.map_cons] at h1
    injection h1 with e1 e2
    have hl : L.length = r.length := by rw [← e2, List.length_map]
    have hn : L.length + 1 = n := by
      rcases h2.2 with ⟨h', _⟩ | ⟨g', cap', cur, h', _⟩
      · simp at h'
      · simp only [Value.slice.injEq, List.length_cons] at h'; exact h'.2.1.symm
    subst hn
    refine ⟨h.hN, h.hw, h.st, L, e2, ?_, fun q hq => h3 q (List.mem_cons_of_mem _ hq)⟩
    have ht := own_take h2 (m := L.length) (by simp)
    rw [frC_cons, List.take_append_of_le_length (by rw [frC_length]; exact Nat.le_refl _), List.take_of_length_le (by rw [frC_length]; exact Nat.le_refl _)] at ht
    rw [← hl]
    exact ht
/-- The innermost frame dies. -/
theorem Ows.die (h : Ows N p et un w sv fv s) (he : et ≠ 3) {g n cap : Nat} {f : Fr} {r : List Fr} (e : fv = .slice (some ⟨g, 0, none⟩) n cap) (hf : s.fs = f :: r) :
    Ows N p et un (w.setCell ⟨g, r.length * 4 + 3, none⟩ (.bool true)) sv fv ⟨s.st, { f with dead := true } :: r⟩ ∧ Tw p sv fv sv fv w (w.setCell ⟨g, r.length * 4 + 3, none⟩ (.bool true)) := by
  subst e
  obtain ⟨L, h1, h2, h3⟩ := h.fs
  cases L with
  | nil => rw [hf] at h1; cases h1
  | cons q L =>
    rw [hf, List.map_cons] at h1
    injection h1 with e1 e2
    have hl : L.length = r.length := by rw [← e2, List.length_map]
    have hn : L.length + 1 = n := by
      rcases h2.2 with ⟨h', _⟩ | ⟨g', cap', cur, h', _⟩
      · simp at h'
      · simp only [Value.slice.injEq, List.length_cons] at h'; exact h'.2.1.symm
    subst hn
    obtain ⟨hs1, hs2⟩ := h2.stored (r.length * 4 + 3) (.bool true)
    have hlt := (h2.lt g rfl).2
    have t : Tw p sv (.slice (some ⟨g, 0, none⟩) (L.length + 1) cap) sv (.slice (some ⟨g, 0, none⟩) (L.length + 1) cap) w (w.setCell ⟨g, r.length * 4 + 3, none⟩ (.bool true)) := .growF hs2 (.inl rfl)
    refine ⟨⟨h.hN, Nat.le_trans h.hw t.size, h.st.kept hs2 (h.ne he).1, ({ q.1 with dead := true }, q.2) :: L, by rw [List.map_cons, e2, ← e1], ?_, fun k hk => ?_⟩, t⟩
    · have e3 : frC (({ q.1 with dead := true }, q.2) :: L) = (frC (q :: L)).set (r.length * 4 + 3) (.bool true) := by
        rw [frC_cons, frC_cons, List.set_append, if_neg (by rw [frC_length]; omega), frC_length, hl]
        have : r.length * 4 + 3 - r.length * 4 = 3 := by omega
        rw [this]
        rfl
      rw [e3]
      exact hs1
    · rcases List.mem_cons.1 hk with rfl | hk
      · exact ⟨(h3 q List.mem_cons_self).1.tw t, (h3 q List.mem_cons_self).2.tw t⟩
      · exact ⟨(h3 k (List.mem_cons_of_mem _ hk)).1.tw t, (h3 k (List.mem_cons_of_mem _ hk)).2.tw t⟩
end

end Go.Proofs.YtacohbllbjgdgaaDoor
