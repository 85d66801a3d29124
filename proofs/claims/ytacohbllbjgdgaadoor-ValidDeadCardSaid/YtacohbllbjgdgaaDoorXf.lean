/- The typer: types are taken off, from the last on. -/
import Derived.Test.YtacohbllbjgdgaaDoorXd
import Derived.Test.YtacohbllbjgdgaaDoorXe
import Derived.Shelf.Abstract
import Derived.OwnWalkIn
import Derived.TacticsInMore
import Derived.LoopNIn
import Derived.LoopIn
import Derived.TacticsIn
import Derived.RegionIn
namespace Go.Proofs.YtacohbllbjgdgaaDoor
open Go.RowKit Go.Shelf
set_option linter.unusedVariables false
set_option linter.unusedSimpArgs false
attribute [local go_sem] Oper.semAt_some

def encB (xs : List Int) (k : Nat) : Array Value := #[.int .i64 ((xs.length - 1 - k : Nat) : Int), .int .i64 (xs[xs.length - 1 - k]?.getD 0)]
set_option maxRecDepth 100000 in
set_option maxHeartbeats 2000000 in
theorem back_in (n : Nat) (hn : 1 ≤ n) (Bx : Nat) (xs : List Int) (la : Option Addr) (lc : Nat) (hlen : xs.length ≤ 9223372036854775807) :
    SeqP Fence.wide n Tryd.prog 63 #[.pointer (some ⟨Bx, 0, none⟩)] (encB xs) (fun W => W.cell? ⟨Bx, 0, none⟩ = some (.slice la xs.length lc) ∧ IntsIn W la xs) xs.length := by
  intro l J Jp W hKp hY h0
  refine callsIn_of_wp Tryd.func63 rfl trivial ?_ rfl
  simp only [Tryd.ntmps63, List.size_toArray, List.length_cons, List.length_nil, Nat.reduceAdd, Nat.reduceSub, Array.replicate_succ, Array.replicate_zero, List.push_toArray, List.append_toArray, List.nil_append, List.cons_append]
  have hc0 := (hKp 0 W h0).1
  have e0 : IntKind.i64.wrap ((xs.length : Int) - 1) = (xs.length : Int) - 1 := by rw [IntKind.wrap_i64]; omega
  gi_wp2
  gi_loopw [3] (fun i wr => ∃ k : Nat, k ≤ xs.length ∧ i = .int .i64 ((xs.length : Int) - 1 - k) ∧ J k wr) (fun i _ => (intOf i + 1).toNat)
  case atStart => exact ⟨0, Nat.zero_le _, by simp, h0⟩
  case round =>
    obtain ⟨k, hk, rfl, hJs⟩ := hrel
    obtain ⟨hcx, hix⟩ := hKp k wr hJs
    by_cases hlt : k < xs.length
    · obtain ⟨x, hx⟩ : ∃ x, xs[xs.length - 1 - k]? = some x := ⟨_, List.getElem?_eq_getElem (by omega)⟩
      obtain ⟨b, o, rfl, c1⟩ := hix.at hx
      obtain ⟨fn, tmps, assign, body, hy, hR⟩ := hY k wr hJs hlt
      have hq : ((xs.length - 1 - k : Nat) : Int) = (xs.length : Int) - 1 - k := by omega
      simp only [encB, hx, Option.getD_some] at hy
      obtain ⟨m, hm⟩ : ∃ m, m = xs.length - 1 - k := ⟨_, rfl⟩
      rw [← hm] at c1 hy hq
      rw [← hq]
      have i1 : (0 : Int) ≤ (m : Int) := by omega
      have i2 : (m : Int) < (xs.length : Int) := by omega
      have e1 : IntKind.i64.wrap ((m : Int) - 1) = (m : Int) - 1 := by rw [IntKind.wrap_i64]; omega
      have hm2 := Lib.hid hm
      have hq2 := Lib.hid hq
      clear hm hq hx
      gi_wp2
      refine hR.mono ?_
      rintro e W3 (⟨rfl, hJ3⟩ | ⟨ch, rfl, hJx3⟩)
      · gi_wp2
        go_roundw
        case rel => exact ⟨k + 1, by omega, by have := hq2.out; congr 1; omega, hJ3⟩
        case measure => have := hq2.out; simp [intOf]
      · gi_wp2
        exact ⟨rfl, .inr ⟨ch, rfl, hJx3⟩⟩
    · obtain rfl : k = xs.length := by omega
      have hneg : ¬ (0 : Int) ≤ (xs.length : Int) - 1 - (xs.length : Int) := by omega
      gi_wp2
      go_end0
      exact .inl ⟨⟨_, rfl⟩, hJs⟩

theorem backward_any (a : Option Addr) (n c : Nat) (w : World) : Calls Tryd.prog 55 #[.slice a n c] w fun e w' => e = .returned (.func (.func 63) #[] #[.pointer (some ⟨w.heap.size, 0, none⟩)]) ∧ w' = w.alloc (.cells #[.slice a n c] 23) := by
  go_enter Tryd.func55, Tryd.ntmps55
  go_wp2
  go_ret
  exact ⟨rfl, rfl⟩

/-- A block that a call leaves alone. -/
structure Off (w : World) (p : Nat) (sv fv : Value) (b : Nat) : Prop where
  lt : b < w.heap.size
  p : b ≠ p
  s : sv.ownBlock ≠ some b
  f : fv.ownBlock ≠ some b
theorem Off.tw {w w' : World} {p : Nat} {sv fv sv' fv' : Value} {b : Nat} (h : Off w p sv fv b) (t : Tw p sv fv sv' fv' w w') : Off w' p sv' fv' b ∧ w'.heap[b]? = w.heap[b]? :=
  ⟨⟨Nat.lt_of_lt_of_le h.lt t.size, h.p, own_no t.s h.lt h.s, own_no t.f h.lt h.f⟩, t.block b h.lt h.p h.s h.f⟩
/-- Cells lie as they lay. -/
def Cs (w w' : World) : Prop := w.heap.size ≤ w'.heap.size ∧ ∀ (k : Nat) (o : Obj), w.heap[k]? = some o → o.isCells = true → w'.heap[k]? = some o
theorem Cs.of_grown {w w' : World} {row : Option Nat} (hg : w.grownBy w' row) (hr : ∀ r, row = some r → ∃ o : Obj, w.heap[r]? = some o ∧ o.isCells = false) : Cs w w' :=
  ⟨hg.size, fun k o hk hc => (grownBy_keeps_cells hg hr hk hc).trans hk⟩
theorem Cs.keeps {w w' : World} (h : Cs w w') : Keeps w w' := fun a v hv => by
  obtain ⟨o, ho, hc⟩ := cells_of_cell hv
  exact (World.cell?_of_block ((h.2 _ _ ho hc).trans ho.symm)).trans hv
theorem LiB.cs {w w' : World} {p : Nat} {sv fv : Value} {a : Option Addr} {l : List Int} (h : LiB w p sv fv a l) (c : Cs w w') : LiB w' p sv fv a l := ⟨h.1.keep c.keeps, h.2⟩
theorem own_cells {w : World} {base : Nat} {e : TypeId} {size n : Nat} {v : Value} {xs : List Value} (h : w.ownsRow base e size v n xs) {g : Nat} (hg : v.ownBlock = some g) : ∃ o : Obj, w.heap[g]? = some o ∧ o.isCells = true := by
  rcases h.2 with ⟨rfl, _⟩ | ⟨g', cap, cur, rfl, _, hgg, _⟩
  · simp [Value.ownBlock] at hg
  · simp [Value.ownBlock] at hg
    subst hg
    exact ⟨_, hgg, rfl⟩
theorem own_cs {w w' : World} {base : Nat} {e : TypeId} {size n : Nat} {v : Value} {xs : List Value} (h : w.ownsRow base e size v n xs) (c : Cs w w') : w'.ownsRow base e size v n xs :=
  own_block h fun g hg => by
    obtain ⟨o, ho, hc⟩ := own_cells h hg
    exact (c.2 g o ho hc).trans ho.symm
theorem TyP.cs {N p : Nat} {cv lv : Value} {w w' : World} {sv fv : Value} {s : Ts} (h : TyP N p cv lv w sv fv s) (c : Cs w w') : TyP N p cv lv w' sv fv s := by
  obtain ⟨L, h1, h2, h3⟩ := h.o.fs
  exact ⟨c.2 _ _ h.b rfl, h.o.hN, Nat.le_trans h.o.hw c.1, own_cs h.o.st c, L, h1, own_cs h2 c, fun q hq => ⟨(h3 q hq).1.cs c, (h3 q hq).2.cs c⟩⟩
theorem Tw.turn {p : Nat} {sv fv sv' fv' : Value} {a w w' : World} (h : Tw p sv fv sv' fv' a w) {row : Option Nat} (hg : w.grownBy w' row) (hr : ∀ r, row = some r → a.heap.size ≤ r) : Tw p sv fv sv' fv' a w' :=
  ⟨hg.os.trans h.os, hg.tape.trans h.tape, hg.output.trans h.output, Nat.le_trans h.size hg.size, fun k hk hp hs hf => (hg.block k (Nat.lt_of_lt_of_le hk h.size) (fun e => by have := hr k e.symm; omega)).trans (h.block k hk hp hs hf), h.s, h.f⟩
theorem TyP.others {N p : Nat} {cv lv : Value} {w w' : World} {sv fv sv' fv' : Value} {s : Ts} (h : TyP N p cv lv w sv fv s) (t : Tw p sv fv sv' fv' w w') : KeepsOthers w w' :=
  ⟨t.size, fun k o hk hc => by
    obtain ⟨L, _, h2, _⟩ := h.o.fs
    refine (t.block k (Array.getElem?_eq_some_iff.1 hk).1 (fun e => ?_) (fun e => ?_) (fun e => ?_)).trans hk
    · subst e; rw [h.b] at hk; cases hk; cases hc
    · obtain ⟨o', ho', hc'⟩ := own_cells h.o.st e; rw [hk] at ho'; cases ho'; rw [hc] at hc'; cases hc'
    · obtain ⟨o', ho', hc'⟩ := own_cells h2 e; rw [hk] at ho'; cases ho'; rw [hc] at hc'; cases hc'⟩
theorem tPops_snoc : ∀ (l : List Int) (x : Int) (s : Ts), tPops (l ++ [x]) s = (tPops l s).bind fun u => (tPop x u).bind fun q => .ok q.2
  | [], x, s => rfl
  | t :: r, x, s => by
    show (tPop t s).bind (fun q => tPops (r ++ [x]) q.2) = ((tPop t s).bind fun q => tPops r q.2).bind _
    cases tPop t s with
    | error n => rfl
    | ok q => exact tPops_snoc r x q.2
theorem tPops_err : ∀ (l r : List Int) (s : Ts) (n : Int), tPops l s = .error n → tPops (l ++ r) s = .error n
  | [], r, s, n, h => by cases h
  | t :: l, r, s, n, h => by
    change (tPop t s).bind (fun q => tPops l q.2) = .error n at h
    show (tPop t s).bind (fun q => tPops (l ++ r) q.2) = .error n
    cases hp : tPop t s with
    | error m => rw [hp] at h; exact h
    | ok q => rw [hp] at h; exact tPops_err l r q.2 n h

/-- Where the types that k rounds take off have been taken. -/
def PopI (N p : Nat) (cv lv : Value) (w : World) (sv fv : Value) (s : Ts) (B0 Bx : Nat) (l : List Int) (la : Option Addr) (lc : Nat) (k : Nat) (W : World) : Prop :=
  ∃ sk sv', tPops (l.reverse.take k) s = .ok sk ∧ Wf sk ∧ TyP N p cv lv W sv' fv sk ∧ Tw p sv fv sv' fv w W ∧ LiB W p sv' fv la l ∧
    (Off W p sv' fv B0 ∧ W.heap[B0]? = some (.cells #[.pointer (some ⟨p, 0, none⟩)] 76 (0, 0))) ∧ Off W p sv' fv Bx ∧ W.heap[Bx]? = some (.cells #[.slice la l.length lc] 23 (0, 0))
def PopP (p : Nat) (w : World) (sv fv : Value) (s : Ts) (l : List Int) (ch : List PanicEntry) (W : World) : Prop :=
  ∃ m, tPops l.reverse s = .error m ∧ ch = faultV m ∧ ∃ sv' fv', Tw p sv fv sv' fv' w W
set_option maxRecDepth 100000 in
set_option maxHeartbeats 4000000 in
theorem pops_any {N p : Nat} {cv lv : Value} {w : World} {sv fv : Value} {s : Ts} (h : TyP N p cv lv w sv fv s) (hw : Wf s) {l : List Int} {la : Option Addr} {lc : Nat} (hl : LiB w p sv fv la l) (ht : ∀ t ∈ l, tyo t) :
    Calls Tryd.prog 41 #[.pointer (some ⟨p, 0, none⟩), .slice la l.length lc] w (endT N p cv lv w sv fv (tPopL l s)) := by
  have hlen : l.length ≤ 9223372036854775807 := hl.1.1
  have hnl : Below w.heap.size w ((w.alloc (.cells #[.pointer (some ⟨p, 0, none⟩)] 76)).alloc (.cells #[.slice la l.length lc] 23)) := ((Below.refl _ w).alloc (Nat.le_refl _) _).alloc (by simp) _
  have hoff : ∀ b, w.heap.size ≤ b → b ≠ p ∧ sv.ownBlock ≠ some b ∧ fv.ownBlock ≠ some b := fun b hb => by
    obtain ⟨L, _, h2, _⟩ := h.o.fs
    exact ⟨fun e => by have := lt_of_block h.b; omega, fun e => by have := (h.o.st.lt _ e).2; omega, fun e => by have := (h2.lt _ e).2; omega⟩
  refine calls_of_wpF (n := 5) Tryd.func41 rfl ?_
  simp only [Tryd.ntmps41, List.size_toArray, List.length_cons, List.length_nil, Nat.reduceAdd, Nat.reduceSub, Array.replicate_succ, Array.replicate_zero, List.push_toArray, List.append_toArray, List.nil_append, List.cons_append]
  refine wpF_seq (n := 5) ?_
  gi_wp2
  refine wpF_seq (n := 5) ?_
  gi_wp2_with (refine ⟨trivial, ?_⟩; gi_at_call 55; refine (callsIn_wide.2 (backward_any _ _ _ _)).mono ?_; rintro e w' ⟨rfl, rfl⟩)
  refine wpF_block ?_
  refine wpF_rangeFunc_P (n := 5) Tryd.func41 (gf := 63) (lb := #[.pointer (some ⟨w.heap.size + 1, 0, none⟩)]) rfl (enters_of Tryd.func63 (by kernel_rfl) rfl) (back_in 4 (by omega) (w.heap.size + 1) l la lc hlen) (fun _ => rfl)
    (PopI N p cv lv w sv fv s w.heap.size (w.heap.size + 1) l la lc) (PopP p w sv fv s l) ?hI ?hIp ?hK ?h0
    (fun k => { tmps := #[.pointer (some ⟨p, 0, none⟩), .slice la l.length lc, .pointer (some ⟨w.heap.size, 0, none⟩), undef, undef, .int .i64 (l[l.length - 1 - k]?.getD 0), .slice la l.length lc, .func (.func 63) #[] #[.pointer (some ⟨w.heap.size + 1, 0, none⟩)], .int .i64 ((l.length - 1 - k : Nat) : Int), .int .i64 (l[l.length - 1 - k]?.getD 0), undef, undef, undef], defers := [] }) ?assign ?body ?done ?pan
  case hI =>
    rintro k W W' row ⟨sk, sv', e1, e2, e3, e4, e5, ⟨e6, e7⟩, e8, e9⟩ hg hr
    have hc := Cs.of_grown hg (fun r e => (hr r e).2)
    have hlo : ∀ r, row = some r → w.heap.size ≤ r := fun r e => by have := (hr r e).1; simp at this; omega
    exact ⟨sk, sv', e1, e2, e3.cs hc, e4.turn hg hlo, e5.cs hc, ⟨⟨Nat.lt_of_lt_of_le e6.lt hg.size, e6.p, e6.s, e6.f⟩, hc.2 _ _ e7 rfl⟩, ⟨Nat.lt_of_lt_of_le e8.lt hg.size, e8.p, e8.s, e8.f⟩, hc.2 _ _ e9 rfl⟩
  case hIp =>
    rintro ch W W' row ⟨m, e1, e2, sv', fv', t⟩ hg hr
    exact ⟨m, e1, e2, sv', fv', t.turn hg (fun r e => by have := (hr r e).1; simp at this; omega)⟩
  case hK =>
    rintro k W ⟨sk, sv', e1, e2, e3, e4, e5, ⟨e6, e7⟩, e8, e9⟩
    exact ⟨by rw [cell_of_row W _ 0 _ _ _ e9]; rfl, e5.1⟩
  case h0 =>
    have o1 := hoff w.heap.size (Nat.le_refl _)
    have o2 := hoff (w.heap.size + 1) (by omega)
    refine ⟨s, sv, rfl, hw, h.step hnl, .of_below hnl, hl.tw (.of_below hnl), ⟨⟨by simp <;> omega, o1.1, o1.2.1, o1.2.2⟩, ?_⟩, ⟨by simp <;> omega, o2.1, o2.2.1, o2.2.2⟩, ?_⟩
    · exact (Below.heap_alloc _ _ _ (by simp)).trans (World.alloc_heap_new w _)
    · have := World.alloc_heap_new (w.alloc (.cells #[.pointer (some ⟨p, 0, none⟩)] 76)) (.cells #[.slice la l.length lc] 23)
      rwa [World.size_alloc] at this
  case assign =>
    intro l' k W K hK
    unfold encB
    gi_wp2
    exact hK
  case body =>
    rintro l' k W ⟨sk, sv', e1, e2, e3, e4, e5, ⟨e6, e7⟩, e8, e9⟩ hk
    obtain ⟨x, hx⟩ : ∃ x, l[l.length - 1 - k]? = some x := ⟨_, List.getElem?_eq_getElem (by omega)⟩
    have hxt : tyo x := ht x (List.mem_of_getElem? hx)
    have hr : l.reverse[k]? = some x := by rw [List.getElem?_reverse (by omega)]; exact hx
    have c0 : W.cell? ⟨w.heap.size, 0, none⟩ = some (.pointer (some ⟨p, 0, none⟩)) := by rw [cell_of_row W _ 0 _ _ _ e7]; rfl
    have hp := pop_any e3 e2 (t := x) (t' := x) (.inr ⟨hxt, rfl⟩)
    have hps := pop_sm e2 x
    have htk : l.reverse.take (k + 1) = l.reverse.take k ++ [x] := by rw [List.take_add_one, hr]; rfl
    simp only [hx, Option.getD_some]
    gi_wp2_with (refine ⟨trivial, ?_⟩; gi_at_call 51; refine (CallsIn.inRound l' (callsIn_wide.2 hp)).mono ?_)
    rintro e w' hq
    cases hpq : tPop x sk with
    | error m =>
      rw [hpq] at hq
      obtain ⟨rfl, sv2, fv2, t2⟩ := hq
      have hm : tPops (l.reverse.take (k + 1)) s = .error m := by rw [htk, tPops_snoc, e1]; show (tPop x sk).bind _ = _; rw [hpq]; rfl
      refine ⟨rfl, e3.others t2, m, ?_, rfl, sv2, fv2, e4.trans t2⟩
      have := tPops_err _ (l.reverse.drop (k + 1)) _ _ hm
      rwa [List.take_append_drop] at this
    | ok q =>
      rw [hpq] at hq hps
      obtain ⟨rfl, sv2, h2, t2⟩ := hq
      have hm : tPops (l.reverse.take (k + 1)) s = .ok q.2 := by rw [htk, tPops_snoc, e1]; show (tPop x sk).bind _ = _; rw [hpq]; rfl
      have hall : KeepsOthers W w' ∧ PopI N p cv lv w sv fv s w.heap.size (w.heap.size + 1) l la lc (k + 1) w' :=
        ⟨e3.others t2, q.2, sv2, hm, hps.1, h2, e4.trans t2, e5.tw t2, ⟨(e6.tw t2).1, (e6.tw t2).2.trans e7⟩, (e8.tw t2).1, (e8.tw t2).2.trans e9⟩
      replace hall := Lib.hid hall
      clear hm hpq htk hps hp hr e1 e2 e3 e4 e5 e6 e7 e8 e9 h2 t2
      gi_wp2
      exact hall.out
  case done =>
    rintro D W hD ⟨sk, sv', e1, e2, e3, e4, _⟩ hDk
    rw [List.take_of_length_le (by rw [List.length_reverse]; exact Nat.le_refl _)] at e1
    have hlo : w.heap.size ≤ D := by simp at hD; omega
    refine ⟨by simp, .inl ⟨_, _, rfl, run_takeDeferred hDk, ?_⟩⟩
    refine ⟨_, results_none rfl _ _ _, ?_⟩
    have hX : tPopL l s = .ok sk := e1
    rw [hX]
    exact ⟨rfl, sv', e3.cs (Cs.of_grown (grownBy_putObj' W D _) (fun r e => by cases e; exact ⟨_, hDk, rfl⟩)), e4.turn (grownBy_putObj' W D _) (fun r e => by cases e; exact hlo)⟩
  case pan =>
    rintro D ch W hD ⟨m, e1, rfl, sv', fv', t⟩ hDk
    have hlo : w.heap.size ≤ D := by simp at hD; omega
    refine ⟨by simp, .inl ⟨_, _, rfl, run_takeDeferred hDk, ?_⟩⟩
    have hX : tPopL l s = .error m := e1
    rw [hX]
    exact ⟨rfl, sv', fv', t.turn (grownBy_putObj' W D _) (fun r e => by cases e; exact hlo)⟩

end Go.Proofs.YtacohbllbjgdgaaDoor
