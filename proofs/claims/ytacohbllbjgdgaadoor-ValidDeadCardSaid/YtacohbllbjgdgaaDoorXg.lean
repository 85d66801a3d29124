/- The typer: what it types in; calls. -/
import Derived.Test.YtacohbllbjgdgaaDoorXf
namespace Go.Proofs.YtacohbllbjgdgaaDoor
open Go.RowKit
set_option linter.unusedVariables false
set_option linter.unusedSimpArgs false

/-- What a body is typed in, as it lies in memory: the checker's block. -/
structure EnvAt (w : World) (c : Nat) (lv : Value) (E : Ev) : Prop where
  types : ∃ a k, w.cell? ⟨c, 0, none⟩ = some (.slice a E.types.length k) ∧ RowsIn TypeAt 2 w a E.types
  tables : ∃ a k, w.cell? ⟨c, 3, none⟩ = some (.slice a E.tables k)
  mems : ∃ a k, w.cell? ⟨c, 4, none⟩ = some (.slice a E.mems k)
  globals : ∃ (a : Option Addr) (k : Nat) (gl : List (Int × Bool × One)), w.cell? ⟨c, 5, none⟩ = some (.slice a gl.length k) ∧ RowsIn GlobalAt 9 w a gl ∧ E.globals = gl.map fun g => (g.1, g.2.1)
  funcs : ∃ a k, w.cell? ⟨c, 10, none⟩ = some (.slice a E.funcs.length k) ∧ RowsIn TypeAt 2 w a E.funcs
  locals : ∃ a k, lv = .slice a E.locals.length k ∧ IntsIn w a E.locals
theorem EnvAt.keep {w w' : World} (f : Keeps w w') {c : Nat} {lv : Value} {E : Ev} (h : EnvAt w c lv E) : EnvAt w' c lv E := by
  obtain ⟨⟨a0, k0, h0, r0⟩, ⟨a3, k3, h3⟩, ⟨a4, k4, h4⟩, ⟨a5, k5, gl, h5, r5, e5⟩, ⟨a6, k6, h6, r6⟩, ⟨a7, k7, e7, r7⟩⟩ := h
  exact ⟨⟨a0, k0, f _ _ h0, r0.keep fun _ _ _ => .keep f⟩, ⟨a3, k3, f _ _ h3⟩, ⟨a4, k4, f _ _ h4⟩, ⟨a5, k5, gl, f _ _ h5, r5.keep fun _ _ _ => .keep f, e5⟩, ⟨a6, k6, f _ _ h6, r6.keep fun _ _ _ => .keep f⟩, ⟨a7, k7, e7, r7.keep f⟩⟩
/-- Where a body is typed. -/
structure Cx (w0 : World) (N p c : Nat) (lv : Value) (E : Ev) (w : World) (sv fv : Value) (s : Ts) : Prop where
  t : TyP N p (.pointer (some ⟨c, 0, none⟩)) lv w sv fv s
  wf : Wf s
  b : Below w0.heap.size w0 w
  p0 : w0.heap.size = p
  e0 : EnvAt w0 c lv E
  ok : EvOk E
section
variable {w0 : World} {N p c : Nat} {lv : Value} {E : Ev} {w w' : World} {sv fv sv' fv' : Value} {s : Ts}
theorem Cx.env (h : Cx w0 N p c lv E w sv fv s) : EnvAt w c lv E := h.e0.keep (keep_below h.b)
theorem Cx.step (h : Cx w0 N p c lv E w sv fv s) (b : Below w.heap.size w w') : Cx w0 N p c lv E w' sv fv s := ⟨h.t.step b, h.wf, h.b.trans (b.mono h.b.size), h.p0, h.e0, h.ok⟩
theorem Cx.go (h : Cx w0 N p c lv E w sv fv s) {u : Ts} (hu : Wf u) (t : TyP N p (.pointer (some ⟨c, 0, none⟩)) lv w' sv' fv' u) (tw : Tw p sv fv sv' fv' w w') : Cx w0 N p c lv E w' sv' fv' u :=
  ⟨t, hu, h.b.trans (by rw [h.p0]; exact h.t.o.below tw), h.p0, h.e0, h.ok⟩
/-- A list that lay there ahead of all. -/
theorem Cx.old (h : Cx w0 N p c lv E w sv fv s) {ao : Option Addr} {l : List Int} (hl : IntsIn w0 ao l) : LiB w p sv fv ao l := by
  have hN := h.t.o.hN
  obtain ⟨h1, h2⟩ := h.t.o.low
  refine .old (M := p) (hl.keep (keep_below h.b)) ?_ (Nat.le_refl _) (fun g hg => by have := h1 g hg; omega) (fun g hg => by have := h2 g hg; omega)
  rcases hl.2 with rfl | ⟨b, o, rfl, hc⟩
  · exact .inl rfl
  · cases l with
    | nil => exact .inl rfl
    | cons x r =>
      refine .inr fun ad e => ?_
      cases e
      have h3 : b < w0.heap.size := World.block_lt_of_cell? _ _ (hc 0 x rfl)
      have hp := h.p0
      show b < p
      omega
end
/-- What a function of the typer's tells. -/
def endF (N p : Nat) (cv lv : Value) (w : World) (sv fv : Value) (x : Except Int Ts) (e : Ending) (w' : World) : Prop :=
  match x with
  | .ok t => e = .returned (.tuple #[]) ∧ ∃ sv' fv', TyP N p cv lv w' sv' fv' t ∧ Tw p sv fv sv' fv' w w'
  | .error n => e = .panicked (faultV n) ∧ ∃ sv' fv', Tw p sv fv sv' fv' w w'
section
variable {N p : Nat} {cv lv : Value} {w w' wa : World} {sv fv : Value} {s : Ts}
theorem pop_ok (h : TyP N p cv lv w sv fv s) (hw : Wf s) {t t' : Int} (ht : (t = 0 ∧ t' = 2) ∨ (tyo t ∧ t' = t)) {q : Int × Ts} (hq : tPop t s = .ok q) :
    Calls Tryd.prog 51 #[.pointer (some ⟨p, 0, none⟩), .int .i64 t'] w fun e w' => e = .returned (.int .i64 (encT 1 q.1)) ∧ ∃ sv', TyP N p cv lv w' sv' fv q.2 ∧ Tw p sv fv sv' fv w w' := by
  have := pop_any h hw ht
  rw [hq] at this
  exact this
theorem pop_er (h : TyP N p cv lv w sv fv s) (hw : Wf s) {t t' : Int} (ht : (t = 0 ∧ t' = 2) ∨ (tyo t ∧ t' = t)) {n : Int} (hq : tPop t s = .error n) :
    Calls Tryd.prog 51 #[.pointer (some ⟨p, 0, none⟩), .int .i64 t'] w fun e w' => e = .panicked (faultV n) ∧ ∃ sv' fv', Tw p sv fv sv' fv' w w' := by
  have := pop_any h hw ht
  rw [hq] at this
  exact this
theorem pops_ok (h : TyP N p cv lv w sv fv s) (hw : Wf s) {l : List Int} {la : Option Addr} {lc : Nat} (hl : LiB w p sv fv la l) (ht : ∀ t ∈ l, tyo t) {u : Ts} (hq : tPopL l s = .ok u) :
    Calls Tryd.prog 41 #[.pointer (some ⟨p, 0, none⟩), .slice la l.length lc] w fun e w' => e = .returned (.tuple #[]) ∧ ∃ sv', TyP N p cv lv w' sv' fv u ∧ Tw p sv fv sv' fv w w' := by
  have := pops_any (lc := lc) h hw hl ht
  rw [hq] at this
  exact this
theorem pops_er (h : TyP N p cv lv w sv fv s) (hw : Wf s) {l : List Int} {la : Option Addr} {lc : Nat} (hl : LiB w p sv fv la l) (ht : ∀ t ∈ l, tyo t) {n : Int} (hq : tPopL l s = .error n) :
    Calls Tryd.prog 41 #[.pointer (some ⟨p, 0, none⟩), .slice la l.length lc] w fun e w' => e = .panicked (faultV n) ∧ ∃ sv' fv', Tw p sv fv sv' fv' w w' := by
  have := pops_any (lc := lc) h hw hl ht
  rw [hq] at this
  exact this
theorem enc_tyo {t : Int} (h : tyo t) : encT 1 t = t := by unfold encT; unfold tyo at h; rw [if_neg (by omega)]
theorem enc_map {l : List Int} (h : ∀ t ∈ l, tyo t) : l.map (encT 1) = l := by
  induction l with
  | nil => rfl
  | cons x r ih => rw [List.map_cons, enc_tyo (h x List.mem_cons_self), ih fun t ht => h t (List.mem_cons_of_mem _ ht)]
theorem push_ty (h : TyP N p cv lv w sv fv s) {l : List Int} {la : Option Addr} {lc : Nat} (hl : IntsIn w la l) (ht : ∀ t ∈ l, tyo t) (hb : s.st.length + l.length ≤ 1099511627776) :
    Calls Tryd.prog 47 #[.pointer (some ⟨p, 0, none⟩), .slice la l.length lc] w fun e w' => e = .returned (.tuple #[]) ∧ ∃ sv', TyP N p cv lv w' sv' fv (tPush l s) ∧ Tw p sv fv sv' fv w w' :=
  push_any (lc := lc) h (by rw [enc_map ht]; exact hl) hb
theorem ints_one1 (w : World) (v : Int) : IntsIn (w.alloc (.cells #[.int .i64 v] 3)) (some ⟨w.heap.size, 0, none⟩) [v] :=
  ⟨by simp, .inr ⟨_, _, rfl, fun i x hx => by
    have hi : i = 0 := by have := (List.getElem?_eq_some_iff.1 hx).1; simp at this; omega
    subst hi
    simp at hx
    subst hx
    exact World.cell?_alloc_at _ _ _ 0 (by simp)⟩⟩
theorem push1 (h : TyP N p cv lv w sv fv s) {t v : Int} (hv : v = encT 1 t) (hb : s.st.length + 1 ≤ 1099511627776) :
    Calls Tryd.prog 47 #[.pointer (some ⟨p, 0, none⟩), .slice (some ⟨w.heap.size, 0, none⟩) 1 1] (w.alloc (.cells #[.int .i64 v] 3)) fun e w' => e = .returned (.tuple #[]) ∧ ∃ sv', TyP N p cv lv w' sv' fv (tPush [t] s) ∧ Tw p sv fv sv' fv w w' := by
  have ha := Below.of_alloc w (.cells #[.int .i64 v] 3)
  have := push_any (l := [t]) (la := some ⟨w.heap.size, 0, none⟩) (lc := 1) (h.step ha) (by rw [List.map_singleton, ← hv]; exact ints_one1 w v) hb
  refine this.mono ?_
  rintro e w' ⟨rfl, sv', h1, t1⟩
  exact ⟨rfl, sv', h1, (Tw.of_below ha).trans t1⟩
theorem tPop_len {t : Int} {s : Ts} {q : Int × Ts} (h : tPop t s = .ok q) : q.2.st.length ≤ s.st.length := by
  unfold tPop at h
  split at h
  · cases h
  · split at h
    · split at h
      · cases h; exact Nat.le_refl _
      · cases h
    · split at h
      · cases h
      · rename_i x r hst
        split at h
        · cases h
        · cases h
          rw [hst]
          simp
theorem tPops_len : ∀ (l : List Int) {s u : Ts}, tPops l s = .ok u → u.st.length ≤ s.st.length
  | [], s, u, h => by cases h; exact Nat.le_refl _
  | t :: r, s, u, h => by
    change (tPop t s).bind (fun q => tPops r q.2) = .ok u at h
    cases hp : tPop t s with
    | error n => rw [hp] at h; cases h
    | ok q =>
      rw [hp] at h
      exact Nat.le_trans (tPops_len r h) (tPop_len hp)
theorem tPopL_wf {s u : Ts} (hw : Wf s) {l : List Int} (h : tPopL l s = .ok u) : Wf u ∧ Kf s u := by
  have := popL_sm hw l
  rw [h] at this
  exact ⟨this.1, this.2.1⟩
theorem tPop_wf {s : Ts} (hw : Wf s) {t : Int} {q : Int × Ts} (h : tPop t s = .ok q) : Wf q.2 ∧ Kf s q.2 ∧ ok01 q.1 := by
  have := pop_sm hw t
  rw [h] at this
  exact ⟨this.1, this.2.1, this.2.2.1⟩
set_option maxRecDepth 100000 in
set_option maxHeartbeats 1000000 in
theorem calls_any (h : TyP N p cv lv w sv fv s) (hw : Wf s) {t : List Int × List Int} {pa ra : Option Addr} {pc rc : Nat} (h1 : LiB w p sv fv pa t.1) (h2 : LiB w p sv fv ra t.2) (t1 : ∀ x ∈ t.1, tyo x) (t2 : ∀ x ∈ t.2, tyo x)
    (b2 : s.st.length + t.2.length ≤ 1099511627776) :
    Calls Tryd.prog 52 #[.pointer (some ⟨p, 0, none⟩), .agg #[.slice pa t.1.length pc, .slice ra t.2.length rc]] w (endT N p cv lv w sv fv (tCalls t s)) := by
  have ha := Below.of_alloc w (.cells #[.slice pa t.1.length pc, .slice ra t.2.length rc] 28)
  have tw1 : Tw p sv fv sv fv w (w.alloc (.cells #[.slice pa t.1.length pc, .slice ra t.2.length rc] 28)) := .of_below ha
  cases hq : tPopL t.1 s with
  | error n =>
    have hX : tCalls t s = .error n := by unfold tCalls; rw [hq]; rfl
    rw [hX]
    have hc := pops_er (lc := pc) (h.step ha) hw (h1.tw tw1) t1 hq
    clear hX hq
    go_enter Tryd.func52, Tryd.ntmps52
    go_wp2_with fail
    refine hc.mono ?_
    rintro e w2 ⟨rfl, sv2, fv2, tw2⟩
    go_wp2
    exact ⟨rfl, rfl, sv2, fv2, tw1.trans tw2⟩
  | ok u =>
    have hX : tCalls t s = .ok (tPush t.2 u) := by unfold tCalls; rw [hq]; rfl
    rw [hX]
    have hc := pops_ok (lc := pc) (h.step ha) hw (h1.tw tw1) t1 hq
    have hle : u.st.length ≤ s.st.length := tPops_len _ hq
    have hoff : Off (w.alloc (.cells #[.slice pa t.1.length pc, .slice ra t.2.length rc] 28)) p sv fv w.heap.size := by
      obtain ⟨L, _, h3, _⟩ := h.o.fs
      exact ⟨by simp, fun e => by have := lt_of_block h.b; omega, fun e => by have := (h.o.st.lt _ e).2; omega, fun e => by have := (h3.lt _ e).2; omega⟩
    clear hX hq
    go_enter Tryd.func52, Tryd.ntmps52
    go_wp2_with fail
    refine hc.mono ?_
    rintro e w2 ⟨rfl, sv2, h3, tw2⟩
    have c1 : w2.cell? ⟨w.heap.size, 1, none⟩ = some (.slice ra t.2.length rc) := by
      rw [World.cell?_of_block (hoff.tw tw2).2]
      exact World.cell?_alloc_at _ _ _ 1 (by simp)
    have hl2 := (h2.tw tw1).tw tw2
    go_wp2_with fail
    refine (push_ty (lc := rc) h3 hl2.1 t2 (by omega)).mono ?_
    rintro e w3 ⟨rfl, sv3, h4, tw3⟩
    go_wp2
    go_end0
    exact ⟨rfl, sv3, h4, (tw1.trans tw2).trans tw3⟩
end
/-- A new block. -/
theorem TyP.off {N p : Nat} {cv lv : Value} {w : World} {sv fv : Value} {s : Ts} (h : TyP N p cv lv w sv fv s) (o : Obj) : Off (w.alloc o) p sv fv w.heap.size := by
  obtain ⟨L, _, h3, _⟩ := h.o.fs
  exact ⟨by simp, fun e => by have := lt_of_block h.b; omega, fun e => by have := (h.o.st.lt _ e).2; omega, fun e => by have := (h3.lt _ e).2; omega⟩

end Go.Proofs.YtacohbllbjgdgaaDoor
