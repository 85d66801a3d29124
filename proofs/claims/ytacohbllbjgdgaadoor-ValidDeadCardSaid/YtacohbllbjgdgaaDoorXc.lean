/- The typer: push, dies, goes, and small functions. -/
import Derived.Test.YtacohbllbjgdgaaDoorXb
namespace Go.Proofs.YtacohbllbjgdgaaDoor
open Go.RowKit
set_option linter.unusedVariables false
set_option linter.unusedSimpArgs false

theorem info3v : (Tryd.prog.info? 3).map (fun i => (i.zero, i.size, i.bytes)) = some (some (.int .i64 0), 1, 8) := by kernel_rfl
theorem info3v_parts : ∃ i, Tryd.prog.info? 3 = some i ∧ i.zero = some (.int .i64 0) ∧ i.size = 1 ∧ i.bytes = 8 := by
  have h := info3v
  cases hi : Tryd.prog.info? 3 with
  | none => rw [hi] at h; cases h
  | some i => rw [hi] at h; simp only [Option.map_some, Option.some.injEq, Prod.mk.injEq] at h; exact ⟨i, rfl, h.1, h.2.1, h.2.2⟩
def endT (N p : Nat) (cv lv : Value) (w : World) (sv fv : Value) (x : Except Int Ts) (e : Ending) (w' : World) : Prop :=
  match x with
  | .ok t => e = .returned (.tuple #[]) ∧ ∃ sv', TyP N p cv lv w' sv' fv t ∧ Tw p sv fv sv' fv w w'
  | .error n => e = .panicked (faultV n) ∧ ∃ sv' fv', Tw p sv fv sv' fv' w w'
theorem ints_news {w : World} {b o : Nat} {l : List Int} (hc : ∀ i x, l[i]? = some x → w.cell? ⟨b, o + i, none⟩ = some (.int .i64 x)) : ∀ j u, (l.map fun x => Value.int .i64 x)[j]? = some u → w.cell? ((⟨b, o, none⟩ : Addr).add j) = some u := fun j u hu => by
  rw [List.getElem?_map] at hu
  cases hl : l[j]? with
  | none => rw [hl] at hu; cases hu
  | some x =>
    rw [hl] at hu
    cases hu
    have hadd : (⟨b, o, none⟩ : Addr).add j = ⟨b, o + j, none⟩ := by unfold Addr.add; split <;> simp_all
    rw [hadd]
    exact hc j x hl
theorem own_sl {w : World} {base : Nat} {e : TypeId} {size n : Nat} {v : Value} {xs : List Value} (h : w.ownsRow base e size v n xs) : ∃ a c, v = .slice a n c := by
  rcases h.2 with ⟨rfl, rfl⟩ | ⟨g, cap, cur, rfl, _⟩
  · exact ⟨_, _, rfl⟩
  · exact ⟨_, _, rfl⟩
theorem run_append_owned_nothing {P : Program} (w : World) (base : Nat) (t ty e : TypeId) (i : TypeInfo) (size : Nat) (ht : P.underlying t = some (.slice e)) (hi : P.info? e = some i)
    (v : Value) (n c : Nat) (xs : List Value) (hown : w.ownsRow base e size v n xs) : (Builtin.append_ #[t, t] ty #[v, .slice none 0 c]).run P w = .ok v w := by
  rcases hown.2 with ⟨rfl, rfl⟩ | ⟨g, cap, cur, rfl, _, _, hnc, _⟩
  · simp [Builtin.append_, run_underlying ht, sizeOf, typeInfo, hi, Builtin.lenOf, Builtin.firstCells]
  · simp [Builtin.append_, run_underlying ht, sizeOf, typeInfo, hi, Builtin.lenOf, Builtin.firstCells, hnc, storeCells]
theorem wpList_append_nothing {P : Program} (w : World) {ops : Array Oper} {rest : List Oper} {o : Oper} {a : Act} {Q : Exit → Act → World → Prop} (hgd : o.guard = none) (s x : Operand) (t : TypeId)
    (ho : o.op = .call { callee := .builtin .append, args := #[s, x], argTypes := #[t, t] }) (base : Nat) (e : TypeId) (i : TypeInfo) (size : Nat) (ht : P.underlying t = some (.slice e)) (hi : P.info? e = some i)
    (v : Value) (n c : Nat) (xs : List Value) (hs : a.eval s = v) (hown : w.ownsRow base e size v n xs) (hx : a.eval x = .slice none 0 c)
    (h : wpList P ops Q rest (a.put o.dst v) w) : wpList P ops Q (o :: rest) a w := by
  refine wpList_plain hgd fun K hK => ?_
  have hr := run_append_owned_nothing (P := P) w base t o.type e i size ht hi v n c xs hown
  unfold Oper.wp execOp
  simp only [ho, resolve, invoke, builtin, Sem.run_bind, Sem.run_pure, Result.andThen_ok, List.map_toArray, List.map_cons, List.map_nil, hs, hx, hr]
  exact hK _ _ h
set_option maxRecDepth 100000 in
set_option maxHeartbeats 4000000 in
theorem push_any {N p : Nat} {cv lv : Value} {w : World} {sv fv : Value} {s : Ts} (h : TyP N p cv lv w sv fv s) {l : List Int} {la : Option Addr} {lc : Nat} (hl : IntsIn w la (l.map (encT 1))) (hb : s.st.length + l.length ≤ 1099511627776) :
    Calls Tryd.prog 47 #[.pointer (some ⟨p, 0, none⟩), .slice la l.length lc] w (endT N p cv lv w sv fv (.ok (tPush l s))) := by
  obtain ⟨i3, hi3, hz3, hs3, hb3⟩ := info3v_parts
  obtain ⟨k0, k1, k2, k3, z2, z3⟩ := h.c
  have hpb := lt_of_block h.b
  have hne : sv.ownBlock ≠ some p := fun e => by have := h.o.low.1 p e; have := h.o.hN; omega
  have hN := h.o.hw
  have fin : ∀ v' w1, w1.ownsRow N 3 1 v' (s.st.length + l.length) (stC 1 s.st ++ (l.map (encT 1)).map fun x => Value.int .i64 x) → w.grownBy w1 sv.ownBlock → (v'.ownBlock = sv.ownBlock ∨ v'.ownBlock = some w.heap.size) →
      Hid (TyP N p cv lv (w1.setCell ⟨p, 2, none⟩ v') v' fv (tPush l s) ∧ Tw p sv fv v' fv w (w1.setCell ⟨p, 2, none⟩ v')) ∧ w1.cell? ⟨p, 2, none⟩ = some sv ∧ w1.frozen? ⟨p, 2, none⟩ = false := fun v' w1 ho hg ha => by
    obtain ⟨o1, t1⟩ := h.o.push (by decide) (by rw [List.map_map] at ho; exact ho) hg ha
    have hp1 : w1.heap[p]? = some (.cells #[cv, lv, sv, fv] 80 (0, 0)) := by rw [hg.block p hpb (fun e => hne e.symm)]; exact h.b
    exact ⟨Lib.hid ⟨⟨by rw [heap_setCell_same w1 p 2 _ _ _ hp1]; rfl, o1.setP 2 v'⟩, t1.set 2 v'⟩, by rw [cell_of_row w1 p 2 _ _ _ hp1]; rfl, frozen_of_row w1 p 2 _ _ hp1⟩
  obtain ⟨h63, hc⟩ := hl
  have hown := h.o.st
  cases la with
  | none =>
    have hnil : l = [] := by
      rcases hc with hc | ⟨b, o, e, _⟩
      · simpa using hc
      · cases e
    subst hnil
    obtain ⟨hf, _, _⟩ := fin sv w (by simpa using h.o.st) ⟨rfl, rfl, rfl, Nat.le_refl _, fun _ _ _ => rfl⟩ (.inl rfl)
    obtain ⟨sa, sc, rfl⟩ := own_sl hown
    clear fin h hpb hne hN
    go_enter Tryd.func47, Tryd.ntmps47
    go_wp2_with (first | (
      at_builtin
      refine wpList_append_nothing _ rfl _ _ _ rfl N 3 i3 1 Tryd.underlying23 hi3 _ s.st.length lc _ (by rfl) hown (by rfl) ?_))
    go_end0
    exact ⟨rfl, _, hf.out.1, hf.out.2⟩
  | some ad =>
    have hnews : ∀ j u, ((l.map (encT 1)).map fun x => Value.int .i64 x)[j]? = some u → w.cell? (ad.add j) = some u := by
      rcases hc with hc | ⟨b', o', e, hc⟩
      · rw [hc]; intro j u hu; cases hu
      · cases e; exact ints_news hc
    clear hc h
    go_enter Tryd.func47, Tryd.ntmps47
    go_wp2_with (first | (
      at_builtin
      refine wpList_append_own_at _ rfl _ _ _ rfl N 3 i3 _ 1 8 Tryd.underlying23 hi3 hz3 hs3 hb3 rfl (by omega) sv s.st.length _ (by rfl) hown ad l.length lc _ (by rfl) (by simp) hnews (by intro u hu; simp only [List.mem_map] at hu; obtain ⟨x, _, rfl⟩ := hu; rfl) (by unfold maxLen; omega) (by omega) hN ?_
      intro v' w1 hown1 hgrow hnil hat
      obtain ⟨sa', sc', rfl⟩ := own_sl hown1
      obtain ⟨hf, y2, f2⟩ := fin _ w1 hown1 hgrow hat
      obtain ⟨sa, sc, hsv⟩ := own_sl hown
      rw [hsv] at y2))
    go_end0
    exact ⟨rfl, _, hf.out.1, hf.out.2⟩
theorem has_yes {n m : Int} (h : n < m) (w : World) : Calls Tryd.prog 22 #[.int .i64 n, .int .i64 m] w fun e w' => e = .returned (.tuple #[]) ∧ w = w' := by
  have := has_any n m w
  rw [decide_eq_true h] at this
  exact this
theorem has_no {n m : Int} (h : ¬ n < m) (w : World) : Calls Tryd.prog 22 #[.int .i64 n, .int .i64 m] w fun e w' => e = .panicked (faultV 61) ∧ w = w' := by
  have := has_any n m w
  rw [decide_eq_false h] at this
  exact this
theorem tDies_eq {s : Ts} {f : Fr} {r : List Fr} (hf : s.fs = f :: r) : tDies s = ⟨s.st.drop (s.st.length - f.h), { f with dead := true } :: r⟩ := by unfold tDies; rw [hf]
/-- Any number of types is taken off. -/
theorem Ows.cut {N p : Nat} {et : TypeId} {un : Int} {w : World} {sv fv : Value} {s : Ts} (h : Ows N p et un w sv fv s) {m : Nat} (hm : m ≤ s.st.length) : ∃ a n c, sv = .slice a n c ∧ m ≤ c ∧ n = s.st.length ∧ n ≤ 9223372036854775807 ∧ c ≤ 9223372036854775807 ∧ Ows N p et un w (.slice a m c) fv ⟨s.st.drop (s.st.length - m), s.fs⟩ ∧ (Value.slice a m c).ownBlock = sv.ownBlock := by
  have hst := h.st
  rcases hst.2 with ⟨rfl, h0⟩ | ⟨g, cap, cur, rfl, _, _, hn, hc, _⟩
  · have : m = 0 := by omega
    subst this
    have hs : s.st = [] := List.eq_nil_of_length_eq_zero h0
    refine ⟨none, 0, 0, rfl, by omega, by omega, by omega, by omega, ?_, rfl⟩
    have e : (⟨s.st.drop (s.st.length - 0), s.fs⟩ : Ts) = s := by rw [hs]; cases s; simp at hs; subst hs; rfl
    rw [e]
    exact h
  · simp only [maxLen] at hc
    exact ⟨_, _, cap, rfl, by omega, rfl, by omega, by omega, h.drop rfl hm, rfl⟩
set_option maxRecDepth 100000 in
set_option maxHeartbeats 4000000 in
theorem dies_any {N p : Nat} {cv lv : Value} {w : World} {sv fv : Value} {s : Ts} (h : TyP N p cv lv w sv fv s) (hw : Wf s) :
    Calls Tryd.prog 61 #[.pointer (some ⟨p, 0, none⟩)] w (endT N p cv lv w sv fv (.ok (tDies s))) := by
  obtain ⟨f, r, hf, hh⟩ := hw.fs
  rw [tDies_eq hf]
  go_enter Tryd.func61, Tryd.ntmps61
  go_wp2_with fail
  refine (top_any h hf).mono ?_
  rintro e w1 ⟨⟨g, cap, rfl, rfl⟩, b1⟩
  have h1 := h.step b1
  obtain ⟨g', cap', fa, hfv', hg, c0, c1, c2, c3, z3, l1, l2, hn, hm⟩ := h1.o.top hf
  cases hfv'
  obtain ⟨k0, k1, k2, k3, z2, z3'⟩ := h1.c
  obtain ⟨sa, sn, sc, rfl, hsc, rfl, hsl, hcl, ho, hob⟩ := h1.o.cut hh
  have i0 : (0 : Int) ≤ (f.h : Int) := by omega
  have i1 : (f.h : Int) ≤ (sc : Int) := by omega
  go_wp2_with fail
  refine wp_region_still_tail 10 (by kernel_rfl) (by kernel_rfl) ?_
  simp only [List.take_succ_cons, List.take_zero, List.drop_succ_cons, List.drop_zero]
  repeat still_step
  refine wpStill_nil ?_
  change wpList _ _ _ _ _ w1.drew
  have h4 := h1.step (w' := w1.drew) (below_drawn 1)
  have b4 : Below w.heap.size w w1.drew := b1.trans ((below_drawn (w := w1) 1).mono b1.size)
  have ho4 := ho.step (w' := w1.drew) (below_drawn 1)
  obtain ⟨w4, hw4⟩ : ∃ w4, w4 = w1.drew := ⟨_, rfl⟩
  rw [← hw4] at h4 b4 ho4 ⊢
  clear hw4 h1 b1 ho k0 k1 k2 k3 z2 z3' c0 c1 c2 c3 z3
  obtain ⟨k0, k1, k2, k3, z2, z3'⟩ := h4.c
  have h5 := h4.setS ho4
  have t5 := ((Tw.of_below (p := p) (sv := .slice sa s.st.length sc) (fv := .slice (some ⟨g, 0, none⟩) (r.length + 1) cap) b4).cutS (sv'' := .slice sa f.h sc) hob).set 2 (.slice sa f.h sc)
  have hr5 := h5.o.top (f := f) (r := r) hf
  obtain ⟨g', cap', fa', hfv', _, _, _, c2', c3', z3, _, _, _, _⟩ := hr5
  cases hfv'
  obtain ⟨o6, t6⟩ := h5.o.die (by decide) rfl (f := f) (r := r) hf
  have hgp : g ≠ p := fun e => by have := h5.o.hN; omega
  go_wp2_with fail
  go_end0
  refine ⟨rfl, _, ⟨?_, o6⟩, t5.trans t6⟩
  exact (Below.heap_setCell _ _ _ _ (show p ≠ g from fun e => hgp e.symm)).trans h5.b
/-- What a label takes along. -/
def Gq (p : Nat) (w : World) (sv fv : Value) (x : Except Int (List Int)) (e : Ending) (w' : World) : Prop :=
  match x with
  | .ok g => (∃ ga gc, e = .returned (.slice ga g.length gc) ∧ LiB w' p sv fv ga g) ∧ Below w.heap.size w w'
  | .error k => e = .panicked (faultV k) ∧ Below w.heap.size w w'
set_option maxRecDepth 100000 in
set_option maxHeartbeats 4000000 in
theorem goes_any {N p : Nat} {cv lv : Value} {w : World} {sv fv : Value} {s : Ts} (h : TyP N p cv lv w sv fv s) {n : Int} (h0 : 0 ≤ n) :
    Calls Tryd.prog 59 #[.pointer (some ⟨p, 0, none⟩), .int .i64 n] w (Gq p w sv fv (tGoes n s)) := by
  obtain ⟨k0, k1, k2, k3, z2, z3⟩ := h.c
  obtain ⟨L, hL1, hL2, hL3⟩ := h.o.fs
  have hll : L.length = s.fs.length := by rw [← hL1, List.length_map]
  obtain ⟨fa, fc, hfv⟩ := own_sl hL2
  rw [hll] at hfv
  rw [hfv] at k3
  by_cases hn : n < (s.fs.length : Int)
  · obtain ⟨k, rfl⟩ : ∃ k : Nat, n = k := ⟨n.toNat, by omega⟩
    have hk : k < s.fs.length := by omega
    obtain ⟨f, hf⟩ : ∃ f, s.fs[k]? = some f := ⟨_, List.getElem?_eq_getElem hk⟩
    have hX : tGoes (k : Int) s = .ok f.goes := by
      unfold tGoes
      rw [if_pos hn]
      have : s.fs.getD k fr0 = f := by rw [List.getD_eq_getElem?_getD, hf]; rfl
      rw [Int.toNat_natCast, this]
    rw [hX]
    clear hX
    obtain ⟨g, cap, fa', hfv', hg, c0, c1, c2, c3, z3', l1, l2, hn2, hm⟩ := h.o.frame hf
    rw [hfv] at hfv'
    cases hfv'
    simp only [maxLen] at hm
    have e1 : IntKind.i64.wrap ((s.fs.length : Int) - 1) = ((s.fs.length - 1 : Nat) : Int) := by rw [IntKind.wrap_i64]; omega
    have e2 : IntKind.i64.wrap (((s.fs.length - 1 : Nat) : Int) - (k : Int)) = ((s.fs.length - 1 - k : Nat) : Int) := by rw [IntKind.wrap_i64]; omega
    have i1 : (0 : Int) ≤ ((s.fs.length - 1 - k : Nat) : Int) := by omega
    have i2 : ((s.fs.length - 1 - k : Nat) : Int) < (s.fs.length : Int) := by omega
    have hH := fun w => has_yes hn w
    go_enter Tryd.func59, Tryd.ntmps59
    go_wp2_with fail
    refine (hH _).mono ?_
    rintro e w' ⟨rfl, rfl⟩
    go_wp2_with fail
    go_quiet (fail)
    go_wp2_with fail
    go_ret
    exact ⟨⟨_, _, rfl, l1.tw (.of_below (below_drawn nq))⟩, below_drawn nq⟩
  · have hX : tGoes n s = .error 61 := by unfold tGoes; rw [if_neg hn]
    rw [hX]
    have hH := fun w => has_no hn w
    go_enter Tryd.func59, Tryd.ntmps59
    go_wp2_with fail
    refine (hH _).mono ?_
    rintro e w' ⟨rfl, rfl⟩
    go_wp2_with fail
    exact ⟨rfl, rfl, Below.refl _ _⟩

end Go.Proofs.YtacohbllbjgdgaaDoor
