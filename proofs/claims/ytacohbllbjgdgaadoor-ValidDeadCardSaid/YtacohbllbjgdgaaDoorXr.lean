/- slices.Grow of nothing; slices.Concat of two lists of numbers. -/
import Derived.Test.YtacohbllbjgdgaaDoorXq
import Derived.Shelf.Spec.SlicesGrow
namespace Go.Proofs.YtacohbllbjgdgaaDoor
open Go.RowKit
set_option linter.unusedVariables false
set_option linter.unusedSimpArgs false

theorem wpList_append_run {P : Program} (w : World) {ops : Array Oper} {rest : List Oper} {o : Oper} {a : Act} {Q : Exit → Act → World → Prop} (hgd : o.guard = none) (s x : Operand) (t u : TypeId)
    (ho : o.op = .call { callee := .builtin .append, args := #[s, x], argTypes := #[t, u] }) (v xv r : Value) (w' : World) (hs : a.eval s = v) (hx : a.eval x = xv) (hr : (Builtin.append_ #[t, u] o.type #[v, xv]).run P w = .ok r w')
    (h : wpList P ops Q rest (a.put o.dst r) w') : wpList P ops Q (o :: rest) a w := by
  refine wpList_plain hgd fun K hK => ?_
  unfold Oper.wp execOp
  simp only [ho, resolve, invoke, builtin, Sem.run_bind, Sem.run_pure, Result.andThen_ok, List.map_toArray, List.map_cons, List.map_nil, hs, hx, hr]
  exact hK _ _ h
set_option maxRecDepth 100000 in
set_option maxHeartbeats 1000000 in
theorem grow_nil (n : Nat) (hn : n ≤ 1099511627776) (w : World) : Calls Tryd.prog 38 #[.slice none 0 0, .int .i64 n] w fun e w' => ∃ a c, e = .returned (.slice a 0 c) ∧ w'.ownsRow w.heap.size 3 1 (.slice a 0 c) 0 [] ∧ Below w.heap.size w w' := by
  obtain ⟨i3, hi3, hz3, hs3, hb3⟩ := info3v_parts
  have h1 : ¬ ((n : Int) < 0) := by omega
  have h2 : IntKind.i64.wrap (n : Int) = (n : Int) := by rw [IntKind.wrap_i64]; omega
  by_cases h0 : n = 0
  · subst h0
    go_enter Tryd.func38, Tryd.ntmps38
    go_wp2
    go_ret
    exact ⟨_, _, rfl, World.ownsRow_nil _ _ _ _, Below.refl _ _⟩
  · have h4 : (n : Int) > 0 := by omega
    have hz := Lib.run_append_grow_zeros w 23 3 23 3 i3 (.int .i64 0) .i64 .i64 Tryd.underlying23 Tryd.underlying3 hi3 hz3 none 0 0 [] (run_firstCells_none w.drew i3.size 0 0 0) n (by omega) (by rw [hs3]; omega) (by omega) (by omega)
      (by rw [hb3]; omega) (by rw [hb3]; exact growslice_fits (by omega) (by omega))
    simp only [Nat.zero_add, List.nil_append, Nat.add_zero] at hz
    have hG := grownCap_ge w n 0 3
    obtain ⟨G, hGe⟩ : ∃ G, G = grownCap w n 0 3 := ⟨_, rfl⟩
    have hGm := grownCap_le_maxLen w n 0 3 (by unfold maxLen; omega)
    rw [← hGe] at hz hG hGm
    have i0 : (0 : Int) ≤ (G : Int) := by omega
    obtain ⟨w1, hw1⟩ : ∃ w1, w1 = w.drew.alloc (.cells (Builtin.zeroCells (Value.int .i64 0).cells n ++ Builtin.zeroCells (Value.int .i64 0).cells (G - n)) 3) := ⟨_, rfl⟩
    have hz1 : (Builtin.append_ #[23, 3] 23 #[.slice none 0 0, .int .i64 n]).run Tryd.prog w = .ok (.slice (some ⟨w.heap.size, 0, none⟩) n G) w1 := by rw [hz, hw1]; simp
    have hown : w1.ownsRow w.heap.size 3 1 (.slice (some ⟨w.heap.size, 0, none⟩) 0 G) 0 [] := by
      rw [hw1]
      exact World.ownsRow_made w.drew _ G (Nat.le_refl _) hGm (by simp [Builtin.zeroCells, Value.cells]; omega)
    have hbel : Below w.heap.size w w1 := by
      rw [hw1]
      exact (below_drawn (w := w) 1).trans (Below.of_alloc w.drew _)
    replace hown := Lib.hid hown
    replace hbel := Lib.hid hbel
    clear hw1 hz hGe
    go_enter Tryd.func38, Tryd.ntmps38
    go_wp2_with (first | (
      at_builtin
      refine wpList_append_run _ rfl _ _ _ _ rfl _ _ _ _ (by rfl) (by rfl) hz1 ?_))
    go_wp2
    go_ret
    exact ⟨_, _, rfl, hown.out, hbel.out⟩
theorem ints_own {w : World} {base n : Nat} {a : Option Addr} {c : Nat} {l : List Int} (h : w.ownsRow base 3 1 (.slice a n c) n (l.map fun x => Value.int .i64 x)) : l.length = n ∧ IntsIn w a l ∧ (l = [] ∨ ∀ ad, a = some ad → base ≤ ad.block) := by
  have hl : l.length = n := by have := h.1; simpa using this
  subst hl
  rcases h.2 with ⟨hv, h0⟩ | ⟨g, cap, cur, hv, hb, hg, hn, hm, _⟩
  · have : l = [] := List.eq_nil_of_length_eq_zero h0
    subst this
    exact ⟨rfl, ⟨by simp, .inl rfl⟩, .inl rfl⟩
  · simp only [Value.slice.injEq] at hv
    obtain ⟨rfl, _, rfl⟩ := hv
    simp only [maxLen] at hm
    refine ⟨rfl, ⟨by omega, .inr ⟨g, 0, rfl, fun i x hx => ?_⟩⟩, .inr fun ad e => by cases e; exact hb⟩
    have hi := (List.getElem?_eq_some_iff.1 hx).1
    rw [Nat.zero_add, h.cellAt i (by omega), List.getElem?_map, hx]
    rfl
theorem wpList_append_ints (w : World) {ops : Array Oper} {rest : List Oper} {o : Oper} {a : Act} {Q : Exit → Act → World → Prop} (hgd : o.guard = none) (s x : Operand)
    (ho : o.op = .call { callee := .builtin .append, args := #[s, x], argTypes := #[23, 23] }) (base : Nat) (v : Value) (n : Nat) (xs : List Value) (hs : a.eval s = v) (hown : w.ownsRow base 3 1 v n xs)
    (la : Option Addr) (l : List Int) (lc : Nat) (hx : a.eval x = .slice la l.length lc) (hi : IntsIn w la l) (hb : n + l.length ≤ 1099511627776) (hbase : base ≤ w.heap.size)
    (h : ∀ v' w', w'.ownsRow base 3 1 v' (n + l.length) (xs ++ l.map fun x => Value.int .i64 x) → w.grownBy w' v.ownBlock → wpList Tryd.prog ops Q rest (a.put o.dst v') w') : wpList Tryd.prog ops Q (o :: rest) a w := by
  obtain ⟨i3, hi3, hz3, hs3, hb3⟩ := info3v_parts
  obtain ⟨h63, hc⟩ := hi
  cases la with
  | none =>
    have hnil : l = [] := by
      rcases hc with hc | ⟨b, o, e, _⟩
      · exact hc
      · cases e
    subst hnil
    exact wpList_append_nothing w hgd s x 23 ho base 3 i3 1 Tryd.underlying23 hi3 v n lc xs hs hown hx (h v w (by simpa using hown) ⟨rfl, rfl, rfl, Nat.le_refl _, fun _ _ _ => rfl⟩)
  | some ad =>
    have hnews : ∀ j u, (l.map fun x => Value.int .i64 x)[j]? = some u → w.cell? (ad.add j) = some u := by
      rcases hc with hc | ⟨b', o', e, hc⟩
      · rw [hc]; intro j u hu; cases hu
      · cases e; exact ints_news hc
    exact wpList_append_own_at w hgd s x 23 ho base 3 i3 (.int .i64 0) 1 8 Tryd.underlying23 hi3 hz3 hs3 hb3 rfl (by omega) v n xs hs hown ad l.length lc _ hx (by simp) hnews (by intro u hu; simp only [List.mem_map] at hu; obtain ⟨x, _, rfl⟩ := hu; rfl) (by unfold maxLen; omega) (by omega) hbase
      (fun v' w' h1 h2 _ _ => h v' w' h1 h2)
def catL (l1 l2 : List Int) (i : Nat) : List Int := if i = 0 then [] else if i = 1 then l1 else l1 ++ l2
set_option maxRecDepth 100000 in
set_option maxHeartbeats 4000000 in
theorem concat_any (l1 l2 : List Int) (a1 a2 : Option Addr) (c1 c2 b : Nat) (w : World) (h1 : IntsIn w a1 l1) (h2 : IntsIn w a2 l2) (hb : w.heap[b]? = some (.cells #[.slice a1 l1.length c1, .slice a2 l2.length c2] 23 (0, 0))) (hn : l1.length + l2.length ≤ 1099511627776) :
    Calls Tryd.prog 24 #[.slice (some ⟨b, 0, none⟩) 2 2] w fun e w' => (∃ a c, e = .returned (.slice a (l1 ++ l2).length c) ∧ IntsIn w' a (l1 ++ l2)) ∧ Below w.heap.size w w' := by
  obtain ⟨i3, hi3, hz3, hs3, hb3⟩ := info3v_parts
  have y0 : w.cell? ⟨b, 0, none⟩ = some (.slice a1 l1.length c1) := by rw [cell_of_row w b 0 _ _ _ hb]; rfl
  have y1 : w.cell? ⟨b, 1, none⟩ = some (.slice a2 l2.length c2) := by rw [cell_of_row w b 1 _ _ _ hb]; rfl
  have hlt := lt_of_block hb
  go_enter Tryd.func24, Tryd.ntmps24
  go_wp2_with fail
  go_loopw [3, 11] (fun v3 vi wr => ∃ i : Nat, vi = .int .i64 i ∧ i ≤ 2 ∧ w = wr ∧ v3 = .int .i64 ((if i = 0 then 0 else if i = 1 then l1.length else l1.length + l2.length : Nat) : Int)) (fun _ vi _ => 2 - (intOf vi).toNat)
  case atStart => exact ⟨0, rfl, by omega, rfl, rfl⟩
  case round =>
    obtain ⟨i, rfl, hi, hwr, rfl⟩ := hrel
    subst hwr
    have hi2 : i = 0 ∨ i = 1 ∨ i = 2 := by omega
    rcases hi2 with rfl | rfl | rfl
    · have q1 : IntKind.i64.wrap ((0 : Int) + (l1.length : Int)) = (l1.length : Int) := by rw [IntKind.wrap_i64]; omega
      have q2 : IntKind.i64.wrap (l1.length : Int) = (l1.length : Int) := by rw [IntKind.wrap_i64]; omega
      have q3 : ¬ (l1.length : Int) < 0 := by omega
      go_wp2
      go_roundw
      case rel => exact ⟨1, by simp, by omega, by simp, by simp⟩
      case measure => simp [intOf]
    · have q1 : IntKind.i64.wrap ((l1.length : Int) + (l2.length : Int)) = ((l1.length + l2.length : Nat) : Int) := by rw [IntKind.wrap_i64]; omega
      have q3 : ¬ ((l1.length + l2.length : Nat) : Int) < 0 := by omega
      simp only [if_neg (show ¬ (1 : Nat) = 0 by omega), if_true]
      go_wp2
      go_roundw
      case rel => exact ⟨2, by simp, by omega, by simp, by simp⟩
      case measure => simp [intOf]
    · simp only [if_neg (show ¬ (2 : Nat) = 0 by omega), if_neg (show ¬ (2 : Nat) = 1 by omega)]
      have hgr := grow_nil (l1.length + l2.length) hn w
      go_wp2_with fail
      refine hgr.mono ?_
      rintro e w2 ⟨ga, gc, rfl, ho, bb⟩
      have hwz : w.heap.size ≤ w2.heap.size := bb.size
      go_wp2_with fail
      go_loopw [6, 27] (fun v6 vi wr => ∃ i : Nat, vi = .int .i64 i ∧ i ≤ 2 ∧ Hid (wr.ownsRow w.heap.size 3 1 v6 (catL l1 l2 i).length ((catL l1 l2 i).map fun x => Value.int .i64 x)) ∧ Hid (Below w.heap.size w wr)) (fun _ vi _ => 2 - (intOf vi).toNat)
      case atStart => exact ⟨0, rfl, by omega, Lib.hid ho, Lib.hid bb⟩
      case round =>
        obtain ⟨i, rfl, hi', ho', bb'⟩ := hrel
        clear ho bb hwz hgr
        have hws := bb'.out.size
        have z0 := (keep_below bb'.out) _ _ y0
        have z1 := (keep_below bb'.out) _ _ y1
        have j1 := h1.below bb'.out
        have j2 := h2.below bb'.out
        have hown := ho'.out
        obtain ⟨va, vc, rfl⟩ := own_sl hown
        have hi3' : i = 0 ∨ i = 1 ∨ i = 2 := by omega
        rcases hi3' with rfl | rfl | rfl
        · go_wp2_with (first | (
            at_builtin
            refine wpList_append_ints _ rfl _ _ rfl w.heap.size _ _ _ (by rfl) hown a1 l1 c1 (by rfl) j1 (by simp [catL]; omega) hws ?_
            intro v' w3 ho3 hg3))
          have b3 : Below w.heap.size w w3 := bb'.out.grown hg3 hws (fun g hg => (hown.lt g hg).1)
          go_wp2
          go_roundw
          case rel => exact ⟨1, by simp, by omega, Lib.hid (by simpa [catL] using ho3), Lib.hid b3⟩
          case measure => simp [intOf]
        · go_wp2_with (first | (
            at_builtin
            refine wpList_append_ints _ rfl _ _ rfl w.heap.size _ _ _ (by rfl) hown a2 l2 c2 (by rfl) j2 (by simp [catL]; omega) hws ?_
            intro v' w3 ho3 hg3))
          have b3 : Below w.heap.size w w3 := bb'.out.grown hg3 hws (fun g hg => (hown.lt g hg).1)
          go_wp2
          go_roundw
          case rel => exact ⟨2, by simp, by omega, Lib.hid (by simpa [catL] using ho3), Lib.hid b3⟩
          case measure => simp [intOf]
        · replace hown := Lib.hid hown
          clear ho'
          go_wp2
          go_ret
          obtain ⟨e1, e2, _⟩ := ints_own hown.out
          exact ⟨⟨_, _, rfl, e2⟩, bb'.out⟩

end Go.Proofs.YtacohbllbjgdgaaDoor
