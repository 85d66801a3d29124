/- What the writer's start and locals write. -/
import Derived.Test.YtanpjbbhhofkfaaDoorGh
namespace Go.Proofs.YtanpjbbhhofkfaaDoor
open Go.RowKit
set_option linter.unusedVariables false
set_option linter.unusedSimpArgs false

theorem infoE3 : (Tryd.prog.info? 3).map (fun i => (i.zero, i.size, i.bytes)) = some (some (.int .i64 0), 1, 8) := by kernel_rfl
theorem infoE3_parts : ∃ i, Tryd.prog.info? 3 = some i ∧ i.zero = some (.int .i64 0) ∧ i.size = 1 ∧ i.bytes = 8 := by
  have h := infoE3
  cases hi : Tryd.prog.info? 3 with
  | none => rw [hi] at h; cases h
  | some i =>
    rw [hi] at h
    simp only [Option.map_some, Option.some.injEq, Prod.mk.injEq] at h
    exact ⟨i, rfl, h.1, h.2.1, h.2.2⟩
/-- Numbers as cells. -/
def ic (l : List Int) : List Value := l.map fun x => .int .i64 x
theorem ic_append (l t : List Int) : ic (l ++ t) = ic l ++ ic t := by simp [ic]
theorem ic_length (l : List Int) : (ic l).length = l.length := by simp [ic]
theorem ic_one (x : Int) : ic [x] = [.int .i64 x] := rfl
theorem own_set {w : World} {base n : Nat} {e : TypeId} {g cap : Nat} {xs : List Value} (h : w.ownsRow base e 1 (.slice (some ⟨g, 0, none⟩) n cap) n xs) (j : Nat) (u : Value) : (w.setCell ⟨g, j, none⟩ u).ownsRow base e 1 (.slice (some ⟨g, 0, none⟩) n cap) n (xs.set j u) := by
  refine ⟨by rw [List.length_set]; exact h.1, ?_⟩
  rcases h.2 with ⟨e1, _⟩ | ⟨g', cap', cur, e1, hg, hh, h1, h2, h3, h4⟩
  · cases e1
  · cases e1
    refine .inr ⟨g, cap, cur.setIfInBounds j u, rfl, hg, heap_setCell_same w g j _ _ _ hh, h1, h2, by rw [Array.size_setIfInBounds]; exact h3, ?_⟩
    rw [Array.toList_setIfInBounds, ← h4, List.take_set]
theorem own_free {w : World} {base n : Nat} {e : TypeId} {g cap : Nat} {xs : List Value} (h : w.ownsRow base e 1 (.slice (some ⟨g, 0, none⟩) n cap) n xs) (j : Nat) : w.frozen? ⟨g, j, none⟩ = false := by
  rcases h.2 with ⟨e1, _⟩ | ⟨g', cap', cur, e1, hg, hh, _⟩
  · cases e1
  · cases e1
    exact frozen_of_row w g j _ _ hh

/-- Runs, the last one ahead. -/
def rstep (r : List (Nat × Int)) (x : Int) : List (Nat × Int) :=
  match r with
  | [] => [(1, x)]
  | (c, t) :: r => if t = x then (c + 1, t) :: r else (1, x) :: (c, t) :: r
def rns (l : List Int) : List (Nat × Int) := l.foldl rstep []
def runs (l : List Int) : List (Nat × Int) := (rns l).reverse
def psum (R : List (Nat × Int)) : Nat := (R.map (·.1)).sum
def endsL (R : List (Nat × Int)) : List Int := (List.range R.length).map fun j => ((psum (R.take (j + 1)) : Nat) : Int)
theorem rns_take {l : List Int} {i : Nat} {x : Int} (hx : l[i]? = some x) : rns (l.take (i + 1)) = rstep (rns (l.take i)) x := by
  rw [rns, List.take_add_one, hx, List.foldl_append]
  rfl
theorem psum_snoc (R : List (Nat × Int)) (q : Nat × Int) : psum (R ++ [q]) = psum R + q.1 := by simp [psum]
theorem endsL_length (R : List (Nat × Int)) : (endsL R).length = R.length := by simp [endsL]
theorem endsL_snoc (R : List (Nat × Int)) (q : Nat × Int) : endsL (R ++ [q]) = endsL R ++ [((psum R + q.1 : Nat) : Int)] := by
  unfold endsL
  rw [List.length_append, List.length_singleton, List.range_succ, List.map_append]
  congr 1
  · apply List.map_congr_left
    intro j hj
    have := List.mem_range.1 hj
    rw [List.take_append_of_le_length (by omega)]
  · rw [List.map_singleton, List.take_of_length_le (by simp), psum_snoc]
theorem endsL_at {R : List (Nat × Int)} {j : Nat} (hj : j < R.length) : (endsL R)[j]? = some ((psum (R.take (j + 1)) : Nat) : Int) := by
  unfold endsL
  rw [List.getElem?_map, List.getElem?_range hj]
  rfl
/-- What is known of the runs of a list's beginning. -/
theorem rns_known (l : List Int) : ∀ i, i ≤ l.length → psum (rns (l.take i)).reverse = i ∧ (rns (l.take i)).length ≤ i ∧ (∀ j q, (rns (l.take i)).reverse[j]? = some q → l[psum ((rns (l.take i)).reverse.take j)]? = some q.2) ∧ ((i = 0 ∧ rns (l.take i) = []) ∨ ∃ k c t r, i = k + 1 ∧ l[k]? = some t ∧ rns (l.take i) = (c, t) :: r)
  | 0, _ => by
    rw [List.take_zero]
    exact ⟨rfl, Nat.le_refl _, fun j q h => by simp [rns] at h, .inl ⟨rfl, rfl⟩⟩
  | i + 1, hi => by
    obtain ⟨x, hx⟩ : ∃ x, l[i]? = some x := ⟨_, List.getElem?_eq_getElem (by omega)⟩
    obtain ⟨h1, h2, h3, h4⟩ := rns_known l i (by omega)
    rw [rns_take hx]
    generalize rns (l.take i) = rr at h1 h2 h3 h4 ⊢
    have new : ∀ rr' : List (Nat × Int), rr' = rr → psum ((1, x) :: rr').reverse = i + 1 ∧ ((1, x) :: rr').length ≤ i + 1 ∧ (∀ j q, ((1, x) :: rr').reverse[j]? = some q → l[psum (((1, x) :: rr').reverse.take j)]? = some q.2) := by
      rintro rr' rfl
      rw [List.reverse_cons]
      refine ⟨by rw [psum_snoc, h1], by simpa using h2, fun j q hq => ?_⟩
      by_cases hj : j < rr'.reverse.length
      · rw [List.getElem?_append_left hj] at hq
        rw [List.take_append_of_le_length (by omega)]
        exact h3 j q hq
      · have hlt := (List.getElem?_eq_some_iff.1 hq).1
        rw [List.length_append, List.length_singleton] at hlt
        have hje : j = rr'.reverse.length := by omega
        subst hje
        rw [List.getElem?_append_right (Nat.le_refl _), Nat.sub_self] at hq
        cases hq
        rw [List.take_left, h1]
        exact hx
    rcases h4 with ⟨rfl, rfl⟩ | ⟨k, c, t, r, rfl, hk, rfl⟩
    · obtain ⟨a1, a2, a3⟩ := new [] rfl
      exact ⟨a1, a2, a3, .inr ⟨0, 1, x, [], rfl, hx, rfl⟩⟩
    · unfold rstep
      by_cases he : t = x
      · subst he
        simp only [if_pos]
        rw [List.reverse_cons] at h1 h3 ⊢
        rw [psum_snoc] at h1
        refine ⟨by rw [psum_snoc]; simp only at h1 ⊢; omega, by simpa using Nat.le_succ_of_le h2, fun j q hq => ?_, .inr ⟨k + 1, c + 1, t, r, rfl, hx, rfl⟩⟩
        by_cases hj : j < r.reverse.length
        · rw [List.getElem?_append_left hj] at hq
          rw [List.take_append_of_le_length (by omega)]
          have := h3 j q (by rw [List.getElem?_append_left hj]; exact hq)
          rw [List.take_append_of_le_length (by omega)] at this
          exact this
        · have hlt := (List.getElem?_eq_some_iff.1 hq).1
          rw [List.length_append, List.length_singleton] at hlt
          have hje : j = r.reverse.length := by omega
          subst hje
          rw [List.getElem?_append_right (Nat.le_refl _), Nat.sub_self] at hq
          cases hq
          have := h3 r.reverse.length (c, t) (by rw [List.getElem?_append_right (Nat.le_refl _), Nat.sub_self]; rfl)
          rw [List.take_left] at this ⊢
          exact this
      · simp only [if_neg he]
        obtain ⟨a1, a2, a3⟩ := new _ rfl
        exact ⟨a1, a2, a3, .inr ⟨k + 1, 1, x, _, rfl, hx, rfl⟩⟩
theorem psum_take_le (R : List (Nat × Int)) (j : Nat) : psum (R.take j) ≤ psum R := by
  have h : psum R = psum (R.take j) + psum (R.drop j) := by
    unfold psum
    rw [← List.sum_append, ← List.map_append, List.take_append_drop]
  omega
def locF (q : Nat × Int) : List (List UInt8) := [uB q.1, [b1 q.2]]
def locC (l : List Int) : List (List UInt8) := uB (runs l).length :: (runs l).flatMap locF
theorem runs_len (l : List Int) : (runs l).length ≤ l.length := by
  have := (rns_known l l.length (Nat.le_refl _)).2.1
  rw [List.take_length] at this
  simpa [runs] using this
theorem loc_tot : ∀ R : List (Nat × Int), tot (R.flatMap locF) ≤ 11 * R.length
  | [] => by simp [tot]
  | q :: R => by
    rw [List.flatMap_cons, tot_append]
    have := loc_tot R
    have := uB_len q.1
    simp only [locF, tot, List.length_cons, List.length_nil]
    omega
theorem locC_tot (l : List Int) : tot (locC l) ≤ 10 + 11 * l.length := by
  have := loc_tot (runs l)
  have := runs_len l
  have := uB_len (runs l).length
  simp only [locC, tot]
  omega
theorem loc_take {R : List (Nat × Int)} {j : Nat} {q : Nat × Int} (hq : R[j]? = some q) (s : WS) : puts ((R.take (j + 1)).flatMap locF) s = put [b1 q.2] (put (uB q.1) (puts ((R.take j).flatMap locF) s)) := by
  rw [List.take_add_one, hq, List.flatMap_append, puts_append]
  rfl

section
variable {N : Nat} {w0 : World} {p : Nat} {w : World} {mv : List Value} {v : Value} {s : WS}
def fStart (n : Int) : WS → WS := put (uB n)
set_option maxRecDepth 100000 in
set_option maxHeartbeats 1000000 in
theorem sStart_any (h : WAt N p w mv v s) (hb : Vw w0 p v w) (l : List Int) (a : Option Addr) (c : Nat) (hj : mv[7]? = some (.slice a l.length c)) (hi : IntsIn w0 a l) (hn : s.n + 10 * l.length ≤ 4611686018427387904) :
    Calls Tryd.prog 24 #[.pointer (some ⟨p, 0, none⟩)] w fun e w' => e = .returned (.bool (decide (0 < l.length))) ∧ WOut N p w mv v (puts (l.map uB) s) w' := by
  obtain ⟨n, hl⟩ : ∃ n, l.length = n := ⟨_, rfl⟩
  have hl63 := hi.1
  rw [hl] at hn hl63 hj ⊢
  have x0 : w.cell? ⟨p, 7, none⟩ = some (.slice a n c) := h.cm hj
  replace h := Lib.hid h
  replace hb := Lib.hid hb
  replace hi := Lib.hid hi
  replace hj := Lib.hid hj
  replace hl := Lib.hid hl
  go_enter Tryd.func24, Tryd.ntmps24
  go_wp2_with fail
  go_loopw [11] (fun vi wr => ∃ (i : Nat) (v2 : Value), i ≤ n ∧ vi = .int .i64 i ∧ Hid (WAt N p wr mv v2 (puts ((l.take i).map uB) s)) ∧ Hid (Tr p v v2 w wr)) (fun vi _ => n - (intOf vi).toNat)
  case atStart => exact ⟨0, v, Nat.zero_le _, rfl, h, Lib.hid (Tr.refl _ _ _)⟩
  case round =>
    clear x0
    obtain ⟨i, v2, hle, rfl, h2, t2⟩ := hrel
    by_cases hlt : i < n
    · obtain ⟨x, hx⟩ : ∃ x, l[i]? = some x := ⟨_, List.getElem?_eq_getElem (by rw [hl.out]; exact hlt)⟩
      obtain ⟨b, o, rfl, hc⟩ := (hi.out.old (hb.out.tr t2.out)).cell hx
      have hst := Lib.hid (puts_take (f := uB) hx s)
      have htot := tot_map uB 10 (fun x => uB_len x) (l.take i)
      have htl : (l.take i).length = i := by rw [List.length_take, hl.out]; omega
      rw [htl] at htot
      clear hx htl
      go_wp2_with fail
      refine (u_any h2.out x (by rw [puts_n]; omega)).mono ?_
      rintro e w3 ⟨rfl, v3, h3, t3⟩
      rw [← hst.out] at h3
      have hfb := Lib.hid (t2.out.trans t3)
      clear hst htot t3
      go_wp2
      exact ⟨⟨i + 1, v3, by omega, by simp, Lib.hid h3, hfb⟩, by simp [intOf]; omega⟩
    · have hin : i = n := by omega
      have hv : puts (l.map uB) s = puts ((l.take i).map uB) s := by rw [List.take_of_length_le (by rw [hl.out]; omega)]
      replace hv := Lib.hid hv
      have x2 : wr.cell? ⟨p, 7, none⟩ = some (.slice a n c) := h2.out.cm hj.out
      go_wp2
      go_ret
      exact ⟨by simp, by rw [hv.out]; exact ⟨v2, h2.out, t2.out⟩⟩
set_option maxRecDepth 100000 in
set_option maxHeartbeats 4000000 in
theorem locals_any (h : WAt N p w mv v s) (hb : Vw w0 p v w) (l : List Int) (a : Option Addr) (c : Nat) (hi : IntsIn w0 a l) (hm : l.length ≤ 65536) (hn : s.n + 10 + 11 * l.length ≤ 4611686018427387904) :
    Calls Tryd.prog 49 #[.pointer (some ⟨p, 0, none⟩), .slice a l.length c] w fun e w' => e = .returned (.tuple #[]) ∧ WOut N p w mv v (puts (locC l) s) w' := by
  obtain ⟨i3, hi3, hz3, hs3, hby3⟩ := infoE3_parts
  obtain ⟨n, hl⟩ : ∃ n, l.length = n := ⟨_, rfl⟩
  have hkn := Lib.hid (rns_known l)
  rw [hl] at hn hm ⊢
  replace h := Lib.hid h
  have hI := Lib.hid (hi.old hb)
  replace hb := Lib.hid hb
  replace hi := Lib.hid hi
  replace hl := Lib.hid hl
  replace hn := Lib.hid hn
  go_enter Tryd.func49, Tryd.ntmps49
  go_wp2_with fail
  go_loopw [4, 12] (fun v4 vi wr => ∃ (i k : Nat) (a4 : Option Addr) (c4 : Nat), i ≤ n ∧ vi = .int .i64 i ∧ v4 = .slice a4 k c4 ∧ k ≤ i ∧ Hid (k = (rns (l.take i)).reverse.length ∧ wr.ownsRow w.heap.size 3 1 (.slice a4 k c4) k (ic (endsL (rns (l.take i)).reverse))) ∧ Hid (Below w.heap.size w wr)) (fun _ vi _ => n - (intOf vi).toNat)
  case atStart => exact ⟨0, 0, none, 0, Nat.zero_le _, rfl, rfl, Nat.le_refl _, Lib.hid ⟨rfl, World.ownsRow_nil _ _ _ _⟩, Lib.hid (Below.refl _ _)⟩
  case round =>
    obtain ⟨i, k, a4, c4, hle, rfl, rfl, hki, hown, hbel⟩ := hrel
    obtain ⟨j1, j2, j3, j4⟩ := hkn.out i (by rw [hl.out]; omega)
    by_cases hlt : i < n
    · obtain ⟨x, hx⟩ : ∃ x, l[i]? = some x := ⟨_, List.getElem?_eq_getElem (by rw [hl.out]; exact hlt)⟩
      have hst := rns_take hx
      have hI2 := hI.out.below hbel.out
      rcases j4 with ⟨hi0, hr0⟩ | ⟨k', c', t, r, hik, hk', hr0⟩
      · obtain ⟨b, o, rfl, hc⟩ := hI2.cell hx
        rw [hr0] at hst
        have hst2 := Lib.hid (show rns (l.take (i + 1)) = (1, x) :: rns (l.take i) by rw [hst, hr0]; rfl)
        have hps := Lib.hid (show psum (rns (l.take i)).reverse + 1 = i + 1 by rw [j1])
        have hd0 : ¬ 0 < i := by omega
        clear hst hx j1 j2 j3 hI2 hr0 hi0
        go_wp2_with (first | (
          at_builtin
          refine wpList_append_lies _ rfl _ _ _ rfl w.heap.size 3 i3 _ 1 8 Tryd.underlying28 hi3 hz3 hs3 hby3 rfl (by omega) (.slice a4 k c4) k (ic (endsL (rns (l.take i)).reverse)) (by rfl) (hown.out.2.alloc _)
            ⟨wr.heap.size, 0, none⟩ 1 1 [.int .i64 ((i : Int) + 1)] (by rfl) (by rfl) (World.news_of_block (cs := #[.int .i64 ((i : Int) + 1)]) (t := 3) (fr := (0, 0)) (heap_alloc_new _ _)) (by intro u hu; simp only [List.mem_cons, List.mem_nil_iff, or_false] at hu; subst hu; rfl)
            (by omega) (by unfold maxLen; omega) (by omega) (by have := hbel.out.size; simp; omega) (wr.heap.size + 1) (by simp) ?_
          intro g cap w1 hown1 hgrow hat hlt1
          have hbw := Lib.hid (((hbel.out.alloc hbel.out.size (.cells #[.int .i64 ((i : Int) + 1)] 3)).grown hgrow (by have := hbel.out.size; simp; omega) (fun k hk => (hown.out.2.lt k hk).1)))
          replace hown1 := Lib.hid hown1
          clear hgrow hat))
        exact ⟨⟨i + 1, k + 1, some ⟨g, 0, none⟩, cap, by omega, by simp, by simp, by omega, Lib.hid (by
          rw [hst2.out, List.reverse_cons, List.length_append, endsL_snoc, ic_append, List.length_singleton]
          exact ⟨by rw [hown.out.1], by simpa [hps.out, ic_one] using hown1.out⟩), hbw⟩, by simp [intOf]; omega⟩
      · obtain ⟨b, o, rfl, hc⟩ := hI2.cell hx
        obtain ⟨b', o', hbo, hc'⟩ := hI2.cell hk'
        cases hbo
        subst hik
        by_cases he : x = t
        · subst he
          rw [hr0] at hst
          have hst2 := Lib.hid (show rns (l.take (k' + 1 + 1)) = (c' + 1, x) :: r by rw [hst]; show (if x = x then _ else _) = _; rw [if_pos rfl])
          have hkr : k = r.length + 1 := by rw [hown.out.1, hr0]; simp
          have hps := Lib.hid (show psum r.reverse + c' = k' + 1 by rw [hr0, List.reverse_cons, psum_snoc] at j1; exact j1)
          have hown2 := hown.out.2
          rw [hr0, List.reverse_cons, endsL_snoc, ic_append] at hown2
          obtain ⟨kk, hkk⟩ : ∃ kk, r.length = kk := ⟨_, rfl⟩
          have hel : (ic (endsL r.reverse)).length = kk := by rw [ic_length, endsL_length, List.length_reverse, hkk]
          rw [hkk] at hkr
          subst hkr
          rcases hown2.2 with ⟨e1, _⟩ | ⟨g, cap, cur, e1, hg, _⟩
          · cases e1
          cases e1
          have hcell : wr.cell? ⟨g, kk, none⟩ = some (.int .i64 ((psum r.reverse + c' : Nat) : Int)) := by
            have := hown2.cells (g := g) rfl kk (.int .i64 ((psum r.reverse + c' : Nat) : Int)) (by rw [List.getElem?_append_right (by omega), hel, Nat.sub_self]; rfl)
            simpa [Addr.add_lit] using this
          have hfree := own_free hown2 kk
          have hnew := Lib.hid (own_set hown2 kk (.int .i64 (((k' + 1 : Nat) : Int) + 1)))
          have hbw := Lib.hid (hbel.out.setCell (p := ⟨g, kk, none⟩) hg (.int .i64 (((k' + 1 : Nat) : Int) + 1)))
          replace hel := Lib.hid hel
          clear hst hx j1 j2 j3 hI2 hr0 hown2 hk' hg
          go_wp2
          exact ⟨⟨k' + 1 + 1, kk + 1, some ⟨g, 0, none⟩, c4, by omega, by simp, by simp, by omega, Lib.hid (by
            rw [hst2.out, List.reverse_cons, List.length_append, endsL_snoc, ic_append, List.length_singleton, List.length_reverse]
            refine ⟨by rw [hkk], ?_⟩
            have h9 := hnew.out
            rw [List.set_append_right _ _ (by rw [hel.out]; omega), hel.out, Nat.sub_self] at h9
            have h8 : (((psum r.reverse + (c' + 1, x).1 : Nat) : Nat) : Int) = ((k' + 1 : Nat) : Int) + 1 := by have := hps.out; simp only; omega
            rw [h8]
            exact h9), hbw⟩, by simp [intOf]; omega⟩
        · have hne : (x == t) = false := by simp [he]
          rw [hr0] at hst
          have hst2 := Lib.hid (show rns (l.take (k' + 1 + 1)) = (1, x) :: rns (l.take (k' + 1)) by rw [hst, hr0]; show (if t = x then _ else _) = _; rw [if_neg (fun e => he e.symm)])
          have hps := Lib.hid (show psum (rns (l.take (k' + 1))).reverse + 1 = k' + 1 + 1 by rw [j1])
          clear hst hx j1 j2 j3 hI2 hr0 hk'
          go_wp2_with (first | (
            at_builtin
            refine wpList_append_lies _ rfl _ _ _ rfl w.heap.size 3 i3 _ 1 8 Tryd.underlying28 hi3 hz3 hs3 hby3 rfl (by omega) (.slice a4 k c4) k (ic (endsL (rns (l.take (k' + 1))).reverse)) (by rfl) (hown.out.2.alloc _)
              ⟨wr.heap.size, 0, none⟩ 1 1 [.int .i64 (((k' + 1 : Nat) : Int) + 1)] (by rfl) (by rfl) (World.news_of_block (cs := #[.int .i64 (((k' + 1 : Nat) : Int) + 1)]) (t := 3) (fr := (0, 0)) (heap_alloc_new _ _)) (by intro u hu; simp only [List.mem_cons, List.mem_nil_iff, or_false] at hu; subst hu; rfl)
              (by omega) (by unfold maxLen; omega) (by omega) (by have := hbel.out.size; simp; omega) (wr.heap.size + 1) (by simp) ?_
            intro g cap w1 hown1 hgrow hat hlt1
            have hbw := Lib.hid (((hbel.out.alloc hbel.out.size (.cells #[.int .i64 (((k' + 1 : Nat) : Int) + 1)] 3)).grown hgrow (by have := hbel.out.size; simp; omega) (fun k hk => (hown.out.2.lt k hk).1)))
            replace hown1 := Lib.hid hown1
            clear hgrow hat))
          exact ⟨⟨k' + 1 + 1, k + 1, some ⟨g, 0, none⟩, cap, by omega, by simp, by simp, by omega, Lib.hid (by
            rw [hst2.out, List.reverse_cons, List.length_append, endsL_snoc, ic_append, List.length_singleton]
            exact ⟨by rw [hown.out.1], by simpa [hps.out, ic_one] using hown1.out⟩), hbw⟩, by simp [intOf]; omega⟩
    · have hin : i = n := by omega
      have hrn : rns (l.take i) = rns l := by rw [List.take_of_length_le (by rw [hl.out]; omega)]
      rw [hrn] at j1 j2 j3
      have hrl := hown.out.1
      rw [hrn] at hrl
      have hR := hown.out.2
      rw [hrn] at hR
      obtain ⟨R, hRe⟩ : ∃ R, (rns l).reverse = R := ⟨_, rfl⟩
      rw [hRe] at j1 j3 hrl hR
      have hE : ∀ j, j < k → wr.cell? ⟨0, j, none⟩ = none ∨ True := fun _ _ => .inr trivial
      have hcells := Lib.hid hR
      have hlc := Lib.hid (show locC l = uB R.length :: R.flatMap locF by unfold locC runs; rw [hRe])
      have hW := Lib.hid (h.out.below hbel.out)
      have hT := Lib.hid (Tr.of_below (p := p) (v := v) hbel.out)
      have hkn2 : k ≤ n := by omega
      have hul := uB_len (k : Int)
      have hn2 := hn.out
      replace j3 := Lib.hid j3
      replace hRe := Lib.hid hRe
      replace hrl := Lib.hid hrl
      clear hR hE j2 j4 hrn
      obtain ⟨wq, hwq⟩ : ∃ wq, wq = wr := ⟨_, rfl⟩
      subst hwq
      have E0 : ∀ j x, (endsL R)[j]? = some x → ∃ g, a4 = some ⟨g, 0, none⟩ ∧ g ≠ p ∧ v.ownBlock ≠ some g ∧ wq.cell? ⟨g, j, none⟩ = some (.int .i64 x) := fun j x hx => by
        rcases hcells.out.2 with ⟨e1, e2⟩ | ⟨g, cap, cur, e1, hg, _⟩
        · have := (List.getElem?_eq_some_iff.1 hx).1
          rw [endsL_length, ← hrl.out] at this
          omega
        · cases e1
          refine ⟨g, rfl, by have := h.out.lt; omega, fun e => by have := (h.out.own.lt g e).2; omega, ?_⟩
          simpa [Addr.add_lit] using hcells.out.cells (g := g) rfl j (.int .i64 x) (by unfold ic; rw [List.getElem?_map, hx]; rfl)
      replace E0 := Lib.hid E0
      have hnp := Lib.hid (fun j => psum_take_le R j)
      have hpn := Lib.hid j1
      clear hkn hI j1
      go_wp2_with fail
      refine (u_any hW.out k (by omega)).mono ?_
      rintro e w1 ⟨rfl, v1, h1, t1⟩
      replace h1 := Lib.hid h1
      replace t1 := Lib.hid t1
      go_wp2_with fail
      clear hcells hki hle
      go_loopw [7, 47] (fun vf vi wr => ∃ (j P : Nat) (v2 : Value), j ≤ k ∧ vi = .int .i64 j ∧ vf = .int .i64 P ∧ Hid (P = psum (R.take j)) ∧ Hid (WAt N p wr mv v2 (puts ((R.take j).flatMap locF) (put (uB k) s))) ∧ Hid (Tr p v v2 wq wr)) (fun _ vi _ => k - (intOf vi).toNat)
      case atStart => exact ⟨0, 0, v1, Nat.zero_le _, rfl, rfl, Lib.hid rfl, h1, t1⟩
      case round =>
        obtain ⟨j, P, v2, hle, rfl, rfl, hP, h2, t2⟩ := hrel
        by_cases hlt : j < k
        · obtain ⟨q, hq⟩ : ∃ q, R[j]? = some q := ⟨_, List.getElem?_eq_getElem (by rw [← hrl.out]; exact hlt)⟩
          obtain ⟨T, hTe⟩ : ∃ T, psum (R.take (j + 1)) = T := ⟨_, rfl⟩
          have hTq : T = P + q.1 := by rw [← hTe, hP.out, List.take_add_one, hq]; exact psum_snoc _ _
          have hTn : T ≤ n := by have := hnp.out (j + 1); have h9 := hpn.out; omega
          have hlq := j3.out j q hq
          rw [← hP.out] at hlq
          have hPn : P < n := by rw [← hl.out]; exact (List.getElem?_eq_some_iff.1 hlq).1
          obtain ⟨g, rfl, g1, g2, g3⟩ := E0.out j _ (endsL_at (by rw [← hrl.out]; exact hlt))
          rw [hTe] at g3
          have g4 : wr.cell? ⟨g, j, none⟩ = some (.int .i64 (T : Int)) := t2.out.cell g1 g2 g3
          have hB := hb.out.tr (hT.out.trans t2.out)
          obtain ⟨b, o, rfl, hc0⟩ := hi.out.cell hlq
          have hcf := Lib.hid (fun (v' : Value) (w' : World) (hv' : Vw w0 p v' w') => hv'.keeps _ _ hc0)
          have hst := Lib.hid (loc_take hq (put (uB k) s))
          have htot := loc_tot (R.take j)
          have htl : (R.take j).length = j := by rw [List.length_take, ← hrl.out]; omega
          rw [htl] at htot
          have hux := uB_len ((T : Int) - (P : Int))
          have hue := Lib.hid (show uB ((T : Int) - (P : Int)) = uB ((q.1 : Nat) : Int) by rw [hTq]; congr 1; omega)
          have hPT : P ≤ T := by omega
          replace hTq := Lib.hid hTq
          have hTe2 := Lib.hid hTe
          clear hTe hq hlq htl hB g1 g2 g3
          obtain ⟨q1, q2⟩ := q
          clear hc0
          simp only at hcf
          go_wp2_with fail
          refine (u_any h2.out ((T : Int) - (P : Int)) (by rw [puts_n, put_n]; omega)).mono ?_
          rintro e w3 ⟨rfl, v3, h3, t3⟩
          replace h3 := Lib.hid h3
          replace t3 := Lib.hid (t2.out.trans t3)
          have hc3 : w3.cell? ⟨b, o + P, none⟩ = some (.int .i64 q2) := hcf.out _ _ (hb.out.tr (hT.out.trans t3.out))
          clear g4
          go_wp2_with fail
          refine (byte_any h3.out q2 (by rw [put_n, puts_n, put_n]; omega)).mono ?_
          rintro e w4 ⟨rfl, v4, h4, t4⟩
          have h5 := Lib.hid (show WAt N p w4 mv v4 (puts ((R.take (j + 1)).flatMap locF) (put (uB k) s)) by rw [hst.out, ← hue.out]; exact h4)
          replace t4 := Lib.hid (t3.out.trans t4)
          clear h4 hc3 htot hux
          go_wp2
          exact ⟨⟨j + 1, T, v4, by omega, by simp, by simp, Lib.hid hTe2.out.symm, h5, t4⟩, by simp [intOf]; omega⟩
        · have hjk : j = k := by omega
          have hfin := Lib.hid (show puts (locC l) s = puts ((R.take j).flatMap locF) (put (uB k) s) by rw [hlc.out, puts, List.take_of_length_le (by rw [← hrl.out]; omega), hrl.out])
          go_wp2
          go_end0
          exact ⟨rfl, by rw [hfin.out]; exact ⟨v2, h2.out, hT.out.trans t2.out⟩⟩
end
end Go.Proofs.YtanpjbbhhofkfaaDoor

namespace Go.Proofs.YtanpjbbhhofkfaaDoor
open Go.RowKit
set_option linter.unusedVariables false
set_option linter.unusedSimpArgs false

/-- What is written apart, its length ahead. -/
def ap (f : WS → WS) (s : WS) : WS := lg (f ⟨[], s.n⟩).l ⟨s.l, (f ⟨[], s.n⟩).n⟩
def wCode (lo : List Int) (bo : Il) (s : WS) : WS := wEx bo (puts (locC lo) s)
def cCode (lo : List Int) (bo : Il) : Nat := 11 + 11 * lo.length + cl bo
/-- The bytes grow no more than the count. -/
def InL (f : WS → WS) : Prop := ∀ s, ((f s).l.length : Int) + s.n ≤ (s.l.length : Int) + (f s).n
theorem InL.put (t : List UInt8) : InL (put t) := fun s => by
  unfold Go.Proofs.YtanpjbbhhofkfaaDoor.put
  split
  · simp only [List.length_append]
    push_cast
    omega
  · simp only
    omega
theorem InL.comp {f g : WS → WS} (hf : InL f) (hg : InL g) : InL (fun s => g (f s)) := fun s => by
  have := hf s
  have := hg (f s)
  show ((g (f s)).l.length : Int) + s.n ≤ s.l.length + (g (f s)).n
  omega
theorem InL.id : InL (fun s => s) := fun s => Int.le_refl _
theorem InL.puts : ∀ c : List (List UInt8), InL (puts c)
  | [] => InL.id
  | t :: r => (InL.put t).comp (InL.puts r)
theorem InL.tail (f op x y n : Int) (ls : List Int) (elen : Nat) {B E : WS → WS} (hB : InL B) (hE : InL E) : InL (wTail f op x y n ls elen B E) := by
  unfold wTail
  split
  · split
    · exact InL.put _
    · exact InL.id
  split
  · split
    · exact ((((InL.put _).comp hB).comp (InL.put _)).comp hE).comp (InL.put _)
    · exact ((InL.put _).comp hB).comp (InL.put _)
  split
  · exact InL.put _
  split
  · exact (InL.puts _).comp (InL.put _)
  split
  · exact (InL.put _).comp (InL.put _)
  split
  · exact (InL.put _).comp (InL.put _)
  split
  · exact InL.put _
  · exact InL.id
theorem InL.wl : ∀ l : Il, InL (wl l)
  | .nil => InL.id
  | .cons op x y n ls b e r => fun s => by
    unfold Go.Proofs.YtanpjbbhhofkfaaDoor.wl
    split
    · exact Int.le_refl _
    · exact (((InL.put [b1 op]).comp (InL.tail (formV op) op x y n ls e.len (InL.wl b) (InL.wl e))).comp (InL.wl r)) s
theorem InL.code (lo : List Int) (bo : Il) : InL (wCode lo bo) := ((InL.puts _).comp (InL.wl bo)).comp (InL.put _)
theorem InR.code (lo : List Int) (bo : Il) (ok : nOk bo) : InR (wCode lo bo) (cCode lo bo) := ((InR.puts (locC lo)).comp (InR.ex bo ok)).mono (by have := locC_tot lo; unfold cCode; omega)
theorem InR.ap {f : WS → WS} {c : Nat} (h : InR f c) (hl : InL f) : InR (ap f) (2 * c + 10) := fun s => by
  have h1 := h ⟨[], s.n⟩
  have h2 := hl ⟨[], s.n⟩
  have h3 := InR.lg (f ⟨[], s.n⟩).l ⟨s.l, (f ⟨[], s.n⟩).n⟩
  unfold Go.Proofs.YtanpjbbhhofkfaaDoor.ap
  simp only [List.length_nil] at h1 h2 h3
  omega
section
variable {N p : Nat} {w0 w : World} {mv : List Value} {v : Value} {s : WS}
theorem WAt.nil (h : WAt N p w mv v s) : WAt N p (w.setCell ⟨p, 10, none⟩ (.slice none 0 0)) mv (.slice none 0 0) ⟨[], s.n⟩ :=
  h.turn (l := []) (w' := w) rfl (World.ownsRow_nil _ _ _ _) (fun e => by cases e) (Nat.le_refl _) (by have := h.low; simpa using this) (by decide)
theorem Tr.nil (p : Nat) (v : Value) (w : World) : Tr p v (.slice none 0 0) w (w.setCell ⟨p, 10, none⟩ (.slice none 0 0)) :=
  have h := (Tr.refl p v w).set 10 (.slice none 0 0)
  ⟨h.os, h.tape, h.output, h.size, h.block, .inr fun g e => by cases e⟩
/-- The bytes of before come back. -/
theorem WAt.back {w2 : World} {v2 : Value} {s2 : WS} (h : WAt N p w mv v s) (h2 : WAt N p w2 mv v2 s2) (t : Tr p (.slice none 0 0) v2 (w.setCell ⟨p, 10, none⟩ (.slice none 0 0)) w2) (hn : s.n ≤ s2.n) :
    WAt N p (w2.setCell ⟨p, 10, none⟩ v) mv v ⟨s.l, s2.n⟩ ∧ Tr p v v w (w2.setCell ⟨p, 10, none⟩ v) ∧ BIn (w2.setCell ⟨p, 10, none⟩ v) v2 s2.l ∧ v2.ownBlock ≠ some p ∧ ∀ g, v2.ownBlock = some g → w.heap.size ≤ g := by
  have hlt := h.lt
  have hsz : (w.setCell ⟨p, 10, none⟩ (.slice none 0 0)).heap.size = w.heap.size := by simp
  have blk : ∀ k, k < w.heap.size → k ≠ p → w2.heap[k]? = w.heap[k]? := fun k hk hp => (t.block k (by rw [hsz]; exact hk) hp (fun e => by cases e)).trans (Below.heap_setCell _ _ _ _ hp)
  have hgs : ∀ g, v2.ownBlock = some g → w.heap.size ≤ g := fun g e => by
    rcases t.own with e2 | e2
    · rw [e2] at e; cases e
    · rw [← hsz]; exact e2 g e
  have hne2 : v2.ownBlock ≠ some p := h2.ne
  have hb2 : BIn w2 v2 s2.l := BIn.own h2.own
  refine ⟨h2.turn rfl ?_ h.ne (Nat.le_refl _) (by have := h.len; omega) h.cap, ⟨t.os, t.tape, t.output, by have := t.size; rw [hsz] at this; simpa using this, fun k hk hp hv => (Below.heap_setCell _ _ _ _ hp).trans (blk k hk hp), .inl rfl⟩, ?_, hne2, hgs⟩
  · refine ⟨h.own.1, ?_⟩
    rcases h.own.2 with e | ⟨g, cap, cur, e, hg, hh, r⟩
    · exact .inl e
    · refine .inr ⟨g, cap, cur, e, hg, (blk g (lt_of_block hh) (fun e2 => h.ne (by rw [e, ← e2]; rfl))).trans hh, r⟩
  · rcases hb2 with hb | ⟨g, c, rfl, hc⟩
    · exact .inl hb
    · refine .inr ⟨g, c, rfl, fun j hj => ?_⟩
      refine (World.cell?_of_block (Below.heap_setCell _ _ _ _ (fun e : g = p => hne2 (by rw [e]; rfl)))).trans (hc j hj)
set_option maxRecDepth 100000 in
set_option maxHeartbeats 1000000 in
theorem code_any (h : WAt N p w mv v s) (hb : Vw w0 p v w) (c1 f4 : Nat) (ty : Int) (lo : List Int) (bo : Il) (u1 : Option Addr) (r1 : Nat) (u2 : Option Addr) (r2 : Nat)
    (hc1 : w.cell? ⟨c1, 0, none⟩ = some (.pointer (some ⟨p, 0, none⟩))) (hf : Box w f4 #[.int .i64 ty, .slice u1 lo.length r1, .slice u2 bo.len r2]) (n1 : c1 ≠ p) (m1 : v.ownBlock ≠ some c1) (n2 : f4 ≠ p) (m2 : v.ownBlock ≠ some f4)
    (i1 : IntsIn w0 u1 lo) (hm : lo.length ≤ 65536) (l2 : bo.len ≤ 9223372036854775807) (i2 : IlIn w0 u2 0 bo) (ok : nOk bo) (hn : s.n + cCode lo bo ≤ 4611686018427387904) :
    Calls Tryd.prog 48 #[.pointer (some ⟨c1, 0, none⟩), .pointer (some ⟨f4, 0, none⟩)] w fun e w' => e = .returned (.tuple #[]) ∧ WOut N p w mv v (wCode lo bo s) w' := by
  have p1 : w.cell? ⟨f4, 1, none⟩ = some (.slice u1 lo.length r1) := hf 1 _ rfl
  have L1 := i1.1
  unfold cCode at hn
  have htot := locC_tot lo
  replace h := Lib.hid h
  replace hb := Lib.hid hb
  have hc1' := Lib.hid hc1
  replace hf := Lib.hid hf
  replace i1 := Lib.hid i1
  replace i2 := Lib.hid i2
  replace n1 := Lib.hid n1
  replace m1 := Lib.hid m1
  replace n2 := Lib.hid n2
  replace m2 := Lib.hid m2
  go_enter Tryd.func48, Tryd.ntmps48
  go_wp2_with fail
  refine (locals_any h.out hb.out lo u1 r1 i1.out hm (by omega)).mono ?_
  rintro e w1 ⟨rfl, v1, h1, t1⟩
  have q1 : w1.cell? ⟨c1, 0, none⟩ = some (.pointer (some ⟨p, 0, none⟩)) := t1.cell n1.out m1.out hc1'.out
  have q2 : w1.cell? ⟨f4, 2, none⟩ = some (.slice u2 bo.len r2) := t1.cell n2.out m2.out (hf.out 2 _ rfl)
  have hpn := puts_n (locC lo) s
  replace h1 := Lib.hid h1
  replace t1 := Lib.hid t1
  clear hc1 p1
  go_wp2_with fail
  refine (expr_any bo w0 N p w1 mv v1 (puts (locC lo) s) u2 r2 h1.out (hb.out.tr t1.out) l2 i2.out ok (by omega)).mono ?_
  rintro e w2 ⟨rfl, ho⟩
  replace ho := Lib.hid ho
  clear hpn
  go_wp2
  go_end0
  exact ⟨rfl, WOut.trans t1.out ho.out⟩
set_option maxRecDepth 100000 in
set_option maxHeartbeats 1000000 in
theorem apart_any (h : WAt N p w mv v s) (hb : Vw w0 p v w) (c1 f4 : Nat) (ty : Int) (lo : List Int) (bo : Il) (u1 : Option Addr) (r1 : Nat) (u2 : Option Addr) (r2 : Nat)
    (hc1 : w.cell? ⟨c1, 0, none⟩ = some (.pointer (some ⟨p, 0, none⟩))) (hf : Box w f4 #[.int .i64 ty, .slice u1 lo.length r1, .slice u2 bo.len r2]) (n1 : c1 ≠ p) (n2 : f4 ≠ p)
    (i1 : IntsIn w0 u1 lo) (hm : lo.length ≤ 65536) (l2 : bo.len ≤ 9223372036854775807) (i2 : IlIn w0 u2 0 bo) (ok : nOk bo) (hn : s.n + cCode lo bo ≤ 4611686018427387904) :
    Calls Tryd.prog 47 #[.pointer (some ⟨p, 0, none⟩), .func (.func 48) #[] #[.pointer (some ⟨c1, 0, none⟩), .pointer (some ⟨f4, 0, none⟩)]] w fun e w' => ∃ v2, e = .returned v2 ∧ WAt N p w' mv v ⟨s.l, (wCode lo bo ⟨[], s.n⟩).n⟩ ∧ Tr p v v w w' ∧ BIn w' v2 (wCode lo bo ⟨[], s.n⟩).l ∧ v2.ownBlock ≠ some p ∧ ∀ g, v2.ownBlock = some g → w.heap.size ≤ g := by
  obtain ⟨a, c, hv⟩ := own_slice h.own
  subst hv
  have c10 := h.c10
  have fr := h.free 10
  have hnil := h.nil
  have hcode := (InR.code lo bo ok) ⟨[], s.n⟩
  have tn := Tr.nil p (.slice a s.l.length c) w
  obtain ⟨w1, hw1⟩ : ∃ w1, w1 = w.setCell ⟨p, 10, none⟩ (.slice none 0 0) := ⟨_, rfl⟩
  have hc1' : w1.cell? ⟨c1, 0, none⟩ = some (.pointer (some ⟨p, 0, none⟩)) := by rw [hw1]; exact (World.cell?_of_block (Below.heap_setCell _ _ _ _ n1)).trans hc1
  have hf' : Box w1 f4 #[.int .i64 ty, .slice u1 lo.length r1, .slice u2 bo.len r2] := fun j u hj => by rw [hw1]; exact (World.cell?_of_block (Below.heap_setCell _ _ _ _ n2)).trans (hf j u hj)
  have hback := fun (w2 : World) (v2 : Value) (h2 : WAt N p w2 mv v2 (wCode lo bo ⟨[], s.n⟩)) (t : Tr p (.slice none 0 0) v2 w1 w2) => h.back h2 (hw1 ▸ t) hcode.1
  rw [← hw1] at hnil tn
  have hb1 := hb.tr tn
  replace hb1 := Lib.hid hb1
  replace h := Lib.hid h
  replace hnil := Lib.hid hnil
  replace hc1' := Lib.hid hc1'
  replace hf' := Lib.hid hf'
  replace hback := Lib.hid hback
  clear hb hc1 hf tn
  go_enter Tryd.func47, Tryd.ntmps47
  go_wp2_with fail
  rw [← hw1]
  clear hw1 c10 fr
  refine (code_any hnil.out hb1.out c1 f4 ty lo bo u1 r1 u2 r2 hc1'.out hf'.out n1 (fun e => by cases e) n2 (fun e => by cases e) i1 hm l2 i2 ok hn).mono ?_
  rintro e w2 ⟨rfl, v2, h2, t2⟩
  obtain ⟨a2, k2, hv2⟩ := own_slice h2.own
  subst hv2
  have c10 := h2.c10
  have fr := h2.free 10
  have hbk := Lib.hid (hback.out _ _ h2 t2)
  clear h2 t2
  go_wp2
  go_ret
  exact ⟨_, rfl, hbk.out⟩
end
end Go.Proofs.YtanpjbbhhofkfaaDoor
