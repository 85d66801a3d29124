/- Contracts of the reference's New, Grow, Fork. -/
import Derived.Test.YtfnicijfhpfohaaS
import Derived.Test.YtfnicijfhpfohaaG
namespace Go.Proofs.Ytfnicijfhpfohaa
open Go.RowKit

theorem rnew_no (mn mx : Int) (has : Bool) (w : World) (h : ¬ (0 ≤ mn ∧ mn ≤ 32)) :
    Calls Try.prog 16 #[.agg #[.int .i64 mn, .int .i64 mx, .bool has]] w fun e w' => e = .returned (.tuple #[.pointer none, .int .i64 81]) ∧ Chg w w' [] := by
  by_cases h1 : mn < 0
  · go_enter Try.func16, Try.ntmps16
    go_wp2
    go_ret2
    exact ⟨rfl, (Chg.refl _ _).alloc _⟩
  · go_enter Try.func16, Try.ntmps16
    go_wp2
    go_ret2
    exact ⟨rfl, (Chg.refl _ _).alloc _⟩

structure RNewAt (w w' : World) (p q : Nat) (n most : Nat) : Prop where
  mem : RMemAt w' p q (n * 65536) (zeros n) n most
  chg : Chg w w' []
  p_new : w.heap.size ≤ p
  q_new : w.heap.size ≤ q
def RNewMem (n most : Nat) (w : World) (e : Ending) (w' : World) : Prop :=
  ∃ p q, e = .returned (.tuple #[.pointer (some ⟨p, 0, none⟩), .int .i64 0]) ∧ RNewAt w w' p q n most

theorem rnew_end (w w1 : World) (n most : Nat) (mx : Int) (has : Bool) (q : Nat) (m : Int) (hq : q = w.heap.size + 1) (hm : m = (most : Int)) (_hn : n ≤ 32) (hmost : most ≤ 32) (hnm : n ≤ most)
    (hown : w1.ownsRow 0 5 1 (.slice (some ⟨(w.alloc (.cells #[.int .i64 n, .int .i64 mx, .bool has] 30)).heap.size, 0, none⟩) (n * 65536) (n * 65536)) (n * 65536) (madeCells (Value.int .u8 0).cells (n * 65536 * 1)).toList)
    (hg : (w.alloc (.cells #[.int .i64 n, .int .i64 mx, .bool has] 30)).grownBy w1 none) :
    RNewAt w (w1.alloc (.cells #[.slice (some ⟨q, 0, none⟩) (n * 65536) (n * 65536), .int .i64 m] 69)) w1.heap.size q n most := by
  subst hq hm
  have hs : w.heap.size + 1 ≤ w1.heap.size := by have := hg.size; simpa using this
  have hq1 : w.heap.size + 1 < w1.heap.size := by
    have := (hown.lt (w.heap.size + 1) (by simp [Value.ownBlock])).2
    exact this
  have e1 : (w.alloc (.cells #[.int .i64 n, .int .i64 mx, .bool has] 30)).heap.size = w.heap.size + 1 := by simp
  have e2 : (madeCells (Value.int .u8 0).cells (n * 65536 * 1)).toList = (List.replicate (n * 65536) 0).map u8v := by
    rw [Nat.mul_one, List.map_replicate]
    exact toList_madeCells_one _ _
  rw [e1, e2] at hown
  have hrow : RowB w1 (w.heap.size + 1) (n * 65536) (List.replicate (n * 65536) 0) := by
    refine ⟨?_, ?_, by rw [List.length_replicate]; omega⟩
    · rw [List.length_replicate]; exact hown
    · intro x hx; rw [List.eq_of_mem_replicate hx]; decide
  have hc : Chg w w1 [] := ((Chg.refl w []).alloc _).grown hg (by simp)
  refine ⟨⟨?_, hrow.kept ((Chg.refl w1 []).alloc _) (by simp), by omega, zeros_length n, hmost, hnm⟩, hc.alloc _, by omega, by omega⟩
  rw [zeros_length]
  exact heap_alloc_new w1 _

set_option maxHeartbeats 1000000 in
theorem rnew_any (N mx : Int) (n : Nat) (has : Bool) (w : World) (hN : N = (n : Int)) (hn : n ≤ 32) :
    Calls Try.prog 16 #[.agg #[.int .i64 N, .int .i64 mx, .bool has]] w (RNewMem n (mostOf n mx has) w) := by
  subst hN
  obtain ⟨i0, hi, hz0, hz1, hz2⟩ := info_parts Try.info5
  cases hh : has
  · go_enter Try.func16, Try.ntmps16
    go_wp2_with (first
        | (at_make; refine wpList_make_full _ rfl _ _ 54 rfl 0 5 i0 (.int .u8 0) 1 Try.underlying54 hi hz0 hz1 .i64 .i64 _ _ (n * 65536) rfl rfl (by omega) (by omega) (by rw [hz2]; omega) (by unfold maxLen; omega) (Nat.zero_le _) ?_; intro w1 hown hg))
    all_goals exact bodyPost_ret (results_tmp2 rfl _ _ _) rfl ⟨_, _, rfl, rnew_end w _ n _ mx false _ _ rfl (by simp [mostOf]; try omega) hn (by simp [mostOf]; try omega) (by simp [mostOf]; try omega) hown hg⟩
  · by_cases h1 : mx < 32
    · go_enter Try.func16, Try.ntmps16
      go_wp2_with (first
          | (at_make; refine wpList_make_full _ rfl _ _ 54 rfl 0 5 i0 (.int .u8 0) 1 Try.underlying54 hi hz0 hz1 .i64 .i64 _ _ (n * 65536) rfl rfl (by omega) (by omega) (by rw [hz2]; omega) (by unfold maxLen; omega) (Nat.zero_le _) ?_; intro w1 hown hg))
      all_goals exact bodyPost_ret (results_tmp2 rfl _ _ _) rfl ⟨_, _, rfl, rnew_end w _ n _ mx true _ _ rfl (by simp [mostOf]; try omega) hn (by simp [mostOf]; try omega) (by simp [mostOf]; try omega) hown hg⟩
    · go_enter Try.func16, Try.ntmps16
      go_wp2_with (first
          | (at_make; refine wpList_make_full _ rfl _ _ 54 rfl 0 5 i0 (.int .u8 0) 1 Try.underlying54 hi hz0 hz1 .i64 .i64 _ _ (n * 65536) rfl rfl (by omega) (by omega) (by rw [hz2]; omega) (by unfold maxLen; omega) (Nat.zero_le _) ?_; intro w1 hown hg))
      all_goals exact bodyPost_ret (results_tmp2 rfl _ _ _) rfl ⟨_, _, rfl, rnew_end w _ n _ mx true _ _ rfl (by simp [mostOf]; try omega) hn (by simp [mostOf]; try omega) (by simp [mostOf]; try omega) hown hg⟩

theorem RMemAt.drewN {w : World} {p q cap : Nat} {l : List Nat} {pg most : Nat} (h : RMemAt w p q cap l pg most) (n : Nat) : RMemAt (w.drewN n) p q cap l pg most :=
  ⟨h.head, h.row.drewN n, h.pq, h.pages, h.most_le, h.pg_le⟩

theorem rgrow_nil (n : Nat) (w : World) :
    Calls Try.prog 29 #[.pointer none, .int .u64 n] w fun e w' => e = .returned (.int .i64 (-1)) ∧ Chg w w' [] := by
  go_enter Try.func29, Try.ntmps29
  go_wp2
  go_quiet (fail)
  go_wp2
  go_ret
  exact ⟨rfl, (Chg.refl _ _).drewN _⟩

theorem rgrow_no (p q cap : Nat) (l : List Nat) (pg most : Nat) (n : Nat) (w : World) (h : RMemAt w p q cap l pg most) (hn : most - pg < n) :
    Calls Try.prog 29 #[.pointer (some ⟨p, 0, none⟩), .int .u64 n] w fun e w' => e = .returned (.int .i64 (-1)) ∧ Chg w w' [] := by
  have hm := h.mostCell
  have h1 := h.most_le
  have h2 := h.pg_le
  have h3 : (most : Int) - pg < n := by omega
  go_enter Try.func29, Try.ntmps29
  go_wp2
  go_quiet ((go_at_call 17; exact quietSame (rpages_any _ _ _ _ _ _ _ (h.drewN _))))
  go_wp2
  go_ret
  exact ⟨rfl, (Chg.refl _ _).drewN _⟩

structure RGrown1 (w w' : World) (p q : Nat) (l : List Nat) (pg most q' cap' : Nat) : Prop where
  mem : RMemAt w' p q' cap' l pg most
  chg : Chg w w' [p, q]
  new : q' = q ∨ w.heap.size ≤ q'

def RHeadAt (w : World) (p : Nat) (v m : Value) : Prop := w.heap[p]? = some (.cells #[v, m] 69 (0, 0))
theorem rgrow_world {w w1 : World} {p q cap : Nat} {l : List Nat} {pg most : Nat} (h : RMemAt w p q cap l pg most) {nq : Nat} (hg : (w.drewN nq).grownBy w1 (some q)) :
    RHeadAt w1 p (.slice (some ⟨q, 0, none⟩) l.length cap) (.int .i64 (most : Int)) := by
  show w1.heap[p]? = _
  rw [hg.block p h.lt (by simp; exact h.pq)]; exact h.head
theorem rgrow_c0 {w : World} {p : Nat} {v m : Value} (h : RHeadAt w p v m) : w.cell? ⟨p, 0, none⟩ = some v := cell_of_head h 0
theorem rgrow_f0 {w : World} {p : Nat} {v m : Value} (h : RHeadAt w p v m) : w.frozen? ⟨p, 0, none⟩ = false := frozen_of_head h 0
theorem rhead_set0 {w : World} {p : Nat} {v m : Value} (h : RHeadAt w p v m) (u : Value) : RHeadAt (w.setCell ⟨p, 0, none⟩ u) p u m := heap_setCell_same w p 0 _ 69 u h

theorem rgrow_end {w w1 : World} {p q cap : Nat} {l : List Nat} {pg most n q' cap' : Nat} (h : RMemAt w p q cap l pg most) {nq : Nat}
    (hown : w1.ownsRow 0 5 1 (.slice (some ⟨q', 0, none⟩) (l.length + n * 65536) cap') (l.length + n * 65536) (l.map u8v ++ List.replicate (n * 65536) (.int .u8 0)))
    (hg : (w.drewN nq).grownBy w1 (some q)) (hnew : q' = q ∨ (w.drewN nq).heap.size ≤ q') (hs : l.length + n * 65536 ≤ 2097152) (hn : n ≤ most - pg) :
    RGrown1 w (w1.setCell ⟨p, 0, none⟩ (.slice (some ⟨q', 0, none⟩) (l.length + n * 65536) cap')) p q (l ++ zeros n) (pg + n) most q' cap' := by
  have hw1 := rgrow_world h hg
  have hp := h.lt
  have hpq := h.pq
  have hq' : p ≠ q' := by
    rcases hnew with rfl | hnew
    · exact hpq
    · have e0 : (w.drewN nq).heap.size = w.heap.size := rfl
      omega
  have hc : Chg w w1 [p, q] := ((Chg.refl w _).drewN nq).grown hg (by simp)
  have hrow : RowB w1 q' cap' (l ++ List.replicate (n * 65536) 0) := by
    refine ⟨?_, ?_, by simpa using hs⟩
    · have e : (l ++ List.replicate (n * 65536) 0).map u8v = l.map u8v ++ List.replicate (n * 65536) (.int .u8 0) := by simp [List.map_replicate, u8v]
      have e2 : (l ++ List.replicate (n * 65536) 0).length = l.length + n * 65536 := by simp
      rw [e, e2]
      exact hown
    · intro x hx
      rcases List.mem_append.1 hx with hx | hx
      · exact h.row.byte x hx
      · rw [List.eq_of_mem_replicate hx]; decide
  have hset : ∀ (wa : World) (i : Nat) (u : Value), Chg wa (wa.setCell ⟨p, i, none⟩ u) [p] := fun wa i u => (Chg.refl wa [p]).setCell _ _ (fun _ => by simp)
  refine ⟨⟨?_, hrow.kept (hset _ _ _) (by simp; omega), hq', ?_, h.most_le, by have := h.pg_le; omega⟩, ?_, ?_⟩
  · have := rhead_set0 hw1 (.slice (some ⟨q', 0, none⟩) (l.length + n * 65536) cap')
    rw [List.length_append, zeros_length]
    exact this
  · rw [List.length_append, zeros_length, h.pages, Nat.add_mul]
  · exact hc.setCell _ _ (fun _ => by simp)
  · rcases hnew with rfl | hnew
    · exact .inl rfl
    · exact .inr hnew

def RGrowMem (p q : Nat) (l : List Nat) (pg most n : Nat) (w : World) (e : Ending) (w' : World) : Prop :=
  e = .returned (.int .i64 (growOut pg most n)) ∧ ∃ q' cap', RGrown1 w w' p q (growLen l pg most n) (growPg pg most n) most q' cap'

theorem rgrow_yes (p q cap : Nat) (l : List Nat) (pg most : Nat) (n : Nat) (w : World) (h : RMemAt w p q cap l pg most) (hn : n ≤ most - pg) :
    Calls Try.prog 29 #[.pointer (some ⟨p, 0, none⟩), .int .u64 n] w fun e w' => e = .returned (.int .i64 pg) ∧ ∃ q' cap', RGrown1 w w' p q (l ++ zeros n) (pg + n) most q' cap' := by
  obtain ⟨i0, hi, hz0, hz1, hz2⟩ := info_parts Try.info5
  have hm := h.mostCell
  have h0 := h.slice
  have h1 := h.most_le
  have h2 := h.pg_le
  have h3 : ¬ (most : Int) - pg < n := by omega
  have h4 : l.length + n * 65536 ≤ 2097152 := by have := h.pages; omega
  have HP : ∃ P : Ending → World → Prop, P = fun e w' => e = .returned (.int .i64 pg) ∧ ∃ q' cap', RGrown1 w w' p q (l ++ zeros n) (pg + n) most q' cap' := ⟨_, rfl⟩
  obtain ⟨P, hP⟩ := HP
  rw [← hP]
  have HP := Lib.hid hP
  clear hP
  go_enter Try.func29, Try.ntmps29
  go_wp2
  go_quiet ((go_at_call 17; exact quietSame (rpages_any _ _ _ _ _ _ _ (h.drewN _))))
  go_wp2_with (first
     | (go_at_call 17; refine (rpages_any _ _ _ _ _ _ _ (h.drewN nq)).mono ?_; rintro e w' ⟨rfl, rfl⟩)
     | (at_builtin; refine wpList_append_zeros _ rfl _ _ 54 3 rfl 0 5 i0 (.int .u8 0) .i64 .i64 Try.underlying54 Try.underlying3 hi hz0 hz1 hz2 rfl rfl q l.length cap (n * 65536) (l.map u8v) _ rfl rfl (by omega) (h.drewN nq).row.own (by omega) (Nat.zero_le _) ?_; intro q' cap' w1 hown hg hnew; have hw1 := rgrow_world h hg; have c0 := rgrow_c0 hw1; have f0 := rgrow_f0 hw1))
  have hfin := rgrow_end h hown hg hnew h4 hn
  rw [HP.out]
  exact ⟨rfl, _, _, hfin⟩

theorem rgrow_any (p q cap : Nat) (l : List Nat) (pg most : Nat) (N : Int) (n : Nat) (w : World) (h : RMemAt w p q cap l pg most) (hN : N = (n : Int)) :
    Calls Try.prog 29 #[.pointer (some ⟨p, 0, none⟩), .int .u64 N] w (RGrowMem p q l pg most n w) := by
  subst hN
  unfold RGrowMem growOut growLen growPg
  by_cases hn : n ≤ most - pg
  · rw [if_pos hn, if_pos hn, if_pos hn]
    exact rgrow_yes p q cap l pg most n w h hn
  · rw [if_neg hn, if_neg hn, if_neg hn]
    refine (rgrow_no p q cap l pg most n w h (by omega)).mono ?_
    rintro e w' ⟨rfl, hc⟩
    exact ⟨rfl, q, cap, h.kept hc (by simp) (by simp), hc.mono (by simp), .inl rfl⟩
theorem rfork_src {w : World} {p q cap : Nat} {l : List Nat} {pg most : Nat} (h : RMemAt w p q cap l pg most) (o : Obj) :
    ∀ j u, (l.map u8v)[j]? = some u → (w.alloc o).drew.cell? ((⟨q, 0, none⟩ : Addr).add j) = some u :=
  ((h.row.kept ((Chg.refl w []).alloc o) (by simp)).drew).own.cells (g := q) rfl

structure RForkAt (w w' : World) (p q cap : Nat) (l : List Nat) (pg most : Nat) : Prop where
  mem : RMemAt w' p q cap l pg most
  chg : Chg w w' []
  p_new : w.heap.size ≤ p
  q_new : w.heap.size ≤ q
def RForkMem (l : List Nat) (pg most : Nat) (w : World) (e : Ending) (w' : World) : Prop :=
  ∃ p q cap, e = .returned (.pointer (some ⟨p, 0, none⟩)) ∧ RForkAt w w' p q cap l pg most

theorem rfork_end {w w1 : World} {p q cap : Nat} {l : List Nat} {pg most g cap' : Nat} (h : RMemAt w p q cap l pg most)
    (hown : w1.ownsRow 0 5 1 (.slice (some ⟨g, 0, none⟩) (0 + l.length) cap') (0 + l.length) ([] ++ l.map u8v))
    (hg : (w.alloc (.cells #[] 5)).drew.grownBy w1 (some w.heap.size)) (hat : g = w.heap.size ∨ (w.alloc (.cells #[] 5)).drew.heap.size ≤ g) (hlt : g < w1.heap.size) :
    RForkAt w (w1.alloc (.cells #[.slice (some ⟨g, 0, none⟩) l.length cap', .int .i64 most] 69)) w1.heap.size g cap' l pg most := by
  have e1 : (w.alloc (.cells #[] 5)).drew.heap.size = w.heap.size + 1 := by simp
  have hs := hg.size
  rw [Nat.zero_add, List.nil_append] at hown
  have hrow : RowB w1 g cap' l := ⟨hown, h.row.byte, h.row.small⟩
  have hc : Chg w w1 [] := (((Chg.refl w []).alloc _).drew).grown hg (by intro k hk; simp at hk; omega)
  refine ⟨⟨heap_alloc_new w1 _, hrow.kept ((Chg.refl w1 []).alloc _) (by simp), by omega, h.pages, h.most_le, h.pg_le⟩, hc.alloc _, by omega, by omega⟩

theorem rfork_nil (w : World) :
    Calls Try.prog 19 #[.pointer none] w fun e w' => e = .returned (.pointer none) ∧ w = w' := by
  go_enter Try.func19, Try.ntmps19
  go_wp2
  go_ret
  exact ⟨rfl, rfl⟩

set_option maxHeartbeats 1000000 in
theorem rfork_any (p q cap : Nat) (l : List Nat) (pg most : Nat) (w : World) (h : RMemAt w p q cap l pg most) :
    Calls Try.prog 19 #[.pointer (some ⟨p, 0, none⟩)] w (RForkMem l pg most w) := by
  obtain ⟨i0, hi, hz0, hz1, hz2⟩ := info_parts Try.info5
  have h0 := h.slice
  have h2 := h.mostCell
  have hp := h.lt
  have hsm := h.row.small
  go_enter Try.func19, Try.ntmps19
  go_wp2
  go_region_held3 (fun w' => w'.cell? ⟨p, 0, none⟩ = some (.slice (some ⟨q, 0, none⟩) l.length cap) ∧ w'.cell? ⟨p, 1, none⟩ = some (.int .i64 (most : Int)))
    (first | go_keep | exact ⟨fork_cell hp hgrow h0, fork_cell hp hgrow h2⟩)
    ((refine step_append_slice _ (by rfl) _ _ _ (by rfl) 0 5 i0 (.int .u8 0) 1 1 Try.underlying54 hi hz0 hz1 hz2 rfl (by omega) w.heap.size 0 0 [] (by rfl) ((World.ownsRow_made w #[] 0 (Nat.zero_le _) (by unfold maxLen; omega) (by rfl)).drew)
       ⟨q, 0, none⟩ l.length cap (l.map u8v) (by rfl) (by simp) (rfork_src h _) (u8v_one l) (by unfold maxLen; omega) (by omega) (by simp) ?_; intro g cap' w1 hown1 hgrow hat hlt))
  have hfin := rfork_end h hown1 hgrow hat hlt
  rename_i hh
  clear hown1 hgrow hat hh
  go_wp2
  go_ret
  exact ⟨_, _, _, rfl, hfin⟩
end Go.Proofs.Ytfnicijfhpfohaa
