/- Contract of Grow of package memory. -/
import Derived.Test.YtfnicijfhpfohaaC
import Derived.Test.YtfnicijfhpfohaaL
import Derived.Lib.Hide
namespace Go.Proofs.Ytfnicijfhpfohaa
open Go.RowKit

theorem atomicAdd (a : Addr) (x y : Int) (w : World) (h : w.cell? a = some (.int .i64 x)) (hz : w.frozen? a = false) (hs : -9223372036854775808 ≤ x + y ∧ x + y ≤ 9223372036854775807) :
    (callFunc 34 #[.pointer (some a), .int .i64 y]).run Try.prog w = .ok (.value (.int .i64 (x + y))) (w.setCell a (.int .i64 (x + y))) :=
  run_call_add Try.func34 (by kernel_rfl) (by kernel_rfl) (by kernel_rfl) .i64 (by kernel_rfl) h hz (by simp [Op.intArith]; exact IntWalk.i64_in _ hs)

theorem add64_any (b o : Nat) (x y : Int) (w : World) (h : w.cell? ⟨b, o, none⟩ = some (.int .i64 x)) (hz : w.frozen? ⟨b, o, none⟩ = false) (h1 : -9223372036854775808 ≤ x + y) (h2 : x + y ≤ 9223372036854775807) :
    Calls Try.prog 25 #[.pointer (some ⟨b, o, none⟩), .int .i64 y] w fun e w' => e = .returned (.int .i64 (x + y)) ∧ w.setCell ⟨b, o, none⟩ (.int .i64 (x + y)) = w' := by
  have hd := atomicAdd _ x y w h hz ⟨h1, h2⟩
  go_enter Try.func25, Try.ntmps25
  go_wp2
  go_ret
  exact ⟨rfl, rfl⟩

theorem grow_nil (n : Nat) (w : World) :
    Calls Try.prog 13 #[.pointer none, .int .u64 n] w fun e w' => e = .returned (.int .i64 (-1)) ∧ Chg w w' [] := by
  go_enter Try.func13, Try.ntmps13
  go_wp2
  go_quiet (fail)
  go_wp2
  go_ret
  exact ⟨rfl, (Chg.refl _ _).drewN _⟩

theorem grow_no (p q cap : Nat) (l : List Nat) (pg most : Nat) (n : Nat) (w : World) (h : MemAt w p q cap l pg most) (hn : most - pg < n) :
    Calls Try.prog 13 #[.pointer (some ⟨p, 0, none⟩), .int .u64 n] w fun e w' => e = .returned (.int .i64 (-1)) ∧ Chg w w' [] := by
  have hm := h.mostCell
  have h1 := h.most_le
  have h2 := h.pg_le
  have h3 : (most : Int) - pg < n := by omega
  by_cases hlt : (0 : Int) < most - pg
  · go_enter Try.func13, Try.ntmps13
    go_wp2
    go_quiet ((go_at_call 15; exact quietSame (pages_any _ _ _ _ _ _ _ (h.drewN _))))
    go_wp2
    go_ret
    exact ⟨rfl, (Chg.refl _ _).drewN _⟩
  · have hn0 : 0 < n := by omega
    go_enter Try.func13, Try.ntmps13
    go_wp2
    go_quiet ((go_at_call 15; exact quietSame (pages_any _ _ _ _ _ _ _ (h.drewN _))))
    go_wp2
    go_ret
    exact ⟨rfl, (Chg.refl _ _).drewN _⟩

structure Grown1 (w w' : World) (p q : Nat) (l : List Nat) (pg most q' cap' : Nat) : Prop where
  mem : MemAt w' p q' cap' l pg most
  chg : Chg w w' [p, q]
  new : q' = q ∨ w.heap.size ≤ q'
def GrownMem (p q : Nat) (l : List Nat) (pg most n : Nat) (w : World) (e : Ending) (w' : World) : Prop :=
  e = .returned (.int .i64 pg) ∧ ∃ q' cap', Grown1 w w' p q (l ++ zeros n) (pg + n) most q' cap'

def HeadAt (w : World) (p : Nat) (v x m : Value) : Prop := w.heap[p]? = some (.cells #[v, x, m] 61 (0, 0))
theorem grow_world {w w1 : World} {p q cap : Nat} {l : List Nat} {pg most : Nat} (h : MemAt w p q cap l pg most) {nq : Nat} (hg : (w.drewN nq).grownBy w1 (some q)) :
    HeadAt w1 p (.slice (some ⟨q, 0, none⟩) l.length cap) (.int .i64 (pg : Int)) (.int .i64 (most : Int)) := by
  show w1.heap[p]? = _
  rw [hg.block p h.lt (by simp; exact h.pq)]; exact h.head
theorem grow_c0 {w : World} {p : Nat} {v x m : Value} (h : HeadAt w p v x m) : w.cell? ⟨p, 0, none⟩ = some v := cell_of_head h 0
theorem grow_f0 {w : World} {p : Nat} {v x m : Value} (h : HeadAt w p v x m) : w.frozen? ⟨p, 0, none⟩ = false := frozen_of_head h 0
theorem head_set0 {w : World} {p : Nat} {v x m : Value} (h : HeadAt w p v x m) (u : Value) : HeadAt (w.setCell ⟨p, 0, none⟩ u) p u x m := heap_setCell_same w p 0 _ 61 u h
theorem head_set1 {w : World} {p : Nat} {v x m : Value} (h : HeadAt w p v x m) (u : Value) : HeadAt (w.setCell ⟨p, 1, none⟩ u) p v u m := heap_setCell_same w p 1 _ 61 u h
theorem grow_c1 {w : World} {p : Nat} {v x m : Value} (h : HeadAt w p v x m) (u : Value) : (w.setCell ⟨p, 0, none⟩ u).cell? ⟨p, 1, none⟩ = some x := cell_of_head (head_set0 h u) 1
theorem grow_f1 {w : World} {p : Nat} {v x m : Value} (h : HeadAt w p v x m) (u : Value) : (w.setCell ⟨p, 0, none⟩ u).frozen? ⟨p, 1, none⟩ = false := frozen_of_head (head_set0 h u) 1

theorem grow_end {w w1 : World} {p q cap : Nat} {l : List Nat} {pg most n q' cap' : Nat} (h : MemAt w p q cap l pg most) {nq : Nat}
    (hown : w1.ownsRow 0 5 1 (.slice (some ⟨q', 0, none⟩) (l.length + n * 65536) cap') (l.length + n * 65536) (l.map u8v ++ List.replicate (n * 65536) (.int .u8 0)))
    (hg : (w.drewN nq).grownBy w1 (some q)) (hnew : q' = q ∨ (w.drewN nq).heap.size ≤ q') (hs : l.length + n * 65536 ≤ 2097152) (hn : n ≤ most - pg) :
    Grown1 w ((w1.setCell ⟨p, 0, none⟩ (.slice (some ⟨q', 0, none⟩) (l.length + n * 65536) cap')).setCell ⟨p, 1, none⟩ (.int .i64 ((pg : Int) + n))) p q (l ++ zeros n) (pg + n) most q' cap' := by
  have hw1 := grow_world h hg
  have hp := h.lt
  have hpq := h.pq
  have hq' : p ≠ q' := by
    rcases hnew with rfl | hnew
    · exact hpq
    · have e0 : (w.drewN nq).heap.size = w.heap.size := rfl
      omega
  have hc : Chg w w1 [p, q] := ((Chg.refl w _).drewN nq).grown hg (by simp)
  have hrow : RowB w1 q' cap' (l ++ List.replicate (n * 65536) 0) := by
    refine ⟨?_, ?_, by simpa using hs⟩
    · have e : (l ++ List.replicate (n * 65536) 0).map u8v = l.map u8v ++ List.replicate (n * 65536) (.int .u8 0) := by simp [List.map_replicate, u8v]
      have e2 : (l ++ List.replicate (n * 65536) 0).length = l.length + n * 65536 := by simp
      rw [e, e2]
      exact hown
    · intro x hx
      rcases List.mem_append.1 hx with hx | hx
      · exact h.row.byte x hx
      · rw [List.eq_of_mem_replicate hx]; decide
  have hset : ∀ (wa : World) (i : Nat) (u : Value), Chg wa (wa.setCell ⟨p, i, none⟩ u) [p] := fun wa i u => (Chg.refl wa [p]).setCell _ _ (fun _ => by simp)
  refine ⟨⟨?_, (hrow.kept (hset _ _ _) (by simp; omega)).kept (hset _ _ _) (by simp; omega), hq', ?_, h.most_le, by have := h.pg_le; omega⟩, ?_, ?_⟩
  · have := head_set1 (head_set0 hw1 (.slice (some ⟨q', 0, none⟩) (l.length + n * 65536) cap')) (.int .i64 ((pg : Int) + n))
    rw [List.length_append, zeros_length]
    exact this
  · rw [List.length_append, zeros_length, h.pages, Nat.add_mul]
  · exact (hc.setCell _ _ (fun _ => by simp)).setCell _ _ (fun _ => by simp)
  · rcases hnew with rfl | hnew
    · exact .inl rfl
    · exact .inr hnew

theorem grow_yes (p q cap : Nat) (l : List Nat) (pg most : Nat) (n : Nat) (w : World) (h : MemAt w p q cap l pg most) (hn : n ≤ most - pg) :
    Calls Try.prog 13 #[.pointer (some ⟨p, 0, none⟩), .int .u64 n] w (GrownMem p q l pg most n w) := by
  obtain ⟨i0, hi, hz0, hz1, hz2⟩ := info_parts Try.info5
  have hm := h.mostCell
  have h0 := h.slice
  have h1 := h.most_le
  have h2 := h.pg_le
  have h3 : ¬ (most : Int) - pg < n := by omega
  have h4 : l.length + n * 65536 ≤ 2097152 := by have := h.pages; omega
  by_cases hlt : (0 : Int) < most - pg
  · go_enter Try.func13, Try.ntmps13
    go_wp2
    go_quiet ((go_at_call 15; exact quietSame (pages_any _ _ _ _ _ _ _ (h.drewN _))))
    go_wp2_with (first
     | (at_builtin; refine wpList_append_zeros _ rfl _ _ 54 3 rfl 0 5 i0 (.int .u8 0) .i64 .i64 Try.underlying54 Try.underlying3 hi hz0 hz1 hz2 rfl rfl q l.length cap (n * 65536) (l.map u8v) _ rfl rfl (by omega) (h.drewN nq).row.own (by omega) (Nat.zero_le _) ?_; intro q' cap' w1 hown hg hnew; have hw1 := grow_world h hg; have c0 := grow_c0 hw1; have f0 := grow_f0 hw1)
     | (go_at_call 25; refine (add64_any _ _ (pg : Int) _ _ (grow_c1 hw1 _) (grow_f1 hw1 _) (by omega) (by omega)).mono ?_; rintro e w' ⟨rfl, rfl⟩))
    have hfin := grow_end h hown hg hnew h4 hn
    go_ret
    exact ⟨by simp, _, _, hfin⟩
  · have hn0 : n = 0 := by omega
    have Hn0 := Lib.hid hn0
    clear hn0
    go_enter Try.func13, Try.ntmps13
    go_wp2
    go_quiet ((go_at_call 15; exact quietSame (pages_any _ _ _ _ _ _ _ (h.drewN _))))
    go_wp2_with (first
     | (at_builtin; refine wpList_append_zeros _ rfl _ _ 54 3 rfl 0 5 i0 (.int .u8 0) .i64 .i64 Try.underlying54 Try.underlying3 hi hz0 hz1 hz2 rfl rfl q l.length cap (n * 65536) (l.map u8v) _ rfl rfl (by omega) (h.drewN nq).row.own (by omega) (Nat.zero_le _) ?_; intro q' cap' w1 hown hg hnew; have hw1 := grow_world h hg; have c0 := grow_c0 hw1; have f0 := grow_f0 hw1)
     | (go_at_call 25; refine (add64_any _ _ (pg : Int) _ _ (grow_c1 hw1 _) (grow_f1 hw1 _) (by omega) (by omega)).mono ?_; rintro e w' ⟨rfl, rfl⟩))
    have hfin := grow_end h hown hg hnew h4 hn
    go_ret
    exact ⟨by simp, _, _, hfin⟩
end Go.Proofs.Ytfnicijfhpfohaa
