/- Contract of Fork of package memory. -/
import Derived.Test.YtfnicijfhpfohaaE
import Derived.Deep.RegionHeld3
import Derived.Test.YtfnicijfhpfohaaL2
namespace Go.Proofs.Ytfnicijfhpfohaa
open Go.RowKit

theorem fork_nil (w : World) :
    Calls Try.prog 14 #[.pointer none] w fun e w' => e = .returned (.pointer none) ∧ w = w' := by
  go_enter Try.func14, Try.ntmps14
  go_wp2
  go_ret
  exact ⟨rfl, rfl⟩

structure ForkAt (w w' : World) (p q cap : Nat) (l : List Nat) (pg most : Nat) : Prop where
  mem : MemAt w' p q cap l pg most
  chg : Chg w w' []
  p_new : w.heap.size ≤ p
  q_new : w.heap.size ≤ q
def ForkMem (l : List Nat) (pg most : Nat) (w : World) (e : Ending) (w' : World) : Prop :=
  ∃ p q cap, e = .returned (.pointer (some ⟨p, 0, none⟩)) ∧ ForkAt w w' p q cap l pg most

theorem fork_src {w : World} {p q cap : Nat} {l : List Nat} {pg most : Nat} (h : MemAt w p q cap l pg most) (o : Obj) :
    ∀ j u, (l.map u8v)[j]? = some u → (w.alloc o).drew.cell? ((⟨q, 0, none⟩ : Addr).add j) = some u :=
  ((h.row.kept ((Chg.refl w []).alloc o) (by simp)).drew).own.cells (g := q) rfl
theorem u8v_one (l : List Nat) : ∀ u ∈ l.map u8v, u.oneCell' = true := by
  intro u hu
  obtain ⟨x, _, rfl⟩ := List.mem_map.1 hu
  rfl
theorem fork_cell {w w1 : World} {p : Nat} {i : Nat} {v : Value} {o : Obj} (hp : p < w.heap.size) (hg : (w.alloc o).drew.grownBy w1 (some w.heap.size)) (h : w.cell? ⟨p, i, none⟩ = some v) : w1.cell? ⟨p, i, none⟩ = some v :=
  hg.cell (by show (w.alloc o).cell? _ = _; rw [World.cell?_alloc_past _ _ _ hp]; exact h) (by simp; omega)

theorem fork_end {w w1 : World} {p q cap : Nat} {l : List Nat} {pg most g cap' : Nat} (h : MemAt w p q cap l pg most)
    (hown : w1.ownsRow 0 5 1 (.slice (some ⟨g, 0, none⟩) (0 + l.length) cap') (0 + l.length) ([] ++ l.map u8v))
    (hg : (w.alloc (.cells #[] 5)).drew.grownBy w1 (some w.heap.size)) (hat : g = w.heap.size ∨ (w.alloc (.cells #[] 5)).drew.heap.size ≤ g) (hlt : g < w1.heap.size) (n : Nat) :
    ForkAt w ((w1.alloc (.cells #[.slice (some ⟨g, 0, none⟩) l.length cap', .int .i64 pg, .int .i64 most] 61)).drewN n) w1.heap.size g cap' l pg most := by
  have e1 : (w.alloc (.cells #[] 5)).drew.heap.size = w.heap.size + 1 := by simp
  have hs := hg.size
  rw [Nat.zero_add, List.nil_append] at hown
  have hrow : RowB w1 g cap' l := ⟨hown, h.row.byte, h.row.small⟩
  have hc : Chg w w1 [] := (((Chg.refl w []).alloc _).drew).grown hg (by intro k hk; simp at hk; omega)
  refine ⟨⟨heap_alloc_new w1 _, (hrow.kept ((Chg.refl w1 []).alloc _) (by simp)).drewN _, by omega, h.pages, h.most_le, h.pg_le⟩, (hc.alloc _).drewN _, by omega, by omega⟩

set_option maxHeartbeats 1000000 in
theorem fork_any (p q cap : Nat) (l : List Nat) (pg most : Nat) (w : World) (h : MemAt w p q cap l pg most) :
    Calls Try.prog 14 #[.pointer (some ⟨p, 0, none⟩)] w (ForkMem l pg most w) := by
  obtain ⟨i0, hi, hz0, hz1, hz2⟩ := info_parts Try.info5
  have h0 := h.slice
  have h1 := h.pageCell
  have h2 := h.mostCell
  have hp := h.lt
  have hsm := h.row.small
  go_enter Try.func14, Try.ntmps14
  go_wp2
  go_region_held3 (fun w' => w'.cell? ⟨p, 0, none⟩ = some (.slice (some ⟨q, 0, none⟩) l.length cap) ∧ w'.cell? ⟨p, 2, none⟩ = some (.int .i64 (most : Int)))
    (first | go_keep | exact ⟨fork_cell hp hgrow h0, fork_cell hp hgrow h2⟩)
    ((refine step_append_slice _ (by rfl) _ _ _ (by rfl) 0 5 i0 (.int .u8 0) 1 1 Try.underlying54 hi hz0 hz1 hz2 rfl (by omega) w.heap.size 0 0 [] (by rfl) ((World.ownsRow_made w #[] 0 (Nat.zero_le _) (by unfold maxLen; omega) (by rfl)).drew)
       ⟨q, 0, none⟩ l.length cap (l.map u8v) (by rfl) (by simp) (fork_src h _) (u8v_one l) (by unfold maxLen; omega) (by omega) (by simp) ?_; intro g cap' w1 hown1 hgrow hat hlt))
  have c1 := fork_cell hp hgrow h1
  have hs0 : w.heap.size + 1 ≤ w1.heap.size := by have := hgrow.size; simpa using this
  have hfin := fork_end h hown1 hgrow hat hlt
  rename_i hh
  clear hown1 hgrow hat hh
  have hps : p < w1.heap.size := by omega
  go_wp2
  go_region_with (first | (go_at_call 26; refine (load64_any p 1 (pg : Int) _ (by simp [World.cell?_alloc_past _ _ _ hps, c1])).mono ?_; rintro e w' ⟨rfl, rfl⟩) | (go_at_call 22; refine (store64_any _ _ _ (.int .i64 0) _ (by simp) (by simp)).mono ?_; rintro e w' ⟨rfl, rfl⟩))
  go_wp2
  go_ret
  exact ⟨_, _, _, rfl, hfin 1⟩
end Go.Proofs.Ytfnicijfhpfohaa
