/- Contracts of New, Pages, Grow, Fork of package memory. -/
import Derived.Test.YtfnicijfhpfohaaB
import Derived.Deep.RegionWith
namespace Go.Proofs.Ytfnicijfhpfohaa
open Go.RowKit

theorem atomicLoad (a : Addr) (n : Int) (w : World) (h : w.cell? a = some (.int .i64 n)) : (callFunc 35 #[.pointer (some a)]).run Try.prog w = .ok (.value (.int .i64 n)) w := 
  run_call_load Try.func35 (by kernel_rfl) (by kernel_rfl) (by kernel_rfl) .i64 (by kernel_rfl) h

theorem atomicStore (a : Addr) (n : Int) (u : Value) (w : World) (h : w.cell? a = some u) (hz : w.frozen? a = false) : (callFunc 33 #[.pointer (some a), .int .i64 n]).run Try.prog w = .ok (.value (.tuple #[])) (w.setCell a (.int .i64 n)) := 
  run_call_store Try.func33 (by kernel_rfl) (by kernel_rfl) (by kernel_rfl) (by kernel_rfl) h hz

theorem load64_any (b o : Nat) (n : Int) (w : World) (h : w.cell? ⟨b, o, none⟩ = some (.int .i64 n)) :
    Calls Try.prog 26 #[.pointer (some ⟨b, o, none⟩)] w fun e w' => e = .returned (.int .i64 n) ∧ w = w' := by
  have hd := atomicLoad _ _ _ h
  go_enter Try.func26, Try.ntmps26
  go_wp2
  go_ret
  exact ⟨rfl, rfl⟩

theorem store64_any (b o : Nat) (n : Int) (u : Value) (w : World) (h : w.cell? ⟨b, o, none⟩ = some u) (hz : w.frozen? ⟨b, o, none⟩ = false) :
    Calls Try.prog 22 #[.pointer (some ⟨b, o, none⟩), .int .i64 n] w fun e w' => e = .returned (.tuple #[]) ∧ w.setCell ⟨b, o, none⟩ (.int .i64 n) = w' := by
  have hd := atomicStore _ n _ _ h hz
  go_enter Try.func22, Try.ntmps22
  go_wp2
  go_end0
  exact ⟨rfl, rfl⟩

theorem pages_any (p q cap : Nat) (l : List Nat) (pg most : Nat) (w : World) (h : MemAt w p q cap l pg most) :
    Calls Try.prog 15 #[.pointer (some ⟨p, 0, none⟩)] w fun e w' => e = .returned (.int .i64 pg) ∧ w = w' := by
  have h1 := h.pageCell
  go_enter Try.func15, Try.ntmps15
  go_wp2_with (first | (go_at_call 26; refine (load64_any _ _ _ _ h1).mono ?_; rintro e w' ⟨rfl, rfl⟩))
  go_ret
  exact ⟨rfl, rfl⟩

theorem pages_nil (w : World) :
    Calls Try.prog 15 #[.pointer none] w fun e w' => e = .returned (.int .i64 0) ∧ w = w' := by
  go_enter Try.func15, Try.ntmps15
  go_wp2
  go_ret
  exact ⟨rfl, rfl⟩

theorem new_no (mn mx : Int) (has : Bool) (w : World) (h : ¬ (0 ≤ mn ∧ mn ≤ 32)) :
    Calls Try.prog 8 #[.agg #[.int .i64 mn, .int .i64 mx, .bool has]] w fun e w' => e = .returned (.tuple #[.pointer none, .int .i64 81]) ∧ Chg w w' [] := by
  by_cases h1 : mn < 0
  · go_enter Try.func8, Try.ntmps8
    go_wp2
    go_ret2
    exact ⟨rfl, (Chg.refl _ _).alloc _⟩
  · go_enter Try.func8, Try.ntmps8
    go_wp2
    go_ret2
    exact ⟨rfl, (Chg.refl _ _).alloc _⟩

theorem Try.info5 : (Try.prog.info? 5).map (fun i => (i.zero, i.size, i.bytes)) = some (some (.int .u8 0), 1, 1) := by kernel_rfl

def mostOf (mn mx : Int) (has : Bool) : Nat := if has then (max mn (min mx 32)).toNat else 32

structure NewAt (w w' : World) (p q : Nat) (n most : Nat) : Prop where
  mem : MemAt w' p q (n * 65536) (zeros n) n most
  chg : Chg w w' []
  p_new : w.heap.size ≤ p
  q_new : w.heap.size ≤ q
def NewMem (n most : Nat) (w : World) (e : Ending) (w' : World) : Prop :=
  ∃ p q, e = .returned (.tuple #[.pointer (some ⟨p, 0, none⟩), .int .i64 0]) ∧ NewAt w w' p q n most

theorem new_end (w w1 : World) (n most : Nat) (mx : Int) (has : Bool) (q : Nat) (m : Int) (hq : q = w.heap.size + 1) (hm : m = (most : Int)) (_hn : n ≤ 32) (hmost : most ≤ 32) (hnm : n ≤ most)
    (hown : w1.ownsRow 0 5 1 (.slice (some ⟨(w.alloc (.cells #[.int .i64 n, .int .i64 mx, .bool has] 30)).heap.size, 0, none⟩) (n * 65536) (n * 65536)) (n * 65536) (madeCells (Value.int .u8 0).cells (n * 65536 * 1)).toList)
    (hg : (w.alloc (.cells #[.int .i64 n, .int .i64 mx, .bool has] 30)).grownBy w1 none) :
    NewAt w ((w1.alloc (.cells #[.slice (some ⟨q, 0, none⟩) (n * 65536) (n * 65536), .int .i64 n, .int .i64 m] 61)).drew) w1.heap.size q n most := by
  subst hq hm
  have hs : w.heap.size + 1 ≤ w1.heap.size := by have := hg.size; simpa using this
  have hq1 : w.heap.size + 1 < w1.heap.size := by
    have := (hown.lt (w.heap.size + 1) (by simp [Value.ownBlock])).2
    exact this
  have e1 : (w.alloc (.cells #[.int .i64 n, .int .i64 mx, .bool has] 30)).heap.size = w.heap.size + 1 := by simp
  have e2 : (madeCells (Value.int .u8 0).cells (n * 65536 * 1)).toList = (List.replicate (n * 65536) 0).map u8v := by
    rw [Nat.mul_one, List.map_replicate]
    exact toList_madeCells_one _ _
  rw [e1, e2] at hown
  have hrow : RowB w1 (w.heap.size + 1) (n * 65536) (List.replicate (n * 65536) 0) := by
    refine ⟨?_, ?_, by rw [List.length_replicate]; omega⟩
    · rw [List.length_replicate]; exact hown
    · intro x hx; rw [List.eq_of_mem_replicate hx]; decide
  have hc : Chg w w1 [] := ((Chg.refl w []).alloc _).grown hg (by simp)
  refine ⟨⟨?_, (hrow.kept ((Chg.refl w1 []).alloc _) (by simp)).drew, by omega, zeros_length n, hmost, hnm⟩, (hc.alloc _).drew, by omega, by omega⟩
  rw [zeros_length]
  exact heap_alloc_new w1 _

set_option maxHeartbeats 1000000 in
theorem new_yes (n : Nat) (mx : Int) (has : Bool) (w : World) (hn : n ≤ 32) :
    Calls Try.prog 8 #[.agg #[.int .i64 n, .int .i64 mx, .bool has]] w (NewMem n (mostOf n mx has) w) := by
  obtain ⟨i0, hi, hz0, hz1, hz2⟩ := info_parts Try.info5
  cases hh : has
  · go_enter Try.func8, Try.ntmps8
    go_wp2_with (first
        | (at_make; refine wpList_make_full _ rfl _ _ 54 rfl 0 5 i0 (.int .u8 0) 1 Try.underlying54 hi hz0 hz1 .i64 .i64 _ _ (n * 65536) rfl rfl (by omega) (by omega) (by rw [hz2]; omega) (by unfold maxLen; omega) (Nat.zero_le _) ?_; intro w1 hown hg; have hs1 : w.heap.size < w1.heap.size := by { have := hg.size; simp at this; omega }; have c0 := hg.cell (a := ⟨w.heap.size, 0, none⟩) (v := .int .i64 n) (by simp) (by simp); have c1 := hg.cell (a := ⟨w.heap.size, 1, none⟩) (v := .int .i64 mx) (by simp) (by simp); have c2 := hg.cell (a := ⟨w.heap.size, 2, none⟩) (v := .bool false) (by simp) (by simp)))
    all_goals go_region_with (go_at_call 22; refine (store64_any _ _ _ (.int .i64 0) _ (by simp) (by simp)).mono ?_; rintro e w' ⟨rfl, rfl⟩)
    all_goals go_wp2
    all_goals exact bodyPost_ret (results_tmp2 rfl _ _ _) rfl ⟨_, _, rfl, new_end w w1 n _ mx false _ _ rfl (by simp [mostOf]; try omega) hn (by simp [mostOf]; try omega) (by simp [mostOf]; try omega) hown hg⟩
  · by_cases h1 : mx < n
    · go_enter Try.func8, Try.ntmps8
      go_wp2_with (first
          | (at_make; refine wpList_make_full _ rfl _ _ 54 rfl 0 5 i0 (.int .u8 0) 1 Try.underlying54 hi hz0 hz1 .i64 .i64 _ _ (n * 65536) rfl rfl (by omega) (by omega) (by rw [hz2]; omega) (by unfold maxLen; omega) (Nat.zero_le _) ?_; intro w1 hown hg; have hs1 : w.heap.size < w1.heap.size := by { have := hg.size; simp at this; omega }; have c0 := hg.cell (a := ⟨w.heap.size, 0, none⟩) (v := .int .i64 n) (by simp) (by simp); have c1 := hg.cell (a := ⟨w.heap.size, 1, none⟩) (v := .int .i64 mx) (by simp) (by simp); have c2 := hg.cell (a := ⟨w.heap.size, 2, none⟩) (v := .bool true) (by simp) (by simp)))
      all_goals go_region_with (go_at_call 22; refine (store64_any _ _ _ (.int .i64 0) _ (by simp) (by simp)).mono ?_; rintro e w' ⟨rfl, rfl⟩)
      all_goals go_wp2
      all_goals exact bodyPost_ret (results_tmp2 rfl _ _ _) rfl ⟨_, _, rfl, new_end w w1 n _ mx true _ _ rfl (by simp [mostOf]; try omega) hn (by simp [mostOf]; try omega) (by simp [mostOf]; try omega) hown hg⟩
    · by_cases h2 : 32 < mx
      · go_enter Try.func8, Try.ntmps8
        go_wp2_with (first
            | (at_make; refine wpList_make_full _ rfl _ _ 54 rfl 0 5 i0 (.int .u8 0) 1 Try.underlying54 hi hz0 hz1 .i64 .i64 _ _ (n * 65536) rfl rfl (by omega) (by omega) (by rw [hz2]; omega) (by unfold maxLen; omega) (Nat.zero_le _) ?_; intro w1 hown hg; have hs1 : w.heap.size < w1.heap.size := by { have := hg.size; simp at this; omega }; have c0 := hg.cell (a := ⟨w.heap.size, 0, none⟩) (v := .int .i64 n) (by simp) (by simp); have c1 := hg.cell (a := ⟨w.heap.size, 1, none⟩) (v := .int .i64 mx) (by simp) (by simp); have c2 := hg.cell (a := ⟨w.heap.size, 2, none⟩) (v := .bool true) (by simp) (by simp)))
        all_goals go_region_with (go_at_call 22; refine (store64_any _ _ _ (.int .i64 0) _ (by simp) (by simp)).mono ?_; rintro e w' ⟨rfl, rfl⟩)
        all_goals go_wp2
        all_goals exact bodyPost_ret (results_tmp2 rfl _ _ _) rfl ⟨_, _, rfl, new_end w w1 n _ mx true _ _ rfl (by simp [mostOf]; try omega) hn (by simp [mostOf]; try omega) (by simp [mostOf]; try omega) hown hg⟩
      · go_enter Try.func8, Try.ntmps8
        go_wp2_with (first
            | (at_make; refine wpList_make_full _ rfl _ _ 54 rfl 0 5 i0 (.int .u8 0) 1 Try.underlying54 hi hz0 hz1 .i64 .i64 _ _ (n * 65536) rfl rfl (by omega) (by omega) (by rw [hz2]; omega) (by unfold maxLen; omega) (Nat.zero_le _) ?_; intro w1 hown hg; have hs1 : w.heap.size < w1.heap.size := by { have := hg.size; simp at this; omega }; have c0 := hg.cell (a := ⟨w.heap.size, 0, none⟩) (v := .int .i64 n) (by simp) (by simp); have c1 := hg.cell (a := ⟨w.heap.size, 1, none⟩) (v := .int .i64 mx) (by simp) (by simp); have c2 := hg.cell (a := ⟨w.heap.size, 2, none⟩) (v := .bool true) (by simp) (by simp)))
        all_goals go_region_with (go_at_call 22; refine (store64_any _ _ _ (.int .i64 0) _ (by simp) (by simp)).mono ?_; rintro e w' ⟨rfl, rfl⟩)
        all_goals go_wp2
        all_goals exact bodyPost_ret (results_tmp2 rfl _ _ _) rfl ⟨_, _, rfl, new_end w w1 n _ mx true _ _ rfl (by simp [mostOf]; try omega) hn (by simp [mostOf]; try omega) (by simp [mostOf]; try omega) hown hg⟩

end Go.Proofs.Ytfnicijfhpfohaa
