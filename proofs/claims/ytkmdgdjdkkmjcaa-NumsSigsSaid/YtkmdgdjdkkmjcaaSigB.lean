/- The contract of Sig. -/
import Derived.Test.YtkmdgdjdkkmjcaaSigA
namespace Go.Proofs.Ytkmdgdjdkkmjcaa
open Go.RowKit
set_option linter.unusedVariables false

theorem of_k {op k n t : Int} (h : OfIs op k n t) : (k = 0 ∧ t = 0) ∨ k = 1 ∨ k = 2 ∨ k = 3 ∨ k = 4 ∨ (k = 5 ∧ (t = 126 ∨ t = 127)) := by
  rcases h.is with ⟨_, h, _, g⟩ | ⟨_, h, _, g⟩ | ⟨_, _, h, _, g⟩ | ⟨_, _, h, _, g⟩ | ⟨_, _, h, _, g⟩ | ⟨_, _, h, _, g⟩ | ⟨_, _, h, _, g⟩ | ⟨_, _, h, _, g⟩ | ⟨_, h, _, g⟩ | ⟨_, h, _, g⟩ | ⟨_, h, _, g⟩ | ⟨_, h, _, g⟩
  all_goals omega

theorem new_cell (w : World) (o1 o2 : Obj) (cs : Array Value) (e : TypeId) (i : Nat) (v : Value) (h : cs[i]? = some v) : (((w.alloc o1).alloc o2).alloc (.cells cs e)).cell? ⟨w.heap.size + 2, i, none⟩ = some v := by
  exact (World.cell?_alloc_at (w := (w.alloc o1).alloc o2) cs e _ i (by simp)).trans h

def SigIs (w : World) (k t : Int) (m : Nat) (e : Ending) (w' : World) : Prop :=
  ∃ v, e = .returned (.tuple #[v, .int .i64 (sR k t), .bool (k != 0)]) ∧ IsList w' v m t ∧ Below w.heap.size w w'

set_option maxRecDepth 100000 in
set_option maxHeartbeats 2000000 in
theorem sig_any (op k n t : Int) (w : World) (h : OfIs op k n t) (o1 : -9223372036854775808 ≤ op) (o2 : op ≤ 9223372036854775807) :
    Calls Try.prog 15 #[.int .i64 op] w (SigIs w k t (sN k).toNat) := by
  have HF := fun w => Lib.hid (of_any op k n t w h o1 o2)
  have hk := of_k h
  clear h
  rcases hk with ⟨rfl, rfl⟩ | rfl | rfl | rfl | rfl | ⟨rfl, ht⟩
  · go_enter Try.func15, Try.ntmps15
    go_wp2_with fail
    refine (HF _).out.mono ?_
    rintro e w' ⟨rfl, rfl⟩
    go_wp2
    go_ret3
    exact ⟨_, rfl, ⟨none, 0, rfl, .inl rfl⟩, (Below.of_alloc w _).alloc (by simp) _⟩
  · go_enter Try.func15, Try.ntmps15
    go_wp2_with fail
    refine (HF _).out.mono ?_
    rintro e w' ⟨rfl, rfl⟩
    go_wp2
    go_region
    all_goals
      go_wp2
      go_ret3
      refine ⟨_, rfl, ⟨some ⟨w.heap.size + 2, 0, none⟩, 1, by first | rfl | simp, .inr ⟨_, rfl, fun i hi => ?_⟩⟩, ?_⟩
      · have : i = 0 := by have : (sN 1).toNat = 1 := rfl; omega
        subst this
        exact new_cell _ _ _ _ _ _ _ rfl
      · first | exact (((Below.of_alloc w _).alloc (by simp) _).alloc (by simp; omega) _).drew | exact ((Below.of_alloc w _).alloc (by simp) _).alloc (by simp; omega) _
  · go_enter Try.func15, Try.ntmps15
    go_wp2_with fail
    refine (HF _).out.mono ?_
    rintro e w' ⟨rfl, rfl⟩
    go_wp2
    all_goals
      go_ret3
      refine ⟨_, rfl, ⟨some ⟨w.heap.size + 2, 0, none⟩, 1, by first | rfl | simp, .inr ⟨_, rfl, fun i hi => ?_⟩⟩, ?_⟩
      · have : i = 0 := by have : (sN 2).toNat = 1 := rfl; omega
        subst this
        exact new_cell _ _ _ _ _ _ _ rfl
      · first | exact (((Below.of_alloc w _).alloc (by simp) _).alloc (by simp; omega) _).drew | exact ((Below.of_alloc w _).alloc (by simp) _).alloc (by simp; omega) _
  · go_enter Try.func15, Try.ntmps15
    go_wp2_with fail
    refine (HF _).out.mono ?_
    rintro e w' ⟨rfl, rfl⟩
    go_wp2
    go_region
    all_goals
      go_wp2
      go_ret3
      refine ⟨_, rfl, ⟨some ⟨w.heap.size + 2, 0, none⟩, 2, by first | rfl | simp, .inr ⟨_, rfl, fun i hi => ?_⟩⟩, ?_⟩
      · have : i = 0 ∨ i = 1 := by have : (sN 3).toNat = 2 := rfl; omega
        rcases this with rfl | rfl <;> exact new_cell _ _ _ _ _ _ _ rfl
      · first | exact (((Below.of_alloc w _).alloc (by simp) _).alloc (by simp; omega) _).drew | exact ((Below.of_alloc w _).alloc (by simp) _).alloc (by simp; omega) _
  · go_enter Try.func15, Try.ntmps15
    go_wp2_with fail
    refine (HF _).out.mono ?_
    rintro e w' ⟨rfl, rfl⟩
    go_wp2
    all_goals
      go_ret3
      refine ⟨_, rfl, ⟨some ⟨w.heap.size + 2, 0, none⟩, 2, by first | rfl | simp, .inr ⟨_, rfl, fun i hi => ?_⟩⟩, ?_⟩
      · have : i = 0 ∨ i = 1 := by have : (sN 4).toNat = 2 := rfl; omega
        rcases this with rfl | rfl <;> exact new_cell _ _ _ _ _ _ _ rfl
      · first | exact (((Below.of_alloc w _).alloc (by simp) _).alloc (by simp; omega) _).drew | exact ((Below.of_alloc w _).alloc (by simp) _).alloc (by simp; omega) _
  · rcases ht with rfl | rfl
    all_goals
      go_enter Try.func15, Try.ntmps15
      go_wp2_with fail
      refine (HF _).out.mono ?_
      rintro e w' ⟨rfl, rfl⟩
      go_wp2
      go_region
      all_goals
        go_wp2
        go_ret3
        refine ⟨_, rfl, ⟨some ⟨w.heap.size + 2, 0, none⟩, 1, by first | rfl | simp, .inr ⟨_, rfl, fun i hi => ?_⟩⟩, ?_⟩
        · have : i = 0 := by have : (sN 5).toNat = 1 := rfl; omega
          subst this
          exact new_cell _ _ _ _ _ _ _ rfl
        · first | exact (((Below.of_alloc w _).alloc (by simp) _).alloc (by simp; omega) _).drew | exact ((Below.of_alloc w _).alloc (by simp) _).alloc (by simp; omega) _
end Go.Proofs.Ytkmdgdjdkkmjcaa
