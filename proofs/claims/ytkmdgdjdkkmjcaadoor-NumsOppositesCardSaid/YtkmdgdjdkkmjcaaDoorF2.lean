/- The contract of Binary, at the table's entries. -/
import Derived.Test.YtkmdgdjdkkmjcaaDoorF0
import Derived.Test.YtkmdgdjdkkmjcaaDoorA
import Derived.Deep.RegionWith
namespace Go.Proofs.YtkmdgdjdkkmjcaaDoor
open Go.RowKit
set_option linter.unusedVariables false
set_option maxRecDepth 100000 in
set_option maxHeartbeats 1000000 in
theorem two_6 (op t a b V T : Int) (w : World) (h : OfIs op 3 6 t) (o1 : -9223372036854775808 ≤ op) (o2 : op ≤ 9223372036854775807)
    (a1 : 0 ≤ a) (a2 : a ≤ 18446744073709551615) (b1 : 0 ≤ b) (b2 : b ≤ 18446744073709551615)
    (H : ∀ w, Calls Tryd.prog 28 #[.int .u64 (cu t a), .int .u64 (cu t b), .int .i64 t] w fun e w' => e = .returned (.tuple #[.int .u64 V, .int .i64 T]) ∧ w = w') (v1 : 0 ≤ V) (v2 : V ≤ 18446744073709551615) :
    Calls Tryd.prog 8 #[.int .i64 op, .int .u64 a, .int .u64 b] w fun e w' => e = .returned (.tuple #[.int .u64 (cu t V), .int .i64 T, .bool true]) ∧ Below w.heap.size w w' := by
  have HF := fun w => Lib.hid (of_any op 3 6 t w h o1 o2)
  have HH := fun w => Lib.hid (H w)
  clear h H
  go_enter Tryd.func8, Tryd.ntmps8
  go_wp2_with fail
  refine (HF _).out.mono ?_
  rintro e w' ⟨rfl, rfl⟩
  go_wp2_with fail
  go_quiet ((go_at_call 10; exact quietSame (cut2 _ _ _ (by assumption) (by assumption))))
  go_wp2_with fail
  refine (plain_any _ _ _ _).mono ?_
  rintro e w' ⟨rfl, rfl⟩
  go_wp2_with fail
  go_region_with (first | (go_at_call 18; refine (twos_here _ _ _).mono ?_; rintro e w' ⟨rfl, rfl⟩) | (go_at_call 28; refine (HH _).out.mono ?_; rintro e w' ⟨rfl, rfl⟩))
  all_goals
    go_wp2_with fail
    refine (cut2 _ _ _ v1 v2).mono ?_
    rintro e w' ⟨rfl, rfl⟩
    go_wp2
    go_ret3
    refine ⟨rfl, ?_⟩
    exact Below.many (((Below.of_alloc w _).alloc (by simp) _).alloc (by simp; omega) _) _
set_option maxRecDepth 100000 in
set_option maxHeartbeats 1000000 in
theorem two_10 (op t a b V T : Int) (w : World) (h : OfIs op 3 10 t) (o1 : -9223372036854775808 ≤ op) (o2 : op ≤ 9223372036854775807)
    (a1 : 0 ≤ a) (a2 : a ≤ 18446744073709551615) (b1 : 0 ≤ b) (b2 : b ≤ 18446744073709551615)
    (H : ∀ w, Calls Tryd.prog 29 #[.int .u64 (cu t a), .int .u64 (cu t b), .int .i64 t] w fun e w' => e = .returned (.tuple #[.int .u64 V, .int .i64 T]) ∧ w = w') (v1 : 0 ≤ V) (v2 : V ≤ 18446744073709551615) :
    Calls Tryd.prog 8 #[.int .i64 op, .int .u64 a, .int .u64 b] w fun e w' => e = .returned (.tuple #[.int .u64 (cu t V), .int .i64 T, .bool true]) ∧ Below w.heap.size w w' := by
  have HF := fun w => Lib.hid (of_any op 3 10 t w h o1 o2)
  have HH := fun w => Lib.hid (H w)
  clear h H
  go_enter Tryd.func8, Tryd.ntmps8
  go_wp2_with fail
  refine (HF _).out.mono ?_
  rintro e w' ⟨rfl, rfl⟩
  go_wp2_with fail
  go_quiet ((go_at_call 10; exact quietSame (cut2 _ _ _ (by assumption) (by assumption))))
  go_wp2_with fail
  refine (plain_any _ _ _ _).mono ?_
  rintro e w' ⟨rfl, rfl⟩
  go_wp2_with fail
  go_region_with (first | (go_at_call 18; refine (twos_here _ _ _).mono ?_; rintro e w' ⟨rfl, rfl⟩) | (go_at_call 29; refine (HH _).out.mono ?_; rintro e w' ⟨rfl, rfl⟩))
  all_goals
    go_wp2_with fail
    refine (cut2 _ _ _ v1 v2).mono ?_
    rintro e w' ⟨rfl, rfl⟩
    go_wp2
    go_ret3
    refine ⟨rfl, ?_⟩
    exact Below.many (((Below.of_alloc w _).alloc (by simp) _).alloc (by simp; omega) _) _
set_option maxRecDepth 100000 in
set_option maxHeartbeats 1000000 in
theorem two_11 (op t a b V T : Int) (w : World) (h : OfIs op 3 11 t) (o1 : -9223372036854775808 ≤ op) (o2 : op ≤ 9223372036854775807)
    (a1 : 0 ≤ a) (a2 : a ≤ 18446744073709551615) (b1 : 0 ≤ b) (b2 : b ≤ 18446744073709551615)
    (H : ∀ w, Calls Tryd.prog 30 #[.int .u64 (cu t a), .int .u64 (cu t b), .int .i64 t] w fun e w' => e = .returned (.tuple #[.int .u64 V, .int .i64 T]) ∧ w = w') (v1 : 0 ≤ V) (v2 : V ≤ 18446744073709551615) :
    Calls Tryd.prog 8 #[.int .i64 op, .int .u64 a, .int .u64 b] w fun e w' => e = .returned (.tuple #[.int .u64 (cu t V), .int .i64 T, .bool true]) ∧ Below w.heap.size w w' := by
  have HF := fun w => Lib.hid (of_any op 3 11 t w h o1 o2)
  have HH := fun w => Lib.hid (H w)
  clear h H
  go_enter Tryd.func8, Tryd.ntmps8
  go_wp2_with fail
  refine (HF _).out.mono ?_
  rintro e w' ⟨rfl, rfl⟩
  go_wp2_with fail
  go_quiet ((go_at_call 10; exact quietSame (cut2 _ _ _ (by assumption) (by assumption))))
  go_wp2_with fail
  refine (plain_any _ _ _ _).mono ?_
  rintro e w' ⟨rfl, rfl⟩
  go_wp2_with fail
  go_region_with (first | (go_at_call 18; refine (twos_here _ _ _).mono ?_; rintro e w' ⟨rfl, rfl⟩) | (go_at_call 30; refine (HH _).out.mono ?_; rintro e w' ⟨rfl, rfl⟩))
  all_goals
    go_wp2_with fail
    refine (cut2 _ _ _ v1 v2).mono ?_
    rintro e w' ⟨rfl, rfl⟩
    go_wp2
    go_ret3
    refine ⟨rfl, ?_⟩
    exact Below.many (((Below.of_alloc w _).alloc (by simp) _).alloc (by simp; omega) _) _
end Go.Proofs.YtkmdgdjdkkmjcaaDoor
