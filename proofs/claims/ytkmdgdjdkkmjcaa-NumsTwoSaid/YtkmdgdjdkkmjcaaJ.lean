/- The reference's Binary, where it neither compares nor divides. -/
import Derived.Test.YtkmdgdjdkkmjcaaH
import Derived.Test.YtkmdgdjdkkmjcaaK
namespace Go.Proofs.Ytkmdgdjdkkmjcaa
open Go.RowKit
set_option linter.unusedVariables false
set_option maxRecDepth 100000 in
set_option maxHeartbeats 1000000 in
theorem rb_127_0 (a b : Nat) (w : World) (a2 : a < 18446744073709551616) (b2 : b < 18446744073709551616) :
    Calls Try.prog 9 #[.int .i64 106, .int .u64 a, .int .u64 b] w fun e w' => e = .returned (.tuple #[.int .u64 (cu 127 (twoV 0 127 (cu 127 a) (cu 127 b))), .int .i64 0, .bool true]) ∧ w = w' := by
  have HF := fun w => Lib.hid (rsig_any 106 3 0 127 w ⟨by omega⟩ (by decide) (by decide))
  go_enter Try.func9, Try.ntmps9
  go_wp2_with fail
  refine (HF _).out.mono ?_
  rintro e w' ⟨rfl, rfl⟩
  go_wp2_with fail
  refine (rsigned_any _ _ _ (by omega) (by omega)).mono ?_
  rintro e w' ⟨rfl, rfl⟩
  go_wp2_with fail
  refine (rsigned_any _ _ _ (by omega) (by omega)).mono ?_
  rintro e w' ⟨rfl, rfl⟩
  go_wp2
  go_ret3
  refine ⟨?_, rfl⟩
  exact congrArg (fun v => Ending.returned (.tuple #[.int .u64 v, .int .i64 0, .bool true])) (pv_127_0 a b a2 b2)
set_option maxRecDepth 100000 in
set_option maxHeartbeats 1000000 in
theorem rb_126_0 (a b : Nat) (w : World) (a2 : a < 18446744073709551616) (b2 : b < 18446744073709551616) :
    Calls Try.prog 9 #[.int .i64 124, .int .u64 a, .int .u64 b] w fun e w' => e = .returned (.tuple #[.int .u64 (cu 126 (twoV 0 126 (cu 126 a) (cu 126 b))), .int .i64 0, .bool true]) ∧ w = w' := by
  have HF := fun w => Lib.hid (rsig_any 124 3 0 126 w ⟨by omega⟩ (by decide) (by decide))
  go_enter Try.func9, Try.ntmps9
  go_wp2_with fail
  refine (HF _).out.mono ?_
  rintro e w' ⟨rfl, rfl⟩
  go_wp2_with fail
  refine (rsigned_any _ _ _ (by omega) (by omega)).mono ?_
  rintro e w' ⟨rfl, rfl⟩
  go_wp2_with fail
  refine (rsigned_any _ _ _ (by omega) (by omega)).mono ?_
  rintro e w' ⟨rfl, rfl⟩
  go_wp2
  go_ret3
  refine ⟨?_, rfl⟩
  exact congrArg (fun v => Ending.returned (.tuple #[.int .u64 v, .int .i64 0, .bool true])) (pv_126_0 a b a2 b2)
set_option maxRecDepth 100000 in
set_option maxHeartbeats 1000000 in
theorem rb_127_1 (a b : Nat) (w : World) (a2 : a < 18446744073709551616) (b2 : b < 18446744073709551616) :
    Calls Try.prog 9 #[.int .i64 107, .int .u64 a, .int .u64 b] w fun e w' => e = .returned (.tuple #[.int .u64 (cu 127 (twoV 1 127 (cu 127 a) (cu 127 b))), .int .i64 0, .bool true]) ∧ w = w' := by
  have HF := fun w => Lib.hid (rsig_any 107 3 1 127 w ⟨by omega⟩ (by decide) (by decide))
  go_enter Try.func9, Try.ntmps9
  go_wp2_with fail
  refine (HF _).out.mono ?_
  rintro e w' ⟨rfl, rfl⟩
  go_wp2_with fail
  refine (rsigned_any _ _ _ (by omega) (by omega)).mono ?_
  rintro e w' ⟨rfl, rfl⟩
  go_wp2_with fail
  refine (rsigned_any _ _ _ (by omega) (by omega)).mono ?_
  rintro e w' ⟨rfl, rfl⟩
  go_wp2
  go_ret3
  refine ⟨?_, rfl⟩
  exact congrArg (fun v => Ending.returned (.tuple #[.int .u64 v, .int .i64 0, .bool true])) (pv_127_1 a b a2 b2)
set_option maxRecDepth 100000 in
set_option maxHeartbeats 1000000 in
theorem rb_126_1 (a b : Nat) (w : World) (a2 : a < 18446744073709551616) (b2 : b < 18446744073709551616) :
    Calls Try.prog 9 #[.int .i64 125, .int .u64 a, .int .u64 b] w fun e w' => e = .returned (.tuple #[.int .u64 (cu 126 (twoV 1 126 (cu 126 a) (cu 126 b))), .int .i64 0, .bool true]) ∧ w = w' := by
  have HF := fun w => Lib.hid (rsig_any 125 3 1 126 w ⟨by omega⟩ (by decide) (by decide))
  go_enter Try.func9, Try.ntmps9
  go_wp2_with fail
  refine (HF _).out.mono ?_
  rintro e w' ⟨rfl, rfl⟩
  go_wp2_with fail
  refine (rsigned_any _ _ _ (by omega) (by omega)).mono ?_
  rintro e w' ⟨rfl, rfl⟩
  go_wp2_with fail
  refine (rsigned_any _ _ _ (by omega) (by omega)).mono ?_
  rintro e w' ⟨rfl, rfl⟩
  go_wp2
  go_ret3
  refine ⟨?_, rfl⟩
  exact congrArg (fun v => Ending.returned (.tuple #[.int .u64 v, .int .i64 0, .bool true])) (pv_126_1 a b a2 b2)
set_option maxRecDepth 100000 in
set_option maxHeartbeats 1000000 in
theorem rb_127_2 (a b : Nat) (w : World) (a2 : a < 18446744073709551616) (b2 : b < 18446744073709551616) :
    Calls Try.prog 9 #[.int .i64 108, .int .u64 a, .int .u64 b] w fun e w' => e = .returned (.tuple #[.int .u64 (cu 127 (twoV 2 127 (cu 127 a) (cu 127 b))), .int .i64 0, .bool true]) ∧ w = w' := by
  have HF := fun w => Lib.hid (rsig_any 108 3 2 127 w ⟨by omega⟩ (by decide) (by decide))
  go_enter Try.func9, Try.ntmps9
  go_wp2_with fail
  refine (HF _).out.mono ?_
  rintro e w' ⟨rfl, rfl⟩
  go_wp2_with fail
  refine (rsigned_any _ _ _ (by omega) (by omega)).mono ?_
  rintro e w' ⟨rfl, rfl⟩
  go_wp2_with fail
  refine (rsigned_any _ _ _ (by omega) (by omega)).mono ?_
  rintro e w' ⟨rfl, rfl⟩
  go_wp2
  go_ret3
  refine ⟨?_, rfl⟩
  exact congrArg (fun v => Ending.returned (.tuple #[.int .u64 v, .int .i64 0, .bool true])) (pv_127_2 a b a2 b2)
set_option maxRecDepth 100000 in
set_option maxHeartbeats 1000000 in
theorem rb_126_2 (a b : Nat) (w : World) (a2 : a < 18446744073709551616) (b2 : b < 18446744073709551616) :
    Calls Try.prog 9 #[.int .i64 126, .int .u64 a, .int .u64 b] w fun e w' => e = .returned (.tuple #[.int .u64 (cu 126 (twoV 2 126 (cu 126 a) (cu 126 b))), .int .i64 0, .bool true]) ∧ w = w' := by
  have HF := fun w => Lib.hid (rsig_any 126 3 2 126 w ⟨by omega⟩ (by decide) (by decide))
  go_enter Try.func9, Try.ntmps9
  go_wp2_with fail
  refine (HF _).out.mono ?_
  rintro e w' ⟨rfl, rfl⟩
  go_wp2_with fail
  refine (rsigned_any _ _ _ (by omega) (by omega)).mono ?_
  rintro e w' ⟨rfl, rfl⟩
  go_wp2_with fail
  refine (rsigned_any _ _ _ (by omega) (by omega)).mono ?_
  rintro e w' ⟨rfl, rfl⟩
  go_wp2
  go_ret3
  refine ⟨?_, rfl⟩
  exact congrArg (fun v => Ending.returned (.tuple #[.int .u64 v, .int .i64 0, .bool true])) (pv_126_2 a b a2 b2)
set_option maxRecDepth 100000 in
set_option maxHeartbeats 1000000 in
theorem rb_127_7 (a b : Nat) (w : World) (a2 : a < 18446744073709551616) (b2 : b < 18446744073709551616) :
    Calls Try.prog 9 #[.int .i64 113, .int .u64 a, .int .u64 b] w fun e w' => e = .returned (.tuple #[.int .u64 (cu 127 (twoV 7 127 (cu 127 a) (cu 127 b))), .int .i64 0, .bool true]) ∧ w = w' := by
  have HF := fun w => Lib.hid (rsig_any 113 3 7 127 w ⟨by omega⟩ (by decide) (by decide))
  go_enter Try.func9, Try.ntmps9
  go_wp2_with fail
  refine (HF _).out.mono ?_
  rintro e w' ⟨rfl, rfl⟩
  go_wp2_with fail
  refine (rsigned_any _ _ _ (by omega) (by omega)).mono ?_
  rintro e w' ⟨rfl, rfl⟩
  go_wp2_with fail
  refine (rsigned_any _ _ _ (by omega) (by omega)).mono ?_
  rintro e w' ⟨rfl, rfl⟩
  go_wp2
  go_ret3
  refine ⟨?_, rfl⟩
  exact congrArg (fun v => Ending.returned (.tuple #[.int .u64 v, .int .i64 0, .bool true])) (pv_127_7 a b a2 b2)
set_option maxRecDepth 100000 in
set_option maxHeartbeats 1000000 in
theorem rb_126_7 (a b : Nat) (w : World) (a2 : a < 18446744073709551616) (b2 : b < 18446744073709551616) :
    Calls Try.prog 9 #[.int .i64 131, .int .u64 a, .int .u64 b] w fun e w' => e = .returned (.tuple #[.int .u64 (cu 126 (twoV 7 126 (cu 126 a) (cu 126 b))), .int .i64 0, .bool true]) ∧ w = w' := by
  have HF := fun w => Lib.hid (rsig_any 131 3 7 126 w ⟨by omega⟩ (by decide) (by decide))
  go_enter Try.func9, Try.ntmps9
  go_wp2_with fail
  refine (HF _).out.mono ?_
  rintro e w' ⟨rfl, rfl⟩
  go_wp2_with fail
  refine (rsigned_any _ _ _ (by omega) (by omega)).mono ?_
  rintro e w' ⟨rfl, rfl⟩
  go_wp2_with fail
  refine (rsigned_any _ _ _ (by omega) (by omega)).mono ?_
  rintro e w' ⟨rfl, rfl⟩
  go_wp2
  go_ret3
  refine ⟨?_, rfl⟩
  exact congrArg (fun v => Ending.returned (.tuple #[.int .u64 v, .int .i64 0, .bool true])) (pv_126_7 a b a2 b2)
set_option maxRecDepth 100000 in
set_option maxHeartbeats 1000000 in
theorem rb_127_8 (a b : Nat) (w : World) (a2 : a < 18446744073709551616) (b2 : b < 18446744073709551616) :
    Calls Try.prog 9 #[.int .i64 114, .int .u64 a, .int .u64 b] w fun e w' => e = .returned (.tuple #[.int .u64 (cu 127 (twoV 8 127 (cu 127 a) (cu 127 b))), .int .i64 0, .bool true]) ∧ w = w' := by
  have HF := fun w => Lib.hid (rsig_any 114 3 8 127 w ⟨by omega⟩ (by decide) (by decide))
  go_enter Try.func9, Try.ntmps9
  go_wp2_with fail
  refine (HF _).out.mono ?_
  rintro e w' ⟨rfl, rfl⟩
  go_wp2_with fail
  refine (rsigned_any _ _ _ (by omega) (by omega)).mono ?_
  rintro e w' ⟨rfl, rfl⟩
  go_wp2_with fail
  refine (rsigned_any _ _ _ (by omega) (by omega)).mono ?_
  rintro e w' ⟨rfl, rfl⟩
  go_wp2
  go_ret3
  refine ⟨?_, rfl⟩
  exact congrArg (fun v => Ending.returned (.tuple #[.int .u64 v, .int .i64 0, .bool true])) (pv_127_8 a b a2 b2)
set_option maxRecDepth 100000 in
set_option maxHeartbeats 1000000 in
theorem rb_126_8 (a b : Nat) (w : World) (a2 : a < 18446744073709551616) (b2 : b < 18446744073709551616) :
    Calls Try.prog 9 #[.int .i64 132, .int .u64 a, .int .u64 b] w fun e w' => e = .returned (.tuple #[.int .u64 (cu 126 (twoV 8 126 (cu 126 a) (cu 126 b))), .int .i64 0, .bool true]) ∧ w = w' := by
  have HF := fun w => Lib.hid (rsig_any 132 3 8 126 w ⟨by omega⟩ (by decide) (by decide))
  go_enter Try.func9, Try.ntmps9
  go_wp2_with fail
  refine (HF _).out.mono ?_
  rintro e w' ⟨rfl, rfl⟩
  go_wp2_with fail
  refine (rsigned_any _ _ _ (by omega) (by omega)).mono ?_
  rintro e w' ⟨rfl, rfl⟩
  go_wp2_with fail
  refine (rsigned_any _ _ _ (by omega) (by omega)).mono ?_
  rintro e w' ⟨rfl, rfl⟩
  go_wp2
  go_ret3
  refine ⟨?_, rfl⟩
  exact congrArg (fun v => Ending.returned (.tuple #[.int .u64 v, .int .i64 0, .bool true])) (pv_126_8 a b a2 b2)
set_option maxRecDepth 100000 in
set_option maxHeartbeats 1000000 in
theorem rb_127_9 (a b : Nat) (w : World) (a2 : a < 18446744073709551616) (b2 : b < 18446744073709551616) :
    Calls Try.prog 9 #[.int .i64 115, .int .u64 a, .int .u64 b] w fun e w' => e = .returned (.tuple #[.int .u64 (cu 127 (twoV 9 127 (cu 127 a) (cu 127 b))), .int .i64 0, .bool true]) ∧ w = w' := by
  have HF := fun w => Lib.hid (rsig_any 115 3 9 127 w ⟨by omega⟩ (by decide) (by decide))
  go_enter Try.func9, Try.ntmps9
  go_wp2_with fail
  refine (HF _).out.mono ?_
  rintro e w' ⟨rfl, rfl⟩
  go_wp2_with fail
  refine (rsigned_any _ _ _ (by omega) (by omega)).mono ?_
  rintro e w' ⟨rfl, rfl⟩
  go_wp2_with fail
  refine (rsigned_any _ _ _ (by omega) (by omega)).mono ?_
  rintro e w' ⟨rfl, rfl⟩
  go_wp2
  go_ret3
  refine ⟨?_, rfl⟩
  exact congrArg (fun v => Ending.returned (.tuple #[.int .u64 v, .int .i64 0, .bool true])) (pv_127_9 a b a2 b2)
set_option maxRecDepth 100000 in
set_option maxHeartbeats 1000000 in
theorem rb_126_9 (a b : Nat) (w : World) (a2 : a < 18446744073709551616) (b2 : b < 18446744073709551616) :
    Calls Try.prog 9 #[.int .i64 133, .int .u64 a, .int .u64 b] w fun e w' => e = .returned (.tuple #[.int .u64 (cu 126 (twoV 9 126 (cu 126 a) (cu 126 b))), .int .i64 0, .bool true]) ∧ w = w' := by
  have HF := fun w => Lib.hid (rsig_any 133 3 9 126 w ⟨by omega⟩ (by decide) (by decide))
  go_enter Try.func9, Try.ntmps9
  go_wp2_with fail
  refine (HF _).out.mono ?_
  rintro e w' ⟨rfl, rfl⟩
  go_wp2_with fail
  refine (rsigned_any _ _ _ (by omega) (by omega)).mono ?_
  rintro e w' ⟨rfl, rfl⟩
  go_wp2_with fail
  refine (rsigned_any _ _ _ (by omega) (by omega)).mono ?_
  rintro e w' ⟨rfl, rfl⟩
  go_wp2
  go_ret3
  refine ⟨?_, rfl⟩
  exact congrArg (fun v => Ending.returned (.tuple #[.int .u64 v, .int .i64 0, .bool true])) (pv_126_9 a b a2 b2)
set_option maxRecDepth 100000 in
set_option maxHeartbeats 1000000 in
theorem rb_127_10 (a b : Nat) (w : World) (a2 : a < 18446744073709551616) (b2 : b < 18446744073709551616) :
    Calls Try.prog 9 #[.int .i64 116, .int .u64 a, .int .u64 b] w fun e w' => e = .returned (.tuple #[.int .u64 (cu 127 (twoV 10 127 (cu 127 a) (cu 127 b))), .int .i64 0, .bool true]) ∧ w = w' := by
  have HF := fun w => Lib.hid (rsig_any 116 3 10 127 w ⟨by omega⟩ (by decide) (by decide))
  go_enter Try.func9, Try.ntmps9
  go_wp2_with fail
  refine (HF _).out.mono ?_
  rintro e w' ⟨rfl, rfl⟩
  go_wp2_with fail
  refine (rsigned_any _ _ _ (by omega) (by omega)).mono ?_
  rintro e w' ⟨rfl, rfl⟩
  go_wp2_with fail
  refine (rsigned_any _ _ _ (by omega) (by omega)).mono ?_
  rintro e w' ⟨rfl, rfl⟩
  go_wp2
  go_ret3
  refine ⟨?_, rfl⟩
  exact congrArg (fun v => Ending.returned (.tuple #[.int .u64 v, .int .i64 0, .bool true])) (pv_127_10 a b a2 b2)
set_option maxRecDepth 100000 in
set_option maxHeartbeats 1000000 in
theorem rb_126_10 (a b : Nat) (w : World) (a2 : a < 18446744073709551616) (b2 : b < 18446744073709551616) :
    Calls Try.prog 9 #[.int .i64 134, .int .u64 a, .int .u64 b] w fun e w' => e = .returned (.tuple #[.int .u64 (cu 126 (twoV 10 126 (cu 126 a) (cu 126 b))), .int .i64 0, .bool true]) ∧ w = w' := by
  have HF := fun w => Lib.hid (rsig_any 134 3 10 126 w ⟨by omega⟩ (by decide) (by decide))
  go_enter Try.func9, Try.ntmps9
  go_wp2_with fail
  refine (HF _).out.mono ?_
  rintro e w' ⟨rfl, rfl⟩
  go_wp2_with fail
  refine (rsigned_any _ _ _ (by omega) (by omega)).mono ?_
  rintro e w' ⟨rfl, rfl⟩
  go_wp2_with fail
  refine (rsigned_any _ _ _ (by omega) (by omega)).mono ?_
  rintro e w' ⟨rfl, rfl⟩
  go_wp2
  go_ret3
  refine ⟨?_, rfl⟩
  exact congrArg (fun v => Ending.returned (.tuple #[.int .u64 v, .int .i64 0, .bool true])) (pv_126_10 a b a2 b2)
set_option maxRecDepth 100000 in
set_option maxHeartbeats 1000000 in
theorem rb_127_11 (a b : Nat) (w : World) (a2 : a < 18446744073709551616) (b2 : b < 18446744073709551616) :
    Calls Try.prog 9 #[.int .i64 117, .int .u64 a, .int .u64 b] w fun e w' => e = .returned (.tuple #[.int .u64 (cu 127 (twoV 11 127 (cu 127 a) (cu 127 b))), .int .i64 0, .bool true]) ∧ w = w' := by
  have HF := fun w => Lib.hid (rsig_any 117 3 11 127 w ⟨by omega⟩ (by decide) (by decide))
  go_enter Try.func9, Try.ntmps9
  go_wp2_with fail
  refine (HF _).out.mono ?_
  rintro e w' ⟨rfl, rfl⟩
  go_wp2_with fail
  refine (rsigned_any _ _ _ (by omega) (by omega)).mono ?_
  rintro e w' ⟨rfl, rfl⟩
  go_wp2_with fail
  refine (rsigned_any _ _ _ (by omega) (by omega)).mono ?_
  rintro e w' ⟨rfl, rfl⟩
  go_wp2
  go_ret3
  refine ⟨?_, rfl⟩
  exact congrArg (fun v => Ending.returned (.tuple #[.int .u64 v, .int .i64 0, .bool true])) (pv_127_11 a b a2 b2)
set_option maxRecDepth 100000 in
set_option maxHeartbeats 1000000 in
theorem rb_126_11 (a b : Nat) (w : World) (a2 : a < 18446744073709551616) (b2 : b < 18446744073709551616) :
    Calls Try.prog 9 #[.int .i64 135, .int .u64 a, .int .u64 b] w fun e w' => e = .returned (.tuple #[.int .u64 (cu 126 (twoV 11 126 (cu 126 a) (cu 126 b))), .int .i64 0, .bool true]) ∧ w = w' := by
  have HF := fun w => Lib.hid (rsig_any 135 3 11 126 w ⟨by omega⟩ (by decide) (by decide))
  go_enter Try.func9, Try.ntmps9
  go_wp2_with fail
  refine (HF _).out.mono ?_
  rintro e w' ⟨rfl, rfl⟩
  go_wp2_with fail
  refine (rsigned_any _ _ _ (by omega) (by omega)).mono ?_
  rintro e w' ⟨rfl, rfl⟩
  go_wp2_with fail
  refine (rsigned_any _ _ _ (by omega) (by omega)).mono ?_
  rintro e w' ⟨rfl, rfl⟩
  go_wp2
  go_ret3
  refine ⟨?_, rfl⟩
  exact congrArg (fun v => Ending.returned (.tuple #[.int .u64 v, .int .i64 0, .bool true])) (pv_126_11 a b a2 b2)
set_option maxRecDepth 100000 in
set_option maxHeartbeats 1000000 in
theorem rb_127_12 (a b : Nat) (w : World) (a2 : a < 18446744073709551616) (b2 : b < 18446744073709551616) :
    Calls Try.prog 9 #[.int .i64 118, .int .u64 a, .int .u64 b] w fun e w' => e = .returned (.tuple #[.int .u64 (cu 127 (twoV 12 127 (cu 127 a) (cu 127 b))), .int .i64 0, .bool true]) ∧ w = w' := by
  have HF := fun w => Lib.hid (rsig_any 118 3 12 127 w ⟨by omega⟩ (by decide) (by decide))
  go_enter Try.func9, Try.ntmps9
  go_wp2_with fail
  refine (HF _).out.mono ?_
  rintro e w' ⟨rfl, rfl⟩
  go_wp2_with fail
  refine (rsigned_any _ _ _ (by omega) (by omega)).mono ?_
  rintro e w' ⟨rfl, rfl⟩
  go_wp2_with fail
  refine (rsigned_any _ _ _ (by omega) (by omega)).mono ?_
  rintro e w' ⟨rfl, rfl⟩
  go_wp2
  go_ret3
  refine ⟨?_, rfl⟩
  exact congrArg (fun v => Ending.returned (.tuple #[.int .u64 v, .int .i64 0, .bool true])) (pv_127_12 a b a2 b2)
set_option maxRecDepth 100000 in
set_option maxHeartbeats 1000000 in
theorem rb_126_12 (a b : Nat) (w : World) (a2 : a < 18446744073709551616) (b2 : b < 18446744073709551616) :
    Calls Try.prog 9 #[.int .i64 136, .int .u64 a, .int .u64 b] w fun e w' => e = .returned (.tuple #[.int .u64 (cu 126 (twoV 12 126 (cu 126 a) (cu 126 b))), .int .i64 0, .bool true]) ∧ w = w' := by
  have HF := fun w => Lib.hid (rsig_any 136 3 12 126 w ⟨by omega⟩ (by decide) (by decide))
  go_enter Try.func9, Try.ntmps9
  go_wp2_with fail
  refine (HF _).out.mono ?_
  rintro e w' ⟨rfl, rfl⟩
  go_wp2_with fail
  refine (rsigned_any _ _ _ (by omega) (by omega)).mono ?_
  rintro e w' ⟨rfl, rfl⟩
  go_wp2_with fail
  refine (rsigned_any _ _ _ (by omega) (by omega)).mono ?_
  rintro e w' ⟨rfl, rfl⟩
  go_wp2
  go_ret3
  refine ⟨?_, rfl⟩
  exact congrArg (fun v => Ending.returned (.tuple #[.int .u64 v, .int .i64 0, .bool true])) (pv_126_12 a b a2 b2)
set_option maxRecDepth 100000 in
set_option maxHeartbeats 1000000 in
theorem rb_127_13 (a b : Nat) (w : World) (a2 : a < 18446744073709551616) (b2 : b < 18446744073709551616) :
    Calls Try.prog 9 #[.int .i64 119, .int .u64 a, .int .u64 b] w fun e w' => e = .returned (.tuple #[.int .u64 (cu 127 (twoV 13 127 (cu 127 a) (cu 127 b))), .int .i64 0, .bool true]) ∧ w = w' := by
  have HF := fun w => Lib.hid (rsig_any 119 3 13 127 w ⟨by omega⟩ (by decide) (by decide))
  go_enter Try.func9, Try.ntmps9
  go_wp2_with fail
  refine (HF _).out.mono ?_
  rintro e w' ⟨rfl, rfl⟩
  go_wp2_with fail
  refine (rsigned_any _ _ _ (by omega) (by omega)).mono ?_
  rintro e w' ⟨rfl, rfl⟩
  go_wp2_with fail
  refine (rsigned_any _ _ _ (by omega) (by omega)).mono ?_
  rintro e w' ⟨rfl, rfl⟩
  go_wp2
  go_ret3
  refine ⟨?_, rfl⟩
  exact congrArg (fun v => Ending.returned (.tuple #[.int .u64 v, .int .i64 0, .bool true])) (pv_127_13 a b a2 b2)
set_option maxRecDepth 100000 in
set_option maxHeartbeats 1000000 in
theorem rb_126_13 (a b : Nat) (w : World) (a2 : a < 18446744073709551616) (b2 : b < 18446744073709551616) :
    Calls Try.prog 9 #[.int .i64 137, .int .u64 a, .int .u64 b] w fun e w' => e = .returned (.tuple #[.int .u64 (cu 126 (twoV 13 126 (cu 126 a) (cu 126 b))), .int .i64 0, .bool true]) ∧ w = w' := by
  have HF := fun w => Lib.hid (rsig_any 137 3 13 126 w ⟨by omega⟩ (by decide) (by decide))
  go_enter Try.func9, Try.ntmps9
  go_wp2_with fail
  refine (HF _).out.mono ?_
  rintro e w' ⟨rfl, rfl⟩
  go_wp2_with fail
  refine (rsigned_any _ _ _ (by omega) (by omega)).mono ?_
  rintro e w' ⟨rfl, rfl⟩
  go_wp2_with fail
  refine (rsigned_any _ _ _ (by omega) (by omega)).mono ?_
  rintro e w' ⟨rfl, rfl⟩
  go_wp2
  go_ret3
  refine ⟨?_, rfl⟩
  exact congrArg (fun v => Ending.returned (.tuple #[.int .u64 v, .int .i64 0, .bool true])) (pv_126_13 a b a2 b2)
set_option maxRecDepth 100000 in
set_option maxHeartbeats 1000000 in
theorem rb_127_14 (a b : Nat) (w : World) (a2 : a < 18446744073709551616) (b2 : b < 18446744073709551616) :
    Calls Try.prog 9 #[.int .i64 120, .int .u64 a, .int .u64 b] w fun e w' => e = .returned (.tuple #[.int .u64 (cu 127 (twoV 14 127 (cu 127 a) (cu 127 b))), .int .i64 0, .bool true]) ∧ w = w' := by
  have HF := fun w => Lib.hid (rsig_any 120 3 14 127 w ⟨by omega⟩ (by decide) (by decide))
  go_enter Try.func9, Try.ntmps9
  go_wp2_with fail
  refine (HF _).out.mono ?_
  rintro e w' ⟨rfl, rfl⟩
  go_wp2_with fail
  refine (rsigned_any _ _ _ (by omega) (by omega)).mono ?_
  rintro e w' ⟨rfl, rfl⟩
  go_wp2_with fail
  refine (rsigned_any _ _ _ (by omega) (by omega)).mono ?_
  rintro e w' ⟨rfl, rfl⟩
  go_wp2
  go_ret3
  refine ⟨?_, rfl⟩
  exact congrArg (fun v => Ending.returned (.tuple #[.int .u64 v, .int .i64 0, .bool true])) (pv_127_14 a b a2 b2)
set_option maxRecDepth 100000 in
set_option maxHeartbeats 1000000 in
theorem rb_126_14 (a b : Nat) (w : World) (a2 : a < 18446744073709551616) (b2 : b < 18446744073709551616) :
    Calls Try.prog 9 #[.int .i64 138, .int .u64 a, .int .u64 b] w fun e w' => e = .returned (.tuple #[.int .u64 (cu 126 (twoV 14 126 (cu 126 a) (cu 126 b))), .int .i64 0, .bool true]) ∧ w = w' := by
  have HF := fun w => Lib.hid (rsig_any 138 3 14 126 w ⟨by omega⟩ (by decide) (by decide))
  go_enter Try.func9, Try.ntmps9
  go_wp2_with fail
  refine (HF _).out.mono ?_
  rintro e w' ⟨rfl, rfl⟩
  go_wp2_with fail
  refine (rsigned_any _ _ _ (by omega) (by omega)).mono ?_
  rintro e w' ⟨rfl, rfl⟩
  go_wp2_with fail
  refine (rsigned_any _ _ _ (by omega) (by omega)).mono ?_
  rintro e w' ⟨rfl, rfl⟩
  go_wp2
  go_ret3
  refine ⟨?_, rfl⟩
  exact congrArg (fun v => Ending.returned (.tuple #[.int .u64 v, .int .i64 0, .bool true])) (pv_126_14 a b a2 b2)
end Go.Proofs.Ytkmdgdjdkkmjcaa
