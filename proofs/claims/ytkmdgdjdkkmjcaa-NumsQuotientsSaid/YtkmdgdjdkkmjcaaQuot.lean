/- The walks of NumsQuotients, over what the calls tell. -/
import Derived.Test.YtkmdgdjdkkmjcaaI
import Derived.Test.YtkmdgdjdkkmjcaaK
import Derived.ProofKit
import Derived.OpenShut
import Derived.ChangeOld
import Derived.Below
import Derived.Carry
import Derived.SizedLaws
namespace Go.Proofs.Ytkmdgdjdkkmjcaa
open Go.ChangeShapes Go.WideShapes Go.ChangeAt Go.RowKit
set_option linter.unusedVariables false

/-- Binary's contract at given numbers, hidden. -/
def Tells (op X Y V T : Int) : Prop := ∀ w : World, Calls Try.prog 8 #[.int .i64 op, .int .u64 X, .int .u64 Y] w fun e w' => e = .returned (.tuple #[.int .u64 V, .int .i64 T, .bool true]) ∧ Below w.heap.size w w'

set_option maxRecDepth 100000 in
set_option maxHeartbeats 1000000 in
theorem quotz_127_0 (a b X Y : Int) (w : World) (ha : a % 4294967296 = X) (hb : b % 4294967296 = Y) (a1 : 0 ≤ a) (a2 : a ≤ 18446744073709551615) (b1 : 0 ≤ b) (b2 : b ≤ 18446744073709551615) (HQ : Tells 110 X Y 0 2) (HR : Tells 112 X Y 0 2) (hy : Y = 0) :
    Calls Try.prog 6 #[.agg #[.int .u64 a, .int .u64 b, .bool false, .bool false]] w fun e w' => e = .returned (.bool true) ∧ Below w.heap.size w w' := by
  subst hy
  go_enter Try.func6, Try.ntmps6
  go_wp2_with fail
  go_quiet (fail)
  go_wp2_with fail
  refine (HQ _).mono ?_
  rintro e w1 ⟨rfl, h1⟩
  go_wp2_with fail
  refine (HR _).mono ?_
  rintro e w2 ⟨rfl, h2⟩
  go_wp2_with fail
  refine (value_any _ _ _).mono ?_
  rintro e w3 ⟨rfl, rfl⟩
  go_wp2_with fail
  refine (wakes_any _).mono ?_
  rintro e w4 ⟨rfl, h3⟩
  go_wp2
  go_ret
  have h0 := Below.many (Below.of_alloc w (.cells #[.int .u64 a, .int .u64 b, .bool false, .bool false] 32)) nq
  exact ⟨rfl, (h0.trans ((h1.trans ((h2.trans (h3.mono h2.size)).mono h1.size)).mono h0.size))⟩

set_option maxRecDepth 100000 in
set_option maxHeartbeats 1000000 in
theorem quott_127_0 (a b X Y : Int) (w : World) (ha : a % 4294967296 = X) (hb : b % 4294967296 = Y) (a1 : 0 ≤ a) (a2 : a ≤ 18446744073709551615) (b1 : 0 ≤ b) (b2 : b ≤ 18446744073709551615) (Q R P : Int) (HQ : Tells 110 X Y Q 0) (HR : Tells 112 X Y R 0) (HP : Tells 108 Q Y P 0) (HS : Tells 106 P R X 0) (hy : (Y == 0) = false) :
    Calls Try.prog 6 #[.agg #[.int .u64 a, .int .u64 b, .bool false, .bool false]] w fun e w' => e = .returned (.bool true) ∧ Below w.heap.size w w' := by
  go_enter Try.func6, Try.ntmps6
  go_wp2_with fail
  go_quiet (fail)
  go_wp2_with fail
  refine (HQ _).mono ?_
  rintro e w1 ⟨rfl, h1⟩
  go_wp2_with fail
  refine (HR _).mono ?_
  rintro e w2 ⟨rfl, h2⟩
  go_wp2_with fail
  refine (HP _).mono ?_
  rintro e w5 ⟨rfl, h5⟩
  go_wp2_with fail
  refine (HS _).mono ?_
  rintro e w6 ⟨rfl, h6⟩
  go_wp2_with fail
  refine (wakes_any _).mono ?_
  rintro e w4 ⟨rfl, h3⟩
  go_wp2
  go_ret
  have h0 := Below.many (Below.of_alloc w (.cells #[.int .u64 a, .int .u64 b, .bool false, .bool false] 32)) nq
  exact ⟨rfl, (h0.trans ((h1.trans ((h2.trans ((h5.trans ((h6.trans (h3.mono h6.size)).mono h5.size)).mono h2.size)).mono h1.size)).mono h0.size))⟩

set_option maxRecDepth 100000 in
set_option maxHeartbeats 1000000 in
theorem quotz_127_1 (a b X Y : Int) (w : World) (ha : a % 4294967296 = X) (hb : b % 4294967296 = Y) (a1 : 0 ≤ a) (a2 : a ≤ 18446744073709551615) (b1 : 0 ≤ b) (b2 : b ≤ 18446744073709551615) (HQ : Tells 109 X Y 0 2) (HR : Tells 111 X Y 0 2) (hy : Y = 0) :
    Calls Try.prog 6 #[.agg #[.int .u64 a, .int .u64 b, .bool false, .bool true]] w fun e w' => e = .returned (.bool true) ∧ Below w.heap.size w w' := by
  subst hy
  go_enter Try.func6, Try.ntmps6
  go_wp2_with fail
  go_quiet (fail)
  go_wp2_with fail
  refine (HQ _).mono ?_
  rintro e w1 ⟨rfl, h1⟩
  go_wp2_with fail
  refine (HR _).mono ?_
  rintro e w2 ⟨rfl, h2⟩
  go_wp2_with fail
  refine (value_any _ _ _).mono ?_
  rintro e w3 ⟨rfl, rfl⟩
  go_wp2_with fail
  refine (wakes_any _).mono ?_
  rintro e w4 ⟨rfl, h3⟩
  go_wp2
  go_ret
  have h0 := Below.many (Below.of_alloc w (.cells #[.int .u64 a, .int .u64 b, .bool false, .bool true] 32)) nq
  exact ⟨rfl, (h0.trans ((h1.trans ((h2.trans (h3.mono h2.size)).mono h1.size)).mono h0.size))⟩

set_option maxRecDepth 100000 in
set_option maxHeartbeats 1000000 in
theorem quoto_127 (a b X Y : Int) (w : World) (ha : a % 4294967296 = X) (hb : b % 4294967296 = Y) (a1 : 0 ≤ a) (a2 : a ≤ 18446744073709551615) (b1 : 0 ≤ b) (b2 : b ≤ 18446744073709551615) (HQ : Tells 109 X Y 0 3) (HR : Tells 111 X Y 0 0) (hy : (Y == 0) = false) (hX : X = 2147483648) (HY : ∀ w, Hid (Calls Try.prog 11 #[.int .u64 Y, .int .i64 127] w fun e w' => e = .returned (.int .i64 (-1)) ∧ w = w')) :
    Calls Try.prog 6 #[.agg #[.int .u64 a, .int .u64 b, .bool false, .bool true]] w fun e w' => e = .returned (.bool true) ∧ Below w.heap.size w w' := by
  subst hX
  have HV : ∀ w, Hid (Calls Try.prog 13 #[.int .i64 (-2147483648), .int .i64 127] w fun e w' => e = .returned (.int .u64 2147483648) ∧ w = w') := fun w => by
    have h := value_any (-2147483648) 127 w
    rw [show vl 127 (-2147483648) = 2147483648 by decide] at h
    exact Lib.hid h
  go_enter Try.func6, Try.ntmps6
  go_wp2_with fail
  go_quiet (fail)
  go_wp2_with fail
  refine (HQ _).mono ?_
  rintro e w1 ⟨rfl, h1⟩
  go_wp2_with fail
  refine (HR _).mono ?_
  rintro e w2 ⟨rfl, h2⟩
  go_wp2_with fail
  refine (HV _).out.mono ?_
  rintro e w3 ⟨rfl, rfl⟩
  go_wp2_with fail
  refine (HY _).out.mono ?_
  rintro e w5 ⟨rfl, rfl⟩
  go_wp2_with fail
  refine (wakes_any _).mono ?_
  rintro e w4 ⟨rfl, h3⟩
  go_wp2
  go_ret
  have h0 := Below.many (Below.of_alloc w (.cells #[.int .u64 a, .int .u64 b, .bool false, .bool true] 32)) nq
  exact ⟨rfl, (h0.trans ((h1.trans ((h2.trans (h3.mono h2.size)).mono h1.size)).mono h0.size))⟩

set_option maxRecDepth 100000 in
set_option maxHeartbeats 1000000 in
theorem quott_127_1 (a b X Y : Int) (w : World) (ha : a % 4294967296 = X) (hb : b % 4294967296 = Y) (a1 : 0 ≤ a) (a2 : a ≤ 18446744073709551615) (b1 : 0 ≤ b) (b2 : b ≤ 18446744073709551615) (Q R P : Int) (HQ : Tells 109 X Y Q 0) (HR : Tells 111 X Y R 0) (HP : Tells 108 Q Y P 0) (HS : Tells 106 P R X 0) (hy : (Y == 0) = false) :
    Calls Try.prog 6 #[.agg #[.int .u64 a, .int .u64 b, .bool false, .bool true]] w fun e w' => e = .returned (.bool true) ∧ Below w.heap.size w w' := by
  go_enter Try.func6, Try.ntmps6
  go_wp2_with fail
  go_quiet (fail)
  go_wp2_with fail
  refine (HQ _).mono ?_
  rintro e w1 ⟨rfl, h1⟩
  go_wp2_with fail
  refine (HR _).mono ?_
  rintro e w2 ⟨rfl, h2⟩
  go_wp2_with fail
  refine (HP _).mono ?_
  rintro e w5 ⟨rfl, h5⟩
  go_wp2_with fail
  refine (HS _).mono ?_
  rintro e w6 ⟨rfl, h6⟩
  go_wp2_with fail
  refine (wakes_any _).mono ?_
  rintro e w4 ⟨rfl, h3⟩
  go_wp2
  go_ret
  have h0 := Below.many (Below.of_alloc w (.cells #[.int .u64 a, .int .u64 b, .bool false, .bool true] 32)) nq
  exact ⟨rfl, (h0.trans ((h1.trans ((h2.trans ((h5.trans ((h6.trans (h3.mono h6.size)).mono h5.size)).mono h2.size)).mono h1.size)).mono h0.size))⟩

set_option maxRecDepth 100000 in
set_option maxHeartbeats 1000000 in
theorem quotz_126_0 (X Y : Int) (w : World) (a1 : 0 ≤ X) (a2 : X ≤ 18446744073709551615) (b1 : 0 ≤ Y) (b2 : Y ≤ 18446744073709551615) (HQ : Tells 128 X Y 0 2) (HR : Tells 130 X Y 0 2) (hy : Y = 0) :
    Calls Try.prog 6 #[.agg #[.int .u64 X, .int .u64 Y, .bool true, .bool false]] w fun e w' => e = .returned (.bool true) ∧ Below w.heap.size w w' := by
  subst hy
  go_enter Try.func6, Try.ntmps6
  go_wp2_with fail
  go_quiet (fail)
  go_wp2_with fail
  refine (HQ _).mono ?_
  rintro e w1 ⟨rfl, h1⟩
  go_wp2_with fail
  refine (HR _).mono ?_
  rintro e w2 ⟨rfl, h2⟩
  go_wp2_with fail
  refine (value_any _ _ _).mono ?_
  rintro e w3 ⟨rfl, rfl⟩
  go_wp2_with fail
  refine (wakes_any _).mono ?_
  rintro e w4 ⟨rfl, h3⟩
  go_wp2
  go_ret
  have h0 := Below.many (Below.of_alloc w (.cells #[.int .u64 X, .int .u64 0, .bool true, .bool false] 32)) nq
  exact ⟨rfl, (h0.trans ((h1.trans ((h2.trans (h3.mono h2.size)).mono h1.size)).mono h0.size))⟩

set_option maxRecDepth 100000 in
set_option maxHeartbeats 1000000 in
theorem quott_126_0 (X Y : Int) (w : World) (a1 : 0 ≤ X) (a2 : X ≤ 18446744073709551615) (b1 : 0 ≤ Y) (b2 : Y ≤ 18446744073709551615) (Q R P : Int) (HQ : Tells 128 X Y Q 0) (HR : Tells 130 X Y R 0) (HP : Tells 126 Q Y P 0) (HS : Tells 124 P R X 0) (hy : (Y == 0) = false) :
    Calls Try.prog 6 #[.agg #[.int .u64 X, .int .u64 Y, .bool true, .bool false]] w fun e w' => e = .returned (.bool true) ∧ Below w.heap.size w w' := by
  go_enter Try.func6, Try.ntmps6
  go_wp2_with fail
  go_quiet (fail)
  go_wp2_with fail
  refine (HQ _).mono ?_
  rintro e w1 ⟨rfl, h1⟩
  go_wp2_with fail
  refine (HR _).mono ?_
  rintro e w2 ⟨rfl, h2⟩
  go_wp2_with fail
  refine (HP _).mono ?_
  rintro e w5 ⟨rfl, h5⟩
  go_wp2_with fail
  refine (HS _).mono ?_
  rintro e w6 ⟨rfl, h6⟩
  go_wp2_with fail
  refine (wakes_any _).mono ?_
  rintro e w4 ⟨rfl, h3⟩
  go_wp2
  go_ret
  have h0 := Below.many (Below.of_alloc w (.cells #[.int .u64 X, .int .u64 Y, .bool true, .bool false] 32)) nq
  exact ⟨rfl, (h0.trans ((h1.trans ((h2.trans ((h5.trans ((h6.trans (h3.mono h6.size)).mono h5.size)).mono h2.size)).mono h1.size)).mono h0.size))⟩

set_option maxRecDepth 100000 in
set_option maxHeartbeats 1000000 in
theorem quotz_126_1 (X Y : Int) (w : World) (a1 : 0 ≤ X) (a2 : X ≤ 18446744073709551615) (b1 : 0 ≤ Y) (b2 : Y ≤ 18446744073709551615) (HQ : Tells 127 X Y 0 2) (HR : Tells 129 X Y 0 2) (hy : Y = 0) :
    Calls Try.prog 6 #[.agg #[.int .u64 X, .int .u64 Y, .bool true, .bool true]] w fun e w' => e = .returned (.bool true) ∧ Below w.heap.size w w' := by
  subst hy
  go_enter Try.func6, Try.ntmps6
  go_wp2_with fail
  go_quiet (fail)
  go_wp2_with fail
  refine (HQ _).mono ?_
  rintro e w1 ⟨rfl, h1⟩
  go_wp2_with fail
  refine (HR _).mono ?_
  rintro e w2 ⟨rfl, h2⟩
  go_wp2_with fail
  refine (value_any _ _ _).mono ?_
  rintro e w3 ⟨rfl, rfl⟩
  go_wp2_with fail
  refine (wakes_any _).mono ?_
  rintro e w4 ⟨rfl, h3⟩
  go_wp2
  go_ret
  have h0 := Below.many (Below.of_alloc w (.cells #[.int .u64 X, .int .u64 0, .bool true, .bool true] 32)) nq
  exact ⟨rfl, (h0.trans ((h1.trans ((h2.trans (h3.mono h2.size)).mono h1.size)).mono h0.size))⟩

set_option maxRecDepth 100000 in
set_option maxHeartbeats 1000000 in
theorem quoto_126 (X Y : Int) (w : World) (a1 : 0 ≤ X) (a2 : X ≤ 18446744073709551615) (b1 : 0 ≤ Y) (b2 : Y ≤ 18446744073709551615) (HQ : Tells 127 X Y 0 3) (HR : Tells 129 X Y 0 0) (hy : (Y == 0) = false) (hX : X = 9223372036854775808) (HY : ∀ w, Hid (Calls Try.prog 11 #[.int .u64 Y, .int .i64 126] w fun e w' => e = .returned (.int .i64 (-1)) ∧ w = w')) :
    Calls Try.prog 6 #[.agg #[.int .u64 X, .int .u64 Y, .bool true, .bool true]] w fun e w' => e = .returned (.bool true) ∧ Below w.heap.size w w' := by
  subst hX
  have HV : ∀ w, Hid (Calls Try.prog 13 #[.int .i64 (-2147483648), .int .i64 126] w fun e w' => e = .returned (.int .u64 18446744071562067968) ∧ w = w') := fun w => by
    have h := value_any (-2147483648) 126 w
    rw [show vl 126 (-2147483648) = 18446744071562067968 by decide] at h
    exact Lib.hid h
  go_enter Try.func6, Try.ntmps6
  go_wp2_with fail
  go_quiet (fail)
  go_wp2_with fail
  refine (HQ _).mono ?_
  rintro e w1 ⟨rfl, h1⟩
  go_wp2_with fail
  refine (HR _).mono ?_
  rintro e w2 ⟨rfl, h2⟩
  go_wp2_with fail
  refine (HV _).out.mono ?_
  rintro e w3 ⟨rfl, rfl⟩
  go_wp2_with fail
  refine (HY _).out.mono ?_
  rintro e w5 ⟨rfl, rfl⟩
  go_wp2_with fail
  refine (wakes_any _).mono ?_
  rintro e w4 ⟨rfl, h3⟩
  go_wp2
  go_ret
  have h0 := Below.many (Below.of_alloc w (.cells #[.int .u64 9223372036854775808, .int .u64 Y, .bool true, .bool true] 32)) nq
  exact ⟨rfl, (h0.trans ((h1.trans ((h2.trans (h3.mono h2.size)).mono h1.size)).mono h0.size))⟩

set_option maxRecDepth 100000 in
set_option maxHeartbeats 1000000 in
theorem quott_126_1 (X Y : Int) (w : World) (a1 : 0 ≤ X) (a2 : X ≤ 18446744073709551615) (b1 : 0 ≤ Y) (b2 : Y ≤ 18446744073709551615) (Q R P : Int) (HQ : Tells 127 X Y Q 0) (HR : Tells 129 X Y R 0) (HP : Tells 126 Q Y P 0) (HS : Tells 124 P R X 0) (hy : (Y == 0) = false) :
    Calls Try.prog 6 #[.agg #[.int .u64 X, .int .u64 Y, .bool true, .bool true]] w fun e w' => e = .returned (.bool true) ∧ Below w.heap.size w w' := by
  go_enter Try.func6, Try.ntmps6
  go_wp2_with fail
  go_quiet (fail)
  go_wp2_with fail
  refine (HQ _).mono ?_
  rintro e w1 ⟨rfl, h1⟩
  go_wp2_with fail
  refine (HR _).mono ?_
  rintro e w2 ⟨rfl, h2⟩
  go_wp2_with fail
  refine (HP _).mono ?_
  rintro e w5 ⟨rfl, h5⟩
  go_wp2_with fail
  refine (HS _).mono ?_
  rintro e w6 ⟨rfl, h6⟩
  go_wp2_with fail
  refine (wakes_any _).mono ?_
  rintro e w4 ⟨rfl, h3⟩
  go_wp2
  go_ret
  have h0 := Below.many (Below.of_alloc w (.cells #[.int .u64 X, .int .u64 Y, .bool true, .bool true] 32)) nq
  exact ⟨rfl, (h0.trans ((h1.trans ((h2.trans ((h5.trans ((h6.trans (h3.mono h6.size)).mono h5.size)).mono h2.size)).mono h1.size)).mono h0.size))⟩

end Go.Proofs.Ytkmdgdjdkkmjcaa
