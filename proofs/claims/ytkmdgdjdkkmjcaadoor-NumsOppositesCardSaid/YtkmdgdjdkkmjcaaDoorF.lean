/- The contract of Binary. -/
import Derived.Test.YtkmdgdjdkkmjcaaDoorE
import Derived.Test.YtkmdgdjdkkmjcaaDoorA
import Derived.Deep.RegionWith
namespace Go.Proofs.YtkmdgdjdkkmjcaaDoor
open Go.RowKit
set_option linter.unusedVariables false

theorem quietSame {P : Program} {f : FuncId} {args : Array Value} {w : World} {n : Nat} {v : Value}
    (h : Calls P f args (w.drewN n) fun e w' => e = .returned v ∧ w.drewN n = w') : Calls P f args (w.drewN n) fun e w'' => e = .returned v ∧ ∃ m, w'' = w.drewN m :=
  h.mono fun _ _ ⟨he, hm⟩ => ⟨he, n, hm.symm⟩

theorem Below.many {B : Nat} {a w : World} (h : Below B a w) (k : Nat) : Below B a (w.drewN k) := ⟨h.os, h.tape, h.output, h.size, h.block⟩
/-- What is left of a value of a type. -/
def cu (t a : Int) : Int := if t = 127 then a % 4294967296 else a
theorem cu_bd (t a : Int) (h1 : 0 ≤ a) (h2 : a ≤ 18446744073709551615) : 0 ≤ cu t a ∧ cu t a ≤ 18446744073709551615 := by unfold cu; split <;> omega

theorem cut2 (a t : Int) (w : World) (h1 : 0 ≤ a) (h2 : a ≤ 18446744073709551615) :
    Calls Tryd.prog 10 #[.int .u64 a, .int .i64 t] w fun e w' => e = .returned (.int .u64 (cu t a)) ∧ w = w' := cut_any a t w h1 h2

set_option maxRecDepth 100000 in
theorem binary_none (op k n t a b : Int) (w : World) (h : OfIs op k n t) (o1 : -9223372036854775808 ≤ op) (o2 : op ≤ 9223372036854775807)
    (a1 : 0 ≤ a) (a2 : a ≤ 18446744073709551615) (b1 : 0 ≤ b) (b2 : b ≤ 18446744073709551615) (hk4 : k ≠ 4) (hk3 : k ≠ 3) :
    Calls Tryd.prog 8 #[.int .i64 op, .int .u64 a, .int .u64 b] w fun e w' => e = .returned (.tuple #[.int .u64 0, .int .i64 0, .bool false]) ∧ Below w.heap.size w w' := by
  have HF := fun w => Lib.hid (of_any op k n t w h o1 o2)
  have k4 : (k == 4) = false := by simp [hk4]
  have k3 : (k == 3) = false := by simp [hk3]
  clear h
  go_enter Tryd.func8, Tryd.ntmps8
  go_wp2_with fail
  refine (HF _).out.mono ?_
  rintro e w' ⟨rfl, rfl⟩
  go_wp2_with fail
  go_quiet ((go_at_call 10; exact quietSame (cut2 _ _ _ (by assumption) (by assumption))))
  go_wp2
  go_ret3
  refine ⟨rfl, ?_⟩
  exact Below.many ((Below.of_alloc w _).alloc (by simp) _) _

set_option maxRecDepth 100000 in
theorem binary_held (op n t a b : Int) (w : World) (h : OfIs op 4 n t) (o1 : -9223372036854775808 ≤ op) (o2 : op ≤ 9223372036854775807)
    (a1 : 0 ≤ a) (a2 : a ≤ 18446744073709551615) (b1 : 0 ≤ b) (b2 : b ≤ 18446744073709551615) :
    Calls Tryd.prog 8 #[.int .i64 op, .int .u64 a, .int .u64 b] w fun e w' => e = .returned (.tuple #[.int .u64 (if cmp n (cu t a) (cu t b) (sg t (cu t a)) (sg t (cu t b)) then 1 else 0), .int .i64 0, .bool true]) ∧ Below w.heap.size w w' := by
  have HF := fun w => Lib.hid (of_any op 4 n t w h o1 o2)
  have ⟨a3, a4⟩ := cu_bd t a a1 a2
  have ⟨b3, b4⟩ := cu_bd t b b1 b2
  clear h
  go_enter Tryd.func8, Tryd.ntmps8
  go_wp2_with fail
  refine (HF _).out.mono ?_
  rintro e w' ⟨rfl, rfl⟩
  go_wp2_with fail
  go_quiet ((go_at_call 10; exact quietSame (cut2 _ _ _ (by assumption) (by assumption))))
  generalize cmp n (cu t a) (cu t b) (sg t (cu t a)) (sg t (cu t b)) = c
  go_wp2_with fail
  refine (held_any n (cu t a) (cu t b) t _ a3 a4 b3 b4).mono ?_
  rintro e w' ⟨rfl, rfl⟩
  go_wp2_with fail
  refine (told_any _ _).mono ?_
  rintro e w' ⟨rfl, rfl⟩
  go_wp2
  all_goals
    go_ret3
    refine ⟨rfl, ?_⟩
    exact Below.many ((Below.of_alloc w _).alloc (by simp) _) _

theorem plain_bd (n a b : Int) (a1 : 0 ≤ a) (a2 : a ≤ 18446744073709551615) (b1 : 0 ≤ b) (b2 : b ≤ 18446744073709551615) : 0 ≤ plainV n a b ∧ plainV n a b ≤ 18446744073709551615 := by
  obtain ⟨x, rfl⟩ := Int.eq_ofNat_of_zero_le a1
  obtain ⟨y, rfl⟩ := Int.eq_ofNat_of_zero_le b1
  have hx : x < 2 ^ 64 := by omega
  have hy : y < 2 ^ 64 := by omega
  unfold plainV
  rw [u64_and_nat x y hx hy, u64_or_nat x y hx hy, u64_xor_nat x y hx hy, IntKind.wrap_u64, IntKind.wrap_u64, IntKind.wrap_u64]
  have h1 := Nat.and_lt_two_pow x hy
  have h2 := Nat.or_lt_two_pow hx hy
  have h3 := Nat.xor_lt_two_pow hx hy
  repeat' split
  all_goals omega
set_option maxRecDepth 100000 in
theorem binary_plain (op n t a b : Int) (w : World) (h : OfIs op 3 n t) (o1 : -9223372036854775808 ≤ op) (o2 : op ≤ 9223372036854775807)
    (a1 : 0 ≤ a) (a2 : a ≤ 18446744073709551615) (b1 : 0 ≤ b) (b2 : b ≤ 18446744073709551615) (hp : plainB n = true) :
    Calls Tryd.prog 8 #[.int .i64 op, .int .u64 a, .int .u64 b] w fun e w' => e = .returned (.tuple #[.int .u64 (cu t (plainV n (cu t a) (cu t b))), .int .i64 0, .bool true]) ∧ Below w.heap.size w w' := by
  have HF := fun w => Lib.hid (of_any op 3 n t w h o1 o2)
  have HP := fun w => Lib.hid (plain_any n (cu t a) (cu t b) w)
  have ⟨p1, p2⟩ := plain_bd n (cu t a) (cu t b) (cu_bd t a a1 a2).1 (cu_bd t a a1 a2).2 (cu_bd t b b1 b2).1 (cu_bd t b b1 b2).2
  rw [hp] at HP
  clear h
  generalize plainV n (cu t a) (cu t b) = V at *
  go_enter Tryd.func8, Tryd.ntmps8
  go_wp2_with fail
  refine (HF _).out.mono ?_
  rintro e w' ⟨rfl, rfl⟩
  go_wp2_with fail
  go_quiet ((go_at_call 10; exact quietSame (cut2 _ _ _ (by assumption) (by assumption))))
  go_wp2_with fail
  refine (HP _).out.mono ?_
  rintro e w' ⟨rfl, rfl⟩
  go_wp2_with fail
  refine (cut2 _ _ _ p1 p2).mono ?_
  rintro e w' ⟨rfl, rfl⟩
  go_wp2
  go_ret3
  refine ⟨rfl, ?_⟩
  exact Below.many ((Below.of_alloc w _).alloc (by simp) _) _

end Go.Proofs.YtkmdgdjdkkmjcaaDoor
