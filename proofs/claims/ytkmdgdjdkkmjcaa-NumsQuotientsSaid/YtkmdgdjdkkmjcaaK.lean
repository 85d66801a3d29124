/- The plain laws: what the reference's Binary computes is what twoV says. -/
import Derived.Test.YtkmdgdjdkkmjcaaG
namespace Go.Proofs.Ytkmdgdjdkkmjcaa
open Go.RowKit
set_option linter.unusedVariables false

theorem rl (W x r : Nat) (hW : W ≤ 64) (hx : x < 2 ^ W) : ((x * 2 ^ r % 2 ^ 64) ||| (x / 2 ^ (W - r))) % 2 ^ W = rot W x r := by
  unfold rot
  rw [Nat.or_mod_two_pow, Nat.mod_mod_of_dvd _ (Nat.pow_dvd_pow 2 hW), Nat.mod_eq_of_lt (a := x / 2 ^ (W - r)) (Nat.lt_of_le_of_lt (Nat.div_le_self _ _) hx)]
theorem rr (W x r : Nat) (hW : W ≤ 64) (hr : r < W) (hx : x < 2 ^ W) : ((x / 2 ^ r) ||| (x * 2 ^ (W - r) % 2 ^ 64)) % 2 ^ W = rot W x ((W - r) % W) := by
  unfold rot
  rw [Nat.or_mod_two_pow, Nat.mod_mod_of_dvd _ (Nat.pow_dvd_pow 2 hW), Nat.mod_eq_of_lt (a := x / 2 ^ r) (Nat.lt_of_le_of_lt (Nat.div_le_self _ _) hx), Nat.or_comm]
  by_cases h0 : r = 0
  · subst h0
    rw [Nat.sub_zero, Nat.mod_self, Nat.mul_mod_left, Nat.sub_zero, Nat.div_eq_of_lt hx, Nat.pow_zero, Nat.div_one, Nat.mul_one, Nat.mod_eq_of_lt hx, Nat.zero_or, Nat.or_zero]
  · have e : (W - r) % W = W - r := Nat.mod_eq_of_lt (by omega)
    rw [e, show W - (W - r) = r by omega]
theorem cu127 (a : Int) : cu 127 a = a % 4294967296 := rfl
theorem cu126 (a : Int) : cu 126 a = a := rfl
theorem bt127 : bt 127 = 32 := rfl
theorem bt126 : bt 126 = 64 := rfl
theorem tn32 (b : Nat) : ((b : Int) % 4294967296).toNat % 32 = b % 32 := by omega
theorem tn64 (b : Nat) : (b : Int).toNat % 64 = b % 64 := by omega
theorem mm (x : Int) : x % 4294967296 % 4294967296 = x % 4294967296 := by omega
theorem twoV_0 (t a b : Int) : twoV 0 t a b = IntKind.u64.wrap (a + b) := by simp [twoV, plainB, plainV]
theorem twoV_1 (t a b : Int) : twoV 1 t a b = IntKind.u64.wrap (a - b) := by simp [twoV, plainB, plainV]
theorem twoV_2 (t a b : Int) : twoV 2 t a b = IntKind.u64.wrap (a * b) := by simp [twoV, plainB, plainV]
theorem twoV_7 (t a b : Int) : twoV 7 t a b = bits .and .u64 a b := by simp [twoV, plainB, plainV]
theorem twoV_8 (t a b : Int) : twoV 8 t a b = bits .or .u64 a b := by simp [twoV, plainB, plainV]
theorem twoV_9 (t a b : Int) : twoV 9 t a b = bits .xor .u64 a b := by simp [twoV, plainB, plainV]
theorem castm (a : Nat) : (a : Int) % 4294967296 = ((a % 4294967296 : Nat) : Int) := by omega
theorem castp (r : Nat) : (2 : Int) ^ r = ((2 ^ r : Nat) : Int) := by push_cast; rfl
theorem wrapn (x : Nat) : IntKind.u64.wrap (x : Int) = ((x % 2 ^ 64 : Nat) : Int) := by rw [IntKind.wrap_u64]; omega
theorem ormod (x y : Nat) (hx : x < 2 ^ 64) (hy : y < 2 ^ 64) : bits .or .u64 (x : Int) (y : Int) = ((x ||| y : Nat) : Int) := u64_or_nat x y hx hy
theorem castd (x y : Nat) : (x : Int) / (y : Int) = ((x / y : Nat) : Int) := rfl
theorem castx (x y : Nat) : (x : Int) * (y : Int) = ((x * y : Nat) : Int) := rfl
theorem divlt (x y W : Nat) (h : x < 2 ^ W) (hW : W ≤ 64) : x / y < 2 ^ 64 := Nat.lt_of_le_of_lt (Nat.div_le_self _ _) (Nat.lt_of_lt_of_le h (Nat.pow_le_pow_right (by decide) hW))

theorem pv_127_0 (a b : Nat) (a2 : a < 18446744073709551616) (b2 : b < 18446744073709551616) : ((a : Int) + ↑b) % 4294967296 = cu 127 (twoV 0 127 (cu 127 ↑a) (cu 127 ↑b)) := by
  rw [twoV_0, cu127, cu127, cu127, IntKind.wrap_u64]; omega
theorem pv_127_1 (a b : Nat) (a2 : a < 18446744073709551616) (b2 : b < 18446744073709551616) : IntKind.u64.wrap ((a : Int) % 4294967296 - ↑b % 4294967296) % 4294967296 = cu 127 (twoV 1 127 (cu 127 ↑a) (cu 127 ↑b)) := by
  rw [twoV_1, cu127, cu127, cu127]
theorem pv_127_2 (a b : Nat) (a2 : a < 18446744073709551616) (b2 : b < 18446744073709551616) : IntKind.u64.wrap ((a : Int) % 4294967296 * (↑b % 4294967296)) % 4294967296 = cu 127 (twoV 2 127 (cu 127 ↑a) (cu 127 ↑b)) := by
  rw [twoV_2, cu127, cu127, cu127]
theorem pv_127_7 (a b : Nat) (a2 : a < 18446744073709551616) (b2 : b < 18446744073709551616) : bits .and .u64 ((a : Int) % 4294967296) (↑b % 4294967296) % 4294967296 = cu 127 (twoV 7 127 (cu 127 ↑a) (cu 127 ↑b)) := by
  rw [twoV_7, cu127, cu127, cu127]
theorem pv_126_7 (a b : Nat) (a2 : a < 18446744073709551616) (b2 : b < 18446744073709551616) : bits .and .u64 (a : Int) ↑b = cu 126 (twoV 7 126 (cu 126 ↑a) (cu 126 ↑b)) := by
  rw [twoV_7, cu126, cu126, cu126]
theorem pv_127_8 (a b : Nat) (a2 : a < 18446744073709551616) (b2 : b < 18446744073709551616) : bits .or .u64 ((a : Int) % 4294967296) (↑b % 4294967296) % 4294967296 = cu 127 (twoV 8 127 (cu 127 ↑a) (cu 127 ↑b)) := by
  rw [twoV_8, cu127, cu127, cu127]
theorem pv_126_8 (a b : Nat) (a2 : a < 18446744073709551616) (b2 : b < 18446744073709551616) : bits .or .u64 (a : Int) ↑b = cu 126 (twoV 8 126 (cu 126 ↑a) (cu 126 ↑b)) := by
  rw [twoV_8, cu126, cu126, cu126]
theorem pv_127_9 (a b : Nat) (a2 : a < 18446744073709551616) (b2 : b < 18446744073709551616) : bits .xor .u64 ((a : Int) % 4294967296) (↑b % 4294967296) % 4294967296 = cu 127 (twoV 9 127 (cu 127 ↑a) (cu 127 ↑b)) := by
  rw [twoV_9, cu127, cu127, cu127]
theorem pv_126_9 (a b : Nat) (a2 : a < 18446744073709551616) (b2 : b < 18446744073709551616) : bits .xor .u64 (a : Int) ↑b = cu 126 (twoV 9 126 (cu 126 ↑a) (cu 126 ↑b)) := by
  rw [twoV_9, cu126, cu126, cu126]
theorem pv_126_0 (a b : Nat) (a2 : a < 18446744073709551616) (b2 : b < 18446744073709551616) : IntKind.u64.wrap ((a : Int) + ↑b) = cu 126 (twoV 0 126 (cu 126 ↑a) (cu 126 ↑b)) := by
  rw [twoV_0, cu126, cu126, cu126]
theorem pv_126_1 (a b : Nat) (a2 : a < 18446744073709551616) (b2 : b < 18446744073709551616) : IntKind.u64.wrap ((a : Int) - ↑b) = cu 126 (twoV 1 126 (cu 126 ↑a) (cu 126 ↑b)) := by
  rw [twoV_1, cu126, cu126, cu126]
theorem pv_126_2 (a b : Nat) (a2 : a < 18446744073709551616) (b2 : b < 18446744073709551616) : IntKind.u64.wrap ((a : Int) * ↑b) = cu 126 (twoV 2 126 (cu 126 ↑a) (cu 126 ↑b)) := by
  rw [twoV_2, cu126, cu126, cu126]
theorem pv_127_10 (a b : Nat) (a2 : a < 18446744073709551616) (b2 : b < 18446744073709551616) : IntKind.u64.wrap ((a : Int) % 4294967296 * 2 ^ (b % 32)) % 4294967296 = cu 127 (twoV 10 127 (cu 127 ↑a) (cu 127 ↑b)) := by
  rw [twoV_10, cu127, cu127, cu127, bt127, tn32]
theorem pv_126_10 (a b : Nat) (a2 : a < 18446744073709551616) (b2 : b < 18446744073709551616) : IntKind.u64.wrap ((a : Int) * 2 ^ (b % 64)) = cu 126 (twoV 10 126 (cu 126 ↑a) (cu 126 ↑b)) := by
  rw [twoV_10, cu126, cu126, cu126, bt126, tn64]
theorem pv_127_11 (a b : Nat) (a2 : a < 18446744073709551616) (b2 : b < 18446744073709551616) : IntKind.u64.wrap (sg 127 ((a : Int) % 4294967296) / 2 ^ (b % 32)) % 4294967296 = cu 127 (twoV 11 127 (cu 127 ↑a) (cu 127 ↑b)) := by
  rw [twoV_11, cu127, cu127, cu127, bt127, tn32]
theorem pv_126_11 (a b : Nat) (a2 : a < 18446744073709551616) (b2 : b < 18446744073709551616) : IntKind.u64.wrap (sg 126 (a : Int) / 2 ^ (b % 64)) = cu 126 (twoV 11 126 (cu 126 ↑a) (cu 126 ↑b)) := by
  rw [twoV_11, cu126, cu126, cu126, bt126, tn64]
theorem pv_127_12 (a b : Nat) (a2 : a < 18446744073709551616) (b2 : b < 18446744073709551616) : (a : Int) % 4294967296 / 2 ^ (b % 32) % 4294967296 = cu 127 (twoV 12 127 (cu 127 ↑a) (cu 127 ↑b)) := by
  rw [twoV_12, cu127, cu127, cu127, bt127, tn32]
theorem pv_126_12 (a b : Nat) (a2 : a < 18446744073709551616) (b2 : b < 18446744073709551616) : (a : Int) / 2 ^ (b % 64) = cu 126 (twoV 12 126 (cu 126 ↑a) (cu 126 ↑b)) := by
  rw [twoV_12, cu126, cu126, cu126, bt126, tn64]
theorem pv_127_13 (a b : Nat) (a2 : a < 18446744073709551616) (b2 : b < 18446744073709551616) : bits .or .u64 (IntKind.u64.wrap ((a : Int) % 4294967296 * 2 ^ (b % 32))) ((a : Int) % 4294967296 / 2 ^ (32 - b % 32)) % 4294967296 = cu 127 (twoV 13 127 (cu 127 ↑a) (cu 127 ↑b)) := by
  rw [twoV_13, cu127, cu127, cu127, bt127, tn32, castp, castp, castm, castx, wrapn, castd]
  have hx : a % 4294967296 < 2 ^ 32 := Nat.mod_lt _ (by decide)
  generalize a % 4294967296 = x at *
  have hr := rot_lt 32 x (b % 32) hx
  rw [ormod _ _ (Nat.mod_lt _ (by decide)) (divlt x _ 32 hx (by decide)), Int.toNat_natCast, ← rl 32 x (b % 32) (by decide) hx]
  omega
theorem pv_126_13 (a b : Nat) (a2 : a < 18446744073709551616) (b2 : b < 18446744073709551616) : bits .or .u64 (IntKind.u64.wrap ((a : Int) * 2 ^ (b % 64))) ((a : Int) / 2 ^ (64 - b % 64)) = cu 126 (twoV 13 126 (cu 126 ↑a) (cu 126 ↑b)) := by
  rw [twoV_13, cu126, cu126, cu126, bt126, tn64, castp, castp, castx, wrapn, castd]
  have hx : a < 2 ^ 64 := a2
  rw [ormod _ _ (Nat.mod_lt _ (by decide)) (divlt a _ 64 hx (by decide)), Int.toNat_natCast, ← rl 64 a (b % 64) (by decide) hx, Nat.mod_eq_of_lt (Nat.or_lt_two_pow (Nat.mod_lt _ (by decide)) (divlt a _ 64 hx (by decide)))]
theorem pv_127_14 (a b : Nat) (a2 : a < 18446744073709551616) (b2 : b < 18446744073709551616) : bits .or .u64 ((a : Int) % 4294967296 / 2 ^ (b % 32)) (IntKind.u64.wrap ((a : Int) % 4294967296 * 2 ^ (32 - b % 32))) % 4294967296 = cu 127 (twoV 14 127 (cu 127 ↑a) (cu 127 ↑b)) := by
  rw [twoV_14, cu127, cu127, cu127, bt127, tn32, castp, castp, castm, castx, wrapn, castd]
  have hx : a % 4294967296 < 2 ^ 32 := Nat.mod_lt _ (by decide)
  generalize a % 4294967296 = x at *
  rw [ormod _ _ (divlt x _ 32 hx (by decide)) (Nat.mod_lt _ (by decide)), Int.toNat_natCast, ← rr 32 x (b % 32) (by decide) (Nat.mod_lt _ (by decide)) hx]
  omega
theorem pv_126_14 (a b : Nat) (a2 : a < 18446744073709551616) (b2 : b < 18446744073709551616) : bits .or .u64 ((a : Int) / 2 ^ (b % 64)) (IntKind.u64.wrap ((a : Int) * 2 ^ (64 - b % 64))) = cu 126 (twoV 14 126 (cu 126 ↑a) (cu 126 ↑b)) := by
  rw [twoV_14, cu126, cu126, cu126, bt126, tn64, castp, castp, castx, wrapn, castd]
  have hx : a < 2 ^ 64 := a2
  rw [ormod _ _ (divlt a _ 64 hx (by decide)) (Nat.mod_lt _ (by decide)), Int.toNat_natCast, ← rr 64 a (b % 64) (by decide) (Nat.mod_lt _ (by decide)) hx, Nat.mod_eq_of_lt (Nat.or_lt_two_pow (divlt a _ 64 hx (by decide)) (Nat.mod_lt _ (by decide)))]
end Go.Proofs.Ytkmdgdjdkkmjcaa
