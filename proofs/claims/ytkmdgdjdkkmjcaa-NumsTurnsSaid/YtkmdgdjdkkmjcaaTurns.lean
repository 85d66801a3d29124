/- The walk of NumsTurns. -/
import Derived.Test.YtkmdgdjdkkmjcaaI
import Derived.Test.YtkmdgdjdkkmjcaaK
import Derived.ProofKit
import Derived.OpenShut
import Derived.ChangeOld
import Derived.Below
import Derived.Carry
import Derived.SizedLaws
namespace Go.Proofs.Ytkmdgdjdkkmjcaa
open Go.ChangeShapes Go.WideShapes Go.ChangeAt Go.RowKit
set_option linter.unusedVariables false

theorem shl_mod (W x r : Nat) (hr : r ≤ W) : x * 2 ^ r % 2 ^ W = 2 ^ r * (x % 2 ^ (W - r)) := by
  have e : 2 ^ W = 2 ^ r * 2 ^ (W - r) := by rw [← Nat.pow_add]; congr 1; omega
  rw [e, Nat.mul_comm x, Nat.mul_mod_mul_left]
theorem rot_add (W x r : Nat) (hr : r ≤ W) (hx : x < 2 ^ W) : rot W x r = 2 ^ r * (x % 2 ^ (W - r)) + x / 2 ^ (W - r) := by
  unfold rot
  rw [shl_mod W x r hr]
  refine (Nat.two_pow_add_eq_or_of_lt ?_ _).symm
  refine Nat.div_lt_of_lt_mul ?_
  rw [← Nat.pow_add, show W - r + r = W by omega]
  exact hx
theorem rot_zero (W x : Nat) (hx : x < 2 ^ W) : rot W x 0 = x := by
  rw [rot_add W x 0 (by omega) hx, Nat.sub_zero, Nat.mod_eq_of_lt hx, Nat.div_eq_of_lt hx]; simp
theorem rot_back (W x r : Nat) (hr : r < W) (hx : x < 2 ^ W) : rot W (rot W x r) ((W - r) % W) = x := by
  by_cases h0 : r = 0
  · subst h0
    rw [Nat.sub_zero, Nat.mod_self, rot_zero W x hx, rot_zero W x hx]
  · rw [Nat.mod_eq_of_lt (by omega), rot_add W (rot W x r) (W - r) (by omega) (rot_lt W x r hx), show W - (W - r) = r by omega, rot_add W x r (by omega) hx]
    have h1 : x / 2 ^ (W - r) < 2 ^ r := by
      refine Nat.div_lt_of_lt_mul ?_
      rw [← Nat.pow_add, show W - r + r = W by omega]
      exact hx
    rw [Nat.mul_add_mod, Nat.mod_eq_of_lt h1, Nat.mul_add_div (Nat.two_pow_pos r), Nat.div_eq_of_lt h1, Nat.add_zero]
    exact Nat.div_add_mod x (2 ^ (W - r))
theorem shl_shr (W x r : Nat) (hr : r ≤ W) : x * 2 ^ r % 2 ^ W / 2 ^ r = x % 2 ^ (W - r) := by
  rw [shl_mod W x r hr, Nat.mul_div_cancel_left _ (Nat.two_pow_pos r)]
theorem and_mask (x W r : Nat) (hx : x < 18446744073709551616) (hW : W ≤ 64) (hr : r ≤ W) (m : Int) (hm : m = ((2 ^ (W - r) - 1 : Nat) : Int)) : bits .and .u64 (x : Int) m = ((x % 2 ^ (W - r) : Nat) : Int) := by
  have h1 : 2 ^ (W - r) ≤ 2 ^ 64 := Nat.pow_le_pow_right (by decide) (by omega)
  rw [hm, u64_and_nat x _ hx (by omega), Nat.and_two_pow_sub_one_eq_mod]
theorem mask_div (W r : Nat) (hr : r ≤ W) : (2 ^ W - 1) / 2 ^ r = 2 ^ (W - r) - 1 := by
  have e : 2 ^ W = 2 ^ r * 2 ^ (W - r) := by rw [← Nat.pow_add]; congr 1; omega
  have h1 := Nat.two_pow_pos r
  have h2 := Nat.two_pow_pos (W - r)
  rw [e]
  generalize 2 ^ r = R at *
  generalize 2 ^ (W - r) = S at *
  rw [Nat.div_eq_iff (by omega)]
  obtain ⟨S', rfl⟩ : ∃ S', S = S' + 1 := ⟨S - 1, by omega⟩
  rw [Nat.mul_add, Nat.mul_one, Nat.add_sub_cancel, Nat.mul_comm S' R]
  omega
theorem rl_127 (x y : Nat) (w : World) (hx : x < 4294967296) (hy : y < 18446744073709551616) :
    Calls Try.prog 8 #[.int .i64 119, .int .u64 x, .int .u64 y] w fun e w' => e = .returned (.tuple #[.int .u64 (rot 32 x (y % 32) : Nat), .int .i64 0, .bool true]) ∧ Below w.heap.size w w' := by
  have h := binary_any 119 3 13 127 x y w ⟨by omega⟩ (by decide) (by decide) (by omega) (by omega) (by omega) (by omega)
  have eT : bT 3 13 127 x y = 0 := by unfold bT; rw [if_pos rfl]; exact twoT_13 _ _ _
  have eV : bV 3 13 127 x y = ((rot 32 x (y % 32) : Nat) : Int) := by
    unfold bV
    rw [if_neg (by decide), if_pos rfl, twoV_13, bt127]
    rw [show cu 127 (x : Int) = x by rw [cu127]; omega, show (cu 127 (y : Int)).toNat % 32 = y % 32 by rw [cu127]; omega, Int.toNat_natCast]
    have := rot_lt 32 x (y % 32) hx
    rw [cu127]; omega
  rw [eT, eV] at h
  exact h
theorem rr_127 (x y : Nat) (w : World) (hx : x < 4294967296) (hy : y < 18446744073709551616) :
    Calls Try.prog 8 #[.int .i64 120, .int .u64 ((rot 32 x (y % 32) : Nat) : Int), .int .u64 y] w fun e w' => e = .returned (.tuple #[.int .u64 (x : Nat), .int .i64 0, .bool true]) ∧ Below w.heap.size w w' := by
  have hl0 := rot_lt 32 x (y % 32) hx
  have h := binary_any 120 3 14 127 ((rot 32 x (y % 32) : Nat) : Int) y w ⟨by omega⟩ (by decide) (by decide) (by omega) (by omega) (by omega) (by omega)
  have eT : bT 3 14 127 ((rot 32 x (y % 32) : Nat) : Int) y = 0 := by unfold bT; rw [if_pos rfl]; exact twoT_14 _ _ _
  have eV : bV 3 14 127 ((rot 32 x (y % 32) : Nat) : Int) y = ((x : Nat) : Int) := by
    unfold bV
    rw [if_neg (by decide), if_pos rfl, twoV_14, bt127]
    have hl := rot_lt 32 x (y % 32) hx
    have hb := rot_back 32 x (y % 32) (Nat.mod_lt _ (by decide)) hx
    generalize rot 32 x (y % 32) = z at *
    rw [show cu 127 (z : Int) = z by rw [cu127]; omega, show (cu 127 (y : Int)).toNat % 32 = y % 32 by rw [cu127]; omega, Int.toNat_natCast, hb]
    rw [cu127]; omega
  rw [eT, eV] at h
  exact h
theorem rw_127 (x y : Nat) (w : World) (hx : x < 4294967296) (hy : y < 18446744073709551616) :
    Calls Try.prog 8 #[.int .i64 119, .int .u64 x, .int .u64 32] w fun e w' => e = .returned (.tuple #[.int .u64 (x : Nat), .int .i64 0, .bool true]) ∧ Below w.heap.size w w' := by
  have h := binary_any 119 3 13 127 x 32 w ⟨by omega⟩ (by decide) (by decide) (by omega) (by omega) (by omega) (by omega)
  have eT : bT 3 13 127 x 32 = 0 := by unfold bT; rw [if_pos rfl]; exact twoT_13 _ _ _
  have eV : bV 3 13 127 x 32 = ((x : Nat) : Int) := by
    unfold bV
    rw [if_neg (by decide), if_pos rfl, twoV_13, bt127]
    rw [show cu 127 (x : Int) = x by rw [cu127]; omega, show (cu 127 32).toNat % 32 = 0 by decide, Int.toNat_natCast, rot_zero 32 x hx]
    rw [cu127]; omega
  rw [eT, eV] at h
  exact h
theorem sl_127 (x y : Nat) (w : World) (hx : x < 4294967296) (hy : y < 18446744073709551616) :
    Calls Try.prog 8 #[.int .i64 116, .int .u64 x, .int .u64 y] w fun e w' => e = .returned (.tuple #[.int .u64 (x * 2 ^ (y % 32) % 2 ^ 32 : Nat), .int .i64 0, .bool true]) ∧ Below w.heap.size w w' := by
  have h := binary_any 116 3 10 127 x y w ⟨by omega⟩ (by decide) (by decide) (by omega) (by omega) (by omega) (by omega)
  have eT : bT 3 10 127 x y = 0 := by unfold bT; rw [if_pos rfl]; exact twoT_10 _ _ _
  have eV : bV 3 10 127 x y = ((x * 2 ^ (y % 32) % 2 ^ 32 : Nat) : Int) := by
    unfold bV
    rw [if_neg (by decide), if_pos rfl, twoV_10, bt127]
    rw [show cu 127 (x : Int) = x by rw [cu127]; omega, show (cu 127 (y : Int)).toNat % 32 = y % 32 by rw [cu127]; omega, castp, castx, wrapn]
    rw [cu127]; omega
  rw [eT, eV] at h
  exact h
theorem sr_127 (x y : Nat) (w : World) (hx : x < 4294967296) (hy : y < 18446744073709551616) :
    Calls Try.prog 8 #[.int .i64 118, .int .u64 ((x * 2 ^ (y % 32) % 2 ^ 32 : Nat) : Int), .int .u64 y] w fun e w' => e = .returned (.tuple #[.int .u64 (x % 2 ^ (32 - y % 32) : Nat), .int .i64 0, .bool true]) ∧ Below w.heap.size w w' := by
  have hl0 : x * 2 ^ (y % 32) % 2 ^ 32 < 2 ^ 32 := Nat.mod_lt _ (by decide)
  have h := binary_any 118 3 12 127 ((x * 2 ^ (y % 32) % 2 ^ 32 : Nat) : Int) y w ⟨by omega⟩ (by decide) (by decide) (by omega) (by omega) (by omega) (by omega)
  have eT : bT 3 12 127 ((x * 2 ^ (y % 32) % 2 ^ 32 : Nat) : Int) y = 0 := by unfold bT; rw [if_pos rfl]; exact twoT_12 _ _ _
  have eV : bV 3 12 127 ((x * 2 ^ (y % 32) % 2 ^ 32 : Nat) : Int) y = ((x % 2 ^ (32 - y % 32) : Nat) : Int) := by
    unfold bV
    rw [if_neg (by decide), if_pos rfl, twoV_12, bt127]
    have hl : x * 2 ^ (y % 32) % 2 ^ 32 < 2 ^ 32 := Nat.mod_lt _ (by decide)
    have hb := shl_shr 32 x (y % 32) (Nat.le_of_lt (Nat.mod_lt _ (by decide)))
    have hm : x % 2 ^ (32 - y % 32) ≤ x := Nat.mod_le _ _
    generalize x * 2 ^ (y % 32) % 2 ^ 32 = z at *
    rw [show cu 127 (z : Int) = z by rw [cu127]; omega, show (cu 127 (y : Int)).toNat % 32 = y % 32 by rw [cu127]; omega, castp, castd, hb]
    rw [cu127]; omega
  rw [eT, eV] at h
  exact h
theorem rl_126 (x y : Nat) (w : World) (hx : x < 18446744073709551616) (hy : y < 18446744073709551616) :
    Calls Try.prog 8 #[.int .i64 137, .int .u64 x, .int .u64 y] w fun e w' => e = .returned (.tuple #[.int .u64 (rot 64 x (y % 64) : Nat), .int .i64 0, .bool true]) ∧ Below w.heap.size w w' := by
  have h := binary_any 137 3 13 126 x y w ⟨by omega⟩ (by decide) (by decide) (by omega) (by omega) (by omega) (by omega)
  have eT : bT 3 13 126 x y = 0 := by unfold bT; rw [if_pos rfl]; exact twoT_13 _ _ _
  have eV : bV 3 13 126 x y = ((rot 64 x (y % 64) : Nat) : Int) := by
    unfold bV
    rw [if_neg (by decide), if_pos rfl, twoV_13, bt126]
    rw [show cu 126 (x : Int) = x by rw [cu126], show (cu 126 (y : Int)).toNat % 64 = y % 64 by rw [cu126]; omega, Int.toNat_natCast]
    have := rot_lt 64 x (y % 64) hx
    rw [cu126]
  rw [eT, eV] at h
  exact h
theorem rr_126 (x y : Nat) (w : World) (hx : x < 18446744073709551616) (hy : y < 18446744073709551616) :
    Calls Try.prog 8 #[.int .i64 138, .int .u64 ((rot 64 x (y % 64) : Nat) : Int), .int .u64 y] w fun e w' => e = .returned (.tuple #[.int .u64 (x : Nat), .int .i64 0, .bool true]) ∧ Below w.heap.size w w' := by
  have hl0 := rot_lt 64 x (y % 64) hx
  have h := binary_any 138 3 14 126 ((rot 64 x (y % 64) : Nat) : Int) y w ⟨by omega⟩ (by decide) (by decide) (by omega) (by omega) (by omega) (by omega)
  have eT : bT 3 14 126 ((rot 64 x (y % 64) : Nat) : Int) y = 0 := by unfold bT; rw [if_pos rfl]; exact twoT_14 _ _ _
  have eV : bV 3 14 126 ((rot 64 x (y % 64) : Nat) : Int) y = ((x : Nat) : Int) := by
    unfold bV
    rw [if_neg (by decide), if_pos rfl, twoV_14, bt126]
    have hl := rot_lt 64 x (y % 64) hx
    have hb := rot_back 64 x (y % 64) (Nat.mod_lt _ (by decide)) hx
    generalize rot 64 x (y % 64) = z at *
    rw [show cu 126 (z : Int) = z by rw [cu126], show (cu 126 (y : Int)).toNat % 64 = y % 64 by rw [cu126]; omega, Int.toNat_natCast, hb]
    rw [cu126]
  rw [eT, eV] at h
  exact h
theorem rw_126 (x y : Nat) (w : World) (hx : x < 18446744073709551616) (hy : y < 18446744073709551616) :
    Calls Try.prog 8 #[.int .i64 137, .int .u64 x, .int .u64 64] w fun e w' => e = .returned (.tuple #[.int .u64 (x : Nat), .int .i64 0, .bool true]) ∧ Below w.heap.size w w' := by
  have h := binary_any 137 3 13 126 x 64 w ⟨by omega⟩ (by decide) (by decide) (by omega) (by omega) (by omega) (by omega)
  have eT : bT 3 13 126 x 64 = 0 := by unfold bT; rw [if_pos rfl]; exact twoT_13 _ _ _
  have eV : bV 3 13 126 x 64 = ((x : Nat) : Int) := by
    unfold bV
    rw [if_neg (by decide), if_pos rfl, twoV_13, bt126]
    rw [show cu 126 (x : Int) = x by rw [cu126], show (cu 126 64).toNat % 64 = 0 by decide, Int.toNat_natCast, rot_zero 64 x hx]
    rw [cu126]
  rw [eT, eV] at h
  exact h
theorem sl_126 (x y : Nat) (w : World) (hx : x < 18446744073709551616) (hy : y < 18446744073709551616) :
    Calls Try.prog 8 #[.int .i64 134, .int .u64 x, .int .u64 y] w fun e w' => e = .returned (.tuple #[.int .u64 (x * 2 ^ (y % 64) % 2 ^ 64 : Nat), .int .i64 0, .bool true]) ∧ Below w.heap.size w w' := by
  have h := binary_any 134 3 10 126 x y w ⟨by omega⟩ (by decide) (by decide) (by omega) (by omega) (by omega) (by omega)
  have eT : bT 3 10 126 x y = 0 := by unfold bT; rw [if_pos rfl]; exact twoT_10 _ _ _
  have eV : bV 3 10 126 x y = ((x * 2 ^ (y % 64) % 2 ^ 64 : Nat) : Int) := by
    unfold bV
    rw [if_neg (by decide), if_pos rfl, twoV_10, bt126]
    rw [show cu 126 (x : Int) = x by rw [cu126], show (cu 126 (y : Int)).toNat % 64 = y % 64 by rw [cu126]; omega, castp, castx, wrapn]
    rw [cu126]
  rw [eT, eV] at h
  exact h
theorem sr_126 (x y : Nat) (w : World) (hx : x < 18446744073709551616) (hy : y < 18446744073709551616) :
    Calls Try.prog 8 #[.int .i64 136, .int .u64 ((x * 2 ^ (y % 64) % 2 ^ 64 : Nat) : Int), .int .u64 y] w fun e w' => e = .returned (.tuple #[.int .u64 (x % 2 ^ (64 - y % 64) : Nat), .int .i64 0, .bool true]) ∧ Below w.heap.size w w' := by
  have hl0 : x * 2 ^ (y % 64) % 2 ^ 64 < 2 ^ 64 := Nat.mod_lt _ (by decide)
  have h := binary_any 136 3 12 126 ((x * 2 ^ (y % 64) % 2 ^ 64 : Nat) : Int) y w ⟨by omega⟩ (by decide) (by decide) (by omega) (by omega) (by omega) (by omega)
  have eT : bT 3 12 126 ((x * 2 ^ (y % 64) % 2 ^ 64 : Nat) : Int) y = 0 := by unfold bT; rw [if_pos rfl]; exact twoT_12 _ _ _
  have eV : bV 3 12 126 ((x * 2 ^ (y % 64) % 2 ^ 64 : Nat) : Int) y = ((x % 2 ^ (64 - y % 64) : Nat) : Int) := by
    unfold bV
    rw [if_neg (by decide), if_pos rfl, twoV_12, bt126]
    have hl : x * 2 ^ (y % 64) % 2 ^ 64 < 2 ^ 64 := Nat.mod_lt _ (by decide)
    have hb := shl_shr 64 x (y % 64) (Nat.le_of_lt (Nat.mod_lt _ (by decide)))
    have hm : x % 2 ^ (64 - y % 64) ≤ x := Nat.mod_le _ _
    generalize x * 2 ^ (y % 64) % 2 ^ 64 = z at *
    rw [show cu 126 (z : Int) = z by rw [cu126], show (cu 126 (y : Int)).toNat % 64 = y % 64 by rw [cu126]; omega, castp, castd, hb]
    rw [cu126]
  rw [eT, eV] at h
  exact h
end Go.Proofs.Ytkmdgdjdkkmjcaa
