/- The reference's Sig and divide. -/
import Derived.Test.YtkmdgdjdkkmjcaaE
import Derived.Test.YtkmdgdjdkkmjcaaA
namespace Go.Proofs.Ytkmdgdjdkkmjcaa
open Go.RowKit
set_option linter.unusedVariables false

def sN (k : Int) : Int := if k = 0 then 0 else if k = 3 then 2 else if k = 4 then 2 else 1
def sR (k t : Int) : Int := if k = 0 then 0 else if k = 2 then 127 else if k = 4 then 127 else if k = 5 then 253 - t else t

set_option maxHeartbeats 4000000 in
theorem rsig_any (op k n t : Int) (w : World) (h : OfIs op k n t) (h1 : -9223372036854775808 ≤ op) (h2 : op ≤ 9223372036854775807) :
    Calls Try.prog 16 #[.int .i64 op] w fun e w' => e = .returned (.tuple #[.int .i64 (sN k), .int .i64 t, .int .i64 (sR k t)]) ∧ w = w' := by
  rcases h.is with ⟨rfl, rfl, rfl, rfl⟩ | ⟨rfl, rfl, rfl, rfl⟩ | ⟨g1, g2, rfl, rfl, rfl⟩ | ⟨g1, g2, rfl, rfl, rfl⟩ | ⟨g1, g2, rfl, rfl, rfl⟩ | ⟨g1, g2, rfl, rfl, rfl⟩ | ⟨g1, g2, rfl, rfl, rfl⟩ | ⟨g1, g2, rfl, rfl, rfl⟩ | ⟨rfl, rfl, rfl, rfl⟩ | ⟨rfl, rfl, rfl, rfl⟩ | ⟨rfl, rfl, rfl, rfl⟩ | ⟨g1 | g1 | g1 | g1 | g1, rfl, rfl, rfl⟩
  all_goals
    clear h
    go_enter Try.func16, Try.ntmps16
    go_wp2
    all_goals go_ret3
    all_goals first | (exact ⟨rfl, rfl⟩) | (exfalso; simp only [beq_iff_eq] at *; omega)

/-- What the reference's divide tells. -/
theorem rdiv_0 (k a x y t : Int) (w : World) :
    Calls Try.prog 25 #[.int .i64 k, .int .u64 a, .int .u64 0, .int .i64 x, .int .i64 y, .int .i64 t] w fun e w' => e = .returned (.tuple #[.int .u64 0, .int .i64 2]) ∧ w = w' := by
  go_enter Try.func25, Try.ntmps25
  go_wp2
  go_ret2
  exact ⟨rfl, rfl⟩

theorem rdiv_4 (a b x y t : Int) (w : World) (ht : t = 127 ∨ t = 126) (h1 : 0 ≤ a) (h2 : a ≤ 18446744073709551615) (h3 : 1 ≤ b) (h4 : b ≤ 18446744073709551615) :
    Calls Try.prog 25 #[.int .i64 4, .int .u64 a, .int .u64 b, .int .i64 x, .int .i64 y, .int .i64 t] w fun e w' => e = .returned (.tuple #[.int .u64 (a / b), .int .i64 0]) ∧ w = w' := by
  rcases ht with rfl | rfl
  all_goals
    go_enter Try.func25, Try.ntmps25
    go_wp2
    go_ret2
    exact ⟨rfl, rfl⟩

theorem rdiv_6 (a b x y t : Int) (w : World) (ht : t = 127 ∨ t = 126) (h1 : 0 ≤ a) (h2 : a ≤ 18446744073709551615) (h3 : 1 ≤ b) (h4 : b ≤ 18446744073709551615) :
    Calls Try.prog 25 #[.int .i64 6, .int .u64 a, .int .u64 b, .int .i64 x, .int .i64 y, .int .i64 t] w fun e w' => e = .returned (.tuple #[.int .u64 (a % b), .int .i64 0]) ∧ w = w' := by
  rcases ht with rfl | rfl
  all_goals
    go_enter Try.func25, Try.ntmps25
    go_wp2
    go_ret2
    exact ⟨rfl, rfl⟩

theorem rdiv_5m (a b x t : Int) (w : World) (ht : t = 127 ∨ t = 126) (h3 : 1 ≤ b) (h4 : b ≤ 18446744073709551615) :
    Calls Try.prog 25 #[.int .i64 5, .int .u64 a, .int .u64 b, .int .i64 x, .int .i64 (-1), .int .i64 t] w fun e w' => e = .returned (.tuple #[.int .u64 0, .int .i64 0]) ∧ w = w' := by
  rcases ht with rfl | rfl
  all_goals
    go_enter Try.func25, Try.ntmps25
    go_wp2
    go_ret2
    exact ⟨rfl, rfl⟩

theorem rdiv_5 (a b x y t : Int) (w : World) (ht : t = 127 ∨ t = 126) (h3 : 1 ≤ b) (h4 : b ≤ 18446744073709551615) (hx : -9223372036854775808 ≤ x ∧ x ≤ 9223372036854775807) (hy : -9223372036854775808 ≤ y ∧ y ≤ 9223372036854775807) (y0 : y ≠ 0) (ym : y ≠ -1) :
    Calls Try.prog 25 #[.int .i64 5, .int .u64 a, .int .u64 b, .int .i64 x, .int .i64 y, .int .i64 t] w fun e w' => e = .returned (.tuple #[.int .u64 (vl t (x.tmod y)), .int .i64 0]) ∧ w = w' := by
  have y0' : (y == 0) = false := by simp [y0]
  have ym' : (y == -1) = false := by simp [ym]
  rcases ht with rfl | rfl
  all_goals
    go_enter Try.func25, Try.ntmps25
    go_wp2_with fail
    refine (rvalue_any _ _ _).mono ?_
    rintro e w' ⟨rfl, rfl⟩
    go_wp2
    go_ret2
    exact ⟨rfl, rfl⟩

def least64 (t : Int) : Int := if t = 126 then -9223372036854775808 else -2147483648
theorem rdiv_3o (a b t : Int) (w : World) (ht : t = 127 ∨ t = 126) (h3 : 1 ≤ b) (h4 : b ≤ 18446744073709551615) :
    Calls Try.prog 25 #[.int .i64 3, .int .u64 a, .int .u64 b, .int .i64 (least64 t), .int .i64 (-1), .int .i64 t] w fun e w' => e = .returned (.tuple #[.int .u64 0, .int .i64 3]) ∧ w = w' := by
  rcases ht with rfl | rfl
  · show Calls Try.prog 25 #[.int .i64 3, .int .u64 a, .int .u64 b, .int .i64 (-2147483648), .int .i64 (-1), .int .i64 127] w _
    go_enter Try.func25, Try.ntmps25
    go_wp2
    go_ret2
    exact ⟨rfl, rfl⟩
  · show Calls Try.prog 25 #[.int .i64 3, .int .u64 a, .int .u64 b, .int .i64 (-9223372036854775808), .int .i64 (-1), .int .i64 126] w _
    go_enter Try.func25, Try.ntmps25
    go_wp2
    go_ret2
    exact ⟨rfl, rfl⟩

theorem rdiv_3 (a b x y t : Int) (w : World) (ht : t = 127 ∨ t = 126) (h3 : 1 ≤ b) (h4 : b ≤ 18446744073709551615) (hx : -9223372036854775808 ≤ x ∧ x ≤ 9223372036854775807) (hy : -9223372036854775808 ≤ y ∧ y ≤ 9223372036854775807) (y0 : y ≠ 0) (ym : ¬ (x = least64 t ∧ y = -1)) (hbig : ¬ (y = -1 ∧ x = -9223372036854775808)) :
    Calls Try.prog 25 #[.int .i64 3, .int .u64 a, .int .u64 b, .int .i64 x, .int .i64 y, .int .i64 t] w fun e w' => e = .returned (.tuple #[.int .u64 (vl t (x.tdiv y)), .int .i64 0]) ∧ w = w' := by
  have y0' : (y == 0) = false := by simp [y0]
  have hd : IntKind.i64.wrap (x.tdiv y) = x.tdiv y := tdiv_small x y hx y0 hbig
  clear hbig
  rcases ht with rfl | rfl
  · have ym' : ¬ (x = -2147483648 ∧ y = -1) := ym
    by_cases hxl : x = -2147483648
    · have hy1 : (y == -1) = false := by simp; exact fun h => ym' ⟨hxl, h⟩
      have hxl' : (x == -2147483648) = true := by simp [hxl]
      clear ym ym' hxl
      go_enter Try.func25, Try.ntmps25
      go_wp2_with fail
      refine (rvalue_any _ _ _).mono ?_
      rintro e w' ⟨rfl, rfl⟩
      go_wp2
      go_ret2
      exact ⟨rfl, rfl⟩
    · have hxl' : (x == -2147483648) = false := by simp [hxl]
      clear ym ym'
      go_enter Try.func25, Try.ntmps25
      go_wp2_with fail
      refine (rvalue_any _ _ _).mono ?_
      rintro e w' ⟨rfl, rfl⟩
      go_wp2
      go_ret2
      exact ⟨rfl, rfl⟩
  · have ym' : ¬ (x = -9223372036854775808 ∧ y = -1) := ym
    by_cases hxl : x = -9223372036854775808
    · have hy1 : (y == -1) = false := by simp; exact fun h => ym' ⟨hxl, h⟩
      have hxl' : (x == -9223372036854775808) = true := by simp [hxl]
      clear ym ym' hxl
      go_enter Try.func25, Try.ntmps25
      go_wp2_with fail
      refine (rvalue_any _ _ _).mono ?_
      rintro e w' ⟨rfl, rfl⟩
      go_wp2
      go_ret2
      exact ⟨rfl, rfl⟩
    · have hxl' : (x == -9223372036854775808) = false := by simp [hxl]
      clear ym ym'
      go_enter Try.func25, Try.ntmps25
      go_wp2_with fail
      refine (rvalue_any _ _ _).mono ?_
      rintro e w' ⟨rfl, rfl⟩
      go_wp2
      go_ret2
      exact ⟨rfl, rfl⟩
end Go.Proofs.Ytkmdgdjdkkmjcaa
