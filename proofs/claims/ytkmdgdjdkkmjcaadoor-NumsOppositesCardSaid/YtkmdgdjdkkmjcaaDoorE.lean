/- Contracts of held and plain, and of the reference's holds and divide. -/
import Derived.Test.YtkmdgdjdkkmjcaaDoorD
namespace Go.Proofs.YtkmdgdjdkkmjcaaDoor
open Go.RowKit
set_option linter.unusedVariables false

/-- A comparison, by its place among the ten. -/
def cmp (n a b s t : Int) : Bool :=
  if n = 0 then a == b else if n = 1 then a != b else if n = 2 then decide (s < t) else if n = 3 then decide (a < b) else if n = 4 then decide (t < s) else
  if n = 5 then decide (b < a) else if n = 6 then decide (s ≤ t) else if n = 7 then decide (a ≤ b) else if n = 8 then decide (t ≤ s) else decide (b ≤ a)

set_option maxHeartbeats 2000000 in
theorem held_any (n a b t : Int) (w : World) (a1 : 0 ≤ a) (a2 : a ≤ 18446744073709551615) (b1 : 0 ≤ b) (b2 : b ≤ 18446744073709551615) :
    Calls Tryd.prog 16 #[.int .i64 n, .int .u64 a, .int .u64 b, .int .i64 t] w fun e w' => e = .returned (.bool (cmp n a b (sg t a) (sg t b))) ∧ w = w' := by
  have HSA := Lib.hid (signed_any a t w a1 a2)
  have HSB := Lib.hid (signed_any b t w b1 b2)
  generalize sg t a = s at *
  generalize sg t b = r at *
  by_cases h0 : n = 0
  · subst h0
    go_enter Tryd.func16, Tryd.ntmps16
    go_wp2_with fail
    refine HSA.out.mono ?_
    rintro e w' ⟨rfl, rfl⟩
    go_wp2_with fail
    refine HSB.out.mono ?_
    rintro e w' ⟨rfl, rfl⟩
    go_wp2
    go_ret
    exact ⟨by first | rfl | simp [cmp], rfl⟩
  by_cases h1 : n = 1
  · subst h1
    go_enter Tryd.func16, Tryd.ntmps16
    go_wp2_with fail
    refine HSA.out.mono ?_
    rintro e w' ⟨rfl, rfl⟩
    go_wp2_with fail
    refine HSB.out.mono ?_
    rintro e w' ⟨rfl, rfl⟩
    go_wp2
    go_ret
    exact ⟨by first | rfl | simp [cmp], rfl⟩
  by_cases h2 : n = 2
  · subst h2
    go_enter Tryd.func16, Tryd.ntmps16
    go_wp2_with fail
    refine HSA.out.mono ?_
    rintro e w' ⟨rfl, rfl⟩
    go_wp2_with fail
    refine HSB.out.mono ?_
    rintro e w' ⟨rfl, rfl⟩
    go_wp2
    go_ret
    exact ⟨by first | rfl | simp [cmp], rfl⟩
  by_cases h3 : n = 3
  · subst h3
    go_enter Tryd.func16, Tryd.ntmps16
    go_wp2_with fail
    refine HSA.out.mono ?_
    rintro e w' ⟨rfl, rfl⟩
    go_wp2_with fail
    refine HSB.out.mono ?_
    rintro e w' ⟨rfl, rfl⟩
    go_wp2
    go_ret
    exact ⟨by first | rfl | simp [cmp], rfl⟩
  by_cases h4 : n = 4
  · subst h4
    go_enter Tryd.func16, Tryd.ntmps16
    go_wp2_with fail
    refine HSA.out.mono ?_
    rintro e w' ⟨rfl, rfl⟩
    go_wp2_with fail
    refine HSB.out.mono ?_
    rintro e w' ⟨rfl, rfl⟩
    go_wp2
    go_ret
    exact ⟨by first | rfl | simp [cmp], rfl⟩
  by_cases h5 : n = 5
  · subst h5
    go_enter Tryd.func16, Tryd.ntmps16
    go_wp2_with fail
    refine HSA.out.mono ?_
    rintro e w' ⟨rfl, rfl⟩
    go_wp2_with fail
    refine HSB.out.mono ?_
    rintro e w' ⟨rfl, rfl⟩
    go_wp2
    go_ret
    exact ⟨by first | rfl | simp [cmp], rfl⟩
  by_cases h6 : n = 6
  · subst h6
    go_enter Tryd.func16, Tryd.ntmps16
    go_wp2_with fail
    refine HSA.out.mono ?_
    rintro e w' ⟨rfl, rfl⟩
    go_wp2_with fail
    refine HSB.out.mono ?_
    rintro e w' ⟨rfl, rfl⟩
    go_wp2
    go_ret
    exact ⟨by first | rfl | simp [cmp], rfl⟩
  by_cases h7 : n = 7
  · subst h7
    go_enter Tryd.func16, Tryd.ntmps16
    go_wp2_with fail
    refine HSA.out.mono ?_
    rintro e w' ⟨rfl, rfl⟩
    go_wp2_with fail
    refine HSB.out.mono ?_
    rintro e w' ⟨rfl, rfl⟩
    go_wp2
    go_ret
    exact ⟨by first | rfl | simp [cmp], rfl⟩
  by_cases h8 : n = 8
  · subst h8
    go_enter Tryd.func16, Tryd.ntmps16
    go_wp2_with fail
    refine HSA.out.mono ?_
    rintro e w' ⟨rfl, rfl⟩
    go_wp2_with fail
    refine HSB.out.mono ?_
    rintro e w' ⟨rfl, rfl⟩
    go_wp2
    go_ret
    exact ⟨by first | rfl | simp [cmp], rfl⟩
  have g0 : (n == 0) = false := by simp [h0]
  have g1 : (n == 1) = false := by simp [h1]
  have g2 : (n == 2) = false := by simp [h2]
  have g3 : (n == 3) = false := by simp [h3]
  have g4 : (n == 4) = false := by simp [h4]
  have g5 : (n == 5) = false := by simp [h5]
  have g6 : (n == 6) = false := by simp [h6]
  have g7 : (n == 7) = false := by simp [h7]
  have g8 : (n == 8) = false := by simp [h8]
  go_enter Tryd.func16, Tryd.ntmps16
  go_wp2_with fail
  refine HSA.out.mono ?_
  rintro e w' ⟨rfl, rfl⟩
  go_wp2_with fail
  refine HSB.out.mono ?_
  rintro e w' ⟨rfl, rfl⟩
  go_wp2
  go_ret
  exact ⟨by simp [cmp, h0, h1, h2, h3, h4, h5, h6, h7, h8], rfl⟩

/-- Where nothing hangs on the type. -/
def plainB (n : Int) : Bool := n == 0 || n == 1 || n == 2 || n == 7 || n == 8 || n == 9
def plainV (n a b : Int) : Int := if n = 0 then IntKind.u64.wrap (a + b) else if n = 1 then IntKind.u64.wrap (a - b) else if n = 2 then IntKind.u64.wrap (a * b) else
  if n = 7 then bits .and .u64 a b else if n = 8 then bits .or .u64 a b else if n = 9 then bits .xor .u64 a b else 0

set_option maxHeartbeats 2000000 in
theorem plain_any (n a b : Int) (w : World) :
    Calls Tryd.prog 17 #[.int .i64 n, .int .u64 a, .int .u64 b] w fun e w' => e = .returned (.tuple #[.int .u64 (plainV n a b), .bool (plainB n)]) ∧ w = w' := by
  by_cases h0 : n = 0
  · subst h0
    go_enter Tryd.func17, Tryd.ntmps17
    go_wp2
    go_ret2
    exact ⟨by first | rfl | simp [plainV, plainB], rfl⟩
  by_cases h1 : n = 1
  · subst h1
    go_enter Tryd.func17, Tryd.ntmps17
    go_wp2
    go_ret2
    exact ⟨by first | rfl | simp [plainV, plainB], rfl⟩
  by_cases h2 : n = 2
  · subst h2
    go_enter Tryd.func17, Tryd.ntmps17
    go_wp2
    go_ret2
    exact ⟨by first | rfl | simp [plainV, plainB], rfl⟩
  by_cases h7 : n = 7
  · subst h7
    go_enter Tryd.func17, Tryd.ntmps17
    go_wp2
    go_ret2
    exact ⟨by first | rfl | simp [plainV, plainB], rfl⟩
  by_cases h8 : n = 8
  · subst h8
    go_enter Tryd.func17, Tryd.ntmps17
    go_wp2
    go_ret2
    exact ⟨by first | rfl | simp [plainV, plainB], rfl⟩
  by_cases h9 : n = 9
  · subst h9
    go_enter Tryd.func17, Tryd.ntmps17
    go_wp2
    go_ret2
    exact ⟨by first | rfl | simp [plainV, plainB], rfl⟩
  have g0 : (n == 0) = false := by simp [h0]
  have g1 : (n == 1) = false := by simp [h1]
  have g2 : (n == 2) = false := by simp [h2]
  have g7 : (n == 7) = false := by simp [h7]
  have g8 : (n == 8) = false := by simp [h8]
  have g9 : (n == 9) = false := by simp [h9]
  go_enter Tryd.func17, Tryd.ntmps17
  go_wp2
  go_ret2
  exact ⟨by simp [plainV, plainB, h0, h1, h2, h7, h8, h9], rfl⟩
end Go.Proofs.YtkmdgdjdkkmjcaaDoor
