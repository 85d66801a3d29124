/- The reference's bit and Unary. -/
import Derived.Test.YtkmdgdjdkkmjcaaDoorS
namespace Go.Proofs.YtkmdgdjdkkmjcaaDoor
open Go.RowKit
set_option linter.unusedVariables false

/-- Is bit k of x set? -/
def bt1 (x k : Nat) : Bool := x / 2 ^ k % 2 == 1

theorem bit_any (x k : Nat) (K : Int) (w : World) (hK : K = k) (hx : x < 18446744073709551616) (hk : k < 64) :
    Calls Tryd.prog 14 #[.int .u64 x, .int .i64 K] w fun e w' => e = .returned (.bool (bt1 x k)) ∧ w = w' := by
  subst hK
  have hd : x / 2 ^ k < 18446744073709551616 := Nat.lt_of_le_of_lt (Nat.div_le_self _ _) hx
  have e1 : bits .and .u64 ((x : Int) / 2 ^ k) 1 = ((x / 2 ^ k % 2 : Nat) : Int) := by
    have h := u64_and_nat (x / 2 ^ k) 1 hd (by decide)
    rw [Nat.and_one_is_mod] at h
    have e0 : (2 : Int) ^ k = ((2 ^ k : Nat) : Int) := by push_cast; rfl
    rw [e0]
    exact h
  have e2 : (((x / 2 ^ k % 2 : Nat) : Int) == 1) = bt1 x k := by
    unfold bt1
    generalize x / 2 ^ k % 2 = m
    by_cases h : m = 1
    · subst h; rfl
    · have h2 : ((m : Int) == 1) = false := beq_eq_false_iff_ne.2 (by omega)
      have h3 : (m == 1) = false := beq_eq_false_iff_ne.2 h
      rw [h2, h3]
  have E1 := Lib.hid e1
  have E2 := Lib.hid e2
  clear e1 e2 hd
  go_enter Tryd.func14, Tryd.ntmps14
  go_wp2
  go_ret
  refine ⟨?_, rfl⟩
  rw [← E2.out, ← E1.out]
  first | rfl | (simp)
end Go.Proofs.YtkmdgdjdkkmjcaaDoor
