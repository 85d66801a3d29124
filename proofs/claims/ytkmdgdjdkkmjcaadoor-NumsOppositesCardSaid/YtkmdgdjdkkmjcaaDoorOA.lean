/- The plain laws of opposites. -/
import Derived.Test.YtkmdgdjdkkmjcaaDoorZA
import Derived.Test.YtkmdgdjdkkmjcaaDoorI
namespace Go.Proofs.YtkmdgdjdkkmjcaaDoor
open Go.RowKit
set_option linter.unusedVariables false

theorem ds_flip : ∀ n x, x < 2 ^ n → ds 1 n x + ds 1 n (2 ^ n - 1 - x) = n
  | 0, _, _ => rfl
  | n + 1, x, h => by
    show x % 2 + ds 1 n (x / 2) + ((2 ^ (n + 1) - 1 - x) % 2 + ds 1 n ((2 ^ (n + 1) - 1 - x) / 2)) = n + 1
    have hs : 2 ^ (n + 1) = 2 ^ n * 2 := Nat.pow_succ 2 n
    rw [hs] at h ⊢
    have hp := Nat.two_pow_pos n
    have hi := ds_flip n (x / 2)
    generalize 2 ^ n = p at *
    have e1 : (p * 2 - 1 - x) / 2 = p - 1 - x / 2 := by omega
    rw [e1]
    have := hi (by omega)
    omega

theorem ds_len : ∀ f x, ds 1 f x ≤ Lib.bitLenAux f x
  | 0, _ => Nat.le_refl _
  | f + 1, x => by
    show x % 2 ^ 1 + ds 1 f (x / 2 ^ 1) ≤ (if x = 0 then 0 else 1 + Lib.bitLenAux f (x / 2))
    have h := ds_len f (x / 2)
    by_cases h0 : x = 0
    · subst h0
      rw [if_pos rfl]
      have e : ds 1 f (0 / 2 ^ 1) = 0 := ds_zero f
      rw [e]
      decide
    · rw [if_neg h0]
      have e : x / 2 ^ 1 = x / 2 := rfl
      rw [e]
      omega
theorem ds_bitLen (x : Nat) : ds 1 64 x ≤ Lib.bitLen x := ds_len 64 x

/-- What counts tells of a and of its complement. -/
theorem cnt_flip (t : Int) (a : Nat) (ht : t = 127 ∨ t = 126) (ha : a < 18446744073709551616) :
    uV 1 2 t a + uV 1 2 t (18446744073709551615 - a) = wd t := by
  rw [uV_1, uV_1, cnt_2, cnt_2]
  rcases ht with rfl | rfl
  · rw [cu_127, cu_127]
    have e1 : ((a : Int) % 4294967296).toNat = a % 4294967296 := by omega
    have e2 : ((18446744073709551615 - (a : Int)) % 4294967296).toNat = 2 ^ 32 - 1 - a % 4294967296 := by
      have : (2 : Nat) ^ 32 = 4294967296 := by decide
      omega
    rw [e1, e2]
    have hx : a % 4294967296 < 2 ^ 32 := Nat.mod_lt _ (by decide)
    generalize a % 4294967296 = x at *
    have h1 : ds 1 64 x = ds 1 32 x := ds_more 32 32 x hx
    have h2 : ds 1 64 (2 ^ 32 - 1 - x) = ds 1 32 (2 ^ 32 - 1 - x) := ds_more 32 32 _ (by omega)
    have h3 := ds_flip 32 x hx
    rw [h1, h2]
    show _ = ((32 : Nat) : Int)
    omega
  · rw [cu_126, cu_126]
    have e1 : (a : Int).toNat = a := by omega
    have e2 : (18446744073709551615 - (a : Int)).toNat = 2 ^ 64 - 1 - a := by
      have : (2 : Nat) ^ 64 = 18446744073709551616 := by decide
      omega
    rw [e1, e2]
    have h3 := ds_flip 64 a ha
    show _ = ((64 : Nat) : Int)
    omega
theorem cnt_room (t : Int) (a : Nat) (ht : t = 127 ∨ t = 126) (ha : a < 18446744073709551616) :
    uV 1 0 t a + uV 1 2 t a ≤ wd t := by
  rw [uV_1, uV_1, cnt_2]
  rcases ht with rfl | rfl
  · rw [cu_127, cnt_0_127]
    have hx : ((a : Int) % 4294967296).toNat < 2 ^ 32 := by
      have : (2 : Nat) ^ 32 = 4294967296 := by decide
      omega
    generalize ((a : Int) % 4294967296).toNat = x at *
    have h1 := ds_bitLen x
    have h2 := Lib.bitLen_le x 32 (by decide) hx
    show _ ≤ ((32 : Nat) : Int)
    omega
  · rw [cu_126, cnt_0_126]
    have hx : ((a : Int)).toNat < 2 ^ 64 := by
      have : (2 : Nat) ^ 64 = 18446744073709551616 := by decide
      omega
    generalize ((a : Int)).toNat = x at *
    have h1 := ds_bitLen x
    have h2 := Lib.bitLen_le x 64 (by decide) hx
    show _ ≤ ((64 : Nat) : Int)
    omega
theorem uV_nat (n t a : Int) : 0 ≤ uV 1 n t a := by rw [uV_1]; exact Int.natCast_nonneg _

theorem bV_4 (n t a b : Int) : bV 4 n t a b = (if cmp n (cu t a) (cu t b) (sg t (cu t a)) (sg t (cu t b)) then 1 else 0) := rfl
theorem opp (p q : Int) (h : (p = 0 ∧ q = 1) ∨ (p = 2 ∧ q = 8) ∨ (p = 3 ∧ q = 9) ∨ (p = 4 ∧ q = 6) ∨ (p = 5 ∧ q = 7)) (a b s r : Int) : cmp q a b s r = !cmp p a b s r := by
  rcases h with ⟨rfl, rfl⟩ | ⟨rfl, rfl⟩ | ⟨rfl, rfl⟩ | ⟨rfl, rfl⟩ | ⟨rfl, rfl⟩
  · simp [cmp, bne]
  · simp [cmp]
    by_cases h : s < r
    · simp [h, Int.not_le.2 h]
    · simp [h, Int.not_lt.1 h]
  · simp [cmp]
    by_cases h : a < b
    · simp [h, Int.not_le.2 h]
    · simp [h, Int.not_lt.1 h]
  · simp [cmp]
    by_cases h : r < s
    · simp [h, Int.not_le.2 h]
    · simp [h, Int.not_lt.1 h]
  · simp [cmp]
    by_cases h : b < a
    · simp [h, Int.not_le.2 h]
    · simp [h, Int.not_lt.1 h]
/-- The two numbers that opposites tell: 1 and 0. -/
theorem opp_two (p q t a b : Int) (h : (p = 0 ∧ q = 1) ∨ (p = 2 ∧ q = 8) ∨ (p = 3 ∧ q = 9) ∨ (p = 4 ∧ q = 6) ∨ (p = 5 ∧ q = 7)) :
    (bV 4 p t a b = 0 ∧ bV 4 q t a b = 1) ∨ (bV 4 p t a b = 1 ∧ bV 4 q t a b = 0) := by
  rw [bV_4, bV_4, opp p q h]
  cases cmp p (cu t a) (cu t b) (sg t (cu t a)) (sg t (cu t b)) <;> simp
end Go.Proofs.YtkmdgdjdkkmjcaaDoor
