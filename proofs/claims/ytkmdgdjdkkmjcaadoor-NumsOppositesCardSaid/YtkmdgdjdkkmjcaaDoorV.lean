/- The plain laws of counting: what the reference's loops hold is what counts tells. -/
import Derived.Test.YtkmdgdjdkkmjcaaDoorU
namespace Go.Proofs.YtkmdgdjdkkmjcaaDoor
open Go.RowKit
set_option linter.unusedVariables false

/-- The highest bit found. -/
theorem lz_found (W k x : Nat) (hW : W ≤ 64) (hk : k < W) (hx : x < 2 ^ (W - k)) (hb : bt1 x (W - 1 - k) = true) : W - Lib.bitLen x = k := by
  have e : W - k = (W - 1 - k) + 1 := by omega
  rw [e, Nat.pow_succ] at hx
  generalize hj : W - 1 - k = j at *
  have hp := Nat.two_pow_pos j
  unfold bt1 at hb
  have h1 : x / 2 ^ j % 2 = 1 := by simpa using hb
  have h2 : x / 2 ^ j < 2 := by
    refine Nat.div_lt_of_lt_mul ?_
    rw [Nat.mul_comm] at hx
    omega
  have h3 : x / 2 ^ j = 1 := by
    clear hx
    generalize x / 2 ^ j = q at *
    omega
  have h4 : 2 ^ j ≤ x := by
    have := Nat.div_mul_le_self x (2 ^ j)
    rw [h3] at this
    omega
  have h6 : 2 ^ (j + 1) ≤ 2 ^ 64 := Nat.pow_le_pow_right (by decide) (by omega)
  rw [Nat.pow_succ] at h6
  have h5 := Lib.bitLen_shift j x h4 (by omega)
  rw [h3] at h5
  have : Lib.bitLen 1 = 1 := by decide
  omega
theorem lz_step (W k x : Nat) (hk : k < W) (hx : x < 2 ^ (W - k)) (hb : bt1 x (W - 1 - k) = false) : x < 2 ^ (W - (k + 1)) := by
  have e : W - k = (W - 1 - k) + 1 := by omega
  have e2 : W - (k + 1) = W - 1 - k := by omega
  rw [e, Nat.pow_succ] at hx
  rw [e2]
  generalize W - 1 - k = j at *
  unfold bt1 at hb
  have h1 : x / 2 ^ j % 2 ≠ 1 := by simpa using hb
  have h2 : x / 2 ^ j < 2 := by
    refine Nat.div_lt_of_lt_mul ?_
    omega
  have h3 : x / 2 ^ j = 0 := by
    clear hx
    generalize x / 2 ^ j = q at *
    omega
  exact Nat.lt_of_div_eq_zero (Nat.two_pow_pos j) h3
theorem lz_none (W x : Nat) (hx : x < 2 ^ (W - W)) : W - Lib.bitLen x = W := by
  rw [Nat.sub_self] at hx
  have : x = 0 := by simpa using hx
  subst this
  have : Lib.bitLen 0 = 0 := by decide
  omega

theorem odd_two (a b m n : Nat) (h : 2 ^ a * (2 * m + 1) = 2 ^ b * (2 * n + 1)) : a = b := by
  rcases Nat.lt_trichotomy a b with hl | he | hg
  · obtain ⟨d, rfl⟩ : ∃ d, b = a + (d + 1) := ⟨b - a - 1, by omega⟩
    rw [Nat.pow_add, Nat.mul_assoc] at h
    have := Nat.eq_of_mul_eq_mul_left (Nat.two_pow_pos a) h
    rw [Nat.pow_succ, Nat.mul_assoc, Nat.mul_comm _ (2 * (2 * n + 1)), Nat.mul_assoc] at this
    omega
  · exact he
  · obtain ⟨d, rfl⟩ : ∃ d, a = b + (d + 1) := ⟨a - b - 1, by omega⟩
    rw [Nat.pow_add, Nat.mul_assoc] at h
    have := Nat.eq_of_mul_eq_mul_left (Nat.two_pow_pos b) h
    rw [Nat.pow_succ, Nat.mul_assoc, Nat.mul_comm _ (2 * (2 * m + 1)), Nat.mul_assoc] at this
    omega
theorem tz_found (W k x : Nat) (hW : W ≤ 64) (hk : k < W) (hx : x < 2 ^ W) (hz : x % 2 ^ k = 0) (hb : bt1 x k = true) : min (Lib.ctz 64 x) W = k := by
  unfold bt1 at hb
  have h1 : x / 2 ^ k % 2 = 1 := by simpa using hb
  have h2 : x = 2 ^ k * (2 * (x / 2 ^ k / 2) + 1) := by
    have := Nat.mod_add_div x (2 ^ k)
    rw [hz, Nat.zero_add] at this
    have e : 2 * (x / 2 ^ k / 2) + 1 = x / 2 ^ k := by omega
    rw [e, this]
  have h0 : x ≠ 0 := by
    intro h
    rw [h] at h1
    simp at h1
  have h6 : 2 ^ W ≤ 2 ^ 64 := Nat.pow_le_pow_right (by decide) hW
  obtain ⟨m, hm, _⟩ := Lib.ctzFrom_spec 64 x (by omega) (by omega)
  have hc : Lib.ctz 64 x = Lib.ctzFrom 64 x := by unfold Lib.ctz; rw [if_neg h0]
  rw [hc]
  have := odd_two _ _ _ _ (hm.symm.trans h2)
  omega
theorem tz_step (k x : Nat) (hz : x % 2 ^ k = 0) (hb : bt1 x k = false) : x % 2 ^ (k + 1) = 0 := by
  unfold bt1 at hb
  have h1 : x / 2 ^ k % 2 ≠ 1 := by simpa using hb
  rw [Nat.pow_succ, Nat.mod_mul, hz]
  have : x / 2 ^ k % 2 = 0 := by omega
  rw [this, Nat.mul_zero]
theorem tz_none (W x : Nat) (hW : W ≤ 64) (hx : x < 2 ^ W) (hz : x % 2 ^ W = 0) : min (Lib.ctz 64 x) W = W := by
  rw [Nat.mod_eq_of_lt hx] at hz
  subst hz
  have : Lib.ctz 64 0 = 64 := by decide
  omega

theorem ds_snoc : ∀ n x, ds 1 (n + 1) x = ds 1 n x + x / 2 ^ n % 2
  | 0, x => by simp [ds]
  | n + 1, x => by
    show x % 2 ^ 1 + ds 1 (n + 1) (x / 2 ^ 1) = x % 2 ^ 1 + ds 1 n (x / 2 ^ 1) + _
    rw [ds_snoc n (x / 2 ^ 1), Nat.div_div_eq_div_mul, ← Nat.pow_add, Nat.add_comm 1 n]
    omega
theorem ds_zero : ∀ n, ds 1 n 0 = 0
  | 0 => rfl
  | n + 1 => by
    show 0 % 2 ^ 1 + ds 1 n (0 / 2 ^ 1) = 0
    rw [Nat.zero_mod, Nat.zero_div, ds_zero n]
theorem ds_more : ∀ n m x, x < 2 ^ n → ds 1 (n + m) x = ds 1 n x
  | 0, m, x, h => by
    have : x = 0 := by simpa using h
    subst this
    rw [ds_zero, ds_zero]
  | n + 1, m, x, h => by
    rw [show n + 1 + m = (n + m) + 1 by omega]
    show x % 2 ^ 1 + ds 1 (n + m) (x / 2 ^ 1) = x % 2 ^ 1 + ds 1 n (x / 2 ^ 1)
    rw [ds_more n m (x / 2 ^ 1) (by rw [Nat.pow_succ] at h; omega)]
end Go.Proofs.YtkmdgdjdkkmjcaaDoor
