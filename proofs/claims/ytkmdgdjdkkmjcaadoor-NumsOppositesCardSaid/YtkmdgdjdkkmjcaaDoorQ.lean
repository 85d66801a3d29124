/- bits.OnesCount64: how many bits are set. -/
import Derived.Test.YtkmdgdjdkkmjcaaDoorRows
import Derived.WalkKit
import Derived.Below
import Derived.Lib.Hide
import Derived.Laws.BitsAllLaws
import Derived.Laws.Bits128
namespace Go.Proofs.YtkmdgdjdkkmjcaaDoor
open Go.RowKit
set_option linter.unusedVariables false

/-- The sum of n digits of j bits. -/
def ds (j : Nat) : Nat → Nat → Nat
  | 0, _ => 0
  | n + 1, x => x % 2 ^ j + ds j n (x / 2 ^ j)
/-- Each of n digits of j bits is at most B. -/
def dle (B j : Nat) : Nat → Nat → Prop
  | 0, _ => True
  | n + 1, x => x % 2 ^ j ≤ B ∧ dle B j n (x / 2 ^ j)
/-- Of n pairs of digits of k bits the sums. -/
def sumf (k : Nat) : Nat → Nat → Nat
  | 0, _ => 0
  | n + 1, x => (x % 2 ^ k + x / 2 ^ k % 2 ^ k) + 2 ^ (2 * k) * sumf k n (x / 2 ^ (2 * k))
def mask (k : Nat) : Nat → Nat
  | 0 => 0
  | n + 1 => (2 ^ k - 1) + 2 ^ (2 * k) * mask k n

theorem and_split (n a b : Nat) : a &&& b = (a % 2 ^ n &&& b % 2 ^ n) + 2 ^ n * (a / 2 ^ n &&& b / 2 ^ n) := by
  have h1 : (a &&& b) % 2 ^ n = a % 2 ^ n &&& b % 2 ^ n := Nat.and_mod_two_pow
  have h2 : (a &&& b) / 2 ^ n = a / 2 ^ n &&& b / 2 ^ n := Nat.and_div_two_pow
  rw [← h1, ← h2]
  exact (Nat.mod_add_div _ _).symm

theorem mask_mod (k n : Nat) (hk : 0 < k) : mask k (n + 1) % 2 ^ (2 * k) = 2 ^ k - 1 ∧ mask k (n + 1) / 2 ^ (2 * k) = mask k n := by
  have h1 : 2 ^ k ≤ 2 ^ (2 * k) := Nat.pow_le_pow_right (by decide) (by omega)
  have h2 := Nat.two_pow_pos k
  constructor
  · show ((2 ^ k - 1) + 2 ^ (2 * k) * mask k n) % _ = _
    rw [Nat.add_mul_mod_self_left]
    exact Nat.mod_eq_of_lt (by omega)
  · show ((2 ^ k - 1) + 2 ^ (2 * k) * mask k n) / _ = _
    rw [Nat.add_mul_div_left _ _ (Nat.two_pow_pos _), Nat.div_eq_of_lt (by omega), Nat.zero_add]

theorem low (a k : Nat) (hk : 0 < k) : a % 2 ^ (2 * k) &&& (2 ^ k - 1) = a % 2 ^ k := by
  rw [Nat.and_two_pow_sub_one_eq_mod, Nat.mod_mod_of_dvd _ (Nat.pow_dvd_pow 2 (by omega))]

theorem and_mask_step (a k n : Nat) (hk : 0 < k) : a &&& mask k (n + 1) = a % 2 ^ k + 2 ^ (2 * k) * (a / 2 ^ (2 * k) &&& mask k n) := by
  rw [and_split (2 * k) a, (mask_mod k n hk).1, (mask_mod k n hk).2, low a k hk]

theorem sumf_and (k : Nat) (hk : 0 < k) : ∀ n x, (x / 2 ^ k &&& mask k n) + (x &&& mask k n) = sumf k n x
  | 0, x => by simp [mask, sumf]
  | n + 1, x => by
    rw [and_mask_step _ k n hk, and_mask_step _ k n hk]
    unfold sumf
    have e : x / 2 ^ k / 2 ^ (2 * k) = x / 2 ^ (2 * k) / 2 ^ k := by rw [Nat.div_div_eq_div_mul, Nat.div_div_eq_div_mul, Nat.mul_comm]
    rw [e, ← sumf_and k hk n (x / 2 ^ (2 * k)), Nat.mul_add]
    omega

theorem two_lt (k p q : Nat) (hk : 0 < k) (hp : p < 2 ^ k) (hq : q < 2 ^ k) : p + q < 2 ^ (2 * k) := by
  have : 2 ^ (k + 1) ≤ 2 ^ (2 * k) := Nat.pow_le_pow_right (by decide) (by omega)
  rw [Nat.pow_succ] at this
  omega

theorem sumf_mod (k n x : Nat) (hk : 0 < k) : sumf k (n + 1) x % 2 ^ (2 * k) = x % 2 ^ k + x / 2 ^ k % 2 ^ k ∧ sumf k (n + 1) x / 2 ^ (2 * k) = sumf k n (x / 2 ^ (2 * k)) := by
  have h := two_lt k (x % 2 ^ k) (x / 2 ^ k % 2 ^ k) hk (Nat.mod_lt _ (Nat.two_pow_pos k)) (Nat.mod_lt _ (Nat.two_pow_pos k))
  constructor
  · show ((x % 2 ^ k + x / 2 ^ k % 2 ^ k) + 2 ^ (2 * k) * sumf k n (x / 2 ^ (2 * k))) % _ = _
    rw [Nat.add_mul_mod_self_left, Nat.mod_eq_of_lt h]
  · show ((x % 2 ^ k + x / 2 ^ k % 2 ^ k) + 2 ^ (2 * k) * sumf k n (x / 2 ^ (2 * k))) / _ = _
    rw [Nat.add_mul_div_left _ _ (Nat.two_pow_pos _), Nat.div_eq_of_lt h, Nat.zero_add]

theorem sumf_ds (k : Nat) (hk : 0 < k) : ∀ n x, ds (2 * k) n (sumf k n x) = ds k (2 * n) x
  | 0, x => rfl
  | n + 1, x => by
    show sumf k (n + 1) x % 2 ^ (2 * k) + ds (2 * k) n (sumf k (n + 1) x / 2 ^ (2 * k)) = ds k (2 * n + 1 + 1) x
    rw [(sumf_mod k n x hk).1, (sumf_mod k n x hk).2, sumf_ds k hk n]
    show _ = x % 2 ^ k + (x / 2 ^ k % 2 ^ k + ds k (2 * n) (x / 2 ^ k / 2 ^ k))
    rw [Nat.div_div_eq_div_mul, ← Nat.pow_add, show k + k = 2 * k by omega, Nat.add_assoc]

theorem sumf_dle (k B : Nat) (hk : 0 < k) : ∀ n x, dle B k (2 * n) x → dle (2 * B) (2 * k) n (sumf k n x)
  | 0, x, _ => trivial
  | n + 1, x, h => by
    have h' : x % 2 ^ k ≤ B ∧ x / 2 ^ k % 2 ^ k ≤ B ∧ dle B k (2 * n) (x / 2 ^ k / 2 ^ k) := h
    show sumf k (n + 1) x % 2 ^ (2 * k) ≤ 2 * B ∧ dle (2 * B) (2 * k) n (sumf k (n + 1) x / 2 ^ (2 * k))
    rw [(sumf_mod k n x hk).1, (sumf_mod k n x hk).2]
    refine ⟨by omega, sumf_dle k B hk n _ ?_⟩
    have := h'.2.2
    rwa [Nat.div_div_eq_div_mul, ← Nat.pow_add, show k + k = 2 * k by omega] at this

theorem sumf_lt (k : Nat) (hk : 0 < k) : ∀ n x, sumf k n x < 2 ^ (2 * k * n)
  | 0, x => by simp [sumf]
  | n + 1, x => by
    have h := two_lt k (x % 2 ^ k) (x / 2 ^ k % 2 ^ k) hk (Nat.mod_lt _ (Nat.two_pow_pos k)) (Nat.mod_lt _ (Nat.two_pow_pos k))
    have ih := sumf_lt k hk n (x / 2 ^ (2 * k))
    have e : 2 ^ (2 * k * (n + 1)) = 2 ^ (2 * k) * 2 ^ (2 * k * n) := by rw [← Nat.pow_add]; congr 1; rw [Nat.mul_add]; omega
    unfold sumf
    rw [e]
    have h2 : 2 ^ (2 * k) * (sumf k n (x / 2 ^ (2 * k)) + 1) ≤ 2 ^ (2 * k) * 2 ^ (2 * k * n) := Nat.mul_le_mul_left _ ih
    rw [Nat.mul_add] at h2
    omega

theorem bits_dle : ∀ n x, dle 1 1 n x
  | 0, _ => trivial
  | n + 1, x => ⟨by omega, bits_dle n _⟩

theorem third : ∀ n x, dle 4 4 (2 * n) x → ((x / 16 + x) &&& mask 4 n) = sumf 4 n x
  | 0, x, _ => by simp [mask, sumf]
  | n + 1, x, h => by
    have h' : x % 2 ^ 4 ≤ 4 ∧ x / 2 ^ 4 % 2 ^ 4 ≤ 4 ∧ dle 4 4 (2 * n) (x / 2 ^ 4 / 2 ^ 4) := h
    have e1 : x / 2 ^ 4 / 2 ^ 4 = x / 256 := by omega
    rw [e1] at h'
    have h0 : x / 256 % 16 ≤ 4 ∨ n = 0 := by
      match n, h' with
      | 0, _ => exact .inr rfl
      | m + 1, h' => exact .inl h'.2.2.1
    rw [and_mask_step _ 4 n (by decide)]
    show (x / 16 + x) % 16 + 256 * ((x / 16 + x) / 256 &&& mask 4 n) = (x % 16 + x / 16 % 16) + 256 * sumf 4 n (x / 256)
    have h1 : x % 16 ≤ 4 := h'.1
    have h2 : x / 16 % 16 ≤ 4 := h'.2.1
    have h3 := h'.2.2
    obtain ⟨p, q, y, hx, hp, hq⟩ : ∃ p q y, x = p + 16 * (q + 16 * y) ∧ p ≤ 4 ∧ q ≤ 4 := ⟨x % 16, x / 16 % 16, x / 256, by omega, h1, h2⟩
    have f1 : x / 16 = q + 16 * y := by omega
    have f2 : x / 256 = y := by omega
    have f3 : x % 16 = p := by omega
    have f4 : x / 16 % 16 = q := by omega
    have f5 : (x / 16 + x) % 16 = p + q := by rw [f1]; omega
    rw [f5, f2, f3, f4]
    rw [f2] at h0 h3
    rcases h0 with h0 | rfl
    · have e2 : (x / 16 + x) / 256 = y / 16 + y := by
        obtain ⟨r, z, hy, hr⟩ : ∃ r z, y = r + 16 * z ∧ r ≤ 4 := ⟨y % 16, y / 16, by omega, h0⟩
        have g1 : y / 16 = z := by omega
        rw [f1, g1]
        omega
      rw [e2, third n _ h3]
    · show p + q + 256 * (_ &&& 0) = (p + q) + 256 * 0
      rw [Nat.and_zero]

theorem w16 (lo hi : Nat) (h : lo < 65536) (hb : lo + 65536 * hi + hi < 18446744073709551616) : IntKind.u64.wrap (((lo + 65536 * hi : Nat) : Int) + ((lo + 65536 * hi : Nat) : Int) / 65536) = ((lo + 65536 * hi + hi : Nat) : Int) := by
  have e : ((lo + 65536 * hi : Nat) : Int) / 65536 = hi := by omega
  rw [e, IntKind.wrap_u64]; omega
theorem w32 (lo hi : Nat) (h : lo < 4294967296) (hb : lo + 4294967296 * hi + hi < 18446744073709551616) : IntKind.u64.wrap (((lo + 4294967296 * hi : Nat) : Int) + ((lo + 4294967296 * hi : Nat) : Int) / 4294967296) = ((lo + 4294967296 * hi + hi : Nat) : Int) := by
  have e : ((lo + 4294967296 * hi : Nat) : Int) / 4294967296 = hi := by omega
  rw [e, IntKind.wrap_u64]; omega

theorem fin128 (T H : Nat) (hT : T < 128) (hH : H < 144115188075855872) : wrap64 ((T + 128 * H : Nat) : Int) % 128 = (T : Int) := by
  have e : ((T + 128 * H : Nat) : Int) = (T : Int) + 128 * (H : Int) := by push_cast; rfl
  rw [e]
  unfold wrap64
  omega

set_option maxHeartbeats 4000000 in
theorem fourth (x : Nat) (hx : x < 18446744073709551616) (h : dle 8 8 8 x) :
    wrap64 (IntKind.u64.wrap (IntKind.u64.wrap (IntKind.u64.wrap ((x : Int) + (x : Int) / 256) + IntKind.u64.wrap ((x : Int) + (x : Int) / 256) / 65536) + IntKind.u64.wrap (IntKind.u64.wrap ((x : Int) + (x : Int) / 256) + IntKind.u64.wrap ((x : Int) + (x : Int) / 256) / 65536) / 4294967296)) % 128 = (ds 8 8 x : Nat) := by
  obtain ⟨b0, x1, hb0, rfl⟩ : ∃ b x', b < 256 ∧ x = b + 256 * x' := ⟨x % 256, x / 256, by omega, by omega⟩
  obtain ⟨b1, x2, hb1, rfl⟩ : ∃ b x', b < 256 ∧ x1 = b + 256 * x' := ⟨x1 % 256, x1 / 256, by omega, by omega⟩
  obtain ⟨b2, x3, hb2, rfl⟩ : ∃ b x', b < 256 ∧ x2 = b + 256 * x' := ⟨x2 % 256, x2 / 256, by omega, by omega⟩
  obtain ⟨b3, x4, hb3, rfl⟩ : ∃ b x', b < 256 ∧ x3 = b + 256 * x' := ⟨x3 % 256, x3 / 256, by omega, by omega⟩
  obtain ⟨b4, x5, hb4, rfl⟩ : ∃ b x', b < 256 ∧ x4 = b + 256 * x' := ⟨x4 % 256, x4 / 256, by omega, by omega⟩
  obtain ⟨b5, x6, hb5, rfl⟩ : ∃ b x', b < 256 ∧ x5 = b + 256 * x' := ⟨x5 % 256, x5 / 256, by omega, by omega⟩
  obtain ⟨b6, x7, hb6, rfl⟩ : ∃ b x', b < 256 ∧ x6 = b + 256 * x' := ⟨x6 % 256, x6 / 256, by omega, by omega⟩
  have step : ∀ b y, b < 256 → (b + 256 * y) % 2 ^ 8 = b ∧ (b + 256 * y) / 2 ^ 8 = y := fun b y hb => by omega
  have h7 : x7 < 256 := by omega
  have s7 : x7 % 2 ^ 8 = x7 ∧ x7 / 2 ^ 8 = 0 := by omega
  simp only [dle, ds, (step _ _ hb0).1, (step _ _ hb0).2, (step _ _ hb1).1, (step _ _ hb1).2, (step _ _ hb2).1, (step _ _ hb2).2, (step _ _ hb3).1, (step _ _ hb3).2, (step _ _ hb4).1, (step _ _ hb4).2, (step _ _ hb5).1, (step _ _ hb5).2, (step _ _ hb6).1, (step _ _ hb6).2, s7.1] at h ⊢
  obtain ⟨c0, c1, c2, c3, c4, c5, c6, c7, _⟩ := h
  clear step s7 hx hb0 hb1 hb2 hb3 hb4 hb5 hb6 h7
  have e1 : IntKind.u64.wrap (((b0 + 256 * (b1 + 256 * (b2 + 256 * (b3 + 256 * (b4 + 256 * (b5 + 256 * (b6 + 256 * x7)))))) : Nat) : Int) + ((b0 + 256 * (b1 + 256 * (b2 + 256 * (b3 + 256 * (b4 + 256 * (b5 + 256 * (b6 + 256 * x7)))))) : Nat) : Int) / 256)
      = (((b0 + b1) + 256 * ((b1 + b2) + 256 * ((b2 + b3) + 256 * ((b3 + b4) + 256 * ((b4 + b5) + 256 * ((b5 + b6) + 256 * ((b6 + x7) + 256 * x7)))))) : Nat) : Int) := by
    rw [IntKind.wrap_u64]; omega
  rw [e1]
  clear e1
  have g1 : (b0 + b1) + 256 * ((b1 + b2) + 256 * ((b2 + b3) + 256 * ((b3 + b4) + 256 * ((b4 + b5) + 256 * ((b5 + b6) + 256 * ((b6 + x7) + 256 * x7))))))
      = ((b0 + b1) + 256 * (b1 + b2)) + 65536 * ((b2 + b3) + 256 * ((b3 + b4) + 256 * ((b4 + b5) + 256 * ((b5 + b6) + 256 * ((b6 + x7) + 256 * x7))))) := by omega
  rw [g1, w16 _ _ (by omega) (by omega)]
  clear g1
  have g2 : ((b0 + b1) + 256 * (b1 + b2)) + 65536 * ((b2 + b3) + 256 * ((b3 + b4) + 256 * ((b4 + b5) + 256 * ((b5 + b6) + 256 * ((b6 + x7) + 256 * x7))))) + ((b2 + b3) + 256 * ((b3 + b4) + 256 * ((b4 + b5) + 256 * ((b5 + b6) + 256 * ((b6 + x7) + 256 * x7)))))
      = ((b0 + b1 + b2 + b3) + 256 * ((b1 + b2 + b3 + b4) + 256 * ((b2 + b3 + b4 + b5) + 256 * (b3 + b4 + b5 + b6)))) + 4294967296 * ((b4 + b5 + b6 + x7) + 256 * ((b5 + b6 + x7) + 256 * ((b6 + x7) + 256 * x7))) := by omega
  rw [g2, w32 _ _ (by omega) (by omega)]
  clear g2
  have g3 : ((b0 + b1 + b2 + b3) + 256 * ((b1 + b2 + b3 + b4) + 256 * ((b2 + b3 + b4 + b5) + 256 * (b3 + b4 + b5 + b6)))) + 4294967296 * ((b4 + b5 + b6 + x7) + 256 * ((b5 + b6 + x7) + 256 * ((b6 + x7) + 256 * x7))) + ((b4 + b5 + b6 + x7) + 256 * ((b5 + b6 + x7) + 256 * ((b6 + x7) + 256 * x7)))
      = (b0 + b1 + b2 + b3 + b4 + b5 + b6 + x7) + 128 * (2 * ((b1 + b2 + b3 + b4 + b5 + b6 + x7) + 256 * ((b2 + b3 + b4 + b5 + b6 + x7) + 256 * ((b3 + b4 + b5 + b6 + x7) + 256 * ((b4 + b5 + b6 + x7) + 256 * ((b5 + b6 + x7) + 256 * ((b6 + x7) + 256 * x7))))))) := by omega
  rw [g3]
  have g4 : (2 * ((b1 + b2 + b3 + b4 + b5 + b6 + x7) + 256 * ((b2 + b3 + b4 + b5 + b6 + x7) + 256 * ((b3 + b4 + b5 + b6 + x7) + 256 * ((b4 + b5 + b6 + x7) + 256 * ((b5 + b6 + x7) + 256 * ((b6 + x7) + 256 * x7))))))) < 144115188075855872 := by omega
  generalize (2 * ((b1 + b2 + b3 + b4 + b5 + b6 + x7) + 256 * ((b2 + b3 + b4 + b5 + b6 + x7) + 256 * ((b3 + b4 + b5 + b6 + x7) + 256 * ((b4 + b5 + b6 + x7) + 256 * ((b5 + b6 + x7) + 256 * ((b6 + x7) + 256 * x7))))))) = H at *
  have g5 : b0 + b1 + b2 + b3 + b4 + b5 + b6 + x7 < 128 := by omega
  have g6 : b0 + (b1 + (b2 + (b3 + (b4 + (b5 + (b6 + (x7 + 0))))))) = b0 + b1 + b2 + b3 + b4 + b5 + b6 + x7 := by omega
  rw [g6]
  exact fin128 _ _ g5 g4

theorem first_step (x : Nat) (hx : x < 18446744073709551616) : IntKind.u64.wrap (bits .and .u64 ((x : Int) / 2) 6148914691236517205 + bits .and .u64 (x : Int) 6148914691236517205) = ((sumf 1 32 x : Nat) : Int) := by
  have hm : mask 1 32 = 6148914691236517205 := by decide +kernel
  have h := sumf_and 1 (by decide) 32 x
  have hl := sumf_lt 1 (by decide) 32 x
  rw [hm] at h
  have e1 := u64_and_nat (x / 2) 6148914691236517205 (by omega) (by decide)
  have e2 := u64_and_nat x 6148914691236517205 hx (by decide)
  have e3 : ((x : Int) / 2) = ((x / 2 : Nat) : Int) := rfl
  rw [e3]
  have e1' : bits .and .u64 ((x / 2 : Nat) : Int) 6148914691236517205 = ((x / 2 &&& 6148914691236517205 : Nat) : Int) := e1
  have e2' : bits .and .u64 (x : Int) 6148914691236517205 = ((x &&& 6148914691236517205 : Nat) : Int) := e2
  rw [e1', e2', IntKind.wrap_u64]
  have h' : (x / 2 &&& 6148914691236517205) + (x &&& 6148914691236517205) = sumf 1 32 x := h
  omega
theorem second_step (x : Nat) (hx : x < 18446744073709551616) : IntKind.u64.wrap (bits .and .u64 ((x : Int) / 4) 3689348814741910323 + bits .and .u64 (x : Int) 3689348814741910323) = ((sumf 2 16 x : Nat) : Int) := by
  have hm : mask 2 16 = 3689348814741910323 := by decide +kernel
  have h := sumf_and 2 (by decide) 16 x
  have hl := sumf_lt 2 (by decide) 16 x
  rw [hm] at h
  have e1 := u64_and_nat (x / 4) 3689348814741910323 (by omega) (by decide)
  have e2 := u64_and_nat x 3689348814741910323 hx (by decide)
  have e3 : ((x : Int) / 4) = ((x / 4 : Nat) : Int) := rfl
  rw [e3]
  have e1' : bits .and .u64 ((x / 4 : Nat) : Int) 3689348814741910323 = ((x / 4 &&& 3689348814741910323 : Nat) : Int) := e1
  have e2' : bits .and .u64 (x : Int) 3689348814741910323 = ((x &&& 3689348814741910323 : Nat) : Int) := e2
  rw [e1', e2', IntKind.wrap_u64]
  have h' : (x / 4 &&& 3689348814741910323) + (x &&& 3689348814741910323) = sumf 2 16 x := h
  omega
theorem third_step (x : Nat) (hx : x < 18446744073709551616) (hd : dle 4 4 16 x) : bits .and .u64 (IntKind.u64.wrap ((x : Int) / 16 + (x : Int))) 1085102592571150095 = ((sumf 4 8 x : Nat) : Int) := by
  have hm : mask 4 8 = 1085102592571150095 := by decide +kernel
  have h := third 8 x hd
  rw [hm] at h
  have hx15 : x / 1152921504606846976 ≤ 4 := by
    have : x / 2 ^ 4 / 2 ^ 4 / 2 ^ 4 / 2 ^ 4 / 2 ^ 4 / 2 ^ 4 / 2 ^ 4 / 2 ^ 4 / 2 ^ 4 / 2 ^ 4 / 2 ^ 4 / 2 ^ 4 / 2 ^ 4 / 2 ^ 4 / 2 ^ 4 % 2 ^ 4 ≤ 4 := by
      simp only [dle] at hd
      obtain ⟨_, _, _, _, _, _, _, _, _, _, _, _, _, _, _, h, _⟩ := hd
      exact h
    omega
  have e3 : IntKind.u64.wrap ((x : Int) / 16 + (x : Int)) = ((x / 16 + x : Nat) : Int) := by rw [IntKind.wrap_u64]; omega
  have e1 := u64_and_nat (x / 16 + x) 1085102592571150095 (by omega) (by decide)
  rw [e3]
  rw [h] at e1
  exact e1

/-- bits.OnesCount64, every x: the sum of its bits. -/
theorem ones_any (x : Nat) (hx : x < 18446744073709551616) (w : World) :
    Calls Tryd.prog 22 #[.int .u64 x] w fun e w' => e = .returned (.int .i64 (ds 1 64 x : Nat)) ∧ w = w' := by
  have d1 := sumf_dle 1 1 (by decide) 32 x (bits_dle 64 x)
  have l1 := sumf_lt 1 (by decide) 32 x
  have s1 := sumf_ds 1 (by decide) 32 x
  have f1 := first_step x hx
  have f2 := second_step (sumf 1 32 x) l1
  have d2 := sumf_dle 2 2 (by decide) 16 (sumf 1 32 x) d1
  have l2 := sumf_lt 2 (by decide) 16 (sumf 1 32 x)
  have s2 := sumf_ds 2 (by decide) 16 (sumf 1 32 x)
  have f3 := third_step (sumf 2 16 (sumf 1 32 x)) l2 d2
  have d3 := sumf_dle 4 4 (by decide) 8 (sumf 2 16 (sumf 1 32 x)) d2
  have l3 := sumf_lt 4 (by decide) 8 (sumf 2 16 (sumf 1 32 x))
  have s3 := sumf_ds 4 (by decide) 8 (sumf 2 16 (sumf 1 32 x))
  have f4 := fourth _ l3 d3
  have F1 := Lib.hid f1
  have F2 := Lib.hid f2
  have F3 := Lib.hid f3
  have F4 := Lib.hid f4
  have S : Hid (ds 8 8 (sumf 4 8 (sumf 2 16 (sumf 1 32 x))) = ds 1 64 x) := s3.trans (s2.trans s1)
  clear d1 l1 s1 f1 f2 d2 l2 s2 f3 d3 l3 s3 f4
  go_enter Tryd.func22, Tryd.ntmps22
  go_wp2
  go_ret
  refine ⟨?_, rfl⟩
  refine congrArg (fun v => Ending.returned (.int .i64 v)) ?_
  rw [F1.out, F2.out, F3.out, i64_and127, F4.out, S.out]
end Go.Proofs.YtkmdgdjdkkmjcaaDoor
