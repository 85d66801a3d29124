/- Numbers in groups of seven bits, as they are read: plain. -/
import Derived.Test.YtkbfjkbokifgkaaDoorDp
import Derived.Laws.BitsAllLaws
namespace Go.Proofs.YtkbfjkbokifgkaaDoor
open Go.RowKit
set_option linter.unusedVariables false

/-- What the groups make. -/
def gv : List UInt8 → Nat
  | [] => 0
  | b :: r => b.toNat % 128 + 128 * gv r
theorem gv_lt : ∀ l : List UInt8, gv l < 2 ^ (7 * l.length)
  | [] => by simp [gv]
  | b :: r => by
    have h := gv_lt r
    have e : 2 ^ (7 * (b :: r).length) = 128 * 2 ^ (7 * r.length) := by
      rw [List.length_cons, Nat.mul_add, Nat.pow_add]
      omega
    rw [e]
    unfold gv
    omega
theorem gv_snoc : ∀ (l : List UInt8) (b : UInt8), gv (l ++ [b]) = gv l + 2 ^ (7 * l.length) * (b.toNat % 128)
  | [], b => by simp [gv]
  | c :: r, b => by
    have e : 2 ^ (7 * (c :: r).length) = 128 * 2 ^ (7 * r.length) := by
      rw [List.length_cons, Nat.mul_add, Nat.pow_add]
      omega
    rw [List.cons_append, gv, gv_snoc r b, gv, e, Nat.mul_add, Nat.mul_assoc]
    omega
theorem take_snoc2 {l : List UInt8} {j : Nat} {b : UInt8} (h : l[j]? = some b) : l.take (j + 1) = l.take j ++ [b] := by
  rw [List.take_add_one, h]
  rfl
/-- All that is known where j groups were read, each with one behind it. -/
theorem grp_at : ∀ (K : Nat) (l : List UInt8) (j : Nat), j ≤ K → (∀ i b, i < j → l[i]? = some b → 128 ≤ b.toNat) → j ≤ l.length →
    (j = K ∨ l.length = j → grp K l = none) ∧ (∀ b, j < K → l[j]? = some b → b.toNat < 128 → grp K l = some (gv (l.take (j + 1)), j + 1))
  | 0, l, j, hj, _, _ => by
    obtain rfl : j = 0 := by omega
    exact ⟨fun _ => rfl, fun b h => by omega⟩
  | K + 1, [], j, hj, _, hl => by
    obtain rfl : j = 0 := by simpa using hl
    exact ⟨fun _ => rfl, fun b _ h => by simp at h⟩
  | K + 1, c :: r, 0, hj, _, _ => by
    refine ⟨fun h => ?_, fun b _ h hb => ?_⟩
    · rcases h with h | h
      · omega
      · simp at h
    · simp only [List.getElem?_cons_zero, Option.some.injEq] at h
      subst h
      unfold grp
      rw [if_pos hb]
      simp [gv]
      omega
  | K + 1, c :: r, j + 1, hj, hall, hl => by
    have hc := hall 0 c (by omega) rfl
    have ih := grp_at K r j (by omega) (fun i b hi h => hall (i + 1) b (by omega) h) (by simpa using hl)
    unfold grp
    rw [if_neg (by omega)]
    refine ⟨fun h => ?_, fun b h1 h hb => ?_⟩
    · rw [ih.1 (by rcases h with h | h
                   · left; omega
                   · right; simpa using h)]
      rfl
    · rw [ih.2 b (by omega) (by simpa using h) hb]
      have := c.toNat_lt
      simp only [Option.map_some, List.take_succ_cons, gv, Option.some.injEq, Prod.mk.injEq, and_true]
      omega
theorem or_low {n x j : Nat} (h : n < 2 ^ j) : n ||| (x * 2 ^ j) = n + x * 2 ^ j := by
  rw [Nat.or_comm, Nat.mul_comm, ← Nat.two_pow_add_eq_or_of_lt h, Nat.add_comm]
/-- One group more. -/
theorem group_more {n x j : Nat} (hn : n < 2 ^ (7 * j)) (hx : x < 128) (hj : j ≤ 9) : (n % 18446744073709551616) ||| ((x * 2 ^ (7 * j)) % 18446744073709551616) = (n + x * 2 ^ (7 * j)) % 18446744073709551616 := by
  by_cases h9 : j = 9
  · subst h9
    have e : (2 : Nat) ^ (7 * 9) = 9223372036854775808 := by decide
    rw [e] at hn ⊢
    have h1 : n % 18446744073709551616 = n := Nat.mod_eq_of_lt (by omega)
    have h2 : x * 9223372036854775808 % 18446744073709551616 = (x % 2) * 2 ^ 63 := by
      have : (2 : Nat) ^ 63 = 9223372036854775808 := by decide
      omega
    have h3 : (2 : Nat) ^ 63 = 9223372036854775808 := by decide
    rw [h1, h2, or_low (by rw [h3]; exact hn), h3]
    omega
  · have hp : 2 ^ (7 * j) ≤ 2 ^ 56 := Nat.pow_le_pow_right (by decide) (by omega)
    have e : (2 : Nat) ^ 56 = 72057594037927936 := by decide
    rw [e] at hp
    have hm : x * 2 ^ (7 * j) ≤ 127 * 72057594037927936 := Nat.mul_le_mul (by omega) hp
    rw [Nat.mod_eq_of_lt (by omega : n < 18446744073709551616), Nat.mod_eq_of_lt (by omega : x * 2 ^ (7 * j) < 18446744073709551616), or_low hn, Nat.mod_eq_of_lt (by omega)]
/-- A number's sign, spread by moving it up and down. -/
theorem sgn_up {n c : Nat} (hc : 1 ≤ c) (h9 : c ≤ 9) (hn : n < 2 ^ (7 * c)) :
    (if (n * 2 ^ (64 - 7 * c)) % 18446744073709551616 < 9223372036854775808 then (((n * 2 ^ (64 - 7 * c)) % 18446744073709551616 : Nat) : Int) else (((n * 2 ^ (64 - 7 * c)) % 18446744073709551616 : Nat) : Int) - 18446744073709551616) / ((2 ^ (64 - 7 * c) : Nat) : Int) = sgn n c := by
  unfold sgn
  have : c = 1 ∨ c = 2 ∨ c = 3 ∨ c = 4 ∨ c = 5 ∨ c = 6 ∨ c = 7 ∨ c = 8 ∨ c = 9 := by omega
  rcases this with rfl | rfl | rfl | rfl | rfl | rfl | rfl | rfl | rfl <;> simp only [Nat.reduceMul, Nat.reduceSub, Nat.reducePow] at hn ⊢ <;> (repeat' split) <;> omega
end Go.Proofs.YtkbfjkbokifgkaaDoor
