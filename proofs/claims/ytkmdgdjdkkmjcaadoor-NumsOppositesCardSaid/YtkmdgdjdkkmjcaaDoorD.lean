/- Contracts of the instructions of two numbers: the others of the table. -/
import Derived.Test.YtkmdgdjdkkmjcaaDoorC
import Derived.Laws.BitsAllLaws
namespace Go.Proofs.YtkmdgdjdkkmjcaaDoor
open Go.RowKit
set_option linter.unusedVariables false

theorem udiv_any (a b t : Int) (w : World) (h1 : 0 ≤ a) (h2 : a ≤ 18446744073709551615) (h3 : 0 ≤ b) (h4 : b ≤ 18446744073709551615) :
    Calls Tryd.prog 26 #[.int .u64 a, .int .u64 b, .int .i64 t] w fun e w' => e = .returned (.tuple #[.int .u64 (if b = 0 then 0 else a / b), .int .i64 (if b = 0 then 2 else 0)]) ∧ w = w' := by
  by_cases hz : b = 0
  · subst hz
    rw [if_pos rfl, if_pos rfl]
    go_enter Tryd.func26, Tryd.ntmps26
    go_wp2
    go_ret2
    exact ⟨rfl, rfl⟩
  · have hp : 1 ≤ b := by omega
    rw [if_neg hz, if_neg hz]
    go_enter Tryd.func26, Tryd.ntmps26
    go_wp2
    go_ret2
    exact ⟨rfl, rfl⟩

theorem urem_any (a b t : Int) (w : World) (h1 : 0 ≤ a) (h2 : a ≤ 18446744073709551615) (h3 : 0 ≤ b) (h4 : b ≤ 18446744073709551615) :
    Calls Tryd.prog 28 #[.int .u64 a, .int .u64 b, .int .i64 t] w fun e w' => e = .returned (.tuple #[.int .u64 (if b = 0 then 0 else a % b), .int .i64 (if b = 0 then 2 else 0)]) ∧ w = w' := by
  by_cases hz : b = 0
  · subst hz
    rw [if_pos rfl, if_pos rfl]
    go_enter Tryd.func28, Tryd.ntmps28
    go_wp2
    go_ret2
    exact ⟨rfl, rfl⟩
  · have hp : 1 ≤ b := by omega
    rw [if_neg hz, if_neg hz]
    go_enter Tryd.func28, Tryd.ntmps28
    go_wp2
    go_ret2
    exact ⟨rfl, rfl⟩

def rstV (t a b : Int) : Int := if sg t b = 0 ∨ sg t b = -1 then 0 else IntKind.u64.wrap ((sg t a).tmod (sg t b))
def rstT (t b : Int) : Int := if sg t b = 0 then 2 else 0
theorem rest_any (a b t : Int) (w : World) (h1 : 0 ≤ a) (h2 : a ≤ 18446744073709551615) (h3 : 0 ≤ b) (h4 : b ≤ 18446744073709551615) :
    Calls Tryd.prog 27 #[.int .u64 a, .int .u64 b, .int .i64 t] w fun e w' => e = .returned (.tuple #[.int .u64 (rstV t a b), .int .i64 (rstT t b)]) ∧ w = w' := by
  have hs := sg_bd t a
  have hr := sg_bd t b
  unfold rstV rstT
  have HSA := Lib.hid (signed_any a t w h1 h2)
  have HSB := Lib.hid (signed_any b t w h3 h4)
  generalize sg t a = s at *
  generalize sg t b = r at *
  by_cases hz : r = 0
  · subst hz
    rw [if_pos (.inl rfl), if_pos rfl]
    go_enter Tryd.func27, Tryd.ntmps27
    go_wp2_with fail
    refine HSA.out.mono ?_
    rintro e w' ⟨rfl, rfl⟩
    go_wp2_with fail
    refine HSB.out.mono ?_
    rintro e w' ⟨rfl, rfl⟩
    go_wp2
    go_ret2
    exact ⟨rfl, rfl⟩
  · have hz' : (r == 0) = false := by simp [hz]
    by_cases hm : r = -1
    · subst hm
      rw [if_pos (.inr rfl), if_neg (by omega)]
      go_enter Tryd.func27, Tryd.ntmps27
      go_wp2_with fail
      refine HSA.out.mono ?_
      rintro e w' ⟨rfl, rfl⟩
      go_wp2_with fail
      refine HSB.out.mono ?_
      rintro e w' ⟨rfl, rfl⟩
      go_wp2
      go_ret2
      exact ⟨rfl, rfl⟩
    · have hm' : (r == -1) = false := by simp [hm]
      rw [if_neg (by omega), if_neg hz]
      go_enter Tryd.func27, Tryd.ntmps27
      go_wp2_with fail
      refine HSA.out.mono ?_
      rintro e w' ⟨rfl, rfl⟩
      go_wp2_with fail
      refine HSB.out.mono ?_
      rintro e w' ⟨rfl, rfl⟩
      go_wp2
      go_ret2
      exact ⟨rfl, rfl⟩

/-- Turned left within W bits. -/
def rot (W x r : Nat) : Nat := (x * 2 ^ r % 2 ^ W) ||| (x / 2 ^ (W - r))
theorem rot_lt (W x r : Nat) (h : x < 2 ^ W) : rot W x r < 2 ^ W := Nat.or_lt_two_pow (Nat.mod_lt _ (Nat.two_pow_pos W)) (Nat.lt_of_le_of_lt (Nat.div_le_self _ _) h)

theorem rot32_any (x s r : Nat) (k : Int) (w : World) (h : x < 4294967296) (hk : IntKind.u64.wrap k = (s : Int)) (hs2 : s < 18446744073709551616) (hr : s % 32 = r) :
    Calls Tryd.prog 38 #[.int .u32 x, .int .i64 k] w fun e w' => e = .returned (.int .u32 (rot 32 x r : Nat)) ∧ w = w' := by
  have hr2 : r ≤ 31 := by omega
  have hs : bits .and .u64 (s : Int) 31 = (r : Int) := by
    have := u64_and_nat s 31 hs2 (by omega)
    rw [nat_mask5, hr] at this
    exact this
  have hfin : bits .or .u32 ((x : Int) * 2 ^ r % 4294967296) ((x : Int) / 2 ^ (32 - r)) = (rot 32 x r : Nat) := by
    have e1 : (x : Int) * 2 ^ r % 4294967296 = ((x * 2 ^ r % 2 ^ 32 : Nat) : Int) := by
      have e0 : (x : Int) * 2 ^ r = ((x * 2 ^ r : Nat) : Int) := by push_cast; rfl
      rw [e0]; omega
    have e2 : (x : Int) / 2 ^ (32 - r) = ((x / 2 ^ (32 - r) : Nat) : Int) := by
      have e0 : (2 : Int) ^ (32 - r) = ((2 ^ (32 - r) : Nat) : Int) := by push_cast; rfl
      rw [e0]; rfl
    rw [e1, e2, u32_or_nat _ _ (by omega) (Nat.lt_of_le_of_lt (Nat.div_le_self _ _) h)]
    rfl
  have HF := Lib.hid hfin
  have HR := Lib.hid hr
  clear hfin hr
  go_enter Tryd.func38, Tryd.ntmps38
  go_wp2
  go_ret
  refine ⟨?_, rfl⟩
  rw [← HF.out]
  first | rfl | (simp)

theorem rot64_any (x s r : Nat) (k : Int) (w : World) (h : x < 18446744073709551616) (hk : IntKind.u64.wrap k = (s : Int)) (hs2 : s < 18446744073709551616) (hr : s % 64 = r) :
    Calls Tryd.prog 39 #[.int .u64 x, .int .i64 k] w fun e w' => e = .returned (.int .u64 (rot 64 x r : Nat)) ∧ w = w' := by
  have hr2 : r ≤ 63 := by omega
  have hs : bits .and .u64 (s : Int) 63 = (r : Int) := by
    have := u64_and_nat s 63 hs2 (by omega)
    rw [nat_mask6, hr] at this
    exact this
  have hfin : bits .or .u64 ((x : Int) * 2 ^ r % 18446744073709551616) ((x : Int) / 2 ^ (64 - r)) = (rot 64 x r : Nat) := by
    have e1 : (x : Int) * 2 ^ r % 18446744073709551616 = ((x * 2 ^ r % 2 ^ 64 : Nat) : Int) := by
      have e0 : (x : Int) * 2 ^ r = ((x * 2 ^ r : Nat) : Int) := by push_cast; rfl
      rw [e0]; omega
    have e2 : (x : Int) / 2 ^ (64 - r) = ((x / 2 ^ (64 - r) : Nat) : Int) := by
      have e0 : (2 : Int) ^ (64 - r) = ((2 ^ (64 - r) : Nat) : Int) := by push_cast; rfl
      rw [e0]; rfl
    rw [e1, e2, u64_or_nat _ _ (by omega) (Nat.lt_of_le_of_lt (Nat.div_le_self _ _) h)]
    rfl
  have HF := Lib.hid hfin
  have HR := Lib.hid hr
  clear hfin hr
  go_enter Tryd.func39, Tryd.ntmps39
  go_wp2
  go_ret
  refine ⟨?_, rfl⟩
  rw [← HF.out]
  first | rfl | (simp)

theorem shl127 (a b : Nat) (w : World) (h2 : a < 18446744073709551616) (h4 : b < 18446744073709551616) :
    Calls Tryd.prog 29 #[.int .u64 a, .int .u64 b, .int .i64 127] w fun e w' => e = .returned (.tuple #[.int .u64 (IntKind.u64.wrap ((a : Int) * 2 ^ (b % 32))), .int .i64 0]) ∧ w = w' := by
  go_enter Tryd.func29, Tryd.ntmps29
  go_wp2_with (first | (go_at_call 20; refine (width_any _ _).mono ?_; rintro e w' ⟨rfl, rfl⟩))
  go_ret2
  exact ⟨rfl, rfl⟩

theorem shl126 (a b : Nat) (w : World) (h2 : a < 18446744073709551616) (h4 : b < 18446744073709551616) :
    Calls Tryd.prog 29 #[.int .u64 a, .int .u64 b, .int .i64 126] w fun e w' => e = .returned (.tuple #[.int .u64 (IntKind.u64.wrap ((a : Int) * 2 ^ (b % 64))), .int .i64 0]) ∧ w = w' := by
  go_enter Tryd.func29, Tryd.ntmps29
  go_wp2_with (first | (go_at_call 20; refine (width_any _ _).mono ?_; rintro e w' ⟨rfl, rfl⟩))
  go_ret2
  exact ⟨rfl, rfl⟩

theorem sar127 (a b : Nat) (w : World) (h2 : a < 18446744073709551616) (h4 : b < 18446744073709551616) :
    Calls Tryd.prog 30 #[.int .u64 a, .int .u64 b, .int .i64 127] w fun e w' => e = .returned (.tuple #[.int .u64 (IntKind.u64.wrap (sg 127 a / 2 ^ (b % 32))), .int .i64 0]) ∧ w = w' := by
  go_enter Tryd.func30, Tryd.ntmps30
  go_wp2_with (first | (go_at_call 20; refine (width_any _ _).mono ?_; rintro e w' ⟨rfl, rfl⟩) | (go_at_call 15; refine (signed_any _ _ _ (by omega) (by omega)).mono ?_; rintro e w' ⟨rfl, rfl⟩))
  go_ret2
  exact ⟨rfl, rfl⟩

theorem sar126 (a b : Nat) (w : World) (h2 : a < 18446744073709551616) (h4 : b < 18446744073709551616) :
    Calls Tryd.prog 30 #[.int .u64 a, .int .u64 b, .int .i64 126] w fun e w' => e = .returned (.tuple #[.int .u64 (IntKind.u64.wrap (sg 126 a / 2 ^ (b % 64))), .int .i64 0]) ∧ w = w' := by
  go_enter Tryd.func30, Tryd.ntmps30
  go_wp2_with (first | (go_at_call 20; refine (width_any _ _).mono ?_; rintro e w' ⟨rfl, rfl⟩) | (go_at_call 15; refine (signed_any _ _ _ (by omega) (by omega)).mono ?_; rintro e w' ⟨rfl, rfl⟩))
  go_ret2
  exact ⟨rfl, rfl⟩

theorem shr127 (a b : Nat) (w : World) (h2 : a < 18446744073709551616) (h4 : b < 18446744073709551616) :
    Calls Tryd.prog 31 #[.int .u64 a, .int .u64 b, .int .i64 127] w fun e w' => e = .returned (.tuple #[.int .u64 ((a : Int) / 2 ^ (b % 32)), .int .i64 0]) ∧ w = w' := by
  go_enter Tryd.func31, Tryd.ntmps31
  go_wp2_with (first | (go_at_call 20; refine (width_any _ _).mono ?_; rintro e w' ⟨rfl, rfl⟩))
  go_ret2
  exact ⟨rfl, rfl⟩

theorem shr126 (a b : Nat) (w : World) (h2 : a < 18446744073709551616) (h4 : b < 18446744073709551616) :
    Calls Tryd.prog 31 #[.int .u64 a, .int .u64 b, .int .i64 126] w fun e w' => e = .returned (.tuple #[.int .u64 ((a : Int) / 2 ^ (b % 64)), .int .i64 0]) ∧ w = w' := by
  go_enter Tryd.func31, Tryd.ntmps31
  go_wp2_with (first | (go_at_call 20; refine (width_any _ _).mono ?_; rintro e w' ⟨rfl, rfl⟩))
  go_ret2
  exact ⟨rfl, rfl⟩

theorem turned127 (x s r : Nat) (k : Int) (w : World) (h : x < 4294967296) (hk : IntKind.u64.wrap k = (s : Int)) (hs2 : s < 18446744073709551616) (hr : s % 32 = r) :
    Calls Tryd.prog 33 #[.int .u64 x, .int .i64 k, .int .i64 127] w fun e w' => e = .returned (.int .u64 (rot 32 x r : Nat)) ∧ w = w' := by
  have hlt := rot_lt 32 x r h
  have HK := Lib.hid hk
  clear hk
  go_enter Tryd.func33, Tryd.ntmps33
  go_wp2_with (first | (go_at_call 38; refine (rot32_any x s r _ _ h HK.out hs2 hr).mono ?_; rintro e w' ⟨rfl, rfl⟩))
  go_ret
  exact ⟨rfl, rfl⟩

theorem turned126 (x s r : Nat) (k : Int) (w : World) (h : x < 18446744073709551616) (hk : IntKind.u64.wrap k = (s : Int)) (hs2 : s < 18446744073709551616) (hr : s % 64 = r) :
    Calls Tryd.prog 33 #[.int .u64 x, .int .i64 k, .int .i64 126] w fun e w' => e = .returned (.int .u64 (rot 64 x r : Nat)) ∧ w = w' := by
  have HK := Lib.hid hk
  clear hk
  go_enter Tryd.func33, Tryd.ntmps33
  go_wp2_with (first | (go_at_call 39; refine (rot64_any x s r _ _ h HK.out hs2 hr).mono ?_; rintro e w' ⟨rfl, rfl⟩))
  go_ret
  exact ⟨rfl, rfl⟩

theorem rotl127 (a b : Nat) (w : World) (h2 : a < 4294967296) (h4 : b < 18446744073709551616) :
    Calls Tryd.prog 32 #[.int .u64 a, .int .u64 b, .int .i64 127] w fun e w' => e = .returned (.tuple #[.int .u64 (rot 32 a (b % 32) : Nat), .int .i64 0]) ∧ w = w' := by
  have hk : IntKind.u64.wrap ((b : Int) % 64) = ((b % 64 : Nat) : Int) := by rw [IntKind.wrap_u64]; omega
  have HK := Lib.hid hk
  clear hk
  go_enter Tryd.func32, Tryd.ntmps32
  go_wp2_with (first | (go_at_call 33; refine (turned127 a (b % 64) (b % 32) _ _ h2 HK.out (by omega) (by omega)).mono ?_; rintro e w' ⟨rfl, rfl⟩))
  go_ret2
  exact ⟨rfl, rfl⟩

theorem rotr127 (a b : Nat) (w : World) (h2 : a < 4294967296) (h4 : b < 18446744073709551616) :
    Calls Tryd.prog 34 #[.int .u64 a, .int .u64 b, .int .i64 127] w fun e w' => e = .returned (.tuple #[.int .u64 (rot 32 a ((32 - b % 32) % 32) : Nat), .int .i64 0]) ∧ w = w' := by
  have hk : IntKind.u64.wrap (-((b : Int) % 64)) = (((18446744073709551616 - b % 64) % 18446744073709551616 : Nat) : Int) := by rw [IntKind.wrap_u64]; omega
  have HK := Lib.hid hk
  clear hk
  go_enter Tryd.func34, Tryd.ntmps34
  go_wp2_with (first | (go_at_call 33; refine (turned127 a ((18446744073709551616 - b % 64) % 18446744073709551616) ((32 - b % 32) % 32) _ _ h2 HK.out (by omega) (by omega)).mono ?_; rintro e w' ⟨rfl, rfl⟩))
  go_ret2
  exact ⟨rfl, rfl⟩

theorem rotl126 (a b : Nat) (w : World) (h2 : a < 18446744073709551616) (h4 : b < 18446744073709551616) :
    Calls Tryd.prog 32 #[.int .u64 a, .int .u64 b, .int .i64 126] w fun e w' => e = .returned (.tuple #[.int .u64 (rot 64 a (b % 64) : Nat), .int .i64 0]) ∧ w = w' := by
  have hk : IntKind.u64.wrap ((b : Int) % 64) = ((b % 64 : Nat) : Int) := by rw [IntKind.wrap_u64]; omega
  have HK := Lib.hid hk
  clear hk
  go_enter Tryd.func32, Tryd.ntmps32
  go_wp2_with (first | (go_at_call 33; refine (turned126 a (b % 64) (b % 64) _ _ h2 HK.out (by omega) (by omega)).mono ?_; rintro e w' ⟨rfl, rfl⟩))
  go_ret2
  exact ⟨rfl, rfl⟩

theorem rotr126 (a b : Nat) (w : World) (h2 : a < 18446744073709551616) (h4 : b < 18446744073709551616) :
    Calls Tryd.prog 34 #[.int .u64 a, .int .u64 b, .int .i64 126] w fun e w' => e = .returned (.tuple #[.int .u64 (rot 64 a ((64 - b % 64) % 64) : Nat), .int .i64 0]) ∧ w = w' := by
  have hk : IntKind.u64.wrap (-((b : Int) % 64)) = (((18446744073709551616 - b % 64) % 18446744073709551616 : Nat) : Int) := by rw [IntKind.wrap_u64]; omega
  have HK := Lib.hid hk
  clear hk
  go_enter Tryd.func34, Tryd.ntmps34
  go_wp2_with (first | (go_at_call 33; refine (turned126 a ((18446744073709551616 - b % 64) % 18446744073709551616) ((64 - b % 64) % 64) _ _ h2 HK.out (by omega) (by omega)).mono ?_; rintro e w' ⟨rfl, rfl⟩))
  go_ret2
  exact ⟨rfl, rfl⟩
end Go.Proofs.YtkmdgdjdkkmjcaaDoor
