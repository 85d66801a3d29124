/- The reference's Unary at trailing zeros and ones. -/
import Derived.Test.YtkmdgdjdkkmjcaaDoorV
namespace Go.Proofs.YtkmdgdjdkkmjcaaDoor
open Go.RowKit
set_option linter.unusedVariables false

set_option maxRecDepth 100000 in
set_option maxHeartbeats 1000000 in
theorem utz_127 (a x : Nat) (w : World) (hx : (a : Int) % 4294967296 = (x : Int)) (x2 : x < 4294967296) (a2 : a < 18446744073709551616) :
    Calls Tryd.prog 6 #[.int .i64 104, .int .u64 (a : Nat)] w fun e w' => e = .returned (.tuple #[.int .u64 (min (Lib.ctz 64 x) 32 : Nat), .bool true]) ∧ w = w' := by
  have HF : ∀ w, Hid (Calls Tryd.prog 13 #[.int .i64 104] w fun e w' => e = .returned (.tuple #[.int .i64 1, .int .i64 127, .int .i64 127]) ∧ w = w') := fun w => Lib.hid (rsig_any 104 1 1 127 w ⟨by omega⟩ (by decide) (by decide))
  have x3 : x < 18446744073709551616 := by omega
  go_enter Tryd.func6, Tryd.ntmps6
  go_wp2_with fail
  refine (HF _).out.mono ?_
  rintro e w' ⟨rfl, rfl⟩
  go_wp2_with fail
  go_loop [11] (fun i => ∃ k : Nat, k ≤ 32 ∧ i = .int .i64 k ∧ Hid (x % 2 ^ k = 0)) (fun i => 32 - (intOf i).toNat)
  case atStart => exact ⟨0, Nat.zero_le _, rfl, Lib.hid (Nat.mod_one x)⟩
  case round =>
    obtain ⟨k, hk, rfl, hl⟩ := hrel
    clear hx
    by_cases hlt : k < 32
    · have HB := fun w => Lib.hid (bit_any x k (k : Int) w rfl x3 (by omega))
      have L1 := Lib.hid (tz_found 32 k x (by decide) hlt x2 hl.out)
      have L2 := Lib.hid (tz_step k x hl.out)
      obtain ⟨B, hB⟩ : ∃ B, bt1 x k = B := ⟨_, rfl⟩
      rw [hB] at HB
      have H3 := Lib.hid hB
      clear hB
      cases B
      · go_wp2_with fail
        refine (HB _).out.mono ?_
        rintro e w' ⟨rfl, rfl⟩
        go_wp2
        go_round
        case rel => exact ⟨k + 1, by omega, by simp, Lib.hid (L2.out H3.out)⟩
        case measure => simp [intOf]; omega
      · go_wp2_with fail
        refine (HB _).out.mono ?_
        rintro e w' ⟨rfl, rfl⟩
        go_wp2
        go_ret2
        exact ⟨by rw [L1.out H3.out]; rfl, rfl⟩
    · obtain rfl : k = 32 := by omega
      have L0 := Lib.hid (tz_none 32 x (by decide) x2 hl.out)
      go_wp2
      go_ret2
      exact ⟨by rw [L0.out]; rfl, rfl⟩

set_option maxRecDepth 100000 in
set_option maxHeartbeats 1000000 in
theorem utz_126 (x : Nat) (w : World) (x2 : x < 18446744073709551616) :
    Calls Tryd.prog 6 #[.int .i64 122, .int .u64 (x : Nat)] w fun e w' => e = .returned (.tuple #[.int .u64 (min (Lib.ctz 64 x) 64 : Nat), .bool true]) ∧ w = w' := by
  have HF : ∀ w, Hid (Calls Tryd.prog 13 #[.int .i64 122] w fun e w' => e = .returned (.tuple #[.int .i64 1, .int .i64 126, .int .i64 126]) ∧ w = w') := fun w => Lib.hid (rsig_any 122 1 1 126 w ⟨by omega⟩ (by decide) (by decide))
  have x3 : x < 18446744073709551616 := by omega
  go_enter Tryd.func6, Tryd.ntmps6
  go_wp2_with fail
  refine (HF _).out.mono ?_
  rintro e w' ⟨rfl, rfl⟩
  go_wp2_with fail
  go_loop [11] (fun i => ∃ k : Nat, k ≤ 64 ∧ i = .int .i64 k ∧ Hid (x % 2 ^ k = 0)) (fun i => 64 - (intOf i).toNat)
  case atStart => exact ⟨0, Nat.zero_le _, rfl, Lib.hid (Nat.mod_one x)⟩
  case round =>
    obtain ⟨k, hk, rfl, hl⟩ := hrel
    by_cases hlt : k < 64
    · have HB := fun w => Lib.hid (bit_any x k (k : Int) w rfl x3 (by omega))
      have L1 := Lib.hid (tz_found 64 k x (by decide) hlt x2 hl.out)
      have L2 := Lib.hid (tz_step k x hl.out)
      obtain ⟨B, hB⟩ : ∃ B, bt1 x k = B := ⟨_, rfl⟩
      rw [hB] at HB
      have H3 := Lib.hid hB
      clear hB
      cases B
      · go_wp2_with fail
        refine (HB _).out.mono ?_
        rintro e w' ⟨rfl, rfl⟩
        go_wp2
        go_round
        case rel => exact ⟨k + 1, by omega, by simp, Lib.hid (L2.out H3.out)⟩
        case measure => simp [intOf]; omega
      · go_wp2_with fail
        refine (HB _).out.mono ?_
        rintro e w' ⟨rfl, rfl⟩
        go_wp2
        go_ret2
        exact ⟨by rw [L1.out H3.out]; rfl, rfl⟩
    · obtain rfl : k = 64 := by omega
      have L0 := Lib.hid (tz_none 64 x (by decide) x2 hl.out)
      go_wp2
      go_ret2
      exact ⟨by rw [L0.out]; rfl, rfl⟩

end Go.Proofs.YtkmdgdjdkkmjcaaDoor
