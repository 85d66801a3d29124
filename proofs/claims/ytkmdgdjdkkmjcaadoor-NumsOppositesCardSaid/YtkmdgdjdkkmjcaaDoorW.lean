/- The reference's Unary where it counts. -/
import Derived.Test.YtkmdgdjdkkmjcaaDoorV
namespace Go.Proofs.YtkmdgdjdkkmjcaaDoor
open Go.RowKit
set_option linter.unusedVariables false

set_option maxRecDepth 100000 in
set_option maxHeartbeats 1000000 in
theorem ulz_127 (a x : Nat) (w : World) (hx : (a : Int) % 4294967296 = (x : Int)) (x2 : x < 4294967296) (a2 : a < 18446744073709551616) :
    Calls Tryd.prog 6 #[.int .i64 103, .int .u64 (a : Nat)] w fun e w' => e = .returned (.tuple #[.int .u64 (32 - Lib.bitLen x : Nat), .bool true]) ∧ w = w' := by
  have HF : ∀ w, Hid (Calls Tryd.prog 13 #[.int .i64 103] w fun e w' => e = .returned (.tuple #[.int .i64 1, .int .i64 127, .int .i64 127]) ∧ w = w') := fun w => Lib.hid (rsig_any 103 1 0 127 w ⟨by omega⟩ (by decide) (by decide))
  have x3 : x < 18446744073709551616 := by omega
  go_enter Tryd.func6, Tryd.ntmps6
  go_wp2_with fail
  refine (HF _).out.mono ?_
  rintro e w' ⟨rfl, rfl⟩
  go_wp2_with fail
  go_loop [10] (fun i => ∃ k : Nat, k ≤ 32 ∧ i = .int .i64 k ∧ Hid (x < 2 ^ (32 - k))) (fun i => 32 - (intOf i).toNat)
  case atStart => exact ⟨0, Nat.zero_le _, rfl, Lib.hid x2⟩
  case round =>
    obtain ⟨k, hk, rfl, hl⟩ := hrel
    clear hx
    by_cases hlt : k < 32
    · have HB := fun w => Lib.hid (bit_any x (32 - 1 - k) (31 - (k : Int)) w (by omega) x3 (by omega))
      have L1 := Lib.hid (lz_found 32 k x (by decide) hlt hl.out)
      have L2 := Lib.hid (lz_step 32 k x hlt hl.out)
      obtain ⟨B, hB⟩ : ∃ B, bt1 x (32 - 1 - k) = B := ⟨_, rfl⟩
      rw [hB] at HB
      have H3 := Lib.hid hB
      clear hB
      cases B
      · go_wp2_with fail
        refine (HB _).out.mono ?_
        rintro e w' ⟨rfl, rfl⟩
        go_wp2
        go_round
        case rel => exact ⟨k + 1, by omega, by simp, Lib.hid (L2.out H3.out)⟩
        case measure => simp [intOf]; omega
      · go_wp2_with fail
        refine (HB _).out.mono ?_
        rintro e w' ⟨rfl, rfl⟩
        go_wp2
        go_ret2
        exact ⟨by rw [L1.out H3.out]; rfl, rfl⟩
    · obtain rfl : k = 32 := by omega
      have L0 := Lib.hid (lz_none 32 x hl.out)
      go_wp2
      go_ret2
      exact ⟨by rw [L0.out]; rfl, rfl⟩

set_option maxRecDepth 100000 in
set_option maxHeartbeats 1000000 in
theorem ulz_126 (x : Nat) (w : World) (x2 : x < 18446744073709551616) :
    Calls Tryd.prog 6 #[.int .i64 121, .int .u64 (x : Nat)] w fun e w' => e = .returned (.tuple #[.int .u64 (64 - Lib.bitLen x : Nat), .bool true]) ∧ w = w' := by
  have HF : ∀ w, Hid (Calls Tryd.prog 13 #[.int .i64 121] w fun e w' => e = .returned (.tuple #[.int .i64 1, .int .i64 126, .int .i64 126]) ∧ w = w') := fun w => Lib.hid (rsig_any 121 1 0 126 w ⟨by omega⟩ (by decide) (by decide))
  have x3 : x < 18446744073709551616 := by omega
  go_enter Tryd.func6, Tryd.ntmps6
  go_wp2_with fail
  refine (HF _).out.mono ?_
  rintro e w' ⟨rfl, rfl⟩
  go_wp2_with fail
  go_loop [10] (fun i => ∃ k : Nat, k ≤ 64 ∧ i = .int .i64 k ∧ Hid (x < 2 ^ (64 - k))) (fun i => 64 - (intOf i).toNat)
  case atStart => exact ⟨0, Nat.zero_le _, rfl, Lib.hid x2⟩
  case round =>
    obtain ⟨k, hk, rfl, hl⟩ := hrel
    by_cases hlt : k < 64
    · have HB := fun w => Lib.hid (bit_any x (64 - 1 - k) (63 - (k : Int)) w (by omega) x3 (by omega))
      have L1 := Lib.hid (lz_found 64 k x (by decide) hlt hl.out)
      have L2 := Lib.hid (lz_step 64 k x hlt hl.out)
      obtain ⟨B, hB⟩ : ∃ B, bt1 x (64 - 1 - k) = B := ⟨_, rfl⟩
      rw [hB] at HB
      have H3 := Lib.hid hB
      clear hB
      cases B
      · go_wp2_with fail
        refine (HB _).out.mono ?_
        rintro e w' ⟨rfl, rfl⟩
        go_wp2
        go_round
        case rel => exact ⟨k + 1, by omega, by simp, Lib.hid (L2.out H3.out)⟩
        case measure => simp [intOf]; omega
      · go_wp2_with fail
        refine (HB _).out.mono ?_
        rintro e w' ⟨rfl, rfl⟩
        go_wp2
        go_ret2
        exact ⟨by rw [L1.out H3.out]; rfl, rfl⟩
    · obtain rfl : k = 64 := by omega
      have L0 := Lib.hid (lz_none 64 x hl.out)
      go_wp2
      go_ret2
      exact ⟨by rw [L0.out]; rfl, rfl⟩

end Go.Proofs.YtkmdgdjdkkmjcaaDoor
