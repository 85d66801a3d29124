/- The reference's Unary at ones. -/
import Derived.Test.YtkmdgdjdkkmjcaaDoorV
namespace Go.Proofs.YtkmdgdjdkkmjcaaDoor
open Go.RowKit
set_option linter.unusedVariables false

theorem bt_one {x k : Nat} (h : bt1 x k = true) : x / 2 ^ k % 2 = 1 := by unfold bt1 at h; simpa using h
theorem bt_nil {x k : Nat} (h : bt1 x k = false) : x / 2 ^ k % 2 = 0 := by
  unfold bt1 at h
  have : x / 2 ^ k % 2 ≠ 1 := by simpa using h
  omega
theorem ds_nil (x : Nat) : ds 1 0 x = 0 := rfl
attribute [local irreducible] ds

set_option maxRecDepth 100000 in
set_option maxHeartbeats 1000000 in
theorem upc_127 (a x : Nat) (w : World) (hx : (a : Int) % 4294967296 = (x : Int)) (x2 : x < 4294967296) (a2 : a < 18446744073709551616) :
    Calls Tryd.prog 6 #[.int .i64 105, .int .u64 (a : Nat)] w fun e w' => e = .returned (.tuple #[.int .u64 (ds 1 64 x : Nat), .bool true]) ∧ w = w' := by
  have HF : ∀ w, Hid (Calls Tryd.prog 13 #[.int .i64 105] w fun e w' => e = .returned (.tuple #[.int .i64 1, .int .i64 127, .int .i64 127]) ∧ w = w') := fun w => Lib.hid (rsig_any 105 1 2 127 w ⟨by omega⟩ (by decide) (by decide))
  have x3 : x < 18446744073709551616 := by omega
  obtain ⟨F, hF⟩ : ∃ F, ds 1 64 x = F := ⟨_, rfl⟩
  have hfin : Hid (F = ds 1 32 x) := Lib.hid (hF.symm.trans (ds_more 32 32 x x2))
  rw [hF]
  clear hF
  go_enter Tryd.func6, Tryd.ntmps6
  go_wp2_with fail
  refine (HF _).out.mono ?_
  rintro e w' ⟨rfl, rfl⟩
  go_wp2_with fail
  go_loop [12, 13] (fun v i => ∃ k : Nat, k ≤ 32 ∧ i = .int .i64 k ∧ v = .int .i64 (ds 1 k x : Nat)) (fun _ i => 32 - (intOf i).toNat)
  case atStart => exact ⟨0, Nat.zero_le _, rfl, by rw [ds_nil]; rfl⟩
  case round =>
    obtain ⟨k, hk, rfl, rfl⟩ := hrel
    have hd1 := ds_le k x
    clear hx
    by_cases hlt : k < 32
    · have HB := fun w => Lib.hid (bit_any x k (k : Int) w rfl x3 (by omega))
      have L2 := Lib.hid (ds_snoc k x)
      obtain ⟨B, hB⟩ : ∃ B, bt1 x k = B := ⟨_, rfl⟩
      rw [hB] at HB
      have H3 := Lib.hid hB
      clear hB
      generalize ds 1 k x = D at *
      cases B
      · go_wp2_with fail
        refine (HB _).out.mono ?_
        rintro e w' ⟨rfl, rfl⟩
        go_wp2
        go_round
        case rel => exact ⟨k + 1, by omega, by simp, by rw [L2.out, bt_nil H3.out]; rfl⟩
        case measure => simp [intOf]; omega
      · go_wp2_with fail
        refine (HB _).out.mono ?_
        rintro e w' ⟨rfl, rfl⟩
        go_wp2
        go_round
        case rel => exact ⟨k + 1, by omega, by simp, by rw [L2.out, bt_one H3.out]; rfl⟩
        case measure => simp [intOf]; omega
    · obtain rfl : k = 32 := by omega
      go_wp2
      go_ret2
      exact ⟨by rw [hfin.out]; rfl, rfl⟩

set_option maxRecDepth 100000 in
set_option maxHeartbeats 1000000 in
theorem upc_126 (x : Nat) (w : World) (x2 : x < 18446744073709551616) :
    Calls Tryd.prog 6 #[.int .i64 123, .int .u64 (x : Nat)] w fun e w' => e = .returned (.tuple #[.int .u64 (ds 1 64 x : Nat), .bool true]) ∧ w = w' := by
  have HF : ∀ w, Hid (Calls Tryd.prog 13 #[.int .i64 123] w fun e w' => e = .returned (.tuple #[.int .i64 1, .int .i64 126, .int .i64 126]) ∧ w = w') := fun w => Lib.hid (rsig_any 123 1 2 126 w ⟨by omega⟩ (by decide) (by decide))
  have x3 : x < 18446744073709551616 := by omega
  obtain ⟨F, hF⟩ : ∃ F, ds 1 64 x = F := ⟨_, rfl⟩
  have hfin : Hid (F = ds 1 64 x) := Lib.hid (hF.symm.trans (ds_more 64 0 x x2))
  rw [hF]
  clear hF
  go_enter Tryd.func6, Tryd.ntmps6
  go_wp2_with fail
  refine (HF _).out.mono ?_
  rintro e w' ⟨rfl, rfl⟩
  go_wp2_with fail
  go_loop [12, 13] (fun v i => ∃ k : Nat, k ≤ 64 ∧ i = .int .i64 k ∧ v = .int .i64 (ds 1 k x : Nat)) (fun _ i => 64 - (intOf i).toNat)
  case atStart => exact ⟨0, Nat.zero_le _, rfl, by rw [ds_nil]; rfl⟩
  case round =>
    obtain ⟨k, hk, rfl, rfl⟩ := hrel
    have hd1 := ds_le k x
    by_cases hlt : k < 64
    · have HB := fun w => Lib.hid (bit_any x k (k : Int) w rfl x3 (by omega))
      have L2 := Lib.hid (ds_snoc k x)
      obtain ⟨B, hB⟩ : ∃ B, bt1 x k = B := ⟨_, rfl⟩
      rw [hB] at HB
      have H3 := Lib.hid hB
      clear hB
      generalize ds 1 k x = D at *
      cases B
      · go_wp2_with fail
        refine (HB _).out.mono ?_
        rintro e w' ⟨rfl, rfl⟩
        go_wp2
        go_round
        case rel => exact ⟨k + 1, by omega, by simp, by rw [L2.out, bt_nil H3.out]; rfl⟩
        case measure => simp [intOf]; omega
      · go_wp2_with fail
        refine (HB _).out.mono ?_
        rintro e w' ⟨rfl, rfl⟩
        go_wp2
        go_round
        case rel => exact ⟨k + 1, by omega, by simp, by rw [L2.out, bt_one H3.out]; rfl⟩
        case measure => simp [intOf]; omega
    · obtain rfl : k = 64 := by omega
      go_wp2
      go_ret2
      exact ⟨by rw [hfin.out]; rfl, rfl⟩

end Go.Proofs.YtkmdgdjdkkmjcaaDoor
