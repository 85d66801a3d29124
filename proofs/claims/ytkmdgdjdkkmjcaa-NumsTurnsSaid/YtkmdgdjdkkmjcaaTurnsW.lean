/- The walk of NumsTurns, joined. -/
import Derived.Test.YtkmdgdjdkkmjcaaTurns
namespace Go.Proofs.Ytkmdgdjdkkmjcaa
open Go.ChangeShapes Go.WideShapes Go.ChangeAt Go.RowKit
set_option linter.unusedVariables false

set_option maxRecDepth 100000 in
set_option maxHeartbeats 1000000 in
theorem turns_127 (a b x : Nat) (w : World) (hx : (a : Int) % 4294967296 = (x : Int)) (x2 : x < 4294967296) (b2 : b < 18446744073709551616) :
    Calls Try.prog 4 #[.int .u64 (a : Nat), .int .u64 (b : Nat), .bool false] w fun e w' => e = .returned (.bool true) ∧ Below w.heap.size w w' := by
  have hM : bits .and .u64 (x : Int) (4294967295 / 2 ^ (b % 32)) = ((x % 2 ^ (32 - b % 32) : Nat) : Int) := by
    refine and_mask x 32 (b % 32) (by omega) (by decide) (Nat.le_of_lt (Nat.mod_lt _ (by decide))) _ ?_
    rw [← mask_div 32 (b % 32) (Nat.le_of_lt (Nat.mod_lt _ (by decide))), castp]
    rfl
  have hl := rot_lt 32 x (b % 32) x2
  go_enter Try.func4, Try.ntmps4
  go_wp2_with fail
  refine (rl_127 x b _ x2 b2).mono ?_
  rintro e w1 ⟨rfl, h1⟩
  go_wp2_with fail
  refine (rr_127 x b _ x2 b2).mono ?_
  rintro e w2 ⟨rfl, h2⟩
  go_wp2_with fail
  refine (rw_127 x 0 _ x2 (by decide)).mono ?_
  rintro e w3 ⟨rfl, h3⟩
  go_wp2_with fail
  refine (sl_127 x b _ x2 b2).mono ?_
  rintro e w4 ⟨rfl, h4⟩
  go_wp2_with fail
  refine (sr_127 x b _ x2 b2).mono ?_
  rintro e w5 ⟨rfl, h5⟩
  go_wp2_with fail
  refine (wakes_any _).mono ?_
  rintro e w6 ⟨rfl, h6⟩
  go_wp2
  go_ret
  exact ⟨rfl, h1.trans ((h2.trans ((h3.trans ((h4.trans ((h5.trans (h6.mono h5.size)).mono h4.size)).mono h3.size)).mono h2.size)).mono h1.size)⟩

set_option maxRecDepth 100000 in
set_option maxHeartbeats 1000000 in
theorem turns_126 (x b : Nat) (w : World) (x2 : x < 18446744073709551616) (b2 : b < 18446744073709551616) :
    Calls Try.prog 4 #[.int .u64 (x : Nat), .int .u64 (b : Nat), .bool true] w fun e w' => e = .returned (.bool true) ∧ Below w.heap.size w w' := by
  have hM : bits .and .u64 (x : Int) (18446744073709551615 / 2 ^ (b % 64)) = ((x % 2 ^ (64 - b % 64) : Nat) : Int) := by
    refine and_mask x 64 (b % 64) (by omega) (by decide) (Nat.le_of_lt (Nat.mod_lt _ (by decide))) _ ?_
    rw [← mask_div 64 (b % 64) (Nat.le_of_lt (Nat.mod_lt _ (by decide))), castp]
    rfl
  have hl := rot_lt 64 x (b % 64) x2
  go_enter Try.func4, Try.ntmps4
  go_wp2_with fail
  refine (rl_126 x b _ x2 b2).mono ?_
  rintro e w1 ⟨rfl, h1⟩
  go_wp2_with fail
  refine (rr_126 x b _ x2 b2).mono ?_
  rintro e w2 ⟨rfl, h2⟩
  go_wp2_with fail
  refine (rw_126 x 0 _ x2 (by decide)).mono ?_
  rintro e w3 ⟨rfl, h3⟩
  go_wp2_with fail
  refine (sl_126 x b _ x2 b2).mono ?_
  rintro e w4 ⟨rfl, h4⟩
  go_wp2_with fail
  refine (sr_126 x b _ x2 b2).mono ?_
  rintro e w5 ⟨rfl, h5⟩
  go_wp2_with fail
  refine (wakes_any _).mono ?_
  rintro e w6 ⟨rfl, h6⟩
  go_wp2
  go_ret
  exact ⟨rfl, h1.trans ((h2.trans ((h3.trans ((h4.trans ((h5.trans (h6.mono h5.size)).mono h4.size)).mono h3.size)).mono h2.size)).mono h1.size)⟩

theorem turns_walk {H : Type} {enc : TypeId × Value → H} (W : World) (base : Nat)
    (v0 : Value) (d0 : DataW H) (p0 : List MemPlace) (o0 : Value.okWide Try.prog W .any base 22 v0) (h0 : DataW.Trod enc Try.prog W 0 (fun _ => true) true 22 v0 d0 p0)
    (v1 : Value) (d1 : DataW H) (p1 : List MemPlace) (o1 : Value.okWide Try.prog W .any base 22 v1) (h1 : DataW.Trod enc Try.prog W 0 (fun _ => true) true 22 v1 d1 p1)
    (v2 : Value) (d2 : DataW H) (p2 : List MemPlace) (o2 : Value.okWide Try.prog W .any base 4 v2) (h2 : DataW.Trod enc Try.prog W 0 (fun _ => true) true 4 v2 d2 p2) :
    Calls Try.prog 4 #[v0, v1, v2] W fun e W' => e = .returned (.bool true) ∧ Below W.heap.size W W' := by
  obtain ⟨a0, rfl, rfl, rfl, w0⟩ := open_int Try.underlying22 o0 h0
  obtain ⟨a1, rfl, rfl, rfl, w1⟩ := open_int Try.underlying22 o1 h1
  obtain ⟨a2, rfl, rfl, rfl⟩ := open_bool Try.underlying4 o2 h2
  have b0 := bounds_u64 w0
  have b1 := bounds_u64 w1
  obtain ⟨x0, rfl⟩ := Int.eq_ofNat_of_zero_le b0.1
  obtain ⟨x1, rfl⟩ := Int.eq_ofNat_of_zero_le b1.1
  cases a2
  · exact turns_127 x0 x1 (x0 % 4294967296) W (by omega) (by omega) (by omega)
  · exact turns_126 x0 x1 W (by omega) (by omega)
end Go.Proofs.Ytkmdgdjdkkmjcaa
