/- What the reference's Unary tells: what Unary tells. -/
import Derived.Test.YtkmdgdjdkkmjcaaDoorW
import Derived.Test.YtkmdgdjdkkmjcaaDoorX
import Derived.Test.YtkmdgdjdkkmjcaaDoorY
import Derived.Test.YtkmdgdjdkkmjcaaDoorZ
namespace Go.Proofs.YtkmdgdjdkkmjcaaDoor
open Go.RowKit
set_option linter.unusedVariables false

theorem cnt_0_127 (x : Nat) : cnt 0 127 x = 32 - Lib.bitLen x := rfl
theorem cnt_1_127 (x : Nat) : cnt 1 127 x = min (Lib.ctz 64 x) 32 := rfl
theorem cnt_2 (t : Int) (x : Nat) : cnt 2 t x = ds 1 64 x := rfl
theorem cnt_0_126 (x : Nat) : cnt 0 126 x = 64 - Lib.bitLen x := rfl
theorem cnt_1_126 (x : Nat) : cnt 1 126 x = min (Lib.ctz 64 x) 64 := rfl
theorem uV_1 (n t a : Int) : uV 1 n t a = (cnt n t (cu t a).toNat : Nat) := rfl
theorem uV_2 (n t a : Int) : uV 2 n t a = (if cu t a = 0 then 1 else 0) := rfl
theorem cu_127 (a : Int) : cu 127 a = a % 4294967296 := rfl
theorem cu_126 (a : Int) : cu 126 a = a := rfl
theorem uV_50 (a : Int) : uV 5 0 126 a = a % 4294967296 := rfl
theorem uV_51 (a : Int) : uV 5 1 127 a = IntKind.u64.wrap (wrap32 (a % 4294967296)) := rfl
theorem uV_52 (a : Int) : uV 5 2 127 a = a % 4294967296 := by
  show (a % 4294967296) % 4294967296 = _
  omega

theorem runary_any (op k n t : Int) (a : Nat) (w : World) (h : OfIs op k n t) (o1 : -9223372036854775808 ≤ op) (o2 : op ≤ 9223372036854775807)
    (a2 : a < 18446744073709551616) :
    Calls Tryd.prog 6 #[.int .i64 op, .int .u64 a] w fun e w' => e = .returned (.tuple #[.int .u64 (uV k n t a), .bool (uO k)]) ∧ w = w' := by
  have a1 : (0 : Int) ≤ a := Int.natCast_nonneg a
  have a3 : (a : Int) < 18446744073709551616 := by omega
  obtain ⟨x, hx⟩ : ∃ x : Nat, (a : Int) % 4294967296 = (x : Int) := ⟨a % 4294967296, by omega⟩
  have x2 : x < 4294967296 := by omega
  have x0 : (0 : Int) ≤ (x : Int) := Int.natCast_nonneg x
  have x3 : (x : Int) < 4294967296 := by omega
  rcases h.is with ⟨rfl, rfl, rfl, rfl⟩ | ⟨rfl, rfl, rfl, rfl⟩ | ⟨g1, g2, rfl, e, rfl⟩ | ⟨g1, g2, rfl, e, rfl⟩ | ⟨g1, g2, rfl, e, rfl⟩ | ⟨g1, g2, rfl, e, rfl⟩ | ⟨g1, g2, rfl, e, rfl⟩ | ⟨g1, g2, rfl, e, rfl⟩ | ⟨rfl, rfl, rfl, rfl⟩ | ⟨rfl, rfl, rfl, rfl⟩ | ⟨rfl, rfl, rfl, rfl⟩ | ⟨g1, rfl, rfl, rfl⟩
  · rw [uV_2, cu_127, hx]
    exact utest_127 a x w hx x0 x3 a1 a3
  · rw [uV_2, cu_126]
    exact utest_126 a w a1 a3
  · exact unone op 4 n 127 a w h o1 o2 rfl a1 a3
  · exact unone op 4 n 126 a w h o1 o2 rfl a1 a3
  · rw [uV_1, cu_127, hx, Int.toNat_natCast]
    have hc : op = 103 ∨ op = 104 ∨ op = 105 := by omega
    rcases hc with rfl | rfl | rfl
    · obtain rfl : n = 0 := by omega
      rw [cnt_0_127]
      exact ulz_127 a x w hx x2 a2
    · obtain rfl : n = 1 := by omega
      rw [cnt_1_127]
      exact utz_127 a x w hx x2 a2
    · obtain rfl : n = 2 := by omega
      rw [cnt_2]
      exact upc_127 a x w hx x2 a2
  · rw [uV_1, cu_126, Int.toNat_natCast]
    have hc : op = 121 ∨ op = 122 ∨ op = 123 := by omega
    rcases hc with rfl | rfl | rfl
    · obtain rfl : n = 0 := by omega
      rw [cnt_0_126]
      exact ulz_126 a w a2
    · obtain rfl : n = 1 := by omega
      rw [cnt_1_126]
      exact utz_126 a w a2
    · obtain rfl : n = 2 := by omega
      rw [cnt_2]
      exact upc_126 a w a2
  · exact unone op 3 n 127 a w h o1 o2 rfl a1 a3
  · exact unone op 3 n 126 a w h o1 o2 rfl a1 a3
  · rw [uV_50, hx]
    exact uwrap_167 a x w hx x0 x3 a1 a3
  · rw [uV_51, hx]
    exact uturn_172 a x w hx x0 x3 a1 a3
  · rw [uV_52, hx]
    exact uturn_173 a x w hx x0 x3 a1 a3
  · exact unone op 0 0 0 a w h o1 o2 rfl a1 a3
end Go.Proofs.YtkmdgdjdkkmjcaaDoor
