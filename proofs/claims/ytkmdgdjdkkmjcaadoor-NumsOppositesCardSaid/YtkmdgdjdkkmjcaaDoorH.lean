/- The reference's Sig and divide. -/
import Derived.Test.YtkmdgdjdkkmjcaaDoorE
import Derived.Test.YtkmdgdjdkkmjcaaDoorA
namespace Go.Proofs.YtkmdgdjdkkmjcaaDoor
open Go.RowKit
set_option linter.unusedVariables false

def sN (k : Int) : Int := if k = 0 then 0 else if k = 3 then 2 else if k = 4 then 2 else 1
def sR (k t : Int) : Int := if k = 0 then 0 else if k = 2 then 127 else if k = 4 then 127 else if k = 5 then 253 - t else t

set_option maxHeartbeats 4000000 in
theorem rsig_any (op k n t : Int) (w : World) (h : OfIs op k n t) (h1 : -9223372036854775808 ≤ op) (h2 : op ≤ 9223372036854775807) :
    Calls Tryd.prog 13 #[.int .i64 op] w fun e w' => e = .returned (.tuple #[.int .i64 (sN k), .int .i64 t, .int .i64 (sR k t)]) ∧ w = w' := by
  rcases h.is with ⟨rfl, rfl, rfl, rfl⟩ | ⟨rfl, rfl, rfl, rfl⟩ | ⟨g1, g2, rfl, rfl, rfl⟩ | ⟨g1, g2, rfl, rfl, rfl⟩ | ⟨g1, g2, rfl, rfl, rfl⟩ | ⟨g1, g2, rfl, rfl, rfl⟩ | ⟨g1, g2, rfl, rfl, rfl⟩ | ⟨g1, g2, rfl, rfl, rfl⟩ | ⟨rfl, rfl, rfl, rfl⟩ | ⟨rfl, rfl, rfl, rfl⟩ | ⟨rfl, rfl, rfl, rfl⟩ | ⟨g1 | g1 | g1 | g1 | g1, rfl, rfl, rfl⟩
  all_goals
    clear h
    go_enter Tryd.func13, Tryd.ntmps13
    go_wp2
    all_goals go_ret3
    all_goals first | (exact ⟨rfl, rfl⟩) | (exfalso; simp only [beq_iff_eq] at *; omega)

def least64 (t : Int) : Int := if t = 126 then -9223372036854775808 else -2147483648
end Go.Proofs.YtkmdgdjdkkmjcaaDoor
