/- Contracts of the small functions of package nums and of its reference. -/
import Derived.Test.YtkmdgdjdkkmjcaaDoorT
import Derived.Deep.QuietTactic
import Derived.BigQuiet
import Derived.Below
import Derived.Laws.ResultCell
namespace Go.Proofs.YtkmdgdjdkkmjcaaDoor
open Go.RowKit
set_option linter.unusedVariables false

theorem Below.of_alloc (w : World) (o : Obj) : Below w.heap.size w (w.alloc o) := (Below.refl _ _).alloc (Nat.le_refl _) o

/-- What 'of' looks up: kind, which, type. -/
structure OfIs (op k n t : Int) : Prop where
  is : (op = 69 ∧ k = 2 ∧ n = 0 ∧ t = 127) ∨ (op = 80 ∧ k = 2 ∧ n = 0 ∧ t = 126) ∨ (70 ≤ op ∧ op ≤ 79 ∧ k = 4 ∧ n = op - 70 ∧ t = 127) ∨ (81 ≤ op ∧ op ≤ 90 ∧ k = 4 ∧ n = op - 81 ∧ t = 126) ∨
    (103 ≤ op ∧ op ≤ 105 ∧ k = 1 ∧ n = op - 103 ∧ t = 127) ∨ (121 ≤ op ∧ op ≤ 123 ∧ k = 1 ∧ n = op - 121 ∧ t = 126) ∨ (106 ≤ op ∧ op ≤ 120 ∧ k = 3 ∧ n = op - 106 ∧ t = 127) ∨ (124 ≤ op ∧ op ≤ 138 ∧ k = 3 ∧ n = op - 124 ∧ t = 126) ∨
    (op = 167 ∧ k = 5 ∧ n = 0 ∧ t = 126) ∨ (op = 172 ∧ k = 5 ∧ n = 1 ∧ t = 127) ∨ (op = 173 ∧ k = 5 ∧ n = 2 ∧ t = 127) ∨
    ((op ≤ 68 ∨ (91 ≤ op ∧ op ≤ 102) ∨ (139 ≤ op ∧ op ≤ 166) ∨ (168 ≤ op ∧ op ≤ 171) ∨ 174 ≤ op) ∧ k = 0 ∧ n = 0 ∧ t = 0)

set_option maxHeartbeats 4000000 in
theorem of_any (op k n t : Int) (w : World) (h : OfIs op k n t) (h1 : -9223372036854775808 ≤ op) (h2 : op ≤ 9223372036854775807) :
    Calls Tryd.prog 9 #[.int .i64 op] w fun e w' => e = .returned (.agg #[.int .i64 k, .int .i64 n, .int .i64 t]) ∧ w.alloc (.cells #[.int .i64 k, .int .i64 n, .int .i64 t] 33) = w' := by
  rcases h.is with ⟨rfl, rfl, rfl, rfl⟩ | ⟨rfl, rfl, rfl, rfl⟩ | ⟨g1, g2, rfl, rfl, rfl⟩ | ⟨g1, g2, rfl, rfl, rfl⟩ | ⟨g1, g2, rfl, rfl, rfl⟩ | ⟨g1, g2, rfl, rfl, rfl⟩ | ⟨g1, g2, rfl, rfl, rfl⟩ | ⟨g1, g2, rfl, rfl, rfl⟩ | ⟨rfl, rfl, rfl, rfl⟩ | ⟨rfl, rfl, rfl, rfl⟩ | ⟨rfl, rfl, rfl, rfl⟩ | ⟨g1 | g1 | g1 | g1 | g1, rfl, rfl, rfl⟩
  all_goals
    go_enter Tryd.func9, Tryd.ntmps9
    go_wp2
    exact bodyPost_ret (by simp [results, Tryd.results9, go_sem]) rfl ⟨rfl, rfl⟩
end Go.Proofs.YtkmdgdjdkkmjcaaDoor
