/- The contract of want. -/
import Derived.Test.YtkbfjkbokifgkaaDoorMa
import Derived.WalkLawsBesides
namespace Go.Proofs.YtkbfjkbokifgkaaDoor
open Go.RowKit
set_option linter.unusedVariables false

theorem want_yes (n : Int) (w : World) : Calls Tryd.prog 96 #[.bool true, .int .i64 n] w fun e w' => e = .returned (.tuple #[]) ∧ w = w' := by
  go_enter Tryd.func96, Tryd.ntmps96
  go_wp2
  go_end0
  exact ⟨rfl, rfl⟩

theorem want_no (n : Int) (w : World) : Calls Tryd.prog 96 #[.bool false, .int .i64 n] w fun e w' => e = .panicked (fault n) ∧ w = w' := by
  go_enter Tryd.func96, Tryd.ntmps96
  go_wp2
  exact ⟨rfl, rfl, rfl⟩

theorem want_any (ok : Bool) (n : Int) (w : World) : Calls Tryd.prog 96 #[.bool ok, .int .i64 n] w fun e w' => e = endE ok n ∧ w = w' := by
  cases ok
  · exact want_no n w
  · exact want_yes n w
end Go.Proofs.YtkbfjkbokifgkaaDoor
