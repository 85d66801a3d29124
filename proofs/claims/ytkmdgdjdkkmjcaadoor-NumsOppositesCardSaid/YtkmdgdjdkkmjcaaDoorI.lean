/- The laws' wakes. -/
import Derived.Test.YtkmdgdjdkkmjcaaDoorG
namespace Go.Proofs.YtkmdgdjdkkmjcaaDoor
open Go.RowKit
set_option linter.unusedVariables false

theorem binary_117 (w : World) : Calls Tryd.prog 8 #[.int .i64 117, .int .u64 2147483648, .int .u64 33] w fun e w' => e = .returned (.tuple #[.int .u64 3221225472, .int .i64 0, .bool true]) ∧ Below w.heap.size w w' := by
  have h := binary_any 117 3 11 127 2147483648 33 w ⟨by omega⟩ (by decide) (by decide) (by decide) (by decide) (by decide) (by decide)
  have e1 : bV 3 11 127 2147483648 33 = 3221225472 := by decide +kernel
  have e2 : bT 3 11 127 2147483648 33 = 0 := by decide +kernel
  rw [e1, e2] at h
  exact h
theorem binary_109 (w : World) : Calls Tryd.prog 8 #[.int .i64 109, .int .u64 2147483648, .int .u64 4294967295] w fun e w' => e = .returned (.tuple #[.int .u64 0, .int .i64 3, .bool true]) ∧ Below w.heap.size w w' := by
  have h := binary_any 109 3 3 127 2147483648 4294967295 w ⟨by omega⟩ (by decide) (by decide) (by decide) (by decide) (by decide) (by decide)
  have e1 : bV 3 3 127 2147483648 4294967295 = 0 := by decide +kernel
  have e2 : bT 3 3 127 2147483648 4294967295 = 3 := by decide +kernel
  rw [e1, e2] at h
  exact h

theorem wakes_any (w : World) : Calls Tryd.prog 7 #[] w fun e w' => e = .returned (.bool true) ∧ Below w.heap.size w w' := by
  have es : sg 127 4294967295 = -1 := by decide +kernel
  have HS : ∀ w, Hid (Calls Tryd.prog 15 #[.int .u64 4294967295, .int .i64 127] w fun e w' => e = .returned (.int .i64 (-1)) ∧ w = w') := fun w => by
    have h := signed_any 4294967295 127 w (by decide) (by decide)
    rw [es] at h
    exact Lib.hid h
  clear es
  go_enter Tryd.func7, Tryd.ntmps7
  go_wp2_with fail
  refine (binary_117 _).mono ?_
  rintro e w1 ⟨rfl, b1⟩
  go_wp2_with fail
  refine (binary_109 _).mono ?_
  rintro e w2 ⟨rfl, b2⟩
  go_wp2_with fail
  refine (HS _).out.mono ?_
  rintro e w' ⟨rfl, rfl⟩
  go_wp2
  go_ret
  exact ⟨rfl, b1.trans (b2.mono b1.size)⟩
end Go.Proofs.YtkmdgdjdkkmjcaaDoor
