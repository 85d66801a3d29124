/- The contract of Binary, at the table's entries. -/
import Derived.Test.YtkmdgdjdkkmjcaaF
import Derived.Test.YtkmdgdjdkkmjcaaA
import Derived.Deep.RegionWith
namespace Go.Proofs.Ytkmdgdjdkkmjcaa
open Go.RowKit
set_option linter.unusedVariables false
theorem twos_here (w : World) (o : Obj) (k : Nat) :
    Calls Try.prog 23 #[] (((w.alloc o).alloc o).drewN k) fun e w' => e = .returned (.pointer (some ⟨w.heap.size + 2, 3, none⟩)) ∧ (((w.alloc o).alloc o).alloc (.cells #[.int .u32 1, .int .i32 0, .int .u32 0, .nilFunc, .nilFunc, .nilFunc, .func (.func 28) #[] #[], .func (.func 29) #[] #[], .func (.func 30) #[] #[], .func (.func 31) #[] #[], .nilFunc, .nilFunc, .nilFunc, .func (.func 32) #[] #[], .func (.func 34) #[] #[], .func (.func 35) #[] #[], .func (.func 36) #[] #[], .func (.func 38) #[] #[]] 71)).drewN (k + 1) = w' := by
  refine (twos_any _).mono ?_
  rintro e w' ⟨rfl, rfl⟩
  refine ⟨by simp, ?_⟩
  rfl

end Go.Proofs.Ytkmdgdjdkkmjcaa
