/- The contract of Binary, at the table's entries. -/
import Derived.Test.YtkmdgdjdkkmjcaaDoorF
import Derived.Test.YtkmdgdjdkkmjcaaDoorA
import Derived.Deep.RegionWith
namespace Go.Proofs.YtkmdgdjdkkmjcaaDoor
open Go.RowKit
set_option linter.unusedVariables false
theorem twos_here (w : World) (o : Obj) (k : Nat) :
    Calls Tryd.prog 18 #[] (((w.alloc o).alloc o).drewN k) fun e w' => e = .returned (.pointer (some ⟨w.heap.size + 2, 3, none⟩)) ∧ (((w.alloc o).alloc o).alloc (.cells #[.int .u32 1, .int .i32 0, .int .u32 0, .nilFunc, .nilFunc, .nilFunc, .func (.func 25) #[] #[], .func (.func 26) #[] #[], .func (.func 27) #[] #[], .func (.func 28) #[] #[], .nilFunc, .nilFunc, .nilFunc, .func (.func 29) #[] #[], .func (.func 30) #[] #[], .func (.func 31) #[] #[], .func (.func 32) #[] #[], .func (.func 34) #[] #[]] 66)).drewN (k + 1) = w' := by
  refine (twos_any _).mono ?_
  rintro e w' ⟨rfl, rfl⟩
  refine ⟨by simp, ?_⟩
  rfl

end Go.Proofs.YtkmdgdjdkkmjcaaDoor
