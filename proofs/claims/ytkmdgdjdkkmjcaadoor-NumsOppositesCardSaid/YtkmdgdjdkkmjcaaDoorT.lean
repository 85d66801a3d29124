/- The table of the instructions of two numbers. -/
import Derived.Test.YtkmdgdjdkkmjcaaDoorO
import Derived.Laws.EntriesVeiled
namespace Go.Proofs.YtkmdgdjdkkmjcaaDoor
open Go.RowKit

theorem fill_any (w : World) :
    Calls Tryd.prog 24 #[.pointer (some ⟨w.heap.size, 0, none⟩)] (w.alloc (.cells #[.int .u32 0, .int .i32 1, .int .u32 0, .nilFunc, .nilFunc, .nilFunc, .nilFunc, .nilFunc, .nilFunc, .nilFunc, .nilFunc, .nilFunc, .nilFunc, .nilFunc, .nilFunc, .nilFunc, .nilFunc, .nilFunc] 66)) fun e w' => e = .returned (.tuple #[]) ∧ 
      (w.alloc (.cells #[.int .u32 0, .int .i32 1, .int .u32 0, .nilFunc, .nilFunc, .nilFunc, .func (.func 25) #[] #[], .func (.func 26) #[] #[], .func (.func 27) #[] #[], .func (.func 28) #[] #[], .nilFunc, .nilFunc, .nilFunc, .func (.func 29) #[] #[], .func (.func 30) #[] #[], .func (.func 31) #[] #[], .func (.func 32) #[] #[], .func (.func 34) #[] #[]] 66)) = w' := by
  go_enter Tryd.func24, Tryd.ntmps24
  go_wp2
  go_end0
  exact ⟨rfl, rfl⟩
/-- The block that the table lies in: once done, the lock free. -/
def tableBlock : Obj := .cells #[.int .u32 1, .int .i32 0, .int .u32 0, .nilFunc, .nilFunc, .nilFunc, .func (.func 25) #[] #[], .func (.func 26) #[] #[], .func (.func 27) #[] #[], .func (.func 28) #[] #[], .nilFunc, .nilFunc, .nilFunc, .func (.func 29) #[] #[], .func (.func 30) #[] #[], .func (.func 31) #[] #[], .func (.func 32) #[] #[], .func (.func 34) #[] #[]] 66

set_option maxRecDepth 100000 in
set_option maxHeartbeats 1600000 in
theorem twos_any (w : World) :
    Calls Tryd.prog 18 #[] w fun e w' => e = .returned (.pointer (some ⟨w.heap.size, 3, none⟩)) ∧ (w.alloc tableBlock).drew = w' := by
  have hmf : ∀ (fn : Fn) (first cap : Array Value) (w : World), (Instr.makeFunc fn first cap).run Tryd.prog w = .ok (.func fn first cap) w := fun _ _ _ _ => rfl
  have hk : Calls Tryd.prog 24 #[.pointer (some ⟨w.heap.size, 0, none⟩)] ((w.alloc (.cells #[.int .u32 0, .int .i32 0, .int .u32 0, .nilFunc, .nilFunc, .nilFunc, .nilFunc, .nilFunc, .nilFunc, .nilFunc, .nilFunc, .nilFunc, .nilFunc, .nilFunc, .nilFunc, .nilFunc, .nilFunc, .nilFunc] 66)).setCell ⟨w.heap.size, 0 + 1, none⟩ (.int .i32 1)) fun e w' => e = .returned (.tuple #[]) ∧ 
      (w.alloc (.cells #[.int .u32 0, .int .i32 1, .int .u32 0, .nilFunc, .nilFunc, .nilFunc, .func (.func 25) #[] #[], .func (.func 26) #[] #[], .func (.func 27) #[] #[], .func (.func 28) #[] #[], .nilFunc, .nilFunc, .nilFunc, .func (.func 29) #[] #[], .func (.func 30) #[] #[], .func (.func 31) #[] #[], .func (.func 32) #[] #[], .func (.func 34) #[] #[]] 66)) = w' := by
    rw [World.setCell_alloc_at _ _ _ _ _ rfl]
    exact fill_any w
  have HK := Lib.hid hk
  clear hk
  unfold tableBlock
  go_enter Tryd.func18, Tryd.ntmps18
  go_wp2_with fail
  refine (do_first w.heap.size 0 (.pointer (some ⟨w.heap.size, 0, none⟩)) _ _ (by simp) (by simp) (by simp) HK.out (by simp) (by simp) (by simp) (by simp)).mono ?_
  rintro e w' ⟨rfl, rfl⟩
  go_wp2
  go_ret
  exact ⟨rfl, by simp⟩
end Go.Proofs.YtkmdgdjdkkmjcaaDoor
