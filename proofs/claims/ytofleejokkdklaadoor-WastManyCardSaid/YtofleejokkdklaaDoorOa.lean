/- The contracts of Check's deferred closure. -/
import Derived.Test.YtofleejokkdklaaDoorNb
import Derived.Defers
import Derived.Recover
import Derived.Laws.Pointers
namespace Go.Proofs.YtofleejokkdklaaDoor
open Go.RowKit
set_option linter.unusedVariables false

theorem catch_idle (p : Addr) (w : World) :
    CallsD Tryd.prog 29 #[.pointer (some p)] .returning w fun e u' w' => e = .returned (.tuple #[]) ∧ u' = .returning ∧ w' = w := by
  refine callsD_of_wpS Tryd.func29 rfl fun c₀ cs hu => ?_
  apply wpS_seq
  apply wpS_region
  simp [wpOpsS, go_sem, recoverD, hu, Tryd.ntmps29, Exit.thenS]
  refine wpS_of_wp ?_
  go_wp2
  cases c₀
  simp_all [bodyPostS, results, Tryd.results29]

theorem assert_fault (n : Int) (w : World) : (Instr.typeAssert (Value.iface 65 (.agg #[.int .i64 n])) 20 65 true).run Tryd.prog w = .ok (.tuple #[.agg #[.int .i64 n], .bool true]) w := by kernel_rfl

set_option maxRecDepth 100000 in
theorem catch_fault (p : Nat) (x n : Int) (older : List PanicEntry) (w : World) (hc : w.cell? ⟨p, 0, none⟩ = some (.int .i64 x)) (hz : w.frozen? ⟨p, 0, none⟩ = false) :
    CallsD Tryd.prog 29 #[.pointer (some ⟨p, 0, none⟩)] (.panicking ({ v := .iface 65 (.agg #[.int .i64 n]), recovered := false } :: older)) w fun e u' w' =>
      e = .returned (.tuple #[]) ∧ u' = .panicking ({ v := .iface 65 (.agg #[.int .i64 n]), recovered := true } :: older) ∧ w' = (w.setCell ⟨p, 0, none⟩ (.int .i64 n)).alloc (.cells #[.int .i64 n] 65) := by
  refine callsD_of_wpS Tryd.func29 rfl fun c₀ cs hu => ?_
  apply wpS_seq
  apply wpS_region
  simp [wpOpsS, go_sem, recoverD, hu, Tryd.ntmps29, Exit.thenS]
  refine wpS_of_wp ?_
  have hta := assert_fault n
  have hp : p < w.heap.size := World.block_lt_of_cell? _ _ hc
  change Code.wp Tryd.prog _ _ { tmps := #[.pointer (some ⟨p, 0, none⟩), undef, undef, undef, .iface 65 (.agg #[.int .i64 n]), undef, undef, undef, undef, undef, undef, undef], defers := [] } w
  go_wp2
  cases c₀
  simp_all [bodyPostS, results, Tryd.results29]
end Go.Proofs.YtofleejokkdklaaDoor
