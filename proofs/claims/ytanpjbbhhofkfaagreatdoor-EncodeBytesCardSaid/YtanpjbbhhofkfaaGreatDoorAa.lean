/- Short words. -/
import Derived.Test.YtanpjbbhhofkfaaGreatDoorRows
import Derived.RegionTactic
import Derived.Orders
import Derived.Lib.Hide
namespace Go.Proofs.YtanpjbbhhofkfaaGreatDoor
open Go.RowKit
set_option linter.unusedVariables false
theorem zh {P : Prop} (h : P) : Hid P := Lib.hid h
theorem wpS {P : Program} {ops : Array Oper} {Q : Exit → Act → World → Prop} {i : Nat} {o : Oper} {K : Act → World → Prop} {a : Act} {w : World} (ho : ops[i]? = some o) (hg : o.guard = none)
    (h : ∀ K' : Act → World → Prop, (∀ a w, K a w → K' a w) → Oper.wp P o a w K' Q) : wpOp P ops Q i K a w := by
  refine wpOp_step ho ?_
  intro K' hK'
  rw [if_pos (by unfold Region.wanted; rw [hg])]
  exact h K' hK'
end Go.Proofs.YtanpjbbhhofkfaaGreatDoor
