/- WastChecks over what was given. -/
import Derived.Test.YtofleejokkdklaaDoorCk4
import Derived.Test.YtofleejokkdklaaDoorLd
import Derived.Test.YtofleejokkdklaaDoorOp
import Derived.SizedLaws
namespace Go.Proofs.YtofleejokkdklaaDoor
open Go.ChangeShapes Go.WideShapes Go.ChangeAt Go.RowKit
set_option linter.unusedVariables false

set_option maxRecDepth 100000 in
theorem checks_walk {H : Type} {enc : TypeId × Value → H} (W : World) (base : Nat) (hT : TabU W)
    (v0 : Value) (d0 : DataW H) (p0 : List MemPlace) (o0 : Value.okWide Tryd.prog W .any base 36 v0) (h0 : DataW.Trod enc Tryd.prog W 0 (fun _ => true) true 36 v0 d0 p0) :
    Calls Tryd.prog 4 #[v0] W fun e W' => e = .returned (.bool true) ∧ Below W.heap.size W W' := by
  obtain ⟨m, a0, k0, a1, k1, a2, k2, a3, k3, a4, k4, a5, k5, a6, k6, a7, k7, a8, k8, a9, k9, rfl, h⟩ := open_module o0 h0
  exact checks_any m a0 k0 a1 k1 a2 k2 a3 k3 a4 k4 a5 k5 a6 k6 a7 k7 a8 k8 a9 k9 W h hT
end Go.Proofs.YtofleejokkdklaaDoor
