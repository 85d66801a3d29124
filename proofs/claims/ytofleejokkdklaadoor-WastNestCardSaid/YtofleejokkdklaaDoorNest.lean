/- WastNest over what was given. -/
import Derived.Test.YtofleejokkdklaaDoorNe
import Derived.Test.YtofleejokkdklaaDoorLd
import Derived.SizedLaws
namespace Go.Proofs.YtofleejokkdklaaDoor
open Go.ChangeShapes Go.WideShapes Go.ChangeAt Go.RowKit
set_option linter.unusedVariables false

set_option maxRecDepth 100000 in
theorem nest_walk {H : Type} {enc : TypeId × Value → H} (W : World) (base : Nat) (hT : TabU W)
    (v0 : Value) (d0 : DataW H) (p0 : List MemPlace) (o0 : Value.okWide Tryd.prog W .any base 3 v0) (h0 : DataW.Trod enc Tryd.prog W 0 (fun _ => true) true 3 v0 d0 p0) :
    Calls Tryd.prog 5 #[v0] W fun e W' => e = .returned (.bool true) ∧ Below W.heap.size W W' := by
  obtain ⟨a0, rfl, rfl, rfl, w0⟩ := open_int Tryd.underlying3 o0 h0
  exact nest_any a0 W hT
end Go.Proofs.YtofleejokkdklaaDoor
