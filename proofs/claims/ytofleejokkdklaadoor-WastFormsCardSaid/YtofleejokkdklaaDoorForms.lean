/- WastForms over what was given. -/
import Derived.Test.YtofleejokkdklaaDoorUb
import Derived.Test.YtofleejokkdklaaDoorLd
import Derived.SizedLaws
import Derived.ChangeMaps5
namespace Go.Proofs.YtofleejokkdklaaDoor
open Go.ChangeShapes Go.WideShapes Go.ChangeAt Go.RowKit Go.ChangeMaps
set_option linter.unusedVariables false

set_option maxRecDepth 100000 in
theorem forms_walk {H : Type} {enc : TypeId × Value → H} (W : World) (base : Nat) (hT : TabU W)
    (v0 : Value) (d0 : DataW H) (p0 : List MemPlace) (o0 : Value.okWide Tryd.prog W .any base 3 v0) (h0 : DataW.Trod enc Tryd.prog W 0 (fun _ => true) true 3 v0 d0 p0)
    (v1 : Value) (d1 : DataW H) (p1 : List MemPlace) (o1 : Value.okWide Tryd.prog W .any base 9 v1) (h1 : DataW.Trod enc Tryd.prog W 0 (fun _ => true) true 9 v1 d1 p1) :
    Calls Tryd.prog 3 #[v0, v1] W fun e W' => e = .returned (.bool true) ∧ Below W.heap.size W W' := by
  obtain ⟨a0, rfl, rfl, rfl, w0⟩ := open_int Tryd.underlying3 o0 h0
  obtain ⟨s, rfl, rfl, rfl, ws⟩ := open_string Tryd.underlying9 o1 h1
  exact forms_any a0 s W hT (by unfold maxLen at ws; omega)
end Go.Proofs.YtofleejokkdklaaDoor
