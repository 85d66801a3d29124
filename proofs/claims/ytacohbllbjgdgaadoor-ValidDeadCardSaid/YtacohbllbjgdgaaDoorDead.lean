/- ValidDead, from what it is given. -/
import Derived.Test.YtacohbllbjgdgaaDoorDw
import Derived.Test.YtacohbllbjgdgaaDoorMh
import Derived.Test.YtacohbllbjgdgaaDoorZr
namespace Go.Proofs.YtacohbllbjgdgaaDoor
open Go.RowKit
set_option linter.unusedVariables false
set_option linter.unusedSimpArgs false

theorem cells22 : Tryd.prog.cellsOf 4 = 1 := by kernel_rfl
set_option maxRecDepth 100000 in
theorem dead_walk {H : Type} {enc : TypeId × Value → H} (W : World) (base : Nat) (hT : TabU W)
    (v0 : Value) (d0 : DataW H) (p0 : List MemPlace) (o0 : Value.okWide Tryd.prog W .any base 3 v0) (h0 : DataW.Trod enc Tryd.prog W 0 (fun _ => true) true 3 v0 d0 p0)
    (v1 : Value) (d1 : DataW H) (p1 : List MemPlace) (o1 : Value.okWide Tryd.prog W .any base 22 v1) (h1 : DataW.Trod enc Tryd.prog W 0 (fun _ => true) true 22 v1 d1 p1) :
    Calls Tryd.prog 3 #[v0, v1] W fun e W' => e = .returned (.bool true) ∧ Below W.heap.size W W' := by
  obtain ⟨t, rfl, rfl, rfl, _⟩ := Go.ChangeShapes.open_int Tryd.underlying3 o0 h0
  obtain ⟨fuel, hf⟩ := h1
  obtain ⟨a, len, cap, rfl⟩ := Go.WideShapes.okWide_slice Tryd.underlying22 o1
  obtain ⟨ao, xs, c, e, hr⟩ := open_rows (cs := [.slice a len cap]) (F := BoolAt) Tryd.underlying22 cells22 (by decide) (fun n row y b o hn hlr hg hy => by
    obtain ⟨q, rfl⟩ := open_bool_cell Tryd.underlying4 hy
    exact ⟨q, by have := hg 0 _ rfl; simpa [BoolAt] using this⟩) hf
  have e := List.head_eq_of_cons_eq e
  rw [e]
  exact dead_any hr hT
end Go.Proofs.YtacohbllbjgdgaaDoor
