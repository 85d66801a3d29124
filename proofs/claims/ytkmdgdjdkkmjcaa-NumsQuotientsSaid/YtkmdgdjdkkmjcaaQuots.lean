/- The walk of NumsQuotients, joined. -/
import Derived.Test.YtkmdgdjdkkmjcaaQuotW
namespace Go.Proofs.Ytkmdgdjdkkmjcaa
open Go.RowKit Go.ChangeShapes Go.WideShapes Go.ChangeAt Go.Joins
set_option linter.unusedVariables false

theorem quots_walk {H : Type} {enc : TypeId × Value → H} (W : World) (base : Nat)
    (v0 : Value) (d0 : DataW H) (p0 : List MemPlace) (o0 : Value.okWide Try.prog W .any base 32 v0) (h0 : DataW.Trod enc Try.prog W 0 (fun _ => true) true 32 v0 d0 p0) :
    Calls Try.prog 6 #[v0] W fun e W' => e = .returned (.bool true) ∧ Below W.heap.size W W' := by
  obtain ⟨c0, c1, c2, c3, y0, y1, y2, y3, n, rfl, rfl, rfl, hy0, hy1, hy2, hy3⟩ := open_agg4 Try.underlying32 (by kernel_rfl) (by kernel_rfl) o0 h0
  obtain ⟨a0, e0, _, w0⟩ := DataW.trod_int Try.underlying22 hy0
  obtain ⟨a1, e1, _, w1⟩ := DataW.trod_int Try.underlying22 hy1
  obtain ⟨a2, e2, _⟩ := DataW.trod_bool Try.underlying4 hy2
  obtain ⟨a3, e3, _⟩ := DataW.trod_bool Try.underlying4 hy3
  simp at e0 e1 e2 e3
  subst e0 e1 e2 e3
  have b0 := bounds_u64 w0
  have b1 := bounds_u64 w1
  cases a2 <;> cases a3
  · exact quotc_127_0 a0 a1 _ _ W rfl rfl (by omega) (by omega) (by omega) (by omega)
  · exact quotc_127_1 a0 a1 _ _ W rfl rfl (by omega) (by omega) (by omega) (by omega)
  · exact quotc_126_0 a0 a1 W (by omega) (by omega) (by omega) (by omega)
  · exact quotc_126_1 a0 a1 W (by omega) (by omega) (by omega) (by omega)
end Go.Proofs.Ytkmdgdjdkkmjcaa
