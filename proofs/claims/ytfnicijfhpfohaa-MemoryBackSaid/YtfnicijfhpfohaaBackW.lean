/- MemoryBack: its walk over an argument that is read as data. -/
import Derived.Test.YtfnicijfhpfohaaBack
namespace Go.Proofs.Ytfnicijfhpfohaa
open Go.RowKit Go.ChangeShapes Go.WideShapes Go.ChangeAt Go.Joins

theorem back_walk {H : Type} {enc : TypeId × Value → H} (W : World) (base : Nat)
    (v0 : Value) (d0 : DataW H) (p0 : List MemPlace) (o0 : Value.okWide Try.prog W .any base 24 v0) (h0 : DataW.Trod enc Try.prog W 0 (fun _ => true) true 24 v0 d0 p0) :
    Calls Try.prog 3 #[v0] W fun e W' => e = .returned (.bool true) ∧ Below W.heap.size W W' := by
  obtain ⟨c0, c1, c2, c3, y0, y1, y2, y3, n, rfl, rfl, rfl, hy0, hy1, hy2, hy3⟩ := open_agg4 Try.underlying24 (by kernel_rfl) (by kernel_rfl) o0 h0
  obtain ⟨a0, e0, _, w0⟩ := DataW.trod_int Try.underlying22 hy0
  obtain ⟨a1, e1, _, w1⟩ := DataW.trod_int Try.underlying3 hy1
  obtain ⟨a2, e2, _, w2⟩ := DataW.trod_int Try.underlying22 hy2
  obtain ⟨a3, e3, _, w3⟩ := DataW.trod_int Try.underlying22 hy3
  simp at e0 e1 e2 e3
  subst e0 e1 e2 e3
  have b0 := bounds_u64 w0
  have b1 := bounds_i64 w1
  have b2 := bounds_u64 w2
  have b3 := bounds_u64 w3
  obtain ⟨x0, rfl⟩ := Int.eq_ofNat_of_zero_le b0.1
  obtain ⟨x2, rfl⟩ := Int.eq_ofNat_of_zero_le b2.1
  obtain ⟨x3, rfl⟩ := Int.eq_ofNat_of_zero_le b3.1
  refine back_core x0 x2 x3 a1 _ rfl (by omega) (by omega) (by omega) b1.2 W ?_
  by_cases h1 : a1 = 1
  · exact .inl h1
  by_cases h2 : a1 = 2
  · exact .inr (.inl h2)
  by_cases h3 : a1 = 4
  · exact .inr (.inr (.inl h3))
  by_cases h4 : a1 = 8
  · exact .inr (.inr (.inr (.inl h4)))
  exact .inr (.inr (.inr (.inr (by simp [h1, h2, h3, h4]))))
end Go.Proofs.Ytfnicijfhpfohaa
