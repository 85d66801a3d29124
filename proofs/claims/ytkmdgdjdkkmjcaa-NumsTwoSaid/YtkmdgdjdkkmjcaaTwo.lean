/- The walk of NumsTwo. -/
import Derived.Test.YtkmdgdjdkkmjcaaN
import Derived.ProofKit
import Derived.OpenShut
import Derived.ChangeOld
import Derived.Below
import Derived.Carry
import Derived.SizedLaws
namespace Go.Proofs.Ytkmdgdjdkkmjcaa
open Go.ChangeShapes Go.WideShapes Go.ChangeAt Go.RowKit
set_option linter.unusedVariables false

theorem two_core (op a b : Int) (W : World) (o1 : -9223372036854775808 ≤ op) (o2 : op ≤ 9223372036854775807) (a1 : 0 ≤ a) (a2 : a ≤ 18446744073709551615) (b1 : 0 ≤ b) (b2 : b ≤ 18446744073709551615) :
    Calls Try.prog 3 #[.int .i64 op, .int .u64 a, .int .u64 b] W fun e W' => e = .returned (.bool true) ∧ Below W.heap.size W W' := by
  obtain ⟨k, n, t, h⟩ := of_ex op
  have HB := fun w => Lib.hid (binary_any op k n t a b w h o1 o2 a1 a2 b1 b2)
  have HR := fun w => Lib.hid (rbinary_any op k n t a b w h o1 o2 a1 a2 b1 b2)
  clear h
  generalize bV k n t a b = V at *
  generalize bT k n t a b = T at *
  generalize bO k = O at *
  go_enter Try.func3, Try.ntmps3
  go_wp2_with fail
  refine (HB _).out.mono ?_
  rintro e w1 ⟨rfl, h1⟩
  go_wp2_with fail
  refine (HR _).out.mono ?_
  rintro e w' ⟨rfl, rfl⟩
  go_wp2_with fail
  refine (wakes_any _).mono ?_
  rintro e w2 ⟨rfl, h2⟩
  go_wp2
  go_ret
  exact ⟨rfl, h1.trans (h2.mono h1.size)⟩

theorem two_walk {H : Type} {enc : TypeId × Value → H} (W : World) (base : Nat)
    (v0 : Value) (d0 : DataW H) (p0 : List MemPlace) (o0 : Value.okWide Try.prog W .any base 3 v0) (h0 : DataW.Trod enc Try.prog W 0 (fun _ => true) true 3 v0 d0 p0)
    (v1 : Value) (d1 : DataW H) (p1 : List MemPlace) (o1 : Value.okWide Try.prog W .any base 22 v1) (h1 : DataW.Trod enc Try.prog W 0 (fun _ => true) true 22 v1 d1 p1)
    (v2 : Value) (d2 : DataW H) (p2 : List MemPlace) (o2 : Value.okWide Try.prog W .any base 22 v2) (h2 : DataW.Trod enc Try.prog W 0 (fun _ => true) true 22 v2 d2 p2) :
    Calls Try.prog 3 #[v0, v1, v2] W fun e W' => e = .returned (.bool true) ∧ Below W.heap.size W W' := by
  obtain ⟨a0, rfl, rfl, rfl, w0⟩ := open_int Try.underlying3 o0 h0
  obtain ⟨a1, rfl, rfl, rfl, w1⟩ := open_int Try.underlying22 o1 h1
  obtain ⟨a2, rfl, rfl, rfl, w2⟩ := open_int Try.underlying22 o2 h2
  have b0 := bounds_i64 w0
  have b1 := bounds_u64 w1
  have b2 := bounds_u64 w2
  exact two_core a0 a1 a2 W (by omega) (by omega) (by omega) (by omega) (by omega) (by omega)
end Go.Proofs.Ytkmdgdjdkkmjcaa
