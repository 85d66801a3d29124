/- The walk of NumsSigned. -/
import Derived.Test.YtkmdgdjdkkmjcaaI
import Derived.ProofKit
import Derived.OpenShut
import Derived.ChangeOld
import Derived.Below
import Derived.Carry
import Derived.SizedLaws
namespace Go.Proofs.Ytkmdgdjdkkmjcaa
open Go.ChangeShapes Go.WideShapes Go.ChangeAt Go.RowKit
set_option linter.unusedVariables false

theorem sg_vl (n : Int) (h1 : -9223372036854775808 ≤ n) (h2 : n ≤ 9223372036854775807) : sg 126 (vl 126 n) = n := by
  show wrap64 (n % 18446744073709551616) = n
  unfold wrap64; omega
theorem vl_bd (t n : Int) : 0 ≤ vl t n ∧ vl t n ≤ 18446744073709551615 := by
  unfold vl; split
  · omega
  · split <;> omega

theorem signed_core (v n t : Int) (W : World) (v1 : 0 ≤ v) (v2 : v ≤ 18446744073709551615) (n1 : -9223372036854775808 ≤ n) (n2 : n ≤ 9223372036854775807) :
    Calls Try.prog 5 #[.int .u64 v, .int .i64 n, .int .i64 t] W fun e W' => e = .returned (.bool true) ∧ Below W.heap.size W W' := by
  have ⟨g1, g2⟩ := vl_bd 126 n
  have HS : ∀ w, Hid (Calls Try.prog 11 #[.int .u64 (vl 126 n), .int .i64 126] w fun e w' => e = .returned (.int .i64 n) ∧ w = w') := fun w => by
    have h := signed_any (vl 126 n) 126 w g1 g2
    rw [sg_vl n n1 n2] at h
    exact Lib.hid h
  go_enter Try.func5, Try.ntmps5
  go_wp2_with fail
  refine (signed_any _ _ _ v1 v2).mono ?_
  rintro e w' ⟨rfl, rfl⟩
  go_wp2_with fail
  refine (rsigned_any _ _ _ v1 v2).mono ?_
  rintro e w' ⟨rfl, rfl⟩
  go_wp2_with fail
  refine (value_any _ _ _).mono ?_
  rintro e w' ⟨rfl, rfl⟩
  go_wp2_with fail
  refine (rvalue_any _ _ _).mono ?_
  rintro e w' ⟨rfl, rfl⟩
  go_wp2_with fail
  refine (value_any _ _ _).mono ?_
  rintro e w' ⟨rfl, rfl⟩
  go_wp2_with fail
  refine (HS _).out.mono ?_
  rintro e w' ⟨rfl, rfl⟩
  go_wp2_with fail
  refine (wakes_any _).mono ?_
  rintro e w' ⟨rfl, hb⟩
  go_wp2
  go_ret
  exact ⟨rfl, hb⟩

theorem signed_walk {H : Type} {enc : TypeId × Value → H} (W : World) (base : Nat)
    (v0 : Value) (d0 : DataW H) (p0 : List MemPlace) (o0 : Value.okWide Try.prog W .any base 22 v0) (h0 : DataW.Trod enc Try.prog W 0 (fun _ => true) true 22 v0 d0 p0)
    (v1 : Value) (d1 : DataW H) (p1 : List MemPlace) (o1 : Value.okWide Try.prog W .any base 3 v1) (h1 : DataW.Trod enc Try.prog W 0 (fun _ => true) true 3 v1 d1 p1)
    (v2 : Value) (d2 : DataW H) (p2 : List MemPlace) (o2 : Value.okWide Try.prog W .any base 3 v2) (h2 : DataW.Trod enc Try.prog W 0 (fun _ => true) true 3 v2 d2 p2) :
    Calls Try.prog 5 #[v0, v1, v2] W fun e W' => e = .returned (.bool true) ∧ Below W.heap.size W W' := by
  obtain ⟨a0, rfl, rfl, rfl, w0⟩ := open_int Try.underlying22 o0 h0
  obtain ⟨a1, rfl, rfl, rfl, w1⟩ := open_int Try.underlying3 o1 h1
  obtain ⟨a2, rfl, rfl, rfl, w2⟩ := open_int Try.underlying3 o2 h2
  have b0 := bounds_u64 w0
  have b1 := bounds_i64 w1
  exact signed_core a0 a1 a2 W (by omega) (by omega) (by omega) (by omega)
end Go.Proofs.Ytkmdgdjdkkmjcaa
