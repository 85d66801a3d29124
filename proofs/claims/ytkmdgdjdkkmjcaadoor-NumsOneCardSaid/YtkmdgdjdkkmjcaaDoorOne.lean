/- The law NumsOne's walk. -/
import Derived.Test.YtkmdgdjdkkmjcaaDoorZA
import Derived.Test.YtkmdgdjdkkmjcaaDoorI
import Derived.Test.YtkmdgdjdkkmjcaaDoorLd
import Derived.ProofKit
import Derived.OpenShut
import Derived.ChangeOld
import Derived.Below
import Derived.Carry
import Derived.SizedLaws
namespace Go.Proofs.YtkmdgdjdkkmjcaaDoor
open Go.ChangeShapes Go.WideShapes Go.ChangeAt Go.RowKit
set_option linter.unusedVariables false

set_option maxRecDepth 100000 in
set_option maxHeartbeats 1000000 in
theorem one_any (op : Int) (a : Nat) (w : World) (o1 : -9223372036854775808 ≤ op) (o2 : op ≤ 9223372036854775807) (a2 : a < 18446744073709551616) (hT : TabAt w) :
    Calls Tryd.prog 3 #[.int .i64 op, .int .u64 a] w fun e w' => e = .returned (.bool true) ∧ Below w.heap.size w w' := by
  obtain ⟨k, n, t, h⟩ := of_ex op
  have HU := fun w hT => Lib.hid (unary_any op k n t a w h o1 o2 (Int.natCast_nonneg a) (by omega) hT)
  have HR := fun w => Lib.hid (runary_any op k n t a w h o1 o2 a2)
  have H0 := Lib.hid hT
  clear h hT
  generalize uV k n t a = V at *
  generalize uO k = B at *
  go_enter Tryd.func3, Tryd.ntmps3
  go_wp2_with fail
  refine (HU _ H0.out).out.mono ?_
  rintro e w1 ⟨rfl, b1⟩
  go_wp2_with fail
  refine (HR _).out.mono ?_
  rintro e w' ⟨rfl, rfl⟩
  go_wp2_with fail
  refine (wakes_any _).mono ?_
  rintro e w2 ⟨rfl, b2⟩
  go_wp2
  go_ret
  exact ⟨rfl, b1.trans (b2.mono b1.size)⟩

theorem one_walk {H : Type} {enc : TypeId × Value → H} (W : World) (base : Nat) (hT : TabAt W)
    (v0 : Value) (d0 : DataW H) (p0 : List MemPlace) (o0 : Value.okWide Tryd.prog W .any base 3 v0) (h0 : DataW.Trod enc Tryd.prog W 0 (fun _ => true) true 3 v0 d0 p0)
    (v1 : Value) (d1 : DataW H) (p1 : List MemPlace) (o1 : Value.okWide Tryd.prog W .any base 22 v1) (h1 : DataW.Trod enc Tryd.prog W 0 (fun _ => true) true 22 v1 d1 p1) :
    Calls Tryd.prog 3 #[v0, v1] W fun e W' => e = .returned (.bool true) ∧ Below W.heap.size W W' := by
  obtain ⟨a0, rfl, rfl, rfl, w0⟩ := open_int Tryd.underlying3 o0 h0
  obtain ⟨a1, rfl, rfl, rfl, w1⟩ := open_int Tryd.underlying22 o1 h1
  have b0 := bounds_i64 w0
  have b1 := bounds_u64 w1
  obtain ⟨a, rfl⟩ := Int.eq_ofNat_of_zero_le b1.1
  exact one_any a0 a W (by omega) (by omega) (by omega) hT
end Go.Proofs.YtkmdgdjdkkmjcaaDoor
