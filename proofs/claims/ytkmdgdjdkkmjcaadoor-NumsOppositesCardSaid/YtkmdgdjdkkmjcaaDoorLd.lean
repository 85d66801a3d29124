/- What the condition on the laid table gives the walks; a start that meets it. -/
import Derived.Test.YtkmdgdjdkkmjcaaDoorP
import Derived.Test.YtkmdgdjdkkmjcaaDoorRows
import Derived.ProofKit
import Derived.LaidMore
import Derived.OpenShut
import Derived.MakeChecks
import Derived.LaidLaws
namespace Go.Proofs.YtkmdgdjdkkmjcaaDoor
open Go.ChangeShapes Go.WideShapes Go.ChangeAt Go.RowKit
set_option linter.unusedVariables false

theorem gTab : Tryd.prog.globalNamed "math/bits.deBruijn64tab" = some 0 := by kernel_rfl
theorem tTab : (Tryd.prog.globals[0]?).map (·.type) = some 69 := by kernel_rfl
def laidOne : List (String × DataW Unit) := [("math/bits.deBruijn64tab", Rows.laid_math_bits_deBruijn64tab)]
theorem laid_tab {H : Type} : (Rows.laid_math_bits_deBruijn64tab : DataW H) = .agg (Lib.deBruijn64tab.map fun k : Nat => .lit (.int .u8 (k : Int))) := rfl

set_option maxRecDepth 100000 in
theorem door_met (os : Os) (args : Array Value) : laidMetH Tryd.prog laidOne ((World.doorLaid Tryd.prog 14 os).forCall (fun _ _ => 0) ⟨#[], args, []⟩).memory :=
  laidMetH_of_parts3 (fuel := 8) (laidMet_of_run' 8 (by kernel_rfl) (by kernel_rfl)) (by kernel_rfl) (by kernel_rfl)

theorem tab_of_laid {W : World} (h : laidMetH Tryd.prog laidOne W) : TabAt W := by
  rw [MakeChecks.laidMetH_plain _ _ _ (by kernel_rfl)] at h
  obtain ⟨ps, ⟨g0, t0, cs0, f0, p0, q0, hg0, ht0, hv0, hd0, _, _⟩, _, _⟩ := h
  obtain rfl := Option.some.inj (gTab.symm.trans hg0)
  obtain rfl := Option.some.inj (tTab.symm.trans ht0)
  obtain ⟨xs, m1, rfl, hx1, hlen, hn, hel⟩ := DataW.trod_array Tryd.underlying69 hd0
  have c5 : Tryd.prog.cellsOf 5 = 1 := by kernel_rfl
  have c69 : Tryd.prog.cellsOf 69 = 64 := by kernel_rfl
  simp only [Prod.mk.injEq] at hx1
  have hxs := hx1.1
  rw [laid_tab] at hxs
  simp only [DataW.agg.injEq] at hxs
  intro j hj
  have hj' : j < 64 := hj
  obtain ⟨y, hy⟩ : ∃ y, Lib.deBruijn64tab[j]? = some y := ⟨_, List.getElem?_eq_getElem hj⟩
  have hj2 := hel j hj'
  rw [c5, Nat.mul_one] at hj2
  have hxj : xs[j]? = some (xs[j]'(by omega)) := List.getElem?_eq_getElem (by omega)
  rw [hxj] at hj2
  obtain ⟨k, e1, e2, _⟩ := DataW.trod_int Tryd.underlying5 hj2
  have hk : (xs.map (·.1))[j]? = (Lib.deBruijn64tab.map fun k : Nat => (DataW.lit (.int .u8 (k : Int)) : DataW Unit))[j]? := by rw [hxs]
  rw [List.getElem?_map, List.getElem?_map, hxj, e2, hy] at hk
  simp only [Option.map_some, Option.some.injEq, DataW.lit.injEq, Lit.int.injEq, true_and] at hk
  have hcell := World.var?_cell hg0 hv0 j
  have hc : cs0.toList[j]? = some (.int .u8 k) := by
    have h1 : ((cs0.toList.drop j).take 1)[0]? = some (.int .u8 k) := by rw [e1]; rfl
    simpa [List.getElem?_take, List.getElem?_drop] using h1
  rw [Array.getElem?_toList] at hc
  rw [hc] at hcell
  have hg : Lib.deBruijn64tab.getD j 0 = y := by rw [List.getD_eq_getElem?_getD, hy]; rfl
  rw [hg, ← hk]
  exact hcell
end Go.Proofs.YtkmdgdjdkkmjcaaDoor
