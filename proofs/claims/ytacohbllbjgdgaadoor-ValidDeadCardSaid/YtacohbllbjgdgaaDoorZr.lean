/- The reference's checker of a body: blocks, whatever stands in them. -/
import Derived.Test.YtacohbllbjgdgaaDoorZg
import Derived.Test.YtacohbllbjgdgaaDoorXq
import Derived.Test.YtacohbllbjgdgaaDoorXs
import Derived.Test.YtacohbllbjgdgaaDoorMj
import Derived.Test.YtacohbllbjgdgaaDoorRows
import Derived.ProofKit
import Derived.LaidMore
import Derived.OpenShut
import Derived.MakeChecks
import Derived.LaidLaws
import Derived.Lib.LaidU8T
import Derived.Lay
namespace Go.Proofs.YtacohbllbjgdgaaDoor
open Go.RowKit
set_option linter.unusedVariables false
set_option linter.unusedSimpArgs false

section
variable {wa : World} {N p : Nat} {A : MA} {lv : Value} {m : Md} {E : Ev} {w w' : World} {sv fv sv' fv' : Value} {s u : Rs}
end
end Go.Proofs.YtacohbllbjgdgaaDoor
namespace Go.Proofs.YtacohbllbjgdgaaDoor
open Go.RowKit
set_option linter.unusedVariables false
set_option linter.unusedSimpArgs false

theorem gb_below {w w' : World} {ob : Option Nat} (h : w.grownBy w' ob) {M : Nat} (hM : M ≤ w.heap.size) (ho : ∀ g, ob = some g → M ≤ g) : Below M w w' :=
  ⟨h.os, h.tape, h.output, h.size, fun k hk => h.block k (by omega) (fun e => by have := ho k e.symm; omega)⟩
section
variable {w w' : World} {A : MA} {m : Md}
end
end Go.Proofs.YtacohbllbjgdgaaDoor
namespace Go.Proofs.YtacohbllbjgdgaaDoor
open Go.ChangeShapes Go.WideShapes Go.ChangeAt Go.RowKit
set_option linter.unusedVariables false

def laidTwo : List (String × DataW Unit) := [("unicode/utf8.acceptRanges", Rows.laid_unicode_utf8_acceptRanges), ("unicode/utf8.first", Rows.laid_unicode_utf8_first)]
theorem first_data : (Rows.laid_unicode_utf8_first : DataW Unit) = Lib.firstData := by kernel_rfl
theorem accept_data : (Rows.laid_unicode_utf8_acceptRanges : DataW Unit) = Lib.acceptData := by kernel_rfl
theorem tab_of_laid {W : World} (h : laidMetH Tryd.prog laidTwo W) : TabU W := by
  rw [MakeChecks.laidMetH_plain _ _ _ (by kernel_rfl)] at h
  have h1 := Lib.laidMet.reads h (List.mem_cons_self ..)
  have h2 := Lib.laidMet.reads h (List.mem_cons_of_mem _ (List.mem_cons_self ..))
  rw [accept_data] at h1
  rw [first_data] at h2
  exact utf8Tabs_of_readsT (U8Types.of196 Tryd.laysValid) ⟨by kernel_rfl, by kernel_rfl, by kernel_rfl, by kernel_rfl, by kernel_rfl, by kernel_rfl, by kernel_rfl⟩ h2 h1
set_option maxRecDepth 100000 in
theorem door_met (os : Os) (args : Array Value) : laidMetH Tryd.prog laidTwo ((World.laidAll Tryd.prog os laidTwo).forCall (fun _ _ => 0) ⟨#[], args, []⟩).memory := by
  rw [MakeChecks.laidMetH_plain _ _ _ (by kernel_rfl)]
  exact laidMet_laidAll _ (by kernel_rfl) (by kernel_rfl)
end Go.Proofs.YtacohbllbjgdgaaDoor
