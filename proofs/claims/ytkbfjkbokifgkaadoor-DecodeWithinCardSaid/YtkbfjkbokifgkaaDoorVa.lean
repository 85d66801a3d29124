/-
  DERIVED: THE SHELF's CONTRACTS AT THIS DUMP, IN PLAIN WORDS (tools/lay-plain.mjs out of 'YtkbfjkbokifgkaaDoorVa.lean', which tools/lay-shelf.mjs wrote): THE SAME DECLARATIONS UNDER THE SAME NAMES: 'import', 'namespace', 'open', 'def', 'theorem' AND NOTHING ELSE: no command of the shelf's: FOR A HAND-IN. Each laying: the table of numbers ('.._ren') and one theorem, a field a fact of the dump's own or the kernel's comparison; each contract: ONE APPLICATION.
-/
import Derived.Test.YtkbfjkbokifgkaaDoorChecked
import Derived.Ground.NamesProg
import Derived.Shelf.Unicode.ValidAny
import Derived.Test.YtkbfjkbokifgkaaDoorMj
namespace Go.Proofs
open Go.Shelf
def Tryd.laysValid_ren : Go.Shelf.Ren := ⟨fun | 196 => 59 | 259 => 108 | n => n, fun | 9 => 9 | 4 => 4 | 3 => 3 | 5 => 5 | 12 => 12 | 119 => 128 | 0 => 0 | 46 => 96 | 139 => 131 | 138 => 130 | 53 => 59 | n => n, fun | 3 => 0 | 4 => 1 | n => n⟩
theorem Tryd.laysValid : Go.Proofs.Lays.n196 Tryd.prog Tryd.laysValid_ren := {
  mixed := by kernel_rfl
  f196 := Tryd.func59.trans (congrArg some (by kernel_rfl))
  f259 := Tryd.func108.trans (congrArg some (by kernel_rfl))
  t0 := Tryd.underlying0
  a0 := Tryd.isAgg0
  z0 := Tryd.sizeOf0
  v0 := Tryd.zeroValue0
  t3 := Tryd.underlying3
  a3 := Tryd.isAgg3
  z3 := Tryd.sizeOf3
  v3 := Tryd.zeroValue3
  t4 := Tryd.underlying4
  a4 := Tryd.isAgg4
  z4 := Tryd.sizeOf4
  v4 := Tryd.zeroValue4
  t5 := Tryd.underlying5
  a5 := Tryd.isAgg5
  z5 := Tryd.sizeOf5
  v5 := Tryd.zeroValue5
  t9 := Tryd.underlying9
  a9 := Tryd.isAgg9
  z9 := Tryd.sizeOf9
  v9 := Tryd.zeroValue9
  t12 := Tryd.underlying12
  a12 := Tryd.isAgg12
  z12 := Tryd.sizeOf12
  v12 := Tryd.zeroValue12
  t46 := Tryd.underlying96
  a46 := Tryd.isAgg96
  z46 := Tryd.sizeOf96
  v46 := Tryd.zeroValue96
  t53 := Tryd.underlying59
  a53 := Tryd.isAgg59
  z53 := Tryd.sizeOf59
  v53 := Tryd.zeroValue59
  t119 := Tryd.underlying128
  a119 := Tryd.isAgg128
  z119 := Tryd.sizeOf128
  t138 := Tryd.underlying130
  a138 := Tryd.isAgg130
  z138 := Tryd.sizeOf130
  v138 := Tryd.zeroValue130
  t139 := Tryd.underlying131
  a139 := Tryd.isAgg131
  z139 := Tryd.sizeOf131
  v139 := Tryd.zeroValue131
  g3 := by kernel_rfl
  g4 := by kernel_rfl }
end Go.Proofs

namespace Go.Proofs.YtkbfjkbokifgkaaDoor
open Go.RowKit
set_option linter.unusedVariables false

/-- The library's two tables lie as they are laid. -/
def TabU (w : World) : Prop := Lib.Utf8Tabs (Tryd.laysValid_ren.g 3) (Tryd.laysValid_ren.g 4) w
theorem TabU.below {w w' : World} (h : TabU w) (hb : Below w.heap.size w w') : TabU w' := Utf8Tabs_below h hb
theorem valid_any (s : ByteArray) (w : World) (hs : s.size ≤ 9223372036854775807) (hT : TabU w) :
    Calls Tryd.prog 59 #[.string s] w fun e w' => e = .returned (.bool (Lib.validD s.data.toList)) ∧ Below w.heap.size w w' := Any.utf8_ValidString Tryd.laysValid s w hs hT
def nameB (s : ByteArray) : Bool := decide ((s.size : Int) ≤ 64) && Lib.validD s.data.toList

set_option maxRecDepth 100000 in
set_option maxHeartbeats 2000000 in
theorem name_any (s : ByteArray) (w : World) (hs : s.size ≤ 9223372036854775807) (hT : TabU w) :
    Calls Tryd.prog 100 #[.string s] w fun e w' => e = .returned (.bool (nameB s)) ∧ Below w.heap.size w w' := by
  have HV := fun w hT => Lib.hid (valid_any s w hs hT)
  have HT := Lib.hid hT
  clear hT
  unfold nameB
  generalize Lib.validD s.data.toList = V at *
  by_cases h : (s.size : Int) ≤ 64
  · have hd : decide ((s.size : Int) ≤ 64) = true := decide_eq_true h
    rw [hd, Bool.true_and]
    go_enter Tryd.func100, Tryd.ntmps100
    go_wp2_with fail
    refine (HV _ HT.out).out.mono ?_
    rintro e w2 ⟨rfl, b2⟩
    go_wp2
    go_ret
    exact ⟨rfl, b2⟩
  · have hd : decide ((s.size : Int) ≤ 64) = false := decide_eq_false h
    rw [hd, Bool.false_and]
    go_enter Tryd.func100, Tryd.ntmps100
    go_wp2
    go_ret
    exact ⟨rfl, Below.refl _ _⟩

theorem name1_any (s : ByteArray) (w : World) (hs : s.size ≤ 9223372036854775807) (hT : TabU w) :
    Calls Tryd.prog 99 #[.string s] w fun e w' => e = endE (nameB s) 30 ∧ Below w.heap.size w w' := by
  have HV := fun w hT => Lib.hid (name_any s w hs hT)
  have HT := Lib.hid hT
  clear hT
  generalize nameB s = V at *
  go_enter Tryd.func99, Tryd.ntmps99
  go_wp2_with fail
  refine (HV _ HT.out).out.mono ?_
  rintro e w2 ⟨rfl, b2⟩
  have hb := Lib.hid b2
  clear b2
  cases V
  · go_wp2_with fail
    refine (want_no 30 _).mono ?_
    rintro e w' ⟨rfl, rfl⟩
    go_wp2
    exact ⟨rfl, rfl, hb.out⟩
  · go_wp2_with fail
    refine (want_yes 30 _).mono ?_
    rintro e w' ⟨rfl, rfl⟩
    go_wp2
    go_end0
    exact ⟨rfl, hb.out⟩
theorem name1_yes (s : ByteArray) (w : World) (hs : s.size ≤ 9223372036854775807) (hT : TabU w) (h : nameB s = true) : Calls Tryd.prog 99 #[.string s] w fun e w' => e = .returned (.tuple #[]) ∧ Below w.heap.size w w' := by
  have := name1_any s w hs hT
  rw [h, endE_yes] at this
  exact this
theorem name1_no (s : ByteArray) (w : World) (hs : s.size ≤ 9223372036854775807) (hT : TabU w) (h : nameB s = false) : Calls Tryd.prog 99 #[.string s] w fun e w' => e = .panicked (fault 30) ∧ Below w.heap.size w w' := by
  have := name1_any s w hs hT
  rw [h, endE_no] at this
  exact this
end Go.Proofs.YtkbfjkbokifgkaaDoor
