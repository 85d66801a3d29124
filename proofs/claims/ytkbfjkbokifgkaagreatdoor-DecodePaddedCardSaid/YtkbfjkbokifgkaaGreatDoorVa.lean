/-
  DERIVED: THE SHELF's CONTRACTS AT THIS DUMP, IN PLAIN WORDS (tools/lay-plain.mjs out of 'YtkbfjkbokifgkaaGreatDoorVa.lean', which tools/lay-shelf.mjs wrote): THE SAME DECLARATIONS UNDER THE SAME NAMES: 'import', 'namespace', 'open', 'def', 'theorem' AND NOTHING ELSE: no command of the shelf's: FOR A HAND-IN. Each laying: the table of numbers ('.._ren') and one theorem, a field a fact of the dump's own or the kernel's comparison; each contract: ONE APPLICATION.
-/
import Derived.Test.YtkbfjkbokifgkaaGreatDoorChecked
import Derived.Ground.NamesProg
import Derived.Shelf.Unicode.ValidAny
import Derived.Test.YtkbfjkbokifgkaaGreatDoorFa
namespace Go.Proofs
open Go.Shelf
def Tryz.laysValid_ren : Go.Shelf.Ren := ⟨fun | 196 => 117 | 259 => 175 | n => n, fun | 9 => 9 | 4 => 4 | 3 => 3 | 5 => 5 | 12 => 12 | 119 => 159 | 0 => 0 | 46 => 104 | 139 => 162 | 138 => 161 | 53 => 49 | n => n, fun | 3 => 0 | 4 => 1 | n => n⟩
theorem Tryz.laysValid : Go.Proofs.Lays.n196 Tryz.prog Tryz.laysValid_ren := {
  mixed := by kernel_rfl
  f196 := Tryz.func117.trans (congrArg some (by kernel_rfl))
  f259 := Tryz.func175.trans (congrArg some (by kernel_rfl))
  t0 := Tryz.underlying0
  a0 := Tryz.isAgg0
  z0 := Tryz.sizeOf0
  v0 := Tryz.zeroValue0
  t3 := Tryz.underlying3
  a3 := Tryz.isAgg3
  z3 := Tryz.sizeOf3
  v3 := Tryz.zeroValue3
  t4 := Tryz.underlying4
  a4 := Tryz.isAgg4
  z4 := Tryz.sizeOf4
  v4 := Tryz.zeroValue4
  t5 := Tryz.underlying5
  a5 := Tryz.isAgg5
  z5 := Tryz.sizeOf5
  v5 := Tryz.zeroValue5
  t9 := Tryz.underlying9
  a9 := Tryz.isAgg9
  z9 := Tryz.sizeOf9
  v9 := Tryz.zeroValue9
  t12 := Tryz.underlying12
  a12 := Tryz.isAgg12
  z12 := Tryz.sizeOf12
  v12 := Tryz.zeroValue12
  t46 := Tryz.underlying104
  a46 := Tryz.isAgg104
  z46 := Tryz.sizeOf104
  v46 := Tryz.zeroValue104
  t53 := Tryz.underlying49
  a53 := Tryz.isAgg49
  z53 := Tryz.sizeOf49
  v53 := Tryz.zeroValue49
  t119 := Tryz.underlying159
  a119 := Tryz.isAgg159
  z119 := Tryz.sizeOf159
  t138 := Tryz.underlying161
  a138 := Tryz.isAgg161
  z138 := Tryz.sizeOf161
  v138 := Tryz.zeroValue161
  t139 := Tryz.underlying162
  a139 := Tryz.isAgg162
  z139 := Tryz.sizeOf162
  v139 := Tryz.zeroValue162
  g3 := by kernel_rfl
  g4 := by kernel_rfl }
end Go.Proofs

namespace Go.Proofs.YtkbfjkbokifgkaaGreatDoor
open Go.RowKit
set_option linter.unusedVariables false

/-- The library's two tables lie as they are laid. -/
def TabU (w : World) : Prop := Lib.Utf8Tabs (Tryz.laysValid_ren.g 3) (Tryz.laysValid_ren.g 4) w
theorem TabU.below {w w' : World} (h : TabU w) (hb : Below w.heap.size w w') : TabU w' := Utf8Tabs_below h hb
theorem valid_any (s : ByteArray) (w : World) (hs : s.size ≤ 9223372036854775807) (hT : TabU w) :
    Calls Tryz.prog 117 #[.string s] w fun e w' => e = .returned (.bool (Lib.validD s.data.toList)) ∧ Below w.heap.size w w' := Any.utf8_ValidString Tryz.laysValid s w hs hT
def nameB (s : ByteArray) : Bool := decide ((s.size : Int) ≤ 64) && Lib.validD s.data.toList

set_option maxRecDepth 100000 in
set_option maxHeartbeats 2000000 in
theorem name_any (s : ByteArray) (w : World) (hs : s.size ≤ 9223372036854775807) (hT : TabU w) :
    Calls Tryz.prog 165 #[.string s] w fun e w' => e = .returned (.bool (nameB s)) ∧ Below w.heap.size w w' := by
  have HV := fun w hT => Lib.hid (valid_any s w hs hT)
  have HT := Lib.hid hT
  clear hT
  unfold nameB
  generalize Lib.validD s.data.toList = V at *
  by_cases h : (s.size : Int) ≤ 64
  · have hd : decide ((s.size : Int) ≤ 64) = true := decide_eq_true h
    rw [hd, Bool.true_and]
    go_enter Tryz.func165, Tryz.ntmps165
    go_wp2_with fail
    refine (HV _ HT.out).out.mono ?_
    rintro e w2 ⟨rfl, b2⟩
    go_wp2
    go_ret
    exact ⟨rfl, b2⟩
  · have hd : decide ((s.size : Int) ≤ 64) = false := decide_eq_false h
    rw [hd, Bool.false_and]
    go_enter Tryz.func165, Tryz.ntmps165
    go_wp2
    go_ret
    exact ⟨rfl, Below.refl _ _⟩

theorem name1_any (s : ByteArray) (w : World) (hs : s.size ≤ 9223372036854775807) (hT : TabU w) :
    Calls Tryz.prog 164 #[.string s] w fun e w' => e = endE (nameB s) 30 ∧ Below w.heap.size w w' := by
  have HV := fun w hT => Lib.hid (name_any s w hs hT)
  have HT := Lib.hid hT
  clear hT
  generalize nameB s = V at *
  go_enter Tryz.func164, Tryz.ntmps164
  go_wp2_with fail
  refine (HV _ HT.out).out.mono ?_
  rintro e w2 ⟨rfl, b2⟩
  have hb := Lib.hid b2
  clear b2
  cases V
  · go_wp2_with fail
    refine (want_no 30 _).mono ?_
    rintro e w' ⟨rfl, rfl⟩
    go_wp2
    exact ⟨rfl, rfl, hb.out⟩
  · go_wp2_with fail
    refine (want_yes 30 _).mono ?_
    rintro e w' ⟨rfl, rfl⟩
    go_wp2
    go_end0
    exact ⟨rfl, hb.out⟩
theorem name1_yes (s : ByteArray) (w : World) (hs : s.size ≤ 9223372036854775807) (hT : TabU w) (h : nameB s = true) : Calls Tryz.prog 164 #[.string s] w fun e w' => e = .returned (.tuple #[]) ∧ Below w.heap.size w w' := by
  have := name1_any s w hs hT
  rw [h, endE_yes] at this
  exact this
theorem name1_no (s : ByteArray) (w : World) (hs : s.size ≤ 9223372036854775807) (hT : TabU w) (h : nameB s = false) : Calls Tryz.prog 164 #[.string s] w fun e w' => e = .panicked (fault 30) ∧ Below w.heap.size w w' := by
  have := name1_any s w hs hT
  rw [h, endE_no] at this
  exact this
end Go.Proofs.YtkbfjkbokifgkaaGreatDoor
