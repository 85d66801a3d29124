/- The contract of Name. -/
import Derived.Test.YtkbfjkbokifgkaaDoorVa
import Derived.Test.YtkbfjkbokifgkaaDoorMj
namespace Go.Proofs.YtkbfjkbokifgkaaDoor
open Go.RowKit
set_option linter.unusedVariables false

/-- The library's two tables lie as they are laid. -/
def TabU (w : World) : Prop := Lib.Utf8Tabs (Tryd.laysValid_ren.g 3) (Tryd.laysValid_ren.g 4) w
theorem TabU.below {w w' : World} (h : TabU w) (hb : Below w.heap.size w w') : TabU w' := Utf8Tabs_below h hb
theorem valid_any (s : ByteArray) (w : World) (hs : s.size ≤ 9223372036854775807) (hT : TabU w) :
    Calls Tryd.prog 59 #[.string s] w fun e w' => e = .returned (.bool (Lib.validD s.data.toList)) ∧ Below w.heap.size w w' := Any.utf8_ValidString Tryd.laysValid s w hs hT
def nameB (s : ByteArray) : Bool := decide ((s.size : Int) ≤ 64) && Lib.validD s.data.toList

set_option maxRecDepth 100000 in
set_option maxHeartbeats 2000000 in
theorem name_any (s : ByteArray) (w : World) (hs : s.size ≤ 9223372036854775807) (hT : TabU w) :
    Calls Tryd.prog 100 #[.string s] w fun e w' => e = .returned (.bool (nameB s)) ∧ Below w.heap.size w w' := by
  have HV := fun w hT => Lib.hid (valid_any s w hs hT)
  have HT := Lib.hid hT
  clear hT
  unfold nameB
  generalize Lib.validD s.data.toList = V at *
  by_cases h : (s.size : Int) ≤ 64
  · have hd : decide ((s.size : Int) ≤ 64) = true := decide_eq_true h
    rw [hd, Bool.true_and]
    go_enter Tryd.func100, Tryd.ntmps100
    go_wp2_with fail
    refine (HV _ HT.out).out.mono ?_
    rintro e w2 ⟨rfl, b2⟩
    go_wp2
    go_ret
    exact ⟨rfl, b2⟩
  · have hd : decide ((s.size : Int) ≤ 64) = false := decide_eq_false h
    rw [hd, Bool.false_and]
    go_enter Tryd.func100, Tryd.ntmps100
    go_wp2
    go_ret
    exact ⟨rfl, Below.refl _ _⟩

theorem name1_any (s : ByteArray) (w : World) (hs : s.size ≤ 9223372036854775807) (hT : TabU w) :
    Calls Tryd.prog 99 #[.string s] w fun e w' => e = endE (nameB s) 30 ∧ Below w.heap.size w w' := by
  have HV := fun w hT => Lib.hid (name_any s w hs hT)
  have HT := Lib.hid hT
  clear hT
  generalize nameB s = V at *
  go_enter Tryd.func99, Tryd.ntmps99
  go_wp2_with fail
  refine (HV _ HT.out).out.mono ?_
  rintro e w2 ⟨rfl, b2⟩
  have hb := Lib.hid b2
  clear b2
  cases V
  · go_wp2_with fail
    refine (want_no 30 _).mono ?_
    rintro e w' ⟨rfl, rfl⟩
    go_wp2
    exact ⟨rfl, rfl, hb.out⟩
  · go_wp2_with fail
    refine (want_yes 30 _).mono ?_
    rintro e w' ⟨rfl, rfl⟩
    go_wp2
    go_end0
    exact ⟨rfl, hb.out⟩
theorem name1_yes (s : ByteArray) (w : World) (hs : s.size ≤ 9223372036854775807) (hT : TabU w) (h : nameB s = true) : Calls Tryd.prog 99 #[.string s] w fun e w' => e = .returned (.tuple #[]) ∧ Below w.heap.size w w' := by
  have := name1_any s w hs hT
  rw [h, endE_yes] at this
  exact this
theorem name1_no (s : ByteArray) (w : World) (hs : s.size ≤ 9223372036854775807) (hT : TabU w) (h : nameB s = false) : Calls Tryd.prog 99 #[.string s] w fun e w' => e = .panicked (fault 30) ∧ Below w.heap.size w w' := by
  have := name1_any s w hs hT
  rw [h, endE_no] at this
  exact this
end Go.Proofs.YtkbfjkbokifgkaaDoor
