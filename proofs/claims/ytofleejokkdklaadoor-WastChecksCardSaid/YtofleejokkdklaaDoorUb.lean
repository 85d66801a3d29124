/- The walk of WastForms. -/
import Derived.Test.YtofleejokkdklaaDoorOa
import Derived.Test.YtofleejokkdklaaDoorUl
namespace Go.Proofs.YtofleejokkdklaaDoor
open Go.RowKit
set_option linter.unusedVariables false

set_option maxRecDepth 100000 in
set_option maxHeartbeats 2000000 in
theorem rname_any (s : ByteArray) (w : World) (hs : s.size ≤ 9223372036854775000) :
    Calls Tryd.prog 12 #[.string s] w fun e w' => e = .returned (.bool (nameB s)) ∧ w = w' := by
  have HV := fun w => Lib.hid (utf_any s w hs)
  have hS : Hid (nameB s = (decide ((s.size : Int) ≤ 64) && Lib.validD s.data.toList)) := Lib.hid rfl
  go_enter Tryd.func12, Tryd.ntmps12
  by_cases h64 : (s.size : Int) ≤ 64
  · go_wp2_with fail
    refine (HV _).out.mono ?_
    rintro e w' ⟨rfl, rfl⟩
    go_wp2
    go_ret
    exact ⟨by rw [hS.out]; simp [h64], rfl⟩
  · have hd : decide ((s.size : Int) ≤ 64) = false := decide_eq_false h64
    have hS2 : nameB s = false := by rw [hS.out, hd]; rfl
    clear hd
    go_wp2
    go_ret
    exact ⟨rfl, rfl⟩

set_option maxRecDepth 100000 in
set_option maxHeartbeats 2000000 in
theorem forms_any (op : Int) (s : ByteArray) (w : World) (hT : TabU w) (hs : s.size ≤ 9223372036854775807) :
    Calls Tryd.prog 3 #[.int .i64 op, .string s] w fun e w' => e = .returned (.bool true) ∧ Below w.heap.size w w' := by
  have HU := Lib.hid hT
  clear hT
  go_enter Tryd.func3, Tryd.ntmps3
  by_cases h5 : (s.size : Int) > 5000
  · go_wp2_with fail
    refine (wakes_any _ HU.out).mono ?_
    rintro e w' ⟨rfl, b⟩
    go_wp2
    go_ret
    exact ⟨rfl, b⟩
  · go_wp2_with fail
    refine (form_any op _).mono ?_
    rintro e w2 ⟨rfl, b2⟩
    have B2 := Lib.hid b2
    clear b2
    go_wp2_with fail
    refine (rform_any op _).mono ?_
    rintro e w3 ⟨rfl, rfl⟩
    go_wp2_with fail
    refine (name_any s _ hs (HU.out.below B2.out)).mono ?_
    rintro e w3 ⟨rfl, b3⟩
    have B3 := Lib.hid (B2.out.trans (b3.mono B2.out.size))
    clear b3 B2
    go_wp2_with fail
    refine (rname_any s _ (by omega)).mono ?_
    rintro e w4 ⟨rfl, rfl⟩
    go_wp2_with fail
    refine (wakes_any _ (HU.out.below B3.out)).mono ?_
    rintro e w5 ⟨rfl, b5⟩
    have B5 := B3.out.trans (b5.mono B3.out.size)
    clear b5 B3
    go_wp2
    go_ret
    exact ⟨rfl, B5⟩
end Go.Proofs.YtofleejokkdklaaDoor
