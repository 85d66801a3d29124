/- Na -/
import Derived.Test.YtanpjbbhhofkfaaGreatDoorMj
import Derived.Test.YtanpjbbhhofkfaaGreatDoorVa
namespace Go.Proofs.YtanpjbbhhofkfaaGreatDoor
open Go.RowKit
set_option linter.unusedVariables false
set_option linter.unusedSimpArgs false
set_option maxRecDepth 100000
set_option maxHeartbeats 4000000
def TabU (w : World) : Prop := Lib.Utf8Tabs (Tryz.laysValid_ren.g 3) (Tryz.laysValid_ren.g 4) w
theorem TabU.below {w w' : World} (h : TabU w) (hb : Below w.heap.size w w') : TabU w' := Utf8Tabs_below h hb
theorem valid_any (s : ByteArray) (w : World) (hs : s.size ≤ 9223372036854775807) (hT : TabU w) :
 Calls Tryz.prog 97 #[.string s] w fun e w' => e = .returned (.bool (Lib.validD s.data.toList)) ∧ Below w.heap.size w w' := Any.utf8_ValidString Tryz.laysValid s w hs hT
def nameB (s : ByteArray) : Bool := decide ((s.size : Int) ≤ 64) && Lib.validD s.data.toList
theorem name_any (s : ByteArray) (w : World) (hs : s.size ≤ 9223372036854775807) (hT : TabU w) :
 Calls Tryz.prog 69 #[.string s] w fun e w' => e = .returned (.bool (nameB s)) ∧ Below w.heap.size w w' := by
 have HV := fun w hT => zh (valid_any s w hs hT); have HT := zh hT; clear hT; unfold nameB
 generalize Lib.validD s.data.toList = V at *
 by_cases h : (s.size : Int) ≤ 64
 · have hd : decide ((s.size : Int) ≤ 64) = true := decide_eq_true h; rw [hd, Bool.true_and]; go_enter Tryz.func69, Tryz.ntmps69; go_wp2_with fail; refine (HV _ HT.out).out.mono ?_; rintro e w2 ⟨rfl, b2⟩; go_wp2; go_ret; exact ⟨rfl, b2⟩
 · have hd : decide ((s.size : Int) ≤ 64) = false := decide_eq_false h; rw [hd, Bool.false_and]; go_enter Tryz.func69, Tryz.ntmps69; go_wp2; go_ret; exact ⟨rfl, Below.refl _ _⟩
theorem name1_any (s : ByteArray) (w : World) (hs : s.size ≤ 9223372036854775807) (hT : TabU w) :
 Calls Tryz.prog 68 #[.string s] w fun e w' => e = endE (nameB s) 30 ∧ Below w.heap.size w w' := by
 have HV := fun w hT => zh (name_any s w hs hT); have HT := zh hT; clear hT
 generalize nameB s = V at *
 go_enter Tryz.func68, Tryz.ntmps68; go_wp2_with fail; refine (HV _ HT.out).out.mono ?_; rintro e w2 ⟨rfl, b2⟩; have hb := zh b2; clear b2; cases V
 · go_wp2_with fail; refine (want_no 30 _).mono ?_; rintro e w' ⟨rfl, rfl⟩; go_wp2; exact ⟨rfl, rfl, hb.out⟩
 · go_wp2_with fail; refine (want_yes 30 _).mono ?_; rintro e w' ⟨rfl, rfl⟩; go_wp2; go_end0; exact ⟨rfl, hb.out⟩
end Go.Proofs.YtanpjbbhhofkfaaGreatDoor
