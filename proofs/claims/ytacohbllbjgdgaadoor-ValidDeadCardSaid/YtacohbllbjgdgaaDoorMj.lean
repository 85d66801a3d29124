/- The contracts of begins and of few's closure. -/
import Derived.Test.YtacohbllbjgdgaaDoorMi
import Derived.Test.YtacohbllbjgdgaaDoorVa
import Derived.Test.YtacohbllbjgdgaaDoorXi
import Derived.Test.YtacohbllbjgdgaaDoorXc
import Derived.Deep.RegionWith
import Derived.Test.YtacohbllbjgdgaaDoorMh
import Derived.Deep.QuietTactic
import Derived.BigQuiet
import Derived.WalkSmall
import Derived.Test.YtacohbllbjgdgaaDoorFa
namespace Go.Proofs.YtacohbllbjgdgaaDoor
open Go.RowKit
set_option linter.unusedVariables false

set_option maxRecDepth 100000 in
set_option maxHeartbeats 2000000 in
theorem begins_any (op x y n : Int) (ls : List Int) (body els : Il) (a4 : Option Addr) (k4 : Nat) (a5 : Option Addr) (k5 : Nat) (a6 : Option Addr) (k6 : Nat) (w : World) (h : OneIs w ⟨op, x, y, n, ls, body, els⟩ a4 k4 a5 k5 a6 k6) :
    Calls Tryd.prog 35 #[.agg #[.int .i64 op, .int .i64 x, .int .i64 y, .int .i64 n, .slice a4 ls.length k4, .slice a5 body.len k5, .slice a6 els.len k6]] w fun e w' => e = endE (beg1 ⟨op, x, y, n, ls, body, els⟩) 30 ∧ Below w.heap.size w w' := by
  have hal := fun o => (Below.refl w.heap.size w).alloc (Nat.le_refl _) o
  have hal2 : ∀ o1 o2, Below w.heap.size w ((w.alloc o1).alloc o2) := fun o1 o2 => (hal o1).alloc (by simp) o2
  obtain ⟨I, hI⟩ : ∃ I, One.il ⟨op, x, y, n, ls, body, els⟩ = I := ⟨_, rfl⟩
  have hlen : I.len = 1 := by rw [← hI]; rfl
  have hfor := fun (wq : World) hq => Lib.hid (formed_any I (some ⟨w.heap.size + 1, 0, none⟩) 1 wq (by omega) hq)
  have hnew : Hid (IlIn ((w.alloc (.cells #[.int .i64 op, .int .i64 x, .int .i64 y, .int .i64 n, .slice a4 ls.length k4, .slice a5 body.len k5, .slice a6 els.len k6] 26)).alloc (.cells #[.int .i64 op, .int .i64 x, .int .i64 y, .int .i64 n, .slice a4 ls.length k4, .slice a5 body.len k5, .slice a6 els.len k6] 26)) (some ⟨w.heap.size + 1, 0, none⟩) 0 I) := Lib.hid (by
    have := (h.keep (keep_below (hal (.cells #[.int .i64 op, .int .i64 x, .int .i64 y, .int .i64 n, .slice a4 ls.length k4, .slice a5 body.len k5, .slice a6 els.len k6] 26)))).new
    rw [hI] at this
    simpa [oneV] using this)
  rw [hlen] at hfor
  clear h
  have HY : Hid ((op == 65 || (op == 66 || op == 35)) = true → beg1 ⟨op, x, y, n, ls, body, els⟩ = formB I) := Lib.hid (fun h => by unfold beg1; rw [h, hI]; rfl)
  have HN : Hid ((op == 65 || (op == 66 || op == 35)) = false → beg1 ⟨op, x, y, n, ls, body, els⟩ = false) := Lib.hid (fun h => by unfold beg1; rw [h]; rfl)
  clear hI hlen
  by_cases h1 : op = 65
  · subst h1
    rw [HY.out rfl]
    clear HY HN
    generalize formB I = F at *
    go_enter Tryd.func35, Tryd.ntmps35
    go_wp2_with fail
    refine (want_yes 30 _).mono ?_
    rintro e w' ⟨rfl, rfl⟩
    go_wp2_with fail
    refine (hfor _ hnew.out).out.mono ?_
    rintro e w2 ⟨rfl, b2⟩
    have hb := Lib.hid ((hal2 _ _).trans (b2.mono (by simp; omega)))
    clear b2
    cases F
    · rw [endE_no]
      go_wp2
      exact ⟨rfl, rfl, hb.out⟩
    · rw [endE_yes]
      go_wp2
      go_end0
      exact ⟨rfl, hb.out⟩
  by_cases h2 : op = 66
  · subst h2
    rw [HY.out rfl]
    clear HY HN
    generalize formB I = F at *
    go_enter Tryd.func35, Tryd.ntmps35
    go_wp2_with fail
    refine (want_yes 30 _).mono ?_
    rintro e w' ⟨rfl, rfl⟩
    go_wp2_with fail
    refine (hfor _ hnew.out).out.mono ?_
    rintro e w2 ⟨rfl, b2⟩
    have hb := Lib.hid ((hal2 _ _).trans (b2.mono (by simp; omega)))
    clear b2
    cases F
    · rw [endE_no]
      go_wp2
      exact ⟨rfl, rfl, hb.out⟩
    · rw [endE_yes]
      go_wp2
      go_end0
      exact ⟨rfl, hb.out⟩
  by_cases h3 : op = 35
  · subst h3
    rw [HY.out rfl]
    clear HY HN
    generalize formB I = F at *
    go_enter Tryd.func35, Tryd.ntmps35
    go_wp2_with fail
    refine (want_yes 30 _).mono ?_
    rintro e w' ⟨rfl, rfl⟩
    go_wp2_with fail
    refine (hfor _ hnew.out).out.mono ?_
    rintro e w2 ⟨rfl, b2⟩
    have hb := Lib.hid ((hal2 _ _).trans (b2.mono (by simp; omega)))
    clear b2
    cases F
    · rw [endE_no]
      go_wp2
      exact ⟨rfl, rfl, hb.out⟩
    · rw [endE_yes]
      go_wp2
      go_end0
      exact ⟨rfl, hb.out⟩
  have q1 : (op == 65) = false := by simp [h1]
  have q2 : (op == 66) = false := by simp [h2]
  have q3 : (op == 35) = false := by simp [h3]
  rw [HN.out (by rw [q1, q2, q3]; rfl)]
  clear HY HN hfor hnew
  go_enter Tryd.func35, Tryd.ntmps35
  go_wp2_with fail
  refine (want_no 30 _).mono ?_
  rintro e w' ⟨rfl, rfl⟩
  go_wp2
  exact ⟨rfl, rfl, hal _⟩

theorem cnt1_any (n : Int) (w : World) : Calls Tryd.prog 26 #[.int .i64 n] w fun e w' => e = endE (decide (n ≤ 4096)) 3 ∧ w = w' := by
  by_cases h : n ≤ 4096
  · have hd : decide (n ≤ 4096) = true := by simp [h]
    rw [hd, endE_yes]
    go_enter Tryd.func26, Tryd.ntmps26
    go_wp2_with fail
    refine (want_yes 3 _).mono ?_
    rintro e w' ⟨rfl, rfl⟩
    go_wp2
    go_end0
    exact ⟨rfl, rfl⟩
  · have hd : decide (n ≤ 4096) = false := by simp [h]
    rw [hd, endE_no]
    go_enter Tryd.func26, Tryd.ntmps26
    go_wp2_with fail
    refine (want_no 3 _).mono ?_
    rintro e w' ⟨rfl, rfl⟩
    go_wp2
    exact ⟨rfl, rfl, rfl⟩
theorem cnt1_yes (n : Int) (w : World) (h : n ≤ 4096) : Calls Tryd.prog 26 #[.int .i64 n] w fun e w' => e = .returned (.tuple #[]) ∧ w = w' := by
  have := cnt1_any n w
  rw [decide_eq_true h, endE_yes] at this
  exact this
theorem cnt1_no (n : Int) (w : World) (h : ¬ n ≤ 4096) : Calls Tryd.prog 26 #[.int .i64 n] w fun e w' => e = .panicked (fault 3) ∧ w = w' := by
  have := cnt1_any n w
  rw [decide_eq_false h, endE_no] at this
  exact this
end Go.Proofs.YtacohbllbjgdgaaDoor
namespace Go.Proofs.YtacohbllbjgdgaaDoor
open Go.RowKit
set_option linter.unusedVariables false

/-- The library's two tables lie as they are laid. -/
def TabU (w : World) : Prop := Lib.Utf8Tabs (Tryd.laysValid_ren.g 3) (Tryd.laysValid_ren.g 4) w
theorem TabU.below {w w' : World} (h : TabU w) (hb : Below w.heap.size w w') : TabU w' := Utf8Tabs_below h hb
theorem valid_any (s : ByteArray) (w : World) (hs : s.size ≤ 9223372036854775807) (hT : TabU w) :
    Calls Tryd.prog 43 #[.string s] w fun e w' => e = .returned (.bool (Lib.validD s.data.toList)) ∧ Below w.heap.size w w' := Any.utf8_ValidString Tryd.laysValid s w hs hT
def nameB (s : ByteArray) : Bool := decide ((s.size : Int) ≤ 64) && Lib.validD s.data.toList

set_option maxRecDepth 100000 in
set_option maxHeartbeats 2000000 in
theorem name_any (s : ByteArray) (w : World) (hs : s.size ≤ 9223372036854775807) (hT : TabU w) :
    Calls Tryd.prog 31 #[.string s] w fun e w' => e = .returned (.bool (nameB s)) ∧ Below w.heap.size w w' := by
  have HV := fun w hT => Lib.hid (valid_any s w hs hT)
  have HT := Lib.hid hT
  clear hT
  unfold nameB
  generalize Lib.validD s.data.toList = V at *
  by_cases h : (s.size : Int) ≤ 64
  · have hd : decide ((s.size : Int) ≤ 64) = true := decide_eq_true h
    rw [hd, Bool.true_and]
    go_enter Tryd.func31, Tryd.ntmps31
    go_wp2_with fail
    refine (HV _ HT.out).out.mono ?_
    rintro e w2 ⟨rfl, b2⟩
    go_wp2
    go_ret
    exact ⟨rfl, b2⟩
  · have hd : decide ((s.size : Int) ≤ 64) = false := decide_eq_false h
    rw [hd, Bool.false_and]
    go_enter Tryd.func31, Tryd.ntmps31
    go_wp2
    go_ret
    exact ⟨rfl, Below.refl _ _⟩

theorem name1_any (s : ByteArray) (w : World) (hs : s.size ≤ 9223372036854775807) (hT : TabU w) :
    Calls Tryd.prog 30 #[.string s] w fun e w' => e = endE (nameB s) 30 ∧ Below w.heap.size w w' := by
  have HV := fun w hT => Lib.hid (name_any s w hs hT)
  have HT := Lib.hid hT
  clear hT
  generalize nameB s = V at *
  go_enter Tryd.func30, Tryd.ntmps30
  go_wp2_with fail
  refine (HV _ HT.out).out.mono ?_
  rintro e w2 ⟨rfl, b2⟩
  have hb := Lib.hid b2
  clear b2
  cases V
  · go_wp2_with fail
    refine (want_no 30 _).mono ?_
    rintro e w' ⟨rfl, rfl⟩
    go_wp2
    exact ⟨rfl, rfl, hb.out⟩
  · go_wp2_with fail
    refine (want_yes 30 _).mono ?_
    rintro e w' ⟨rfl, rfl⟩
    go_wp2
    go_end0
    exact ⟨rfl, hb.out⟩
end Go.Proofs.YtacohbllbjgdgaaDoor
namespace Go.Proofs.YtacohbllbjgdgaaDoor
open Go.RowKit
set_option linter.unusedVariables false
set_option linter.unusedSimpArgs false

/-- How high the stack was where the innermost frame begins. -/
def hR (s : Rs) : Nat := (s.fs.headD fr0).h
end Go.Proofs.YtacohbllbjgdgaaDoor
namespace Go.Proofs.YtacohbllbjgdgaaDoor
open Go.RowKit
set_option linter.unusedVariables false
set_option linter.unusedSimpArgs false

/-- What a module's ten cells hold. -/
structure M10 where
  v0 : Value
  v1 : Value
  v2 : Value
  v3 : Value
  v4 : Value
  v5 : Value
  v6 : Value
  v7 : Value
  v8 : Value
  v9 : Value
section
variable {N p : Nat} {M : M10} {lv : Value} {w w' : World} {sv fv sv' fv' : Value} {s : Rs}
end
end Go.Proofs.YtacohbllbjgdgaaDoor
namespace Go.Proofs.YtacohbllbjgdgaaDoor
open Go.RowKit
set_option linter.unusedVariables false
set_option linter.unusedSimpArgs false

section
variable {N p : Nat} {M : M10} {lv : Value} {w w' : World} {sv fv sv' fv' : Value} {s : Rs}
end
end Go.Proofs.YtacohbllbjgdgaaDoor
namespace Go.Proofs.YtacohbllbjgdgaaDoor
open Go.RowKit
set_option linter.unusedVariables false
set_option linter.unusedSimpArgs false

section
variable {N p : Nat} {M : M10} {lv : Value} {w w' : World} {sv fv sv' fv' : Value} {s : Rs}
end
end Go.Proofs.YtacohbllbjgdgaaDoor
namespace Go.Proofs.YtacohbllbjgdgaaDoor
open Go.RowKit
set_option linter.unusedVariables false

end Go.Proofs.YtacohbllbjgdgaaDoor

namespace Go.Proofs.YtacohbllbjgdgaaDoor
open Go.RowKit
set_option linter.unusedVariables false

theorem wrap_id64 (n : Int) (h0 : 0 ≤ n) (h1 : n < 9223372036854775808) : IntKind.i64.wrap n = n := by
  simp [IntKind.wrap, IntKind.bits, IntKind.signed]
  omega
end Go.Proofs.YtacohbllbjgdgaaDoor
namespace Go.Proofs.YtacohbllbjgdgaaDoor
open Go.RowKit
set_option linter.unusedVariables false

end Go.Proofs.YtacohbllbjgdgaaDoor
namespace Go.Proofs.YtacohbllbjgdgaaDoor
open Go.RowKit
set_option linter.unusedVariables false

end Go.Proofs.YtacohbllbjgdgaaDoor
