/- The checker: elems and datas. -/
import Derived.Test.YtacohbllbjgdgaaDoorXt
namespace Go.Proofs.YtacohbllbjgdgaaDoor
open Go.RowKit
set_option linter.unusedVariables false
set_option linter.unusedSimpArgs false

def eOff (op : Int) : Int := if op = 35 then 62 else if op = 65 then 0 else 60
def eHas (n many : Int) : Int := if n < many then 0 else 61
theorem offset_any (op a y n : Int) (v4 v5 v6 : Value) (w : World) : Calls Tryd.prog 23 #[insV op a y n v4 v5 v6] w (endN w (eOff op)) := by
  have hal := Below.of_alloc w (.cells #[.int .i64 op, .int .i64 a, .int .i64 y, .int .i64 n, v4, v5, v6] 26)
  unfold insV
  by_cases h35 : op = 35
  · subst h35
    go_enter Tryd.func23, Tryd.ntmps23
    go_wp2_with fail
    refine (vwant_no 62 _).mono ?_
    rintro e w' ⟨rfl, rfl⟩
    go_wp2
    exact ⟨rfl, .inr ⟨by decide, rfl⟩, hal⟩
  · by_cases h65 : op = 65
    · subst h65
      go_enter Tryd.func23, Tryd.ntmps23
      go_wp2_with fail
      refine (vwant_yes 62 _).mono ?_
      rintro e w' ⟨rfl, rfl⟩
      go_wp2_with fail
      refine (vwant_yes 60 _).mono ?_
      rintro e w' ⟨rfl, rfl⟩
      go_wp2
      go_end0
      exact ⟨.inl ⟨by decide, rfl⟩, hal⟩
    · have e60 : Hid (eOff op = 60) := Lib.hid (by unfold eOff; rw [if_neg h35, if_neg h65])
      have b35 : (op != 35) = true := by simp [h35]
      have b65 : (op == 65) = false := by simp [h65]
      clear h35 h65
      go_enter Tryd.func23, Tryd.ntmps23
      go_wp2_with fail
      refine (vwant_yes 62 _).mono ?_
      rintro e w' ⟨rfl, rfl⟩
      go_wp2_with fail
      refine (vwant_no 60 _).mono ?_
      rintro e w' ⟨rfl, rfl⟩
      go_wp2
      exact ⟨rfl, .inr (by rw [e60.out]; exact ⟨by decide, rfl⟩), hal⟩
def eEl (tables : Nat) (funcs : Nat) (t : One × List Int) : Int := fst2 (eHas 0 tables) (fst2 (eOff t.1.op) (firstL (fun n => eHas n funcs) t.2))
def eDa (mems : Nat) (t : One × ByteArray) : Int := fst2 (eHas 0 mems) (eOff t.1.op)
def fillsV (m : Md) (funcs : Nat) : Int := fst2 (firstL (eEl m.tables.length funcs) m.elems) (firstL (eDa m.mems.length) m.datas)

end Go.Proofs.YtacohbllbjgdgaaDoor
