/- The contract of the reference's Form. -/
import Derived.Test.YtanpjbbhhofkfaaDoorFb
namespace Go.Proofs.YtanpjbbhhofkfaaDoor
open Go.RowKit
set_option linter.unusedVariables false

theorem in_any (op a b : Int) (w : World) : Calls Tryd.prog 78 #[.int .i64 op, .int .i64 a, .int .i64 b] w fun e w' => e = .returned (.bool (decide (a ≤ op) && decide (op ≤ b))) ∧ w = w' := by
  go_enter Tryd.func78, Tryd.ntmps78
  go_wp2
  all_goals go_ret
  all_goals exact ⟨by first | rfl | (simp_all; done) | (simp; omega), rfl⟩

theorem sN_pos {op k n t : Int} (h : OfIs op k n t) (hk : k ≠ 0) : 0 < sN k := by
  unfold sN
  rw [if_neg hk]
  split
  · decide
  · split <;> decide

set_option maxRecDepth 100000 in
set_option maxHeartbeats 8000000 in
theorem rform_any (op : Int) (w : World) :
    Calls Tryd.prog 90 #[.int .i64 op] w fun e w' => e = .returned (.int .i64 (formV op)) ∧ w = w' := by
  obtain ⟨k, n, t, h⟩ := of_ex op
  have HS := fun w => Lib.hid (rsig_any op k n t w h)
  by_cases hk : k = 0
  · subst hk
    have h0 := of_0 h
    clear h
    rw [show sN 0 = 0 from rfl] at HS
    go_enter Tryd.func90, Tryd.ntmps90
    go_wp2_with fail
    refine (HS _).out.mono ?_
    rintro e w' ⟨rfl, rfl⟩
    go_wp2_with (first | (go_at_call 78; refine (in_any _ _ _ _).mono ?_; rintro e w' ⟨rfl, rfl⟩))
    all_goals go_ret
    all_goals refine ⟨?_, rfl⟩
    all_goals (unfold formV; rw [if_neg h0])
    all_goals clear HS
    all_goals simp only [beq_eq_false_iff_ne, beq_iff_eq, ne_eq] at *
    all_goals repeat (first | rw [if_neg (by omega)] | rw [if_pos (by omega)])
    all_goals rfl
  · have hf := of_non h hk
    have hp := sN_pos h hk
    rw [hf]
    generalize sN k = N at *
    clear h hk hf
    go_enter Tryd.func90, Tryd.ntmps90
    go_wp2_with fail
    refine (HS _).out.mono ?_
    rintro e w' ⟨rfl, rfl⟩
    go_wp2
    go_ret
    exact ⟨rfl, rfl⟩
end Go.Proofs.YtanpjbbhhofkfaaDoor
