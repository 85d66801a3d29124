/- Fc -/
import Derived.Test.YtanpjbbhhofkfaaGreatDoorFa
namespace Go.Proofs.YtanpjbbhhofkfaaGreatDoor
open Go.RowKit
set_option linter.unusedVariables false
set_option linter.unusedSimpArgs false
set_option maxRecDepth 100000
set_option maxHeartbeats 4000000
theorem in_any (op a b : Int) (w : World) : Calls Tryz.prog 84 #[.int .i64 op, .int .i64 a, .int .i64 b] w fun e w' => e = .returned (.bool (decide (a ≤ op) && decide (op ≤ b))) ∧ w = w' := by
 go_enter Tryz.func84, Tryz.ntmps84; go_wp2; all_goals go_ret
 all_goals exact ⟨by first | rfl | (simp_all; done) | (simp; omega), rfl⟩
theorem sN_pos {op k n t : Int} (h : OfIs op k n t) (hk : k ≠ 0) : 0 < sN k := by
 unfold sN; rw [if_neg hk]; split
 · decide
 · split <;> decide
theorem rform_any (op : Int) (w : World) :
 Calls Tryz.prog 108 #[.int .i64 op] w fun e w' => e = .returned (.int .i64 (formV op)) ∧ w = w' := by
 obtain ⟨k, n, t, h⟩ := of_ex op; have HS := fun w => zh (rsig_any op k n t w h)
 by_cases hk : k = 0
 · subst hk; have h0 := of_0 h; clear h; rw [show sN 0 = 0 from rfl] at HS; go_enter Tryz.func108, Tryz.ntmps108; go_wp2_with fail; refine (HS _).out.mono ?_; rintro e w' ⟨rfl, rfl⟩; go_wp2_with (first | (go_at_call 84; refine (in_any _ _ _ _).mono ?_; rintro e w' ⟨rfl, rfl⟩))
   all_goals go_ret
   all_goals refine ⟨?_, rfl⟩
   all_goals (unfold formV; rw [if_neg h0])
   all_goals clear HS
   all_goals simp only [beq_eq_false_iff_ne, beq_iff_eq, ne_eq] at *
   all_goals repeat (first | rw [if_neg (by omega)] | rw [if_pos (by omega)])
   all_goals rfl
 · have hf := of_non h hk; have hp := sN_pos h hk; rw [hf]
   generalize sN k = N at *
   clear h hk hf; go_enter Tryz.func108, Tryz.ntmps108; go_wp2_with fail; refine (HS _).out.mono ?_; rintro e w' ⟨rfl, rfl⟩; go_wp2; go_ret; exact ⟨rfl, rfl⟩
end Go.Proofs.YtanpjbbhhofkfaaGreatDoor
