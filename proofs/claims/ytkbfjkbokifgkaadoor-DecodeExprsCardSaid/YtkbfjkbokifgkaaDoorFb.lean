/- The contract of Form. -/
import Derived.Test.YtkbfjkbokifgkaaDoorFa
namespace Go.Proofs.YtkbfjkbokifgkaaDoor
open Go.RowKit
set_option linter.unusedVariables false

theorem within_any (op a b : Int) (w : World) : Calls Tryd.prog 84 #[.int .i64 op, .int .i64 a, .int .i64 b] w fun e w' => e = .returned (.bool (decide (a ≤ op) && decide (op ≤ b))) ∧ w = w' := by
  go_enter Tryd.func84, Tryd.ntmps84
  go_wp2
  all_goals go_ret
  all_goals exact ⟨by first | rfl | (simp_all; done) | (simp; omega), rfl⟩

def formV (op : Int) : Int :=
  if (69 ≤ op ∧ op ≤ 90) ∨ (103 ≤ op ∧ op ≤ 138) ∨ op = 167 ∨ op = 172 ∨ op = 173 then 1
  else if op = 0 ∨ op = 1 ∨ op = 15 ∨ op = 26 ∨ op = 27 ∨ op = 63 ∨ op = 64 then 1
  else if op = 2 ∨ op = 3 then 2
  else if op = 4 then 3
  else if op = 12 ∨ op = 13 then 4
  else if op = 14 then 5
  else if op = 16 ∨ (32 ≤ op ∧ op ≤ 36) then 6
  else if op = 17 then 7
  else if op = 65 ∨ op = 66 then 9
  else if op = 42 ∨ op = 43 ∨ op = 56 ∨ op = 57 ∨ op = 67 ∨ op = 68 then 10
  else if 40 ≤ op ∧ op ≤ 62 then 8
  else if (91 ≤ op ∧ op ≤ 102) ∨ (139 ≤ op ∧ op ≤ 166) ∨ (168 ≤ op ∧ op ≤ 171) ∨ (174 ≤ op ∧ op ≤ 191) then 10
  else 0

theorem of_0 {op n t : Int} (h : OfIs op 0 n t) : ¬ ((69 ≤ op ∧ op ≤ 90) ∨ (103 ≤ op ∧ op ≤ 138) ∨ op = 167 ∨ op = 172 ∨ op = 173) := by
  rcases h.is with ⟨g1, h, e1, e2⟩ | ⟨g1, h, e1, e2⟩ | ⟨g1, g2, h, e1, e2⟩ | ⟨g1, g2, h, e1, e2⟩ | ⟨g1, g2, h, e1, e2⟩ | ⟨g1, g2, h, e1, e2⟩ | ⟨g1, g2, h, e1, e2⟩ | ⟨g1, g2, h, e1, e2⟩ | ⟨g1, h, e1, e2⟩ | ⟨g1, h, e1, e2⟩ | ⟨g1, h, e1, e2⟩ | ⟨g1, h, e1, e2⟩
  all_goals omega
theorem of_non {op k n t : Int} (h : OfIs op k n t) (hk : k ≠ 0) : formV op = 1 := by
  have : (69 ≤ op ∧ op ≤ 90) ∨ (103 ≤ op ∧ op ≤ 138) ∨ op = 167 ∨ op = 172 ∨ op = 173 := by
    rcases h.is with ⟨g1, h, e1, e2⟩ | ⟨g1, h, e1, e2⟩ | ⟨g1, g2, h, e1, e2⟩ | ⟨g1, g2, h, e1, e2⟩ | ⟨g1, g2, h, e1, e2⟩ | ⟨g1, g2, h, e1, e2⟩ | ⟨g1, g2, h, e1, e2⟩ | ⟨g1, g2, h, e1, e2⟩ | ⟨g1, h, e1, e2⟩ | ⟨g1, h, e1, e2⟩ | ⟨g1, h, e1, e2⟩ | ⟨g1, h, e1, e2⟩
    all_goals omega
  unfold formV
  rw [if_pos this]

set_option maxRecDepth 100000 in
set_option maxHeartbeats 4000000 in
theorem form_any (op : Int) (w : World) :
    Calls Tryd.prog 47 #[.int .i64 op] w fun e w' => e = .returned (.int .i64 (formV op)) ∧ Below w.heap.size w w' := by
  obtain ⟨k, n, t, h⟩ := of_ex op
  have HS : ∀ w, Hid (Calls Tryd.prog 83 #[.int .i64 op] w fun e w' => ∃ v, e = .returned (.tuple #[v, .int .i64 (sR k t), .bool (k != 0)]) ∧ Below w.heap.size w w') := fun w => Lib.hid (sig_any op k n t w h)
  by_cases hk : k = 0
  · subst hk
    have h0 := of_0 h
    clear h
    rw [show ((0 : Int) != 0) = false from rfl] at HS
    go_enter Tryd.func47, Tryd.ntmps47
    go_wp2_with fail
    refine (HS _).out.mono ?_
    rintro e w' ⟨v, rfl, hb⟩
    go_wp2_with (first | (go_at_call 84; refine (within_any _ _ _ _).mono ?_; rintro e w' ⟨rfl, rfl⟩))
    all_goals go_ret
    all_goals refine ⟨?_, hb⟩
    all_goals (unfold formV; rw [if_neg h0])
    all_goals clear HS
    all_goals simp only [beq_eq_false_iff_ne, beq_iff_eq, ne_eq] at *
    all_goals repeat (first | rw [if_neg (by omega)] | rw [if_pos (by omega)])
    all_goals rfl
  · have hf := of_non h hk
    have hkb : (k != 0) = true := by simp [hk]
    rw [hkb] at HS
    rw [hf]
    clear h hk hkb hf
    go_enter Tryd.func47, Tryd.ntmps47
    go_wp2_with fail
    refine (HS _).out.mono ?_
    rintro e w' ⟨v, rfl, hb⟩
    go_wp2
    go_ret
    exact ⟨rfl, hb⟩
end Go.Proofs.YtkbfjkbokifgkaaDoor
