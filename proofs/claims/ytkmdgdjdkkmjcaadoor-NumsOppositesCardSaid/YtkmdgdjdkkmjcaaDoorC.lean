/- Contracts of the instructions of two numbers: quotients and rests. -/
import Derived.Test.YtkmdgdjdkkmjcaaDoorB
namespace Go.Proofs.YtkmdgdjdkkmjcaaDoor
open Go.RowKit
set_option linter.unusedVariables false

theorem sg_bd (t a : Int) : -9223372036854775808 ≤ sg t a ∧ sg t a ≤ 9223372036854775807 := by
  have h1 := wrap32_bd a
  have h2 := wrap64_bd a
  unfold sg
  split
  · omega
  · split <;> omega

def least (t : Int) : Int := if t = 127 then 2147483648 else 9223372036854775808
def quoV (t a b : Int) : Int := if sg t b = 0 ∨ (sg t b = -1 ∧ a = least t) then 0 else IntKind.u64.wrap ((sg t a).tdiv (sg t b))
def quoT (t a b : Int) : Int := if sg t b = 0 then 2 else if sg t b = -1 ∧ a = least t then 3 else 0

theorem least_eq (t : Int) (h : t = 127 ∨ t = 126) (a : Int) (e : sg t a = -9223372036854775808 ∨ (t = 127 ∧ sg t a = -2147483648)) (h1 : 0 ≤ a) (h2 : a ≤ (if t = 127 then 4294967295 else 18446744073709551615)) : a = least t := by
  unfold least
  unfold sg at e
  rcases h with rfl | rfl
  · simp at e h2 ⊢
    have := wrap32_bd a
    have e' : wrap32 a = -2147483648 := by omega
    unfold wrap32 at e'
    omega
  · simp at e h2 ⊢
    unfold wrap64 at e
    omega

theorem tdiv_small (s r : Int) (hs : -9223372036854775808 ≤ s ∧ s ≤ 9223372036854775807) (hr : r ≠ 0) (hn : ¬ (r = -1 ∧ s = -9223372036854775808)) : IntKind.i64.wrap (s.tdiv r) = s.tdiv r := by
  apply IntWalk.i64_in
  have e : (s.tdiv r).natAbs = s.natAbs / r.natAbs := Int.natAbs_tdiv s r
  by_cases h1 : r.natAbs = 1
  · have : r = 1 ∨ r = -1 := by omega
    rcases this with rfl | rfl
    · rw [Int.tdiv_one]; omega
    · rw [Int.tdiv_neg, Int.tdiv_one]
      omega
  · have h2 : 2 ≤ r.natAbs := by omega
    have h3 : s.natAbs / r.natAbs ≤ s.natAbs / 2 := Nat.div_le_div_left h2 (by omega)
    rw [← e] at h3
    generalize s.tdiv r = d at *
    omega

set_option maxHeartbeats 1000000 in
theorem quot_any (a b t : Int) (w : World) (ht : t = 127 ∨ t = 126) (h1 : 0 ≤ a) (h2 : a ≤ (if t = 127 then 4294967295 else 18446744073709551615)) (h3 : 0 ≤ b) (h4 : b ≤ 18446744073709551615) :
    Calls Tryd.prog 25 #[.int .u64 a, .int .u64 b, .int .i64 t] w fun e w' => e = .returned (.tuple #[.int .u64 (quoV t a b), .int .i64 (quoT t a b)]) ∧ w = w' := by
  have h2' : a ≤ 18446744073709551615 := by split at h2 <;> omega
  have hq : ∀ s r, sg t a = s → sg t b = r → ¬ (r = -1 ∧ a = least t) → r ≠ 0 → ¬ (r = -1 ∧ s = -9223372036854775808) := by
    intro s r e1 e2 hn _ h
    exact hn ⟨h.1, least_eq t ht a (by omega) h1 h2⟩
  have HQ := Lib.hid hq
  clear hq h2
  have hs := sg_bd t a
  have hr := sg_bd t b
  unfold quoV quoT
  obtain ⟨s, e1⟩ : ∃ s, sg t a = s := ⟨_, rfl⟩
  obtain ⟨r, e2⟩ : ∃ r, sg t b = r := ⟨_, rfl⟩
  rw [e1] at hs
  rw [e2] at hr
  rw [e1, e2]
  have hsa := signed_any a t w h1 h2'
  have hsb := signed_any b t w h3 h4
  rw [e1] at hsa
  rw [e2] at hsb
  have HSA := Lib.hid hsa
  have HSB := Lib.hid hsb
  have E1 := Lib.hid e1
  have E2 := Lib.hid e2
  clear hsa hsb e1 e2
  obtain ⟨L, hL⟩ : ∃ L, least t = L := ⟨_, rfl⟩
  rw [hL]
  have hw : Hid (Calls Tryd.prog 20 #[.int .i64 t] w fun e w' => e = .returned (.int .i64 (if t = 127 then 32 else 64)) ∧ w = w') := width_any t w
  by_cases hz : r = 0
  · subst hz
    rw [if_pos (.inl rfl), if_pos rfl]
    clear hL
    go_enter Tryd.func25, Tryd.ntmps25
    go_wp2_with fail
    refine HSA.out.mono ?_
    rintro e w' ⟨rfl, rfl⟩
    go_wp2_with fail
    refine HSB.out.mono ?_
    rintro e w' ⟨rfl, rfl⟩
    go_wp2
    go_ret2
    exact ⟨rfl, rfl⟩
  · have hz' : (r == 0) = false := by simp [hz]
    by_cases hm : r = -1
    · subst hm
      have hd : a ≠ L → -9223372036854775807 ≤ s := fun hne => by
        have := HQ.out s (-1) E1.out E2.out (fun h => hne (by rw [h.2, hL])) (by omega)
        omega
      have HD := Lib.hid hd
      clear hd HQ
      rcases ht with rfl | rfl
      · have hL2 : L = 2147483648 := by rw [← hL]; rfl
        subst hL2
        by_cases ha : a = 2147483648
        · subst ha
          rw [if_pos (.inr ⟨rfl, rfl⟩), if_neg (by omega), if_pos ⟨rfl, rfl⟩]
          clear hL
          go_enter Tryd.func25, Tryd.ntmps25
          go_wp2_with fail
          refine HSA.out.mono ?_
          rintro e w' ⟨rfl, rfl⟩
          go_wp2_with fail
          refine HSB.out.mono ?_
          rintro e w' ⟨rfl, rfl⟩
          go_wp2_with (first | (go_at_call 20; refine (width_any _ _).mono ?_; rintro e w' ⟨rfl, rfl⟩))
          go_ret2
          exact ⟨rfl, rfl⟩
        · rw [if_neg (by omega), if_neg (by omega), if_neg (by omega)]
          have ha' : (a == 2147483648) = false := by simp [ha]
          have hd := HD.out ha
          have hneg : s.tdiv (-1) = -s := by simp
          rw [hneg]
          clear hL HD hneg
          go_enter Tryd.func25, Tryd.ntmps25
          go_wp2_with fail
          refine HSA.out.mono ?_
          rintro e w' ⟨rfl, rfl⟩
          go_wp2_with fail
          refine HSB.out.mono ?_
          rintro e w' ⟨rfl, rfl⟩
          go_wp2_with (first | (go_at_call 20; refine (width_any _ _).mono ?_; rintro e w' ⟨rfl, rfl⟩))
          go_ret2
          exact ⟨rfl, rfl⟩
      · have hL2 : L = 9223372036854775808 := by rw [← hL]; rfl
        subst hL2
        by_cases ha : a = 9223372036854775808
        · subst ha
          rw [if_pos (.inr ⟨rfl, rfl⟩), if_neg (by omega), if_pos ⟨rfl, rfl⟩]
          clear hL
          go_enter Tryd.func25, Tryd.ntmps25
          go_wp2_with fail
          refine HSA.out.mono ?_
          rintro e w' ⟨rfl, rfl⟩
          go_wp2_with fail
          refine HSB.out.mono ?_
          rintro e w' ⟨rfl, rfl⟩
          go_wp2_with (first | (go_at_call 20; refine (width_any _ _).mono ?_; rintro e w' ⟨rfl, rfl⟩))
          go_ret2
          exact ⟨rfl, rfl⟩
        · rw [if_neg (by omega), if_neg (by omega), if_neg (by omega)]
          have ha' : (a == 9223372036854775808) = false := by simp [ha]
          have hd := HD.out ha
          have hneg : s.tdiv (-1) = -s := by simp
          rw [hneg]
          clear hL HD hneg
          go_enter Tryd.func25, Tryd.ntmps25
          go_wp2_with fail
          refine HSA.out.mono ?_
          rintro e w' ⟨rfl, rfl⟩
          go_wp2_with fail
          refine HSB.out.mono ?_
          rintro e w' ⟨rfl, rfl⟩
          go_wp2_with (first | (go_at_call 20; refine (width_any _ _).mono ?_; rintro e w' ⟨rfl, rfl⟩))
          go_ret2
          exact ⟨rfl, rfl⟩
    · have hm' : (r == -1) = false := by simp [hm]
      have hd : IntKind.i64.wrap (s.tdiv r) = s.tdiv r := tdiv_small s r hs hz (fun h => hm h.1)
      rw [if_neg (by omega), if_neg hz, if_neg (by omega)]
      clear hL HQ
      go_enter Tryd.func25, Tryd.ntmps25
      go_wp2_with fail
      refine HSA.out.mono ?_
      rintro e w' ⟨rfl, rfl⟩
      go_wp2_with fail
      refine HSB.out.mono ?_
      rintro e w' ⟨rfl, rfl⟩
      go_wp2_with fail
      go_ret2
      exact ⟨rfl, rfl⟩
end Go.Proofs.YtkmdgdjdkkmjcaaDoor
