/- What Binary computes, as one function; its contract. -/
import Derived.Test.YtkmdgdjdkkmjcaaDoorF1
import Derived.Test.YtkmdgdjdkkmjcaaDoorF2
import Derived.Test.YtkmdgdjdkkmjcaaDoorF3
namespace Go.Proofs.YtkmdgdjdkkmjcaaDoor
open Go.RowKit
set_option linter.unusedVariables false

def bt (t : Int) : Nat := if t = 127 then 32 else 64
def twoV (n t a b : Int) : Int :=
  if plainB n = true then plainV n a b else if n = 3 then quoV t a b else if n = 4 then (if b = 0 then 0 else a / b) else if n = 5 then rstV t a b else if n = 6 then (if b = 0 then 0 else a % b) else
  if n = 10 then IntKind.u64.wrap (a * 2 ^ (b.toNat % bt t)) else if n = 11 then IntKind.u64.wrap (sg t a / 2 ^ (b.toNat % bt t)) else if n = 12 then a / 2 ^ (b.toNat % bt t) else
  if n = 13 then (rot (bt t) a.toNat (b.toNat % bt t) : Nat) else (rot (bt t) a.toNat ((bt t - b.toNat % bt t) % bt t) : Nat)
def twoT (n t a b : Int) : Int := if n = 3 then quoT t a b else if n = 4 then (if b = 0 then 2 else 0) else if n = 5 then rstT t b else if n = 6 then (if b = 0 then 2 else 0) else 0
def bV (k n t a b : Int) : Int := if k = 4 then (if cmp n (cu t a) (cu t b) (sg t (cu t a)) (sg t (cu t b)) then 1 else 0) else if k = 3 then cu t (twoV n t (cu t a) (cu t b)) else 0
def bT (k n t a b : Int) : Int := if k = 3 then twoT n t (cu t a) (cu t b) else 0
def bO (k : Int) : Bool := k == 3 || k == 4

theorem twoV_3 (t a b : Int) : twoV 3 t a b = quoV t a b := by simp [twoV, plainB]
theorem twoT_3 (t a b : Int) : twoT 3 t a b = quoT t a b := by simp [twoT]
theorem twoV_4 (t a b : Int) : twoV 4 t a b = (if b = 0 then 0 else a / b) := by simp [twoV, plainB]
theorem twoT_4 (t a b : Int) : twoT 4 t a b = (if b = 0 then 2 else 0) := by simp [twoT]
theorem twoV_5 (t a b : Int) : twoV 5 t a b = rstV t a b := by simp [twoV, plainB]
theorem twoT_5 (t a b : Int) : twoT 5 t a b = rstT t b := by simp [twoT]
theorem twoV_6 (t a b : Int) : twoV 6 t a b = (if b = 0 then 0 else a % b) := by simp [twoV, plainB]
theorem twoT_6 (t a b : Int) : twoT 6 t a b = (if b = 0 then 2 else 0) := by simp [twoT]
theorem twoV_10 (t a b : Int) : twoV 10 t a b = IntKind.u64.wrap (a * 2 ^ (b.toNat % bt t)) := by simp [twoV, plainB]
theorem twoT_10 (t a b : Int) : twoT 10 t a b = 0 := by simp [twoT]
theorem twoV_11 (t a b : Int) : twoV 11 t a b = IntKind.u64.wrap (sg t a / 2 ^ (b.toNat % bt t)) := by simp [twoV, plainB]
theorem twoT_11 (t a b : Int) : twoT 11 t a b = 0 := by simp [twoT]
theorem twoV_12 (t a b : Int) : twoV 12 t a b = a / 2 ^ (b.toNat % bt t) := by simp [twoV, plainB]
theorem twoT_12 (t a b : Int) : twoT 12 t a b = 0 := by simp [twoT]
theorem twoV_13 (t a b : Int) : twoV 13 t a b = (rot (bt t) a.toNat (b.toNat % bt t) : Nat) := by simp [twoV, plainB]
theorem twoT_13 (t a b : Int) : twoT 13 t a b = 0 := by simp [twoT]
theorem twoV_14 (t a b : Int) : twoV 14 t a b = (rot (bt t) a.toNat ((bt t - b.toNat % bt t) % bt t) : Nat) := by simp [twoV, plainB]
theorem twoT_14 (t a b : Int) : twoT 14 t a b = 0 := by simp [twoT]
theorem of_ex (op : Int) : ∃ k n t, OfIs op k n t := by
  by_cases c0 : op = 69
  · exact ⟨2, 0, 127, ⟨(.inl ⟨c0, rfl, rfl, rfl⟩)⟩⟩
  by_cases c1 : op = 80
  · exact ⟨2, 0, 126, ⟨(.inr (.inl ⟨c1, rfl, rfl, rfl⟩))⟩⟩
  by_cases c2 : 70 ≤ op ∧ op ≤ 79
  · exact ⟨4, op - 70, 127, ⟨(.inr (.inr (.inl ⟨c2.1, c2.2, rfl, rfl, rfl⟩)))⟩⟩
  by_cases c3 : 81 ≤ op ∧ op ≤ 90
  · exact ⟨4, op - 81, 126, ⟨(.inr (.inr (.inr (.inl ⟨c3.1, c3.2, rfl, rfl, rfl⟩))))⟩⟩
  by_cases c4 : 103 ≤ op ∧ op ≤ 105
  · exact ⟨1, op - 103, 127, ⟨(.inr (.inr (.inr (.inr (.inl ⟨c4.1, c4.2, rfl, rfl, rfl⟩)))))⟩⟩
  by_cases c5 : 121 ≤ op ∧ op ≤ 123
  · exact ⟨1, op - 121, 126, ⟨(.inr (.inr (.inr (.inr (.inr (.inl ⟨c5.1, c5.2, rfl, rfl, rfl⟩))))))⟩⟩
  by_cases c6 : 106 ≤ op ∧ op ≤ 120
  · exact ⟨3, op - 106, 127, ⟨(.inr (.inr (.inr (.inr (.inr (.inr (.inl ⟨c6.1, c6.2, rfl, rfl, rfl⟩)))))))⟩⟩
  by_cases c7 : 124 ≤ op ∧ op ≤ 138
  · exact ⟨3, op - 124, 126, ⟨(.inr (.inr (.inr (.inr (.inr (.inr (.inr (.inl ⟨c7.1, c7.2, rfl, rfl, rfl⟩))))))))⟩⟩
  by_cases c8 : op = 167
  · exact ⟨5, 0, 126, ⟨(.inr (.inr (.inr (.inr (.inr (.inr (.inr (.inr (.inl ⟨c8, rfl, rfl, rfl⟩)))))))))⟩⟩
  by_cases c9 : op = 172
  · exact ⟨5, 1, 127, ⟨(.inr (.inr (.inr (.inr (.inr (.inr (.inr (.inr (.inr (.inl ⟨c9, rfl, rfl, rfl⟩))))))))))⟩⟩
  by_cases c10 : op = 173
  · exact ⟨5, 2, 127, ⟨(.inr (.inr (.inr (.inr (.inr (.inr (.inr (.inr (.inr (.inr (.inl ⟨c10, rfl, rfl, rfl⟩)))))))))))⟩⟩
  exact ⟨0, 0, 0, ⟨.inr (.inr (.inr (.inr (.inr (.inr (.inr (.inr (.inr (.inr (.inr ⟨by omega, rfl, rfl, rfl⟩))))))))))⟩⟩
theorem of_3 {op n t : Int} (h : OfIs op 3 n t) : (t = 127 ∨ t = 126) ∧ 0 ≤ n ∧ n ≤ 14 ∧ (t = 127 → op = 106 + n) ∧ (t = 126 → op = 124 + n) := by
  rcases h.is with ⟨_, h, _⟩ | ⟨_, h, _⟩ | ⟨_, _, h, _⟩ | ⟨_, _, h, _⟩ | ⟨_, _, h, _⟩ | ⟨_, _, h, _⟩ | ⟨g1, g2, _, rfl, rfl⟩ | ⟨g1, g2, _, rfl, rfl⟩ | ⟨_, h, _⟩ | ⟨_, h, _⟩ | ⟨_, h, _⟩ | ⟨_, h, _⟩
  all_goals first | (exact absurd h (by decide)) | (refine ⟨by simp, ?_, ?_, ?_, ?_⟩ <;> omega)
theorem of_4 {op n t : Int} (h : OfIs op 4 n t) : (t = 127 ∨ t = 126) ∧ 0 ≤ n ∧ n ≤ 9 ∧ (t = 127 → op = 70 + n) ∧ (t = 126 → op = 81 + n) := by
  rcases h.is with ⟨_, h, _⟩ | ⟨_, h, _⟩ | ⟨g1, g2, _, rfl, rfl⟩ | ⟨g1, g2, _, rfl, rfl⟩ | ⟨_, _, h, _⟩ | ⟨_, _, h, _⟩ | ⟨_, _, h, _⟩ | ⟨_, _, h, _⟩ | ⟨_, h, _⟩ | ⟨_, h, _⟩ | ⟨_, h, _⟩ | ⟨_, h, _⟩
  all_goals first | (exact absurd h (by decide)) | (refine ⟨by simp, ?_, ?_, ?_, ?_⟩ <;> omega)

theorem cu_small (t a : Int) (a1 : 0 ≤ a) (a2 : a ≤ 18446744073709551615) : 0 ≤ cu t a ∧ cu t a ≤ (if t = 127 then 4294967295 else 18446744073709551615) := by
  unfold cu; split <;> omega

theorem wrap_bd (x : Int) : 0 ≤ IntKind.u64.wrap x ∧ IntKind.u64.wrap x ≤ 18446744073709551615 := by rw [IntKind.wrap_u64]; omega

theorem quo_bd (t a b : Int) : 0 ≤ quoV t a b ∧ quoV t a b ≤ 18446744073709551615 := by
  unfold quoV; split
  · omega
  · exact wrap_bd _
theorem rst_bd (t a b : Int) : 0 ≤ rstV t a b ∧ rstV t a b ≤ 18446744073709551615 := by
  unfold rstV; split
  · omega
  · exact wrap_bd _

set_option maxHeartbeats 1000000 in
theorem binary_any (op k n t a b : Int) (w : World) (h : OfIs op k n t) (o1 : -9223372036854775808 ≤ op) (o2 : op ≤ 9223372036854775807)
    (a1 : 0 ≤ a) (a2 : a ≤ 18446744073709551615) (b1 : 0 ≤ b) (b2 : b ≤ 18446744073709551615) :
    Calls Tryd.prog 8 #[.int .i64 op, .int .u64 a, .int .u64 b] w fun e w' => e = .returned (.tuple #[.int .u64 (bV k n t a b), .int .i64 (bT k n t a b), .bool (bO k)]) ∧ Below w.heap.size w w' := by
  by_cases k4 : k = 4
  · subst k4
    exact binary_held op n t a b w h o1 o2 a1 a2 b1 b2
  by_cases k3 : k = 3
  · subst k3
    have ⟨ht, hn1, hn2, _⟩ := of_3 h
    show Calls Tryd.prog 8 _ w fun e w' => e = .returned (.tuple #[.int .u64 (cu t (twoV n t (cu t a) (cu t b))), .int .i64 (twoT n t (cu t a) (cu t b)), .bool true]) ∧ Below w.heap.size w w'
    by_cases hp : plainB n = true
    · have e1 : twoV n t (cu t a) (cu t b) = plainV n (cu t a) (cu t b) := by unfold twoV; rw [if_pos hp]
      have e2 : twoT n t (cu t a) (cu t b) = 0 := by
        have : n ≠ 3 ∧ n ≠ 4 ∧ n ≠ 5 ∧ n ≠ 6 := by
          refine ⟨?_, ?_, ?_, ?_⟩ <;> (rintro rfl; revert hp; decide)
        unfold twoT
        rw [if_neg this.1, if_neg this.2.1, if_neg this.2.2.1, if_neg this.2.2.2]
      rw [e1, e2]
      exact binary_plain op n t a b w h o1 o2 a1 a2 b1 b2 hp
    · have hc : n = 3 ∨ n = 4 ∨ n = 5 ∨ n = 6 ∨ n = 10 ∨ n = 11 ∨ n = 12 ∨ n = 13 ∨ n = 14 := by
        have : n ≠ 0 ∧ n ≠ 1 ∧ n ≠ 2 ∧ n ≠ 7 ∧ n ≠ 8 ∧ n ≠ 9 := by
          refine ⟨?_, ?_, ?_, ?_, ?_, ?_⟩ <;> (rintro rfl; exact hp (by decide))
        omega
      have ⟨x1, x2⟩ := cu_small t a a1 a2
      have ⟨y1, y2⟩ := cu_small t b b1 b2
      have x3 := (cu_bd t a a1 a2).2
      have y3 := (cu_bd t b b1 b2).2
      rcases hc with rfl | rfl | rfl | rfl | rfl | rfl | rfl | rfl | rfl
      all_goals first | rw [twoV_3, twoT_3] | rw [twoV_4, twoT_4] | rw [twoV_5, twoT_5] | rw [twoV_6, twoT_6] | rw [twoV_10, twoT_10] | rw [twoV_11, twoT_11] | rw [twoV_12, twoT_12] | rw [twoV_13, twoT_13] | rw [twoV_14, twoT_14]
      · exact two_3 op t a b _ _ w h o1 o2 a1 a2 b1 b2 (fun w => quot_any _ _ t w ht x1 x2 y1 y3) (quo_bd _ _ _).1 (quo_bd _ _ _).2
      · refine two_4 op t a b _ _ w h o1 o2 a1 a2 b1 b2 (fun w => udiv_any _ _ t w x1 x3 y1 y3) ?_ ?_
        · show 0 ≤ (if cu t b = 0 then 0 else cu t a / cu t b)
          split
          · omega
          · exact Int.ediv_nonneg x1 y1
        · show (if cu t b = 0 then 0 else cu t a / cu t b) ≤ _
          split
          · omega
          · exact Int.le_trans (Int.ediv_le_self _ x1) x3
      · exact two_5 op t a b _ _ w h o1 o2 a1 a2 b1 b2 (fun w => rest_any _ _ t w x1 x3 y1 y3) (rst_bd _ _ _).1 (rst_bd _ _ _).2
      · refine two_6 op t a b _ _ w h o1 o2 a1 a2 b1 b2 (fun w => urem_any _ _ t w x1 x3 y1 y3) ?_ ?_
        · show 0 ≤ (if cu t b = 0 then 0 else cu t a % cu t b)
          split
          · omega
          · rename_i hz
            exact Int.emod_nonneg _ hz
        · show (if cu t b = 0 then 0 else cu t a % cu t b) ≤ _
          split
          · omega
          · rename_i hz
            have := Int.emod_lt_of_pos (cu t a) (show 0 < cu t b by omega)
            omega
      all_goals
        obtain ⟨x, hx⟩ := Int.eq_ofNat_of_zero_le x1
        obtain ⟨y, hy⟩ := Int.eq_ofNat_of_zero_le y1
        rw [hx] at x1 x2 x3
        rw [hy] at y1 y2 y3
        have x4 : x < 18446744073709551616 := by omega
        have y4 : y < 18446744073709551616 := by omega
      · refine two_10 op t a b _ _ w h o1 o2 a1 a2 b1 b2 (fun w => ?_) (wrap_bd _).1 (wrap_bd _).2
        rw [hx, hy]
        rcases ht with rfl | rfl
        · exact shl127 x y w x4 y4
        · exact shl126 x y w x4 y4
      · refine two_11 op t a b _ _ w h o1 o2 a1 a2 b1 b2 (fun w => ?_) (wrap_bd _).1 (wrap_bd _).2
        rw [hx, hy]
        rcases ht with rfl | rfl
        · exact sar127 x y w x4 y4
        · exact sar126 x y w x4 y4
      · refine two_12 op t a b (cu t a / 2 ^ ((cu t b).toNat % bt t)) _ w h o1 o2 a1 a2 b1 b2 (fun w => ?_) ?_ ?_
        · rw [hx, hy]
          rcases ht with rfl | rfl
          · exact shr127 x y w x4 y4
          · exact shr126 x y w x4 y4
        · rw [hx]
          exact Int.ediv_nonneg x1 (Int.le_of_lt (Int.pow_pos (by decide)))
        · rw [hx]
          exact Int.le_trans (Int.ediv_le_self _ x1) x3
      · refine two_13 op t a b (rot (bt t) (cu t a).toNat ((cu t b).toNat % bt t) : Nat) _ w h o1 o2 a1 a2 b1 b2 (fun w => ?_) (by omega) ?_
        · rw [hx, hy]
          rcases ht with rfl | rfl
          · exact rotl127 x y w (by simp at x2; omega) y4
          · exact rotl126 x y w x4 y4
        · rw [hx]
          rcases ht with rfl | rfl
          · have := rot_lt 32 x ((cu 127 b).toNat % 32) (by simp at x2; omega)
            show ((rot 32 x ((cu 127 b).toNat % 32) : Nat) : Int) ≤ _
            omega
          · have := rot_lt 64 x ((cu 126 b).toNat % 64) (by omega)
            show ((rot 64 x ((cu 126 b).toNat % 64) : Nat) : Int) ≤ _
            omega
      · refine two_14 op t a b (rot (bt t) (cu t a).toNat ((bt t - (cu t b).toNat % bt t) % bt t) : Nat) _ w h o1 o2 a1 a2 b1 b2 (fun w => ?_) (by omega) ?_
        · rw [hx, hy]
          rcases ht with rfl | rfl
          · exact rotr127 x y w (by simp at x2; omega) y4
          · exact rotr126 x y w x4 y4
        · rw [hx]
          rcases ht with rfl | rfl
          · have := rot_lt 32 x ((32 - (cu 127 b).toNat % 32) % 32) (by simp at x2; omega)
            show ((rot 32 x ((32 - (cu 127 b).toNat % 32) % 32) : Nat) : Int) ≤ _
            omega
          · have := rot_lt 64 x ((64 - (cu 126 b).toNat % 64) % 64) (by omega)
            show ((rot 64 x ((64 - (cu 126 b).toNat % 64) % 64) : Nat) : Int) ≤ _
            omega
  · have e : bV k n t a b = 0 ∧ bT k n t a b = 0 ∧ bO k = false := by
      refine ⟨?_, ?_, ?_⟩
      · unfold bV; rw [if_neg k4, if_neg k3]
      · unfold bT; rw [if_neg k3]
      · unfold bO; simp [k3, k4]
    rw [e.1, e.2.1, e.2.2]
    exact binary_none op k n t a b w h o1 o2 a1 a2 b1 b2 k4 k3
end Go.Proofs.YtkmdgdjdkkmjcaaDoor
