/- The contract of the reference's Binary: it tells what Binary tells. -/
import Derived.Test.YtkmdgdjdkkmjcaaM
import Derived.Test.YtkmdgdjdkkmjcaaJ
import Derived.Test.YtkmdgdjdkkmjcaaI
namespace Go.Proofs.Ytkmdgdjdkkmjcaa
open Go.RowKit
set_option linter.unusedVariables false

theorem twoT_0 (n t a b : Int) (h : n ≠ 3 ∧ n ≠ 4 ∧ n ≠ 5 ∧ n ≠ 6) : twoT n t a b = 0 := by
  unfold twoT; rw [if_neg h.1, if_neg h.2.1, if_neg h.2.2.1, if_neg h.2.2.2]

theorem rbinary_any (op k n t a b : Int) (w : World) (h : OfIs op k n t) (o1 : -9223372036854775808 ≤ op) (o2 : op ≤ 9223372036854775807)
    (a1 : 0 ≤ a) (a2 : a ≤ 18446744073709551615) (b1 : 0 ≤ b) (b2 : b ≤ 18446744073709551615) :
    Calls Try.prog 9 #[.int .i64 op, .int .u64 a, .int .u64 b] w fun e w' => e = .returned (.tuple #[.int .u64 (bV k n t a b), .int .i64 (bT k n t a b), .bool (bO k)]) ∧ w = w' := by
  obtain ⟨x, rfl⟩ := Int.eq_ofNat_of_zero_le a1
  obtain ⟨y, rfl⟩ := Int.eq_ofNat_of_zero_le b1
  have x2 : x < 18446744073709551616 := by omega
  have y2 : y < 18446744073709551616 := by omega
  by_cases k4 : k = 4
  · subst k4
    obtain ⟨ht, n1, n2, e1, e2⟩ := of_4 h
    have eV : bV 4 n t x y = (if cmp n (cu t x) (cu t y) (sg t (cu t x)) (sg t (cu t y)) then 1 else 0) := by unfold bV; rw [if_pos rfl]
    have eT : bT 4 n t x y = 0 := by unfold bT; rw [if_neg (by decide)]
    rw [eV, eT, show bO 4 = true from rfl]
    rcases ht with rfl | rfl
    · have e1 := e1 rfl
      obtain rfl : n = op - 70 := by omega
      exact rb_held127 op x y w (by omega) (by omega) x2 y2
    · have e2 := e2 rfl
      obtain rfl : n = op - 81 := by omega
      exact rb_held126 op x y w (by omega) (by omega) x2 y2
  by_cases k3 : k = 3
  · subst k3
    obtain ⟨ht, n1, n2, e1, e2⟩ := of_3 h
    have eV : bV 3 n t x y = cu t (twoV n t (cu t x) (cu t y)) := by unfold bV; rw [if_neg (by decide), if_pos rfl]
    have eT : bT 3 n t x y = twoT n t (cu t x) (cu t y) := by unfold bT; rw [if_pos rfl]
    rw [eV, eT, show bO 3 = true from rfl]
    have hc : n = 0 ∨ n = 1 ∨ n = 2 ∨ n = 3 ∨ n = 4 ∨ n = 5 ∨ n = 6 ∨ n = 7 ∨ n = 8 ∨ n = 9 ∨ n = 10 ∨ n = 11 ∨ n = 12 ∨ n = 13 ∨ n = 14 := by omega
    rcases ht with rfl | rfl
    · have e1 := e1 rfl
      rcases hc with rfl | rfl | rfl | rfl | rfl | rfl | rfl | rfl | rfl | rfl | rfl | rfl | rfl | rfl | rfl
      · obtain rfl : op = 106 := by omega
        rw [twoT_0 _ _ _ _ (by decide)]; exact rb_127_0 x y w x2 y2
      · obtain rfl : op = 107 := by omega
        rw [twoT_0 _ _ _ _ (by decide)]; exact rb_127_1 x y w x2 y2
      · obtain rfl : op = 108 := by omega
        rw [twoT_0 _ _ _ _ (by decide)]; exact rb_127_2 x y w x2 y2
      · obtain rfl : op = 109 := by omega
        exact rb_127_3 x y w x2 y2
      · obtain rfl : op = 110 := by omega
        exact rb_127_4 x y w x2 y2
      · obtain rfl : op = 111 := by omega
        exact rb_127_5 x y w x2 y2
      · obtain rfl : op = 112 := by omega
        exact rb_127_6 x y w x2 y2
      · obtain rfl : op = 113 := by omega
        rw [twoT_0 _ _ _ _ (by decide)]; exact rb_127_7 x y w x2 y2
      · obtain rfl : op = 114 := by omega
        rw [twoT_0 _ _ _ _ (by decide)]; exact rb_127_8 x y w x2 y2
      · obtain rfl : op = 115 := by omega
        rw [twoT_0 _ _ _ _ (by decide)]; exact rb_127_9 x y w x2 y2
      · obtain rfl : op = 116 := by omega
        rw [twoT_0 _ _ _ _ (by decide)]; exact rb_127_10 x y w x2 y2
      · obtain rfl : op = 117 := by omega
        rw [twoT_0 _ _ _ _ (by decide)]; exact rb_127_11 x y w x2 y2
      · obtain rfl : op = 118 := by omega
        rw [twoT_0 _ _ _ _ (by decide)]; exact rb_127_12 x y w x2 y2
      · obtain rfl : op = 119 := by omega
        rw [twoT_0 _ _ _ _ (by decide)]; exact rb_127_13 x y w x2 y2
      · obtain rfl : op = 120 := by omega
        rw [twoT_0 _ _ _ _ (by decide)]; exact rb_127_14 x y w x2 y2
    · have e2 := e2 rfl
      rcases hc with rfl | rfl | rfl | rfl | rfl | rfl | rfl | rfl | rfl | rfl | rfl | rfl | rfl | rfl | rfl
      · obtain rfl : op = 124 := by omega
        rw [twoT_0 _ _ _ _ (by decide)]; exact rb_126_0 x y w x2 y2
      · obtain rfl : op = 125 := by omega
        rw [twoT_0 _ _ _ _ (by decide)]; exact rb_126_1 x y w x2 y2
      · obtain rfl : op = 126 := by omega
        rw [twoT_0 _ _ _ _ (by decide)]; exact rb_126_2 x y w x2 y2
      · obtain rfl : op = 127 := by omega
        exact rb_126_3 x y w x2 y2
      · obtain rfl : op = 128 := by omega
        exact rb_126_4 x y w x2 y2
      · obtain rfl : op = 129 := by omega
        exact rb_126_5 x y w x2 y2
      · obtain rfl : op = 130 := by omega
        exact rb_126_6 x y w x2 y2
      · obtain rfl : op = 131 := by omega
        rw [twoT_0 _ _ _ _ (by decide)]; exact rb_126_7 x y w x2 y2
      · obtain rfl : op = 132 := by omega
        rw [twoT_0 _ _ _ _ (by decide)]; exact rb_126_8 x y w x2 y2
      · obtain rfl : op = 133 := by omega
        rw [twoT_0 _ _ _ _ (by decide)]; exact rb_126_9 x y w x2 y2
      · obtain rfl : op = 134 := by omega
        rw [twoT_0 _ _ _ _ (by decide)]; exact rb_126_10 x y w x2 y2
      · obtain rfl : op = 135 := by omega
        rw [twoT_0 _ _ _ _ (by decide)]; exact rb_126_11 x y w x2 y2
      · obtain rfl : op = 136 := by omega
        rw [twoT_0 _ _ _ _ (by decide)]; exact rb_126_12 x y w x2 y2
      · obtain rfl : op = 137 := by omega
        rw [twoT_0 _ _ _ _ (by decide)]; exact rb_126_13 x y w x2 y2
      · obtain rfl : op = 138 := by omega
        rw [twoT_0 _ _ _ _ (by decide)]; exact rb_126_14 x y w x2 y2
  have e : bV k n t x y = 0 ∧ bT k n t x y = 0 ∧ bO k = false := by
    refine ⟨?_, ?_, ?_⟩
    · unfold bV; rw [if_neg k4, if_neg k3]
    · unfold bT; rw [if_neg k3]
    · unfold bO; simp [k3, k4]
  rw [e.1, e.2.1, e.2.2]
  exact rb_none op k n t x y w h o1 o2 k4 k3
end Go.Proofs.Ytkmdgdjdkkmjcaa
