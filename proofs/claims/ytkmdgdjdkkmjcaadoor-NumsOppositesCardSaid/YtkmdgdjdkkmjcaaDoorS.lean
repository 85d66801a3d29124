/- The contract of Unary. -/
import Derived.Test.YtkmdgdjdkkmjcaaDoorR
namespace Go.Proofs.YtkmdgdjdkkmjcaaDoor
open Go.RowKit
set_option linter.unusedVariables false

theorem TabAt.below {w w' : World} (h : TabAt w) (b : Below w.heap.size w w') : TabAt w' := fun j hj => by
  have := h j hj
  rw [b.cell (World.block_lt_of_cell? _ _ this), this]

def uV (k n t a : Int) : Int :=
  if k = 1 then (cnt n t (cu t a).toNat : Nat) else if k = 2 then (if cu t a = 0 then 1 else 0) else if k = 5 then (if n = 1 then IntKind.u64.wrap (wrap32 (cu t a)) else cu t a % 4294967296) else 0
def uO (k : Int) : Bool := k == 1 || k == 2 || k == 5

theorem of_u {op k n t : Int} (h : OfIs op k n t) : (k = 1 ∧ (t = 127 ∨ t = 126) ∧ 0 ≤ n ∧ n ≤ 2) ∨ k = 2 ∨ (k = 5 ∧ (n = 1 ∨ n = 0 ∨ n = 2)) ∨ (k ≠ 1 ∧ k ≠ 2 ∧ k ≠ 5) := by
  rcases h.is with ⟨g1, h, e1, e2⟩ | ⟨g1, h, e1, e2⟩ | ⟨g1, g2, h, e1, e2⟩ | ⟨g1, g2, h, e1, e2⟩ | ⟨g1, g2, h, e1, e2⟩ | ⟨g1, g2, h, e1, e2⟩ | ⟨g1, g2, h, e1, e2⟩ | ⟨g1, g2, h, e1, e2⟩ | ⟨g1, h, e1, e2⟩ | ⟨g1, h, e1, e2⟩ | ⟨g1, h, e1, e2⟩ | ⟨g1, h, e1, e2⟩
  all_goals omega

set_option maxRecDepth 100000 in
set_option maxHeartbeats 2000000 in
theorem unary_any (op k n t a : Int) (w : World) (h : OfIs op k n t) (o1 : -9223372036854775808 ≤ op) (o2 : op ≤ 9223372036854775807)
    (a1 : 0 ≤ a) (a2 : a ≤ 18446744073709551615) (hT : TabAt w) :
    Calls Tryd.prog 5 #[.int .i64 op, .int .u64 a] w fun e w' => e = .returned (.tuple #[.int .u64 (uV k n t a), .bool (uO k)]) ∧ Below w.heap.size w w' := by
  have HF := fun w => Lib.hid (of_any op k n t w h o1 o2)
  have ⟨c1, c2⟩ := cu_bd t a a1 a2
  have HC := fun w => Lib.hid (cut2 a t w a1 a2)
  have HB : ∀ o1 o2, Below w.heap.size w ((w.alloc o1).alloc o2) := fun o1 o2 => (Below.of_alloc w o1).alloc (by simp) o2
  have HTB : ∀ o1 o2, Hid (TabAt ((w.alloc o1).alloc o2)) := fun o1 o2 => Lib.hid (hT.below (HB o1 o2))
  have hu := of_u h
  have hcs := cu_small t a a1 a2
  clear h hT a1 a2
  rcases hu with ⟨rfl, ht, n1, n2⟩ | rfl | ⟨rfl, hn⟩ | ⟨k1, k2, k5⟩
  · have e : uV 1 n t a = (cnt n t (cu t a).toNat : Nat) := rfl
    rw [e, show uO 1 = true from rfl]
    obtain ⟨x, hx⟩ := Int.eq_ofNat_of_zero_le c1
    have hxw : x < 2 ^ wd t := by
      rw [hx] at hcs
      rcases ht with rfl | rfl
      · have := hcs.2
        simp at this
        show x < 4294967296
        omega
      · have := hcs.2
        simp at this
        show x < 18446744073709551616
        omega
    rw [hx] at HC ⊢
    rw [Int.toNat_natCast]
    have HN := fun w hT => Lib.hid (counts_any n t x w ⟨n1, n2⟩ ht hxw hT)
    clear hx hcs c1 c2 e hxw
    generalize cnt n t x = c at *
    go_enter Tryd.func5, Tryd.ntmps5
    go_wp2_with fail
    refine (HF _).out.mono ?_
    rintro e w' ⟨rfl, rfl⟩
    go_wp2_with fail
    refine (HC _).out.mono ?_
    rintro e w' ⟨rfl, rfl⟩
    go_wp2_with fail
    refine (HN _ (HTB _ _).out).out.mono ?_
    rintro e w' ⟨rfl, rfl⟩
    go_wp2
    go_ret2
    exact ⟨rfl, HB _ _⟩
  · have e : uV 2 n t a = (if cu t a = 0 then 1 else 0) := rfl
    rw [e, show uO 2 = true from rfl]
    clear hcs e
    generalize cu t a = x at *
    have HD := fun w => Lib.hid (told_any (x == 0) w)
    have ex : (if (x == 0) = true then (1 : Int) else 0) = (if x = 0 then 1 else 0) := by simp
    rw [ex] at HD
    clear ex
    generalize (if x = 0 then (1 : Int) else 0) = v at *
    go_enter Tryd.func5, Tryd.ntmps5
    go_wp2_with fail
    refine (HF _).out.mono ?_
    rintro e w' ⟨rfl, rfl⟩
    go_wp2_with fail
    refine (HC _).out.mono ?_
    rintro e w' ⟨rfl, rfl⟩
    go_wp2_with fail
    refine (HD _).out.mono ?_
    rintro e w' ⟨rfl, rfl⟩
    go_wp2
    go_ret2
    exact ⟨rfl, HB _ _⟩
  · have e : uV 5 n t a = (if n = 1 then IntKind.u64.wrap (wrap32 (cu t a)) else cu t a % 4294967296) := rfl
    rw [e, show uO 5 = true from rfl]
    clear hcs e
    generalize cu t a = x at *
    have hw := wrap32_bd x
    rcases hn with rfl | rfl | rfl
    · rw [if_pos rfl]
      go_enter Tryd.func5, Tryd.ntmps5
      go_wp2_with fail
      refine (HF _).out.mono ?_
      rintro e w' ⟨rfl, rfl⟩
      go_wp2_with fail
      refine (HC _).out.mono ?_
      rintro e w' ⟨rfl, rfl⟩
      go_wp2
      go_ret2
      exact ⟨rfl, HB _ _⟩
    · rw [if_neg (by decide)]
      go_enter Tryd.func5, Tryd.ntmps5
      go_wp2_with fail
      refine (HF _).out.mono ?_
      rintro e w' ⟨rfl, rfl⟩
      go_wp2_with fail
      refine (HC _).out.mono ?_
      rintro e w' ⟨rfl, rfl⟩
      go_wp2
      go_ret2
      exact ⟨rfl, HB _ _⟩
    · rw [if_neg (by decide)]
      go_enter Tryd.func5, Tryd.ntmps5
      go_wp2_with fail
      refine (HF _).out.mono ?_
      rintro e w' ⟨rfl, rfl⟩
      go_wp2_with fail
      refine (HC _).out.mono ?_
      rintro e w' ⟨rfl, rfl⟩
      go_wp2
      go_ret2
      exact ⟨rfl, HB _ _⟩
  · have e : uV k n t a = 0 ∧ uO k = false := by
      unfold uV uO
      rw [if_neg k1, if_neg k2, if_neg k5]
      simp [k1, k2, k5]
    rw [e.1, e.2]
    have q1 : (k == 1) = false := by simp [k1]
    have q2 : (k == 2) = false := by simp [k2]
    have q5 : (k == 5) = false := by simp [k5]
    clear e hcs
    generalize cu t a = x at *
    go_enter Tryd.func5, Tryd.ntmps5
    go_wp2_with fail
    refine (HF _).out.mono ?_
    rintro e w' ⟨rfl, rfl⟩
    go_wp2_with fail
    refine (HC _).out.mono ?_
    rintro e w' ⟨rfl, rfl⟩
    go_wp2
    go_ret2
    exact ⟨rfl, HB _ _⟩
end Go.Proofs.YtkmdgdjdkkmjcaaDoor
