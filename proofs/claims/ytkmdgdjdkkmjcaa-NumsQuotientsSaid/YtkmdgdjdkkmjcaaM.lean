/- The reference's divide, as what twoV and twoT say. -/
import Derived.Test.YtkmdgdjdkkmjcaaH
import Derived.Test.YtkmdgdjdkkmjcaaK
namespace Go.Proofs.Ytkmdgdjdkkmjcaa
open Go.RowKit
set_option linter.unusedVariables false

theorem sg_zero {t b : Int} (ht : t = 127 ∨ t = 126) (b1 : 0 ≤ b) (b2 : b ≤ (if t = 127 then 4294967295 else 18446744073709551615)) : sg t b = 0 ↔ b = 0 := by
  rcases ht with rfl | rfl
  · simp at b2
    show wrap32 b = 0 ↔ b = 0
    unfold wrap32; omega
  · simp at b2
    show wrap64 b = 0 ↔ b = 0
    unfold wrap64; omega
theorem sg_least {t a : Int} (ht : t = 127 ∨ t = 126) (a1 : 0 ≤ a) (a2 : a ≤ (if t = 127 then 4294967295 else 18446744073709551615)) : sg t a = least64 t ↔ a = least t := by
  rcases ht with rfl | rfl
  · simp at a2
    show wrap32 a = -2147483648 ↔ a = 2147483648
    unfold wrap32; omega
  · simp at a2
    show wrap64 a = -9223372036854775808 ↔ a = 9223372036854775808
    unfold wrap64; omega
theorem sg_big {t a : Int} (ht : t = 127 ∨ t = 126) (h : sg t a ≠ least64 t) : sg t a ≠ -9223372036854775808 := by
  rcases ht with rfl | rfl
  · have : -2147483648 ≤ sg 127 a := (wrap32_bd a).1
    omega
  · exact h
theorem vl_cu {t : Int} (ht : t = 127 ∨ t = 126) (x : Int) : vl t x = cu t (IntKind.u64.wrap x) := by
  rcases ht with rfl | rfl
  · show x % 4294967296 = IntKind.u64.wrap x % 4294967296
    rw [IntKind.wrap_u64]; omega
  · show x % 18446744073709551616 = IntKind.u64.wrap x
    rw [IntKind.wrap_u64]
theorem cu_of {t a : Int} (a1 : 0 ≤ a) (a2 : a ≤ (if t = 127 then 4294967295 else 18446744073709551615)) : cu t a = a := by
  unfold cu
  split
  · rename_i h
    rw [if_pos h] at a2
    omega
  · rfl

theorem rdiv_any (n a b t : Int) (w : World) (hn : n = 3 ∨ n = 4 ∨ n = 5 ∨ n = 6) (ht : t = 127 ∨ t = 126) (a1 : 0 ≤ a) (a2 : a ≤ (if t = 127 then 4294967295 else 18446744073709551615)) (b1 : 0 ≤ b) (b2 : b ≤ (if t = 127 then 4294967295 else 18446744073709551615)) :
    Calls Try.prog 25 #[.int .i64 n, .int .u64 a, .int .u64 b, .int .i64 (sg t a), .int .i64 (sg t b), .int .i64 t] w fun e w' => e = .returned (.tuple #[.int .u64 (cu t (twoV n t a b)), .int .i64 (twoT n t a b)]) ∧ w = w' := by
  have a3 : a ≤ 18446744073709551615 := by split at a2 <;> omega
  have b3 : b ≤ 18446744073709551615 := by split at b2 <;> omega
  have z := sg_zero ht b1 b2
  have c0 : cu t 0 = 0 := by unfold cu; split <;> rfl
  by_cases hz : b = 0
  · have hz' := z.2 hz
    have e1 : cu t (twoV n t a b) = 0 ∧ twoT n t a b = 2 := by
      rcases hn with rfl | rfl | rfl | rfl
      · rw [twoV_3, twoT_3]; unfold quoV quoT; rw [if_pos (.inl hz'), if_pos hz']; exact ⟨c0, rfl⟩
      · rw [twoV_4, twoT_4, if_pos hz, if_pos hz]; exact ⟨c0, rfl⟩
      · rw [twoV_5, twoT_5]; unfold rstV rstT; rw [if_pos (.inl hz'), if_pos hz']; exact ⟨c0, rfl⟩
      · rw [twoV_6, twoT_6, if_pos hz, if_pos hz]; exact ⟨c0, rfl⟩
    rw [e1.1, e1.2, hz]
    exact rdiv_0 n a _ _ t w
  · have hz' : sg t b ≠ 0 := fun h => hz (z.1 h)
    have b4 : 1 ≤ b := by omega
    rcases hn with rfl | rfl | rfl | rfl
    · rw [twoV_3, twoT_3]
      unfold quoV quoT
      by_cases ho : sg t b = -1 ∧ a = least t
      · have hl := (sg_least ht a1 a2).2 ho.2
        rw [if_pos (.inr ho), if_neg hz', if_pos ho, c0, hl, ho.1]
        exact rdiv_3o a b t w ht b4 b3
      · rw [if_neg (fun h => h.elim hz' ho), if_neg hz', if_neg ho, ← vl_cu ht]
        have hl : ¬ (sg t a = least64 t ∧ sg t b = -1) := fun h => ho ⟨h.2, (sg_least ht a1 a2).1 h.1⟩
        refine rdiv_3 a b _ _ t w ht b4 b3 (sg_bd t a) (sg_bd t b) hz' hl ?_
        intro h
        exact sg_big ht (fun e => hl ⟨e, h.1⟩) h.2
    · rw [twoV_4, twoT_4, if_neg hz, if_neg hz, cu_of (Int.ediv_nonneg a1 b1) (Int.le_trans (Int.ediv_le_self _ a1) a2)]
      exact rdiv_4 a b _ _ t w ht a1 a3 b4 b3
    · rw [twoV_5, twoT_5]
      unfold rstV rstT
      by_cases ho : sg t b = -1
      · rw [if_pos (.inr ho), if_neg hz', c0, ho]
        exact rdiv_5m a b _ t w ht b4 b3
      · rw [if_neg (fun h => h.elim hz' ho), if_neg hz', ← vl_cu ht]
        exact rdiv_5 a b _ _ t w ht b4 b3 (sg_bd t a) (sg_bd t b) hz' ho
    · have hm := Int.emod_lt_of_pos a (show 0 < b by omega)
      rw [twoV_6, twoT_6, if_neg hz, if_neg hz, cu_of (Int.emod_nonneg a hz) (Int.le_trans (Int.le_of_lt hm) b2)]
      exact rdiv_6 a b _ _ t w ht a1 a3 b4 b3

set_option maxRecDepth 100000 in
theorem rb_none (op k n t : Int) (a b : Int) (w : World) (h : OfIs op k n t) (o1 : -9223372036854775808 ≤ op) (o2 : op ≤ 9223372036854775807) (hk4 : k ≠ 4) (hk3 : k ≠ 3) :
    Calls Try.prog 9 #[.int .i64 op, .int .u64 a, .int .u64 b] w fun e w' => e = .returned (.tuple #[.int .u64 0, .int .i64 0, .bool false]) ∧ w = w' := by
  have HF := fun w => Lib.hid (rsig_any op k n t w h o1 o2)
  have hs : (sN k != 2) = true := by
    unfold sN
    split
    · rfl
    · rfl
  generalize sR k t = r at *
  generalize sN k = m at *
  go_enter Try.func9, Try.ntmps9
  go_wp2_with fail
  refine (HF _).out.mono ?_
  rintro e w' ⟨rfl, rfl⟩
  go_wp2
  go_ret3
  exact ⟨rfl, rfl⟩

set_option maxRecDepth 100000 in
set_option maxHeartbeats 1000000 in
theorem rb_held127 (op : Int) (a b : Nat) (w : World) (o1 : 70 ≤ op) (o2 : op ≤ 79) (a2 : a < 18446744073709551616) (b2 : b < 18446744073709551616) :
    Calls Try.prog 9 #[.int .i64 op, .int .u64 a, .int .u64 b] w fun e w' => e = .returned (.tuple #[.int .u64 (if cmp (op - 70) (cu 127 a) (cu 127 b) (sg 127 (cu 127 a)) (sg 127 (cu 127 b)) then 1 else 0), .int .i64 0, .bool true]) ∧ w = w' := by
  have HF := fun w => Lib.hid (rsig_any op 4 (op - 70) 127 w ⟨.inr (.inr (.inl ⟨o1, o2, rfl, rfl, rfl⟩))⟩ (by omega) (by omega))
  have HH := fun w => Lib.hid (holds_any (op - 70) ((a : Int) % 4294967296) ((b : Int) % 4294967296) (sg 127 ((a : Int) % 4294967296)) (sg 127 ((b : Int) % 4294967296)) w)
  rw [cu127, cu127]
  generalize cmp (op - 70) ((a : Int) % 4294967296) ((b : Int) % 4294967296) (sg 127 ((a : Int) % 4294967296)) (sg 127 ((b : Int) % 4294967296)) = c at *
  go_enter Try.func9, Try.ntmps9
  go_wp2_with fail
  refine (HF _).out.mono ?_
  rintro e w' ⟨rfl, rfl⟩
  go_wp2_with fail
  refine (rsigned_any _ _ _ (by omega) (by omega)).mono ?_
  rintro e w' ⟨rfl, rfl⟩
  go_wp2_with fail
  refine (rsigned_any _ _ _ (by omega) (by omega)).mono ?_
  rintro e w' ⟨rfl, rfl⟩
  go_wp2_with fail
  refine (HH _).out.mono ?_
  rintro e w' ⟨rfl, rfl⟩
  cases c
  · go_wp2
    go_ret3
    exact ⟨rfl, rfl⟩
  · go_wp2
    go_ret3
    exact ⟨rfl, rfl⟩

set_option maxRecDepth 100000 in
set_option maxHeartbeats 1000000 in
theorem rb_held126 (op : Int) (a b : Nat) (w : World) (o1 : 81 ≤ op) (o2 : op ≤ 90) (a2 : a < 18446744073709551616) (b2 : b < 18446744073709551616) :
    Calls Try.prog 9 #[.int .i64 op, .int .u64 a, .int .u64 b] w fun e w' => e = .returned (.tuple #[.int .u64 (if cmp (op - 81) (cu 126 a) (cu 126 b) (sg 126 (cu 126 a)) (sg 126 (cu 126 b)) then 1 else 0), .int .i64 0, .bool true]) ∧ w = w' := by
  have HF := fun w => Lib.hid (rsig_any op 4 (op - 81) 126 w ⟨.inr (.inr (.inr (.inl ⟨o1, o2, rfl, rfl, rfl⟩)))⟩ (by omega) (by omega))
  have HH := fun w => Lib.hid (holds_any (op - 81) (a : Int) (b : Int) (sg 126 (a : Int)) (sg 126 (b : Int)) w)
  rw [cu126, cu126]
  generalize cmp (op - 81) (a : Int) (b : Int) (sg 126 (a : Int)) (sg 126 (b : Int)) = c at *
  go_enter Try.func9, Try.ntmps9
  go_wp2_with fail
  refine (HF _).out.mono ?_
  rintro e w' ⟨rfl, rfl⟩
  go_wp2_with fail
  refine (rsigned_any _ _ _ (by omega) (by omega)).mono ?_
  rintro e w' ⟨rfl, rfl⟩
  go_wp2_with fail
  refine (rsigned_any _ _ _ (by omega) (by omega)).mono ?_
  rintro e w' ⟨rfl, rfl⟩
  go_wp2_with fail
  refine (HH _).out.mono ?_
  rintro e w' ⟨rfl, rfl⟩
  cases c
  · go_wp2
    go_ret3
    exact ⟨rfl, rfl⟩
  · go_wp2
    go_ret3
    exact ⟨rfl, rfl⟩

set_option maxRecDepth 100000 in
set_option maxHeartbeats 1000000 in
theorem rb_127_3 (a b : Nat) (w : World) (a2 : a < 18446744073709551616) (b2 : b < 18446744073709551616) :
    Calls Try.prog 9 #[.int .i64 109, .int .u64 a, .int .u64 b] w fun e w' => e = .returned (.tuple #[.int .u64 (cu 127 (twoV 3 127 (cu 127 a) (cu 127 b))), .int .i64 (twoT 3 127 (cu 127 a) (cu 127 b)), .bool true]) ∧ w = w' := by
  have HF := fun w => Lib.hid (rsig_any 109 3 3 127 w ⟨by omega⟩ (by decide) (by decide))
  have HD := fun w => Lib.hid (rdiv_any 3 ((a : Int) % 4294967296) ((b : Int) % 4294967296) 127 w (by simp) (by simp) (by omega) (by simp; omega) (by omega) (by simp; omega))
  rw [cu127 a, cu127 b]
  generalize cu 127 (twoV 3 127 ((a : Int) % 4294967296) ((b : Int) % 4294967296)) = V at *
  generalize twoT 3 127 ((a : Int) % 4294967296) ((b : Int) % 4294967296) = T at *
  go_enter Try.func9, Try.ntmps9
  go_wp2_with fail
  refine (HF _).out.mono ?_
  rintro e w' ⟨rfl, rfl⟩
  go_wp2_with fail
  refine (rsigned_any _ _ _ (by omega) (by omega)).mono ?_
  rintro e w' ⟨rfl, rfl⟩
  go_wp2_with fail
  refine (rsigned_any _ _ _ (by omega) (by omega)).mono ?_
  rintro e w' ⟨rfl, rfl⟩
  go_wp2_with fail
  refine (HD _).out.mono ?_
  rintro e w' ⟨rfl, rfl⟩
  go_wp2
  go_ret3
  exact ⟨rfl, rfl⟩

set_option maxRecDepth 100000 in
set_option maxHeartbeats 1000000 in
theorem rb_126_3 (a b : Nat) (w : World) (a2 : a < 18446744073709551616) (b2 : b < 18446744073709551616) :
    Calls Try.prog 9 #[.int .i64 127, .int .u64 a, .int .u64 b] w fun e w' => e = .returned (.tuple #[.int .u64 (cu 126 (twoV 3 126 (cu 126 a) (cu 126 b))), .int .i64 (twoT 3 126 (cu 126 a) (cu 126 b)), .bool true]) ∧ w = w' := by
  have HF := fun w => Lib.hid (rsig_any 127 3 3 126 w ⟨by omega⟩ (by decide) (by decide))
  have HD := fun w => Lib.hid (rdiv_any 3 (a : Int) (b : Int) 126 w (by simp) (by simp) (by omega) (by simp; omega) (by omega) (by simp; omega))
  rw [cu126 a, cu126 b]
  generalize cu 126 (twoV 3 126 (a : Int) (b : Int)) = V at *
  generalize twoT 3 126 (a : Int) (b : Int) = T at *
  go_enter Try.func9, Try.ntmps9
  go_wp2_with fail
  refine (HF _).out.mono ?_
  rintro e w' ⟨rfl, rfl⟩
  go_wp2_with fail
  refine (rsigned_any _ _ _ (by omega) (by omega)).mono ?_
  rintro e w' ⟨rfl, rfl⟩
  go_wp2_with fail
  refine (rsigned_any _ _ _ (by omega) (by omega)).mono ?_
  rintro e w' ⟨rfl, rfl⟩
  go_wp2_with fail
  refine (HD _).out.mono ?_
  rintro e w' ⟨rfl, rfl⟩
  go_wp2
  go_ret3
  exact ⟨rfl, rfl⟩

set_option maxRecDepth 100000 in
set_option maxHeartbeats 1000000 in
theorem rb_127_4 (a b : Nat) (w : World) (a2 : a < 18446744073709551616) (b2 : b < 18446744073709551616) :
    Calls Try.prog 9 #[.int .i64 110, .int .u64 a, .int .u64 b] w fun e w' => e = .returned (.tuple #[.int .u64 (cu 127 (twoV 4 127 (cu 127 a) (cu 127 b))), .int .i64 (twoT 4 127 (cu 127 a) (cu 127 b)), .bool true]) ∧ w = w' := by
  have HF := fun w => Lib.hid (rsig_any 110 3 4 127 w ⟨by omega⟩ (by decide) (by decide))
  have HD := fun w => Lib.hid (rdiv_any 4 ((a : Int) % 4294967296) ((b : Int) % 4294967296) 127 w (by simp) (by simp) (by omega) (by simp; omega) (by omega) (by simp; omega))
  rw [cu127 a, cu127 b]
  generalize cu 127 (twoV 4 127 ((a : Int) % 4294967296) ((b : Int) % 4294967296)) = V at *
  generalize twoT 4 127 ((a : Int) % 4294967296) ((b : Int) % 4294967296) = T at *
  go_enter Try.func9, Try.ntmps9
  go_wp2_with fail
  refine (HF _).out.mono ?_
  rintro e w' ⟨rfl, rfl⟩
  go_wp2_with fail
  refine (rsigned_any _ _ _ (by omega) (by omega)).mono ?_
  rintro e w' ⟨rfl, rfl⟩
  go_wp2_with fail
  refine (rsigned_any _ _ _ (by omega) (by omega)).mono ?_
  rintro e w' ⟨rfl, rfl⟩
  go_wp2_with fail
  refine (HD _).out.mono ?_
  rintro e w' ⟨rfl, rfl⟩
  go_wp2
  go_ret3
  exact ⟨rfl, rfl⟩

set_option maxRecDepth 100000 in
set_option maxHeartbeats 1000000 in
theorem rb_126_4 (a b : Nat) (w : World) (a2 : a < 18446744073709551616) (b2 : b < 18446744073709551616) :
    Calls Try.prog 9 #[.int .i64 128, .int .u64 a, .int .u64 b] w fun e w' => e = .returned (.tuple #[.int .u64 (cu 126 (twoV 4 126 (cu 126 a) (cu 126 b))), .int .i64 (twoT 4 126 (cu 126 a) (cu 126 b)), .bool true]) ∧ w = w' := by
  have HF := fun w => Lib.hid (rsig_any 128 3 4 126 w ⟨by omega⟩ (by decide) (by decide))
  have HD := fun w => Lib.hid (rdiv_any 4 (a : Int) (b : Int) 126 w (by simp) (by simp) (by omega) (by simp; omega) (by omega) (by simp; omega))
  rw [cu126 a, cu126 b]
  generalize cu 126 (twoV 4 126 (a : Int) (b : Int)) = V at *
  generalize twoT 4 126 (a : Int) (b : Int) = T at *
  go_enter Try.func9, Try.ntmps9
  go_wp2_with fail
  refine (HF _).out.mono ?_
  rintro e w' ⟨rfl, rfl⟩
  go_wp2_with fail
  refine (rsigned_any _ _ _ (by omega) (by omega)).mono ?_
  rintro e w' ⟨rfl, rfl⟩
  go_wp2_with fail
  refine (rsigned_any _ _ _ (by omega) (by omega)).mono ?_
  rintro e w' ⟨rfl, rfl⟩
  go_wp2_with fail
  refine (HD _).out.mono ?_
  rintro e w' ⟨rfl, rfl⟩
  go_wp2
  go_ret3
  exact ⟨rfl, rfl⟩

set_option maxRecDepth 100000 in
set_option maxHeartbeats 1000000 in
theorem rb_127_5 (a b : Nat) (w : World) (a2 : a < 18446744073709551616) (b2 : b < 18446744073709551616) :
    Calls Try.prog 9 #[.int .i64 111, .int .u64 a, .int .u64 b] w fun e w' => e = .returned (.tuple #[.int .u64 (cu 127 (twoV 5 127 (cu 127 a) (cu 127 b))), .int .i64 (twoT 5 127 (cu 127 a) (cu 127 b)), .bool true]) ∧ w = w' := by
  have HF := fun w => Lib.hid (rsig_any 111 3 5 127 w ⟨by omega⟩ (by decide) (by decide))
  have HD := fun w => Lib.hid (rdiv_any 5 ((a : Int) % 4294967296) ((b : Int) % 4294967296) 127 w (by simp) (by simp) (by omega) (by simp; omega) (by omega) (by simp; omega))
  rw [cu127 a, cu127 b]
  generalize cu 127 (twoV 5 127 ((a : Int) % 4294967296) ((b : Int) % 4294967296)) = V at *
  generalize twoT 5 127 ((a : Int) % 4294967296) ((b : Int) % 4294967296) = T at *
  go_enter Try.func9, Try.ntmps9
  go_wp2_with fail
  refine (HF _).out.mono ?_
  rintro e w' ⟨rfl, rfl⟩
  go_wp2_with fail
  refine (rsigned_any _ _ _ (by omega) (by omega)).mono ?_
  rintro e w' ⟨rfl, rfl⟩
  go_wp2_with fail
  refine (rsigned_any _ _ _ (by omega) (by omega)).mono ?_
  rintro e w' ⟨rfl, rfl⟩
  go_wp2_with fail
  refine (HD _).out.mono ?_
  rintro e w' ⟨rfl, rfl⟩
  go_wp2
  go_ret3
  exact ⟨rfl, rfl⟩

set_option maxRecDepth 100000 in
set_option maxHeartbeats 1000000 in
theorem rb_126_5 (a b : Nat) (w : World) (a2 : a < 18446744073709551616) (b2 : b < 18446744073709551616) :
    Calls Try.prog 9 #[.int .i64 129, .int .u64 a, .int .u64 b] w fun e w' => e = .returned (.tuple #[.int .u64 (cu 126 (twoV 5 126 (cu 126 a) (cu 126 b))), .int .i64 (twoT 5 126 (cu 126 a) (cu 126 b)), .bool true]) ∧ w = w' := by
  have HF := fun w => Lib.hid (rsig_any 129 3 5 126 w ⟨by omega⟩ (by decide) (by decide))
  have HD := fun w => Lib.hid (rdiv_any 5 (a : Int) (b : Int) 126 w (by simp) (by simp) (by omega) (by simp; omega) (by omega) (by simp; omega))
  rw [cu126 a, cu126 b]
  generalize cu 126 (twoV 5 126 (a : Int) (b : Int)) = V at *
  generalize twoT 5 126 (a : Int) (b : Int) = T at *
  go_enter Try.func9, Try.ntmps9
  go_wp2_with fail
  refine (HF _).out.mono ?_
  rintro e w' ⟨rfl, rfl⟩
  go_wp2_with fail
  refine (rsigned_any _ _ _ (by omega) (by omega)).mono ?_
  rintro e w' ⟨rfl, rfl⟩
  go_wp2_with fail
  refine (rsigned_any _ _ _ (by omega) (by omega)).mono ?_
  rintro e w' ⟨rfl, rfl⟩
  go_wp2_with fail
  refine (HD _).out.mono ?_
  rintro e w' ⟨rfl, rfl⟩
  go_wp2
  go_ret3
  exact ⟨rfl, rfl⟩

set_option maxRecDepth 100000 in
set_option maxHeartbeats 1000000 in
theorem rb_127_6 (a b : Nat) (w : World) (a2 : a < 18446744073709551616) (b2 : b < 18446744073709551616) :
    Calls Try.prog 9 #[.int .i64 112, .int .u64 a, .int .u64 b] w fun e w' => e = .returned (.tuple #[.int .u64 (cu 127 (twoV 6 127 (cu 127 a) (cu 127 b))), .int .i64 (twoT 6 127 (cu 127 a) (cu 127 b)), .bool true]) ∧ w = w' := by
  have HF := fun w => Lib.hid (rsig_any 112 3 6 127 w ⟨by omega⟩ (by decide) (by decide))
  have HD := fun w => Lib.hid (rdiv_any 6 ((a : Int) % 4294967296) ((b : Int) % 4294967296) 127 w (by simp) (by simp) (by omega) (by simp; omega) (by omega) (by simp; omega))
  rw [cu127 a, cu127 b]
  generalize cu 127 (twoV 6 127 ((a : Int) % 4294967296) ((b : Int) % 4294967296)) = V at *
  generalize twoT 6 127 ((a : Int) % 4294967296) ((b : Int) % 4294967296) = T at *
  go_enter Try.func9, Try.ntmps9
  go_wp2_with fail
  refine (HF _).out.mono ?_
  rintro e w' ⟨rfl, rfl⟩
  go_wp2_with fail
  refine (rsigned_any _ _ _ (by omega) (by omega)).mono ?_
  rintro e w' ⟨rfl, rfl⟩
  go_wp2_with fail
  refine (rsigned_any _ _ _ (by omega) (by omega)).mono ?_
  rintro e w' ⟨rfl, rfl⟩
  go_wp2_with fail
  refine (HD _).out.mono ?_
  rintro e w' ⟨rfl, rfl⟩
  go_wp2
  go_ret3
  exact ⟨rfl, rfl⟩

set_option maxRecDepth 100000 in
set_option maxHeartbeats 1000000 in
theorem rb_126_6 (a b : Nat) (w : World) (a2 : a < 18446744073709551616) (b2 : b < 18446744073709551616) :
    Calls Try.prog 9 #[.int .i64 130, .int .u64 a, .int .u64 b] w fun e w' => e = .returned (.tuple #[.int .u64 (cu 126 (twoV 6 126 (cu 126 a) (cu 126 b))), .int .i64 (twoT 6 126 (cu 126 a) (cu 126 b)), .bool true]) ∧ w = w' := by
  have HF := fun w => Lib.hid (rsig_any 130 3 6 126 w ⟨by omega⟩ (by decide) (by decide))
  have HD := fun w => Lib.hid (rdiv_any 6 (a : Int) (b : Int) 126 w (by simp) (by simp) (by omega) (by simp; omega) (by omega) (by simp; omega))
  rw [cu126 a, cu126 b]
  generalize cu 126 (twoV 6 126 (a : Int) (b : Int)) = V at *
  generalize twoT 6 126 (a : Int) (b : Int) = T at *
  go_enter Try.func9, Try.ntmps9
  go_wp2_with fail
  refine (HF _).out.mono ?_
  rintro e w' ⟨rfl, rfl⟩
  go_wp2_with fail
  refine (rsigned_any _ _ _ (by omega) (by omega)).mono ?_
  rintro e w' ⟨rfl, rfl⟩
  go_wp2_with fail
  refine (rsigned_any _ _ _ (by omega) (by omega)).mono ?_
  rintro e w' ⟨rfl, rfl⟩
  go_wp2_with fail
  refine (HD _).out.mono ?_
  rintro e w' ⟨rfl, rfl⟩
  go_wp2
  go_ret3
  exact ⟨rfl, rfl⟩
end Go.Proofs.Ytkmdgdjdkkmjcaa
