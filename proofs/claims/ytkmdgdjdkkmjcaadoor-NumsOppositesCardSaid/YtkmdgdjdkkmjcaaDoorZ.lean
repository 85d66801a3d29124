/- The reference's Unary where it does not count. -/
import Derived.Test.YtkmdgdjdkkmjcaaDoorV
namespace Go.Proofs.YtkmdgdjdkkmjcaaDoor
open Go.RowKit
set_option linter.unusedVariables false

theorem of_69 : OfIs 69 2 0 127 := ⟨.inl ⟨rfl, rfl, rfl, rfl⟩⟩
theorem of_80 : OfIs 80 2 0 126 := ⟨.inr (.inl ⟨rfl, rfl, rfl, rfl⟩)⟩
theorem of_167 : OfIs 167 5 0 126 := ⟨.inr (.inr (.inr (.inr (.inr (.inr (.inr (.inr (.inl ⟨rfl, rfl, rfl, rfl⟩))))))))⟩
theorem of_172 : OfIs 172 5 1 127 := ⟨.inr (.inr (.inr (.inr (.inr (.inr (.inr (.inr (.inr (.inl ⟨rfl, rfl, rfl, rfl⟩)))))))))⟩
theorem of_173 : OfIs 173 5 2 127 := ⟨.inr (.inr (.inr (.inr (.inr (.inr (.inr (.inr (.inr (.inr (.inl ⟨rfl, rfl, rfl, rfl⟩))))))))))⟩

set_option maxRecDepth 100000 in
set_option maxHeartbeats 1000000 in
theorem utest_127 (a x : Int) (w : World) (hx : a % 4294967296 = x) (x1 : 0 ≤ x) (x2 : x < 4294967296) (a1 : 0 ≤ a) (a2 : a < 18446744073709551616) :
    Calls Tryd.prog 6 #[.int .i64 69, .int .u64 a] w fun e w' => e = .returned (.tuple #[.int .u64 (if x = 0 then 1 else 0), .bool true]) ∧ w = w' := by
  have HF : ∀ w, Hid (Calls Tryd.prog 13 #[.int .i64 69] w fun e w' => e = .returned (.tuple #[.int .i64 1, .int .i64 127, .int .i64 127]) ∧ w = w') := fun w => by
    have h := rsig_any 69 2 0 127 w of_69 (by decide) (by decide)
    rw [show sN 2 = 1 from rfl, show sR 2 127 = 127 from rfl] at h
    exact Lib.hid h
  by_cases h0 : x = 0
  · subst h0
    go_enter Tryd.func6, Tryd.ntmps6
    go_wp2_with fail
    refine (HF _).out.mono ?_
    rintro e w' ⟨rfl, rfl⟩
    go_wp2
    go_ret2
    exact ⟨rfl, rfl⟩
  · rw [if_neg h0]
    have hb : (x == 0) = false := by simp [h0]
    go_enter Tryd.func6, Tryd.ntmps6
    go_wp2_with fail
    refine (HF _).out.mono ?_
    rintro e w' ⟨rfl, rfl⟩
    go_wp2
    go_ret2
    exact ⟨rfl, rfl⟩

set_option maxRecDepth 100000 in
set_option maxHeartbeats 1000000 in
theorem utest_126 (x : Int) (w : World) (x1 : 0 ≤ x) (x2 : x < 18446744073709551616) :
    Calls Tryd.prog 6 #[.int .i64 80, .int .u64 x] w fun e w' => e = .returned (.tuple #[.int .u64 (if x = 0 then 1 else 0), .bool true]) ∧ w = w' := by
  have HF : ∀ w, Hid (Calls Tryd.prog 13 #[.int .i64 80] w fun e w' => e = .returned (.tuple #[.int .i64 1, .int .i64 126, .int .i64 127]) ∧ w = w') := fun w => by
    have h := rsig_any 80 2 0 126 w of_80 (by decide) (by decide)
    rw [show sN 2 = 1 from rfl, show sR 2 126 = 127 from rfl] at h
    exact Lib.hid h
  by_cases h0 : x = 0
  · subst h0
    go_enter Tryd.func6, Tryd.ntmps6
    go_wp2_with fail
    refine (HF _).out.mono ?_
    rintro e w' ⟨rfl, rfl⟩
    go_wp2
    go_ret2
    exact ⟨rfl, rfl⟩
  · rw [if_neg h0]
    have hb : (x == 0) = false := by simp [h0]
    go_enter Tryd.func6, Tryd.ntmps6
    go_wp2_with fail
    refine (HF _).out.mono ?_
    rintro e w' ⟨rfl, rfl⟩
    go_wp2
    go_ret2
    exact ⟨rfl, rfl⟩

set_option maxRecDepth 100000 in
set_option maxHeartbeats 1000000 in
theorem uwrap_167 (a x : Int) (w : World) (hx : a % 4294967296 = x) (x1 : 0 ≤ x) (x2 : x < 4294967296) (a1 : 0 ≤ a) (a2 : a < 18446744073709551616) :
    Calls Tryd.prog 6 #[.int .i64 167, .int .u64 a] w fun e w' => e = .returned (.tuple #[.int .u64 x, .bool true]) ∧ w = w' := by
  have HF : ∀ w, Hid (Calls Tryd.prog 13 #[.int .i64 167] w fun e w' => e = .returned (.tuple #[.int .i64 1, .int .i64 126, .int .i64 127]) ∧ w = w') := fun w => by
    have h := rsig_any 167 5 0 126 w of_167 (by decide) (by decide)
    rw [show sN 5 = 1 from rfl, show sR 5 126 = 127 from rfl] at h
    exact Lib.hid h
  go_enter Tryd.func6, Tryd.ntmps6
  go_wp2_with fail
  refine (HF _).out.mono ?_
  rintro e w' ⟨rfl, rfl⟩
  go_wp2
  go_ret2
  exact ⟨rfl, rfl⟩

set_option maxRecDepth 100000 in
set_option maxHeartbeats 1000000 in
theorem uturn_173 (a x : Int) (w : World) (hx : a % 4294967296 = x) (x1 : 0 ≤ x) (x2 : x < 4294967296) (a1 : 0 ≤ a) (a2 : a < 18446744073709551616) :
    Calls Tryd.prog 6 #[.int .i64 173, .int .u64 a] w fun e w' => e = .returned (.tuple #[.int .u64 x, .bool true]) ∧ w = w' := by
  have HF : ∀ w, Hid (Calls Tryd.prog 13 #[.int .i64 173] w fun e w' => e = .returned (.tuple #[.int .i64 1, .int .i64 127, .int .i64 126]) ∧ w = w') := fun w => by
    have h := rsig_any 173 5 2 127 w of_173 (by decide) (by decide)
    rw [show sN 5 = 1 from rfl, show sR 5 127 = 126 from rfl] at h
    exact Lib.hid h
  go_enter Tryd.func6, Tryd.ntmps6
  go_wp2_with fail
  refine (HF _).out.mono ?_
  rintro e w' ⟨rfl, rfl⟩
  go_wp2
  go_ret2
  exact ⟨rfl, rfl⟩

set_option maxRecDepth 100000 in
set_option maxHeartbeats 1000000 in
theorem uturn_172 (a x : Int) (w : World) (hx : a % 4294967296 = x) (x1 : 0 ≤ x) (x2 : x < 4294967296) (a1 : 0 ≤ a) (a2 : a < 18446744073709551616) :
    Calls Tryd.prog 6 #[.int .i64 172, .int .u64 a] w fun e w' => e = .returned (.tuple #[.int .u64 (IntKind.u64.wrap (wrap32 x)), .bool true]) ∧ w = w' := by
  have HF : ∀ w, Hid (Calls Tryd.prog 13 #[.int .i64 172] w fun e w' => e = .returned (.tuple #[.int .i64 1, .int .i64 127, .int .i64 126]) ∧ w = w') := fun w => by
    have h := rsig_any 172 5 1 127 w of_172 (by decide) (by decide)
    rw [show sN 5 = 1 from rfl, show sR 5 127 = 126 from rfl] at h
    exact Lib.hid h
  have hw := wrap32_bd x
  go_enter Tryd.func6, Tryd.ntmps6
  go_wp2_with fail
  refine (HF _).out.mono ?_
  rintro e w' ⟨rfl, rfl⟩
  go_wp2
  go_ret2
  exact ⟨rfl, rfl⟩

set_option maxRecDepth 100000 in
set_option maxHeartbeats 1000000 in
theorem unone (op k n t a : Int) (w : World) (h : OfIs op k n t) (o1 : -9223372036854775808 ≤ op) (o2 : op ≤ 9223372036854775807) (hk : (sN k == 1) = false)
    (a1 : 0 ≤ a) (a2 : a < 18446744073709551616) :
    Calls Tryd.prog 6 #[.int .i64 op, .int .u64 a] w fun e w' => e = .returned (.tuple #[.int .u64 0, .bool false]) ∧ w = w' := by
  have HF := fun w => Lib.hid (rsig_any op k n t w h o1 o2)
  clear h
  generalize sN k = N at *
  generalize sR k t = R at *
  go_enter Tryd.func6, Tryd.ntmps6
  go_wp2_with fail
  refine (HF _).out.mono ?_
  rintro e w' ⟨rfl, rfl⟩
  go_wp2
  go_ret2
  exact ⟨rfl, rfl⟩
end Go.Proofs.YtkmdgdjdkkmjcaaDoor
