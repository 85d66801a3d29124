/- The calls on no memory at all. -/
import Derived.Test.YtfnicijfhpfohaaV
namespace Go.Proofs.Ytfnicijfhpfohaa
open Go.RowKit
set_option linter.unusedVariables false

theorem part_nil (at_ : Nat) (n : Int) (w : World) (hat : at_ < 18446744073709551616) (hn : n ≤ 9223372036854775807) :
    Calls Try.prog 23 #[.pointer none, .int .u64 at_, .int .i64 n] w fun e w' => e = .returned (.tuple #[.slice none 0 0, .bool (isThere 0 at_ n)]) ∧ w = w' := by
  by_cases h1 : n < 0
  · have ht : isThere 0 at_ n = false := by simp [isThere]; omega
    rw [ht]
    go_enter Try.func23, Try.ntmps23
    go_wp2
    go_ret2
    exact ⟨rfl, rfl⟩
  · by_cases h2 : at_ = 0
    · subst h2
      by_cases h3 : n = 0
      · subst h3
        rw [show isThere 0 0 0 = true from rfl]
        go_enter Try.func23, Try.ntmps23
        go_wp2
        go_ret2
        exact ⟨rfl, rfl⟩
      · have ht : isThere 0 0 n = false := by simp [isThere]; omega
        rw [ht]
        have h4 : 0 < n := by omega
        go_enter Try.func23, Try.ntmps23
        go_wp2
        go_ret2
        exact ⟨rfl, rfl⟩
    · have ht : isThere 0 at_ n = false := by simp [isThere]; omega
      rw [ht]
      have h4 : (0 : Int) < at_ := by omega
      go_enter Try.func23, Try.ntmps23
      go_wp2
      go_ret2
      exact ⟨rfl, rfl⟩

theorem there_nil (at_ : Nat) (n : Int) (w : World) (hat : at_ < 18446744073709551616) (hn1 : -9223372036854775808 ≤ n) (hn : n ≤ 9223372036854775807) :
    Calls Try.prog 28 #[.pointer none, .int .u64 at_, .int .i64 n] w fun e w' => e = .returned (.bool (isThere 0 at_ n)) ∧ w = w' := by
  by_cases h2 : at_ = 0
  · subst h2
    by_cases h1 : n < 0
    · have ht : isThere 0 0 n = false := by simp [isThere]; omega
      have h4 : IntKind.u64.wrap n = n + 18446744073709551616 := by rw [IntKind.wrap_u64]; omega
      rw [ht]
      go_enter Try.func28, Try.ntmps28
      go_wp2
      go_ret
      exact ⟨by first | rfl | (simp; omega), rfl⟩
    · by_cases h3 : n = 0
      · subst h3
        rw [show isThere 0 0 0 = true from rfl]
        go_enter Try.func28, Try.ntmps28
        go_wp2
        go_ret
        exact ⟨by first | rfl | (simp; omega), rfl⟩
      · have ht : isThere 0 0 n = false := by simp [isThere]; omega
        rw [ht]
        have h4 : 0 < n := by omega
        go_enter Try.func28, Try.ntmps28
        go_wp2
        go_ret
        exact ⟨by first | rfl | (simp; omega), rfl⟩
  · have ht : isThere 0 at_ n = false := by simp [isThere]; omega
    rw [ht]
    have h4 : (0 : Int) < at_ := by omega
    go_enter Try.func28, Try.ntmps28
    go_wp2
    go_ret
    exact ⟨by first | rfl | (simp; omega), rfl⟩

theorem not_there_sized (at_ : Nat) (n : Int) (h : isThere 0 at_ n = true) : isSized n = false := by
  simp only [isThere, decide_eq_true_eq] at h
  have : n = 0 := by omega
  subst this
  rfl

theorem load_nil (A n : Int) (at_ : Nat) (w : World) (hA : A = (at_ : Int)) (hat : at_ < 18446744073709551616) (hn : n ≤ 9223372036854775807) :
    Calls Try.prog 10 #[.pointer none, .int .u64 A, .int .i64 n] w fun e w' => e = .returned (.tuple #[.int .u64 0, .bool false]) ∧ w = w' := by
  subst hA
  have HP := fun w => Lib.hid (part_nil at_ n w hat hn)
  have HS := fun w => Lib.hid (sized_any n w)
  have ht := not_there_sized at_ n
  cases h : isThere 0 at_ n
  · rw [h] at HP
    clear ht h
    generalize isSized n = S at *
    go_enter Try.func10, Try.ntmps10
    go_wp2_with fail
    refine (HP _).out.mono ?_
    rintro e w' ⟨rfl, rfl⟩
    go_wp2_with (first | (go_at_call 24; refine (HS _).out.mono ?_; rintro e w' ⟨rfl, rfl⟩))
    go_ret2
    exact ⟨rfl, rfl⟩
  · rw [h] at HP
    rw [ht h] at HS
    clear ht h
    go_enter Try.func10, Try.ntmps10
    go_wp2_with fail
    refine (HP _).out.mono ?_
    rintro e w' ⟨rfl, rfl⟩
    go_wp2_with (first | (go_at_call 24; refine (HS _).out.mono ?_; rintro e w' ⟨rfl, rfl⟩))
    go_ret2
    exact ⟨rfl, rfl⟩

theorem store_nil (A n V : Int) (at_ : Nat) (w : World) (hA : A = (at_ : Int)) (hat : at_ < 18446744073709551616) (hn : n ≤ 9223372036854775807) :
    Calls Try.prog 9 #[.pointer none, .int .u64 A, .int .i64 n, .int .u64 V] w fun e w' => e = .returned (.bool false) ∧ w = w' := by
  subst hA
  have HP := fun w => Lib.hid (part_nil at_ n w hat hn)
  have HS := fun w => Lib.hid (sized_any n w)
  have ht := not_there_sized at_ n
  cases h : isThere 0 at_ n
  · rw [h] at HP
    clear ht h
    generalize isSized n = S at *
    go_enter Try.func9, Try.ntmps9
    go_wp2_with fail
    refine (HP _).out.mono ?_
    rintro e w' ⟨rfl, rfl⟩
    go_wp2_with (first | (go_at_call 24; refine (HS _).out.mono ?_; rintro e w' ⟨rfl, rfl⟩))
    go_ret
    exact ⟨rfl, rfl⟩
  · rw [h] at HP
    rw [ht h] at HS
    clear ht h
    go_enter Try.func9, Try.ntmps9
    go_wp2_with fail
    refine (HP _).out.mono ?_
    rintro e w' ⟨rfl, rfl⟩
    go_wp2_with (first | (go_at_call 24; refine (HS _).out.mono ?_; rintro e w' ⟨rfl, rfl⟩))
    go_ret
    exact ⟨rfl, rfl⟩

theorem rload_nil (A n : Int) (at_ : Nat) (w : World) (hA : A = (at_ : Int)) (hat : at_ < 18446744073709551616) (hn1 : -9223372036854775808 ≤ n) (hn : n ≤ 9223372036854775807) :
    Calls Try.prog 18 #[.pointer none, .int .u64 A, .int .i64 n] w fun e w' => e = .returned (.tuple #[.int .u64 0, .bool false]) ∧ w = w' := by
  subst hA
  have HP := fun w => Lib.hid (there_nil at_ n w hat hn1 hn)
  have HS := fun w => Lib.hid (rsized_any n w)
  have ht := not_there_sized at_ n
  cases h : isSized n
  · rw [h] at HS
    clear ht h HP
    go_enter Try.func18, Try.ntmps18
    go_wp2_with (first | (go_at_call 27; refine (HS _).out.mono ?_; rintro e w' ⟨rfl, rfl⟩))
    go_ret2
    exact ⟨rfl, rfl⟩
  · have h2 : isThere 0 at_ n = false := by
      cases hh : isThere 0 at_ n
      · rfl
      · rw [ht hh] at h; cases h
    rw [h2] at HP
    rw [h] at HS
    clear ht h h2
    go_enter Try.func18, Try.ntmps18
    go_wp2_with (first | (go_at_call 27; refine (HS _).out.mono ?_; rintro e w' ⟨rfl, rfl⟩) | (go_at_call 28; refine (HP _).out.mono ?_; rintro e w' ⟨rfl, rfl⟩))
    go_ret2
    exact ⟨rfl, rfl⟩

theorem rstore_nil (A n V : Int) (at_ : Nat) (w : World) (hA : A = (at_ : Int)) (hat : at_ < 18446744073709551616) (hn1 : -9223372036854775808 ≤ n) (hn : n ≤ 9223372036854775807) :
    Calls Try.prog 20 #[.pointer none, .int .u64 A, .int .i64 n, .int .u64 V] w fun e w' => e = .returned (.bool false) ∧ w = w' := by
  subst hA
  have HP := fun w => Lib.hid (there_nil at_ n w hat hn1 hn)
  have HS := fun w => Lib.hid (rsized_any n w)
  have ht := not_there_sized at_ n
  cases h : isSized n
  · rw [h] at HS
    clear ht h HP
    go_enter Try.func20, Try.ntmps20
    go_wp2_with (first | (go_at_call 27; refine (HS _).out.mono ?_; rintro e w' ⟨rfl, rfl⟩))
    go_ret
    exact ⟨rfl, rfl⟩
  · have h2 : isThere 0 at_ n = false := by
      cases hh : isThere 0 at_ n
      · rfl
      · rw [ht hh] at h; cases h
    rw [h2] at HP
    rw [h] at HS
    clear ht h h2
    go_enter Try.func20, Try.ntmps20
    go_wp2_with (first | (go_at_call 27; refine (HS _).out.mono ?_; rintro e w' ⟨rfl, rfl⟩) | (go_at_call 28; refine (HP _).out.mono ?_; rintro e w' ⟨rfl, rfl⟩))
    go_ret
    exact ⟨rfl, rfl⟩

theorem text_nil (A n : Int) (w : World) (hA1 : -9223372036854775808 ≤ A) (hA2 : A ≤ 9223372036854775807) (hn : n ≤ 9223372036854775807) :
    Calls Try.prog 12 #[.pointer none, .int .i64 A, .int .i64 n] w fun e w' => e = .returned (.tuple #[.string (textOf []), .bool (inT 0 A n)]) ∧ w = w' := by
  by_cases hneg : A < 0
  · have hb : inT 0 A n = false := by simp [inT]; omega
    rw [hb]
    have e0 : textOf [] = ⟨#[]⟩ := rfl
    have E0 := Lib.hid e0
    clear e0
    go_enter Try.func12, Try.ntmps12
    go_wp2
    go_ret2
    exact ⟨by simp [E0.out], rfl⟩
  · obtain ⟨at_, rfl⟩ := Int.eq_ofNat_of_zero_le (show 0 ≤ A by omega)
    have hc := conv_nil
    have HP := fun w => Lib.hid (part_nil at_ n w (by omega) hn)
    have e := inT_there 0 at_ n
    rw [e]
    clear e
    generalize isThere 0 at_ n = B at *
    go_enter Try.func12, Try.ntmps12
    go_wp2_with fail
    refine (HP _).out.mono ?_
    rintro e w' ⟨rfl, rfl⟩
    go_wp2
    go_ret2
    exact ⟨rfl, rfl⟩

theorem rtext_nil (A n : Int) (w : World) (hA1 : -9223372036854775808 ≤ A) (hA2 : A ≤ 9223372036854775807) (hn1 : -9223372036854775808 ≤ n) (hn : n ≤ 9223372036854775807) :
    Calls Try.prog 30 #[.pointer none, .int .i64 A, .int .i64 n] w fun e w' => e = .returned (.tuple #[.string (textOf []), .bool (inT 0 A n)]) ∧ w = w' := by
  rw [show textOf [] = ⟨#[]⟩ from rfl]
  by_cases hneg : A < 0
  · have hb : inT 0 A n = false := by simp [inT]; omega
    rw [hb]
    go_enter Try.func30, Try.ntmps30
    go_wp2
    go_ret2
    exact ⟨rfl, rfl⟩
  · by_cases hneg2 : n < 0
    · have hb : inT 0 A n = false := by simp [inT]; omega
      rw [hb]
      go_enter Try.func30, Try.ntmps30
      go_wp2
      go_ret2
      exact ⟨rfl, rfl⟩
    · obtain ⟨at_, rfl⟩ := Int.eq_ofNat_of_zero_le (show 0 ≤ A by omega)
      have e := inT_there 0 at_ n
      rw [e]
      clear e
      have HP := fun w => Lib.hid (there_nil at_ n w (by omega) hn1 hn)
      cases h : isThere 0 at_ n
      · rw [h] at HP
        clear h
        go_enter Try.func30, Try.ntmps30
        go_wp2_with (first | (go_at_call 28; refine (HP _).out.mono ?_; rintro e w' ⟨rfl, rfl⟩))
        go_ret2
        exact ⟨rfl, rfl⟩
      · have hn0 : n = 0 := by simp only [isThere, decide_eq_true_eq] at h; omega
        rw [h] at HP
        clear h
        subst hn0
        go_enter Try.func30, Try.ntmps30
        go_wp2_with (first | (go_at_call 28; refine (HP _).out.mono ?_; rintro e w' ⟨rfl, rfl⟩))
        go_ret2
        exact ⟨rfl, rfl⟩

theorem fill_nil (A : Int) (s : ByteArray) (w : World) (hA1 : -9223372036854775808 ≤ A) (hA2 : A ≤ 9223372036854775807) (hs : s.size ≤ 9223372036854775807) :
    Calls Try.prog 31 #[.pointer none, .int .i64 A, .string s] w fun e w' => e = .returned (.bool (inT 0 A s.size)) ∧ w = w' := by
  by_cases hneg : A < 0
  · have hb : inT 0 A s.size = false := by simp [inT]; omega
    rw [hb]
    go_enter Try.func31, Try.ntmps31
    go_wp2
    go_ret
    exact ⟨rfl, rfl⟩
  · obtain ⟨at_, rfl⟩ := Int.eq_ofNat_of_zero_le (show 0 ≤ A by omega)
    have e := inT_there 0 at_ s.size
    rw [e]
    clear e
    have HP := fun w => Lib.hid (part_nil at_ s.size w (by omega) (by omega))
    generalize isThere 0 at_ s.size = B at *
    go_enter Try.func31, Try.ntmps31
    go_wp2_with fail
    refine (HP _).out.mono ?_
    rintro e w' ⟨rfl, rfl⟩
    go_wp2_with (refine wpList_copy_none rfl _ _ rfl s rfl rfl ?_)
    go_ret
    exact ⟨rfl, rfl⟩

theorem rfill_nil (A : Int) (s : ByteArray) (w : World) (hA1 : -9223372036854775808 ≤ A) (hA2 : A ≤ 9223372036854775807) (hs : s.size ≤ 9223372036854775807) :
    Calls Try.prog 32 #[.pointer none, .int .i64 A, .string s] w fun e w' => e = .returned (.bool (inT 0 A s.size)) ∧ w = w' := by
  by_cases hneg : A < 0
  · have hb : inT 0 A s.size = false := by simp [inT]; omega
    rw [hb]
    go_enter Try.func32, Try.ntmps32
    go_wp2
    go_ret
    exact ⟨rfl, rfl⟩
  · obtain ⟨at_, rfl⟩ := Int.eq_ofNat_of_zero_le (show 0 ≤ A by omega)
    have e := inT_there 0 at_ s.size
    rw [e]
    clear e
    have HP := fun w => Lib.hid (there_nil at_ s.size w (by omega) (by omega) (by omega))
    cases h : isThere 0 at_ s.size
    · rw [h] at HP
      clear h
      go_enter Try.func32, Try.ntmps32
      go_wp2_with (first | (go_at_call 28; refine (HP _).out.mono ?_; rintro e w' ⟨rfl, rfl⟩))
      go_ret
      exact ⟨rfl, rfl⟩
    · have hn0 : (s.size : Int) = 0 := by simp only [isThere, decide_eq_true_eq] at h; omega
      have hl : ¬ ((0 : Int) < (s.size : Int)) := by rw [hn0]; decide
      rw [h] at HP
      clear h hn0
      go_enter Try.func32, Try.ntmps32
      go_wp2_with (first | (go_at_call 28; refine (HP _).out.mono ?_; rintro e w' ⟨rfl, rfl⟩))
      go_ret
      exact ⟨rfl, rfl⟩
end Go.Proofs.Ytfnicijfhpfohaa
