/- Contracts of cut, told, width, Signed. -/
import Derived.Test.YtkmdgdjdkkmjcaaRows
import Derived.WalkKit
import Derived.Below
import Derived.Outline
import Derived.Deep.QuietTactic
import Derived.BigQuiet
import Derived.Lib.Hide
namespace Go.Proofs.Ytkmdgdjdkkmjcaa
open Go.RowKit
set_option linter.unusedVariables false

theorem cut_any (a t : Int) (w : World) (h1 : 0 ≤ a) (h2 : a ≤ 18446744073709551615) :
    Calls Try.prog 19 #[.int .u64 a, .int .i64 t] w fun e w' => e = .returned (.int .u64 (if t = 127 then a % 4294967296 else a)) ∧ w = w' := by
  by_cases h : t = 127
  · subst h
    rw [if_pos rfl]
    go_enter Try.func19, Try.ntmps19
    go_wp2
    go_ret
    exact ⟨rfl, rfl⟩
  · rw [if_neg h]
    go_enter Try.func19, Try.ntmps19
    go_wp2
    go_ret
    exact ⟨rfl, rfl⟩

theorem told_any (b : Bool) (w : World) : Calls Try.prog 20 #[.bool b] w fun e w' => e = .returned (.int .u64 (if b then 1 else 0)) ∧ w = w' := by
  cases b
  · go_enter Try.func20, Try.ntmps20
    go_wp2
    go_ret
    exact ⟨rfl, rfl⟩
  · go_enter Try.func20, Try.ntmps20
    go_wp2
    go_ret
    exact ⟨rfl, rfl⟩

theorem width_any (t : Int) (w : World) : Calls Try.prog 33 #[.int .i64 t] w fun e w' => e = .returned (.int .i64 (if t = 127 then 32 else 64)) ∧ w = w' := by
  by_cases h : t = 127
  · subst h
    rw [if_pos rfl]
    go_enter Try.func33, Try.ntmps33
    go_wp2
    go_ret
    exact ⟨rfl, rfl⟩
  · rw [if_neg h]
    go_enter Try.func33, Try.ntmps33
    go_wp2
    go_ret
    exact ⟨rfl, rfl⟩

/-- The signed number of a value of a type. -/
def sg (t : Int) (a : Int) : Int := if t = 127 then wrap32 a else if t = 126 then wrap64 a else 0
theorem wrap32_bd (a : Int) : -2147483648 ≤ wrap32 a ∧ wrap32 a ≤ 2147483647 := by unfold wrap32; omega
theorem wrap64_bd (a : Int) : -9223372036854775808 ≤ wrap64 a ∧ wrap64 a ≤ 9223372036854775807 := by unfold wrap64; omega

theorem signed_any (a t : Int) (w : World) (h1 : 0 ≤ a) (h2 : a ≤ 18446744073709551615) :
    Calls Try.prog 11 #[.int .u64 a, .int .i64 t] w fun e w' => e = .returned (.int .i64 (sg t a)) ∧ w = w' := by
  have hb := wrap32_bd a
  unfold sg
  by_cases h : t = 127
  · subst h
    rw [if_pos rfl]
    go_enter Try.func11, Try.ntmps11
    go_wp2
    go_ret
    exact ⟨rfl, rfl⟩
  · rw [if_neg h]
    by_cases h' : t = 126
    · subst h'
      rw [if_pos rfl]
      go_enter Try.func11, Try.ntmps11
      go_wp2
      go_ret
      exact ⟨rfl, rfl⟩
    · rw [if_neg h']
      go_enter Try.func11, Try.ntmps11
      go_wp2
      go_ret
      exact ⟨rfl, rfl⟩

theorem wrap32_mod (a : Int) : wrap32 (a % 4294967296) = wrap32 a := by unfold wrap32; omega

theorem rsigned_any (a t : Int) (w : World) (h1 : 0 ≤ a) (h2 : a ≤ 18446744073709551615) :
    Calls Try.prog 12 #[.int .u64 a, .int .i64 t] w fun e w' => e = .returned (.int .i64 (sg t a)) ∧ w = w' := by
  have hb := wrap32_bd a
  have hm := wrap32_mod a
  unfold sg
  by_cases h : t = 127
  · subst h
    rw [if_pos rfl]
    go_enter Try.func12, Try.ntmps12
    go_wp2
    go_ret
    exact ⟨rfl, rfl⟩
  · rw [if_neg h]
    by_cases h' : t = 126
    · subst h'
      rw [if_pos rfl]
      go_enter Try.func12, Try.ntmps12
      go_wp2
      go_ret
      exact ⟨rfl, rfl⟩
    · rw [if_neg h']
      go_enter Try.func12, Try.ntmps12
      go_wp2
      go_ret
      exact ⟨rfl, rfl⟩
/-- A number's value of a type. -/
def vl (t : Int) (n : Int) : Int := if t = 127 then n % 4294967296 else if t = 126 then n % 18446744073709551616 else 0

theorem value_any (n t : Int) (w : World) :
    Calls Try.prog 13 #[.int .i64 n, .int .i64 t] w fun e w' => e = .returned (.int .u64 (vl t n)) ∧ w = w' := by
  unfold vl
  by_cases h : t = 127
  · subst h
    rw [if_pos rfl]
    have e : IntKind.u64.wrap n % 4294967296 = n % 4294967296 := by rw [IntKind.wrap_u64]; omega
    have E := Lib.hid e
    clear e
    go_enter Try.func13, Try.ntmps13
    go_wp2_with (first | (go_at_call 19; refine (cut_any _ _ _ (by rw [IntKind.wrap_u64]; omega) (by rw [IntKind.wrap_u64]; omega)).mono ?_; rintro e w' ⟨rfl, rfl⟩))
    go_ret
    exact ⟨by simp [E.out], rfl⟩
  · rw [if_neg h]
    by_cases h' : t = 126
    · subst h'
      rw [if_pos rfl, ← IntKind.wrap_u64]
      go_enter Try.func13, Try.ntmps13
      go_wp2_with (first | (go_at_call 19; refine (cut_any _ _ _ (by rw [IntKind.wrap_u64]; omega) (by rw [IntKind.wrap_u64]; omega)).mono ?_; rintro e w' ⟨rfl, rfl⟩))
      go_ret
      exact ⟨rfl, rfl⟩
    · rw [if_neg h']
      have h1 : (t != 127) = true := by simp [h]
      have h2 : (t != 126) = true := by simp [h']
      go_enter Try.func13, Try.ntmps13
      go_wp2
      go_ret
      exact ⟨rfl, rfl⟩

theorem rvalue_any (n t : Int) (w : World) :
    Calls Try.prog 14 #[.int .i64 n, .int .i64 t] w fun e w' => e = .returned (.int .u64 (vl t n)) ∧ w = w' := by
  unfold vl
  by_cases h : t = 127
  · subst h
    rw [if_pos rfl, ← IntKind.wrap_u32]
    have e : IntKind.u64.wrap (IntKind.u32.wrap n) = IntKind.u32.wrap n := by rw [IntKind.wrap_u64, IntKind.wrap_u32]; omega
    have E := Lib.hid e
    clear e
    go_enter Try.func14, Try.ntmps14
    go_wp2
    go_ret
    exact ⟨by first | rfl | simp [E.out], rfl⟩
  · rw [if_neg h]
    by_cases h' : t = 126
    · subst h'
      rw [if_pos rfl, ← IntKind.wrap_u64]
      go_enter Try.func14, Try.ntmps14
      go_wp2
      go_ret
      exact ⟨rfl, rfl⟩
    · rw [if_neg h']
      go_enter Try.func14, Try.ntmps14
      go_wp2
      go_ret
      exact ⟨rfl, rfl⟩
end Go.Proofs.Ytkmdgdjdkkmjcaa
