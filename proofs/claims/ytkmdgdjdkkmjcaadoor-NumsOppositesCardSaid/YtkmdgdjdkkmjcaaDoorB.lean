/- Contracts of cut, told, width, Signed. -/
import Derived.Test.YtkmdgdjdkkmjcaaDoorRows
import Derived.WalkKit
import Derived.Below
import Derived.Outline
import Derived.Deep.QuietTactic
import Derived.BigQuiet
import Derived.Lib.Hide
namespace Go.Proofs.YtkmdgdjdkkmjcaaDoor
open Go.RowKit
set_option linter.unusedVariables false

theorem cut_any (a t : Int) (w : World) (h1 : 0 ≤ a) (h2 : a ≤ 18446744073709551615) :
    Calls Tryd.prog 10 #[.int .u64 a, .int .i64 t] w fun e w' => e = .returned (.int .u64 (if t = 127 then a % 4294967296 else a)) ∧ w = w' := by
  by_cases h : t = 127
  · subst h
    rw [if_pos rfl]
    go_enter Tryd.func10, Tryd.ntmps10
    go_wp2
    go_ret
    exact ⟨rfl, rfl⟩
  · rw [if_neg h]
    go_enter Tryd.func10, Tryd.ntmps10
    go_wp2
    go_ret
    exact ⟨rfl, rfl⟩

theorem told_any (b : Bool) (w : World) : Calls Tryd.prog 12 #[.bool b] w fun e w' => e = .returned (.int .u64 (if b then 1 else 0)) ∧ w = w' := by
  cases b
  · go_enter Tryd.func12, Tryd.ntmps12
    go_wp2
    go_ret
    exact ⟨rfl, rfl⟩
  · go_enter Tryd.func12, Tryd.ntmps12
    go_wp2
    go_ret
    exact ⟨rfl, rfl⟩

theorem width_any (t : Int) (w : World) : Calls Tryd.prog 20 #[.int .i64 t] w fun e w' => e = .returned (.int .i64 (if t = 127 then 32 else 64)) ∧ w = w' := by
  by_cases h : t = 127
  · subst h
    rw [if_pos rfl]
    go_enter Tryd.func20, Tryd.ntmps20
    go_wp2
    go_ret
    exact ⟨rfl, rfl⟩
  · rw [if_neg h]
    go_enter Tryd.func20, Tryd.ntmps20
    go_wp2
    go_ret
    exact ⟨rfl, rfl⟩

/-- The signed number of a value of a type. -/
def sg (t : Int) (a : Int) : Int := if t = 127 then wrap32 a else if t = 126 then wrap64 a else 0
theorem wrap32_bd (a : Int) : -2147483648 ≤ wrap32 a ∧ wrap32 a ≤ 2147483647 := by unfold wrap32; omega
theorem wrap64_bd (a : Int) : -9223372036854775808 ≤ wrap64 a ∧ wrap64 a ≤ 9223372036854775807 := by unfold wrap64; omega

theorem signed_any (a t : Int) (w : World) (h1 : 0 ≤ a) (h2 : a ≤ 18446744073709551615) :
    Calls Tryd.prog 15 #[.int .u64 a, .int .i64 t] w fun e w' => e = .returned (.int .i64 (sg t a)) ∧ w = w' := by
  have hb := wrap32_bd a
  unfold sg
  by_cases h : t = 127
  · subst h
    rw [if_pos rfl]
    go_enter Tryd.func15, Tryd.ntmps15
    go_wp2
    go_ret
    exact ⟨rfl, rfl⟩
  · rw [if_neg h]
    by_cases h' : t = 126
    · subst h'
      rw [if_pos rfl]
      go_enter Tryd.func15, Tryd.ntmps15
      go_wp2
      go_ret
      exact ⟨rfl, rfl⟩
    · rw [if_neg h']
      go_enter Tryd.func15, Tryd.ntmps15
      go_wp2
      go_ret
      exact ⟨rfl, rfl⟩

theorem wrap32_mod (a : Int) : wrap32 (a % 4294967296) = wrap32 a := by unfold wrap32; omega

/-- A number's value of a type. -/
def vl (t : Int) (n : Int) : Int := if t = 127 then n % 4294967296 else if t = 126 then n % 18446744073709551616 else 0

end Go.Proofs.YtkmdgdjdkkmjcaaDoor
