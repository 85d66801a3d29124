/- The contract of athanorkeep.Same at two lists of one number, alike. -/
import Derived.Test.YtkmdgdjdkkmjcaaI
import Derived.Test.YtkmdgdjdkkmjcaaH
import Derived.Laws.AppendOwn
namespace Go.Proofs.Ytkmdgdjdkkmjcaa
open Go.RowKit
set_option linter.unusedVariables false

/-- A list of m numbers t. -/
def IsList (w : World) (v : Value) (m : Nat) (t : Int) : Prop :=
  ∃ p cap, v = .slice p m cap ∧ (m = 0 ∨ ∃ g, p = some ⟨g, 0, none⟩ ∧ ∀ i, i < m → w.cell? ⟨g, i, none⟩ = some (.int .i64 t))

theorem same_any (m : Nat) (t : Int) (v1 v2 : Value) (w : World) (hm : m ≤ 2) (h1 : IsList w v1 m t) (h2 : IsList w v2 m t) :
    Calls Try.prog 17 #[v1, v2] w fun e w' => e = .returned (.bool true) ∧ ∃ n, w' = w.drewN n := by
  obtain ⟨p1, c1, rfl, h1⟩ := h1
  obtain ⟨p2, c2, rfl, h2⟩ := h2
  by_cases h0 : m = 0
  · subst h0
    clear h1 h2
    go_enter Try.func17, Try.ntmps17
    go_wp2
    go_loopw [5] (fun i wr => i = .int .i64 0 ∧ wr = w) (fun i _ => 0)
    case atStart => exact ⟨rfl, rfl⟩
    case round =>
      obtain ⟨rfl, rfl⟩ := hrel
      go_wp2
      go_ret
      exact ⟨rfl, 0, rfl⟩
  · obtain ⟨g1, rfl, e1⟩ := h1.resolve_left h0
    obtain ⟨g2, rfl, e2⟩ := h2.resolve_left h0
    go_enter Try.func17, Try.ntmps17
    go_wp2
    go_loopw [5] (fun i wr => ∃ k : Nat, k ≤ m ∧ i = .int .i64 k ∧ ∃ n, wr = w.drewN n) (fun i _ => m - (intOf i).toNat)
    case atStart => exact ⟨0, Nat.zero_le _, rfl, 0, rfl⟩
    case round =>
      obtain ⟨k, hk, rfl, n, rfl⟩ := hrel
      by_cases hlt : k < m
      · have d1 := e1 k hlt
        have d2 := e2 k hlt
        go_wp2_with fail
        go_quiet (fail)
        go_wp2
        go_roundw
        case rel => exact ⟨k + 1, by omega, by simp, _, rfl⟩
        case measure => simp [intOf]; omega
      · go_wp2
        go_ret
        exact ⟨rfl, n, rfl⟩
end Go.Proofs.Ytkmdgdjdkkmjcaa
