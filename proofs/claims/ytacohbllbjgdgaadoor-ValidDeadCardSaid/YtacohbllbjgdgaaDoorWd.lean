/- What a module's bodies are typed in, plainly. -/
import Derived.Test.YtacohbllbjgdgaaDoorZu
import Derived.Test.YtacohbllbjgdgaaDoorZg
namespace Go.Proofs.YtacohbllbjgdgaaDoor
open Go.RowKit
set_option linter.unusedVariables false
set_option linter.unusedSimpArgs false

theorem all_tyo {l : List Int} (h : l.all typ1 = true) : ∀ x ∈ l, tyo x := fun x hx => typ1_tyo (List.all_eq_true.1 h x hx)
theorem types_ok {m : Md} (c : Cm m) : ∀ t ∈ m.types, (∀ x ∈ t.1, tyo x) ∧ ∀ x ∈ t.2, tyo x := fun t ht => ⟨all_tyo (c.types t ht).2.2.1, all_tyo (c.types t ht).2.2.2⟩
theorem getD_types {m : Md} {P : List Int × List Int → Prop} (h : ∀ t ∈ m.types, P t) (h0 : P ([], [])) (n : Nat) : P (m.types.getD n ([], [])) := by
  rw [List.getD_eq_getElem?_getD]
  cases hn : m.types[n]? with
  | none => exact h0
  | some t => exact h t (List.mem_of_getElem? hn)
theorem ev_ok {m : Md} (c : Cm m) {t : List Int × List Int} (ht : ∀ x ∈ t.1, tyo x) {ls : List Int} (hl : ls.all typ1 = true) : EvOk (envM m (funcT m) t ls) := by
  refine ⟨types_ok c, fun u hu => ?_, fun g hg => ?_, fun x hx => ?_⟩
  · obtain ⟨n, _, rfl⟩ := List.mem_map.1 hu
    exact getD_types (P := fun t => (∀ x ∈ t.1, tyo x) ∧ ∀ x ∈ t.2, tyo x) (types_ok c) ⟨(by intro x hx; cases hx), (by intro x hx; cases hx)⟩ _
  · obtain ⟨q, hq, rfl⟩ := List.mem_map.1 hg
    exact typ1_tyo (c.globals q hq).1
  · rcases List.mem_append.1 hx with hx | hx
    · exact ht x hx
    · exact all_tyo hl x hx
theorem types_r {m : Md} (h : typesV m = 0) : ∀ t ∈ m.types, t.2.length ≤ 1 := fun t ht => by
  have := firstL_zero h t ht
  by_cases q : t.2.length ≤ 1
  · exact q
  · rw [if_neg q] at this
    cases this
theorem ev_r {m : Md} (h : typesV m = 0) (t : List Int × List Int) (ls : List Int) : EvR (envM m (funcT m) t ls) := by
  refine ⟨types_r h, fun u hu => ?_⟩
  obtain ⟨n, _, rfl⟩ := List.mem_map.1 hu
  exact getD_types (P := fun t => t.2.length ≤ 1) (types_r h) (by simp) _
/-- A function's type. -/
def tyF (m : Md) (fn : Int × List Int × Il) : List Int × List Int := m.types.getD fn.1.toNat ([], [])
theorem funcT_at {m : Md} {i : Nat} {fn : Int × List Int × Il} (h : m.funcs[i]? = some fn) : (funcT m)[m.imports.length + i]? = some (tyF m fn) := by
  unfold funcT
  rw [List.getElem?_map, idx_fun h]
  rfl
end Go.Proofs.YtacohbllbjgdgaaDoor
