/- The reference's checker: types, functions, limits, globals. -/
import Derived.Test.YtacohbllbjgdgaaDoorVw
import Derived.Test.YtacohbllbjgdgaaDoorWb
namespace Go.Proofs.YtacohbllbjgdgaaDoor
open Go.RowKit
set_option linter.unusedVariables false
set_option linter.unusedSimpArgs false

def boxM (A : MA) (m : Md) : Obj := .cells #[(A.v m).v0, (A.v m).v1, (A.v m).v2, (A.v m).v3, (A.v m).v4, (A.v m).v5, (A.v m).v6, (A.v m).v7, (A.v m).v8, (A.v m).v9] 40
/-- A module's box. -/
theorem box_c {w : World} {A : MA} {m : Md} {B : Nat} (h : w.heap[B]? = some (boxM A m)) : w.cell? ⟨B, 0, none⟩ = some (.slice A.a0 m.types.length A.k0) ∧ w.cell? ⟨B, 1, none⟩ = some (.slice A.a1 m.imports.length A.k1) ∧ w.cell? ⟨B, 2, none⟩ = some (.slice A.a2 m.funcs.length A.k2) ∧
    w.cell? ⟨B, 3, none⟩ = some (.slice A.a3 m.tables.length A.k3) ∧ w.cell? ⟨B, 4, none⟩ = some (.slice A.a4 m.mems.length A.k4) ∧ w.cell? ⟨B, 5, none⟩ = some (.slice A.a5 m.globals.length A.k5) ∧ w.cell? ⟨B, 6, none⟩ = some (.slice A.a6 m.exports.length A.k6) ∧
    w.cell? ⟨B, 7, none⟩ = some (.slice A.a7 m.start.length A.k7) ∧ w.cell? ⟨B, 8, none⟩ = some (.slice A.a8 m.elems.length A.k8) ∧ w.cell? ⟨B, 9, none⟩ = some (.slice A.a9 m.datas.length A.k9) := by
  unfold boxM at h
  refine ⟨?_, ?_, ?_, ?_, ?_, ?_, ?_, ?_, ?_, ?_⟩
  all_goals rw [cell_of_row w B _ _ _ _ h]; rfl
/-- A module's box, and the module. -/
structure Bm (A : MA) (m : Md) (B : Nat) (w0 w : World) : Prop where
  h : w.heap[B]? = some (boxM A m)
  m : MdA w m A
  b : Below w0.heap.size w0 w
theorem Bm.step {A : MA} {m : Md} {B : Nat} {w0 w w' : World} (h : Bm A m B w0 w) (b : Below w.heap.size w w') : Bm A m B w0 w' :=
  ⟨(b.block B (lt_of_block h.h)).trans h.h, MdAt.keep (keep_below b) h.m, h.b.trans (b.mono h.b.size)⟩
theorem bm_new {A : MA} {m : Md} {w : World} (h : MdA w m A) : Bm A m w.heap.size w (w.alloc (boxM A m)) :=
  ⟨heap_alloc_new w _, MdAt.keep (keep_below (Below.of_alloc w _)) h, Below.of_alloc w _⟩
section
variable {w : World} {A : MA} {m : Md}
end
end Go.Proofs.YtacohbllbjgdgaaDoor
namespace Go.Proofs.YtacohbllbjgdgaaDoor
open Go.RowKit
set_option linter.unusedVariables false
set_option linter.unusedSimpArgs false

theorem idx_len (m : Md) : (idxL m).length = m.imports.length + m.funcs.length := by unfold idxL; simp
theorem idx_ok {m : Md} (c : Cm m) : ∀ n ∈ idxL m, 0 ≤ n := fun n hn => by
  unfold idxL at hn
  rcases List.mem_append.1 hn with hn | hn
  · obtain ⟨t, ht, rfl⟩ := List.mem_map.1 hn
    have := (c.imports t ht).2.2
    unfold idx1 at this
    simp only [Bool.and_eq_true, decide_eq_true_eq] at this
    exact this.1
  · obtain ⟨t, ht, rfl⟩ := List.mem_map.1 hn
    have := (c.funcs t ht).1
    unfold idx1 at this
    simp only [Bool.and_eq_true, decide_eq_true_eq] at this
    exact this.1
theorem fst2_assoc (a b c : Int) : fst2 (fst2 a b) c = fst2 a (fst2 b c) := by
  unfold fst2
  by_cases ha : a = 0
  · rw [if_pos ha]
    by_cases hb : b = 0
    · rw [if_pos hb, ha]; rfl
    · rw [if_neg hb, if_pos ha]
  · rw [if_neg ha, if_neg ha, if_neg ha]
end Go.Proofs.YtacohbllbjgdgaaDoor
