/- Memory of WastMany. -/
import Derived.Test.YtofleejokkdklaaDoorMn
import Derived.Deep.AppendLies
import Derived.Laws.MakeOwn
import Derived.Laws.AppendOwn
import Derived.OwnWalk
import Derived.KernelRfl
namespace Go.Proofs.YtofleejokkdklaaDoor
open Go.RowKit
set_option linter.unusedVariables false

def zero7 : Array Value := #[.int .i64 0, .int .i64 0, .int .i64 0, .int .i64 0, .slice none 0 0, .slice none 0 0, .slice none 0 0]
theorem info45 : (Tryd.prog.info? 45).map (fun i => (i.zero, i.size, i.bytes)) = some (some (.agg zero7), 7, 104) := by kernel_rfl
theorem info49 : (Tryd.prog.info? 49).map (fun i => (i.zero, i.size, i.bytes)) = some (some (.agg #[.int .i64 0, .slice none 0 0, .slice none 0 0]), 3, 56) := by kernel_rfl
theorem cells_zero7 : (Value.agg zero7).cells = zero7 := by kernel_rfl
theorem made_at (N j r : Nat) (v : Value) (hj : j < N) (hr : zero7[r]? = some v) : (madeCells zero7 (N * 7))[j * 7 + r]? = some v := by
  have hr7 : r < 7 := (Array.getElem?_eq_some_iff.1 hr).1
  have hlt : j * 7 + r < N * 7 := by omega
  unfold madeCells
  rw [Array.getElem?_map, Array.getElem?_range, if_pos hlt]
  have e : (j * 7 + r) % zero7.size = r := by
    show (j * 7 + r) % 7 = r
    omega
  simp only [Option.map_some, e]
  congr 1
  rw [getElem!_def, hr]
theorem make_run (N : Nat) (w : World) (hN : N ≤ 66000) :
    Sem.run Tryd.prog (Instr.makeSlice 43 (.int .i64 (N : Int)) (.int .i64 (N : Int))) w = .ok (.slice (some ⟨w.heap.size, 0, none⟩) N N) (w.alloc (.cells (madeCells zero7 (N * 7)) 45)) := by
  obtain ⟨i, hi, hz, hs, hb⟩ := info_parts info45
  have := run_makeSlice (P := Tryd.prog) w 43 45 i _ Tryd.underlying43 hi hz .i64 .i64 (N : Int) (N : Int) (by omega) (by omega) (by rw [hs]; simp; omega) (by rw [hb]; omega) (by omega)
  rw [hs, cells_zero7] at this
  simpa using this

/-- Seven cells, that are an instruction without anything. -/
structure Seven (w : World) (B k : Nat) (op : Int) : Prop where
  c0 : w.cell? ⟨B, k, none⟩ = some (.int .i64 op)
  c1 : w.cell? ⟨B, k + 1, none⟩ = some (.int .i64 0)
  c2 : w.cell? ⟨B, k + 2, none⟩ = some (.int .i64 0)
  c3 : w.cell? ⟨B, k + 3, none⟩ = some (.int .i64 0)
  c4 : w.cell? ⟨B, k + 4, none⟩ = some (.slice none 0 0)
  c5 : w.cell? ⟨B, k + 5, none⟩ = some (.slice none 0 0)
  c6 : w.cell? ⟨B, k + 6, none⟩ = some (.slice none 0 0)
theorem Seven.keep {w w' : World} {B k : Nat} {op : Int} (f : Keeps w w') (h : Seven w B k op) : Seven w' B k op :=
  ⟨f _ _ h.c0, f _ _ h.c1, f _ _ h.c2, f _ _ h.c3, f _ _ h.c4, f _ _ h.c5, f _ _ h.c6⟩
theorem seven_made (w : World) (N : Nat) : ∀ j, j < N → Seven (w.alloc (.cells (madeCells zero7 (N * 7)) 45)) w.heap.size (j * 7) 0 := fun j hj =>
  ⟨at_of rfl _ _ _ _ (made_at N j 0 _ hj rfl), at_of rfl _ _ _ _ (made_at N j 1 _ hj rfl), at_of rfl _ _ _ _ (made_at N j 2 _ hj rfl), at_of rfl _ _ _ _ (made_at N j 3 _ hj rfl),
    at_of rfl _ _ _ _ (made_at N j 4 _ hj rfl), at_of rfl _ _ _ _ (made_at N j 5 _ hj rfl), at_of rfl _ _ _ _ (made_at N j 6 _ hj rfl)⟩
theorem nops_at {w : World} {B N : Nat} (h : ∀ j, j < N → Seven w B (j * 7) 1) : ∀ k o, o + k ≤ N → IlAt w B (o * 7) (nops k)
  | 0, _, _ => trivial
  | k + 1, o, hk => by
    have h7 := h o (by omega)
    have e : (o + 1) * 7 = o * 7 + 7 := by omega
    have hr := nops_at h k (o + 1) (by omega)
    rw [e] at hr
    exact ⟨⟨h7.c0, h7.c1, h7.c2, h7.c3⟩, ⟨none, 0, h7.c4, ints_nil _⟩, ⟨none, 0, h7.c5, Nat.zero_le _, .inl rfl⟩, ⟨none, 0, h7.c6, Nat.zero_le _, .inl rfl⟩, hr⟩

/-- A function, as its three cells have it. -/
structure FRec where
  a : Option Addr
  c : Nat
  il : Il
def frecV (t : FRec) : List Value := [.int .i64 0, .slice none 0 0, .slice t.a t.il.len t.c]
def FOk (w : World) (t : FRec) : Prop := t.il.len ≤ 9223372036854775807 ∧ IlIn w t.a 0 t.il
theorem FOk.keep {w w' : World} {t : FRec} (f : Keeps w w') (h : FOk w t) : FOk w' t := ⟨h.1, h.2.keep f⟩
theorem frec_len : ∀ fs : List FRec, (fs.flatMap frecV).length = fs.length * 3
  | [] => rfl
  | t :: r => by
    rw [List.flatMap_cons, List.length_append, frec_len r]
    simp [frecV]
    omega
theorem frec_at : ∀ (fs : List FRec) (i r : Nat) (t : FRec) (v : Value), fs[i]? = some t → (frecV t)[r]? = some v → (fs.flatMap frecV)[i * 3 + r]? = some v
  | [], i, r, t, v, ht, _ => by simp at ht
  | s :: l, 0, r, t, v, ht, hv => by
    simp only [List.getElem?_cons_zero, Option.some.injEq] at ht
    subst ht
    have hr : r < 3 := (List.getElem?_eq_some_iff.1 hv).1
    rw [List.flatMap_cons, List.getElem?_append_left (by simp [frecV]; omega)]
    simpa using hv
  | s :: l, i + 1, r, t, v, ht, hv => by
    simp only [List.getElem?_cons_succ] at ht
    rw [List.flatMap_cons, List.getElem?_append_right (by simp [frecV]; omega)]
    have e : (i + 1) * 3 + r - (frecV s).length = i * 3 + r := by simp [frecV]; omega
    rw [e]
    exact frec_at l i r t v ht hv
theorem rows_frec {w : World} {base : Nat} {v : Value} {fs : List FRec} (h : w.ownsRow base 49 3 v fs.length (fs.flatMap frecV)) (hf : ∀ t ∈ fs, FOk w t) (hl : fs.length ≤ 100) :
    ∃ a c, v = .slice a fs.length c ∧ RowsIn FuncAt 3 w a (fs.map fun t => fil t.il) := by
  by_cases hn : fs.length = 0
  · have hnil : fs = [] := List.eq_nil_of_length_eq_zero hn
    subst hnil
    rcases h.2 with ⟨hv, _⟩ | ⟨g, cap, cur, hv, _⟩
    · exact ⟨none, 0, hv, Nat.zero_le _, .inl rfl⟩
    · exact ⟨_, cap, hv, Nat.zero_le _, .inl rfl⟩
  · obtain ⟨g, cap, hv, hb, hg⟩ := h.form (by omega)
    have hc := h.cells (g := g) (by rw [hv]; rfl)
    refine ⟨_, cap, hv, by simp; omega, .inr ⟨g, 0, rfl, fun i x hx => ?_⟩⟩
    rw [List.getElem?_map] at hx
    obtain ⟨t, ht, rfl⟩ := Option.map_eq_some_iff.1 hx
    have hok := hf t (List.mem_of_getElem? ht)
    have hcell : ∀ r u, (frecV t)[r]? = some u → w.cell? ⟨g, 0 + i * 3 + r, none⟩ = some u := fun r u hu => by
      have := hc _ _ (frec_at fs i r t u ht hu)
      have e : (⟨g, 0, none⟩ : Addr).add (i * 3 + r) = ⟨g, 0 + i * 3 + r, none⟩ := by unfold Addr.add; split <;> simp_all
      rw [e] at this
      exact this
    exact ⟨hcell 0 _ rfl, ⟨none, 0, hcell 1 _ rfl, ints_nil _⟩, ⟨t.a, t.c, hcell 2 _ rfl, hok.1, hok.2⟩⟩
end Go.Proofs.YtofleejokkdklaaDoor
