/- The checker: the types of its functions. -/
import Derived.Test.YtacohbllbjgdgaaDoorXs
import Derived.Test.YtacohbllbjgdgaaDoorWd
import Derived.Test.YtacohbllbjgdgaaDoorZr
namespace Go.Proofs.YtacohbllbjgdgaaDoor
open Go.RowKit
set_option linter.unusedVariables false
set_option linter.unusedSimpArgs false

theorem info44v : (Tryd.prog.info? 28).map (fun i => (i.zero, i.size, i.bytes)) = some (some (.agg #[.slice none 0 0, .slice none 0 0]), 2, 48) := by kernel_rfl
theorem info44v_parts : ∃ i, Tryd.prog.info? 28 = some i ∧ i.zero = some (.agg #[.slice none 0 0, .slice none 0 0]) ∧ i.size = 2 ∧ i.bytes = 48 := by
  have h := info44v
  cases hi : Tryd.prog.info? 28 with
  | none => rw [hi] at h; cases h
  | some i => rw [hi] at h; simp only [Option.map_some, Option.some.injEq, Prod.mk.injEq] at h; exact ⟨i, rfl, h.1, h.2.1, h.2.2⟩
/-- Types one behind the other, as cells. -/
def TyCs (w0 : World) (cs : List Value) (fs : List (List Int × List Int)) : Prop := cs.length = fs.length * 2 ∧ ∀ i t, fs[i]? = some t → ∃ pa pc ra rc, cs[i * 2]? = some (.slice pa t.1.length pc) ∧ cs[i * 2 + 1]? = some (.slice ra t.2.length rc) ∧ IntsIn w0 pa t.1 ∧ IntsIn w0 ra t.2
/-- The checker's block, while the types are put together. -/
structure Ck (N c : Nat) (A : MA) (m : Md) (w0 w : World) (fv : Value) (fs : List (List Int × List Int)) : Prop where
  b : w.heap[c]? = some (.cells #[(A.v m).v0, (A.v m).v1, (A.v m).v2, (A.v m).v3, (A.v m).v4, (A.v m).v5, (A.v m).v6, (A.v m).v7, (A.v m).v8, (A.v m).v9, fv] 53 (0, 0))
  own : ∃ cs, w.ownsRow N 28 2 fv fs.length cs ∧ TyCs w0 cs fs
  bw : Below w0.heap.size w0 w
  md : MdA w0 m A
  cN : c < N
  c0 : w0.heap.size ≤ c
  Nw : N ≤ w.heap.size
theorem Ck.c {N c : Nat} {A : MA} {m : Md} {w0 w : World} {fv : Value} {fs : List (List Int × List Int)} (h : Ck N c A m w0 w fv fs) : w.cell? ⟨c, 0, none⟩ = some (.slice A.a0 m.types.length A.k0) ∧ w.cell? ⟨c, 1, none⟩ = some (.slice A.a1 m.imports.length A.k1) ∧ w.cell? ⟨c, 2, none⟩ = some (.slice A.a2 m.funcs.length A.k2) ∧
    w.cell? ⟨c, 10, none⟩ = some fv ∧ w.frozen? ⟨c, 10, none⟩ = false := by
  have := h.b
  refine ⟨?_, ?_, ?_, ?_, frozen_of_row w c 10 _ _ this⟩
  all_goals rw [cell_of_row w c _ _ _ _ this]; rfl
theorem Ck.step {N c : Nat} {A : MA} {m : Md} {w0 w w' : World} {fv : Value} {fs : List (List Int × List Int)} (h : Ck N c A m w0 w fv fs) (b : Below w.heap.size w w') : Ck N c A m w0 w' fv fs := by
  obtain ⟨cs, h1, h2⟩ := h.own
  exact ⟨(b.block c (lt_of_block h.b)).trans h.b, ⟨cs, own_block h1 fun g hg => b.block g (h1.lt g hg).2, h2⟩, h.bw.trans (b.mono h.bw.size), h.md, h.cN, h.c0, Nat.le_trans h.Nw b.size⟩
theorem tyCs_snoc {w0 : World} {cs : List Value} {fs : List (List Int × List Int)} (h : TyCs w0 cs fs) {t : List Int × List Int} {pa ra : Option Addr} {pc rc : Nat} (j1 : IntsIn w0 pa t.1) (j2 : IntsIn w0 ra t.2) :
    TyCs w0 (cs ++ [.slice pa t.1.length pc, .slice ra t.2.length rc]) (fs ++ [t]) := by
  obtain ⟨hl, h⟩ := h
  refine ⟨by simp [hl]; omega, fun i u hu => ?_⟩
  by_cases hi : i < fs.length
  · rw [List.getElem?_append_left hi] at hu
    obtain ⟨a, b, c, d, e1, e2, e3⟩ := h i u hu
    exact ⟨a, b, c, d, by rw [List.getElem?_append_left (by omega)]; exact e1, by rw [List.getElem?_append_left (by omega)]; exact e2, e3⟩
  · have hi2 : i = fs.length := by
      have := (List.getElem?_eq_some_iff.1 hu).1
      simp at this
      omega
    subst hi2
    rw [List.getElem?_append_right (Nat.le_refl _), Nat.sub_self] at hu
    simp at hu
    subst hu
    exact ⟨pa, pc, ra, rc, by rw [List.getElem?_append_right (by omega), hl, Nat.sub_self]; rfl, by rw [List.getElem?_append_right (by omega), hl]; simp, j1, j2⟩
section
variable {N c : Nat} {A : MA} {m : Md} {w0 w w' : World} {fv : Value} {fs : List (List Int × List Int)}
set_option maxRecDepth 100000 in
set_option maxHeartbeats 8000000 in
theorem typeOf_any (h : Ck N c A m w0 w fv fs) {q : Nat} (hq : w.heap[q]? = some (.cells #[.pointer (some ⟨c, 0, none⟩)] 51 (0, 0))) (hqc : q ≠ c) (hqN : q < N) (n : Int) (h0 : 0 ≤ n) (hsz : fs.length ≤ 1099511627775) :
    Calls Tryd.prog 21 #[.int .i64 n, .pointer (some ⟨q, 0, none⟩)] w fun e w' =>
      match m.types[n.toNat]? with
      | some t => e = .returned (.tuple #[]) ∧ ∃ fv', Ck N c A m w0 w' fv' (fs ++ [t]) ∧ w'.heap[q]? = some (.cells #[.pointer (some ⟨c, 0, none⟩)] 51 (0, 0))
      | none => e = .panicked (faultV 61) ∧ Below w.heap.size w w' := by
  obtain ⟨k, rfl⟩ : ∃ k : Nat, n = k := ⟨n.toNat, by omega⟩
  rw [Int.toNat_natCast]
  obtain ⟨x0, x1, x2, x10, z10⟩ := h.c
  have q0 : w.cell? ⟨q, 0, none⟩ = some (.pointer (some ⟨c, 0, none⟩)) := by rw [cell_of_row _ q 0 _ _ _ hq]; rfl
  by_cases hk : k < m.types.length
  · obtain ⟨t, ht⟩ : ∃ t, m.types[k]? = some t := ⟨_, List.getElem?_eq_getElem hk⟩
    obtain ⟨b0, o0, hA0, ⟨pa, pc, c0, j1⟩, ⟨ra, rc, c1, j2⟩⟩ := h.md.types.row ht
    have g0 := keep_below h.bw _ _ c0
    have g1 := keep_below h.bw _ _ c1
    rw [hA0] at x0
    replace hA0 := Lib.hid hA0
    rw [ht]
    dsimp only
    have hH := fun w => has_yes (n := (k : Int)) (m := (m.types.length : Int)) (by omega) w
    have i0 : (0 : Int) ≤ (k : Int) := by omega
    have i1 : (k : Int) < (m.types.length : Int) := by omega
    replace ht := Lib.hid ht
    obtain ⟨i6, hi6, hz6, hs6, hb6⟩ := info44v_parts
    have hwA : Below w.heap.size w (w.drew.alloc (.cells #[.slice pa t.1.length pc, .slice ra t.2.length rc] 28)) := (below_drawn (w := w) 1).trans (Below.of_alloc w.drew _)
    have hA := h.step hwA
    obtain ⟨cs, hown, htc⟩ := hA.own
    have hqA := (hwA.block q (lt_of_block hq)).trans hq
    obtain ⟨wA, hwA2⟩ : ∃ wA, wA = w.drew.alloc (.cells #[.slice pa t.1.length pc, .slice ra t.2.length rc] 28) := ⟨_, rfl⟩
    rw [← hwA2] at hA hown hqA
    have fin : ∀ (g cap : Nat) (w3 : World), w3.ownsRow N 28 2 (.slice (some ⟨g, 0, none⟩) (fs.length + 1) cap) (fs.length + 1) (cs ++ [.slice pa t.1.length pc, .slice ra t.2.length rc]) → wA.grownBy w3 fv.ownBlock → N ≤ g →
        Hid (Ck N c A m w0 (w3.setCell ⟨c, 10, none⟩ (.slice (some ⟨g, 0, none⟩) (fs.length + 1) cap)) (.slice (some ⟨g, 0, none⟩) (fs.length + 1) cap) (fs ++ [t]) ∧ (w3.setCell ⟨c, 10, none⟩ (.slice (some ⟨g, 0, none⟩) (fs.length + 1) cap)).heap[q]? = some (.cells #[.pointer (some ⟨c, 0, none⟩)] 51 (0, 0))) ∧
        w3.cell? ⟨c, 10, none⟩ = some fv ∧ w3.frozen? ⟨c, 10, none⟩ = false ∧ w3.cell? ⟨q, 0, none⟩ = some (.pointer (some ⟨c, 0, none⟩)) := fun g cap w3 ho hg hgN => by
      have hlow : ∀ b, fv.ownBlock = some b → N ≤ b := fun b hb => (hown.lt b hb).1
      have hcN := hA.cN
      have hc1 : w3.heap[c]? = some (.cells #[(A.v m).v0, (A.v m).v1, (A.v m).v2, (A.v m).v3, (A.v m).v4, (A.v m).v5, (A.v m).v6, (A.v m).v7, (A.v m).v8, (A.v m).v9, fv] 53 (0, 0)) :=
        (hg.block c (lt_of_block hA.b) (fun e => by have := hlow c e.symm; omega)).trans hA.b
      have hq1 := (hg.block q (lt_of_block hqA) (fun e => by have := hlow q e.symm; omega)).trans hqA
      have hb3 : Below w0.heap.size w0 w3 := hA.bw.trans (gb_below hg hA.bw.size (fun b hb => by have := hlow b hb; have := hA.c0; omega))
      have hc0 := hA.c0
      refine ⟨Lib.hid ⟨⟨by rw [heap_setCell_same w3 c 10 _ _ _ hc1]; rfl, ⟨cs ++ [.slice pa t.1.length pc, .slice ra t.2.length rc], ?_, tyCs_snoc (pc := pc) (rc := rc) htc j1 j2⟩, hb3.trans (Below.setAt (by omega)), hA.md, hA.cN, hA.c0, by have := hA.Nw; have := hg.size; simp [World.setCell]; omega⟩, (Below.heap_setCell _ _ _ _ (show q ≠ c from hqc)).trans hq1⟩,
        by rw [cell_of_row w3 c 10 _ _ _ hc1]; rfl, frozen_of_row w3 c 10 _ _ hc1, by rw [cell_of_row w3 q 0 _ _ _ hq1]; rfl⟩
      rw [List.length_append]
      exact own_block ho fun b hb => Below.heap_setCell _ _ _ _ (by
        have : b = g := by simpa [Value.ownBlock] using hb.symm
        show b ≠ c
        omega)
    have hNw := h.Nw
    obtain ⟨fa0, fc0, hfv⟩ := own_sl hown
    rw [hwA2] at fin hown
    clear hA hwA hqA hwA2
    subst hfv
    have y1 : (w.alloc (.cells #[.slice pa t.1.length pc, .slice ra t.2.length rc] 28)).cell? ⟨c, 10, none⟩ = some (.slice fa0 fs.length fc0) := keep_below (Below.of_alloc w _) _ _ x10
    have y2 : (w.alloc (.cells #[.slice pa t.1.length pc, .slice ra t.2.length rc] 28)).drew.cell? ⟨c, 10, none⟩ = some (.slice fa0 fs.length fc0) := y1
    have y3 : (w.alloc (.cells #[.slice pa t.1.length pc, .slice ra t.2.length rc] 28)).cell? ⟨q, 0, none⟩ = some (.pointer (some ⟨c, 0, none⟩)) := keep_below (Below.of_alloc w _) _ _ q0
    have y4 : (w.alloc (.cells #[.slice pa t.1.length pc, .slice ra t.2.length rc] 28)).drew.cell? ⟨q, 0, none⟩ = some (.pointer (some ⟨c, 0, none⟩)) := y3
    replace h := Lib.hid h
    go_enter Tryd.func21, Tryd.ntmps21
    go_wp2_with fail
    refine (hH _).mono ?_
    rintro e w' ⟨rfl, rfl⟩
    go_wp2_with fail
    go_region_law ((
      refine step_append_lies _ rfl _ _ _ rfl N 28 i6 _ 2 48 Tryd.underlying29 hi6 hz6 hs6 hb6 rfl (by omega) (.slice fa0 fs.length fc0) fs.length cs (by rfl) hown ⟨w.drew.heap.size, 0, none⟩ 1 1 [.slice pa t.1.length pc, .slice ra t.2.length rc] (by rfl) (by rfl)
        (World.news_of_block (cs := #[.slice pa t.1.length pc, .slice ra t.2.length rc]) (t := 28) (fr := (0, 0)) (heap_alloc_new _ _)) (by intro u hu; simp only [List.mem_cons, List.mem_nil_iff, or_false] at hu; rcases hu with rfl | rfl <;> rfl)
        (by omega) (by unfold maxLen; omega) (by omega) (by simp; omega) (w.drew.heap.size + 1) (by simp) ?_
      intro g cap w3 hown3 hgrow hat hlt3
      obtain ⟨hfin, u1, u2, u3⟩ := fin g cap w3 hown3 hgrow (hown3.lt g rfl).1))
    all_goals (
      go_wp2_with fail
      go_end0
      exact ⟨rfl, _, hfin.out.1, hfin.out.2⟩)
  · have ht : m.types[k]? = none := List.getElem?_eq_none (by omega)
    rw [ht]
    have hH := fun w => has_no (n := (k : Int)) (m := (m.types.length : Int)) (by omega) w
    go_enter Tryd.func21, Tryd.ntmps21
    go_wp2_with fail
    refine (hH _).mono ?_
    rintro e w' ⟨rfl, rfl⟩
    go_wp2
    exact ⟨rfl, rfl, Below.refl _ _⟩
end

end Go.Proofs.YtacohbllbjgdgaaDoor
