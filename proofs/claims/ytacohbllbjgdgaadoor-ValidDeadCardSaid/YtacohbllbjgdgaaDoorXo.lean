/- The typer: any block. -/
import Derived.Test.YtacohbllbjgdgaaDoorXn
import Derived.Deep.RegionLaw
import Derived.Deep.AppendLies
namespace Go.Proofs.YtacohbllbjgdgaaDoor
open Go.RowKit
set_option linter.unusedVariables false
set_option linter.unusedSimpArgs false

theorem bind_ok {α β : Type} {e : Except Int α} {k : α → Except Int β} {t : β} (h : e.bind k = .ok t) : ∃ u, e = .ok u ∧ k u = .ok t := by
  cases e with
  | error n => cases h
  | ok u => exact ⟨u, rfl, h⟩
theorem tPush_len (l : List Int) (s : Ts) : (tPush l s).st.length = l.length + s.st.length := by unfold tPush; simp
theorem tDies_len (s : Ts) : (tDies s).st.length ≤ s.st.length := by
  unfold tDies
  split
  · exact Nat.le_refl _
  · simp
theorem tCalls_len {t : List Int × List Int} {s u : Ts} (ht : t.2.length ≤ 1) (h : tCalls t s = .ok u) : u.st.length ≤ s.st.length + 1 := by
  obtain ⟨v, h1, h2⟩ := bind_ok h
  cases h2
  have := tPops_len _ h1
  rw [tPush_len]
  omega
theorem tInstr_len {E : Ev} (hE : EvOk E) (hR : EvR E) {s t : Ts} (hw : Wf s) (hRf : Rf s) {op a y n : Int} {ls : List Int} {bl el : Nat} (hf : form1 op a y n ls bl el = true) {B C : Ts → Except Int Ts} {B' C' : Rs → Rs} (hB : BOk B B') (hC : BOk C C')
    (h : tInstr E op a ls el B C s = .ok t) : t.st.length ≤ s.st.length + 1 := by
  obtain ⟨h0, g1, g2, g3, g4⟩ := plainfacts hf
  have hrl := resV_len a
  unfold tInstr at h
  split at h
  · obtain ⟨u, h1, h2⟩ := bind_ok h
    cases h2
    have := tPops_len _ h1
    rw [tPush_len]
    simp
    omega
  split at h
  · rename_i hF
    have ha := g1 hF
    have hty := res_ok ha
    unfold tBlocks at h
    split at h
    · obtain ⟨u, h1, h2⟩ := bind_ok h
      cases h2
      have := (tBlock_len hB hty hty hw h1).1
      rw [tPush_len]
      omega
    · split at h
      · obtain ⟨u, h1, h2⟩ := bind_ok h
        cases h2
        have := (tBlock_len hB (by intro t ht; cases ht) hty hw h1).1
        rw [tPush_len]
        omega
      · obtain ⟨q, h1, h2⟩ := bind_ok h
        have hql := tPop_len h1
        have hwq := (tPop_wf hw h1).1
        split at h2
        · obtain ⟨u, h3, h4⟩ := bind_ok h2
          obtain ⟨ul, uw, _⟩ := tBlock_len hB hty hty hwq h3
          obtain ⟨v, h5, h6⟩ := bind_ok h4
          cases h6
          rw [tPush_len]
          split at h5
          · have := (tBlock_len hC hty hty uw h5).1
            omega
          · cases h5
            omega
        · cases h2
  split at h
  · unfold tLeaves at h
    obtain ⟨_, _, h⟩ := bind_ok h
    obtain ⟨g, hg, h⟩ := bind_ok h
    obtain ⟨u, h1, h⟩ := bind_ok h
    obtain ⟨_, _, h⟩ := bind_ok h
    obtain ⟨v, h2, h⟩ := bind_ok h
    have hul : u.st.length ≤ s.st.length := by
      split at h1
      · obtain ⟨q, h3, h4⟩ := bind_ok h1
        cases h4
        exact tPop_len h3
      · cases h1; exact Nat.le_refl _
    have hvl := tPops_len _ h2
    obtain ⟨f, hff, hfg⟩ := tGoes_in hw (g2 (by omega)) hg
    have hgl : g.length ≤ 1 := by rw [← hfg]; exact (hRf f hff).1
    cases h
    split
    · rw [tPush_len]; omega
    · have := tDies_len v; omega
  split at h
  · unfold tNamed at h
    split at h
    · split at h
      · rename_i t' ht
        exact tCalls_len (hR.funcs _ (List.mem_of_getElem? ht)) h
      · cases h
    · split at h
      · split at h
        · cases h; rw [tPush_len]; simp; omega
        · cases h
      · split at h
        · split at h
          · split at h
            · obtain ⟨q, h3, h4⟩ := bind_ok h
              cases h4
              have := tPop_len h3
              omega
            · cases h
          · cases h
        · split at h
          · obtain ⟨u, h1, h2⟩ := bind_ok h
            have hul : u.st.length ≤ s.st.length := by
              split at h1
              · obtain ⟨q, h3, h4⟩ := bind_ok h1
                cases h4
                exact tPop_len h3
              · cases h1; exact Nat.le_refl _
            cases h2
            split
            · rw [tPush_len]; simp; omega
            · omega
          · cases h
  split at h
  · unfold tIndirect at h
    split at h
    · split at h
      · rename_i t' ht
        obtain ⟨q, h1, h2⟩ := bind_ok h
        have := tPop_len h1
        have := tCalls_len (hR.types _ (List.mem_of_getElem? ht)) h2
        omega
      · cases h
    · cases h
  split at h
  · unfold tMemory at h
    split at h
    · split at h
      · obtain ⟨u, h1, h2⟩ := bind_ok h
        have hul : u.st.length ≤ s.st.length := by
          split at h1
          · obtain ⟨q, h3, h4⟩ := bind_ok h1
            cases h4
            exact tPop_len h3
          · cases h1; exact Nat.le_refl _
        obtain ⟨q, h3, h4⟩ := bind_ok h2
        have := tPop_len h3
        cases h4
        split
        · rw [tPush_len]; simp; omega
        · omega
      · cases h
    · cases h
  split at h
  · cases h; rw [tPush_len]; simp; omega
  · unfold tPlain at h
    split at h
    · cases h; have := tDies_len s; omega
    split at h
    · obtain ⟨u, h1, h2⟩ := bind_ok h
      cases h2
      have := tPops_len _ h1
      have := tDies_len u
      omega
    split at h
    · obtain ⟨q, h1, h2⟩ := bind_ok h
      cases h2
      have := tPop_len h1
      omega
    split at h
    · obtain ⟨q, h1, h⟩ := bind_ok h
      obtain ⟨q2, h2, h⟩ := bind_ok h
      obtain ⟨q3, h3, h⟩ := bind_ok h
      have := tPop_len h1
      have := tPop_len h2
      have := tPop_len h3
      split at h
      · cases h; rw [tPush_len]; simp; omega
      · cases h
    split at h
    · split at h
      · cases h; rw [tPush_len]; simp; omega
      · cases h
    split at h
    · split at h
      · obtain ⟨q, h1, h2⟩ := bind_ok h
        cases h2
        have := tPop_len h1
        rw [tPush_len]; simp; omega
      · cases h
    · cases h; omega

end Go.Proofs.YtacohbllbjgdgaaDoor
