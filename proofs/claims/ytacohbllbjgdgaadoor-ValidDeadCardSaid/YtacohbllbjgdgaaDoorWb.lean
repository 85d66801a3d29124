/- What a module that may be written is, plainly. -/
import Derived.Test.YtacohbllbjgdgaaDoorOa
import Derived.Test.YtacohbllbjgdgaaDoorXo
namespace Go.Proofs.YtacohbllbjgdgaaDoor
open Go.RowKit
set_option linter.unusedVariables false
set_option linter.unusedSimpArgs false

/-- What a module is, if nothing is wrong with its form. -/
structure Cm (m : Md) : Prop where
  l0 : m.types.length ≤ 4096
  l1 : m.imports.length ≤ 4096
  l2 : m.funcs.length ≤ 4096
  l3 : m.tables.length ≤ 4096
  l4 : m.mems.length ≤ 4096
  l5 : m.globals.length ≤ 4096
  l6 : m.exports.length ≤ 4096
  l7 : m.start.length ≤ 1
  l8 : m.elems.length ≤ 4096
  l9 : m.datas.length ≤ 4096
  types : ∀ t ∈ m.types, t.1.length ≤ 4096 ∧ t.2.length ≤ 4096 ∧ t.1.all typ1 = true ∧ t.2.all typ1 = true
  imports : ∀ t ∈ m.imports, nameB t.1 = true ∧ nameB t.2.1 = true ∧ idx1 t.2.2 = true
  funcs : ∀ t ∈ m.funcs, idx1 t.1 = true ∧ t.2.1.length ≤ 256 ∧ t.2.1.all typ1 = true ∧ lab t.2.2 = true ∧ formB t.2.2 = true ∧ flatB t.2.2 0 = true
  tables : ∀ t ∈ m.tables, lim1 t = true
  mems : ∀ t ∈ m.mems, lim1 t = true
  globals : ∀ t ∈ m.globals, typ1 t.1 = true ∧ beg1 t.2.2 = true
  exports : ∀ t ∈ m.exports, nameB t.1 = true ∧ (0 ≤ t.2.1 ∧ t.2.1 ≤ 3) ∧ idx1 t.2.2 = true
  start : ∀ n ∈ m.start, idx1 n = true
  elems : ∀ t ∈ m.elems, beg1 t.1 = true ∧ t.2.length ≤ 4096 ∧ t.2.all idx1 = true
  datas : ∀ t ∈ m.datas, beg1 t.1 = true ∧ t.2.size ≤ 1048576
  cnt : 0 ≤ cntF m.funcs 65536
theorem cntF_bd : ∀ (l : List (Int × List Int × Il)) (left : Int), 0 ≤ left → -1 ≤ cntF l left
  | [], left, h => by unfold cntF; omega
  | f :: r, left, h => by
    have := cnt_bd f.2.2 left h
    unfold cntF
    split
    · omega
    · exact cntF_bd r _ (by omega)
theorem data_all : ∀ (l : List (One × ByteArray)) (left : Int), dataFit l left = true → ∀ d ∈ l, (d.2.size : Int) ≤ left
  | d :: r, left, h, x, hx => by
    unfold dataFit at h
    rw [Bool.and_eq_true, decide_eq_true_eq] at h
    rcases List.mem_cons.1 hx with rfl | hx
    · exact h.1
    · have := data_all r _ h.2 x hx
      omega
theorem allm {α : Type} {f : α → Bool} {l : List α} (h : l.all f = true) : ∀ x ∈ l, f x = true := List.all_eq_true.1 h
theorem cm_of {m : Md} (hc : checkV m = 0) : Cm m := by
  unfold checkV at hc
  split at hc
  · cases hc
  rename_i hf
  split at hc
  · cases hc
  rename_i hm
  split at hc
  · cases hc
  rename_i hs
  have hf2 : fewB m = true := by simpa using hf
  have hm2 : flatM m = true := by simpa using hm
  have hs2 : shapedB m = true := by simpa using hs
  unfold fewB few0 few1 few2 few3 few4 few5 lens at hf2
  simp only [Bool.and_eq_true, decide_eq_true_eq, List.all_cons, List.all_nil, le4, List.all_eq_true] at hf2
  obtain ⟨⟨l0, l1, l2, l3, l4, l5, l6, l8, l9, _⟩, f0, f1, f2, f3, f4, f5⟩ := hf2
  unfold shapedB sh1 sh2 sh3 sh4 sh5 sh6 sh7 sh8 sh9 at hs2
  rw [Bool.and_eq_true, Bool.and_eq_true, Bool.and_eq_true, Bool.and_eq_true, Bool.and_eq_true, Bool.and_eq_true, Bool.and_eq_true, Bool.and_eq_true, Bool.and_eq_true] at hs2
  obtain ⟨s0, s1, s2, s3, s4, s5, s6, s7, s8, s9⟩ := hs2
  refine ⟨by omega, by omega, by omega, by omega, by omega, by omega, by omega, by omega, by omega, by omega, fun t ht => ?_, fun t ht => ?_, fun t ht => ?_, allm s2, allm s3, fun t ht => ?_, fun t ht => ?_, allm s6, fun t ht => ?_, fun t ht => ?_, ?_⟩
  · have h1 := f1 t ht
    unfold typFew at h1
    rw [Bool.and_eq_true, decide_eq_true_eq, decide_eq_true_eq] at h1
    have h2 := allm s0 t ht
    unfold typS at h2
    rw [Bool.and_eq_true] at h2
    exact ⟨by omega, by omega, h2.1, h2.2⟩
  · have h2 := allm s1 t ht
    unfold impS at h2
    rw [Bool.and_eq_true, Bool.and_eq_true] at h2
    exact h2
  · have h1 := f5 t ht
    unfold funFew at h1
    rw [Bool.and_eq_true, decide_eq_true_eq] at h1
    have h2 := allm s9 t ht
    unfold funS at h2
    rw [Bool.and_eq_true, Bool.and_eq_true] at h2
    have h3 := allm hm2 t ht
    exact ⟨h2.1, by omega, h2.2.1, h1.2, h2.2.2, h3⟩
  · have h2 := allm s4 t ht
    unfold gloS at h2
    rw [Bool.and_eq_true] at h2
    exact h2
  · have h2 := allm s5 t ht
    unfold expS at h2
    rw [Bool.and_eq_true, Bool.and_eq_true, Bool.and_eq_true, decide_eq_true_eq, decide_eq_true_eq] at h2
    exact h2
  · have h1 := f2 t ht
    unfold elmFew at h1
    rw [decide_eq_true_eq] at h1
    have h2 := allm s7 t ht
    unfold elmS at h2
    rw [Bool.and_eq_true] at h2
    exact ⟨h2.1, by omega, h2.2⟩
  · have h2 := allm s8 t ht
    unfold datS at h2
    have h3 := data_all m.datas 262144 f3 t ht
    exact ⟨h2, by omega⟩
  · have := cntF_bd m.funcs 65536 (by omega)
    omega
theorem typ1_tyo {t : Int} (h : typ1 t = true) : tyo t := by
  unfold typ1 at h
  unfold tyo
  simp only [Bool.or_eq_true, beq_iff_eq] at h
  omega
/-- How many instructions there are, counted down. -/
theorem cnt_sz : ∀ (l : Il) (left : Int), 0 ≤ cnt l left → (szI l : Int) + cnt l left ≤ left
  | .nil, left, h => by unfold szI cnt; omega
  | .cons op x y n ls body els rest, left, h => by
    have hs : szI (.cons op x y n ls body els rest) = 1 + szI body + szI els + szI rest := rfl
    unfold cnt at h ⊢
    dsimp only at h ⊢
    generalize hl2 : (if 0 ≤ left - 1 then cnt body (left - 1) else left - 1) = l2 at h ⊢
    generalize hl3 : (if 0 ≤ l2 then cnt els l2 else l2) = l3 at h ⊢
    by_cases h3 : l3 < 0
    · rw [if_pos h3] at h; omega
    · rw [if_neg h3] at h ⊢
      have r3 := cnt_sz rest l3 h
      by_cases h2 : 0 ≤ l2
      · rw [if_pos h2] at hl3
        have r2 := cnt_sz els l2 (by omega)
        by_cases h1 : 0 ≤ left - 1
        · rw [if_pos h1] at hl2
          have r1 := cnt_sz body (left - 1) (by omega)
          rw [hs]
          omega
        · rw [if_neg h1] at hl2; omega
      · rw [if_neg h2] at hl3; omega
theorem cntF_sz : ∀ (l : List (Int × List Int × Il)) (left : Int), 0 ≤ cntF l left → ∀ f ∈ l, (szI f.2.2 : Int) ≤ left
  | [], left, h, f, hf => by cases hf
  | g :: r, left, h, f, hf => by
    unfold cntF at h
    by_cases h1 : cnt g.2.2 left < 0
    · rw [if_pos h1] at h; omega
    · rw [if_neg h1] at h
      have h2 := cnt_sz g.2.2 left (by omega)
      rcases List.mem_cons.1 hf with rfl | hf
      · omega
      · have := cntF_sz r _ h f hf
        omega

end Go.Proofs.YtacohbllbjgdgaaDoor
