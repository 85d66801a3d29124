/- Plain laws of WastMany: many nops in several functions, and one in blocks. -/
import Derived.Test.YtofleejokkdklaaDoorNe
namespace Go.Proofs.YtofleejokkdklaaDoor
open Go.RowKit
set_option linter.unusedVariables false

def nops : Nat → Il
  | 0 => .nil
  | k + 1 => .cons 1 0 0 0 [] .nil .nil (nops k)
theorem nops_len : ∀ k, (nops k).len = k
  | 0 => rfl
  | k + 1 => by simp [nops, Il.len, nops_len k]
theorem nops_cnt : ∀ (k : Nat) (left : Int), 0 ≤ left → cnt (nops k) left = if (k : Int) ≤ left then left - k else -1
  | 0, left, h => by
    show left = _
    rw [if_pos (by omega)]
    omega
  | k + 1, left, h => by
    show (if (if 0 ≤ (if 0 ≤ left - 1 then left - 1 else left - 1) then (if 0 ≤ left - 1 then left - 1 else left - 1) else (if 0 ≤ left - 1 then left - 1 else left - 1)) < 0 then -1 else cnt (nops k) (if 0 ≤ (if 0 ≤ left - 1 then left - 1 else left - 1) then (if 0 ≤ left - 1 then left - 1 else left - 1) else (if 0 ≤ left - 1 then left - 1 else left - 1))) = _
    simp only [ite_self]
    by_cases h1 : left - 1 < 0
    · rw [if_pos h1, if_neg (by omega)]
    · rw [if_neg h1, nops_cnt k (left - 1) (by omega)]
      by_cases h2 : (k : Int) ≤ left - 1
      · rw [if_pos h2, if_pos (by omega)]; omega
      · rw [if_neg h2, if_neg (by omega)]
theorem nest_cnt : ∀ (k : Nat) (left : Int), 0 ≤ left → cnt (nest k) left = if (k : Int) + 1 ≤ left then left - (k + 1) else -1
  | 0, left, h => by
    show (if (if 0 ≤ (if 0 ≤ left - 1 then left - 1 else left - 1) then (if 0 ≤ left - 1 then left - 1 else left - 1) else (if 0 ≤ left - 1 then left - 1 else left - 1)) < 0 then -1 else (if 0 ≤ (if 0 ≤ left - 1 then left - 1 else left - 1) then (if 0 ≤ left - 1 then left - 1 else left - 1) else (if 0 ≤ left - 1 then left - 1 else left - 1))) = _
    simp only [ite_self]
    by_cases h1 : left - 1 < 0
    · rw [if_pos h1, if_neg (by omega)]
    · rw [if_neg h1, if_pos (by omega)]; omega
  | k + 1, left, h => by
    show (if (if 0 ≤ (if 0 ≤ left - 1 then cnt (nest k) (left - 1) else left - 1) then (if 0 ≤ left - 1 then cnt (nest k) (left - 1) else left - 1) else (if 0 ≤ left - 1 then cnt (nest k) (left - 1) else left - 1)) < 0 then -1 else (if 0 ≤ (if 0 ≤ left - 1 then cnt (nest k) (left - 1) else left - 1) then (if 0 ≤ left - 1 then cnt (nest k) (left - 1) else left - 1) else (if 0 ≤ left - 1 then cnt (nest k) (left - 1) else left - 1))) = _
    simp only [ite_self]
    by_cases h1 : 0 ≤ left - 1
    · rw [if_pos h1, nest_cnt k (left - 1) h1]
      by_cases h2 : (k : Int) + 1 ≤ left - 1
      · rw [if_pos h2, if_neg (by omega), if_pos (by omega)]; omega
      · rw [if_neg h2, if_pos (by omega), if_neg (by omega)]
    · rw [if_neg h1, if_pos (by omega), if_neg (by omega)]

theorem nops_flatR : ∀ (k : Nat) (d : Int), flatR (nops k) d = true
  | 0, d => rfl
  | k + 1, d => by
    have := nops_flatR k d
    simp [nops, flatR, this, Il.len]
theorem nops_lab : ∀ k, lab (nops k) = true
  | 0 => rfl
  | k + 1 => by
    have := nops_lab k
    simp [nops, lab, this]
theorem nops_form : ∀ k, formB (nops k) = true
  | 0 => rfl
  | k + 1 => by
    have e : form1 1 0 0 0 [] 0 0 = true := by decide
    show (form1 1 0 0 0 [] 0 0 && (true && (true && formB (nops k)))) = true
    rw [e, nops_form k]
    rfl
theorem nest_facts : ∀ k : Fin 81, lab (nest k.val) = true ∧ formB (nest k.val) = true ∧ flatB (nest k.val) 0 = decide (k.val ≤ 64) := by decide +kernel

/-- The functions: nops, and last one in blocks. -/
def fil (l : Il) : Int × List Int × Il := (0, [], l)
def manyF (segs : List Nat) (D : Nat) : List (Int × List Int × Il) := (segs.map nops ++ [nest D]).map fil
def manyM (segs : List Nat) (D : Nat) : Md := mdTF [([], [])] (manyF segs D)
theorem many_cnt (D : Nat) : ∀ (segs : List Nat) (left : Int), 0 ≤ left → cntF (manyF segs D) left = if ((segs.sum : Nat) : Int) + D + 1 ≤ left then left - (segs.sum + D + 1) else -1
  | [], left, h => by
    show (if cnt (nest D) left < 0 then cnt (nest D) left else cnt (nest D) left) = _
    rw [ite_self, nest_cnt D left h]
    have e0 : ([] : List Nat).sum = 0 := rfl
    by_cases h2 : (D : Int) + 1 ≤ left
    · rw [if_pos h2, if_pos (by omega)]; omega
    · rw [if_neg h2, if_neg (by omega)]
  | s :: r, left, h => by
    show (if cnt (nops s) left < 0 then cnt (nops s) left else cntF (manyF r D) (cnt (nops s) left)) = _
    rw [nops_cnt s left h]
    have e0 : (s :: r).sum = s + r.sum := List.sum_cons
    by_cases h2 : (s : Int) ≤ left
    · rw [if_pos h2, if_neg (by omega), many_cnt D r _ (by omega)]
      by_cases h3 : ((r.sum : Nat) : Int) + D + 1 ≤ left - s
      · rw [if_pos h3, if_pos (by omega)]; omega
      · rw [if_neg h3, if_neg (by omega)]
    · rw [if_neg h2, if_pos (by omega), if_neg (by omega)]
theorem many_count (segs : List Nat) (D : Nat) : 65536 - cntF (manyM segs D).funcs 65536 = if (segs.sum : Int) + D + 1 > 65536 then 65537 else (segs.sum : Int) + D + 1 := by
  show 65536 - cntF (manyF segs D) 65536 = _
  rw [many_cnt D segs 65536 (by decide)]
  by_cases h : ((segs.sum : Nat) : Int) + D + 1 ≤ 65536
  · rw [if_pos h, if_neg (by omega)]; omega
  · rw [if_neg h, if_pos (by omega)]; rfl
theorem many_all (g : Int × List Int × Il → Bool) (segs : List Nat) (D : Nat) (h : ∀ k, g (fil (nops k)) = true) : (manyF segs D).all g = g (fil (nest D)) := by
  unfold manyF
  rw [List.all_map, List.all_append, List.all_map]
  have : (segs.all ((g ∘ fil) ∘ nops)) = true := List.all_eq_true.2 fun k _ => h k
  rw [this]
  simp
theorem many_few (segs : List Nat) (D : Nat) (hs : segs.length ≤ 5) (hD : D ≤ 80) : fewB (manyM segs D) = decide ((segs.sum : Int) + D + 1 ≤ 65536) := by
  have hf5 : few5 (manyM segs D) = true := by
    show (manyF segs D).all funFew = true
    rw [many_all funFew segs D (fun k => by simp [funFew, fil, nops_lab])]
    have := (nest_facts ⟨D, by omega⟩).1
    simp [funFew, fil, this]
  have hfl : (manyF segs D).length = segs.length + 1 := by simp [manyF]
  have hlens : (lens (manyM segs D)).all le4 = true := by
    show ([(1 : Int), 0, ((manyF segs D).length : Nat), 0, 0, 0, 0, 0, 0]).all le4 = true
    rw [hfl]
    simp [le4]
    omega
  have h4 : few4 (manyM segs D) = decide ((segs.sum : Int) + D + 1 ≤ 65536) := by
    unfold few4
    rw [hf5, many_count, Bool.and_true]
    by_cases h : (segs.sum : Int) + D + 1 > 65536
    · rw [if_pos h, decide_eq_false (by omega), decide_eq_false (by omega)]
    · rw [if_neg h]
  unfold fewB
  rw [hlens, Bool.true_and]
  show (decide (((0 : Nat) : Int) ≤ 1) && (([([], [])] : List (List Int × List Int)).all typFew && (([] : List (One × List Int)).all elmFew && (dataFit [] 262144 && few4 (manyM segs D))))) = _
  rw [h4]
  simp [typFew, dataFit]
theorem many_check (segs : List Nat) (D : Nat) (hs : segs.length ≤ 5) (hD : D ≤ 80) :
    checkV (manyM segs D) = if (segs.sum : Int) + D + 1 > 65536 then 3 else if D > 64 then 4 else 0 := by
  unfold checkV
  rw [many_few segs D hs hD]
  have hn := nest_facts ⟨D, by omega⟩
  have hfl : flatM (manyM segs D) = decide (D ≤ 64) := by
    show (manyF segs D).all (fun t => flatB t.2.2 0) = _
    rw [many_all (fun t => flatB t.2.2 0) segs D (fun k => by simp [fil, flatB, nops_flatR])]
    exact hn.2.2
  have hsh : shapedB (manyM segs D) = true := by
    have h9 : (manyF segs D).all funS = true := by
      rw [many_all funS segs D (fun k => by simp [funS, fil, nops_form, idx1])]
      have := hn.2.1
      simp only at this
      simp [funS, fil, this, idx1]
    have h9' : sh9 (manyM segs D) = true := h9
    show (([([], [])] : List (List Int × List Int)).all typS && sh9 (manyM segs D)) = true
    rw [h9']
    rfl
  rw [hfl, hsh]
  by_cases h : (segs.sum : Int) + D + 1 ≤ 65536
  · have h' : ¬ ((segs.sum : Int) + D + 1 > 65536) := by omega
    rw [decide_eq_true h, if_neg h']
    by_cases h2 : D ≤ 64
    · have h2' : ¬ (D > 64) := by omega
      rw [decide_eq_true h2, if_neg h2']
      rfl
    · have h2' : D > 64 := by omega
      rw [decide_eq_false h2, if_pos h2']
      rfl
  · have h' : (segs.sum : Int) + D + 1 > 65536 := by omega
    rw [decide_eq_false h, if_pos h']
    rfl

/-- Where the i-th function begins. -/
def loN (N F i : Nat) : Nat := N * i / F
theorem loN_mono (N F i : Nat) : loN N F i ≤ loN N F (i + 1) := Nat.div_le_div_right (Nat.mul_le_mul_left _ (Nat.le_succ _))
theorem loN_top (N F : Nat) (hF : 1 ≤ F) : loN N F F = N := Nat.mul_div_cancel _ hF
theorem loN_le (N F i : Nat) (hF : 1 ≤ F) (hi : i ≤ F) : loN N F i ≤ N := by
  have : loN N F i ≤ loN N F F := Nat.div_le_div_right (Nat.mul_le_mul_left _ hi)
  rwa [loN_top N F hF] at this
def segN (N F i : Nat) : Nat := loN N F (i + 1) - loN N F i
theorem segN_sum (N F : Nat) : ∀ i, ((List.range i).map (segN N F)).sum = loN N F i
  | 0 => by simp [loN]
  | i + 1 => by
    rw [List.range_succ, List.map_append, List.sum_append, segN_sum N F i]
    have := loN_mono N F i
    simp [segN]
    omega
end Go.Proofs.YtofleejokkdklaaDoor
