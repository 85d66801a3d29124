/- What is alike is the same: plain. -/
import Derived.Test.YtanpjbbhhofkfaaDoorIp
import Derived.Test.YtanpjbbhhofkfaaDoorSd
namespace Go.Proofs.YtanpjbbhhofkfaaDoor
open Go.RowKit
set_option linter.unusedVariables false
set_option linter.unusedSimpArgs false

theorem ilEq_eq : ∀ {l l' : Il}, ilEq l l' = true → l = l'
  | .nil, .nil, _ => rfl
  | .cons op x y n ls b e r, .cons op' x' y' n' ls' b' e' r', h => by
    simp only [ilEq, Bool.and_eq_true, beq_iff_eq, decide_eq_true_eq] at h
    obtain ⟨rfl, rfl, rfl, rfl, rfl, h5, h6, h7⟩ := h
    rw [ilEq_eq h5, ilEq_eq h6, ilEq_eq h7]
  | .nil, .cons _ _ _ _ _ _ _ _, h => by cases h
  | .cons _ _ _ _ _ _ _ _, .nil, h => by cases h
theorem zip_eq {α : Type} {q : α × α → Bool} (hq : ∀ x y, q (x, y) = true → x = y) : ∀ {l l' : List α}, l.length = l'.length → (l.zip l').all q = true → l = l'
  | [], [], _, _ => rfl
  | [], _ :: _, h, _ => by simp at h
  | _ :: _, [], h, _ => by simp at h
  | a :: l, b :: l', h, ha => by
    rw [List.zip_cons_cons, List.all_cons, Bool.and_eq_true] at ha
    rw [hq a b ha.1, zip_eq hq (by simpa using h) ha.2]
theorem zip_self {α : Type} {f : α × α → Bool} (h : ∀ x, f (x, x) = true) : ∀ l : List α, (l.zip l).all f = true
  | [] => rfl
  | x :: l => by rw [List.zip_cons_cons, List.all_cons, h x, zip_self h l]; rfl
theorem mdSame_self (m : Md) : mdSame m m = true := by
  unfold mdSame sm0 sm1 sm2 sm3 sm4 sm5 sm6 sm7 sm8 sizesB
  rw [zip_self (f := typQ) (fun x => by simp [typQ]), zip_self (f := impQ) (fun x => by simp [impQ]), zip_self (f := funQ) (fun x => by simp [funQ, ilEq_self]), zip_self (f := limQ) (fun x => by simp [limQ]), zip_self (f := limQ) (fun x => by simp [limQ]), zip_self (f := gloQ) (fun x => by simp [gloQ, ilEq_self]), zip_self (f := expQ) (fun x => by simp [expQ]), zip_self (f := elmQ) (fun x => by simp [elmQ, ilEq_self]), zip_self (f := datQ) (fun x => by simp [datQ, ilEq_self])]
  simp
theorem mdSame_eq {m m' : Md} (h : mdSame m m' = true) : m = m' := by
  unfold mdSame at h
  rw [Bool.and_eq_true] at h
  obtain ⟨hz, h⟩ := h
  obtain ⟨z0, z1, z2, z3, z4, z5, z6, z7, z8, z9⟩ := sizes_open hz
  unfold sm0 sm1 sm2 sm3 sm4 sm5 sm6 sm7 sm8 at h
  rw [Bool.and_eq_true, Bool.and_eq_true, Bool.and_eq_true, Bool.and_eq_true, Bool.and_eq_true, Bool.and_eq_true, Bool.and_eq_true, Bool.and_eq_true] at h
  obtain ⟨h0, h1, h2, h3, h4, h5, h6, h8, h9⟩ := h
  have e0 := zip_eq (q := typQ) (fun x y h => by unfold typQ at h; rw [Bool.and_eq_true, decide_eq_true_eq, decide_eq_true_eq] at h; exact Prod.ext h.1 h.2) z0 h0
  have e1 := zip_eq (q := impQ) (fun x y h => of_decide_eq_true h) z1 h1
  have e2 := zip_eq (q := funQ) (fun x y h => by unfold funQ at h; rw [Bool.and_eq_true, Bool.and_eq_true, decide_eq_true_eq, decide_eq_true_eq] at h; exact Prod.ext h.1 (Prod.ext h.2.1 (ilEq_eq h.2.2))) z2 h2
  have e3 := zip_eq (q := limQ) (fun x y h => of_decide_eq_true h) z3 h3
  have e4 := zip_eq (q := limQ) (fun x y h => of_decide_eq_true h) z4 h4
  have e5 := zip_eq (q := gloQ) (fun x y h => by unfold gloQ at h; rw [Bool.and_eq_true, Bool.and_eq_true, decide_eq_true_eq, decide_eq_true_eq] at h; exact Prod.ext h.1 (Prod.ext h.2.1 (one_inj (ilEq_eq h.2.2)))) z5 h5
  have e6 := zip_eq (q := expQ) (fun x y h => of_decide_eq_true h) z6 h6
  have e8 := zip_eq (q := elmQ) (fun x y h => by unfold elmQ at h; rw [Bool.and_eq_true, decide_eq_true_eq] at h; exact Prod.ext (one_inj (ilEq_eq h.1)) h.2) z8 h8
  have e9 := zip_eq (q := datQ) (fun x y h => by unfold datQ at h; rw [Bool.and_eq_true, decide_eq_true_eq] at h; exact Prod.ext (one_inj (ilEq_eq h.2)) h.1) z9 h9
  obtain ⟨x0, x1, x2, x3, x4, x5, x6, x7, x8, x9⟩ := m
  obtain ⟨y0, y1, y2, y3, y4, y5, y6, y7, y8, y9⟩ := m'
  simp only at e0 e1 e2 e3 e4 e5 e6 z7 e8 e9
  rw [e0, e1, e2, e3, e4, e5, e6, z7, e8, e9]
theorem mdSame_iff (m m' : Md) : mdSame m m' = true ↔ m = m' := ⟨mdSame_eq, fun h => h ▸ mdSame_self m⟩
/-- What EncodeUnlike asks. -/
theorem unlike_law {a b : Md} (ha : encE a = 0) (hb : encE b = 0) : (encB a = encB b ↔ mdSame a b = true) := by
  have key : ∀ {m : Md}, encE m = 0 → checkV m = 0 ∧ encB m = xMd m := fun {m} h => by
    unfold encE at h
    by_cases hc : checkV m = 0
    · rw [if_pos hc] at h
      by_cases hl : (xMd m).length ≤ 262144
      · refine ⟨hc, ?_⟩
        unfold encB
        rw [if_pos hc, if_pos hl]
      · rw [if_neg hl] at h
        cases h
    · rw [if_neg hc] at h
      exact absurd h hc
  obtain ⟨c1, e1⟩ := key ha
  obtain ⟨c2, e2⟩ := key hb
  rw [mdSame_iff, e1, e2]
  exact ⟨md_inj c1 c2, fun h => by rw [h]⟩
theorem unlike_bad {m : Md} (h : ¬ encE m = 0) : encB m = [] := by
  unfold encE at h
  unfold encB
  by_cases hc : checkV m = 0
  · rw [if_pos hc] at h ⊢
    by_cases hl : (xMd m).length ≤ 262144
    · rw [if_pos hl] at h
      exact absurd rfl h
    · rw [if_neg hl]
  · rw [if_neg hc]
end Go.Proofs.YtanpjbbhhofkfaaDoor
