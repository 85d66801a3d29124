/- A region that draws its order: a chain of operations, each behind the one ahead of it, the last one behind all; the others tell one value each, whatever the chain has done. -/
import Derived.Test.YtkbfjkbokifgkaaDoorGk
namespace Go.Proofs.YtkbfjkbokifgkaaDoor
open Go.RowKit
set_option linter.unusedVariables false

structure VX (n s m : Nat) (c D : Nat → Nat) (vals : Nat → Value) (X : Nat → Value → World → Prop) (f0 : Nat → Value) (listed : Array Bool) (a : Act) (w : World) : Prop where
  act : ∃ k f, k ≤ m ∧ a = Fv n f ∧ (∀ t, (∀ j, j < s → D j ≠ t) → f t = f0 t) ∧ (∀ j, j < s → (∀ k, k ≤ m → c k ≠ j) → listed.getD j false = true → f (D j) = vals j) ∧
    (∀ i, i < m → (listed.getD (c i) false = true ↔ i < k)) ∧ X k (if k = 0 then undef else f (D (c (k - 1)))) w
structure JX (Q : Exit → Act → World → Prop) (ops : Array Oper) (n s m : Nat) (c D : Nat → Nat) (vals : Nat → Value) (X : Nat → Value → World → Prop) (f0 : Nat → Value) (listed : Array Bool) (a : Act) (w : World) : Prop where
  size : listed.size = s + 1
  clo : ∀ i j, i < s → listed.getD i false = true → depB ops i j = true → listed.getD j false = true
  off : listed.getD s false = false → VX n s m c D vals X f0 listed a w
  on : listed.getD s false = true → (∀ j, j < s → listed.getD j false = true) ∧ Q .normal a w
/-- Is it a chain, the last one at s? -/
def chainB (ops : Array Oper) (c : Nat → Nat) (m s : Nat) : Bool :=
  c m == s && (List.range m).all (fun k => decide (c k < s) && depB ops (c (k + 1)) (c k)) && (List.range (m + 1)).all fun i => (List.range (m + 1)).all fun k => i == k || c i != c k
theorem chainB_at {ops : Array Oper} {c : Nat → Nat} {m s : Nat} (h : chainB ops c m s = true) :
    c m = s ∧ (∀ k, k < m → c k < s) ∧ (∀ i k, i ≤ m → k ≤ m → c i = c k → i = k) ∧ ∀ k, k + 1 ≤ m → depB ops (c (k + 1)) (c k) = true := by
  unfold chainB at h
  simp only [Bool.and_eq_true, beq_iff_eq, List.all_eq_true, List.mem_range, decide_eq_true_eq, Bool.or_eq_true, bne_iff_ne] at h
  obtain ⟨⟨h1, h2⟩, h3⟩ := h
  refine ⟨h1, fun k hk => (h2 k hk).1, fun i k hi hk e => ?_, fun k hk => (h2 k (by omega)).2⟩
  rcases h3 i (by omega) k (by omega) with h | h
  · exact h
  · exact absurd e h
theorem region_chain {P : Program} {Q : Exit → Act → World → Prop} {id : Nat} {ops : Array Oper} {f0 : Nat → Value} {w : World} (hmix : P.follows .mixedOrders = true) (n s m : Nat) (c D : Nat → Nat) (hs : ops.size = s + 1) (hq : ordB ops (s + 1) = true) (hd : difB D s = true) (hl : lastB ops s = true)
    (hcB : chainB ops c m s = true) (vals : Nat → Value) (X : Nat → Value → World → Prop) (hX : X 0 undef w.drew)
    (quiet : ∀ i, i < s → (∀ k, k ≤ m → c k ≠ i) → ∀ k v f w', k ≤ m → X k v w' → (∀ t, (∀ j, j < s → D j ≠ t) → f t = f0 t) → (∀ j, depB ops i j = true → (∀ k, k ≤ m → c k ≠ j) → f (D j) = vals j) → wpOp P ops Q i (fun a' w'' => a' = Fv n (upv f (D i) (vals i)) ∧ w'' = w') (Fv n f) w')
    (chain : ∀ k, k < m → ∀ v f w', X k v w' → (0 < k → f (D (c (k - 1))) = v) → (∀ t, (∀ j, j < s → D j ≠ t) → f t = f0 t) → (∀ j, depB ops (c k) j = true → (∀ k, k ≤ m → c k ≠ j) → f (D j) = vals j) → wpOp P ops Q (c k) (fun a' w'' => ∃ v', a' = Fv n (upv f (D (c k)) v') ∧ X (k + 1) v' w'') (Fv n f) w')
    (last : ∀ v f w', X m v w' → (0 < m → f (D (c (m - 1))) = v) → (∀ t, (∀ j, j < s → D j ≠ t) → f t = f0 t) → (∀ j, j < s → (∀ k, k ≤ m → c k ≠ j) → f (D j) = vals j) → wpOp P ops Q s (fun a' w'' => Q .normal a' w'') (Fv n f) w') : (Code.region id ops true).wp P Q (Fv n f0) w := by
  obtain ⟨hcs, hlt, hinj, hdep⟩ := chainB_at hcB
  refine wp_region_any hmix ?_
  refine any_inv (JX Q ops n s m c D vals X f0) (fun listed a w' hJ i o ho hl2 hall => ?_) (fun listed a w' hJ hr => ?_) ops.size _ _ _ ?_ ?_
  · obtain ⟨hsz, hclo, hoff, hon⟩ := hJ
    have hi : i < s + 1 := by
      rw [← hs]
      exact (Array.getElem?_eq_some_iff.1 ho).1
    have hl3 : listed.getD i false = false := by rw [lget_flip (d := true) (by omega)]; exact hl2
    have hdp : ∀ j, depB ops i j = true → j < i ∧ listed.getD j false = true := fun j hj => by
      unfold depB at hj
      rw [ho] at hj
      simp only [Array.any_eq_true, Bool.and_eq_true, beq_iff_eq] at hj
      obtain ⟨k, hk, rfl, hbd⟩ := hj
      obtain ⟨o', ho', hlt⟩ := ordB_at hq hi
      obtain rfl : o = o' := Option.some.inj (ho.symm.trans ho')
      have hm := Array.getElem_mem hk
      exact ⟨hlt _ hm, hall _ hm hbd⟩
    have hls : listed.getD s false = false := by
      cases h : listed.getD s false with
      | false => rfl
      | true =>
        by_cases e : i = s
        · rw [e, h] at hl3; exact hl3
        · have := (hon h).1 i (by omega)
          rw [hl3] at this
          exact this.symm
    obtain ⟨k, f, hkm, rfl, hoth, hv, hch, hXk⟩ := (hoff hls).act
    have hclo2 : ∀ i2 j, i2 < s → (listed.setIfInBounds i true).getD i2 false = true → depB ops i2 j = true → (listed.setIfInBounds i true).getD j false = true := fun i2 j h1 h2 h3 => by
      have hj : listed.getD j false = true := by
        by_cases e : i = i2
        · subst e; exact (hdp j h3).2
        · exact hclo i2 j h1 ((lget_set e).symm.trans h2) h3
      by_cases e : i = j
      · subst e; rw [hl3] at hj; cases hj
      · exact (lget_set e).trans hj
    have hset : (listed.setIfInBounds i true).getD i false = true := by
      rw [Array.getD_eq_getD_getElem?, Array.getElem?_setIfInBounds_self_of_lt (by omega)]
      rfl
    by_cases his : i = s
    · subst his
      have hallj : ∀ j, j < i → listed.getD j false = true := fun j hj => last_all (L := fun j => listed.getD j false = true) hl (fun j hj => (hdp j hj).2) (fun i2 j h1 h2 h3 => hclo i2 j h1 h2 h3) i j hj (by omega)
      have hk : k = m := by
        rcases Nat.lt_or_ge k m with h | h
        · have := (hch k h).1 (hallj _ (hlt k h))
          omega
        · omega
      subst hk
      refine wpOp_mono (fun a' w'' h => ?_) (last _ f w' hXk (fun h0 => by rw [if_neg (by omega)]) hoth (fun j hj hn => hv j hj hn (hallj j hj)))
      exact ⟨by rw [Array.size_setIfInBounds]; exact hsz, hclo2, fun h2 => by rw [hset] at h2; (cases h2), fun _ => ⟨fun j hj => (lget_set (by omega)).trans (hallj j hj), h⟩⟩
    · have hi2 : i < s := by omega
      have hls2 : (listed.setIfInBounds i true).getD s false = true → False := fun h2 => by
        rw [lget_set his, hls] at h2
        cases h2
      by_cases hck : ∃ k', k' ≤ m ∧ c k' = i
      · obtain ⟨k', hk', rfl⟩ := hck
        have hkm' : k' < m := by
          rcases Nat.lt_or_ge k' m with h | h
          · exact h
          · obtain rfl : k' = m := by omega
            exact absurd hcs his
        have hge : ¬ k' < k := fun h => by
          have := (hch k' hkm').2 h
          rw [hl3] at this
          cases this
        have hle : k' ≤ k := by
          rcases Nat.eq_zero_or_pos k' with h | h
          · omega
          · have h1 := hdep (k' - 1) (by omega)
            rw [show k' - 1 + 1 = k' by omega] at h1
            have := (hch (k' - 1) (by omega)).1 (hdp _ h1).2
            omega
        obtain rfl : k' = k := by omega
        refine wpOp_mono (fun a' w'' h => ?_) (chain k' hkm' _ f w' hXk (fun h0 => by rw [if_neg (by omega)]) hoth (fun j hj hn => hv j (by have := (hdp j hj).1; omega) hn (hdp j hj).2))
        obtain ⟨v', rfl, hX'⟩ := h
        refine ⟨by rw [Array.size_setIfInBounds]; exact hsz, hclo2, fun _ => ⟨k' + 1, _, by omega, rfl, fun t ht => ?_, fun j hj hn hlj => ?_, fun i2 hi2' => ?_, ?_⟩, fun h2 => (hls2 h2).elim⟩
        · rw [show upv f (D (c k')) v' t = f t from if_neg (fun e => ht _ hi2 e.symm)]
          exact hoth t ht
        · rw [show upv f (D (c k')) v' (D j) = f (D j) from if_neg (fun e => hn k' hk' (difB_at hd hj hi2 e).symm)]
          exact hv j hj hn ((lget_set (hn k' hk')).symm.trans hlj)
        · by_cases e : i2 = k'
          · subst e
            exact ⟨fun _ => by omega, fun _ => hset⟩
          · rw [lget_set (fun e2 => e (hinj _ _ (by omega) hk' e2.symm)), hch i2 hi2']
            omega
        · rw [if_neg (by omega), show k' + 1 - 1 = k' by omega, show upv f (D (c k')) v' (D (c k')) = v' from if_pos rfl]
          exact hX'
      · have hnc : ∀ k', k' ≤ m → c k' ≠ i := fun k' h e => hck ⟨k', h, e⟩
        refine wpOp_mono (fun a' w'' h => ?_) (quiet i hi2 hnc k _ f w' hkm hXk hoth (fun j hj hn => hv j (by have := (hdp j hj).1; omega) hn (hdp j hj).2))
        obtain ⟨rfl, rfl⟩ := h
        refine ⟨by rw [Array.size_setIfInBounds]; exact hsz, hclo2, fun _ => ⟨k, _, hkm, rfl, fun t ht => ?_, fun j hj hn hlj => ?_, fun i2 hi2' => ?_, ?_⟩, fun h2 => (hls2 h2).elim⟩
        · rw [show upv f (D i) (vals i) t = f t from if_neg (fun e => ht i hi2 e.symm)]
          exact hoth t ht
        · by_cases e : i = j
          · subst e
            exact if_pos rfl
          · rw [show upv f (D i) (vals i) (D j) = f (D j) from if_neg (fun e2 => e (difB_at hd hj hi2 e2).symm)]
            exact hv j hj hn ((lget_set e).symm.trans hlj)
        · rw [lget_set (fun e => hnc i2 (by omega) e.symm)]
          exact hch i2 hi2'
        · by_cases h0 : k = 0
          · rw [if_pos h0] at hXk ⊢
            exact hXk
          · rw [if_neg h0] at hXk ⊢
            rw [show upv f (D i) (vals i) (D (c (k - 1))) = f (D (c (k - 1))) from if_neg (fun e2 => hnc (k - 1) (by omega) (difB_at hd (hlt _ (by omega)) hi2 e2))]
            exact hXk
  · obtain ⟨hsz, hclo, hoff, hon⟩ := hJ
    have hall : ∀ i, i < s + 1 → listed.getD i true = true := by
      intro i
      induction i using Nat.strongRecOn with
      | ind i ih =>
        intro hi
        cases hl : listed.getD i true with
        | true => rfl
        | false =>
          exfalso
          obtain ⟨o, ho, hall⟩ := ordB_at hq hi
          have hm : i ∈ Region.ready .any ops listed := mem_ready.2 ⟨hl, o, ho, fun e he _ => by
            have hlt := hall e he
            rw [lget_flip (d := true) (by omega)]
            exact ih e.on hlt (by omega)⟩
          rw [hr] at hm
          cases hm
    exact (hon (by rw [lget_flip (d := true) (by omega)]; exact hall s (by omega))).2
  · have hno : ∀ k, (Array.replicate ops.size false).getD k false = false := fun k => by
      rw [Array.getD_eq_getD_getElem?, Array.getElem?_replicate]
      split <;> rfl
    refine ⟨by rw [Array.size_replicate, hs], fun i j _ h _ => ?_, fun _ => ⟨0, f0, Nat.zero_le _, rfl, fun _ _ => rfl, fun j hj _ h => ?_, fun i hi => ⟨fun h => ?_, fun h => by omega⟩, ?_⟩, fun h => ?_⟩
    · rw [hno] at h; cases h
    · rw [hno] at h; cases h
    · rw [hno] at h; cases h
    · rw [if_pos rfl]
      exact hX
    · rw [hno] at h; cases h
  · exact Nat.le_trans (countN _) (by rw [Array.size_replicate]; exact Nat.le_refl _)
end Go.Proofs.YtkbfjkbokifgkaaDoor
