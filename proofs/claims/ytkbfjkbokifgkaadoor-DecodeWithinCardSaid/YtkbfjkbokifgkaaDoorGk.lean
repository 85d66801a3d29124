/- A region that draws its order: its operations only make memory, but for the last one, which comes behind all the others. -/
import Derived.Test.YtkbfjkbokifgkaaDoorDv
import Derived.KernelRfl
import Derived.OwnWalk
import Derived.Laws.AppendOwn
namespace Go.Proofs.YtkbfjkbokifgkaaDoor
open Go.RowKit
set_option linter.unusedVariables false

/-- What a slot holds, kept where memory is only made. -/
structure Pw where
  p : Value → World → Prop
  keep : ∀ v w w', Below w.heap.size w w' → p v w → p v w'
def pwEq (u : Value) : Pw := ⟨fun v _ => v = u, fun _ _ _ _ h => h⟩
/-- Is each operation's slot the one that is said? -/
def dstB (D : Nat → Nat) (ops : Array Oper) (s : Nat) : Bool := (List.range s).all fun i => match ops[i]? with | some o => o.dst == some (D i) | none => false
/-- Does each come behind earlier ones alone? -/
def ordB (ops : Array Oper) (s : Nat) : Bool := (List.range s).all fun i => match ops[i]? with | some o => o.after.all (fun e => decide (e.on < i)) | none => false
theorem ordB_at {ops : Array Oper} {s i : Nat} (h : ordB ops s = true) (hi : i < s) : ∃ o, ops[i]? = some o ∧ ∀ e ∈ o.after, e.on < i := by
  unfold ordB at h
  rw [List.all_eq_true] at h
  have := h i (List.mem_range.2 hi)
  cases ho : ops[i]? with
  | none => rw [ho] at this; simp at this
  | some o =>
    rw [ho] at this
    simp only [Array.all_eq_true_iff_forall_mem, decide_eq_true_eq] at this
    exact ⟨o, rfl, this⟩
def difB (D : Nat → Nat) (s : Nat) : Bool := (List.range s).all fun i => (List.range s).all fun j => i == j || D i != D j
theorem difB_at {D : Nat → Nat} {s i j : Nat} (h : difB D s = true) (hi : i < s) (hj : j < s) (e : D i = D j) : i = j := by
  unfold difB at h
  rw [List.all_eq_true] at h
  have := h i (List.mem_range.2 hi)
  rw [List.all_eq_true] at this
  have := this j (List.mem_range.2 hj)
  rw [Bool.or_eq_true] at this
  rcases this with h | h
  · simpa using h
  · simp [e] at h
/-- Does something come behind each but the last? -/
def lastB (ops : Array Oper) (s : Nat) : Bool := (List.range s).all fun j => (List.range (s + 1)).any fun i => decide (j < i) && depB ops i j
theorem last_all {ops : Array Oper} {s : Nat} (h : lastB ops s = true) {L : Nat → Prop} (hs : ∀ j, depB ops s j = true → L j) (hc : ∀ i j, i < s → L i → depB ops i j = true → L j) : ∀ d j, j < s → s - j ≤ d → L j := by
  intro d
  induction d with
  | zero => intro j hj hd; omega
  | succ d ih =>
    intro j hj hd
    unfold lastB at h
    rw [List.all_eq_true] at h
    have := h j (List.mem_range.2 hj)
    rw [List.any_eq_true] at this
    obtain ⟨i, hi, hb⟩ := this
    have hi2 := List.mem_range.1 hi
    rw [Bool.and_eq_true, decide_eq_true_eq] at hb
    by_cases e : i = s
    · subst e; exact hs j hb.2
    · exact hc i j (by omega) (ih i (by omega) (by omega)) hb.2
structure VL (n s : Nat) (D : Nat → Nat) (w1 : World) (R : Nat → Pw) (f0 : Nat → Value) (listed : Array Bool) (a : Act) (w : World) : Prop where
  act : ∃ f, a = Fv n f ∧ (∀ t, (∀ j, j < s → D j ≠ t) → f t = f0 t) ∧ ∀ j, j < s → listed.getD j false = true → (R j).p (f (D j)) w
  below : Below w1.heap.size w1 w
structure JL (Q : Exit → Act → World → Prop) (ops : Array Oper) (n s : Nat) (D : Nat → Nat) (w1 : World) (R : Nat → Pw) (f0 : Nat → Value) (listed : Array Bool) (a : Act) (w : World) : Prop where
  size : listed.size = s + 1
  clo : ∀ i j, i < s → listed.getD i false = true → depB ops i j = true → listed.getD j false = true
  off : listed.getD s false = false → VL n s D w1 R f0 listed a w
  on : listed.getD s false = true → (∀ j, j < s → listed.getD j false = true) ∧ Q .normal a w
def StepL (P : Program) (ops : Array Oper) (Q : Exit → Act → World → Prop) (n : Nat) (D : Nat → Nat) (R : Nat → Pw) (i : Nat) (f : Nat → Value) (w : World) : Prop :=
  wpOp P ops Q i (fun a' w' => ∃ v, a' = Fv n (upv f (D i) v) ∧ (R i).p v w' ∧ Below w.heap.size w w') (Fv n f) w
theorem region_last {P : Program} {Q : Exit → Act → World → Prop} {id : Nat} {ops : Array Oper} {f0 : Nat → Value} {w : World} (hmix : P.follows .mixedOrders = true) (n s : Nat) (D : Nat → Nat) (hs : ops.size = s + 1) (hdst : dstB D ops s = true) (hq : ordB ops (s + 1) = true) (hd : difB D s = true) (hl : lastB ops s = true) (R : Nat → Pw)
    (step : ∀ i, i < s → ∀ f w', Below w.heap.size w w' → (∀ t, (∀ j, j < s → D j ≠ t) → f t = f0 t) → (∀ j, depB ops i j = true → (R j).p (f (D j)) w') → StepL P ops Q n D R i f w')
    (last : ∀ f w', Below w.heap.size w w' → (∀ t, (∀ j, j < s → D j ≠ t) → f t = f0 t) → (∀ j, j < s → (R j).p (f (D j)) w') → wpOp P ops Q s (fun a' w'' => Q .normal a' w'') (Fv n f) w') : (Code.region id ops true).wp P Q (Fv n f0) w := by
  refine wp_region_any hmix ?_
  refine any_inv (JL Q ops n s D w R f0) (fun listed a w' hJ i o ho hl2 hall => ?_) (fun listed a w' hJ hr => ?_) ops.size _ _ _ ?_ ?_
  · obtain ⟨hsz, hclo, hoff, hon⟩ := hJ
    have hi : i < s + 1 := by
      rw [← hs]
      exact (Array.getElem?_eq_some_iff.1 ho).1
    have hl3 : listed.getD i false = false := by rw [lget_flip (d := true) (by omega)]; exact hl2
    have hdep : ∀ j, depB ops i j = true → j < i ∧ listed.getD j false = true := fun j hj => by
      unfold depB at hj
      rw [ho] at hj
      simp only [Array.any_eq_true, Bool.and_eq_true, beq_iff_eq] at hj
      obtain ⟨k, hk, rfl, hbd⟩ := hj
      obtain ⟨o', ho', hlt⟩ := ordB_at hq hi
      obtain rfl : o = o' := Option.some.inj (ho.symm.trans ho')
      have hm := Array.getElem_mem hk
      exact ⟨hlt _ hm, hall _ hm hbd⟩
    have hls : listed.getD s false = false := by
      cases h : listed.getD s false with
      | false => rfl
      | true =>
        by_cases e : i = s
        · rw [e, h] at hl3; exact hl3
        · have := (hon h).1 i (by omega)
          rw [hl3] at this
          exact this.symm
    obtain ⟨⟨f, rfl, hoth, hv⟩, hb⟩ := hoff hls
    have hclo2 : ∀ i2 j, i2 < s → (listed.setIfInBounds i true).getD i2 false = true → depB ops i2 j = true → (listed.setIfInBounds i true).getD j false = true := fun i2 j h1 h2 h3 => by
      have hj : listed.getD j false = true := by
        by_cases e : i = i2
        · subst e; exact (hdep j h3).2
        · exact hclo i2 j h1 ((lget_set e).symm.trans h2) h3
      by_cases e : i = j
      · subst e; rw [hl3] at hj; cases hj
      · exact (lget_set e).trans hj
    by_cases his : i = s
    · subst his
      have hallj : ∀ j, j < i → listed.getD j false = true := fun j hj => last_all (L := fun j => listed.getD j false = true) hl (fun j hj => (hdep j hj).2) (fun i2 j h1 h2 h3 => hclo i2 j h1 h2 h3) i j hj (by omega)
      refine wpOp_mono (fun a' w'' h => ?_) (last f w' hb hoth (fun j hj => hv j hj (hallj j hj)))
      refine ⟨by rw [Array.size_setIfInBounds]; exact hsz, hclo2, fun h2 => ?_, fun _ => ⟨fun j hj => (lget_set (by omega)).trans (hallj j hj), h⟩⟩
      exfalso
      have : (listed.setIfInBounds i true).getD i false = true := by
        rw [Array.getD_eq_getD_getElem?, Array.getElem?_setIfInBounds_self_of_lt (by omega)]
        rfl
      rw [this] at h2
      cases h2
    · have hi2 : i < s := by omega
      refine wpOp_mono (fun a' w'' h => ?_) (step i hi2 f w' hb hoth (fun j hj => hv j (by have := (hdep j hj).1; omega) (hdep j hj).2))
      obtain ⟨v, rfl, hr, hb2⟩ := h
      refine ⟨by rw [Array.size_setIfInBounds]; exact hsz, hclo2, fun _ => ⟨⟨_, rfl, fun t ht => ?_, fun j hj hlj => ?_⟩, hb.trans (hb2.mono hb.size)⟩, fun h2 => ?_⟩
      · rw [show upv f (D i) v t = f t from if_neg (fun e => ht i hi2 e.symm)]
        exact hoth t ht
      · by_cases hij : i = j
        · subst hij
          rw [show upv f (D i) v (D i) = v from if_pos rfl]
          exact hr
        · rw [show upv f (D i) v (D j) = f (D j) from if_neg (fun e => hij (difB_at hd hj hi2 e).symm)]
          exact (R j).keep _ _ _ hb2 (hv j hj ((lget_set hij).symm.trans hlj))
      · rw [lget_set his, hls] at h2
        cases h2
  · obtain ⟨hsz, hclo, hoff, hon⟩ := hJ
    have hall : ∀ i, i < s + 1 → listed.getD i true = true := by
      intro i
      induction i using Nat.strongRecOn with
      | ind i ih =>
        intro hi
        cases hl : listed.getD i true with
        | true => rfl
        | false =>
          exfalso
          obtain ⟨o, ho, hall⟩ := ordB_at hq hi
          have hm : i ∈ Region.ready .any ops listed := mem_ready.2 ⟨hl, o, ho, fun e he _ => by
            have hlt := hall e he
            rw [lget_flip (d := true) (by omega)]
            exact ih e.on hlt (by omega)⟩
          rw [hr] at hm
          cases hm
    exact (hon (by rw [lget_flip (d := true) (by omega)]; exact hall s (by omega))).2
  · have hno : ∀ k, (Array.replicate ops.size false).getD k false = false := fun k => by
      rw [Array.getD_eq_getD_getElem?, Array.getElem?_replicate]
      split <;> rfl
    refine ⟨by rw [Array.size_replicate, hs], fun i j _ h _ => ?_, fun _ => ⟨⟨f0, rfl, fun _ _ => rfl, fun j hj h => ?_⟩, (Below.refl _ _).drew⟩, fun h => ?_⟩
    · rw [hno] at h; cases h
    · rw [hno] at h; cases h
    · rw [hno] at h; cases h
  · exact Nat.le_trans (countN _) (by rw [Array.size_replicate]; exact Nat.le_refl _)
end Go.Proofs.YtkbfjkbokifgkaaDoor

namespace Go.Proofs.YtkbfjkbokifgkaaDoor
open Go.RowKit
set_option linter.unusedVariables false
set_option linter.unusedSimpArgs false

def ovk (f0 f : Nat → Value) (ds : List Nat) : Nat → Value := fun t => if ds.contains t then f t else f0 t
theorem ovk_eq {f0 f : Nat → Value} {ds : List Nat} (h : ∀ t, t ∉ ds → f t = f0 t) : f = ovk f0 f ds := by
  funext t
  unfold ovk
  by_cases ht : t ∈ ds
  · rw [if_pos (by simpa using ht)]
  · rw [if_neg (by simpa using ht)]
    exact h t ht
theorem wpk_then {P : Program} {Q : Exit → Act → World → Prop} {c : Code} {a : Act} {w : World} (h : ∀ K : Act → World → Prop, (∀ a w, K a w ↔ Q .normal a w) → c.wp P (Exit.then K Q) a w) : c.wp P Q a w := by
  refine wp_mono (h (Q .normal) fun _ _ => Iff.rfl) ?_
  intro e a' w' hq
  cases e <;> exact hq
structure JC (Q : Exit → Act → World → Prop) (P0 CLO : Value) (W : World) (f0 : Nat → Value) (K3 : Value → World → Prop) (listed : Array Bool) (a : Act) (w : World) : Prop where
  size : listed.size = 5
  on : listed.getD 4 false = true → (∀ j, j < 5 → listed.getD j false = true) ∧ Q .normal a w
  off : listed.getD 4 false = false → ∃ f, a = Fv 36 f ∧ (∀ t, t ∉ [23, 24, 25, 26, 27] → f t = f0 t) ∧ (listed.getD 0 false = true → f 23 = P0) ∧ (listed.getD 1 false = true → f 24 = P0) ∧ (listed.getD 2 false = true → f 25 = CLO) ∧
    (listed.getD 3 false = false → Below W.heap.size W w) ∧ (listed.getD 3 false = true → listed.getD 1 false = true ∧ listed.getD 2 false = true ∧ K3 (f 26) w)
end Go.Proofs.YtkbfjkbokifgkaaDoor

namespace Go.Proofs.YtkbfjkbokifgkaaDoor
open Go.RowKit
set_option linter.unusedVariables false

/-- Nothing but the row of a value was written, if anything. -/
structure Sx (V : Value) (w w' : World) : Prop where
  os : w'.os = w.os
  tape : w'.tape = w.tape
  output : w'.output = w.output
  size : w.heap.size ≤ w'.heap.size
  block : ∀ k, k < w.heap.size → V.ownBlock ≠ some k → w'.heap[k]? = w.heap[k]?
theorem Sx.refl (V : Value) (w : World) : Sx V w w := ⟨rfl, rfl, rfl, Nat.le_refl _, fun _ _ _ => rfl⟩
theorem Sx.trans {V : Value} {a b c : World} (h : Sx V a b) (k : Sx V b c) : Sx V a c :=
  ⟨k.os.trans h.os, k.tape.trans h.tape, k.output.trans h.output, Nat.le_trans h.size k.size, fun i hi hv => (k.block i (Nat.lt_of_lt_of_le hi h.size) hv).trans (h.block i hi hv)⟩
theorem Sx.of_below {V : Value} {w w' : World} (h : Below w.heap.size w w') : Sx V w w' := ⟨h.os, h.tape, h.output, h.size, fun k hk _ => h.block k hk⟩
theorem Sx.grown {V : Value} {w w' : World} (h : w.grownBy w' V.ownBlock) : Sx V w w' := ⟨h.os, h.tape, h.output, h.size, fun k hk hv => h.block k hk (fun e => hv e.symm)⟩
theorem Sx.below {V : Value} {w w' : World} {N : Nat} (h : Sx V w w') (hv : ∀ g, V.ownBlock = some g → N ≤ g) (hN : N ≤ w.heap.size) : Below N w w' :=
  ⟨h.os, h.tape, h.output, h.size, fun k hk => h.block k (by omega) (fun e => by have := hv k e; omega)⟩
/-- What a slot holds: kept where memory is only made (and, but for the one that writes, where it writes). -/
structure Px (V : Value) where
  p : Value → World → Prop
  keep : ∀ v w w', Below w.heap.size w w' → p v w → p v w'
  keepS : ∀ v w w', Sx V w w' → p v w → p v w'
structure V3 (V : Value) (n s m : Nat) (D : Nat → Nat) (w1 : World) (R : Nat → Value → World → Prop) (f0 : Nat → Value) (listed : Array Bool) (a : Act) (w : World) : Prop where
  act : ∃ f, a = Fv n f ∧ (∀ t, (∀ j, j < s → D j ≠ t) → f t = f0 t) ∧ ∀ j, j < s → listed.getD j false = true → R j (f (D j)) w
  sx : Sx V w1 w
  below : listed.getD m false = false → Below w1.heap.size w1 w
structure J3 (P : Program) (Q : Exit → Act → World → Prop) (ops : Array Oper) (V : Value) (n s m : Nat) (D : Nat → Nat) (w1 : World) (R : Nat → Value → World → Prop) (f0 : Nat → Value) (listed : Array Bool) (a : Act) (w : World) : Prop where
  size : listed.size = s + 3
  clo : ∀ i j, i < s → listed.getD i false = true → depB ops i j = true → listed.getD j false = true
  off : listed.getD s false = false → V3 V n s m D w1 R f0 listed a w ∧ listed.getD (s + 1) false = false ∧ listed.getD (s + 2) false = false
  on : listed.getD s false = true → (∀ j, j < s → listed.getD j false = true) ∧
    (listed.getD (s + 1) false = false → listed.getD (s + 2) false = false ∧ wpOp P ops Q (s + 1) (fun a' w' => wpOp P ops Q (s + 2) (fun a'' w'' => Q .normal a'' w'') a' w') a w) ∧
    (listed.getD (s + 1) false = true → listed.getD (s + 2) false = false → wpOp P ops Q (s + 2) (fun a'' w'' => Q .normal a'' w'') a w) ∧
    (listed.getD (s + 1) false = true → listed.getD (s + 2) false = true → Q .normal a w)
theorem region_tail3 {P : Program} {Q : Exit → Act → World → Prop} {id : Nat} {ops : Array Oper} {f0 : Nat → Value} {w : World} (V : Value) (hmix : P.follows .mixedOrders = true) (n s m : Nat) (D : Nat → Nat) (hm : m < s) (hs : ops.size = s + 3) (hq : ordB ops (s + 3) = true) (hd : difB D s = true) (hl : lastB ops s = true) (hl1 : depB ops (s + 1) s = true) (hl2 : depB ops (s + 2) (s + 1) = true)
    (R : Nat → Value → World → Prop) (keep : ∀ j v w w', Below w.heap.size w w' → R j v w → R j v w') (keepS : ∀ j v w w', j ≠ m → Sx V w w' → R j v w → R j v w')
    (step : ∀ i, i < s → i ≠ m → ∀ f w', Sx V w w' → (∀ t, (∀ j, j < s → D j ≠ t) → f t = f0 t) → (∀ j, depB ops i j = true → R j (f (D j)) w') → wpOp P ops Q i (fun a' w'' => ∃ v, a' = Fv n (upv f (D i) v) ∧ R i v w'' ∧ Below w'.heap.size w' w'') (Fv n f) w')
    (stepm : ∀ f w', Below w.heap.size w w' → (∀ t, (∀ j, j < s → D j ≠ t) → f t = f0 t) → (∀ j, depB ops m j = true → R j (f (D j)) w') → wpOp P ops Q m (fun a' w'' => ∃ v, a' = Fv n (upv f (D m) v) ∧ R m v w'' ∧ Sx V w' w'') (Fv n f) w')
    (last : ∀ f w', Sx V w w' → (∀ t, (∀ j, j < s → D j ≠ t) → f t = f0 t) → (∀ j, j < s → R j (f (D j)) w') → wpOp P ops Q s (fun a1 w1 => wpOp P ops Q (s + 1) (fun a2 w2 => wpOp P ops Q (s + 2) (fun a3 w3 => Q .normal a3 w3) a2 w2) a1 w1) (Fv n f) w') : (Code.region id ops true).wp P Q (Fv n f0) w := by
  refine wp_region_any hmix ?_
  refine any_inv (J3 P Q ops V n s m D w R f0) (fun listed a w' hJ i o ho hl9 hall => ?_) (fun listed a w' hJ hr => ?_) ops.size _ _ _ ?_ ?_
  · obtain ⟨hsz, hclo, hoff, hon⟩ := hJ
    have hi : i < s + 3 := by
      rw [← hs]
      exact (Array.getElem?_eq_some_iff.1 ho).1
    have hl3 : listed.getD i false = false := by rw [lget_flip (d := true) (by omega)]; exact hl9
    have hdep : ∀ j, depB ops i j = true → j < i ∧ listed.getD j false = true := fun j hj => by
      unfold depB at hj
      rw [ho] at hj
      simp only [Array.any_eq_true, Bool.and_eq_true, beq_iff_eq] at hj
      obtain ⟨k, hk, rfl, hbd⟩ := hj
      obtain ⟨o', ho', hlt⟩ := ordB_at hq hi
      obtain rfl : o = o' := Option.some.inj (ho.symm.trans ho')
      have hm := Array.getElem_mem hk
      exact ⟨hlt _ hm, hall _ hm hbd⟩
    have self : (listed.setIfInBounds i true).getD i false = true := by
      rw [Array.getD_eq_getD_getElem?, Array.getElem?_setIfInBounds_self_of_lt (by omega)]
      rfl
    have up : ∀ j, listed.getD j false = true → (listed.setIfInBounds i true).getD j false = true := fun j hj => by
      by_cases e : i = j
      · subst e; exact self
      · exact (lget_set e).trans hj
    have hclo2 : ∀ i2 j, i2 < s → (listed.setIfInBounds i true).getD i2 false = true → depB ops i2 j = true → (listed.setIfInBounds i true).getD j false = true := fun i2 j h1 h2 h3 => by
      refine up j ?_
      by_cases e : i = i2
      · subst e; exact (hdep j h3).2
      · exact hclo i2 j h1 ((lget_set e).symm.trans h2) h3
    have hsz2 : (listed.setIfInBounds i true).size = s + 3 := by rw [Array.size_setIfInBounds]; exact hsz
    by_cases hi0 : i < s
    · have hls : listed.getD s false = false := by
        cases h : listed.getD s false with
        | false => rfl
        | true =>
          have := (hon h).1 i hi0
          rw [hl3] at this
          cases this
      obtain ⟨⟨⟨f, rfl, hoth, hv⟩, hsx, hbw⟩, o1, o2⟩ := hoff hls
      have fin : ∀ v w'', R i v w'' → (∀ j, j < s → i ≠ j → listed.getD j false = true → R j (f (D j)) w'') → Sx V w w'' → ((listed.setIfInBounds i true).getD m false = false → Below w.heap.size w w'') → J3 P Q ops V n s m D w R f0 (listed.setIfInBounds i true) (Fv n (upv f (D i) v)) w'' := fun v w'' hr hk hS hB => by
        refine ⟨hsz2, hclo2, fun _ => ⟨⟨⟨_, rfl, fun t ht => ?_, fun j hj hlj => ?_⟩, hS, hB⟩, (lget_set (by omega)).trans o1, (lget_set (by omega)).trans o2⟩, fun h => ?_⟩
        · rw [show upv f (D i) v t = f t from if_neg (fun e => ht i hi0 e.symm)]
          exact hoth t ht
        · by_cases hij : i = j
          · subst hij
            rw [show upv f (D i) v (D i) = v from if_pos rfl]
            exact hr
          · rw [show upv f (D i) v (D j) = f (D j) from if_neg (fun e => hij (difB_at hd hj hi0 e).symm)]
            exact hk j hj hij ((lget_set hij).symm.trans hlj)
        · rw [lget_set (by omega), hls] at h
          cases h
      by_cases him : i = m
      · subst him
        refine wpOp_mono (fun a' w'' h => ?_) (stepm f w' (hbw hl3) hoth (fun j hj => hv j (by have := (hdep j hj).1; omega) (hdep j hj).2))
        obtain ⟨v, rfl, hr, hS⟩ := h
        exact fin v w'' hr (fun j hj hij hlj => keepS j _ _ _ (fun e => hij e.symm) hS (hv j hj hlj)) (hsx.trans hS) (fun h => by rw [self] at h; cases h)
      · refine wpOp_mono (fun a' w'' h => ?_) (step i hi0 him f w' hsx hoth (fun j hj => hv j (by have := (hdep j hj).1; omega) (hdep j hj).2))
        obtain ⟨v, rfl, hr, hB⟩ := h
        exact fin v w'' hr (fun j hj hij hlj => keep j _ _ _ hB (hv j hj hlj)) (hsx.trans (Sx.of_below hB)) (fun h => by
          have := hbw ((lget_set him).symm.trans h)
          exact this.trans (hB.mono this.size))
    · by_cases hi1 : i = s
      · subst hi1
        obtain ⟨⟨⟨f, rfl, hoth, hv⟩, hsx, hbw⟩, o1, o2⟩ := hoff hl3
        have hallj : ∀ j, j < i → listed.getD j false = true := fun j hj => last_all (L := fun j => listed.getD j false = true) hl (fun j hj => (hdep j hj).2) (fun i2 j h1 h2 h3 => hclo i2 j h1 h2 h3) i j hj (by omega)
        refine wpOp_mono (fun a' w'' h => ?_) (last f w' hsx hoth (fun j hj => hv j hj (hallj j hj)))
        refine ⟨hsz2, hclo2, fun h2 => (by rw [self] at h2; cases h2), fun _ => ⟨fun j hj => up j (hallj j hj), fun _ => ⟨(lget_set (by omega)).trans o2, h⟩, fun h2 => ?_, fun h2 => ?_⟩⟩
        · rw [lget_set (by omega), o1] at h2; cases h2
        · rw [lget_set (by omega), o1] at h2; cases h2
      · have hls : listed.getD s false = true := by
          cases h : listed.getD s false with
          | true => rfl
          | false =>
            by_cases e : i = s + 1
            · subst e
              have := (hdep s hl1).2
              rw [h] at this; cases this
            · have e2 : i = s + 2 := by omega
              subst e2
              have := (hdep (s + 1) hl2).2
              rw [(hoff h).2.1] at this; cases this
        obtain ⟨ha, hb1, hb2, hb3⟩ := hon hls
        by_cases e : i = s + 1
        · subst e
          obtain ⟨o2, hw⟩ := hb1 hl3
          refine wpOp_mono (fun a' w'' h => ?_) hw
          refine ⟨hsz2, hclo2, fun h2 => (by rw [up s hls] at h2; cases h2), fun _ => ⟨fun j hj => up j (ha j hj), fun h2 => ?_, fun _ _ => h, fun _ h2 => ?_⟩⟩
          · rw [self] at h2; cases h2
          · rw [lget_set (by omega), o2] at h2; cases h2
        · have e2 : i = s + 2 := by omega
          subst e2
          have h1 := (hdep (s + 1) hl2).2
          refine wpOp_mono (fun a' w'' h => ?_) (hb2 h1 hl3)
          refine ⟨hsz2, hclo2, fun h2 => (by rw [up s hls] at h2; cases h2), fun _ => ⟨fun j hj => up j (ha j hj), fun h2 => ?_, fun _ h2 => ?_, fun _ _ => h⟩⟩
          · rw [up _ h1] at h2; cases h2
          · rw [self] at h2; cases h2
  · obtain ⟨hsz, hclo, hoff, hon⟩ := hJ
    have hall : ∀ i, i < s + 3 → listed.getD i true = true := by
      intro i
      induction i using Nat.strongRecOn with
      | ind i ih =>
        intro hi
        cases hl : listed.getD i true with
        | true => rfl
        | false =>
          exfalso
          obtain ⟨o, ho, hall⟩ := ordB_at hq hi
          have hm : i ∈ Region.ready .any ops listed := mem_ready.2 ⟨hl, o, ho, fun e he _ => by
            have hlt := hall e he
            rw [lget_flip (d := true) (by omega)]
            exact ih e.on hlt (by omega)⟩
          rw [hr] at hm
          cases hm
    have hall2 : ∀ i, i < s + 3 → listed.getD i false = true := fun i hi => by rw [lget_flip (d := true) (by omega)]; exact hall i hi
    exact (hon (hall2 s (by omega))).2.2.2 (hall2 _ (by omega)) (hall2 _ (by omega))
  · have hno : ∀ k, (Array.replicate ops.size false).getD k false = false := fun k => by
      rw [Array.getD_eq_getD_getElem?, Array.getElem?_replicate]
      split <;> rfl
    refine ⟨by rw [Array.size_replicate, hs], fun i j _ h _ => ?_, fun _ => ⟨⟨⟨f0, rfl, fun _ _ => rfl, fun j hj h => ?_⟩, Sx.of_below (Below.refl _ _).drew, fun _ => (Below.refl _ _).drew⟩, hno _, hno _⟩, fun h => ?_⟩
    · rw [hno] at h; cases h
    · rw [hno] at h; cases h
    · rw [hno] at h; cases h
  · exact Nat.le_trans (countN _) (by rw [Array.size_replicate]; exact Nat.le_refl _)
end Go.Proofs.YtkbfjkbokifgkaaDoor
