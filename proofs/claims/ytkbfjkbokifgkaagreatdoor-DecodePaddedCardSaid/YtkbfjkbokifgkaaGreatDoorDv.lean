/- A region that draws its order and whose operations each tell one value, whatever the order; what they call only makes memory. -/
import Derived.Test.YtkbfjkbokifgkaaGreatDoorRows
import Derived.WalkKit
import Derived.Below
import Derived.Orders
import Derived.RegionTactic
import Derived.Lib.Hide
import Derived.KernelRfl
import Derived.OwnWalk
import Derived.Laws.AppendOwn
namespace Go.Proofs.YtkbfjkbokifgkaaGreatDoor
open Go.RowKit
set_option linter.unusedVariables false
set_option linter.unusedSimpArgs false
def Fv (n : Nat) (f : Nat → Value) : Act := { tmps := ((List.range n).map f).toArray, defers := [] }
def upv (f : Nat → Value) (s : Nat) (v : Value) : Nat → Value := fun t => if t = s then v else f t
theorem fv_get {n : Nat} {f : Nat → Value} {t : Nat} {v : Value} (h : t < n) (hv : f t = v) : (Fv n f).tmps[t]?.getD undef = v := by simp [Fv, h, hv]
theorem fv_at {n : Nat} {f : Nat → Value} {t : Nat} (h : t < n) : (Fv n f).tmps[t]? = some (f t) := by simp [Fv, h]
theorem fv_set {n : Nat} {f : Nat → Value} (d : Nat) (v : Value) : ({ tmps := (Fv n f).tmps.setIfInBounds d v, defers := (Fv n f).defers } : Act) = Fv n (upv f d v) := by
 have : (Fv n f).tmps.setIfInBounds d v = (Fv n (upv f d v)).tmps := by
  apply Array.ext
  · simp [Fv]
  · intro i h1 h2; have hi : i < n := (by simpa [Fv] using h2)
    rw [Array.getElem_setIfInBounds (by simpa [Fv] using hi)]; simp only [Fv, List.getElem_toArray, List.getElem_map, List.getElem_range, upv]
    by_cases h : d = i
    · rw [if_pos h, if_pos h.symm]
    · rw [if_neg h, if_neg (fun e => h e.symm)]
 rw [this]; rfl
theorem fv_put {n : Nat} {f : Nat → Value} (d : Nat) (v : Value) : (Fv n f).put (some d) v = Fv n (upv f d v) := fv_set d v
theorem fv_of (l : List Value) : ({ tmps := l.toArray, defers := [] } : Act) = Fv l.length (fun k => l[k]?.getD undef) := by
 have : l.toArray = (Fv l.length (fun k => l[k]?.getD undef)).tmps := by
  apply Array.ext
  · simp [Fv]
  · intro i h1 h2; have hi : i < l.length := (by simpa using h1)
    simp [Fv, hi]
 rw [this]; rfl
def ovv (f0 f : Nat → Value) (lo s : Nat) : Nat → Value := fun t => if lo ≤ t ∧ t < lo + s then f t else f0 t
theorem wp_fv {P : Program} {Q : Exit → Act → World → Prop} {c : Code} {w : World} (l : List Value) (n : Nat) (hn : l.length = n) (h : c.wp P Q (Fv n fun k => l[k]?.getD undef) w) : c.wp P Q { tmps := l.toArray, defers := [] } w := by subst hn; rw [fv_of]; exact h
def depB (ops : Array Oper) (i j : Nat) : Bool := match ops[i]? with
 | some o => o.after.any fun e => e.on == j && Region.binds .any e
 | none => false
def seqB (lo : Nat) (ops : Array Oper) : Nat → Bool
 | 0 => true
 | i + 1 => (match ops[i]? with | some o => o.dst == some (lo + i) && o.after.all (fun e => decide (e.on < i)) | none => false) && seqB lo ops i
theorem seq_at {lo : Nat} {ops : Array Oper} : ∀ {n i : Nat}, seqB lo ops n = true → i < n → ∃ o, ops[i]? = some o ∧ o.dst = some (lo + i) ∧ ∀ e ∈ o.after, e.on < i
 | 0, i, _, h => absurd h (by omega)
 | n + 1, i, h, hi => by
   unfold seqB at h; rw [Bool.and_eq_true] at h
   by_cases hin : i = n
   · subst hin; cases ho : ops[i]? with
     | none => rw [ho] at h; simp at h
     | some o => rw [ho] at h; simp only [Bool.and_eq_true, beq_iff_eq, Array.all_eq_true_iff_forall_mem, decide_eq_true_eq] at h; exact ⟨o, rfl, h.1.1, h.1.2⟩
   · exact seq_at h.2 (by omega)
structure VJ (n lo s : Nat) (w1 : World) (vals f0 : Nat → Value) (listed : Array Bool) (a : Act) (w : World) : Prop where
 size : listed.size = s
 act : ∃ f, a = Fv n f ∧ (∀ t, ¬ (lo ≤ t ∧ t < lo + s) → f t = f0 t) ∧ ∀ j, j < s → listed.getD j false = true → f (lo + j) = vals (lo + j)
 below : Below w1.heap.size w1 w
def StepV (P : Program) (ops : Array Oper) (Q : Exit → Act → World → Prop) (n lo : Nat) (vals : Nat → Value) (i : Nat) (f : Nat → Value) (w : World) : Prop :=
 wpOp P ops Q i (fun a' w' => a' = Fv n (upv f (lo + i) (vals (lo + i))) ∧ Below w.heap.size w w') (Fv n f) w
theorem countN (listed : Array Bool) : listed.toList.countP (fun b => !b) ≤ listed.size := by have := List.countP_le_length (p := fun b : Bool => !b) (l := listed.toList); simpa using this
theorem count_set {listed : Array Bool} {i : Nat} (h : listed.getD i true = false) : (listed.setIfInBounds i true).toList.countP (fun b => !b) + 1 = listed.toList.countP (fun b => !b) := by
 have hlt : i < listed.size := by
  rcases Nat.lt_or_ge i listed.size with h' | h'
  · exact h'
  · simp [Array.getElem?_eq_none h'] at h
 have hf : listed[i] = false := (by simpa [hlt] using h)
 rw [Array.toList_setIfInBounds]; have hl : i < listed.toList.length := (by simpa using hlt)
 have hg : listed.toList[i] = false := (by simpa using hf)
 generalize listed.toList = l at hl hg; clear hlt hf h
 induction l generalizing i with
 | nil => simp at hl
 | cons b r ih =>
   cases i with
   | zero => simp at hg; subst hg; simp
   | succ i => simp only [List.set_cons_succ, List.countP_cons]; have := ih (i := i) (by simpa using hl) (by simpa using hg); omega
theorem any_inv {P : Program} {md : Region.Mode} {ops : Array Oper} {Q : Exit → Act → World → Prop} (J : Array Bool → Act → World → Prop)
 (step : ∀ listed a w, J listed a w → ∀ i o, ops[i]? = some o → listed.getD i true = false → (∀ e ∈ o.after, Region.binds md e = true → listed.getD e.on false = true) →
  wpOp P ops Q i (fun a' w' => J (listed.setIfInBounds i true) a' w') a w)
 (fin : ∀ listed a w, J listed a w → Region.ready md ops listed = [] → Q .normal a w) :
 ∀ (fuel : Nat) (listed : Array Bool) (a : Act) (w : World), J listed a w → listed.toList.countP (fun b => !b) ≤ fuel → wpAny P md ops Q fuel listed a w := by
 intro fuel
 induction fuel with
 | zero =>
   intro listed a w hJ hl
   have hr : Region.ready md ops listed = [] := by
    cases hrs : Region.ready md ops listed with
    | nil => rfl
    | cons i r => have hi := (mem_ready.1 (show i ∈ Region.ready md ops listed by rw [hrs]; exact List.mem_cons_self ..)).1; have := count_set hi; omega
   exact ⟨hr, fin listed a w hJ hr⟩
 | succ fuel ih => intro listed a w hJ hl; refine ⟨fin listed a w hJ, fun i hi => ?_⟩; obtain ⟨h1, o, ho, hall⟩ := mem_ready.1 hi; exact wpOp_mono (fun a' w' h => ih _ a' w' h (by have := count_set h1; omega)) (step listed a w hJ i o ho h1 hall)
theorem lget_set {l : Array Bool} {i j : Nat} (h : i ≠ j) : (l.setIfInBounds i true).getD j false = l.getD j false := by rw [Array.getD_eq_getD_getElem?, Array.getD_eq_getD_getElem?, Array.getElem?_setIfInBounds_ne h]
theorem lget_flip {l : Array Bool} {i : Nat} {c d : Bool} (h : i < l.size) : l.getD i c = l.getD i d := by rw [Array.getD_eq_getD_getElem?, Array.getD_eq_getD_getElem?, Array.getElem?_eq_getElem h]; rfl
theorem listed_all {ops : Array Oper} {listed : Array Bool} {lo s : Nat} (hq : seqB lo ops s = true) (hr : Region.ready .any ops listed = []) (hs : listed.size = s) : ∀ i, i < s → listed.getD i true = true := by
 intro i
 induction i using Nat.strongRecOn with
 | ind i ih =>
   intro hi; cases hl : listed.getD i true with
   | true => rfl
   | false =>
     exfalso; obtain ⟨o, ho, _, hall⟩ := seq_at hq hi
     have hm : i ∈ Region.ready .any ops listed := mem_ready.2 ⟨hl, o, ho, fun e he _ => by
      have hlt := hall e he; rw [lget_flip (d := true) (by omega)]; exact ih e.on hlt (by omega)⟩
     rw [hr] at hm; cases hm
theorem region_vals {P : Program} {Q : Exit → Act → World → Prop} {id : Nat} {ops : Array Oper} {f0 : Nat → Value} {w : World} (hmix : P.follows .mixedOrders = true) (n lo s : Nat) (hs : ops.size = s) (hq : seqB lo ops s = true) (vals : Nat → Value)
 (step : ∀ i, i < s → ∀ f w', Below w.heap.size w w' → (∀ t, ¬ (lo ≤ t ∧ t < lo + s) → f t = f0 t) → (∀ j, depB ops i j = true → f (lo + j) = vals (lo + j)) → StepV P ops Q n lo vals i f w')
 (fin : ∀ w', Below w.heap.size w w' → Q .normal (Fv n (ovv f0 vals lo s)) w') : (Code.region id ops true).wp P Q (Fv n f0) w := by
 refine wp_region_any hmix ?_; refine any_inv (VJ n lo s w vals f0) (fun listed a w' hJ i o ho hl hall => ?_) (fun listed a w' hJ hr => ?_) ops.size _ _ _ ?_ ?_
 · obtain ⟨hsz, ⟨f, rfl, hoth, hv⟩, hb⟩ := hJ
   have hi : i < s := by rw [← hs]; exact (Array.getElem?_eq_some_iff.1 ho).1
   refine wpOp_mono (fun a' w'' h => ?_) (step i hi f w' hb hoth (fun j hj => ?_))
   · obtain ⟨rfl, hb2⟩ := h; refine ⟨by rw [Array.size_setIfInBounds]; exact hsz, ⟨_, rfl, fun t ht => ?_, fun j hj hlj => ?_⟩, hb.trans (hb2.mono hb.size)⟩
     · rw [show upv f (lo + i) (vals (lo + i)) t = f t from if_neg (by omega)]; exact hoth t ht
     · by_cases hij : i = j
       · subst hij; exact if_pos rfl
       · rw [show upv f (lo + i) (vals (lo + i)) (lo + j) = f (lo + j) from if_neg (by omega)]; exact hv j hj ((lget_set hij).symm.trans hlj)
   · unfold depB at hj; rw [ho] at hj; simp only [Array.any_eq_true, Bool.and_eq_true, beq_iff_eq] at hj; obtain ⟨k, hk, rfl, hbd⟩ := hj; obtain ⟨o', ho', _, hlt⟩ := seq_at hq hi; obtain rfl : o = o' := Option.some.inj (ho.symm.trans ho'); have hm := Array.getElem_mem hk; exact hv _ (by have := hlt _ hm; omega) (hall _ hm hbd)
 · obtain ⟨hsz, ⟨f, rfl, hoth, hv⟩, hb⟩ := hJ; have hall := listed_all hq hr hsz
   have : f = ovv f0 vals lo s := by
    funext t; unfold ovv; split
    · rename_i ht; have := hv (t - lo) (by omega) (by rw [lget_flip (d := true) (by omega)]; exact hall _ (by omega))
      rwa [show lo + (t - lo) = t by omega] at this
    · rename_i ht; exact hoth t ht
   rw [this]; exact fin w' hb
 · refine ⟨by rw [Array.size_replicate, hs], ⟨f0, rfl, fun _ _ => rfl, fun j hj hl => ?_⟩, (Below.refl _ _).drew⟩; rw [Array.getD_eq_getD_getElem?, Array.getElem?_replicate] at hl; split at hl <;> cases hl
 · exact Nat.le_trans (countN _) (by rw [Array.size_replicate]; exact Nat.le_refl _)
theorem wanted_none {o : Oper} {y : Nat → Option Bool} (h : o.guard = none) : Region.wanted o y = true := by unfold Region.wanted; rw [h]
theorem wanted_some {ops : Array Oper} {n g d : Nat} {f : Nat → Value} {b c : Bool} {o : Oper} (h : o.guard = some (g, b)) (hd : (ops[g]?).bind (·.dst) = some d) (hn : d < n) (hf : f d = .bool c) : Region.wanted o (yielded ops (Fv n f).tmps) = (c == b) := by unfold Region.wanted yielded; rw [h]; simp only [hd, Option.bind_some]; rw [fv_at hn, hf]; cases c <;> cases b <;> rfl
structure Pw where
 p : Value → World → Prop
 keep : ∀ v w w', Below w.heap.size w w' → p v w → p v w'
def pwEq (u : Value) : Pw := ⟨fun v _ => v = u, fun _ _ _ _ h => h⟩
def dstB (D : Nat → Nat) (ops : Array Oper) (s : Nat) : Bool := (List.range s).all fun i => match ops[i]? with | some o => o.dst == some (D i) | none => false
def ordB (ops : Array Oper) (s : Nat) : Bool := (List.range s).all fun i => match ops[i]? with | some o => o.after.all (fun e => decide (e.on < i)) | none => false
theorem ordB_at {ops : Array Oper} {s i : Nat} (h : ordB ops s = true) (hi : i < s) : ∃ o, ops[i]? = some o ∧ ∀ e ∈ o.after, e.on < i := by
 unfold ordB at h; rw [List.all_eq_true] at h; have := h i (List.mem_range.2 hi); cases ho : ops[i]? with
 | none => rw [ho] at this; simp at this
 | some o => rw [ho] at this; simp only [Array.all_eq_true_iff_forall_mem, decide_eq_true_eq] at this; exact ⟨o, rfl, this⟩
def difB (D : Nat → Nat) (s : Nat) : Bool := (List.range s).all fun i => (List.range s).all fun j => i == j || D i != D j
theorem difB_at {D : Nat → Nat} {s i j : Nat} (h : difB D s = true) (hi : i < s) (hj : j < s) (e : D i = D j) : i = j := by
 unfold difB at h; rw [List.all_eq_true] at h; have := h i (List.mem_range.2 hi); rw [List.all_eq_true] at this; have := this j (List.mem_range.2 hj); rw [Bool.or_eq_true] at this
 rcases this with h | h
 · simpa using h
 · simp [e] at h
def lastB (ops : Array Oper) (s : Nat) : Bool := (List.range s).all fun j => (List.range (s + 1)).any fun i => decide (j < i) && depB ops i j
theorem last_all {ops : Array Oper} {s : Nat} (h : lastB ops s = true) {L : Nat → Prop} (hs : ∀ j, depB ops s j = true → L j) (hc : ∀ i j, i < s → L i → depB ops i j = true → L j) : ∀ d j, j < s → s - j ≤ d → L j := by
 intro d
 induction d with
 | zero => intro j hj hd; omega
 | succ d ih =>
   intro j hj hd; unfold lastB at h; rw [List.all_eq_true] at h; have := h j (List.mem_range.2 hj); rw [List.any_eq_true] at this; obtain ⟨i, hi, hb⟩ := this; have hi2 := List.mem_range.1 hi; rw [Bool.and_eq_true, decide_eq_true_eq] at hb
   by_cases e : i = s
   · subst e; exact hs j hb.2
   · exact hc i j (by omega) (ih i (by omega) (by omega)) hb.2
structure VL (n s : Nat) (D : Nat → Nat) (w1 : World) (R : Nat → Pw) (f0 : Nat → Value) (listed : Array Bool) (a : Act) (w : World) : Prop where
 act : ∃ f, a = Fv n f ∧ (∀ t, (∀ j, j < s → D j ≠ t) → f t = f0 t) ∧ ∀ j, j < s → listed.getD j false = true → (R j).p (f (D j)) w
 below : Below w1.heap.size w1 w
structure JL (Q : Exit → Act → World → Prop) (ops : Array Oper) (n s : Nat) (D : Nat → Nat) (w1 : World) (R : Nat → Pw) (f0 : Nat → Value) (listed : Array Bool) (a : Act) (w : World) : Prop where
 size : listed.size = s + 1
 clo : ∀ i j, i < s → listed.getD i false = true → depB ops i j = true → listed.getD j false = true
 off : listed.getD s false = false → VL n s D w1 R f0 listed a w
 on : listed.getD s false = true → (∀ j, j < s → listed.getD j false = true) ∧ Q .normal a w
def StepL (P : Program) (ops : Array Oper) (Q : Exit → Act → World → Prop) (n : Nat) (D : Nat → Nat) (R : Nat → Pw) (i : Nat) (f : Nat → Value) (w : World) : Prop :=
 wpOp P ops Q i (fun a' w' => ∃ v, a' = Fv n (upv f (D i) v) ∧ (R i).p v w' ∧ Below w.heap.size w w') (Fv n f) w
theorem region_last {P : Program} {Q : Exit → Act → World → Prop} {id : Nat} {ops : Array Oper} {f0 : Nat → Value} {w : World} (hmix : P.follows .mixedOrders = true) (n s : Nat) (D : Nat → Nat) (hs : ops.size = s + 1) (hdst : dstB D ops s = true) (hq : ordB ops (s + 1) = true) (hd : difB D s = true) (hl : lastB ops s = true) (R : Nat → Pw)
 (step : ∀ i, i < s → ∀ f w', Below w.heap.size w w' → (∀ t, (∀ j, j < s → D j ≠ t) → f t = f0 t) → (∀ j, depB ops i j = true → (R j).p (f (D j)) w') → StepL P ops Q n D R i f w')
 (last : ∀ f w', Below w.heap.size w w' → (∀ t, (∀ j, j < s → D j ≠ t) → f t = f0 t) → (∀ j, j < s → (R j).p (f (D j)) w') → wpOp P ops Q s (fun a' w'' => Q .normal a' w'') (Fv n f) w') : (Code.region id ops true).wp P Q (Fv n f0) w := by
 refine wp_region_any hmix ?_; refine any_inv (JL Q ops n s D w R f0) (fun listed a w' hJ i o ho hl2 hall => ?_) (fun listed a w' hJ hr => ?_) ops.size _ _ _ ?_ ?_
 · obtain ⟨hsz, hclo, hoff, hon⟩ := hJ
   have hi : i < s + 1 := by rw [← hs]; exact (Array.getElem?_eq_some_iff.1 ho).1
   have hl3 : listed.getD i false = false := (by rw [lget_flip (d := true) (by omega)]; exact hl2)
   have hdep : ∀ j, depB ops i j = true → j < i ∧ listed.getD j false = true := fun j hj => by
    unfold depB at hj; rw [ho] at hj; simp only [Array.any_eq_true, Bool.and_eq_true, beq_iff_eq] at hj; obtain ⟨k, hk, rfl, hbd⟩ := hj; obtain ⟨o', ho', hlt⟩ := ordB_at hq hi; obtain rfl : o = o' := Option.some.inj (ho.symm.trans ho'); have hm := Array.getElem_mem hk; exact ⟨hlt _ hm, hall _ hm hbd⟩
   have hls : listed.getD s false = false := by
    cases h : listed.getD s false with
    | false => rfl
    | true =>
      by_cases e : i = s
      · rw [e, h] at hl3; exact hl3
      · have := (hon h).1 i (by omega); rw [hl3] at this; exact this.symm
   obtain ⟨⟨f, rfl, hoth, hv⟩, hb⟩ := hoff hls
   have hclo2 : ∀ i2 j, i2 < s → (listed.setIfInBounds i true).getD i2 false = true → depB ops i2 j = true → (listed.setIfInBounds i true).getD j false = true := fun i2 j h1 h2 h3 => by
    have hj : listed.getD j false = true := by
     by_cases e : i = i2
     · subst e; exact (hdep j h3).2
     · exact hclo i2 j h1 ((lget_set e).symm.trans h2) h3
    by_cases e : i = j
    · subst e; rw [hl3] at hj; cases hj
    · exact (lget_set e).trans hj
   by_cases his : i = s
   · subst his; have hallj : ∀ j, j < i → listed.getD j false = true := fun j hj => last_all (L := fun j => listed.getD j false = true) hl (fun j hj => (hdep j hj).2) (fun i2 j h1 h2 h3 => hclo i2 j h1 h2 h3) i j hj (by omega); refine wpOp_mono (fun a' w'' h => ?_) (last f w' hb hoth (fun j hj => hv j hj (hallj j hj))); refine ⟨by rw [Array.size_setIfInBounds]; exact hsz, hclo2, fun h2 => ?_, fun _ => ⟨fun j hj => (lget_set (by omega)).trans (hallj j hj), h⟩⟩; exfalso
     have : (listed.setIfInBounds i true).getD i false = true := by rw [Array.getD_eq_getD_getElem?, Array.getElem?_setIfInBounds_self_of_lt (by omega)]; rfl
     rw [this] at h2; cases h2
   · have hi2 : i < s := (by omega)
     refine wpOp_mono (fun a' w'' h => ?_) (step i hi2 f w' hb hoth (fun j hj => hv j (by have := (hdep j hj).1; omega) (hdep j hj).2)); obtain ⟨v, rfl, hr, hb2⟩ := h; refine ⟨by rw [Array.size_setIfInBounds]; exact hsz, hclo2, fun _ => ⟨⟨_, rfl, fun t ht => ?_, fun j hj hlj => ?_⟩, hb.trans (hb2.mono hb.size)⟩, fun h2 => ?_⟩
     · rw [show upv f (D i) v t = f t from if_neg (fun e => ht i hi2 e.symm)]; exact hoth t ht
     · by_cases hij : i = j
       · subst hij; rw [show upv f (D i) v (D i) = v from if_pos rfl]; exact hr
       · rw [show upv f (D i) v (D j) = f (D j) from if_neg (fun e => hij (difB_at hd hj hi2 e).symm)]; exact (R j).keep _ _ _ hb2 (hv j hj ((lget_set hij).symm.trans hlj))
     · rw [lget_set his, hls] at h2; cases h2
 · obtain ⟨hsz, hclo, hoff, hon⟩ := hJ
   have hall : ∀ i, i < s + 1 → listed.getD i true = true := by
    intro i
    induction i using Nat.strongRecOn with
    | ind i ih =>
      intro hi; cases hl : listed.getD i true with
      | true => rfl
      | false =>
        exfalso; obtain ⟨o, ho, hall⟩ := ordB_at hq hi
        have hm : i ∈ Region.ready .any ops listed := mem_ready.2 ⟨hl, o, ho, fun e he _ => by
         have hlt := hall e he; rw [lget_flip (d := true) (by omega)]; exact ih e.on hlt (by omega)⟩
        rw [hr] at hm; cases hm
   exact (hon (by rw [lget_flip (d := true) (by omega)]; exact hall s (by omega))).2
 · have hno : ∀ k, (Array.replicate ops.size false).getD k false = false := fun k => by
    rw [Array.getD_eq_getD_getElem?, Array.getElem?_replicate]; split <;> rfl
   refine ⟨by rw [Array.size_replicate, hs], fun i j _ h _ => ?_, fun _ => ⟨⟨f0, rfl, fun _ _ => rfl, fun j hj h => ?_⟩, (Below.refl _ _).drew⟩, fun h => ?_⟩
   · rw [hno] at h; cases h
   · rw [hno] at h; cases h
   · rw [hno] at h; cases h
 · exact Nat.le_trans (countN _) (by rw [Array.size_replicate]; exact Nat.le_refl _)
def ovk (f0 f : Nat → Value) (ds : List Nat) : Nat → Value := fun t => if ds.contains t then f t else f0 t
theorem ovk_eq {f0 f : Nat → Value} {ds : List Nat} (h : ∀ t, t ∉ ds → f t = f0 t) : f = ovk f0 f ds := by
 funext t; unfold ovk
 by_cases ht : t ∈ ds
 · rw [if_pos (by simpa using ht)]
 · rw [if_neg (by simpa using ht)]; exact h t ht
theorem wpk_then {P : Program} {Q : Exit → Act → World → Prop} {c : Code} {a : Act} {w : World} (h : ∀ K : Act → World → Prop, (∀ a w, K a w ↔ Q .normal a w) → c.wp P (Exit.then K Q) a w) : c.wp P Q a w := by refine wp_mono (h (Q .normal) fun _ _ => Iff.rfl) ?_; intro e a' w' hq; cases e <;> exact hq
structure Sx (V : Value) (w w' : World) : Prop where
 os : w'.os = w.os
 tape : w'.tape = w.tape
 output : w'.output = w.output
 size : w.heap.size ≤ w'.heap.size
 block : ∀ k, k < w.heap.size → V.ownBlock ≠ some k → w'.heap[k]? = w.heap[k]?
theorem Sx.trans {V : Value} {a b c : World} (h : Sx V a b) (k : Sx V b c) : Sx V a c :=
 ⟨k.os.trans h.os, k.tape.trans h.tape, k.output.trans h.output, Nat.le_trans h.size k.size, fun i hi hv => (k.block i (Nat.lt_of_lt_of_le hi h.size) hv).trans (h.block i hi hv)⟩
theorem Sx.of_below {V : Value} {w w' : World} (h : Below w.heap.size w w') : Sx V w w' := ⟨h.os, h.tape, h.output, h.size, fun k hk _ => h.block k hk⟩
theorem Sx.grown {V : Value} {w w' : World} (h : w.grownBy w' V.ownBlock) : Sx V w w' := ⟨h.os, h.tape, h.output, h.size, fun k hk hv => h.block k hk (fun e => hv e.symm)⟩
theorem Sx.below {V : Value} {w w' : World} {N : Nat} (h : Sx V w w') (hv : ∀ g, V.ownBlock = some g → N ≤ g) (hN : N ≤ w.heap.size) : Below N w w' :=
 ⟨h.os, h.tape, h.output, h.size, fun k hk => h.block k (by omega) (fun e => by have := hv k e; omega)⟩
structure V3 (V : Value) (n s m : Nat) (D : Nat → Nat) (w1 : World) (R : Nat → Value → World → Prop) (f0 : Nat → Value) (listed : Array Bool) (a : Act) (w : World) : Prop where
 act : ∃ f, a = Fv n f ∧ (∀ t, (∀ j, j < s → D j ≠ t) → f t = f0 t) ∧ ∀ j, j < s → listed.getD j false = true → R j (f (D j)) w
 sx : Sx V w1 w
 below : listed.getD m false = false → Below w1.heap.size w1 w
structure J3 (P : Program) (Q : Exit → Act → World → Prop) (ops : Array Oper) (V : Value) (n s m : Nat) (D : Nat → Nat) (w1 : World) (R : Nat → Value → World → Prop) (f0 : Nat → Value) (listed : Array Bool) (a : Act) (w : World) : Prop where
 size : listed.size = s + 3
 clo : ∀ i j, i < s → listed.getD i false = true → depB ops i j = true → listed.getD j false = true
 off : listed.getD s false = false → V3 V n s m D w1 R f0 listed a w ∧ listed.getD (s + 1) false = false ∧ listed.getD (s + 2) false = false
 on : listed.getD s false = true → (∀ j, j < s → listed.getD j false = true) ∧
  (listed.getD (s + 1) false = false → listed.getD (s + 2) false = false ∧ wpOp P ops Q (s + 1) (fun a' w' => wpOp P ops Q (s + 2) (fun a'' w'' => Q .normal a'' w'') a' w') a w) ∧
  (listed.getD (s + 1) false = true → listed.getD (s + 2) false = false → wpOp P ops Q (s + 2) (fun a'' w'' => Q .normal a'' w'') a w) ∧
  (listed.getD (s + 1) false = true → listed.getD (s + 2) false = true → Q .normal a w)
theorem region_tail3 {P : Program} {Q : Exit → Act → World → Prop} {id : Nat} {ops : Array Oper} {f0 : Nat → Value} {w : World} (V : Value) (hmix : P.follows .mixedOrders = true) (n s m : Nat) (D : Nat → Nat) (hm : m < s) (hs : ops.size = s + 3) (hq : ordB ops (s + 3) = true) (hd : difB D s = true) (hl : lastB ops s = true) (hl1 : depB ops (s + 1) s = true) (hl2 : depB ops (s + 2) (s + 1) = true)
 (R : Nat → Value → World → Prop) (keep : ∀ j v w w', Below w.heap.size w w' → R j v w → R j v w') (keepS : ∀ j v w w', j ≠ m → Sx V w w' → R j v w → R j v w')
 (step : ∀ i, i < s → i ≠ m → ∀ f w', Sx V w w' → (∀ t, (∀ j, j < s → D j ≠ t) → f t = f0 t) → (∀ j, depB ops i j = true → R j (f (D j)) w') → wpOp P ops Q i (fun a' w'' => ∃ v, a' = Fv n (upv f (D i) v) ∧ R i v w'' ∧ Below w'.heap.size w' w'') (Fv n f) w')
 (stepm : ∀ f w', Below w.heap.size w w' → (∀ t, (∀ j, j < s → D j ≠ t) → f t = f0 t) → (∀ j, depB ops m j = true → R j (f (D j)) w') → wpOp P ops Q m (fun a' w'' => ∃ v, a' = Fv n (upv f (D m) v) ∧ R m v w'' ∧ Sx V w' w'') (Fv n f) w')
 (last : ∀ f w', Sx V w w' → (∀ t, (∀ j, j < s → D j ≠ t) → f t = f0 t) → (∀ j, j < s → R j (f (D j)) w') → wpOp P ops Q s (fun a1 w1 => wpOp P ops Q (s + 1) (fun a2 w2 => wpOp P ops Q (s + 2) (fun a3 w3 => Q .normal a3 w3) a2 w2) a1 w1) (Fv n f) w') : (Code.region id ops true).wp P Q (Fv n f0) w := by
 refine wp_region_any hmix ?_; refine any_inv (J3 P Q ops V n s m D w R f0) (fun listed a w' hJ i o ho hl9 hall => ?_) (fun listed a w' hJ hr => ?_) ops.size _ _ _ ?_ ?_
 · obtain ⟨hsz, hclo, hoff, hon⟩ := hJ
   have hi : i < s + 3 := by rw [← hs]; exact (Array.getElem?_eq_some_iff.1 ho).1
   have hl3 : listed.getD i false = false := (by rw [lget_flip (d := true) (by omega)]; exact hl9)
   have hdep : ∀ j, depB ops i j = true → j < i ∧ listed.getD j false = true := fun j hj => by
    unfold depB at hj; rw [ho] at hj; simp only [Array.any_eq_true, Bool.and_eq_true, beq_iff_eq] at hj; obtain ⟨k, hk, rfl, hbd⟩ := hj; obtain ⟨o', ho', hlt⟩ := ordB_at hq hi; obtain rfl : o = o' := Option.some.inj (ho.symm.trans ho'); have hm := Array.getElem_mem hk; exact ⟨hlt _ hm, hall _ hm hbd⟩
   have self : (listed.setIfInBounds i true).getD i false = true := by rw [Array.getD_eq_getD_getElem?, Array.getElem?_setIfInBounds_self_of_lt (by omega)]; rfl
   have up : ∀ j, listed.getD j false = true → (listed.setIfInBounds i true).getD j false = true := fun j hj => by
    by_cases e : i = j
    · subst e; exact self
    · exact (lget_set e).trans hj
   have hclo2 : ∀ i2 j, i2 < s → (listed.setIfInBounds i true).getD i2 false = true → depB ops i2 j = true → (listed.setIfInBounds i true).getD j false = true := fun i2 j h1 h2 h3 => by
    refine up j ?_
    by_cases e : i = i2
    · subst e; exact (hdep j h3).2
    · exact hclo i2 j h1 ((lget_set e).symm.trans h2) h3
   have hsz2 : (listed.setIfInBounds i true).size = s + 3 := (by rw [Array.size_setIfInBounds]; exact hsz)
   by_cases hi0 : i < s
   · have hls : listed.getD s false = false := by
      cases h : listed.getD s false with
      | false => rfl
      | true => have := (hon h).1 i hi0; rw [hl3] at this; cases this
     obtain ⟨⟨⟨f, rfl, hoth, hv⟩, hsx, hbw⟩, o1, o2⟩ := hoff hls
     have fin : ∀ v w'', R i v w'' → (∀ j, j < s → i ≠ j → listed.getD j false = true → R j (f (D j)) w'') → Sx V w w'' → ((listed.setIfInBounds i true).getD m false = false → Below w.heap.size w w'') → J3 P Q ops V n s m D w R f0 (listed.setIfInBounds i true) (Fv n (upv f (D i) v)) w'' := fun v w'' hr hk hS hB => by
      refine ⟨hsz2, hclo2, fun _ => ⟨⟨⟨_, rfl, fun t ht => ?_, fun j hj hlj => ?_⟩, hS, hB⟩, (lget_set (by omega)).trans o1, (lget_set (by omega)).trans o2⟩, fun h => ?_⟩
      · rw [show upv f (D i) v t = f t from if_neg (fun e => ht i hi0 e.symm)]; exact hoth t ht
      · by_cases hij : i = j
        · subst hij; rw [show upv f (D i) v (D i) = v from if_pos rfl]; exact hr
        · rw [show upv f (D i) v (D j) = f (D j) from if_neg (fun e => hij (difB_at hd hj hi0 e).symm)]; exact hk j hj hij ((lget_set hij).symm.trans hlj)
      · rw [lget_set (by omega), hls] at h; cases h
     by_cases him : i = m
     · subst him; refine wpOp_mono (fun a' w'' h => ?_) (stepm f w' (hbw hl3) hoth (fun j hj => hv j (by have := (hdep j hj).1; omega) (hdep j hj).2)); obtain ⟨v, rfl, hr, hS⟩ := h; exact fin v w'' hr (fun j hj hij hlj => keepS j _ _ _ (fun e => hij e.symm) hS (hv j hj hlj)) (hsx.trans hS) (fun h => by rw [self] at h; cases h)
     · refine wpOp_mono (fun a' w'' h => ?_) (step i hi0 him f w' hsx hoth (fun j hj => hv j (by have := (hdep j hj).1; omega) (hdep j hj).2)); obtain ⟨v, rfl, hr, hB⟩ := h
       exact fin v w'' hr (fun j hj hij hlj => keep j _ _ _ hB (hv j hj hlj)) (hsx.trans (Sx.of_below hB)) (fun h => by
        have := hbw ((lget_set him).symm.trans h); exact this.trans (hB.mono this.size))
   · by_cases hi1 : i = s
     · subst hi1; obtain ⟨⟨⟨f, rfl, hoth, hv⟩, hsx, hbw⟩, o1, o2⟩ := hoff hl3; have hallj : ∀ j, j < i → listed.getD j false = true := fun j hj => last_all (L := fun j => listed.getD j false = true) hl (fun j hj => (hdep j hj).2) (fun i2 j h1 h2 h3 => hclo i2 j h1 h2 h3) i j hj (by omega); refine wpOp_mono (fun a' w'' h => ?_) (last f w' hsx hoth (fun j hj => hv j hj (hallj j hj))); refine ⟨hsz2, hclo2, fun h2 => (by rw [self] at h2; cases h2), fun _ => ⟨fun j hj => up j (hallj j hj), fun _ => ⟨(lget_set (by omega)).trans o2, h⟩, fun h2 => ?_, fun h2 => ?_⟩⟩
       · rw [lget_set (by omega), o1] at h2; cases h2
       · rw [lget_set (by omega), o1] at h2; cases h2
     · have hls : listed.getD s false = true := by
        cases h : listed.getD s false with
        | true => rfl
        | false =>
          by_cases e : i = s + 1
          · subst e; have := (hdep s hl1).2; rw [h] at this; cases this
          · have e2 : i = s + 2 := (by omega)
            subst e2; have := (hdep (s + 1) hl2).2; rw [(hoff h).2.1] at this; cases this
       obtain ⟨ha, hb1, hb2, hb3⟩ := hon hls
       by_cases e : i = s + 1
       · subst e; obtain ⟨o2, hw⟩ := hb1 hl3; refine wpOp_mono (fun a' w'' h => ?_) hw; refine ⟨hsz2, hclo2, fun h2 => (by rw [up s hls] at h2; cases h2), fun _ => ⟨fun j hj => up j (ha j hj), fun h2 => ?_, fun _ _ => h, fun _ h2 => ?_⟩⟩
         · rw [self] at h2; cases h2
         · rw [lget_set (by omega), o2] at h2; cases h2
       · have e2 : i = s + 2 := (by omega)
         subst e2; have h1 := (hdep (s + 1) hl2).2; refine wpOp_mono (fun a' w'' h => ?_) (hb2 h1 hl3); refine ⟨hsz2, hclo2, fun h2 => (by rw [up s hls] at h2; cases h2), fun _ => ⟨fun j hj => up j (ha j hj), fun h2 => ?_, fun _ h2 => ?_, fun _ _ => h⟩⟩
         · rw [up _ h1] at h2; cases h2
         · rw [self] at h2; cases h2
 · obtain ⟨hsz, hclo, hoff, hon⟩ := hJ
   have hall : ∀ i, i < s + 3 → listed.getD i true = true := by
    intro i
    induction i using Nat.strongRecOn with
    | ind i ih =>
      intro hi; cases hl : listed.getD i true with
      | true => rfl
      | false =>
        exfalso; obtain ⟨o, ho, hall⟩ := ordB_at hq hi
        have hm : i ∈ Region.ready .any ops listed := mem_ready.2 ⟨hl, o, ho, fun e he _ => by
         have hlt := hall e he; rw [lget_flip (d := true) (by omega)]; exact ih e.on hlt (by omega)⟩
        rw [hr] at hm; cases hm
   have hall2 : ∀ i, i < s + 3 → listed.getD i false = true := fun i hi => by rw [lget_flip (d := true) (by omega)]; exact hall i hi
   exact (hon (hall2 s (by omega))).2.2.2 (hall2 _ (by omega)) (hall2 _ (by omega))
 · have hno : ∀ k, (Array.replicate ops.size false).getD k false = false := fun k => by
    rw [Array.getD_eq_getD_getElem?, Array.getElem?_replicate]; split <;> rfl
   refine ⟨by rw [Array.size_replicate, hs], fun i j _ h _ => ?_, fun _ => ⟨⟨⟨f0, rfl, fun _ _ => rfl, fun j hj h => ?_⟩, Sx.of_below (Below.refl _ _).drew, fun _ => (Below.refl _ _).drew⟩, hno _, hno _⟩, fun h => ?_⟩
   · rw [hno] at h; cases h
   · rw [hno] at h; cases h
   · rw [hno] at h; cases h
 · exact Nat.le_trans (countN _) (by rw [Array.size_replicate]; exact Nat.le_refl _)
structure VX (n s m : Nat) (c D : Nat → Nat) (vals : Nat → Value) (X : Nat → Value → World → Prop) (f0 : Nat → Value) (listed : Array Bool) (a : Act) (w : World) : Prop where
 act : ∃ k f, k ≤ m ∧ a = Fv n f ∧ (∀ t, (∀ j, j < s → D j ≠ t) → f t = f0 t) ∧ (∀ j, j < s → (∀ k, k ≤ m → c k ≠ j) → listed.getD j false = true → f (D j) = vals j) ∧
  (∀ i, i < m → (listed.getD (c i) false = true ↔ i < k)) ∧ X k (if k = 0 then undef else f (D (c (k - 1)))) w
structure JX (Q : Exit → Act → World → Prop) (ops : Array Oper) (n s m : Nat) (c D : Nat → Nat) (vals : Nat → Value) (X : Nat → Value → World → Prop) (f0 : Nat → Value) (listed : Array Bool) (a : Act) (w : World) : Prop where
 size : listed.size = s + 1
 clo : ∀ i j, i < s → listed.getD i false = true → depB ops i j = true → listed.getD j false = true
 off : listed.getD s false = false → VX n s m c D vals X f0 listed a w
 on : listed.getD s false = true → (∀ j, j < s → listed.getD j false = true) ∧ Q .normal a w
def chainB (ops : Array Oper) (c : Nat → Nat) (m s : Nat) : Bool :=
 c m == s && (List.range m).all (fun k => decide (c k < s) && depB ops (c (k + 1)) (c k)) && (List.range (m + 1)).all fun i => (List.range (m + 1)).all fun k => i == k || c i != c k
theorem chainB_at {ops : Array Oper} {c : Nat → Nat} {m s : Nat} (h : chainB ops c m s = true) :
 c m = s ∧ (∀ k, k < m → c k < s) ∧ (∀ i k, i ≤ m → k ≤ m → c i = c k → i = k) ∧ ∀ k, k + 1 ≤ m → depB ops (c (k + 1)) (c k) = true := by
 unfold chainB at h; simp only [Bool.and_eq_true, beq_iff_eq, List.all_eq_true, List.mem_range, decide_eq_true_eq, Bool.or_eq_true, bne_iff_ne] at h; obtain ⟨⟨h1, h2⟩, h3⟩ := h; refine ⟨h1, fun k hk => (h2 k hk).1, fun i k hi hk e => ?_, fun k hk => (h2 k (by omega)).2⟩
 rcases h3 i (by omega) k (by omega) with h | h
 · exact h
 · exact absurd e h
theorem region_chain {P : Program} {Q : Exit → Act → World → Prop} {id : Nat} {ops : Array Oper} {f0 : Nat → Value} {w : World} (hmix : P.follows .mixedOrders = true) (n s m : Nat) (c D : Nat → Nat) (hs : ops.size = s + 1) (hq : ordB ops (s + 1) = true) (hd : difB D s = true) (hl : lastB ops s = true)
 (hcB : chainB ops c m s = true) (vals : Nat → Value) (X : Nat → Value → World → Prop) (hX : X 0 undef w.drew)
 (quiet : ∀ i, i < s → (∀ k, k ≤ m → c k ≠ i) → ∀ k v f w', k ≤ m → X k v w' → (∀ t, (∀ j, j < s → D j ≠ t) → f t = f0 t) → (∀ j, depB ops i j = true → (∀ k, k ≤ m → c k ≠ j) → f (D j) = vals j) → wpOp P ops Q i (fun a' w'' => a' = Fv n (upv f (D i) (vals i)) ∧ w'' = w') (Fv n f) w')
 (chain : ∀ k, k < m → ∀ v f w', X k v w' → (0 < k → f (D (c (k - 1))) = v) → (∀ t, (∀ j, j < s → D j ≠ t) → f t = f0 t) → (∀ j, depB ops (c k) j = true → (∀ k, k ≤ m → c k ≠ j) → f (D j) = vals j) → wpOp P ops Q (c k) (fun a' w'' => ∃ v', a' = Fv n (upv f (D (c k)) v') ∧ X (k + 1) v' w'') (Fv n f) w')
 (last : ∀ v f w', X m v w' → (0 < m → f (D (c (m - 1))) = v) → (∀ t, (∀ j, j < s → D j ≠ t) → f t = f0 t) → (∀ j, j < s → (∀ k, k ≤ m → c k ≠ j) → f (D j) = vals j) → wpOp P ops Q s (fun a' w'' => Q .normal a' w'') (Fv n f) w') : (Code.region id ops true).wp P Q (Fv n f0) w := by
 obtain ⟨hcs, hlt, hinj, hdep⟩ := chainB_at hcB; refine wp_region_any hmix ?_; refine any_inv (JX Q ops n s m c D vals X f0) (fun listed a w' hJ i o ho hl2 hall => ?_) (fun listed a w' hJ hr => ?_) ops.size _ _ _ ?_ ?_
 · obtain ⟨hsz, hclo, hoff, hon⟩ := hJ
   have hi : i < s + 1 := by rw [← hs]; exact (Array.getElem?_eq_some_iff.1 ho).1
   have hl3 : listed.getD i false = false := (by rw [lget_flip (d := true) (by omega)]; exact hl2)
   have hdp : ∀ j, depB ops i j = true → j < i ∧ listed.getD j false = true := fun j hj => by
    unfold depB at hj; rw [ho] at hj; simp only [Array.any_eq_true, Bool.and_eq_true, beq_iff_eq] at hj; obtain ⟨k, hk, rfl, hbd⟩ := hj; obtain ⟨o', ho', hlt⟩ := ordB_at hq hi; obtain rfl : o = o' := Option.some.inj (ho.symm.trans ho'); have hm := Array.getElem_mem hk; exact ⟨hlt _ hm, hall _ hm hbd⟩
   have hls : listed.getD s false = false := by
    cases h : listed.getD s false with
    | false => rfl
    | true =>
      by_cases e : i = s
      · rw [e, h] at hl3; exact hl3
      · have := (hon h).1 i (by omega); rw [hl3] at this; exact this.symm
   obtain ⟨k, f, hkm, rfl, hoth, hv, hch, hXk⟩ := (hoff hls).act
   have hclo2 : ∀ i2 j, i2 < s → (listed.setIfInBounds i true).getD i2 false = true → depB ops i2 j = true → (listed.setIfInBounds i true).getD j false = true := fun i2 j h1 h2 h3 => by
    have hj : listed.getD j false = true := by
     by_cases e : i = i2
     · subst e; exact (hdp j h3).2
     · exact hclo i2 j h1 ((lget_set e).symm.trans h2) h3
    by_cases e : i = j
    · subst e; rw [hl3] at hj; cases hj
    · exact (lget_set e).trans hj
   have hset : (listed.setIfInBounds i true).getD i false = true := by rw [Array.getD_eq_getD_getElem?, Array.getElem?_setIfInBounds_self_of_lt (by omega)]; rfl
   by_cases his : i = s
   · subst his; have hallj : ∀ j, j < i → listed.getD j false = true := fun j hj => last_all (L := fun j => listed.getD j false = true) hl (fun j hj => (hdp j hj).2) (fun i2 j h1 h2 h3 => hclo i2 j h1 h2 h3) i j hj (by omega)
     have hk : k = m := by
      rcases Nat.lt_or_ge k m with h | h
      · have := (hch k h).1 (hallj _ (hlt k h)); omega
      · omega
     subst hk; refine wpOp_mono (fun a' w'' h => ?_) (last _ f w' hXk (fun h0 => by rw [if_neg (by omega)]) hoth (fun j hj hn => hv j hj hn (hallj j hj))); exact ⟨by rw [Array.size_setIfInBounds]; exact hsz, hclo2, fun h2 => by rw [hset] at h2; (cases h2), fun _ => ⟨fun j hj => (lget_set (by omega)).trans (hallj j hj), h⟩⟩
   · have hi2 : i < s := (by omega)
     have hls2 : (listed.setIfInBounds i true).getD s false = true → False := fun h2 => by
      rw [lget_set his, hls] at h2; cases h2
     by_cases hck : ∃ k', k' ≤ m ∧ c k' = i
     · obtain ⟨k', hk', rfl⟩ := hck
       have hkm' : k' < m := by
        rcases Nat.lt_or_ge k' m with h | h
        · exact h
        · obtain rfl : k' = m := by omega
          exact absurd hcs his
       have hge : ¬ k' < k := fun h => by
        have := (hch k' hkm').2 h; rw [hl3] at this; cases this
       have hle : k' ≤ k := by
        rcases Nat.eq_zero_or_pos k' with h | h
        · omega
        · have h1 := hdep (k' - 1) (by omega); rw [show k' - 1 + 1 = k' by omega] at h1; have := (hch (k' - 1) (by omega)).1 (hdp _ h1).2; omega
       obtain rfl : k' = k := by omega
       refine wpOp_mono (fun a' w'' h => ?_) (chain k' hkm' _ f w' hXk (fun h0 => by rw [if_neg (by omega)]) hoth (fun j hj hn => hv j (by have := (hdp j hj).1; omega) hn (hdp j hj).2)); obtain ⟨v', rfl, hX'⟩ := h; refine ⟨by rw [Array.size_setIfInBounds]; exact hsz, hclo2, fun _ => ⟨k' + 1, _, by omega, rfl, fun t ht => ?_, fun j hj hn hlj => ?_, fun i2 hi2' => ?_, ?_⟩, fun h2 => (hls2 h2).elim⟩
       · rw [show upv f (D (c k')) v' t = f t from if_neg (fun e => ht _ hi2 e.symm)]; exact hoth t ht
       · rw [show upv f (D (c k')) v' (D j) = f (D j) from if_neg (fun e => hn k' hk' (difB_at hd hj hi2 e).symm)]; exact hv j hj hn ((lget_set (hn k' hk')).symm.trans hlj)
       · by_cases e : i2 = k'
         · subst e; exact ⟨fun _ => by omega, fun _ => hset⟩
         · rw [lget_set (fun e2 => e (hinj _ _ (by omega) hk' e2.symm)), hch i2 hi2']; omega
       · rw [if_neg (by omega), show k' + 1 - 1 = k' by omega, show upv f (D (c k')) v' (D (c k')) = v' from if_pos rfl]; exact hX'
     · have hnc : ∀ k', k' ≤ m → c k' ≠ i := fun k' h e => hck ⟨k', h, e⟩; refine wpOp_mono (fun a' w'' h => ?_) (quiet i hi2 hnc k _ f w' hkm hXk hoth (fun j hj hn => hv j (by have := (hdp j hj).1; omega) hn (hdp j hj).2)); obtain ⟨rfl, rfl⟩ := h; refine ⟨by rw [Array.size_setIfInBounds]; exact hsz, hclo2, fun _ => ⟨k, _, hkm, rfl, fun t ht => ?_, fun j hj hn hlj => ?_, fun i2 hi2' => ?_, ?_⟩, fun h2 => (hls2 h2).elim⟩
       · rw [show upv f (D i) (vals i) t = f t from if_neg (fun e => ht i hi2 e.symm)]; exact hoth t ht
       · by_cases e : i = j
         · subst e; exact if_pos rfl
         · rw [show upv f (D i) (vals i) (D j) = f (D j) from if_neg (fun e2 => e (difB_at hd hj hi2 e2).symm)]; exact hv j hj hn ((lget_set e).symm.trans hlj)
       · rw [lget_set (fun e => hnc i2 (by omega) e.symm)]; exact hch i2 hi2'
       · by_cases h0 : k = 0
         · rw [if_pos h0] at hXk ⊢; exact hXk
         · rw [if_neg h0] at hXk ⊢; rw [show upv f (D i) (vals i) (D (c (k - 1))) = f (D (c (k - 1))) from if_neg (fun e2 => hnc (k - 1) (by omega) (difB_at hd (hlt _ (by omega)) hi2 e2))]; exact hXk
 · obtain ⟨hsz, hclo, hoff, hon⟩ := hJ
   have hall : ∀ i, i < s + 1 → listed.getD i true = true := by
    intro i
    induction i using Nat.strongRecOn with
    | ind i ih =>
      intro hi; cases hl : listed.getD i true with
      | true => rfl
      | false =>
        exfalso; obtain ⟨o, ho, hall⟩ := ordB_at hq hi
        have hm : i ∈ Region.ready .any ops listed := mem_ready.2 ⟨hl, o, ho, fun e he _ => by
         have hlt := hall e he; rw [lget_flip (d := true) (by omega)]; exact ih e.on hlt (by omega)⟩
        rw [hr] at hm; cases hm
   exact (hon (by rw [lget_flip (d := true) (by omega)]; exact hall s (by omega))).2
 · have hno : ∀ k, (Array.replicate ops.size false).getD k false = false := fun k => by
    rw [Array.getD_eq_getD_getElem?, Array.getElem?_replicate]; split <;> rfl
   refine ⟨by rw [Array.size_replicate, hs], fun i j _ h _ => ?_, fun _ => ⟨0, f0, Nat.zero_le _, rfl, fun _ _ => rfl, fun j hj _ h => ?_, fun i hi => ⟨fun h => ?_, fun h => by omega⟩, ?_⟩, fun h => ?_⟩
   · rw [hno] at h; cases h
   · rw [hno] at h; cases h
   · rw [hno] at h; cases h
   · rw [if_pos rfl]; exact hX
   · rw [hno] at h; cases h
 · exact Nat.le_trans (countN _) (by rw [Array.size_replicate]; exact Nat.le_refl _)
theorem fv_t {n : Nat} {f : Nat → Value} {t : Nat} (h : t < n) : (Fv n f).tmps[t]?.getD undef = f t := fv_get h rfl
def Needs (lo : Nat) (vs : List Value) (f : Nat → Value) : List Edge → Prop
 | [] => True
 | e :: es => (Region.binds .any e = true → f (lo + e.on) = vs.getD e.on undef) ∧ Needs lo vs f es
theorem needs_of {lo : Nat} {vs : List Value} {f : Nat → Value} : ∀ {l : List Edge}, (∀ e ∈ l, Region.binds .any e = true → f (lo + e.on) = vs.getD e.on undef) → Needs lo vs f l
 | [], _ => trivial
 | e :: es, h => ⟨h e (by simp), needs_of fun e' he => h e' (by simp [he])⟩
def guardsB (l : List Oper) : Bool := l.all fun o => match o.guard with | none => true | some (g, _) => o.after.any fun e => e.on == g && Region.binds .any e
inductive StepAll (P : Program) (Q : Exit → Act → World → Prop) (n lo : Nat) (vs : List Value) (f : Nat → Value) (w : World) : Nat → List Oper → List Value → Prop
 | nil {d : Nat} : StepAll P Q n lo vs f w d [] []
 | run {d : Nat} {o : Oper} {os : List Oper} {v : Value} {us : List Value} (hg : o.guard = none) (h : Needs lo vs f o.after.toList → ∀ K' : Act → World → Prop, (∀ a u, a = Fv n (upv f d v) ∧ Below w.heap.size w u → K' a u) → Oper.wp P o (Fv n f) w K' Q)
  (k : StepAll P Q n lo vs f w (d + 1) os us) : StepAll P Q n lo vs f w d (o :: os) (v :: us)
 | runG {d : Nat} {o : Oper} {os : List Oper} {v : Value} {us : List Value} {g : Nat} {b : Bool} (hg : o.guard = some (g, b)) (hv : vs.getD g undef = .bool b) (h : Needs lo vs f o.after.toList → ∀ K' : Act → World → Prop, (∀ a u, a = Fv n (upv f d v) ∧ Below w.heap.size w u → K' a u) → Oper.wp P o (Fv n f) w K' Q)
  (k : StepAll P Q n lo vs f w (d + 1) os us) : StepAll P Q n lo vs f w d (o :: os) (v :: us)
 | skip {d : Nat} {o : Oper} {os : List Oper} {us : List Value} {g : Nat} {b c : Bool} (hg : o.guard = some (g, b)) (hv : vs.getD g undef = .bool c) (hc : (c == b) = false)
  (k : StepAll P Q n lo vs f w (d + 1) os us) : StepAll P Q n lo vs f w d (o :: os) (undef :: us)
theorem stepAll_at {P : Program} {Q : Exit → Act → World → Prop} {n lo : Nat} {vs : List Value} {f : Nat → Value} {w : World} : ∀ {d : Nat} {os : List Oper} {us : List Value}, StepAll P Q n lo vs f w d os us → ∀ k o, os[k]? = some o → ∃ v, us[k]? = some v ∧ StepAll P Q n lo vs f w (d + k) (o :: os.drop (k + 1)) (v :: us.drop (k + 1)) := by
 intro d os us h
 induction h with
 | nil => intro k o ho; simp at ho
 | run hg h k ih =>
   intro j o ho; cases j with
   | zero => simp at ho; subst ho; exact ⟨_, rfl, .run hg h k⟩
   | succ j => obtain ⟨v, h1, h2⟩ := ih j o (by simpa using ho); exact ⟨v, by simpa using h1, by rw [show ∀ d : Nat, d + (j + 1) = d + 1 + j by omega]; exact h2⟩
 | runG hg hv h k ih =>
   intro j o ho; cases j with
   | zero => simp at ho; subst ho; exact ⟨_, rfl, .runG hg hv h k⟩
   | succ j => obtain ⟨v, h1, h2⟩ := ih j o (by simpa using ho); exact ⟨v, by simpa using h1, by rw [show ∀ d : Nat, d + (j + 1) = d + 1 + j by omega]; exact h2⟩
 | skip hg hv hc k ih =>
   intro j o ho; cases j with
   | zero => simp at ho; subst ho; exact ⟨_, rfl, .skip hg hv hc k⟩
   | succ j => obtain ⟨v, h1, h2⟩ := ih j o (by simpa using ho); exact ⟨v, by simpa using h1, by rw [show ∀ d : Nat, d + (j + 1) = d + 1 + j by omega]; exact h2⟩
theorem depB_of {l : List Oper} {i : Nat} {o : Oper} (ho : l[i]? = some o) {e : Edge} (he : e ∈ o.after.toList) (hb : Region.binds .any e = true) : depB l.toArray i e.on = true := by unfold depB; rw [show l.toArray[i]? = some o by simpa using ho]; simp only [Array.any_eq_true', Bool.and_eq_true, beq_iff_eq]; exact ⟨e, by simpa using he, rfl, hb⟩
theorem region_list {P : Program} {Q : Exit → Act → World → Prop} {id : Nat} {l : List Oper} {f0 : Nat → Value} {w : World} (hmix : P.follows .mixedOrders = true) (n lo s : Nat) (vs : List Value) (hn : lo + s ≤ n) (hs : l.length = s) (hsv : vs.length = s) (hq : seqB lo l.toArray s = true) (hg : guardsB l = true)
 (step : ∀ f w', Below w.heap.size w w' → (∀ t, (t < lo ∨ lo + s ≤ t) → f t = f0 t) → StepAll P Q n lo vs f w' lo l vs)
 (fin : ∀ w' f, Below w.heap.size w w' → (∀ j, j < s → f (lo + j) = vs.getD j undef) → Q .normal (Fv n (ovv f0 f lo s)) w') : (Code.region id l.toArray true).wp P Q (Fv n f0) w := by
 refine region_vals hmix n lo s (by simpa using hs) hq (fun t => vs.getD (t - lo) undef) (fun i hi f w' hb ho hv => ?_) (fun w' hb => ?_)
 · obtain ⟨o, hoi⟩ : ∃ o, l[i]? = some o := ⟨_, List.getElem?_eq_getElem (by omega)⟩
   have hoa : l.toArray[i]? = some o := (by simpa using hoi)
   obtain ⟨v, hvi, h⟩ := stepAll_at (step f w' hb (fun t ht => ho t (by omega))) i o hoi; obtain ⟨o', ho', hd, hlt⟩ := seq_at hq hi; obtain rfl : o = o' := Option.some.inj (hoa.symm.trans ho'); have hne : Needs lo vs f o.after.toList := needs_of fun e he hb => by rw [hv _ (depB_of hoi he hb), Nat.add_sub_cancel_left]
   have hvv : vs.getD (lo + i - lo) undef = v := (by rw [Nat.add_sub_cancel_left, List.getD_eq_getElem?_getD, hvi]; rfl)
   have hgd : ∀ g b, o.guard = some (g, b) → g < i ∧ f (lo + g) = vs.getD g undef ∧ (l.toArray[g]?).bind (·.dst) = some (lo + g) := fun g b hgb => by
    have := List.all_eq_true.1 hg o (List.mem_of_getElem? hoi); rw [hgb] at this; simp only [Array.any_eq_true', Bool.and_eq_true, beq_iff_eq] at this; obtain ⟨e, he, rfl, hb⟩ := this; have hl := hlt e he; obtain ⟨o2, ho2, hd2, _⟩ := seq_at hq (show e.on < s by omega); exact ⟨hl, by rw [hv _ (depB_of hoi (by simpa using he) hb), Nat.add_sub_cancel_left], by rw [ho2]; exact hd2⟩
   unfold StepV
   dsimp only
   rw [hvv]; refine wpOp_step hoa fun K' hK' => ?_; cases h with
   | run hg h k => rw [if_pos (wanted_none hg)]; exact h hne K' hK'
   | runG hgg hvg h k => obtain ⟨h1, h2, h3⟩ := hgd _ _ hgg; rw [if_pos (by rw [wanted_some hgg h3 (by omega) (h2.trans hvg)]; simp)]; exact h hne K' hK'
   | skip hgg hvg hc k => obtain ⟨h1, h2, h3⟩ := hgd _ _ hgg; rw [if_neg (by rw [wanted_some hgg h3 (by omega) (h2.trans hvg), hc]; decide), hd]; exact hK' _ _ ⟨fv_put _ _, Below.refl _ _⟩
 · exact fin w' _ hb (fun j hj => by rw [Nat.add_sub_cancel_left])
def NeedsC (lo : Nat) (vs : List Value) (cl : List Nat) (f : Nat → Value) : List Edge → Prop
 | [] => True
 | e :: es => (Region.binds .any e = true → cl.contains e.on = false → f (lo + e.on) = vs.getD e.on undef) ∧ NeedsC lo vs cl f es
theorem needsC_of {lo : Nat} {vs : List Value} {cl : List Nat} {f : Nat → Value} : ∀ {l : List Edge}, (∀ e ∈ l, Region.binds .any e = true → cl.contains e.on = false → f (lo + e.on) = vs.getD e.on undef) → NeedsC lo vs cl f l
 | [], _ => trivial
 | e :: es, h => ⟨h e (by simp), needsC_of fun e' he => h e' (by simp [he])⟩
def Prev (lo : Nat) (f : Nat → Value) (v : Value) : Option Nat → Prop
 | none => True
 | some j => f (lo + j) = v
structure Out (lo s : Nat) (f f0 : Nat → Value) : Prop where
 at_ : ∀ t, (t < lo ∨ lo + s ≤ t) → f t = f0 t
inductive Steps (P : Program) (Q : Exit → Act → World → Prop) (n lo s : Nat) (vs : List Value) (cl : List Nat) (X : Nat → Value → World → Prop) (f0 : Nat → Value) : Nat → Nat → Option Nat → List Oper → List Value → Prop
 | quiet {j k : Nat} {pv : Option Nat} {o : Oper} {os : List Oper} {v : Value} {us : List Value} (hg : o.guard = none) (hc : cl.contains j = false)
  (h : ∀ k' v' f w', X k' v' w' → Out lo s f f0 → NeedsC lo vs cl f o.after.toList → ∀ K' : Act → World → Prop, (∀ a u, a = Fv n (upv f (lo + j) v) ∧ u = w' → K' a u) → Oper.wp P o (Fv n f) w' K' Q)
  (r : Steps P Q n lo s vs cl X f0 (j + 1) k pv os us) : Steps P Q n lo s vs cl X f0 j k pv (o :: os) (v :: us)
 | chain {j k : Nat} {pv : Option Nat} {o : Oper} {os : List Oper} {v : Value} {us : List Value} (hg : o.guard = none) (hc : cl[k]? = some j)
  (h : ∀ v' f w', X k v' w' → Prev lo f v' pv → Out lo s f f0 → NeedsC lo vs cl f o.after.toList → ∀ K' : Act → World → Prop, (∀ a u, (∃ u', a = Fv n (upv f (lo + j) u') ∧ X (k + 1) u' u) → K' a u) → Oper.wp P o (Fv n f) w' K' Q)
  (r : Steps P Q n lo s vs cl X f0 (j + 1) (k + 1) (some j) os us) : Steps P Q n lo s vs cl X f0 j k pv (o :: os) (v :: us)
 | last {j k : Nat} {pv : Option Nat} {o : Oper} (hg : o.guard = none) (hc : cl[k]? = some j)
  (h : ∀ v' f w', X k v' w' → Prev lo f v' pv → Out lo s f f0 → (∀ i, i < s → cl.contains i = false → f (lo + i) = vs.getD i undef) → ∀ K' : Act → World → Prop, (∀ a u, Q .normal a u → K' a u) → Oper.wp P o (Fv n f) w' K' Q) : Steps P Q n lo s vs cl X f0 j k pv [o] []
section
variable {P : Program} {Q : Exit → Act → World → Prop} {n lo s : Nat} {vs : List Value} {cl : List Nat} {X : Nat → Value → World → Prop} {f0 : Nat → Value}
theorem steps_quiet : ∀ {j k : Nat} {pv : Option Nat} {os : List Oper} {us : List Value}, Steps P Q n lo s vs cl X f0 j k pv os us → ∀ i o, os[i]? = some o → cl.contains (j + i) = false → ∃ v, us[i]? = some v ∧ o.guard = none ∧
 ∀ k' v' f w', X k' v' w' → Out lo s f f0 → NeedsC lo vs cl f o.after.toList → ∀ K' : Act → World → Prop, (∀ a u, a = Fv n (upv f (lo + (j + i)) v) ∧ u = w' → K' a u) → Oper.wp P o (Fv n f) w' K' Q := by
 intro j k pv os us h
 induction h with
 | quiet hg hc h r ih =>
   intro i o ho hi; cases i with
   | zero => simp at ho; subst ho; exact ⟨_, rfl, hg, h⟩
   | succ i => obtain ⟨v, h1, h2⟩ := ih i o (by simpa using ho) (by rw [show ∀ j : Nat, j + 1 + i = j + (i + 1) by omega]; exact hi); exact ⟨v, by simpa using h1, by rw [show ∀ j : Nat, j + (i + 1) = j + 1 + i by omega]; exact h2⟩
 | @chain j k pv o1 os v us hg hc h r ih =>
   intro i o ho hi; cases i with
   | zero => rw [Nat.add_zero] at hi; have := List.mem_of_getElem? hc; simp [this] at hi
   | succ i => obtain ⟨v, h1, h2⟩ := ih i o (by simpa using ho) (by rw [show ∀ j : Nat, j + 1 + i = j + (i + 1) by omega]; exact hi); exact ⟨v, by simpa using h1, by rw [show ∀ j : Nat, j + (i + 1) = j + 1 + i by omega]; exact h2⟩
 | @last j k pv o1 hg hc h =>
   intro i o ho hi; cases i with
   | zero => rw [Nat.add_zero] at hi; have := List.mem_of_getElem? hc; simp [this] at hi
   | succ i => simp at ho
def pvOf (cl : List Nat) (k : Nat) : Option Nat := if k = 0 then none else cl[k - 1]?
theorem steps_chain : ∀ {j k : Nat} {pv : Option Nat} {os : List Oper} {us : List Value}, Steps P Q n lo s vs cl X f0 j k pv os us → pv = pvOf cl k → ∀ i q o, os[i]? = some o → cl[k + q]? = some (j + i) → (∀ a b c : Nat, cl[a]? = some c → cl[b]? = some c → a = b) → i + 1 < os.length → o.guard = none ∧
 ∀ v' f w', X (k + q) v' w' → Prev lo f v' (pvOf cl (k + q)) → Out lo s f f0 → NeedsC lo vs cl f o.after.toList → ∀ K' : Act → World → Prop, (∀ a u, (∃ u', a = Fv n (upv f (lo + (j + i)) u') ∧ X (k + q + 1) u' u) → K' a u) → Oper.wp P o (Fv n f) w' K' Q := by
 intro j k pv os us h
 induction h with
 | @quiet j k pv o1 os v us hg hc h r ih =>
   intro hp i q o ho hi hinj hl; cases i with
   | zero => rw [Nat.add_zero] at hi; have := List.mem_of_getElem? hi; simp [this] at hc
   | succ i => have := ih hp i q o (by simpa using ho) (by rw [show j + 1 + i = j + (i + 1) by omega]; exact hi) hinj (by simpa using hl); rw [show j + (i + 1) = j + 1 + i by omega]; exact this
 | @chain j k pv o1 os v us hg hc h r ih =>
   intro hp i q o ho hi hinj hl; cases i with
   | zero =>
     simp at ho; subst ho; have : k = k + q := hinj _ _ _ hc hi; obtain rfl : q = 0 := by omega
     rw [hp] at h; exact ⟨hg, h⟩
   | succ i =>
     cases q with
     | zero => have hj := hc.symm.trans hi; simp only [Option.some.injEq] at hj; omega
     | succ q => have := ih (by unfold pvOf; rw [if_neg (by omega), Nat.add_sub_cancel]; exact hc.symm) i q o (by simpa using ho) (by rw [show j + 1 + i = j + (i + 1) by omega, show k + 1 + q = k + (q + 1) by omega]; exact hi) hinj (by simpa using hl); rw [show j + (i + 1) = j + 1 + i by omega, show k + (q + 1) = k + 1 + q by omega]; exact this
 | last hg hc h => intro hp i q o ho hi hinj hl; simp at hl
theorem steps_last : ∀ {j k : Nat} {pv : Option Nat} {os : List Oper} {us : List Value}, Steps P Q n lo s vs cl X f0 j k pv os us → pv = pvOf cl k → ∃ m o, k ≤ m ∧ os[os.length - 1]? = some o ∧ cl[m]? = some (j + (os.length - 1)) ∧ os.length = us.length + 1 ∧ o.guard = none ∧
 ∀ v' f w', X m v' w' → Prev lo f v' (pvOf cl m) → Out lo s f f0 → (∀ i, i < s → cl.contains i = false → f (lo + i) = vs.getD i undef) → ∀ K' : Act → World → Prop, (∀ a u, Q .normal a u → K' a u) → Oper.wp P o (Fv n f) w' K' Q := by
 intro j k pv os us h
 induction h with
 | @quiet j k pv o1 os v us hg hc h r ih =>
   intro hp; obtain ⟨m, o, h1, h2, h3, h4, h5⟩ := ih hp; refine ⟨m, o, h1, ?_, ?_, by simp [h4], h5⟩
   · rw [List.length_cons, show os.length + 1 - 1 = os.length - 1 + 1 by omega]; simpa using h2
   · rw [List.length_cons, show j + (os.length + 1 - 1) = j + 1 + (os.length - 1) by omega]; exact h3
 | @chain j k pv o1 os v us hg hc h r ih =>
   intro hp; obtain ⟨m, o, h1, h2, h3, h4, h5⟩ := ih (by unfold pvOf; rw [if_neg (by omega), Nat.add_sub_cancel]; exact hc.symm); refine ⟨m, o, by omega, ?_, ?_, by simp [h4], h5⟩
   · rw [List.length_cons, show os.length + 1 - 1 = os.length - 1 + 1 by omega]; simpa using h2
   · rw [List.length_cons, show j + (os.length + 1 - 1) = j + 1 + (os.length - 1) by omega]; exact h3
 | last hg hc h => intro hp; rw [hp] at h; exact ⟨_, _, Nat.le_refl _, rfl, hc, rfl, hg, h⟩
theorem region_steps {id : Nat} {l : List Oper} {w : World} (hmix : P.follows .mixedOrders = true) (n lo s m : Nat) (vs : List Value) (cl : List Nat) (hs : l.length = s + 1) (hq : ordB l.toArray (s + 1) = true) (hd : difB (fun j => lo + j) s = true) (hl : lastB l.toArray s = true)
 (hcl : cl.length = m + 1) (hcB : chainB l.toArray (fun k => cl.getD k 0) m s = true) (X : Nat → Value → World → Prop) (h0 : X 0 undef w.drew)
 (step : Steps P Q n lo s vs cl X f0 0 0 none l vs) : (Code.region id l.toArray true).wp P Q (Fv n f0) w := by
 obtain ⟨hcs, hlt, hinj, hdep⟩ := chainB_at hcB; have get : ∀ k, k ≤ m → cl[k]? = some (cl.getD k 0) := fun k hk => by rw [List.getD_eq_getElem?_getD, List.getElem?_eq_getElem (by omega)]; rfl
 have inj : ∀ a b c : Nat, cl[a]? = some c → cl[b]? = some c → a = b := fun a b c ha hb => by
  have la := (List.getElem?_eq_some_iff.1 ha).1; have lb := (List.getElem?_eq_some_iff.1 hb).1; refine hinj a b (by omega) (by omega) ?_; rw [List.getD_eq_getElem?_getD, List.getD_eq_getElem?_getD, ha, hb]
 have hnot : ∀ i, (∀ k, k ≤ m → cl.getD k 0 ≠ i) → cl.contains i = false := fun i hn => by
  rw [List.contains_eq_mem, decide_eq_false_iff_not]; intro hm; obtain ⟨k, hk⟩ := List.mem_iff_getElem?.1 hm; have lk := (List.getElem?_eq_some_iff.1 hk).1; exact hn k (by omega) (by rw [List.getD_eq_getElem?_getD, hk]; rfl)
 have hyes : ∀ j, cl.contains j = false → ∀ k, k ≤ m → cl.getD k 0 ≠ j := fun j hj k hk e => by
  have := List.mem_of_getElem? (get k hk); rw [e] at this; simp [this] at hj
 have opAt : ∀ i, i < s + 1 → ∃ o, l[i]? = some o ∧ l.toArray[i]? = some o := fun i hi => ⟨l[i], List.getElem?_eq_getElem (by omega), by simp⟩
 have prevOf : ∀ k (v : Value) (f : Nat → Value), k ≤ m → (0 < k → f (lo + cl.getD (k - 1) 0) = v) → Prev lo f v (pvOf cl k) := fun k v f hk h => by
  unfold pvOf; split
  · trivial
  · rw [get (k - 1) (by omega)]; exact h (by omega)
 refine region_chain hmix n s m (fun k => cl.getD k 0) (fun j => lo + j) (by simpa using hs) hq hd hl hcB (fun i => vs.getD i undef) X h0 ?_ ?_ ?_
 · intro i hi hn k v f w' hk hX ho hv; obtain ⟨o, h1, h2⟩ := opAt i (by omega); obtain ⟨v1, h3, h4, h5⟩ := steps_quiet step i o h1 (by rw [Nat.zero_add]; exact hnot i hn); rw [Nat.zero_add] at h5; refine wpOp_step h2 fun K' hK' => ?_; rw [if_pos (wanted_none h4)]; refine h5 k v f w' hX ⟨fun t ht => ho t (fun j hj e => by omega)⟩ (needsC_of fun e he hb hc => hv _ (depB_of h1 he hb) (hyes _ hc)) K' (fun a u h => hK' a u ?_); rw [List.getD_eq_getElem?_getD, h3]; exact h
 · intro k hk v f w' hX hp ho hv; obtain ⟨o, h1, h2⟩ := opAt (cl.getD k 0) (by have := hlt k hk; omega); obtain ⟨h4, h5⟩ := steps_chain step rfl (cl.getD k 0) k o h1 (by rw [Nat.zero_add, Nat.zero_add]; exact get k (by omega)) inj (by have := hlt k hk; omega); rw [Nat.zero_add, Nat.zero_add] at h5; refine wpOp_step h2 fun K' hK' => ?_; rw [if_pos (wanted_none h4)]; exact h5 v f w' hX (prevOf k v f (by omega) hp) ⟨fun t ht => ho t (fun j hj e => by omega)⟩ (needsC_of fun e he hb hc => hv _ (depB_of h1 he hb) (hyes _ hc)) K' (fun a u h => hK' a u h)
 · intro v f w' hX hp ho hv; obtain ⟨m', o, -, h1, h3, -, h4, h5⟩ := steps_last step rfl; rw [hs, Nat.zero_add, Nat.add_sub_cancel] at h3; rw [hs, Nat.add_sub_cancel] at h1; obtain rfl : m' = m := inj _ _ _ h3 (by rw [get m (Nat.le_refl _)]; exact congrArg some hcs); refine wpOp_step (by simpa using h1) fun K' hK' => ?_; rw [if_pos (wanted_none h4)]; exact h5 v f w' hX (prevOf _ v f (Nat.le_refl _) hp) ⟨fun t ht => ho t (fun j hj e => by omega)⟩ (fun i hi hc => hv i hi (hyes _ hc)) K' (fun a u h => hK' a u h)
end
end Go.Proofs.YtkbfjkbokifgkaaGreatDoor
