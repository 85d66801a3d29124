/- A region that draws its order and whose operations each tell one value, whatever the order; what they call only makes memory. -/
import Derived.Test.YtkbfjkbokifgkaaDoorRows
import Derived.WalkKit
import Derived.Below
import Derived.Orders
import Derived.RegionTactic
import Derived.Lib.Hide
namespace Go.Proofs.YtkbfjkbokifgkaaDoor
open Go.RowKit
set_option linter.unusedVariables false

/-- A frame as a function. -/
def Fv (n : Nat) (f : Nat → Value) : Act := { tmps := ((List.range n).map f).toArray, defers := [] }
def upv (f : Nat → Value) (s : Nat) (v : Value) : Nat → Value := fun t => if t = s then v else f t
theorem fv_get {n : Nat} {f : Nat → Value} {t : Nat} {v : Value} (h : t < n) (hv : f t = v) : (Fv n f).tmps[t]?.getD undef = v := by simp [Fv, h, hv]
theorem fv_at {n : Nat} {f : Nat → Value} {t : Nat} (h : t < n) : (Fv n f).tmps[t]? = some (f t) := by simp [Fv, h]
theorem fv_set {n : Nat} {f : Nat → Value} (d : Nat) (v : Value) : ({ tmps := (Fv n f).tmps.setIfInBounds d v, defers := (Fv n f).defers } : Act) = Fv n (upv f d v) := by
  have : (Fv n f).tmps.setIfInBounds d v = (Fv n (upv f d v)).tmps := by
    apply Array.ext
    · simp [Fv]
    · intro i h1 h2
      have hi : i < n := by simpa [Fv] using h2
      rw [Array.getElem_setIfInBounds (by simpa [Fv] using hi)]
      simp only [Fv, List.getElem_toArray, List.getElem_map, List.getElem_range, upv]
      by_cases h : d = i
      · rw [if_pos h, if_pos h.symm]
      · rw [if_neg h, if_neg (fun e => h e.symm)]
  rw [this]
  rfl
theorem fv_put {n : Nat} {f : Nat → Value} (d : Nat) (v : Value) : (Fv n f).put (some d) v = Fv n (upv f d v) := fv_set d v
theorem fv_of (l : List Value) : ({ tmps := l.toArray, defers := [] } : Act) = Fv l.length (fun k => l[k]?.getD undef) := by
  have : l.toArray = (Fv l.length (fun k => l[k]?.getD undef)).tmps := by
    apply Array.ext
    · simp [Fv]
    · intro i h1 h2
      have hi : i < l.length := by simpa using h1
      simp [Fv, hi]
  rw [this]
  rfl
/-- Values from one slot on up to another, else what was there. -/
def ovv (f0 f : Nat → Value) (lo s : Nat) : Nat → Value := fun t => if lo ≤ t ∧ t < lo + s then f t else f0 t
theorem wp_fv {P : Program} {Q : Exit → Act → World → Prop} {c : Code} {w : World} (l : List Value) (n : Nat) (hn : l.length = n) (h : c.wp P Q (Fv n fun k => l[k]?.getD undef) w) : c.wp P Q { tmps := l.toArray, defers := [] } w := by
  subst hn
  rw [fv_of]
  exact h
/-- Does an operation come behind another? -/
def depB (ops : Array Oper) (i j : Nat) : Bool := match ops[i]? with
  | some o => o.after.any fun e => e.on == j && Region.binds .any e
  | none => false
/-- Is an operation's slot the one that is said, and does it come behind earlier ones alone? -/
def seqB (lo : Nat) (ops : Array Oper) : Nat → Bool
  | 0 => true
  | i + 1 => (match ops[i]? with | some o => o.dst == some (lo + i) && o.after.all (fun e => decide (e.on < i)) | none => false) && seqB lo ops i
theorem seq_at {lo : Nat} {ops : Array Oper} : ∀ {n i : Nat}, seqB lo ops n = true → i < n → ∃ o, ops[i]? = some o ∧ o.dst = some (lo + i) ∧ ∀ e ∈ o.after, e.on < i
  | 0, i, _, h => absurd h (by omega)
  | n + 1, i, h, hi => by
    unfold seqB at h
    rw [Bool.and_eq_true] at h
    by_cases hin : i = n
    · subst hin
      cases ho : ops[i]? with
      | none => rw [ho] at h; simp at h
      | some o =>
        rw [ho] at h
        simp only [Bool.and_eq_true, beq_iff_eq, Array.all_eq_true_iff_forall_mem, decide_eq_true_eq] at h
        exact ⟨o, rfl, h.1.1, h.1.2⟩
    · exact seq_at h.2 (by omega)
structure VJ (n lo s : Nat) (w1 : World) (vals f0 : Nat → Value) (listed : Array Bool) (a : Act) (w : World) : Prop where
  size : listed.size = s
  act : ∃ f, a = Fv n f ∧ (∀ t, ¬ (lo ≤ t ∧ t < lo + s) → f t = f0 t) ∧ ∀ j, j < s → listed.getD j false = true → f (lo + j) = vals (lo + j)
  below : Below w1.heap.size w1 w
/-- What an operation is to do: tell its value, and make memory at most. -/
def StepV (P : Program) (ops : Array Oper) (Q : Exit → Act → World → Prop) (n lo : Nat) (vals : Nat → Value) (i : Nat) (f : Nat → Value) (w : World) : Prop :=
  wpOp P ops Q i (fun a' w' => a' = Fv n (upv f (lo + i) (vals (lo + i))) ∧ Below w.heap.size w w') (Fv n f) w
theorem countN (listed : Array Bool) : listed.toList.countP (fun b => !b) ≤ listed.size := by
  have := List.countP_le_length (p := fun b : Bool => !b) (l := listed.toList)
  simpa using this
theorem count_set {listed : Array Bool} {i : Nat} (h : listed.getD i true = false) : (listed.setIfInBounds i true).toList.countP (fun b => !b) + 1 = listed.toList.countP (fun b => !b) := by
  have hlt : i < listed.size := by
    rcases Nat.lt_or_ge i listed.size with h' | h'
    · exact h'
    · simp [Array.getElem?_eq_none h'] at h
  have hf : listed[i] = false := by simpa [hlt] using h
  rw [Array.toList_setIfInBounds]
  have hl : i < listed.toList.length := by simpa using hlt
  have hg : listed.toList[i] = false := by simpa using hf
  generalize listed.toList = l at hl hg
  clear hlt hf h
  induction l generalizing i with
  | nil => simp at hl
  | cons b r ih =>
    cases i with
    | zero =>
      simp at hg
      subst hg
      simp
    | succ i =>
      simp only [List.set_cons_succ, List.countP_cons]
      have := ih (i := i) (by simpa using hl) (by simpa using hg)
      omega
theorem any_inv {P : Program} {md : Region.Mode} {ops : Array Oper} {Q : Exit → Act → World → Prop} (J : Array Bool → Act → World → Prop)
    (step : ∀ listed a w, J listed a w → ∀ i o, ops[i]? = some o → listed.getD i true = false → (∀ e ∈ o.after, Region.binds md e = true → listed.getD e.on false = true) →
      wpOp P ops Q i (fun a' w' => J (listed.setIfInBounds i true) a' w') a w)
    (fin : ∀ listed a w, J listed a w → Region.ready md ops listed = [] → Q .normal a w) :
    ∀ (fuel : Nat) (listed : Array Bool) (a : Act) (w : World), J listed a w → listed.toList.countP (fun b => !b) ≤ fuel → wpAny P md ops Q fuel listed a w := by
  intro fuel
  induction fuel with
  | zero =>
    intro listed a w hJ hl
    have hr : Region.ready md ops listed = [] := by
      cases hrs : Region.ready md ops listed with
      | nil => rfl
      | cons i r =>
        have hi := (mem_ready.1 (show i ∈ Region.ready md ops listed by rw [hrs]; exact List.mem_cons_self ..)).1
        have := count_set hi
        omega
    exact ⟨hr, fin listed a w hJ hr⟩
  | succ fuel ih =>
    intro listed a w hJ hl
    refine ⟨fin listed a w hJ, fun i hi => ?_⟩
    obtain ⟨h1, o, ho, hall⟩ := mem_ready.1 hi
    exact wpOp_mono (fun a' w' h => ih _ a' w' h (by have := count_set h1; omega)) (step listed a w hJ i o ho h1 hall)
theorem lget_set {l : Array Bool} {i j : Nat} (h : i ≠ j) : (l.setIfInBounds i true).getD j false = l.getD j false := by
  rw [Array.getD_eq_getD_getElem?, Array.getD_eq_getD_getElem?, Array.getElem?_setIfInBounds_ne h]
theorem lget_flip {l : Array Bool} {i : Nat} {c d : Bool} (h : i < l.size) : l.getD i c = l.getD i d := by
  rw [Array.getD_eq_getD_getElem?, Array.getD_eq_getD_getElem?, Array.getElem?_eq_getElem h]
  rfl
theorem listed_all {ops : Array Oper} {listed : Array Bool} {lo s : Nat} (hq : seqB lo ops s = true) (hr : Region.ready .any ops listed = []) (hs : listed.size = s) : ∀ i, i < s → listed.getD i true = true := by
  intro i
  induction i using Nat.strongRecOn with
  | ind i ih =>
    intro hi
    cases hl : listed.getD i true with
    | true => rfl
    | false =>
      exfalso
      obtain ⟨o, ho, _, hall⟩ := seq_at hq hi
      have hm : i ∈ Region.ready .any ops listed := mem_ready.2 ⟨hl, o, ho, fun e he _ => by
        have hlt := hall e he
        rw [lget_flip (d := true) (by omega)]
        exact ih e.on hlt (by omega)⟩
      rw [hr] at hm
      cases hm
theorem region_vals {P : Program} {Q : Exit → Act → World → Prop} {id : Nat} {ops : Array Oper} {f0 : Nat → Value} {w : World} (hmix : P.follows .mixedOrders = true) (n lo s : Nat) (hs : ops.size = s) (hq : seqB lo ops s = true) (vals : Nat → Value)
    (step : ∀ i, i < s → ∀ f w', Below w.heap.size w w' → (∀ t, ¬ (lo ≤ t ∧ t < lo + s) → f t = f0 t) → (∀ j, depB ops i j = true → f (lo + j) = vals (lo + j)) → StepV P ops Q n lo vals i f w')
    (fin : ∀ w', Below w.heap.size w w' → Q .normal (Fv n (ovv f0 vals lo s)) w') : (Code.region id ops true).wp P Q (Fv n f0) w := by
  refine wp_region_any hmix ?_
  refine any_inv (VJ n lo s w vals f0) (fun listed a w' hJ i o ho hl hall => ?_) (fun listed a w' hJ hr => ?_) ops.size _ _ _ ?_ ?_
  · obtain ⟨hsz, ⟨f, rfl, hoth, hv⟩, hb⟩ := hJ
    have hi : i < s := by
      rw [← hs]
      exact (Array.getElem?_eq_some_iff.1 ho).1
    refine wpOp_mono (fun a' w'' h => ?_) (step i hi f w' hb hoth (fun j hj => ?_))
    · obtain ⟨rfl, hb2⟩ := h
      refine ⟨by rw [Array.size_setIfInBounds]; exact hsz, ⟨_, rfl, fun t ht => ?_, fun j hj hlj => ?_⟩, hb.trans (hb2.mono hb.size)⟩
      · rw [show upv f (lo + i) (vals (lo + i)) t = f t from if_neg (by omega)]
        exact hoth t ht
      · by_cases hij : i = j
        · subst hij
          exact if_pos rfl
        · rw [show upv f (lo + i) (vals (lo + i)) (lo + j) = f (lo + j) from if_neg (by omega)]
          exact hv j hj ((lget_set hij).symm.trans hlj)
    · unfold depB at hj
      rw [ho] at hj
      simp only [Array.any_eq_true, Bool.and_eq_true, beq_iff_eq] at hj
      obtain ⟨k, hk, rfl, hbd⟩ := hj
      obtain ⟨o', ho', _, hlt⟩ := seq_at hq hi
      obtain rfl : o = o' := Option.some.inj (ho.symm.trans ho')
      have hm := Array.getElem_mem hk
      exact hv _ (by have := hlt _ hm; omega) (hall _ hm hbd)
  · obtain ⟨hsz, ⟨f, rfl, hoth, hv⟩, hb⟩ := hJ
    have hall := listed_all hq hr hsz
    have : f = ovv f0 vals lo s := by
      funext t
      unfold ovv
      split
      · rename_i ht
        have := hv (t - lo) (by omega) (by rw [lget_flip (d := true) (by omega)]; exact hall _ (by omega))
        rwa [show lo + (t - lo) = t by omega] at this
      · rename_i ht
        exact hoth t ht
    rw [this]
    exact fin w' hb
  · refine ⟨by rw [Array.size_replicate, hs], ⟨f0, rfl, fun _ _ => rfl, fun j hj hl => ?_⟩, (Below.refl _ _).drew⟩
    rw [Array.getD_eq_getD_getElem?, Array.getElem?_replicate] at hl
    split at hl <;> cases hl
  · exact Nat.le_trans (countN _) (by rw [Array.size_replicate]; exact Nat.le_refl _)
theorem wanted_none {o : Oper} {y : Nat → Option Bool} (h : o.guard = none) : Region.wanted o y = true := by
  unfold Region.wanted
  rw [h]
theorem wanted_some {ops : Array Oper} {n g d : Nat} {f : Nat → Value} {b c : Bool} {o : Oper} (h : o.guard = some (g, b)) (hd : (ops[g]?).bind (·.dst) = some d) (hn : d < n) (hf : f d = .bool c) : Region.wanted o (yielded ops (Fv n f).tmps) = (c == b) := by
  unfold Region.wanted yielded
  rw [h]
  simp only [hd, Option.bind_some]
  rw [fv_at hn, hf]
  cases c <;> cases b <;> rfl
/-- An operation that is passed over. -/
theorem step_off {P : Program} {ops : Array Oper} {Q : Exit → Act → World → Prop} {n lo : Nat} {vals : Nat → Value} {i : Nat} {f : Nat → Value} {w : World} {g d : Nat} {b c : Bool} {o : Oper} (ho : ops[i]? = some o) (hdst : o.dst = some (lo + i)) (h : o.guard = some (g, b)) (hd : (ops[g]?).bind (·.dst) = some d) (hn : d < n) (hf : f d = .bool c)
    (hcb : (c == b) = false) (hv : vals (lo + i) = undef) : StepV P ops Q n lo vals i f w := by
  refine wpOp_step ho ?_
  intro K' hK'
  rw [if_neg (by rw [wanted_some h hd hn hf, hcb]; decide), hdst]
  exact hK' _ _ ⟨by rw [hv]; exact fv_put _ _, Below.refl _ _⟩
end Go.Proofs.YtkbfjkbokifgkaaDoor
