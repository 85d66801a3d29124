/- What a body's types are: the reference finds the same. -/
import Derived.Test.YtacohbllbjgdgaaDoorVp
namespace Go.Proofs.YtacohbllbjgdgaaDoor
open Go.RowKit
set_option linter.unusedVariables false
set_option linter.unusedSimpArgs false

def ok01 (t : Int) : Prop := t = 0 ∨ t = 126 ∨ t = 127
def tyo (t : Int) : Prop := t = 126 ∨ t = 127
theorem tyo.ok {t : Int} (h : tyo t) : ok01 t := by unfold tyo at h; unfold ok01; omega
structure Wf (s : Ts) : Prop where
  fs : ∃ f r, s.fs = f :: r ∧ f.h ≤ s.st.length
  st : ∀ t ∈ s.st, ok01 t
  ty : ∀ f ∈ s.fs, (∀ t ∈ f.goes, tyo t) ∧ (∀ t ∈ f.ends, tyo t)
/-- The frames are as they were, but that the innermost may be dead. -/
def Kf (s s' : Ts) : Prop := ∃ f f' r, s.fs = f :: r ∧ s'.fs = f' :: r ∧ f'.goes = f.goes ∧ f'.ends = f.ends ∧ f'.h = f.h
theorem Kf.refl {s : Ts} (h : Wf s) : Kf s s := by
  obtain ⟨f, r, e, _⟩ := h.fs
  exact ⟨f, f, r, e, e, rfl, rfl, rfl⟩
theorem Kf.trans {a b c : Ts} (h : Kf a b) (k : Kf b c) : Kf a c := by
  obtain ⟨f, f', r, e1, e2, h1, h2, h3⟩ := h
  obtain ⟨g, g', q, e3, e4, k1, k2, k3⟩ := k
  rw [e2] at e3
  cases e3
  exact ⟨f, g', r, e1, e4, k1.trans h1, k2.trans h2, k3.trans h3⟩
def up (s : Ts) : Rs := ⟨0, s.st, s.fs⟩
def Sm (s : Ts) (e : Except Int Ts) (r : Rs) : Prop :=
  match e with
  | .ok t => Wf t ∧ Kf s t ∧ r = up t
  | .error n => n ≠ 0 ∧ r.w = n
def Stay (g : Rs → Rs) : Prop := ∀ s, s.w ≠ 0 → (g s).w = s.w
theorem Sm.ok {s t : Ts} (h : Wf t) (k : Kf s t) : Sm s (.ok t) (up t) := ⟨h, k, rfl⟩
theorem Sm.bind {s : Ts} {e : Except Int Ts} {r : Rs} {k : Ts → Except Int Ts} {g : Rs → Rs} (h : Sm s e r) (hk : ∀ t, Wf t → Kf s t → Sm t (k t) (g (up t))) (hg : Stay g) : Sm s (e.bind k) (g r) := by
  cases e with
  | error n =>
    obtain ⟨h1, h2⟩ := h
    exact ⟨h1, (hg r (by rw [h2]; exact h1)).trans h2⟩
  | ok t =>
    obtain ⟨h1, h2, rfl⟩ := h
    have := hk t h1 h2
    show Sm s (k t) (g (up t))
    cases hkt : k t with
    | error n => rw [hkt] at this; exact this
    | ok u =>
      rw [hkt] at this
      exact ⟨this.1, h2.trans this.2.1, this.2.2⟩
theorem bad_w {e : Int} (he : e ≠ 0) {s : Rs} (h : s.w = 0) : (rBad e s).w = e := by unfold rBad; rw [if_pos h]
theorem bad_st (e : Int) : Stay (rBad e) := fun s h => by unfold rBad; rw [if_neg h]
theorem push_st (l : List Int) : Stay (rPush l) := fun s h => by unfold rPush; rw [if_neg h]
theorem pop_st (t : Int) : Stay (fun s => (rPop t s).2) := fun s h => by
  show (rPop t s).2.w = s.w
  unfold rPop
  rw [if_neg h]
theorem pop_0 {t : Int} {s : Rs} (h : s.w ≠ 0) : rPop t s = (0, s) := by unfold rPop; rw [if_neg h]
theorem Stay.comp {f g : Rs → Rs} (hf : Stay f) (hg : Stay g) : Stay (fun s => g (f s)) := fun s h => by
  have h1 := hf s h
  exact (hg (f s) (by rw [h1]; exact h)).trans h1
theorem pops_st : ∀ l : List Int, Stay (rPops l)
  | [] => fun s h => rfl
  | t :: r => (pop_st t).comp (pops_st r)
theorem popL_st (l : List Int) : Stay (rPopL l) := pops_st _
theorem dead_st : Stay rDead := fun s h => by unfold rDead; rw [if_neg h]
theorem block_st (B : Rs → Rs) (g e : List Int) : Stay (rBlock B g e) := fun s h => by unfold rBlock; rw [if_neg h]
theorem push_sm {s : Ts} (h : Wf s) {l : List Int} (hl : ∀ t ∈ l, ok01 t) : Sm s (.ok (tPush l s)) (rPush l (up s)) := by
  have e : rPush l (up s) = up (tPush l s) := by unfold rPush up tPush; rfl
  rw [e]
  obtain ⟨f, r, e1, e2⟩ := h.fs
  refine .ok ⟨⟨f, r, e1, by unfold tPush; rw [List.length_append]; omega⟩, fun t ht => ?_, h.ty⟩ ⟨f, f, r, e1, e1, rfl, rfl, rfl⟩
  unfold tPush at ht
  rcases List.mem_append.1 ht with ht | ht
  · exact hl t (List.mem_reverse.1 ht)
  · exact h.st t ht
/-- What popping tells. -/
theorem pop_sm {s : Ts} (h : Wf s) (t : Int) : match tPop t s with | .ok q => Wf q.2 ∧ Kf s q.2 ∧ ok01 q.1 ∧ rPop t (up s) = (q.1, up q.2) | .error n => n ≠ 0 ∧ (rPop t (up s)).2.w = n := by
  obtain ⟨f, r, e1, e2⟩ := h.fs
  have hk := Kf.refl h
  have ha : rPop t (up s) = (if s.st.length = f.h then (0, if f.dead = true then up s else rBad 60 (up s)) else match s.st with | [] => (0, up s) | x :: q => (x, if t ≠ 0 ∧ x ≠ 0 ∧ x ≠ t then rBad 60 ⟨0, q, f :: r⟩ else ⟨0, q, f :: r⟩)) := by
    unfold rPop
    rw [if_pos (show (up s).w = 0 from rfl), show (up s).fs = f :: r from e1]
    rfl
  have hb : tPop t s = (if s.st.length = f.h then (if f.dead = true then .ok (0, s) else .error 60) else match s.st with | [] => .error 0 | x :: q => if t ≠ 0 ∧ x ≠ 0 ∧ x ≠ t then .error 60 else .ok (x, ⟨q, s.fs⟩)) := by
    unfold tPop
    rw [e1] <;> rfl
  rw [ha, hb]
  by_cases h1 : s.st.length = f.h
  · rw [if_pos h1, if_pos h1]
    by_cases h2 : f.dead = true
    · rw [if_pos h2, if_pos h2]
      exact ⟨h, hk, .inl rfl, rfl⟩
    · rw [if_neg h2, if_neg h2]
      exact ⟨by decide, bad_w (by decide) rfl⟩
  · rw [if_neg h1, if_neg h1]
    cases hst : s.st with
    | nil => rw [hst] at h1 e2; simp at h1 e2; omega
    | cons x q =>
      dsimp only
      have hx := h.st x (by rw [hst]; exact List.mem_cons_self)
      by_cases h3 : t ≠ 0 ∧ x ≠ 0 ∧ x ≠ t
      · rw [if_pos h3, if_pos h3]
        exact ⟨by decide, bad_w (by decide) rfl⟩
      · rw [if_neg h3, if_neg h3]
        rw [hst] at h1 e2
        rw [List.length_cons] at h1 e2
        exact ⟨⟨⟨f, r, e1, by show f.h ≤ q.length; omega⟩, fun u hu => h.st u (by rw [hst]; exact List.mem_cons_of_mem _ hu), h.ty⟩, ⟨f, f, r, e1, e1, rfl, rfl, rfl⟩, hx, by rw [← e1]; rfl⟩
theorem pop1_sm {s : Ts} (h : Wf s) (t : Int) : Sm s ((tPop t s).bind fun q => .ok q.2) (rPop t (up s)).2 := by
  have := pop_sm h t
  cases hp : tPop t s with
  | error n => rw [hp] at this; exact this
  | ok q => rw [hp] at this; obtain ⟨h1, h2, _, h3⟩ := this; rw [h3]; exact ⟨h1, h2, rfl⟩
theorem popk_sm {s : Ts} (h : Wf s) (t : Int) {k : Int × Ts → Except Int Ts} {g : Rs → Rs} (hk : ∀ q : Int × Ts, Wf q.2 → Kf s q.2 → Sm q.2 (k q) (g (up q.2))) (hg : Stay g) : Sm s ((tPop t s).bind k) (g (rPop t (up s)).2) := by
  have := pop_sm h t
  cases hp : tPop t s with
  | error n => rw [hp] at this; exact ⟨this.1, (hg _ (by rw [this.2]; exact this.1)).trans this.2⟩
  | ok q =>
    rw [hp] at this
    obtain ⟨h1, h2, _, h3⟩ := this
    rw [h3]
    have := hk q h1 h2
    show Sm s (k q) _
    cases hkt : k q with
    | error n => rw [hkt] at this; exact this
    | ok u =>
      rw [hkt] at this
      exact ⟨this.1, h2.trans this.2.1, this.2.2⟩
theorem pops_sm : ∀ (l : List Int) {s : Ts}, Wf s → Sm s (tPops l s) (rPops l (up s))
  | [], s, h => .ok h (.refl h)
  | t :: r, s, h => popk_sm (g := rPops r) h t (fun q h1 _ => pops_sm r h1) (pops_st r)
theorem popL_sm {s : Ts} (h : Wf s) (l : List Int) : Sm s (tPopL l s) (rPopL l (up s)) := pops_sm _ h
theorem dies_sm {s : Ts} (h : Wf s) : Sm s (.ok (tDies s)) (rDead (up s)) := by
  obtain ⟨f, r, e1, e2⟩ := h.fs
  have hd : tDies s = ⟨s.st.drop (s.st.length - f.h), { f with dead := true } :: r⟩ := by unfold tDies; rw [e1]
  have e : rDead (up s) = up (tDies s) := by
    rw [hd]
    unfold rDead
    rw [if_pos (show (up s).w = 0 from rfl), show (up s).fs = f :: r from e1]
    rfl
  rw [e]
  refine .ok ?_ ?_
  · rw [hd]
    refine ⟨⟨_, r, rfl, by show f.h ≤ (s.st.drop _).length; rw [List.length_drop]; omega⟩, fun t ht => h.st t (List.mem_of_mem_drop ht), fun g hg => ?_⟩
    rcases List.mem_cons.1 hg with rfl | hg
    · exact h.ty f (by rw [e1]; exact List.mem_cons_self)
    · exact h.ty g (by rw [e1]; exact List.mem_cons_of_mem _ hg)
  · rw [hd]
    exact ⟨f, _, r, e1, rfl, rfl, rfl, rfl⟩
theorem fs_at {s : Ts} (h : Wf s) {n : Int} (h0 : 0 ≤ n) (h1 : n < (s.fs.length : Int)) : ∃ f ∈ s.fs, s.fs.getD n.toNat fr0 = f := by
  have hl : n.toNat < s.fs.length := by omega
  exact ⟨s.fs[n.toNat], List.getElem_mem hl, by rw [List.getD_eq_getElem?_getD, List.getElem?_eq_getElem hl]; rfl⟩
/-- A block. -/
def BOk (B : Ts → Except Int Ts) (C : Rs → Rs) : Prop := ∀ s, Wf s → Sm s (B s) (C (up s))
theorem block_sm {s : Ts} (h : Wf s) {B : Ts → Except Int Ts} {C : Rs → Rs} (hB : BOk B C) {goes ends : List Int} (hg : ∀ t ∈ goes, tyo t) (he : ∀ t ∈ ends, tyo t) : Sm s (tBlock B goes ends s) (rBlock C goes ends (up s)) := by
  have hin : Wf ⟨s.st, ⟨goes, ends, s.st.length, false⟩ :: s.fs⟩ := ⟨⟨_, _, rfl, Nat.le_refl _⟩, h.st, fun f hf => by
    rcases List.mem_cons.1 hf with rfl | hf
    · exact ⟨hg, he⟩
    · exact h.ty f hf⟩
  have h1 := hB _ hin
  unfold tBlock rBlock
  rw [if_pos (show (up s).w = 0 from rfl)]
  have hup : ({ up s with fs := ⟨goes, ends, (up s).st.length, false⟩ :: (up s).fs } : Rs) = up ⟨s.st, ⟨goes, ends, s.st.length, false⟩ :: s.fs⟩ := rfl
  rw [hup]
  have hst : ∀ r : Rs, r.w ≠ 0 → ∀ x : Rs, x = (let s2 := rPopL ends r; let s3 := if s2.w = 0 ∧ s2.st.length ≠ (s2.fs.headD fr0).h then rBad 60 s2 else s2; { s3 with fs := s3.fs.tail }) → x.w = r.w := fun r hr x hx => by
    have e := popL_st ends r hr
    rw [hx]
    dsimp only
    rw [if_neg (by rw [e]; exact fun q => hr q.1)]
    exact e
  cases hb : B ⟨s.st, ⟨goes, ends, s.st.length, false⟩ :: s.fs⟩ with
  | error n =>
    rw [hb] at h1
    exact ⟨h1.1, (hst _ (by rw [h1.2]; exact h1.1) _ rfl).trans h1.2⟩
  | ok s1 =>
    rw [hb] at h1
    obtain ⟨w1, k1, e1⟩ := h1
    rw [e1]
    obtain ⟨f, f', r, x1, x2, x3, x4, x5⟩ := k1
    cases x1
    show Sm s (match s1.fs with | [] => _ | f :: r => _) _
    rw [x2]
    dsimp only
    rw [show f'.ends = ends from x4]
    have hp := popL_sm w1 ends
    cases hq : tPopL ends s1 with
    | error n =>
      rw [hq] at hp
      refine ⟨hp.1, ?_⟩
      rw [if_neg (by rw [hp.2]; exact fun q => hp.1 q.1)]
      exact hp.2
    | ok s2 =>
      rw [hq] at hp
      obtain ⟨w2, k2, e2⟩ := hp
      rw [e2]
      obtain ⟨g, g', q, y1, y2, y3, y4, y5⟩ := k2
      rw [x2] at y1
      cases y1
      have hh : ((up s2).fs.headD fr0).h = s.st.length := by
        show (s2.fs.headD fr0).h = _
        rw [y2]
        exact y5.trans x5
      rw [show f'.h = s.st.length from x5, hh]
      show Sm s (if s2.st.length = s.st.length then _ else _) _
      by_cases hl : s2.st.length = s.st.length
      · rw [if_pos hl, if_neg (fun q => q.2 hl)]
        obtain ⟨f0, r0, z1, z2⟩ := h.fs
        have hfs : (up s2).fs.tail = s.fs := by show s2.fs.tail = _; rw [y2]; rfl
        rw [hfs]
        exact ⟨⟨⟨f0, r0, z1, by show f0.h ≤ s2.st.length; omega⟩, w2.st, h.ty⟩, ⟨f0, f0, r0, z1, z1, rfl, rfl, rfl⟩, rfl⟩
      · rw [if_neg hl, if_pos ⟨rfl, hl⟩]
        exact ⟨by decide, bad_w (by decide) rfl⟩
structure EvOk (E : Ev) : Prop where
  types : ∀ t ∈ E.types, (∀ x ∈ t.1, tyo x) ∧ ∀ x ∈ t.2, tyo x
  funcs : ∀ t ∈ E.funcs, (∀ x ∈ t.1, tyo x) ∧ ∀ x ∈ t.2, tyo x
  globals : ∀ t ∈ E.globals, tyo t.1
  locals : ∀ t ∈ E.locals, tyo t
theorem calls_sm {s : Ts} (h : Wf s) {t : List Int × List Int} (ht : ∀ x ∈ t.2, tyo x) : Sm s (tCalls t s) (rCall t (up s)) :=
  (popL_sm h t.1).bind (g := rPush t.2) (fun u w _ => push_sm w fun x hx => (ht x hx).ok) (push_st _)
theorem call_st (t : List Int × List Int) : Stay (rCall t) := (popL_st t.1).comp (push_st t.2)
theorem bad_sm {s : Ts} {e : Int} (he : e ≠ 0) : Sm s (.error e) (rBad e (up s)) := ⟨he, bad_w he rfl⟩
theorem res_ok {a : Int} (h : a = 0 ∨ a = 126 ∨ a = 127) : ∀ t ∈ resV a, tyo t := fun t ht => by
  unfold resV at ht
  split at ht
  · cases ht
  · obtain rfl := List.mem_singleton.1 ht
    unfold tyo
    omega

end Go.Proofs.YtacohbllbjgdgaaDoor
