/- What a body's types are: labels and blocks. -/
import Derived.Test.YtacohbllbjgdgaaDoorVs
namespace Go.Proofs.YtacohbllbjgdgaaDoor
open Go.RowKit
set_option linter.unusedVariables false
set_option linter.unusedSimpArgs false

theorem like_st (g : List Int) : ∀ ls : List Int, Stay (rLike g ls)
  | [] => fun s h => rfl
  | n :: r => fun s h => by
    unfold rLike
    have e : (if rLab n s = g then s else rBad 60 s).w = s.w := by
      split
      · rfl
      · exact bad_st 60 s h
    exact (like_st g r _ (by rw [e]; exact h)).trans e
theorem goes_ok {s : Ts} {n : Int} (h0 : 0 ≤ n) (h : n < (s.fs.length : Int)) : tGoes n s = .ok (rLab n (up s)) := by unfold tGoes; rw [if_pos h]; rfl
theorem goes_no {s : Ts} {n : Int} (h : ¬ n < (s.fs.length : Int)) : tGoes n s = .error 61 := by unfold tGoes; rw [if_neg h]
theorem lab_ok {s : Ts} (w : Wf s) {n : Int} (h0 : 0 ≤ n) (h : n < (s.fs.length : Int)) : ∀ t ∈ rLab n (up s), tyo t := by
  obtain ⟨f, hf, e⟩ := fs_at w h0 h
  show ∀ t ∈ (s.fs.getD n.toNat fr0).goes, tyo t
  rw [e]
  exact (w.ty f hf).1
theorem kf_len {s t : Ts} (k : Kf s t) : t.fs.length = s.fs.length := by
  obtain ⟨f, f', r, e1, e2, _⟩ := k
  rw [e1, e2]
  rfl
theorem like_sm (g : List Int) : ∀ (ls : List Int) {s : Ts}, (∀ n ∈ ls, 0 ≤ n ∧ n < (s.fs.length : Int)) → match tLike g ls s with | .ok _ => rLike g ls (up s) = up s | .error n => n ≠ 0 ∧ (rLike g ls (up s)).w = n
  | [], s, _ => rfl
  | n :: r, s, h => by
    have hn := h n List.mem_cons_self
    unfold tLike rLike
    rw [goes_ok hn.1 hn.2]
    show match (if rLab n (up s) = g then tLike g r s else .error 60) with | .ok _ => _ | .error n => _
    by_cases e : rLab n (up s) = g
    · rw [if_pos e, if_pos e]
      exact like_sm g r (fun m hm => h m (List.mem_cons_of_mem _ hm))
    · rw [if_neg e, if_neg e]
      have hw : (rBad 60 (up s)).w = 60 := bad_w (by decide) rfl
      exact ⟨by decide, (like_st g r _ (by rw [hw]; decide)).trans hw⟩
theorem oks_st : ∀ (l : List Int), Stay (fun s => (rOks l s).2)
  | [] => fun s h => rfl
  | n :: r => fun s h => by
    show (rOks r (if rHas n s then s else rBad 61 s)).2.w = s.w
    have e : (if rHas n s then s else rBad 61 s).w = s.w := by
      split
      · rfl
      · exact bad_st 61 s h
    exact (oks_st r _ (by rw [e]; exact h)).trans e
theorem oks_all : ∀ (l : List Int) {s : Rs}, (∀ n ∈ l, rHas n s) → rOks l s = (true, s)
  | [], s, _ => rfl
  | n :: r, s, h => by
    unfold rOks
    have hn := h n List.mem_cons_self
    simp only [if_pos hn, oks_all r (fun m hm => h m (List.mem_cons_of_mem _ hm)), decide_eq_true hn, Bool.and_true]
theorem oks_bad : ∀ (l : List Int) {s : Rs}, s.w = 0 → (∃ n ∈ l, ¬ rHas n s) → (rOks l s).1 = false ∧ (rOks l s).2.w = 61
  | [], s, _, h => by obtain ⟨n, hn, _⟩ := h; cases hn
  | n :: r, s, h0, h => by
    by_cases hn : rHas n s
    · have h' : ∃ m ∈ r, ¬ rHas m s := by
        obtain ⟨m, hm, hb⟩ := h
        rcases List.mem_cons.1 hm with rfl | hm
        · exact absurd hn hb
        · exact ⟨m, hm, hb⟩
      have ih := oks_bad r h0 h'
      unfold rOks
      simp only [if_pos hn, ih.1, Bool.and_false]
      exact ⟨trivial, ih.2⟩
    · have hw : (rBad 61 s).w = 61 := bad_w (by decide) h0
      unfold rOks
      simp only [if_neg hn, decide_eq_false hn, Bool.false_and]
      exact ⟨trivial, (oks_st r _ (by rw [hw]; decide)).trans hw⟩
theorem all_has : ∀ (ls : List Int) {s : Ts}, (∀ n ∈ ls, 0 ≤ n) → match tAll ls s with | .ok _ => ∀ n ∈ ls, rHas n (up s) | .error e => e = 61 ∧ ∃ n ∈ ls, ¬ rHas n (up s)
  | [], s, _ => fun n h => by cases h
  | n :: r, s, h => by
    have h0 := h n List.mem_cons_self
    unfold tAll
    by_cases hn : n < (s.fs.length : Int)
    · rw [goes_ok h0 hn]
      have ih := all_has r (s := s) (fun m hm => h m (List.mem_cons_of_mem _ hm))
      show match tAll r s with | .ok _ => _ | .error e => _
      cases ha : tAll r s with
      | ok u =>
        rw [ha] at ih
        intro m hm
        rcases List.mem_cons.1 hm with rfl | hm
        · exact ⟨h0, hn⟩
        · exact ih m hm
      | error e =>
        rw [ha] at ih
        obtain ⟨h1, m, hm, hb⟩ := ih
        exact ⟨h1, m, List.mem_cons_of_mem _ hm, hb⟩
    · rw [goes_no hn]
      exact ⟨rfl, n, List.mem_cons_self, fun q => hn q.2⟩
theorem table_sm {s : Ts} (w : Wf s) {a : Int} {ls : List Int} (ha : 0 ≤ a) (hl : ∀ n ∈ ls, 0 ≤ n) : Sm s (tLeaves 14 a ls s) (rTable a ls (up s)) := by
  unfold tLeaves rTable
  have h1 := all_has ls (s := s) hl
  cases hA : tAll ls s with
  | error e =>
    rw [hA] at h1
    obtain ⟨rfl, m, hm, hb⟩ := h1
    obtain ⟨q1, q2⟩ := oks_bad (a :: ls) (s := up s) rfl ⟨m, List.mem_cons_of_mem _ hm, hb⟩
    simp only [q1, Bool.false_eq_true, if_false]
    exact ⟨by decide, q2⟩
  | ok u =>
    rw [hA] at h1
    show Sm s ((tGoes a s).bind _) _
    by_cases hn : a < (s.fs.length : Int)
    · rw [goes_ok ha hn, oks_all (a :: ls) (fun m hm => by
        rcases List.mem_cons.1 hm with rfl | hm
        · exact ⟨ha, hn⟩
        · exact h1 m hm)]
      simp only [if_true]
      show Sm s ((if (14 : Int) ≠ 12 then (tPop 127 s).bind fun q => .ok q.2 else .ok s).bind _) _
      rw [if_pos (by decide)]
      have hg := lab_ok w ha hn
      obtain ⟨g, hge⟩ : ∃ g, g = rLab a (up s) := ⟨_, rfl⟩
      rw [← hge] at hg ⊢
      refine (pop1_sm w 127).bind (g := fun s => rDead (rPopL g (rLike g ls s))) (fun t wt kt => ?_) (((like_st g ls).comp (popL_st g)).comp dead_st)
      have hl2 := like_sm g ls (s := t) (fun n hm => by have := h1 n hm; rw [kf_len kt]; exact this)
      cases hL : tLike g ls t with
      | error e =>
        rw [hL] at hl2
        exact ⟨hl2.1, (((popL_st g).comp dead_st) _ (by rw [hl2.2]; exact hl2.1)).trans hl2.2⟩
      | ok u =>
        rw [hL] at hl2
        show Sm t ((tPopL g t).bind _) _
        rw [hl2]
        exact (popL_sm wt g).bind (g := rDead) (fun v wv _ => dies_sm wv) dead_st
    · rw [goes_no hn]
      obtain ⟨q1, q2⟩ := oks_bad (a :: ls) (s := up s) rfl ⟨a, List.mem_cons_self, fun q => hn q.2⟩
      simp only [q1, Bool.false_eq_true, if_false]
      exact ⟨by decide, q2⟩
theorem br_sm {s : Ts} (w : Wf s) {a : Int} (ha : 0 ≤ a) : Sm s (tLeaves 12 a [] s) (if rHas a (up s) then rDead (rPopL (rLab a (up s)) (up s)) else rBad 61 (up s)) := by
  unfold tLeaves tAll
  show Sm s ((tGoes a s).bind _) _
  by_cases hn : a < (s.fs.length : Int)
  · rw [goes_ok ha hn, if_pos (show rHas a (up s) from ⟨ha, hn⟩)]
    exact (popL_sm w _).bind (g := rDead) (fun v wv _ => dies_sm wv) dead_st
  · rw [goes_no hn, if_neg (show ¬ rHas a (up s) from fun q => hn q.2)]
    exact bad_sm (by decide)
theorem brif_sm {s : Ts} (w : Wf s) {a : Int} (ha : 0 ≤ a) : Sm s (tLeaves 13 a [] s) (if rHas a (up s) then rPush (rLab a (up s)) (rPopL (rLab a (up s)) (rPop 127 (up s)).2) else rBad 61 (up s)) := by
  unfold tLeaves tAll
  show Sm s ((tGoes a s).bind _) _
  by_cases hn : a < (s.fs.length : Int)
  · rw [goes_ok ha hn, if_pos (show rHas a (up s) from ⟨ha, hn⟩)]
    have hg := lab_ok w ha hn
    obtain ⟨g, hge⟩ : ∃ g, g = rLab a (up s) := ⟨_, rfl⟩
    rw [← hge] at hg ⊢
    show Sm s (((tPop 127 s).bind fun q => .ok q.2).bind _) _
    refine (pop1_sm w 127).bind (g := fun s => rPush g (rPopL g s)) (fun t wt kt => ?_) ((popL_st g).comp (push_st g))
    exact (popL_sm wt g).bind (g := rPush g) (fun v wv _ => push_sm wv fun x hx => (hg x hx).ok) (push_st g)
  · rw [goes_no hn, if_neg (show ¬ rHas a (up s) from fun q => hn q.2)]
    exact bad_sm (by decide)
theorem blocks2_sm {s : Ts} (w : Wf s) {B C : Ts → Except Int Ts} {B' C' : Rs → Rs} (hB : BOk B B') {a : Int} (ha : a = 0 ∨ a = 126 ∨ a = 127) {goes : List Int} (hg : ∀ t ∈ goes, tyo t) :
    Sm s ((tBlock B goes (resV a) s).bind fun s => .ok (tPush (resV a) s)) (rPush (resV a) (rBlock B' goes (resV a) (up s))) :=
  (block_sm w hB hg (res_ok ha)).bind (g := rPush (resV a)) (fun t wt _ => push_sm wt fun x hx => (res_ok ha x hx).ok) (push_st _)
theorem if_sm {s : Ts} (w : Wf s) {B C : Ts → Except Int Ts} {B' C' : Rs → Rs} (hB : BOk B B') (hC : BOk C C') {a : Int} (ha : a = 0 ∨ a = 126 ∨ a = 127) {n : Nat} :
    Sm s (tBlocks 4 a n B C s) (rPush (resV a) (if 0 < n then rBlock C' (resV a) (resV a) (rBlock B' (resV a) (resV a) (if n = 0 ∧ 0 < (resV a).length then rBad 60 (rPop 127 (up s)).2 else (rPop 127 (up s)).2)) else rBlock B' (resV a) (resV a) (if n = 0 ∧ 0 < (resV a).length then rBad 60 (rPop 127 (up s)).2 else (rPop 127 (up s)).2))) := by
  unfold tBlocks
  rw [if_neg (by decide), if_neg (by decide)]
  have hst : Stay (fun s : Rs => rPush (resV a) (if 0 < n then rBlock C' (resV a) (resV a) (rBlock B' (resV a) (resV a) (if n = 0 ∧ 0 < (resV a).length then rBad 60 s else s)) else rBlock B' (resV a) (resV a) (if n = 0 ∧ 0 < (resV a).length then rBad 60 s else s))) := by
    have h1 : Stay (fun s : Rs => if n = 0 ∧ 0 < (resV a).length then rBad 60 s else s) := by
      by_cases h : n = 0 ∧ 0 < (resV a).length
      · simp only [if_pos h]; exact bad_st 60
      · simp only [if_neg h]; exact fun s hs => rfl
    by_cases hn : 0 < n
    · simp only [if_pos hn]
      exact ((h1.comp (block_st B' _ _)).comp (block_st C' _ _)).comp (push_st _)
    · simp only [if_neg hn]
      exact (h1.comp (block_st B' _ _)).comp (push_st _)
  refine popk_sm w 127 (g := fun s : Rs => rPush (resV a) (if 0 < n then rBlock C' (resV a) (resV a) (rBlock B' (resV a) (resV a) (if n = 0 ∧ 0 < (resV a).length then rBad 60 s else s)) else rBlock B' (resV a) (resV a) (if n = 0 ∧ 0 < (resV a).length then rBad 60 s else s))) (fun q wq _ => ?_) hst
  have hp := res_ok ha
  by_cases hn : 0 < n
  · rw [if_pos (.inl hn)]
    simp only [if_pos hn, if_neg (show ¬ (n = 0 ∧ 0 < (resV a).length) by omega)]
    refine (block_sm wq hB hp hp).bind (g := fun s => rPush (resV a) (rBlock C' (resV a) (resV a) s)) (fun t wt _ => ?_) ((block_st _ _ _).comp (push_st _))
    exact (block_sm wt hC hp hp).bind (g := rPush (resV a)) (fun u wu _ => push_sm wu fun x hx => (hp x hx).ok) (push_st _)
  · by_cases h0 : a = 0
    · have hr : ¬ (n = 0 ∧ 0 < (resV a).length) := by rw [h0]; simp [resV]
      rw [if_pos (.inr h0)]
      simp only [if_neg hn, if_neg hr]
      refine (block_sm wq hB hp hp).bind (g := rPush (resV a)) (fun t wt _ => ?_) (push_st _)
      exact push_sm wt fun x hx => (hp x hx).ok
    · have hr : n = 0 ∧ 0 < (resV a).length := ⟨by omega, by unfold resV; rw [if_neg h0]; simp⟩
      rw [if_neg (by omega)]
      simp only [if_neg hn, if_pos hr]
      have hw : (rBad 60 (up q.2)).w = 60 := bad_w (by decide) rfl
      exact ⟨by decide, (((block_st B' _ _).comp (push_st _)) _ (by rw [hw]; decide)).trans hw⟩

end Go.Proofs.YtacohbllbjgdgaaDoor
