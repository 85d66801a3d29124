/- What a body's types are: every instruction. -/
import Derived.Test.YtacohbllbjgdgaaDoorVt
import Derived.Test.YtacohbllbjgdgaaDoorMf
namespace Go.Proofs.YtacohbllbjgdgaaDoor
open Go.RowKit
set_option linter.unusedVariables false
set_option linter.unusedSimpArgs false

def reck (op : Int) : Prop := (69 ≤ op ∧ op ≤ 90) ∨ (103 ≤ op ∧ op ≤ 138) ∨ op = 167 ∨ op = 172 ∨ op = 173
theorem fv_inv' (op v : Int) (hv : formV op = v) : (v = 1 → reck op ∨ op = 0 ∨ op = 1 ∨ op = 15 ∨ op = 26 ∨ op = 27 ∨ op = 63 ∨ op = 64) ∧ (v = 2 → op = 2 ∨ op = 3) ∧ (v = 3 → op = 4) ∧ (v = 4 → op = 12 ∨ op = 13) ∧ (v = 5 → op = 14) ∧
    (v = 6 → op = 16 ∨ (32 ≤ op ∧ op ≤ 36)) ∧ (v = 7 → op = 17) ∧ (v = 8 → 40 ≤ op ∧ op ≤ 62 ∧ op ≠ 42 ∧ op ≠ 43 ∧ op ≠ 56 ∧ op ≠ 57) ∧ (v = 9 → op = 65 ∨ op = 66) := by
  unfold formV at hv
  unfold reck
  repeat' split at hv
  all_goals subst hv
  all_goals refine ⟨?_, ?_, ?_, ?_, ?_, ?_, ?_, ?_, ?_⟩ <;> intro h <;> omega
theorem fv_inv (op : Int) : (formV op = 1 → reck op ∨ op = 0 ∨ op = 1 ∨ op = 15 ∨ op = 26 ∨ op = 27 ∨ op = 63 ∨ op = 64) ∧ (formV op = 2 → op = 2 ∨ op = 3) ∧ (formV op = 3 → op = 4) ∧ (formV op = 4 → op = 12 ∨ op = 13) ∧ (formV op = 5 → op = 14) ∧
    (formV op = 6 → op = 16 ∨ (32 ≤ op ∧ op ≤ 36)) ∧ (formV op = 7 → op = 17) ∧ (formV op = 8 → 40 ≤ op ∧ op ≤ 62 ∧ op ≠ 42 ∧ op ≠ 43 ∧ op ≠ 56 ∧ op ≠ 57) ∧ (formV op = 9 → op = 65 ∨ op = 66) := fv_inv' op _ rfl
theorem fv_reck {op : Int} (h : reck op) : formV op = 1 := by unfold formV; unfold reck at h; rw [if_pos h]
theorem sg_reck {op : Int} (h : reck op) : (sgV op).1 ≠ 0 ∧ tyo (sgR (sgV op).1 (sgV op).2.2) ∧ (sgV op).1 ≤ 5 := by
  have : ∃ k x t, sgV op = (k, x, t) ∧ (1 ≤ k ∧ k ≤ 5) ∧ (t = 126 ∨ t = 127) := by
    have hh : ∀ q, sgV op = q → (1 ≤ q.1 ∧ q.1 ≤ 5) ∧ (q.2.2 = 126 ∨ q.2.2 = 127) := fun q hq => by
      unfold reck at h
      unfold sgV at hq
      repeat' split at hq
      all_goals subst hq
      all_goals dsimp only
      all_goals omega
    have := hh _ rfl
    exact ⟨_, _, _, rfl, this.1, this.2⟩
  obtain ⟨k, x, t, e, h1, h2⟩ := this
  rw [e]
  refine ⟨by show k ≠ 0; omega, ?_, by show k ≤ 5; omega⟩
  show tyo (sgR k t)
  unfold tyo sgR
  repeat' split
  all_goals omega
theorem sg_not {op : Int} (h : ¬ reck op) : sgV op = (0, 0, 0) := by
  unfold reck at h
  unfold sgV
  repeat' split
  all_goals first | omega | rfl
theorem popv_sm {s : Ts} (h : Wf s) (t : Int) {k : Int × Ts → Except Int Ts} {G : Int × Rs → Rs} (hk : ∀ q : Int × Ts, Wf q.2 → Kf s q.2 → ok01 q.1 → Sm q.2 (k q) (G (q.1, up q.2))) (hG : ∀ q : Int × Rs, q.2.w ≠ 0 → (G q).w = q.2.w) : Sm s ((tPop t s).bind k) (G (rPop t (up s))) := by
  have := pop_sm h t
  cases hp : tPop t s with
  | error n => rw [hp] at this; exact ⟨this.1, (hG _ (by rw [this.2]; exact this.1)).trans this.2⟩
  | ok q =>
    rw [hp] at this
    obtain ⟨h1, h2, h4, h3⟩ := this
    rw [h3]
    have := hk q h1 h2 h4
    show Sm s (k q) _
    cases hkt : k q with
    | error n => rw [hkt] at this; exact this
    | ok u =>
      rw [hkt] at this
      exact ⟨this.1, h2.trans this.2.1, this.2.2⟩
def rSel (s : Rs) : Rs :=
  let x := rPop 0 s
  let y := rPop 0 x.2
  let s := if x.1 ≠ 0 ∧ y.1 ≠ 0 ∧ x.1 ≠ y.1 then rBad 60 y.2 else y.2
  rPush [max x.1 y.1] s
theorem sel_st : Stay rSel := fun s h => by
  unfold rSel
  simp only [pop_0 h]
  rw [if_neg (by intro q; exact q.1 rfl)]
  exact push_st _ s h
theorem sel_sm {s : Ts} (w : Wf s) : Sm s ((tPop 127 s).bind fun q => (tPop 0 q.2).bind fun a => (tPop 0 a.2).bind fun b => if a.1 = b.1 ∨ a.1 = 0 ∨ b.1 = 0 then .ok (tPush [if a.1 = 0 then b.1 else a.1] b.2) else .error 60) (rSel (rPop 127 (up s)).2) := by
  refine popk_sm w 127 (g := rSel) (fun q wq _ => ?_) sel_st
  refine popv_sm (k := fun a : Int × Ts => (tPop 0 a.2).bind fun b => if a.1 = b.1 ∨ a.1 = 0 ∨ b.1 = 0 then .ok (tPush [if a.1 = 0 then b.1 else a.1] b.2) else .error 60)
    (G := fun x => let y := rPop 0 x.2; let s := if x.1 ≠ 0 ∧ y.1 ≠ 0 ∧ x.1 ≠ y.1 then rBad 60 y.2 else y.2; rPush [max x.1 y.1] s) wq 0 (fun a wa _ oa => ?_) (fun x hx => ?_)
  · refine popv_sm (k := fun b : Int × Ts => if a.1 = b.1 ∨ a.1 = 0 ∨ b.1 = 0 then .ok (tPush [if a.1 = 0 then b.1 else a.1] b.2) else .error 60)
      (G := fun y => rPush [max a.1 y.1] (if a.1 ≠ 0 ∧ y.1 ≠ 0 ∧ a.1 ≠ y.1 then rBad 60 y.2 else y.2)) wa 0 (fun b wb _ ob => ?_) (fun y hy => ?_)
    · show Sm b.2 (if a.1 = b.1 ∨ a.1 = 0 ∨ b.1 = 0 then _ else _) (rPush [max a.1 b.1] (if a.1 ≠ 0 ∧ b.1 ≠ 0 ∧ a.1 ≠ b.1 then rBad 60 (up b.2) else up b.2))
      unfold ok01 at oa ob
      by_cases h : a.1 = b.1 ∨ a.1 = 0 ∨ b.1 = 0
      · rw [if_pos h, if_neg (show ¬ (a.1 ≠ 0 ∧ b.1 ≠ 0 ∧ a.1 ≠ b.1) by omega)]
        have e : max a.1 b.1 = if a.1 = 0 then b.1 else a.1 := by split <;> omega
        rw [e]
        refine push_sm wb fun x hx => ?_
        obtain rfl := List.mem_singleton.1 hx
        unfold ok01
        split <;> omega
      · rw [if_neg h, if_pos (show a.1 ≠ 0 ∧ b.1 ≠ 0 ∧ a.1 ≠ b.1 by omega)]
        have hw : (rBad 60 (up b.2)).w = 60 := bad_w (by decide) rfl
        exact ⟨by decide, (push_st _ _ (by rw [hw]; decide)).trans hw⟩
    · show (rPush [max a.1 y.1] (if a.1 ≠ 0 ∧ y.1 ≠ 0 ∧ a.1 ≠ y.1 then rBad 60 y.2 else y.2)).w = y.2.w
      have e : (if a.1 ≠ 0 ∧ y.1 ≠ 0 ∧ a.1 ≠ y.1 then rBad 60 y.2 else y.2).w = y.2.w := by
        split
        · exact bad_st 60 _ hy
        · rfl
      exact (push_st _ _ (by rw [e]; exact hy)).trans e
  · show (rPush [max x.1 (rPop 0 x.2).1] (if x.1 ≠ 0 ∧ (rPop 0 x.2).1 ≠ 0 ∧ x.1 ≠ (rPop 0 x.2).1 then rBad 60 (rPop 0 x.2).2 else (rPop 0 x.2).2)).w = x.2.w
    rw [pop_0 hx]
    simp only
    rw [if_neg (by intro q; exact q.2.1 rfl)]
    exact push_st _ _ hx
theorem op8 {op : Int} (h : 40 ≤ op ∧ op ≤ 62 ∧ op ≠ 42 ∧ op ≠ 43 ∧ op ≠ 56 ∧ op ≠ 57) : op = 40 ∨ op = 41 ∨ op = 44 ∨ op = 45 ∨ op = 46 ∨ op = 47 ∨ op = 48 ∨ op = 49 ∨ op = 50 ∨ op = 51 ∨ op = 52 ∨ op = 53 ∨ op = 54 ∨ op = 55 ∨ op = 58 ∨ op = 59 ∨ op = 60 ∨ op = 61 ∨ op = 62 := by omega
theorem wideT_eq {op : Int} (h : 40 ≤ op ∧ op ≤ 62 ∧ op ≠ 42 ∧ op ≠ 43 ∧ op ≠ 56 ∧ op ≠ 57) : wideT op = memT op ∧ tyo (memT op) := by
  rcases op8 h with rfl | rfl | rfl | rfl | rfl | rfl | rfl | rfl | rfl | rfl | rfl | rfl | rfl | rfl | rfl | rfl | rfl | rfl | rfl
  all_goals exact ⟨by decide, by unfold tyo; decide⟩
theorem wide_iff {op a : Int} (h : 40 ≤ op ∧ op ≤ 62 ∧ op ≠ 42 ∧ op ≠ 43 ∧ op ≠ 56 ∧ op ≠ 57) (h0 : 0 ≤ a) : tooWide op a ↔ ¬ a ≤ bytesV op := by
  unfold tooWide
  by_cases h3 : 3 < a
  · have : bytesV op ≤ 3 := by unfold bytesV; repeat' split <;> omega
    exact ⟨fun _ => by omega, fun _ => .inl h3⟩
  · have ha : a = 0 ∨ a = 1 ∨ a = 2 ∨ a = 3 := by omega
    rcases ha with rfl | rfl | rfl | rfl
    all_goals rcases op8 h with rfl | rfl | rfl | rfl | rfl | rfl | rfl | rfl | rfl | rfl | rfl | rfl | rfl | rfl | rfl | rfl | rfl | rfl | rfl
    all_goals decide
theorem one_ok {t : Int} (h : tyo t) : ∀ x ∈ [t], ok01 x := fun x hx => by obtain rfl := List.mem_singleton.1 hx; exact h.ok
theorem memory_sm {E : Ev} {s : Ts} (w : Wf s) {op a : Int} (h : 40 ≤ op ∧ op ≤ 62 ∧ op ≠ 42 ∧ op ≠ 43 ∧ op ≠ 56 ∧ op ≠ 57) (h0 : 0 ≤ a) : Sm s (tMemory E op a s) (rMemory E op a (up s)) := by
  obtain ⟨eT, oT⟩ := wideT_eq h
  have hw := wide_iff h h0
  unfold tMemory rMemory
  by_cases hm : 0 < E.mems
  · rw [if_pos hm, if_neg (show ¬ E.mems = 0 by omega), if_neg (show ¬ op = 63 by omega), if_neg (show ¬ op = 64 by omega), eT]
    have hst : Stay (fun s => if 54 ≤ op then (rPop 127 (rPop (memT op) s).2).2 else rPush [memT op] (rPop 127 s).2) := by
      by_cases h54 : 54 ≤ op
      · simp only [if_pos h54]; exact (pop_st _).comp (pop_st 127)
      · simp only [if_neg h54]; exact (pop_st 127).comp (push_st _)
    by_cases hb : a ≤ bytesV op
    · rw [if_pos hb]
      simp only [if_neg (show ¬ tooWide op a from fun q => hw.1 q hb)]
      by_cases h54 : 54 ≤ op
      · rw [if_pos h54]
        simp only [if_pos h54, if_neg (show ¬ op < 54 by omega)]
        exact (pop1_sm w (memT op)).bind (g := fun s => (rPop 127 s).2) (fun t wt _ => pop1_sm wt 127) (pop_st 127)
      · rw [if_neg h54]
        simp only [if_neg h54, if_pos (show op < 54 by omega)]
        exact popk_sm w 127 (g := rPush [memT op]) (fun q wq _ => push_sm wq (one_ok oT)) (push_st _)
    · rw [if_neg hb]
      simp only [if_pos (hw.2 hb)]
      have hx : (rBad 60 (up s)).w = 60 := bad_w (by decide) rfl
      exact ⟨by decide, (hst _ (by rw [hx]; decide)).trans hx⟩
  · rw [if_neg hm, if_pos (show E.mems = 0 by omega)]
    exact bad_sm (by decide)
theorem variable_sm {E : Ev} (hE : EvOk E) {s : Ts} (w : Wf s) {op a : Int} (h : 32 ≤ op ∧ op ≤ 36) : Sm s (tNamed E op a s) (rVariable E op a (up s)) := by
  unfold tNamed rVariable
  rw [if_neg (by omega)]
  by_cases h35 : op = 35
  · rw [if_pos h35, if_pos (by omega)]
    cases hg : E.globals[a.toNat]? with
    | none => exact bad_sm (by decide)
    | some g =>
      simp only [if_pos h35]
      exact push_sm w (one_ok (hE.globals g (List.mem_of_getElem? hg)))
  · rw [if_neg h35]
    by_cases h36 : op = 36
    · rw [if_pos h36, if_pos (by omega)]
      cases hg : E.globals[a.toNat]? with
      | none => exact bad_sm (by decide)
      | some g =>
        simp only [if_neg h35]
        by_cases hm : g.2 = true
        · rw [if_pos hm, if_pos hm]
          exact pop1_sm w g.1
        · rw [if_neg hm, if_neg hm]
          have hx : (rBad 62 (up s)).w = 62 := bad_w (by decide) rfl
          exact ⟨by decide, ((pop_st g.1) _ (by rw [hx]; decide)).trans hx⟩
    · rw [if_neg h36, if_neg (by omega)]
      cases hg : E.locals[a.toNat]? with
      | none => exact bad_sm (by decide)
      | some t =>
        have ht := hE.locals t (List.mem_of_getElem? hg)
        dsimp only
        by_cases h32 : op ≠ 32
        · rw [if_pos h32, if_pos h32]
          by_cases h33 : op ≠ 33
          · simp only [if_pos h33]
            exact (pop1_sm w t).bind (g := rPush [t]) (fun u wu _ => push_sm wu (one_ok ht)) (push_st _)
          · simp only [if_neg h33]
            exact (pop1_sm w t).bind (g := fun s => s) (fun u wu _ => .ok wu (.refl wu)) (fun s h => rfl)
        · rw [if_neg h32, if_neg h32]
          simp only [if_pos (show op ≠ 33 by omega)]
          exact push_sm w (one_ok ht)
theorem plainfacts {op x y n : Int} {ls : List Int} {bl el : Nat} (h : form1 op x y n ls bl el = true) :
    (formV op = 1 ∨ formV op = 2 ∨ formV op = 3 ∨ formV op = 4 ∨ formV op = 5 ∨ formV op = 6 ∨ formV op = 7 ∨ formV op = 8 ∨ formV op = 9) ∧
    (formV op = 2 ∨ formV op = 3 → x = 0 ∨ x = 126 ∨ x = 127) ∧ (formV op = 4 ∨ formV op = 5 ∨ formV op = 6 ∨ formV op = 7 ∨ formV op = 8 → 0 ≤ x) ∧ (formV op = 5 → ∀ l ∈ ls, 0 ≤ l) ∧ (formV op ≠ 5 → ls = []) := by
  unfold form1 at h
  repeat' split at h
  all_goals first | (cases h; done) | skip
  all_goals simp only [Bool.and_eq_true, res1, idx1, Bool.or_eq_true, beq_iff_eq, decide_eq_true_eq, List.all_eq_true] at h
  all_goals refine ⟨by omega, fun _ => by omega, fun _ => by omega, fun _ l hl => ?_, fun hn => ?_⟩
  all_goals first | omega | exact (h.2.1 l hl).1 | exact List.eq_nil_of_length_eq_zero (by omega)
theorem instr_sm {E : Ev} (hE : EvOk E) {s : Ts} (w : Wf s) {op a y n : Int} {ls : List Int} {bl el : Nat} (hf : form1 op a y n ls bl el = true) {B C : Ts → Except Int Ts} {B' C' : Rs → Rs} (hB : BOk B B') (hC : BOk C C') :
    Sm s (tInstr E op a ls el B C s) (rInstr E op a ls el B' C' (up s)) := by
  obtain ⟨h0, h1, h2, h3, h4⟩ := plainfacts hf
  obtain ⟨i1, i2, i3, i4, i5, i6, i7, i8, i9⟩ := fv_inv op
  by_cases hr : reck op
  · obtain ⟨hs, ht, _⟩ := sg_reck hr
    have hv := fv_reck hr
    unfold tInstr rInstr
    rw [if_pos hs]
    unfold reck at hr
    rw [if_neg (by omega), if_neg (by omega), if_neg (by omega), if_neg (by omega), if_neg (by omega), if_neg (by omega), if_neg (by omega), if_neg (by omega), if_neg (by omega), if_neg (by omega), if_neg (by omega), if_neg (by omega), if_neg (by omega), if_neg (by omega), if_neg (by omega)]
    unfold tPopL
    rw [List.reverse_replicate]
    exact (pops_sm _ w).bind (g := rPush [sgR (sgV op).1 (sgV op).2.2]) (fun u wu _ => push_sm wu (one_ok ht)) (push_st _)
  · have hs := sg_not hr
    have e0 : tInstr E op a ls el B C s = if formV op = 2 ∨ formV op = 3 then tBlocks op a el B C s else if formV op = 4 ∨ formV op = 5 then tLeaves op a ls s else if formV op = 6 then tNamed E op a s else if formV op = 7 then tIndirect E a s else if formV op = 8 then tMemory E op a s else if formV op = 9 then .ok (tPush [if op = 65 then 127 else 126] s) else tPlain E op s := by
      unfold tInstr
      rw [hs, if_neg (fun q => q rfl)]
    rw [e0]
    rcases h0 with h0 | h0 | h0 | h0 | h0 | h0 | h0 | h0 | h0
    · rw [if_neg (by omega), if_neg (by omega), if_neg (by omega), if_neg (by omega), if_neg (by omega), if_neg (by omega)]
      rcases (i1 h0).resolve_left hr with rfl | rfl | rfl | rfl | rfl | rfl | rfl
      · exact dies_sm w
      · exact .ok w (.refl w)
      · exact (popL_sm w (tRet s)).bind (g := rDead) (fun v wv _ => dies_sm wv) dead_st
      · exact pop1_sm w 0
      · exact sel_sm w
      · show Sm s (if 0 < E.mems then _ else _) (rMemory E 63 a (up s))
        unfold rMemory
        by_cases hm : 0 < E.mems
        · rw [if_pos hm, if_neg (by omega), if_pos rfl]
          exact push_sm w (one_ok (.inr rfl))
        · rw [if_neg hm, if_pos (by omega)]
          exact bad_sm (by decide)
      · show Sm s (if 0 < E.mems then _ else _) (rMemory E 64 a (up s))
        unfold rMemory
        by_cases hm : 0 < E.mems
        · rw [if_pos hm, if_neg (by omega), if_neg (by decide), if_pos rfl]
          exact popk_sm w 127 (g := rPush [127]) (fun q wq _ => push_sm wq (one_ok (.inr rfl))) (push_st _)
        · rw [if_neg hm, if_pos (by omega)]
          exact bad_sm (by decide)
    · rw [if_pos (.inl h0)]
      rcases i2 h0 with rfl | rfl
      · exact blocks2_sm w hB (C := C) (C' := C') (h1 (.inl h0)) (res_ok (h1 (.inl h0)))
      · exact blocks2_sm w hB (C := C) (C' := C') (h1 (.inl h0)) (by intro t ht; cases ht)
    · rw [if_pos (.inr h0)]
      obtain rfl := i3 h0
      have := if_sm w hB hC (h1 (.inr h0)) (n := el)
      unfold rInstr
      rw [if_neg (by decide), if_neg (by decide), if_neg (by decide), if_pos rfl]
      by_cases hn : 0 < el
      · rw [if_pos hn] at this
        simp only [if_pos hn]
        exact this
      · rw [if_neg hn] at this
        simp only [if_neg hn]
        exact this
    · rw [if_neg (by omega), if_pos (.inl h0)]
      have := h4 (by omega)
      subst this
      rcases i4 h0 with rfl | rfl
      · exact br_sm w (h2 (by omega))
      · exact brif_sm w (h2 (by omega))
    · rw [if_neg (by omega), if_pos (.inr h0)]
      obtain rfl := i5 h0
      exact table_sm w (h2 (by omega)) (h3 h0)
    · rw [if_neg (by omega), if_neg (by omega), if_pos h0]
      rcases i6 h0 with rfl | h
      · show Sm s (match E.funcs[a.toNat]? with | some t => tCalls t s | none => .error 61) (match E.funcs[a.toNat]? with | some t => rCall t (up s) | none => rBad 61 (up s))
        cases hg : E.funcs[a.toNat]? with
        | none => exact bad_sm (by decide)
        | some t => exact calls_sm w (hE.funcs t (List.mem_of_getElem? hg)).2
      · have := variable_sm hE w (a := a) h
        unfold rInstr
        rw [if_neg (by omega), if_neg (by omega), if_neg (by omega), if_neg (by omega), if_neg (by omega), if_neg (by omega), if_neg (by omega), if_neg (by omega), if_neg (by omega), if_neg (by omega), if_neg (by omega), if_neg (by omega), if_neg (by omega), if_pos h0]
        exact this
    · rw [if_neg (by omega), if_neg (by omega), if_neg (by omega), if_pos h0]
      obtain rfl := i7 h0
      show Sm s (tIndirect E a s) (if E.tables = 0 then rBad 61 (up s) else match E.types[a.toNat]? with | some t => rCall t (rPop 127 (up s)).2 | none => rBad 61 (up s))
      unfold tIndirect
      by_cases hm : 0 < E.tables
      · rw [if_pos hm, if_neg (by omega)]
        cases hg : E.types[a.toNat]? with
        | none => exact bad_sm (by decide)
        | some t => exact popk_sm w 127 (g := rCall t) (fun q wq _ => calls_sm wq (hE.types t (List.mem_of_getElem? hg)).2) (call_st t)
      · rw [if_neg hm, if_pos (by omega)]
        exact bad_sm (by decide)
    · rw [if_neg (by omega), if_neg (by omega), if_neg (by omega), if_neg (by omega), if_pos h0]
      have h8 := i8 h0
      have := memory_sm (E := E) w h8 (h2 (by omega))
      unfold rInstr
      rw [if_neg (by omega), if_neg (by omega), if_neg (by omega), if_neg (by omega), if_neg (by omega), if_neg (by omega), if_neg (by omega), if_neg (by omega), if_neg (by omega), if_neg (by omega), if_neg (by omega), if_neg (by omega), if_neg (by omega), if_neg (by omega), if_pos (.inl h0)]
      exact this
    · rw [if_neg (by omega), if_neg (by omega), if_neg (by omega), if_neg (by omega), if_neg (by omega), if_pos h0]
      rcases i9 h0 with rfl | rfl
      · exact push_sm w (one_ok (.inr rfl))
      · exact push_sm w (one_ok (.inl rfl))

/-- A list of instructions. -/
def LOk (E : Ev) (l : Il) : Prop := formB l = true → BOk (tyL E l) (ryL E l)
theorem ry_st (E : Ev) : ∀ l : Il, Stay (ryL E l)
  | .nil => fun s h => rfl
  | .cons op a y n ls body els rest => fun s h => by unfold ryL; rw [if_neg h]
theorem tyL_ok {E : Ev} (hE : EvOk E) : ∀ l : Il, LOk E l := Il.each fun l => by
  induction l with
  | nil => exact fun _ _ s w => .ok w (.refl w)
  | cons op a y n ls body els rest ih1 ih2 ih3 =>
    intro hs hf s w
    obtain ⟨hb, he, hr⟩ := hs
    unfold formB at hf
    simp only [Bool.and_eq_true] at hf
    obtain ⟨f1, f2, f3, f4⟩ := hf
    have h1 := instr_sm hE w f1 (hb f2) (he f3)
    unfold tyL ryL
    rw [if_pos (show (up s).w = 0 from rfl)]
    exact h1.bind (g := ryL E rest) (fun t wt _ => ih3 hr f4 t wt) (ry_st E rest)

end Go.Proofs.YtacohbllbjgdgaaDoor
