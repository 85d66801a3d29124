/- The typer: blocks, given what stands in them. -/
import Derived.Test.YtacohbllbjgdgaaDoorXj
import Derived.Test.YtacohbllbjgdgaaDoorXk
namespace Go.Proofs.YtacohbllbjgdgaaDoor
open Go.RowKit
set_option linter.unusedVariables false
set_option linter.unusedSimpArgs false

/-- How many instructions there are, with those in one another. -/
def szI : Il → Nat
  | .nil => 0
  | .cons _ _ _ _ _ body els rest => 1 + szI body + szI els + szI rest
/-- No label takes more than one value along. -/
def Rf (s : Ts) : Prop := ∀ f ∈ s.fs, f.goes.length ≤ 1 ∧ f.ends.length ≤ 1
theorem Rf.kf {s t : Ts} (h : Rf s) (k : Kf s t) : Rf t := by
  obtain ⟨f, f', r, e1, e2, h1, h2, _⟩ := k
  intro g hg
  rw [e2] at hg
  rcases List.mem_cons.1 hg with rfl | hg
  · rw [h1, h2]; exact h f (by rw [e1]; exact List.mem_cons_self)
  · exact h g (by rw [e1]; exact List.mem_cons_of_mem _ hg)
theorem tBlock_len {B : Ts → Except Int Ts} {C : Rs → Rs} (hB : BOk B C) {goes ends : List Int} (hg : ∀ t ∈ goes, tyo t) (he : ∀ t ∈ ends, tyo t) {s u : Ts} (hw : Wf s) (h : tBlock B goes ends s = .ok u) : u.st.length = s.st.length ∧ Wf u ∧ Kf s u := by
  have hsm := block_sm hw hB hg he
  rw [h] at hsm
  refine ⟨?_, hsm.1, hsm.2.1⟩
  have hin : Wf ⟨s.st, ⟨goes, ends, s.st.length, false⟩ :: s.fs⟩ := ⟨⟨_, _, rfl, Nat.le_refl _⟩, hw.st, fun f hf => by
    rcases List.mem_cons.1 hf with rfl | hf
    · exact ⟨hg, he⟩
    · exact hw.ty f hf⟩
  have h1 := hB _ hin
  unfold tBlock at h
  cases hb : B ⟨s.st, ⟨goes, ends, s.st.length, false⟩ :: s.fs⟩ with
  | error n => rw [hb] at h; cases h
  | ok s1 =>
    rw [hb] at h h1
    obtain ⟨w1, k1, e1⟩ := h1
    obtain ⟨f, f', r, x1, x2, x3, x4, x5⟩ := k1
    cases x1
    change (match s1.fs with | [] => _ | f :: r => _) = _ at h
    rw [x2] at h
    dsimp only at h
    cases hq : tPopL f'.ends s1 with
    | error n => rw [hq] at h; cases h
    | ok s2 =>
      rw [hq] at h
      change (if s2.st.length = f'.h then _ else _) = _ at h
      by_cases hl : s2.st.length = f'.h
      · rw [if_pos hl] at h
        cases h
        exact hl.trans x5
      · rw [if_neg hl] at h; cases h
theorem resV_len (a : Int) : (resV a).length ≤ 1 := by unfold resV; split <;> simp
/-- Where a block may begin: there may be no frame yet. -/
structure Cx0 (w0 : World) (N p c : Nat) (lv : Value) (E : Ev) (w : World) (sv fv : Value) (s : Ts) : Prop where
  t : TyP N p (.pointer (some ⟨c, 0, none⟩)) lv w sv fv s
  st : ∀ t ∈ s.st, ok01 t
  ty : ∀ f ∈ s.fs, (∀ t ∈ f.goes, tyo t) ∧ (∀ t ∈ f.ends, tyo t)
  b : Below w0.heap.size w0 w
  p0 : w0.heap.size = p
  e0 : EnvAt w0 c lv E
  ok : EvOk E
theorem Cx.c0 {w0 : World} {N p c : Nat} {lv : Value} {E : Ev} {w : World} {sv fv : Value} {s : Ts} (h : Cx w0 N p c lv E w sv fv s) : Cx0 w0 N p c lv E w sv fv s := ⟨h.t, h.wf.st, h.wf.ty, h.b, h.p0, h.e0, h.ok⟩
theorem Cx0.step {w0 : World} {N p c : Nat} {lv : Value} {E : Ev} {w w' : World} {sv fv : Value} {s : Ts} (h : Cx0 w0 N p c lv E w sv fv s) (b : Below w.heap.size w w') : Cx0 w0 N p c lv E w' sv fv s := ⟨h.t.step b, h.st, h.ty, h.b.trans (b.mono h.b.size), h.p0, h.e0, h.ok⟩
theorem drew_step0 {w0 : World} {N p c : Nat} {lv : Value} {E : Ev} {w : World} {sv fv : Value} {s : Ts} (h : Cx0 w0 N p c lv E w sv fv s) : Cx0 w0 N p c lv E w.drew sv fv s ∧ Tw p sv fv sv fv w w.drew := ⟨h.step (below_drawn (w := w) 1), .of_below (below_drawn (w := w) 1)⟩
/-- What a block tells, by the list that stands in it. -/
def BlkC (l : Il) : Prop := ∀ (w0 : World) (N p c : Nat) (lv : Value) (E : Ev) (w : World) (sv fv : Value) (s : Ts), Cx0 w0 N p c lv E w sv fv s → EvR E → Rf s → formB l = true →
  ∀ (goes ends : List Int) (ga : Option Addr) (gc : Nat) (ea : Option Addr) (ec : Nat), LiB w p sv fv ga goes → LiB w p sv fv ea ends → (∀ t ∈ goes, tyo t) → (∀ t ∈ ends, tyo t) → goes.length ≤ 1 → ends.length ≤ 1 →
  ∀ (ao : Option Addr) (k : Nat), l.len ≤ 9223372036854775807 → IlIn w0 ao 0 l → s.st.length + szI l ≤ 1099511627775 → s.fs.length + szI l ≤ 1099511627775 →
  Calls Tryd.prog 25 #[.pointer (some ⟨p, 0, none⟩), .slice ga goes.length gc, .slice ea ends.length ec, .slice ao l.len k] w (endF N p (.pointer (some ⟨c, 0, none⟩)) lv w sv fv (tBlock (tyL E l) goes ends s))
section
variable {w0 : World} {N p c : Nat} {lv : Value} {E : Ev} {w : World} {sv fv : Value} {s : Ts}
theorem blk_ok {l : Il} (hl : BlkC l) (h : Cx w0 N p c lv E w sv fv s) (hR : EvR E) (hRf : Rf s) (hf : formB l = true) {goes ends : List Int} {ga : Option Addr} {gc : Nat} {ea : Option Addr} {ec : Nat} (l1 : LiB w p sv fv ga goes) (l2 : LiB w p sv fv ea ends)
    (t1 : ∀ t ∈ goes, tyo t) (t2 : ∀ t ∈ ends, tyo t) (n1 : goes.length ≤ 1) (n2 : ends.length ≤ 1) {ao : Option Addr} {k : Nat} (hlen : l.len ≤ 9223372036854775807) (hi : IlIn w0 ao 0 l) (b1 : s.st.length + szI l ≤ 1099511627775) (b2 : s.fs.length + szI l ≤ 1099511627775) {u : Ts} (hq : tBlock (tyL E l) goes ends s = .ok u) :
    Calls Tryd.prog 25 #[.pointer (some ⟨p, 0, none⟩), .slice ga goes.length gc, .slice ea ends.length ec, .slice ao l.len k] w fun e w' => e = .returned (.tuple #[]) ∧ ∃ sv' fv', TyP N p (.pointer (some ⟨c, 0, none⟩)) lv w' sv' fv' u ∧ Tw p sv fv sv' fv' w w' := by
  have := hl w0 N p c lv E w sv fv s h.c0 hR hRf hf goes ends ga gc ea ec l1 l2 t1 t2 n1 n2 ao k hlen hi b1 b2
  rw [hq] at this
  exact this
theorem blk_er {l : Il} (hl : BlkC l) (h : Cx w0 N p c lv E w sv fv s) (hR : EvR E) (hRf : Rf s) (hf : formB l = true) {goes ends : List Int} {ga : Option Addr} {gc : Nat} {ea : Option Addr} {ec : Nat} (l1 : LiB w p sv fv ga goes) (l2 : LiB w p sv fv ea ends)
    (t1 : ∀ t ∈ goes, tyo t) (t2 : ∀ t ∈ ends, tyo t) (n1 : goes.length ≤ 1) (n2 : ends.length ≤ 1) {ao : Option Addr} {k : Nat} (hlen : l.len ≤ 9223372036854775807) (hi : IlIn w0 ao 0 l) (b1 : s.st.length + szI l ≤ 1099511627775) (b2 : s.fs.length + szI l ≤ 1099511627775) {m : Int} (hq : tBlock (tyL E l) goes ends s = .error m) :
    Calls Tryd.prog 25 #[.pointer (some ⟨p, 0, none⟩), .slice ga goes.length gc, .slice ea ends.length ec, .slice ao l.len k] w fun e w' => e = .panicked (faultV m) ∧ ∃ sv' fv', Tw p sv fv sv' fv' w w' := by
  have := hl w0 N p c lv E w sv fv s h.c0 hR hRf hf goes ends ga gc ea ec l1 l2 t1 t2 n1 n2 ao k hlen hi b1 b2
  rw [hq] at this
  exact this
set_option maxRecDepth 100000 in
set_option maxHeartbeats 4000000 in
theorem blocks_23 (h : Cx w0 N p c lv E w sv fv s) (hR : EvR E) (hRf : Rf s) {op : Int} (hop : op = 2 ∨ op = 3) (a y n : Int) (ha : a = 0 ∨ a = 126 ∨ a = 127) {body : Il} (hB : BlkC body) (hf : formB body = true) {ao : Option Addr} {k : Nat} (v4 v6 : Value)
    (hlen : body.len ≤ 9223372036854775807) (hi : IlIn w0 ao 0 body) (b1 : s.st.length + szI body ≤ 1099511627775) (b2 : s.fs.length + szI body ≤ 1099511627775) :
    Calls Tryd.prog 48 #[.pointer (some ⟨p, 0, none⟩), insV op a y n v4 (.slice ao body.len k) v6] w (endF N p (.pointer (some ⟨c, 0, none⟩)) lv w sv fv ((tBlock (tyL E body) (if op = 3 then [] else resV a) (resV a) s).bind fun s => .ok (tPush (resV a) s))) := by
  have hty := res_ok ha
  have hrl := resV_len a
  obtain ⟨w1, hw1, h1, hx1, ho1, t1⟩ := box_step h op a y n v4 (.slice ao body.len k) v6
  unfold insV
  obtain ⟨B, hB0⟩ : ∃ B, B = w.heap.size := ⟨_, rfl⟩
  obtain ⟨x0, x1, x2, x3, x4, x5, x6⟩ := hx1.c
  have go : ∀ (op' : Int) (X : Except Int Ts) (goes : List Int) (gb : Bool), op = op' → (op' = 2 ∧ goes = resV a ∨ op' = 3 ∧ goes = []) → X = ((tBlock (tyL E body) goes (resV a) s).bind fun s => .ok (tPush (resV a) s)) →
      Calls Tryd.prog 48 #[.pointer (some ⟨p, 0, none⟩), insV op a y n v4 (.slice ao body.len k) v6] w (endF N p (.pointer (some ⟨c, 0, none⟩)) lv w sv fv X) := by
    intro op' X goes gb e1 e2 e0
    unfold insV
    subst e1
    replace e0 := Lib.hid e0
    have hgt : ∀ t ∈ goes, tyo t := by
      rcases e2 with ⟨_, rfl⟩ | ⟨_, rfl⟩
      · exact hty
      · intro t ht; cases ht
    have hgl : goes.length ≤ 1 := by
      rcases e2 with ⟨_, rfl⟩ | ⟨_, rfl⟩
      · exact hrl
      · simp
    cases hq : tBlock (tyL E body) goes (resV a) s with
    | error m =>
      have e3 : X = .error m := by rw [e0.out, hq]; rfl
      replace e3 := Lib.hid e3
      rcases e2 with ⟨rfl, rfl⟩ | ⟨rfl, rfl⟩
      all_goals (
        go_enter Tryd.func48, Tryd.ntmps48
        go_upto_region 1 with (fail)
        rw [← hw1]
        rw [← hB0] at x0 x1 x2 x3 x4 x5 x6 hx1 ho1 ⊢
        clear hw1 hB0
        go_wp2_with fail
        refine (result_v a _).mono ?_
        rintro e w2 ⟨⟨ra, rc, rfl, ri, rf⟩, b2'⟩
        have d2 : Tw p sv fv sv fv w1 w2 := .of_below b2'
        have h2 := h1.step b2'
        have hl2 := LiB.fresh h1.t.o ri rf
        have hx2 := hx1.tw ho1 d2
        clear x0 x1 x2 x3 x4 x5 x6
        obtain ⟨x0, x1, x2, x3, x4, x5, x6⟩ := hx2.c
        go_wp2_with fail
        first
          | refine (blk_er hB h2 hR hRf hf hl2 hl2 hty hty hrl hrl hlen hi b1 b2 hq).mono ?_
          | refine (blk_er (ga := none) (gc := 0) hB h2 hR hRf hf ⟨⟨by decide, .inl rfl⟩, .inl rfl⟩ hl2 (fun t ht => by cases ht) hty (by decide) hrl hlen hi b1 b2 hq).mono ?_
        rintro e w3 ⟨rfl, sv3, fv3, d3⟩
        go_wp2
        exact ⟨rfl, by rw [e3.out]; exact ⟨rfl, _, _, (t1.trans d2).trans d3⟩⟩)
    | ok u =>
      have e3 : X = .ok (tPush (resV a) u) := by rw [e0.out, hq]; rfl
      replace e3 := Lib.hid e3
      obtain ⟨ul, uw, uk⟩ := tBlock_len (tyL_ok h.ok body hf) hgt hty h.wf hq
      rcases e2 with ⟨rfl, rfl⟩ | ⟨rfl, rfl⟩
      all_goals (
        go_enter Tryd.func48, Tryd.ntmps48
        go_upto_region 1 with (fail)
        rw [← hw1]
        rw [← hB0] at x0 x1 x2 x3 x4 x5 x6 hx1 ho1 ⊢
        clear hw1 hB0
        go_wp2_with fail
        refine (result_v a _).mono ?_
        rintro e w2 ⟨⟨ra, rc, rfl, ri, rf⟩, b2'⟩
        have d2 : Tw p sv fv sv fv w1 w2 := .of_below b2'
        have h2 := h1.step b2'
        have hl2 := LiB.fresh h1.t.o ri rf
        have hx2 := hx1.tw ho1 d2
        clear x0 x1 x2 x3 x4 x5 x6
        obtain ⟨x0, x1, x2, x3, x4, x5, x6⟩ := hx2.c
        go_wp2_with fail
        first
          | refine (blk_ok hB h2 hR hRf hf hl2 hl2 hty hty hrl hrl hlen hi b1 b2 hq).mono ?_
          | refine (blk_ok (ga := none) (gc := 0) hB h2 hR hRf hf ⟨⟨by decide, .inl rfl⟩, .inl rfl⟩ hl2 (fun t ht => by cases ht) hty (by decide) hrl hlen hi b1 b2 hq).mono ?_
        rintro e w3 ⟨rfl, sv3, fv3, h3, d3⟩
        have hpu := push_ty (lc := rc) h3 (hl2.tw d3).1 hty (by omega)
        go_wp2_with fail
        refine hpu.mono ?_
        rintro e w4 ⟨rfl, sv4, h4, d4⟩
        go_wp2
        go_end0
        rw [e3.out]
        exact ⟨rfl, sv4, fv3, h4, ((t1.trans d2).trans d3).trans d4⟩)
  rcases hop with rfl | rfl
  · exact go 2 _ _ true rfl (.inl ⟨rfl, rfl⟩) rfl
  · exact go 3 _ _ true rfl (.inr ⟨rfl, rfl⟩) rfl
end

end Go.Proofs.YtacohbllbjgdgaaDoor
