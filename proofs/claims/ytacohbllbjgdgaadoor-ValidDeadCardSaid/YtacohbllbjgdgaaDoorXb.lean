/- The typer's smallest functions. -/
import Derived.Test.YtacohbllbjgdgaaDoorXa
import Derived.WalkLawsBesides
import Derived.RegionTactic
import Derived.BigRegion
import Derived.StillTailTactics
import Derived.BigQuiet
import Derived.Deep.QuietTactic
import Derived.Deep.Cut
import Derived.Deep.CutRange
namespace Go.Proofs.YtacohbllbjgdgaaDoor
open Go.RowKit
set_option linter.unusedVariables false
set_option linter.unusedSimpArgs false

/-- A panic that tells an error's number. -/
def faultV (n : Int) : List PanicEntry := [{ v := .iface 50 (.agg #[.int .i64 n]), recovered := false }]
theorem vwant_yes (n : Int) (w : World) : Calls Tryd.prog 20 #[.bool true, .int .i64 n] w fun e w' => e = .returned (.tuple #[]) ∧ w = w' := by
  go_enter Tryd.func20, Tryd.ntmps20
  go_wp2
  go_end0
  exact ⟨rfl, rfl⟩
theorem vwant_no (n : Int) (w : World) : Calls Tryd.prog 20 #[.bool false, .int .i64 n] w fun e w' => e = .panicked (faultV n) ∧ w = w' := by
  go_enter Tryd.func20, Tryd.ntmps20
  go_wp2
  exact ⟨rfl, rfl, rfl⟩
def endV (ok : Bool) (n : Int) : Ending := if ok = true then .returned (.tuple #[]) else .panicked (faultV n)
theorem has_any (n m : Int) (w : World) : Calls Tryd.prog 22 #[.int .i64 n, .int .i64 m] w fun e w' => e = endV (decide (n < m)) 61 ∧ w = w' := by
  go_enter Tryd.func22, Tryd.ntmps22
  by_cases h : n < m
  · go_wp2_with fail
    refine (vwant_yes 61 _).mono ?_
    rintro e w' ⟨rfl, rfl⟩
    go_wp2
    go_end0
    exact ⟨by rw [decide_eq_true h]; rfl, rfl⟩
  · go_wp2_with fail
    refine (vwant_no 61 _).mono ?_
    rintro e w' ⟨rfl, rfl⟩
    go_wp2
    exact ⟨rfl, by rw [decide_eq_false (show ¬ n < m by omega)]; rfl, rfl⟩
/-- The typer's block. -/
structure TyP (N p : Nat) (cv lv : Value) (w : World) (sv fv : Value) (s : Ts) : Prop where
  b : w.heap[p]? = some (.cells #[cv, lv, sv, fv] 80 (0, 0))
  o : Ows N p 94 1 w sv fv s
section
variable {N p : Nat} {cv lv : Value} {w w' : World} {sv fv sv' fv' : Value} {s : Ts}
theorem TyP.c (h : TyP N p cv lv w sv fv s) : w.cell? ⟨p, 0, none⟩ = some cv ∧ w.cell? ⟨p, 1, none⟩ = some lv ∧ w.cell? ⟨p, 2, none⟩ = some sv ∧ w.cell? ⟨p, 3, none⟩ = some fv ∧ w.frozen? ⟨p, 2, none⟩ = false ∧ w.frozen? ⟨p, 3, none⟩ = false :=
  ⟨by rw [cell_of_row w p 0 _ _ _ h.b]; rfl, by rw [cell_of_row w p 1 _ _ _ h.b]; rfl, by rw [cell_of_row w p 2 _ _ _ h.b]; rfl, by rw [cell_of_row w p 3 _ _ _ h.b]; rfl, frozen_of_row w p 2 _ _ h.b, frozen_of_row w p 3 _ _ h.b⟩
theorem TyP.step (h : TyP N p cv lv w sv fv s) (b : Below w.heap.size w w') : TyP N p cv lv w' sv fv s := ⟨by rw [b.block p (lt_of_block h.b)]; exact h.b, h.o.step b⟩
end
theorem Ows.top {N p : Nat} {et : TypeId} {un : Int} {w : World} {sv fv : Value} {s : Ts} (h : Ows N p et un w sv fv s) {f : Fr} {r : List Fr} (hf : s.fs = f :: r) : ∃ g cap, ∃ fa : FA, fv = .slice (some ⟨g, 0, none⟩) (r.length + 1) cap ∧ N ≤ g ∧
    w.cell? ⟨g, r.length * 4, none⟩ = some (.slice fa.ga f.goes.length fa.gc) ∧ w.cell? ⟨g, r.length * 4 + 1, none⟩ = some (.slice fa.ea f.ends.length fa.ec) ∧
    w.cell? ⟨g, r.length * 4 + 2, none⟩ = some (.int .i64 f.h) ∧ w.cell? ⟨g, r.length * 4 + 3, none⟩ = some (.bool f.dead) ∧ w.frozen? ⟨g, r.length * 4 + 3, none⟩ = false ∧
    LiB w p sv fv fa.ga f.goes ∧ LiB w p sv fv fa.ea f.ends ∧ r.length + 1 ≤ cap ∧ cap ≤ 9223372036854775807 := by
  obtain ⟨g, cap, fa, h1, h2, h3, h4, h5, h6, h7, h8, h9, h10, h11⟩ := h.frame (n := 0) (f := f) (by rw [hf]; rfl)
  rw [hf, List.length_cons] at h1 h3 h4 h5 h6 h7 h10
  simp only [maxLen] at h11
  exact ⟨g, cap, fa, h1, h2, h3, h4, h5, h6, h7, h8, h9, h10, by omega⟩
theorem Ows.sl {N p : Nat} {et : TypeId} {un : Int} {w : World} {sv fv : Value} {s : Ts} (h : Ows N p et un w sv fv s) : ∃ a c, sv = .slice a s.st.length c ∧ s.st.length ≤ 9223372036854775807 := by
  rcases h.st.2 with ⟨rfl, h0⟩ | ⟨g, cap, cur, rfl, _, _, hn, hm, _⟩
  · exact ⟨_, _, by rw [h0], by omega⟩
  · simp only [maxLen] at hm
    exact ⟨_, _, rfl, by omega⟩
theorem below_drawn {w : World} (n : Nat) : Below w.heap.size w (w.drewN n) := ⟨rfl, rfl, rfl, Nat.le_refl _, fun _ _ => rfl⟩
set_option maxRecDepth 100000 in
theorem top_any {N p : Nat} {cv lv : Value} {w : World} {sv fv : Value} {s : Ts} (h : TyP N p cv lv w sv fv s) {f : Fr} {r : List Fr} (hf : s.fs = f :: r) :
    Calls Tryd.prog 40 #[.pointer (some ⟨p, 0, none⟩)] w fun e w' => (∃ g cap, fv = .slice (some ⟨g, 0, none⟩) (r.length + 1) cap ∧ e = .returned (.pointer (some ⟨g, r.length * 4, none⟩))) ∧ Below w.heap.size w w' := by
  obtain ⟨g, cap, fa, rfl, hg, c0, c1, c2, c3, z3, l1, l2, hn, hm⟩ := h.o.top hf
  obtain ⟨k0, k1, k2, k3, z2, z3'⟩ := h.c
  have e1 : IntKind.i64.wrap (((r.length + 1 : Nat) : Int) - 1) = (r.length : Int) := by rw [IntKind.wrap_i64]; omega
  clear hf
  go_enter Tryd.func40, Tryd.ntmps40
  go_wp2_with fail
  go_quiet (fail)
  go_wp2_with fail
  go_ret
  exact ⟨⟨g, cap, rfl, rfl⟩, below_drawn nq⟩
theorem TyP.setS {N p : Nat} {cv lv : Value} {w : World} {sv fv v' : Value} {s s' : Ts} (h : TyP N p cv lv w sv fv s) (o : Ows N p 94 1 w v' fv s') : TyP N p cv lv (w.setCell ⟨p, 2, none⟩ v') v' fv s' :=
  ⟨by rw [heap_setCell_same w p 2 _ _ _ h.b]; rfl, o.setP 2 v'⟩
theorem TyP.setF {N p : Nat} {cv lv : Value} {w : World} {sv fv v' : Value} {s s' : Ts} (h : TyP N p cv lv w sv fv s) (o : Ows N p 94 1 w sv v' s') : TyP N p cv lv (w.setCell ⟨p, 3, none⟩ v') sv v' s' :=
  ⟨by rw [heap_setCell_same w p 3 _ _ _ h.b]; rfl, o.setP 3 v'⟩
theorem TyP.popped {N p : Nat} {cv lv : Value} {w : World} {sv fv : Value} {s : Ts} (h : TyP N p cv lv w sv fv s) {g c x : Nat} {t : Int} {q : List Int} (e : sv = .slice (some ⟨g, 0, none⟩) x c) (hs : s.st = t :: q) :
    TyP N p cv lv (w.setCell ⟨p, 2, none⟩ (.slice (some ⟨g, 0, none⟩) q.length c)) (.slice (some ⟨g, 0, none⟩) q.length c) fv ⟨q, s.fs⟩ := by
  have := h.o.drop e (m := q.length) (by rw [hs]; simp)
  rw [hs, show (t :: q).length - q.length = 1 by simp] at this
  exact h.setS this
/-- What a pop tells. -/
def Pq (N p : Nat) (cv lv : Value) (w : World) (sv fv : Value) (x : Except Int (Int × Ts)) (e : Ending) (w' : World) : Prop :=
  match x with
  | .ok q => e = .returned (.int .i64 (encT 1 q.1)) ∧ ∃ sv', TyP N p cv lv w' sv' fv q.2 ∧ Tw p sv fv sv' fv w w'
  | .error n => e = .panicked (faultV n) ∧ ∃ sv' fv', Tw p sv fv sv' fv' w w'
theorem tPop_nil {t : Int} {s : Ts} {f : Fr} {r : List Fr} (hf : s.fs = f :: r) (hl : s.st.length = f.h) : tPop t s = if f.dead = true then .ok (0, s) else .error 60 := by
  unfold tPop
  rw [hf]
  dsimp only
  rw [if_pos hl]
theorem tPop_cons {t : Int} {s : Ts} {f : Fr} {r : List Fr} {x : Int} {q : List Int} (hf : s.fs = f :: r) (hl : ¬ s.st.length = f.h) (hs : s.st = x :: q) : tPop t s = if t ≠ 0 ∧ x ≠ 0 ∧ x ≠ t then .error 60 else .ok (x, ⟨q, s.fs⟩) := by
  unfold tPop
  rw [hf]
  dsimp only
  rw [if_neg hl, hs]
set_option maxRecDepth 100000 in
set_option maxHeartbeats 4000000 in
theorem pop_any {N p : Nat} {cv lv : Value} {w : World} {sv fv : Value} {s : Ts} (h : TyP N p cv lv w sv fv s) (hw : Wf s) {t t' : Int} (ht : (t = 0 ∧ t' = 2) ∨ (tyo t ∧ t' = t)) :
    Calls Tryd.prog 51 #[.pointer (some ⟨p, 0, none⟩), .int .i64 t'] w (Pq N p cv lv w sv fv (tPop t s)) := by
  obtain ⟨f, r, hf, hh⟩ := hw.fs
  have hbel : ∀ w', Below w.heap.size w w' → Below p w w' := fun w' b => h.o.below (.of_below b)
  generalize hX : tPop t s = X
  replace hX := Lib.hid hX
  by_cases hl : s.st.length = f.h
  · replace hX := Lib.hid ((tPop_nil hf hl).symm.trans hX.out)
    obtain ⟨sa, sc, hsv, hsl⟩ := h.o.sl
    have hlb : (((s.st.length : Nat) : Int) == ((f.h : Nat) : Int)) = true := by simp [hl]
    go_enter Tryd.func51, Tryd.ntmps51
    go_wp2_with fail
    refine (top_any h hf).mono ?_
    rintro e w1 ⟨⟨g, cap, hfv, rfl⟩, b1⟩
    have h1 := h.step b1
    obtain ⟨g', cap', fa, hfv', hg, c0, c1, c2, c3, z3, l1, l2, hn, hm⟩ := h1.o.top hf
    rw [hfv] at hfv'
    cases hfv'
    obtain ⟨k0, k1, k2, k3, z2, z3'⟩ := h1.c
    rw [hsv] at k2
    go_wp2_with fail
    go_quiet (fail)
    have h2 := h1.step (below_drawn nq)
    have b2 : Below w.heap.size w (w1.drewN nq) := b1.trans ((below_drawn nq).mono b1.size)
    by_cases hd : f.dead = true
    · replace hX := hX.out
      rw [if_pos hd] at hX
      subst hX
      rw [hd] at c3
      go_wp2_with fail
      refine (vwant_yes 60 _).mono ?_
      rintro e w' ⟨rfl, rfl⟩
      go_wp2
      go_ret
      exact ⟨rfl, sv, h2, .of_below b2⟩
    · replace hX := hX.out
      rw [if_neg hd] at hX
      subst hX
      rw [Bool.not_eq_true] at hd
      rw [hd] at c3
      go_wp2_with fail
      refine (vwant_no 60 _).mono ?_
      rintro e w' ⟨rfl, rfl⟩
      go_wp2
      exact ⟨rfl, rfl, _, _, .of_below b2⟩
  · cases hs : s.st with
    | nil => rw [hs] at hl hh; simp at hl hh; omega
    | cons x q =>
      replace hX := Lib.hid ((tPop_cons hf hl hs).symm.trans hX.out)
      obtain ⟨sg, sc, hsv, hsg, hlast, hsn, hsm⟩ := h.o.last hs
      simp only [maxLen] at hsm
      have hx : ok01 x := hw.st x (by rw [hs]; exact List.mem_cons_self)
      rw [hs, List.length_cons] at hl
      have hlb : (((q.length + 1 : Nat) : Int) == ((f.h : Nat) : Int)) = false := by simp; omega
      have e1 : IntKind.i64.wrap (((q.length + 1 : Nat) : Int) - 1) = (q.length : Int) := by rw [IntKind.wrap_i64]; omega
      have e2 : IntKind.i64.wrap (q.length : Int) = (q.length : Int) := by rw [IntKind.wrap_i64]; omega
      go_enter Tryd.func51, Tryd.ntmps51
      go_wp2_with fail
      refine (top_any h hf).mono ?_
      rintro e w1 ⟨⟨g, cap, hfv, rfl⟩, b1⟩
      have h1 := h.step b1
      obtain ⟨g', cap', fa, hfv', hg, c0, c1, c2, c3, z3, l1, l2, hn, hm⟩ := h1.o.top hf
      rw [hfv] at hfv'
      cases hfv'
      obtain ⟨k0, k1, k2, k3, z2, z3'⟩ := h1.c
      rw [hsv] at k2
      go_wp2_with fail
      go_quiet (fail)
      have h2 := h1.step (below_drawn nq)
      have b2 : Below w.heap.size w (w1.drewN nq) := b1.trans ((below_drawn nq).mono b1.size)
      obtain ⟨w2, hw2⟩ : ∃ w2, w2 = w1.drewN nq := ⟨_, rfl⟩
      rw [← hw2] at h2 b2 ⊢
      clear hw2 h1 b1 c0 c1 c2 c3 z3 l1 l2 k0 k1 k2 k3 z2 z3' hlast
      obtain ⟨k0, k1, k2, k3, z2, z3'⟩ := h2.c
      rw [hsv] at k2
      obtain ⟨sg', sc', hsv', _, hlast, _, _⟩ := h2.o.last hs
      rw [hsv] at hsv'
      cases hsv'
      go_wp2_with fail
      go_quiet (fail)
      have h3 := h2.step (below_drawn nq)
      have b3 : Below w.heap.size w (w2.drewN nq) := b2.trans ((below_drawn nq).mono b2.size)
      obtain ⟨w3, hw3⟩ : ∃ w3, w3 = w2.drewN nq := ⟨_, rfl⟩
      rw [← hw3] at h3 b3 ⊢
      clear hw3 h2 b2 k0 k1 k2 k3 z2 z3' hlast
      obtain ⟨k0, k1, k2, k3, z2, z3'⟩ := h3.c
      rw [hsv] at k2
      go_wp2_with fail
      have i0 : (0 : Int) ≤ (q.length : Int) := by omega
      have i1 : (q.length : Int) ≤ (sc : Int) := by omega
      have i2 : q.length ≤ sc := by omega
      refine wp_region_still_tail 12 (by kernel_rfl) (by kernel_rfl) ?_
      simp only [List.take_succ_cons, List.take_zero, List.drop_succ_cons, List.drop_zero]
      repeat still_step
      refine wpStill_nil ?_
      change wpList _ _ _ _ _ w3.drew
      have h4 := h3.step (w' := w3.drew) (below_drawn 1)
      have b4 : Below w.heap.size w w3.drew := b3.trans ((below_drawn (w := w3) 1).mono b3.size)
      obtain ⟨w4, hw4⟩ : ∃ w4, w4 = w3.drew := ⟨_, rfl⟩
      rw [← hw4] at h4 b4 ⊢
      clear hw4 h3 b3 k0 k1 k2 k3 z2 z3'
      obtain ⟨k0, k1, k2, k3, z2, z3'⟩ := h4.c
      have h5 := h4.popped hsv hs
      have t5 := (Tw.of_below (p := p) (sv := sv) (fv := fv) b4).cutS (sv'' := .slice (some ⟨sg, 0, none⟩) q.length sc) (by rw [hsv]; rfl) |>.set 2 (.slice (some ⟨sg, 0, none⟩) q.length sc)
      by_cases hb : t ≠ 0 ∧ x ≠ 0 ∧ x ≠ t
      · replace hX := hX.out
        rw [if_pos hb] at hX
        subst hX
        have y1 : (encT 1 x == t') = false := by unfold encT; unfold ok01 at hx; unfold tyo at ht; simp; split <;> omega
        have y2 : (encT 1 x == 1) = false := by unfold encT; unfold ok01 at hx; simp; omega
        have y3 : (t' == 2) = false := by unfold tyo at ht; simp; omega
        go_wp2_with fail
        refine (vwant_no 60 _).mono ?_
        rintro e w' ⟨rfl, rfl⟩
        go_wp2
        subst hsv
        subst hfv
        exact ⟨rfl, rfl, _, _, t5⟩
      · replace hX := hX.out
        rw [if_neg hb] at hX
        subst hX
        have y4 : (encT 1 x == t') = true ∨ ((encT 1 x == t') = false ∧ (encT 1 x == 1) = true) ∨ ((encT 1 x == t') = false ∧ (encT 1 x == 1) = false ∧ (t' == 2) = true) := by
          unfold encT
          unfold ok01 at hx
          unfold tyo at ht
          simp
          split <;> omega
        rcases y4 with y1 | ⟨y1, y2⟩ | ⟨y1, y2, y3⟩
        all_goals (
          go_wp2_with fail
          refine (vwant_yes 60 _).mono ?_
          rintro e w' ⟨rfl, rfl⟩
          go_wp2
          go_ret
          exact ⟨rfl, _, h5, t5⟩)

end Go.Proofs.YtacohbllbjgdgaaDoor
