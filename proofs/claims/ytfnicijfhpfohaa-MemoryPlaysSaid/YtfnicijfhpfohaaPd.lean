/- One call of both, joined; forks. -/
import Derived.Test.YtfnicijfhpfohaaPc
namespace Go.Proofs.Ytfnicijfhpfohaa
open Go.RowKit
set_option linter.unusedVariables false

def Twin (w : World) (B : Nat) (u v : Value) : Prop := (u = .pointer none ∧ v = .pointer none ∧ B ≤ w.heap.size) ∨ ∃ p q cap p' q' cap' l pg most, u = .pointer (some ⟨p, 0, none⟩) ∧ v = .pointer (some ⟨p', 0, none⟩) ∧ TwinAt w B p q cap p' q' cap' l pg most

def Played (w : World) (B : Nat) (u v : Value) (e : Ending) (w' : World) : Prop := e = .returned (.bool true) ∧ Twin w' B u v ∧ Below B w w'

theorem played_nil {w w' : World} {B : Nat} {e : Ending} (hB : B ≤ w.heap.size) (h : e = .returned (.bool true) ∧ Chg w w' []) : Played w B (.pointer none) (.pointer none) e w' :=
  ⟨h.1, .inl ⟨rfl, rfl, Nat.le_trans hB h.2.size⟩, h.2.below hB (by simp)⟩
theorem played_twin {w w' : World} {B p p' most : Nat} {l : List Nat} {pg : Nat} {e : Ending} (h : e = .returned (.bool true) ∧ Ends w w' B p p' most l pg) : Played w B (.pointer (some ⟨p, 0, none⟩)) (.pointer (some ⟨p', 0, none⟩)) e w' := by
  obtain ⟨he, q, cap, q', cap', ht, hb⟩ := h
  exact ⟨he, .inr ⟨p, q, cap, p', q', cap', l, pg, most, rfl, rfl, ht⟩, hb⟩
theorem played_still {w w' : World} {B p q cap p' q' cap' : Nat} {l : List Nat} {pg most : Nat} {e : Ending} (ht : TwinAt w B p q cap p' q' cap' l pg most) (h : e = .returned (.bool true) ∧ Chg w w' []) : Played w B (.pointer (some ⟨p, 0, none⟩)) (.pointer (some ⟨p', 0, none⟩)) e w' :=
  ⟨h.1, .inr ⟨p, q, cap, p', q', cap', l, pg, most, rfl, rfl, ht.kept h.2 (by simp)⟩, h.2.below ht.size (by simp)⟩

theorem plays_any (kind n : Int) (at_ V : Nat) (s : ByteArray) (w : World) (B : Nat) (u v : Value) (h : Twin w B u v) (hat : at_ < 18446744073709551616) (hn1 : -9223372036854775808 ≤ n) (hn : n ≤ 9223372036854775807) :
    Calls Try.prog 21 #[u, v, .agg #[.int .i64 kind, .int .u64 at_, .int .i64 n, .int .u64 V, .string s]] w (Played w B u v) := by
  rcases h with ⟨rfl, rfl, hB⟩ | ⟨p, q, cap, p', q', cap', l, pg, most, rfl, rfl, ht⟩
  · by_cases k0 : kind = 0
    · subst k0; exact (plays_nil0 at_ n V s w).mono fun e w' h => played_nil hB h
    by_cases k1 : kind = 1
    · subst k1; exact (plays_nil1 at_ n V s w hat hn1 hn).mono fun e w' h => played_nil hB h
    by_cases k2 : kind = 2
    · subst k2; exact (plays_nil2 at_ n V s w hat hn1 hn).mono fun e w' h => played_nil hB h
    by_cases k3 : kind = 3
    · subst k3; exact (plays_nil3 at_ n V s w hat hn1 hn).mono fun e w' h => played_nil hB h
    by_cases k4 : kind = 4
    · subst k4
      by_cases hs : s.size ≤ 2097152
      · exact (plays_nil4 at_ n V s w hs).mono fun e w' h => played_nil hB h
      · exact (plays_big at_ n V s w _ _ (by omega)).mono fun e w' h => played_nil hB h
    exact (plays_none kind at_ n V s w _ _ k0 k1 k2 k3 k4).mono fun e w' h => played_nil hB h
  · by_cases k0 : kind = 0
    · subst k0; exact (plays_grow at_ n V s w B p q cap p' q' cap' l pg most ht).mono fun e w' h => played_twin h
    by_cases k1 : kind = 1
    · subst k1; exact (plays_load at_ n V s w B p q cap p' q' cap' l pg most ht hat hn1 hn).mono fun e w' h => played_twin h
    by_cases k2 : kind = 2
    · subst k2; exact (plays_store at_ n V s w B p q cap p' q' cap' l pg most ht hat hn1 hn).mono fun e w' h => played_twin h
    by_cases k3 : kind = 3
    · subst k3; exact (plays_text at_ n V s w B p q cap p' q' cap' l pg most ht hat hn1 hn).mono fun e w' h => played_twin h
    by_cases k4 : kind = 4
    · subst k4
      by_cases hs : s.size ≤ 2097152
      · exact (plays_fill at_ n V s w B p q cap p' q' cap' l pg most ht hs).mono fun e w' h => played_twin h
      · exact (plays_big at_ n V s w _ _ (by omega)).mono fun e w' h => played_still ht h
    exact (plays_none kind at_ n V s w _ _ k0 k1 k2 k3 k4).mono fun e w' h => played_still ht h

structure Forked (w w2 : World) (B p q cap p2 q2 cap2 p2' q2' cap2' : Nat) (l : List Nat) (pg most : Nat) : Prop where
  twin : TwinAt w2 B p2 q2 cap2 p2' q2' cap2' l pg most
  old : MemAt w2 p q cap l pg most
  below : Below B w w2
  e1 : p ≠ q2
  e2 : q ≠ q2
  e3 : p ≠ q2'
  e4 : q ≠ q2'
theorem forked {w w1 w2 : World} {B p q cap p' q' cap' : Nat} {l : List Nat} {pg most p2 q2 cap2 p2' q2' cap2' : Nat} (h : TwinAt w B p q cap p' q' cap' l pg most)
    (f : ForkAt w w1 p2 q2 cap2 l pg most) (r : RForkAt w1 w2 p2' q2' cap2' l pg most) : Forked w w2 B p q cap p2 q2 cap2 p2' q2' cap2' l pg most := by
  have hl := h.lt
  have hs := h.size
  have s1 := f.chg.size
  have f1 := f.p_new
  have f2 := f.q_new
  have r1 := r.p_new
  have r2 := r.q_new
  have g1 := f.mem.lt
  have g2 := f.mem.row.lt
  refine ⟨⟨f.mem.kept r.chg (by simp) (by simp), r.mem, by omega, by omega, by omega, by omega, by omega, by omega, by omega, by omega⟩, (h.m.kept f.chg (by simp) (by simp)).kept r.chg (by simp) (by simp), ?_, by omega, by omega, by omega, by omega⟩
  exact (f.chg.below hs (by simp)).trans (r.chg.below (by omega) (by simp))
theorem forked_done {w w2 w3 w4 : World} {B p q cap p2 q2 cap2 p2' q2' cap2' : Nat} {l l' : List Nat} {pg most : Nat} (h : Forked w w2 B p q cap p2 q2 cap2 p2' q2' cap2' l pg most)
    (g : Stored w2 w3 q2 cap2 l') (r : Stored w3 w4 q2' cap2' l') (hl : l'.length = l.length) : (TwinAt w4 B p2 q2 cap2 p2' q2' cap2' l' pg most ∧ Below B w w4) ∧ MemAt w4 p q cap l pg most := by
  have e1 := h.e1
  have e2 := h.e2
  have e3 := h.e3
  have e4 := h.e4
  have hs := h.twin.size
  have s1 := g.chg.size
  have b2 := h.twin.b2
  have b4 := h.twin.b4
  have d2 := h.twin.d2
  have d4 := h.twin.d4
  have d3 := h.twin.d3
  refine ⟨⟨⟨(h.twin.m.stored g hl).kept r.chg (by simp; omega) (by simp; omega), (h.twin.r.kept g.chg (by simp; omega) (by simp; omega)).stored r hl, h.twin.d1, d2, d3, d4, h.twin.b1, b2, h.twin.b3, b4⟩, ?_⟩, (h.old.kept g.chg (by simp; omega) (by simp; omega)).kept r.chg (by simp; omega) (by simp; omega)⟩
  exact h.below.trans ((g.chg.below hs (by intro x hx; simp at hx; omega)).trans (r.chg.below (by omega) (by intro x hx; simp at hx; omega)))

theorem twin_new {w w1 w2 : World} {p q p' q' n most : Nat} (a : NewAt w w1 p q n most) (r : RNewAt w1 w2 p' q' n most) : TwinAt w2 w.heap.size p q (n * 65536) p' q' (n * 65536) (zeros n) n most := by
  have s1 := a.chg.size
  have a1 := a.p_new
  have a2 := a.q_new
  have r1 := r.p_new
  have r2 := r.q_new
  have g1 := a.mem.lt
  have g2 := a.mem.row.lt
  exact ⟨a.mem.kept r.chg (by simp) (by simp), r.mem, by omega, by omega, by omega, by omega, by omega, by omega, by omega, by omega⟩
theorem twin_new_below {w w1 w2 : World} {p q p' q' n most : Nat} (a : NewAt w w1 p q n most) (r : RNewAt w1 w2 p' q' n most) : Below w.heap.size w w2 :=
  (a.chg.below (Nat.le_refl _) (by simp)).trans (r.chg.below a.chg.size (by simp))
end Go.Proofs.Ytfnicijfhpfohaa
