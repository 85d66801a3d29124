/- The typer: what an instruction that reckons takes; small functions. -/
import Derived.Test.YtacohbllbjgdgaaDoorXc
import Derived.Test.YtacohbllbjgdgaaDoorFa
namespace Go.Proofs.YtacohbllbjgdgaaDoor
open Go.RowKit
set_option linter.unusedVariables false
set_option linter.unusedSimpArgs false

/-- A new list of m numbers t. -/
def IsListV (H : Nat) (w : World) (v : Value) (m : Nat) (t : Int) : Prop :=
  ∃ p cap, v = .slice p m cap ∧ (m = 0 ∨ ∃ g, H ≤ g ∧ p = some ⟨g, 0, none⟩ ∧ ∀ i, i < m → w.cell? ⟨g, i, none⟩ = some (.int .i64 t))
theorem new_cell (w : World) (o1 o2 : Obj) (cs : Array Value) (e : TypeId) (i : Nat) (v : Value) (h : cs[i]? = some v) : (((w.alloc o1).alloc o2).alloc (.cells cs e)).cell? ⟨w.heap.size + 2, i, none⟩ = some v := by
  exact (World.cell?_alloc_at (w := (w.alloc o1).alloc o2) cs e _ i (by simp)).trans h

def SigL (w : World) (k t : Int) (m : Nat) (e : Ending) (w' : World) : Prop :=
  ∃ v, e = .returned (.tuple #[v, .int .i64 (sR k t), .bool (k != 0)]) ∧ IsListV w.heap.size w' v m t ∧ Below w.heap.size w w'

set_option maxRecDepth 100000 in
set_option maxHeartbeats 2000000 in
theorem sigl_any (op k n t : Int) (w : World) (h : OfIs op k n t) :
    Calls Tryd.prog 46 #[.int .i64 op] w (SigL w k t (sN k).toNat) := by
  have HF := fun w => Lib.hid (of_any op k n t w h)
  have hk := of_k h
  clear h
  rcases hk with ⟨rfl, rfl⟩ | rfl | rfl | rfl | rfl | ⟨rfl, ht⟩
  · go_enter Tryd.func46, Tryd.ntmps46
    go_wp2_with fail
    refine (HF _).out.mono ?_
    rintro e w' ⟨rfl, rfl⟩
    go_wp2
    go_ret3
    exact ⟨_, rfl, ⟨none, 0, rfl, .inl rfl⟩, (Below.of_alloc w _).alloc (by simp) _⟩
  · go_enter Tryd.func46, Tryd.ntmps46
    go_wp2_with fail
    refine (HF _).out.mono ?_
    rintro e w' ⟨rfl, rfl⟩
    go_wp2
    go_region
    all_goals
      go_wp2
      go_ret3
      refine ⟨_, rfl, ⟨some ⟨w.heap.size + 2, 0, none⟩, 1, by first | rfl | simp, .inr ⟨w.heap.size + 2, Nat.le_add_right _ _, rfl, fun i hi => ?_⟩⟩, ?_⟩
      · have : i = 0 := by have : (sN 1).toNat = 1 := rfl; omega
        subst this
        exact new_cell _ _ _ _ _ _ _ rfl
      · first | exact (((Below.of_alloc w _).alloc (by simp) _).alloc (by simp; omega) _).drew | exact ((Below.of_alloc w _).alloc (by simp) _).alloc (by simp; omega) _
  · go_enter Tryd.func46, Tryd.ntmps46
    go_wp2_with fail
    refine (HF _).out.mono ?_
    rintro e w' ⟨rfl, rfl⟩
    go_wp2
    all_goals
      go_ret3
      refine ⟨_, rfl, ⟨some ⟨w.heap.size + 2, 0, none⟩, 1, by first | rfl | simp, .inr ⟨w.heap.size + 2, Nat.le_add_right _ _, rfl, fun i hi => ?_⟩⟩, ?_⟩
      · have : i = 0 := by have : (sN 2).toNat = 1 := rfl; omega
        subst this
        exact new_cell _ _ _ _ _ _ _ rfl
      · first | exact (((Below.of_alloc w _).alloc (by simp) _).alloc (by simp; omega) _).drew | exact ((Below.of_alloc w _).alloc (by simp) _).alloc (by simp; omega) _
  · go_enter Tryd.func46, Tryd.ntmps46
    go_wp2_with fail
    refine (HF _).out.mono ?_
    rintro e w' ⟨rfl, rfl⟩
    go_wp2
    go_region
    all_goals
      go_wp2
      go_ret3
      refine ⟨_, rfl, ⟨some ⟨w.heap.size + 2, 0, none⟩, 2, by first | rfl | simp, .inr ⟨w.heap.size + 2, Nat.le_add_right _ _, rfl, fun i hi => ?_⟩⟩, ?_⟩
      · have : i = 0 ∨ i = 1 := by have : (sN 3).toNat = 2 := rfl; omega
        rcases this with rfl | rfl <;> exact new_cell _ _ _ _ _ _ _ rfl
      · first | exact (((Below.of_alloc w _).alloc (by simp) _).alloc (by simp; omega) _).drew | exact ((Below.of_alloc w _).alloc (by simp) _).alloc (by simp; omega) _
  · go_enter Tryd.func46, Tryd.ntmps46
    go_wp2_with fail
    refine (HF _).out.mono ?_
    rintro e w' ⟨rfl, rfl⟩
    go_wp2
    all_goals
      go_ret3
      refine ⟨_, rfl, ⟨some ⟨w.heap.size + 2, 0, none⟩, 2, by first | rfl | simp, .inr ⟨w.heap.size + 2, Nat.le_add_right _ _, rfl, fun i hi => ?_⟩⟩, ?_⟩
      · have : i = 0 ∨ i = 1 := by have : (sN 4).toNat = 2 := rfl; omega
        rcases this with rfl | rfl <;> exact new_cell _ _ _ _ _ _ _ rfl
      · first | exact (((Below.of_alloc w _).alloc (by simp) _).alloc (by simp; omega) _).drew | exact ((Below.of_alloc w _).alloc (by simp) _).alloc (by simp; omega) _
  · rcases ht with rfl | rfl
    all_goals
      go_enter Tryd.func46, Tryd.ntmps46
      go_wp2_with fail
      refine (HF _).out.mono ?_
      rintro e w' ⟨rfl, rfl⟩
      go_wp2
      go_region
      all_goals
        go_wp2
        go_ret3
        refine ⟨_, rfl, ⟨some ⟨w.heap.size + 2, 0, none⟩, 1, by first | rfl | simp, .inr ⟨w.heap.size + 2, Nat.le_add_right _ _, rfl, fun i hi => ?_⟩⟩, ?_⟩
        · have : i = 0 := by have : (sN 5).toNat = 1 := rfl; omega
          subst this
          exact new_cell _ _ _ _ _ _ _ rfl
        · first | exact (((Below.of_alloc w _).alloc (by simp) _).alloc (by simp; omega) _).drew | exact ((Below.of_alloc w _).alloc (by simp) _).alloc (by simp; omega) _

theorem IsListV.ints {H : Nat} {w : World} {v : Value} {m : Nat} {t : Int} (h : IsListV H w v m t) (hm : m ≤ 2) : ∃ a c, v = .slice a m c ∧ IntsIn w a (List.replicate m t) ∧ (List.replicate m t = [] ∨ ∀ ad, a = some ad → H ≤ ad.block) := by
  obtain ⟨p, c, rfl, h⟩ := h
  refine ⟨p, c, rfl, ⟨by rw [List.length_replicate]; omega, ?_⟩, ?_⟩
  · rcases h with rfl | ⟨g, _, rfl, h⟩
    · exact .inl rfl
    · refine .inr ⟨g, 0, rfl, fun i x hx => ?_⟩
      obtain ⟨hi, hx⟩ := List.getElem?_eq_some_iff.1 hx
      rw [List.getElem_replicate] at hx
      subst hx
      rw [Nat.zero_add]
      exact h i (by simpa using hi)
  · rcases h with rfl | ⟨g, hg, rfl, h⟩
    · exact .inl rfl
    · exact .inr fun ad e => by cases e; exact hg
theorem sgN_eq (k : Int) : sgN k = (sN k).toNat := by
  unfold sgN sN
  repeat' split
  all_goals first | rfl | omega
theorem sgR_eq {k t : Int} (h : (k = 0 ∧ t = 0) ∨ k = 1 ∨ k = 2 ∨ k = 3 ∨ k = 4 ∨ (k = 5 ∧ (t = 126 ∨ t = 127))) : sgR k t = sR k t := by
  unfold sgR sR
  repeat' split
  all_goals omega
theorem sg_of' {op k n t : Int} (h : OfIs op k n t) (q : Int × Int × Int) (hq : sgV op = q) : q = (k, n, t) := by
  have h := h.is
  unfold sgV at hq
  repeat' split at hq
  all_goals subst hq
  all_goals rw [Prod.mk.injEq, Prod.mk.injEq]
  all_goals omega
theorem sg_of {op k n t : Int} (h : OfIs op k n t) : sgV op = (k, n, t) ∧ sgN k = (sN k).toNat ∧ sgR k t = sR k t := ⟨sg_of' h _ rfl, sgN_eq k, sgR_eq (of_k h)⟩
/-- A list that a call has made, and that nobody owns. -/
theorem LiB.fresh {w w' : World} {N p : Nat} {et : TypeId} {un : Int} {sv fv : Value} {s : Ts} (h : Ows N p et un w sv fv s) {a : Option Addr} {l : List Int} (hi : IntsIn w' a l) (hf : l = [] ∨ ∀ ad, a = some ad → w.heap.size ≤ ad.block) : LiB w' p sv fv a l := by
  refine ⟨hi, hf.imp_right fun q ad e => ?_⟩
  have := q ad e
  have h1 := h.hN
  have h2 := h.hw
  obtain ⟨L, _, h3, _⟩ := h.fs
  exact ⟨by omega, fun q => by have := (h.st.lt _ q).2; omega, fun q => by have := (h3.lt _ q).2; omega⟩
set_option maxRecDepth 100000 in
theorem result_v (n : Int) (w : World) : Calls Tryd.prog 58 #[.int .i64 n] w fun e w' => (∃ a c, e = .returned (.slice a (resV n).length c) ∧ IntsIn w' a (resV n) ∧ (resV n = [] ∨ ∀ ad, a = some ad → w.heap.size ≤ ad.block)) ∧ Below w.heap.size w w' := by
  by_cases h : n = 0
  · subst h
    go_enter Tryd.func58, Tryd.ntmps58
    go_wp2
    go_ret
    exact ⟨⟨none, 0, rfl, ⟨by decide, .inl rfl⟩, .inl rfl⟩, Below.refl _ _⟩
  · have hr : resV n = [n] := by unfold resV; rw [if_neg h]
    have hb : (n == 0) = false := by simp [h]
    rw [hr]
    go_enter Tryd.func58, Tryd.ntmps58
    go_wp2
    go_ret
    refine ⟨⟨_, _, rfl, ⟨by simp, .inr ⟨_, _, rfl, fun i x hx => ?_⟩⟩, .inr fun ad e => by cases e; exact Nat.le_refl _⟩, Below.of_alloc w _⟩
    have hi : i = 0 := by have := (List.getElem?_eq_some_iff.1 hx).1; simp at this; omega
    subst hi
    simp at hx
    subst hx
    exact World.cell?_alloc_at _ _ _ 0 (by simp)
set_option maxRecDepth 100000 in
theorem bytes_any (op : Int) (w : World) : Calls Tryd.prog 62 #[.int .i64 op] w fun e w' => e = .returned (.int .i64 (bytesV op)) ∧ w = w' := by
  go_enter Tryd.func62, Tryd.ntmps62
  go_wp2
  all_goals go_ret
  all_goals refine ⟨?_, rfl⟩
  all_goals refine congrArg (fun x => Ending.returned (Value.int .i64 x)) ?_
  all_goals simp only [beq_iff_eq, beq_eq_false_iff_ne, ne_eq] at *
  all_goals unfold bytesV
  all_goals repeat' split
  all_goals omega
theorem IntsIn.at {w : World} {a : Option Addr} {l : List Int} (h : IntsIn w a l) {i : Nat} {x : Int} (hx : l[i]? = some x) : ∃ b o, a = some ⟨b, o, none⟩ ∧ w.cell? ⟨b, o + i, none⟩ = some (.int .i64 x) := by
  rcases h.2 with rfl | ⟨b, o, rfl, hc⟩
  · simp at hx
  · exact ⟨b, o, rfl, hc i x hx⟩
theorem take_eq_succ {l r : List Int} {i : Nat} {x y : Int} (hx : l[i]? = some x) (hy : r[i]? = some y) (h : l.take i = r.take i) (e : x = y) : l.take (i + 1) = r.take (i + 1) := by
  rw [List.take_add_one, List.take_add_one, h, hx, hy, e]
set_option maxRecDepth 100000 in
set_option maxHeartbeats 1000000 in
theorem equal_any (l r : List Int) (la ra : Option Addr) (lc rc : Nat) (w : World) (hl : IntsIn w la l) (hr : IntsIn w ra r) :
    Calls Tryd.prog 60 #[.slice la l.length lc, .slice ra r.length rc] w fun e w' => e = .returned (.bool (decide (l = r))) ∧ Below w.heap.size w w' := by
  have h1 := hl.1
  have h2 := hr.1
  by_cases hn : l.length = r.length
  · have hb : (((l.length : Nat) : Int) != ((r.length : Nat) : Int)) = false := by simp [hn]
    go_enter Tryd.func60, Tryd.ntmps60
    go_wp2_with fail
    go_loopw [5, 13] (fun v5 v wr => ∃ (i : Nat) (n : Nat), i ≤ l.length ∧ v = .int .i64 i ∧ wr = w.drewN n ∧ l.take i = r.take i) (fun _ v _ => l.length - (intOf v).toNat)
    case atStart => exact ⟨0, 0, by omega, rfl, rfl, by simp⟩
    case round =>
      obtain ⟨i, n, hi, rfl, rfl, ht⟩ := hrel
      by_cases hlt : i < l.length
      · obtain ⟨x, hx⟩ : ∃ x, l[i]? = some x := ⟨_, List.getElem?_eq_getElem hlt⟩
        obtain ⟨y, hy⟩ : ∃ y, r[i]? = some y := ⟨_, List.getElem?_eq_getElem (show i < r.length by omega)⟩
        obtain ⟨b1, o1, rfl, c1⟩ := hl.at hx
        obtain ⟨b2, o2, rfl, c2⟩ := hr.at hy
        have i2 : (i : Int) < (r.length : Int) := by omega
        replace ht := Lib.hid ht
        replace hx := Lib.hid hx
        replace hy := Lib.hid hy
        by_cases he : x = y
        · have hxy : (x != y) = false := by simp [he]
          go_wp2_with fail
          go_quiet (fail)
          go_wp2
          go_roundw
          case rel => exact ⟨i + 1, n + nq, by omega, by simp, rfl, take_eq_succ hx.out hy.out ht.out he⟩
          case measure => simp [intOf]; omega
        · have hxy : (x != y) = true := by simp [he]
          go_wp2_with fail
          go_quiet (fail)
          go_wp2
          go_ret
          refine ⟨?_, (below_drawn (w := w) n).trans (below_drawn (w := w.drewN n) nq)⟩
          have : l ≠ r := fun e => he (by have := hx.out; have h3 := hy.out; rw [e, h3] at this; exact (Option.some.inj this).symm)
          rw [decide_eq_false this]
          rfl
      · have hil : i = l.length := by omega
        have : l = r := by
          rw [hil] at ht
          rw [List.take_of_length_le (Nat.le_refl _), List.take_of_length_le (by omega)] at ht
          exact ht
        clear ht
        replace this := Lib.hid this
        go_wp2
        go_ret
        exact ⟨by rw [decide_eq_true this.out]; rfl, below_drawn n⟩
  · have hb : (((l.length : Nat) : Int) != ((r.length : Nat) : Int)) = true := by simp; omega
    have : l ≠ r := fun e => hn (by rw [e])
    rw [decide_eq_false this]
    go_enter Tryd.func60, Tryd.ntmps60
    go_wp2
    go_ret
    exact ⟨rfl, Below.refl _ _⟩

end Go.Proofs.YtacohbllbjgdgaaDoor
