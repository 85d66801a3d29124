/- Are instructions alike, as the program tells it. -/
import Derived.Test.YtofleejokkdklaaDoorEa
import Derived.Test.YtofleejokkdklaaDoorSb
namespace Go.Proofs.YtofleejokkdklaaDoor
open Go.RowKit
set_option linter.unusedVariables false

def SameC (l : Il) : Prop := ∀ (l' : Il) (ao ao' : Option Addr) (c c' : Nat) (w : World), l.len ≤ 9223372036854775807 → l'.len ≤ 9223372036854775807 → IlIn w ao 0 l → IlIn w ao' 0 l' →
  Calls Tryd.prog 49 #[.slice ao l.len c, .slice ao' l'.len c'] w fun e w' => e = .returned (.bool (ilEq l l')) ∧ Below w.heap.size w w'

set_option maxRecDepth 100000 in
set_option maxHeartbeats 2000000 in
theorem same_one (op x y n : Int) (ls : List Int) (body els : Il) (a4 : Option Addr) (k4 : Nat) (a5 : Option Addr) (k5 : Nat) (a6 : Option Addr) (k6 : Nat)
    (op' x' y' n' : Int) (ls' : List Int) (body' els' : Il) (a4' : Option Addr) (k4' : Nat) (a5' : Option Addr) (k5' : Nat) (a6' : Option Addr) (k6' : Nat) (w : World)
    (h : OneIs w ⟨op, x, y, n, ls, body, els⟩ a4 k4 a5 k5 a6 k6) (h' : OneIs w ⟨op', x', y', n', ls', body', els'⟩ a4' k4' a5' k5' a6' k6') (sb : SameC body) (se : SameC els) :
    Calls Tryd.prog 53 #[.agg #[.int .i64 op, .int .i64 x, .int .i64 y, .int .i64 n, .slice a4 ls.length k4, .slice a5 body.len k5, .slice a6 els.len k6], .agg #[.int .i64 op', .int .i64 x', .int .i64 y', .int .i64 n', .slice a4' ls'.length k4', .slice a5' body'.len k5', .slice a6' els'.len k6']] w
      fun e w' => e = .returned (.bool (ilEq (.cons op x y n ls body els .nil) (.cons op' x' y' n' ls' body' els' .nil))) ∧ Below w.heap.size w w' := by
  have L1 : ls.length ≤ 9223372036854775807 := h.i4.1
  have L1' : ls'.length ≤ 9223372036854775807 := h'.i4.1
  have L2 : body.len ≤ 9223372036854775807 := h.l5
  have L2' : body'.len ≤ 9223372036854775807 := h'.l5
  have L3 : els.len ≤ 9223372036854775807 := h.l6
  have L3' : els'.len ≤ 9223372036854775807 := h'.l6
  obtain ⟨w0, hw0⟩ : ∃ w0, w0 = (w.alloc (.cells #[.int .i64 op, .int .i64 x, .int .i64 y, .int .i64 n, .slice a4 ls.length k4, .slice a5 body.len k5, .slice a6 els.len k6] 45)).alloc (.cells #[.int .i64 op', .int .i64 x', .int .i64 y', .int .i64 n', .slice a4' ls'.length k4', .slice a5' body'.len k5', .slice a6' els'.len k6'] 45) := ⟨_, rfl⟩
  have hB0 : Below w.heap.size w w0 := by rw [hw0]; exact ((Below.refl _ _).alloc (Nat.le_refl _) _).alloc (by simp) _
  have hb1 : Box w0 w.heap.size #[.int .i64 op, .int .i64 x, .int .i64 y, .int .i64 n, .slice a4 ls.length k4, .slice a5 body.len k5, .slice a6 els.len k6] := by rw [hw0]; exact (box_new w _ _).keep (keeps_new _ _)
  have hb2 : Box w0 (w.heap.size + 1) #[.int .i64 op', .int .i64 x', .int .i64 y', .int .i64 n', .slice a4' ls'.length k4', .slice a5' body'.len k5', .slice a6' els'.len k6'] := by rw [hw0]; exact box_new2 w _ _ _
  have H := Lib.hid (h.keep (keep_below hB0))
  have H' := Lib.hid (h'.keep (keep_below hB0))
  replace hB0 := Lib.hid hB0
  replace sb := Lib.hid sb
  replace se := Lib.hid se
  clear h h'
  go_enter Tryd.func53, Tryd.ntmps53
  go_upto_region 1 with fail
  rw [← hw0]
  clear hw0
  have p0 : w0.cell? ⟨w.heap.size, 0, none⟩ = some (.int .i64 op) := hb1 0 _ rfl
  have p1 : w0.cell? ⟨w.heap.size, 1, none⟩ = some (.int .i64 x) := hb1 1 _ rfl
  have p2 : w0.cell? ⟨w.heap.size, 2, none⟩ = some (.int .i64 y) := hb1 2 _ rfl
  have p3 : w0.cell? ⟨w.heap.size, 3, none⟩ = some (.int .i64 n) := hb1 3 _ rfl
  have p4 : w0.cell? ⟨w.heap.size, 4, none⟩ = some (.slice a4 ls.length k4) := hb1 4 _ rfl
  have q0 : w0.cell? ⟨w.heap.size + 1, 0, none⟩ = some (.int .i64 op') := hb2 0 _ rfl
  have q1 : w0.cell? ⟨w.heap.size + 1, 1, none⟩ = some (.int .i64 x') := hb2 1 _ rfl
  have q2 : w0.cell? ⟨w.heap.size + 1, 2, none⟩ = some (.int .i64 y') := hb2 2 _ rfl
  have q3 : w0.cell? ⟨w.heap.size + 1, 3, none⟩ = some (.int .i64 n') := hb2 3 _ rfl
  have q4 : w0.cell? ⟨w.heap.size + 1, 4, none⟩ = some (.slice a4' ls'.length k4') := hb2 4 _ rfl
  replace hb1 := Lib.hid hb1
  replace hb2 := Lib.hid hb2
  cases z0 : op == op'
  · have hv : ilEq (.cons op x y n ls body els .nil) (.cons op' x' y' n' ls' body' els' .nil) = false := by simp only [ilEq, z0, Bool.false_and]
    go_wp2
    go_ret
    exact ⟨by rw [hv]; rfl, hB0.out⟩
  cases z1 : x == x'
  · have hv : ilEq (.cons op x y n ls body els .nil) (.cons op' x' y' n' ls' body' els' .nil) = false := by simp only [ilEq, z1, Bool.false_and, Bool.and_false]
    go_wp2
    go_ret
    exact ⟨by rw [hv]; rfl, hB0.out⟩
  cases z2 : y == y'
  · have hv : ilEq (.cons op x y n ls body els .nil) (.cons op' x' y' n' ls' body' els' .nil) = false := by simp only [ilEq, z2, Bool.false_and, Bool.and_false]
    go_wp2
    go_ret
    exact ⟨by rw [hv]; rfl, hB0.out⟩
  cases z3 : n == n'
  · have hv : ilEq (.cons op x y n ls body els .nil) (.cons op' x' y' n' ls' body' els' .nil) = false := by simp only [ilEq, z3, Bool.false_and, Bool.and_false]
    go_wp2
    go_ret
    exact ⟨by rw [hv]; rfl, hB0.out⟩
  go_wp2_with fail
  refine (equalInts_any ls ls' a4 a4' k4 k4' _ H.out.i4 H'.out.i4).mono ?_
  rintro e w2 ⟨rfl, mm, hmm⟩
  have b2 := Lib.hid (show Below w0.heap.size w0 w2 by rw [hmm]; exact below_drewN (Below.refl _ _) mm)
  have hB2 := Lib.hid (hB0.out.trans (b2.out.mono hB0.out.size))
  clear hmm p0 p1 p2 p3 p4 q0 q1 q2 q3 q4
  cases h4 : decide (ls = ls')
  · have hv : ilEq (.cons op x y n ls body els .nil) (.cons op' x' y' n' ls' body' els' .nil) = false := by simp only [ilEq, h4, Bool.false_and, Bool.and_false]
    go_wp2
    go_ret
    exact ⟨by rw [hv]; rfl, hB2.out⟩
  have p5 : w2.cell? ⟨w.heap.size, 5, none⟩ = some (.slice a5 body.len k5) := keep_below b2.out _ _ (hb1.out 5 _ rfl)
  have q5 : w2.cell? ⟨w.heap.size + 1, 5, none⟩ = some (.slice a5' body'.len k5') := keep_below b2.out _ _ (hb2.out 5 _ rfl)
  go_wp2_with fail
  refine (sb.out body' a5 a5' k5 k5' _ L2 L2' (H.out.i5.below b2.out) (H'.out.i5.below b2.out)).mono ?_
  rintro e w3 ⟨rfl, c3⟩
  have b3 := Lib.hid (b2.out.trans (c3.mono b2.out.size))
  have hB3 := Lib.hid (hB0.out.trans (b3.out.mono hB0.out.size))
  clear c3 p5 q5
  cases h5 : ilEq body body'
  · have hv : ilEq (.cons op x y n ls body els .nil) (.cons op' x' y' n' ls' body' els' .nil) = false := by simp only [ilEq, h5, Bool.false_and, Bool.and_false]
    go_wp2
    go_ret
    exact ⟨by rw [hv]; rfl, hB3.out⟩
  have p6 : w3.cell? ⟨w.heap.size, 6, none⟩ = some (.slice a6 els.len k6) := keep_below b3.out _ _ (hb1.out 6 _ rfl)
  have q6 : w3.cell? ⟨w.heap.size + 1, 6, none⟩ = some (.slice a6' els'.len k6') := keep_below b3.out _ _ (hb2.out 6 _ rfl)
  go_wp2_with fail
  refine (se.out els' a6 a6' k6 k6' _ L3 L3' (H.out.i6.below b3.out) (H'.out.i6.below b3.out)).mono ?_
  rintro e w4 ⟨rfl, c4⟩
  have hB4 := Lib.hid (hB3.out.trans (c4.mono hB3.out.size))
  have hv : ilEq (.cons op x y n ls body els .nil) (.cons op' x' y' n' ls' body' els' .nil) = ilEq els els' := by simp only [ilEq, z0, z1, z2, z3, h4, h5, Bool.true_and, Bool.and_true]
  clear c4 p6 q6
  replace hv := Lib.hid hv
  go_wp2
  go_ret
  exact ⟨by rw [hv.out]; rfl, hB4.out⟩

theorem OneIs.il1 {w : World} {op x y n : Int} {ls : List Int} {body els : Il} {a4 a5 a6 : Option Addr} {k4 k5 k6 : Nat} (i4 : IntsIn w a4 ls) (l5 : body.len ≤ 9223372036854775807) (i5 : IlIn w a5 0 body) (l6 : els.len ≤ 9223372036854775807) (i6 : IlIn w a6 0 els) : OneIs w ⟨op, x, y, n, ls, body, els⟩ a4 k4 a5 k5 a6 k6 := ⟨i4, l5, i5, l6, i6⟩
theorem ilEq_step (op x y n : Int) (ls : List Int) (b e r : Il) (op' x' y' n' : Int) (ls' : List Int) (b' e' r' : Il) :
    ilEq (.cons op x y n ls b e r) (.cons op' x' y' n' ls' b' e' r') = (ilEq (.cons op x y n ls b e .nil) (.cons op' x' y' n' ls' b' e' .nil) && ilEq r r') := by
  simp only [ilEq, Bool.and_true, Bool.and_assoc]

set_option maxRecDepth 100000 in
set_option maxHeartbeats 2000000 in
theorem eq_step (l : Il) (hs : Sub SameC l) (l' : Il) (ao ao' : Option Addr) (c c' : Nat) (w : World) (hl : l.len ≤ 9223372036854775807) (hl' : l'.len ≤ 9223372036854775807) (hw : IlIn w ao 0 l) (hw' : IlIn w ao' 0 l') :
    Calls Tryd.prog 76 #[.slice ao l.len c, .slice ao' l'.len c', .func (.func 53) #[] #[]] w fun e w' => e = .returned (.bool (ilEq l l')) ∧ Below w.heap.size w w' := by
  obtain ⟨N, hN⟩ : ∃ N, l.len = N := ⟨_, rfl⟩
  obtain ⟨N', hN'⟩ : ∃ N, l'.len = N := ⟨_, rfl⟩
  rw [hN] at hl ⊢
  rw [hN'] at hl' ⊢
  go_enter Tryd.func76, Tryd.ntmps76
  by_cases hne : N = N'
  · subst hne
    go_wp2_with fail
    go_loopw [17] (fun vi wr => ∃ (i : Nat) (r r' : Il), vi = .int .i64 i ∧ i + r.len = N ∧ i + r'.len = N ∧ Hid (Below w.heap.size w wr) ∧ Hid (IlIn wr ao i r) ∧ Hid (IlIn wr ao' i r') ∧ Hid (Sub SameC r) ∧ Hid (ilEq l l' = ilEq r r')) (fun vi _ => N - (intOf vi).toNat)
    case atStart => exact ⟨0, l, l', rfl, by omega, by omega, Lib.hid (Below.refl _ _), Lib.hid hw, Lib.hid hw', Lib.hid hs, Lib.hid rfl⟩
    case round =>
      obtain ⟨i, r, r', rfl, hi, hi', hb, hr, hr', hsub, hc⟩ := hrel
      cases r with
      | nil =>
        have hiN : i = N := by simpa [Il.len] using hi
        cases r' with
        | cons => simp [Il.len] at hi'; omega
        | nil =>
          subst hiN
          go_wp2
          go_ret
          exact ⟨by rw [hc.out]; rfl, hb.out⟩
      | cons op x y n ls body els rest =>
        cases r' with
        | nil =>
          have h1 : i + (rest.len + 1) = N := hi
          have h2 : i + 0 = N := hi'
          omega
        | cons op' x' y' n' ls' body' els' rest' =>
          have hlen : i + (rest.len + 1) = N := hi
          have hlen' : i + (rest'.len + 1) = N := hi'
          have hlt : i < N := by omega
          obtain ⟨b, o, a4, k4, a5, k5, a6, k6, rfl, hh, hrest⟩ := hr.out.head
          obtain ⟨c0, c1, c2, c3, c4, c5, c6, i4, l5, i5, l6, i6⟩ := hh
          obtain ⟨b', o', a4', k4', a5', k5', a6', k6', rfl, hh', hrest'⟩ := hr'.out.head
          obtain ⟨d0, d1, d2, d3, d4, d5, d6, j4, m5, j5, m6, j6⟩ := hh'
          have hr2 := Lib.hid hrest
          have hr2' := Lib.hid hrest'
          have o1 : Hid (OneIs wr ⟨op, x, y, n, ls, body, els⟩ a4 k4 a5 k5 a6 k6) := Lib.hid (OneIs.il1 i4 l5 i5 l6 i6)
          have o2 : Hid (OneIs wr ⟨op', x', y', n', ls', body', els'⟩ a4' k4' a5' k5' a6' k6') := Lib.hid (OneIs.il1 j4 m5 j5 m6 j6)
          clear hr hr' hrest hrest' i4 l5 i5 l6 i6 j4 m5 j5 m6 j6
          have g0 := World.new_ne wr _ c0
          have g0' := World.new_ne wr _ d0
          have hal : ∀ v v', Hid (Below wr.heap.size wr ((wr.alloc v).alloc v')) := fun v v' => Lib.hid (((Below.refl _ _).alloc (Nat.le_refl _) _).alloc (by simp) _)
          have hst := Lib.hid (ilEq_step op x y n ls body els rest op' x' y' n' ls' body' els' rest')
          have e0 : (wr.alloc (.cells #[.int .i64 op, .int .i64 x, .int .i64 y, .int .i64 n, .slice a4 ls.length k4, .slice a5 body.len k5, .slice a6 els.len k6] 45)).cell? ⟨b', o' + i * 7, none⟩ = some (.int .i64 op') := keep_below ((Below.refl _ _).alloc (Nat.le_refl _) _) _ _ d0
          have e1 : (wr.alloc (.cells #[.int .i64 op, .int .i64 x, .int .i64 y, .int .i64 n, .slice a4 ls.length k4, .slice a5 body.len k5, .slice a6 els.len k6] 45)).cell? ⟨b', o' + i * 7 + 1, none⟩ = some (.int .i64 x') := keep_below ((Below.refl _ _).alloc (Nat.le_refl _) _) _ _ d1
          have e2 : (wr.alloc (.cells #[.int .i64 op, .int .i64 x, .int .i64 y, .int .i64 n, .slice a4 ls.length k4, .slice a5 body.len k5, .slice a6 els.len k6] 45)).cell? ⟨b', o' + i * 7 + 2, none⟩ = some (.int .i64 y') := keep_below ((Below.refl _ _).alloc (Nat.le_refl _) _) _ _ d2
          have e3 : (wr.alloc (.cells #[.int .i64 op, .int .i64 x, .int .i64 y, .int .i64 n, .slice a4 ls.length k4, .slice a5 body.len k5, .slice a6 els.len k6] 45)).cell? ⟨b', o' + i * 7 + 3, none⟩ = some (.int .i64 n') := keep_below ((Below.refl _ _).alloc (Nat.le_refl _) _) _ _ d3
          have e4 : (wr.alloc (.cells #[.int .i64 op, .int .i64 x, .int .i64 y, .int .i64 n, .slice a4 ls.length k4, .slice a5 body.len k5, .slice a6 els.len k6] 45)).cell? ⟨b', o' + i * 7 + 4, none⟩ = some (.slice a4' ls'.length k4') := keep_below ((Below.refl _ _).alloc (Nat.le_refl _) _) _ _ d4
          have e5 : (wr.alloc (.cells #[.int .i64 op, .int .i64 x, .int .i64 y, .int .i64 n, .slice a4 ls.length k4, .slice a5 body.len k5, .slice a6 els.len k6] 45)).cell? ⟨b', o' + i * 7 + 5, none⟩ = some (.slice a5' body'.len k5') := keep_below ((Below.refl _ _).alloc (Nat.le_refl _) _) _ _ d5
          have e6 : (wr.alloc (.cells #[.int .i64 op, .int .i64 x, .int .i64 y, .int .i64 n, .slice a4 ls.length k4, .slice a5 body.len k5, .slice a6 els.len k6] 45)).cell? ⟨b', o' + i * 7 + 6, none⟩ = some (.slice a6' els'.len k6') := keep_below ((Below.refl _ _).alloc (Nat.le_refl _) _) _ _ d6
          clear d0 d1 d2 d3 d4 d5 d6
          go_wp2_with fail
          refine (same_one op x y n ls body els a4 k4 a5 k5 a6 k6 op' x' y' n' ls' body' els' a4' k4' a5' k5' a6' k6' _ (o1.out.keep (keep_below (hal _ _).out)) (o2.out.keep (keep_below (hal _ _).out)) hsub.out.1 hsub.out.2.1).mono ?_
          rintro e w2 ⟨rfl, b2⟩
          have hbx := Lib.hid ((hal (.cells #[.int .i64 op, .int .i64 x, .int .i64 y, .int .i64 n, .slice a4 ls.length k4, .slice a5 body.len k5, .slice a6 els.len k6] 45) (.cells #[.int .i64 op', .int .i64 x', .int .i64 y', .int .i64 n', .slice a4' ls'.length k4', .slice a5' body'.len k5', .slice a6' els'.len k6'] 45)).out.trans (b2.mono (hal _ _).out.size))
          have hB := Lib.hid (hb.out.trans (hbx.out.mono hb.out.size))
          have hsr := Lib.hid hsub.out.2.2
          clear b2 e0 e1 e2 e3 e4 e5 e6 c0 c1 c2 c3 c4 c5 c6 hal o1 o2 hsub g0 g0'
          cases hX : ilEq (.cons op x y n ls body els .nil) (.cons op' x' y' n' ls' body' els' .nil)
          · have hv : ilEq l l' = false := by rw [hc.out, hst.out, hX]; rfl
            clear hst hc
            go_wp2
            go_ret
            exact ⟨by rw [hv]; rfl, hB.out⟩
          · have hv := Lib.hid (show ilEq l l' = ilEq rest rest' by rw [hc.out, hst.out, hX]; rfl)
            clear hc hst
            go_wp2
            exact ⟨⟨i + 1, rest, rest', by simp, by omega, by omega, hB, Lib.hid (hr2.out.below hbx.out), Lib.hid (hr2'.out.below hbx.out), hsr, hv⟩, by simp [intOf]; omega⟩
  · have hv : ilEq l l' = false := ilEq_len l l' (by rw [hN, hN']; exact hne)
    have q : ((N : Int) != (N' : Int)) = true := by simp; omega
    go_wp2
    go_ret
    exact ⟨by rw [hv]; rfl, Below.refl _ _⟩
set_option maxRecDepth 100000 in
theorem same_step (l : Il) (hs : Sub SameC l) : SameC l := by
  intro l' ao ao' c c' w hl hl' hw hw'
  go_enter Tryd.func49, Tryd.ntmps49
  go_wp2_with fail
  refine (eq_step l hs l' ao ao' c c' w hl hl' hw hw').mono ?_
  rintro e w2 ⟨rfl, b2⟩
  go_wp2
  go_ret
  exact ⟨rfl, b2⟩
theorem sameAll_any (l : Il) : SameC l := Il.each same_step l
/-- same. -/
theorem psame_any (op x y n : Int) (ls : List Int) (body els : Il) (a4 : Option Addr) (k4 : Nat) (a5 : Option Addr) (k5 : Nat) (a6 : Option Addr) (k6 : Nat)
    (op' x' y' n' : Int) (ls' : List Int) (body' els' : Il) (a4' : Option Addr) (k4' : Nat) (a5' : Option Addr) (k5' : Nat) (a6' : Option Addr) (k6' : Nat) (w : World)
    (h : OneIs w ⟨op, x, y, n, ls, body, els⟩ a4 k4 a5 k5 a6 k6) (h' : OneIs w ⟨op', x', y', n', ls', body', els'⟩ a4' k4' a5' k5' a6' k6') :
    Calls Tryd.prog 53 #[.agg #[.int .i64 op, .int .i64 x, .int .i64 y, .int .i64 n, .slice a4 ls.length k4, .slice a5 body.len k5, .slice a6 els.len k6], .agg #[.int .i64 op', .int .i64 x', .int .i64 y', .int .i64 n', .slice a4' ls'.length k4', .slice a5' body'.len k5', .slice a6' els'.len k6']] w
      fun e w' => e = .returned (.bool (ilEq (.cons op x y n ls body els .nil) (.cons op' x' y' n' ls' body' els' .nil))) ∧ Below w.heap.size w w' :=
  same_one op x y n ls body els a4 k4 a5 k5 a6 k6 op' x' y' n' ls' body' els' a4' k4' a5' k5' a6' k6' w h h' (sameAll_any body) (sameAll_any els)
end Go.Proofs.YtofleejokkdklaaDoor
