/- The reference's reader, plainly: what has a length ahead reads as the program's. -/
import Derived.Test.YtkbfjkbokifgkaaGreatDoorTe
import Derived.Test.YtkbfjkbokifgkaaGreatDoorRp
namespace Go.Proofs.YtkbfjkbokifgkaaGreatDoor
open Go.RowKit
set_option linter.unusedVariables false

/-- What has a length ahead. -/
def rLong {α : Type} (s : List UInt8) (f : RS → Rg α) (r : RS) : Rg α := ((f (rEnter s r).2).1, rLeave (rEnter s r).1.1 (rEnter s r).1.2 (f (rEnter s r).2).2)
theorem leave_w {stop was : Nat} {r : RS} (h : r.w ≠ 0) : (rLeave stop was r).w = r.w := by
  unfold rLeave
  rw [if_neg (fun hh => h hh.1)]
theorem sim_long {α : Type} (s : List UInt8) {g : Nat → Nat → Got α} {f : RS → Rg α} (h : Sim g f) : Sim (fun e a => gLong s e a g) (rLong s f) := by
  intro r
  have hu := sim_u s r
  have kw : ∀ (r1 : RS), r1.w ≠ 0 → (rU s r).2 = r1 → (rLong s f r).2.w = r1.w := by
    intro r1 h1 h2
    have e1 : (rEnter s r).2 = r1 := by
      unfold rEnter
      dsimp only
      rw [h2, if_neg h1]
    have h3 := (h r1).1 h1
    show (rLeave _ _ (f (rEnter s r).2).2).w = _
    rw [e1, leave_w (by rw [h3]; exact h1), h3]
  refine ⟨fun hw => ?_, fun hw => ?_⟩
  · have h1 := hu.1 hw
    rw [kw _ (by rw [h1]; exact hw) rfl, h1]
  · have h0 := hu.2 hw
    dsimp only
    unfold gLong
    cases hg : gU s r.e r.a with
    | error n =>
      obtain ⟨hn, h1⟩ := h0.2 n hg
      refine ⟨fun v a he => (by cases he), fun m he => ?_⟩
      cases he
      exact ⟨hn, by rw [kw _ (by rw [h1]; exact hn) rfl, h1]⟩
    | ok q =>
      obtain ⟨n, b⟩ := q
      have h1 := h0.1 n b hg
      have e1 : rEnter s r = ((b + n.toNat, r.e), { r with a := b, e := min r.e (b + n.toNat) }) := by
        unfold rEnter
        dsimp only
        rw [h1]
        dsimp only
        rw [if_pos hw]
      have h2 := (h { r with a := b, e := min r.e (b + n.toNat) }).2 hw
      dsimp only at h2
      have e2 : rLong s f r = ((f { r with a := b, e := min r.e (b + n.toNat) }).1, rLeave (b + n.toNat) r.e (f { r with a := b, e := min r.e (b + n.toNat) }).2) := by
        unfold rLong
        rw [e1]
      show (∀ v a, ((g (min (b + n.toNat) r.e) b).bind fun z => if z.2 = b + n.toNat then .ok z else .error 50) = .ok (v, a) → _) ∧ (∀ m, ((g (min (b + n.toNat) r.e) b).bind fun z => if z.2 = b + n.toNat then .ok z else .error 50) = .error m → _)
      rw [Nat.min_comm, e2]
      cases hk : g (min r.e (b + n.toNat)) b with
      | error m =>
        obtain ⟨hm, h3⟩ := h2.2 m hk
        refine ⟨fun v a he => (by cases he), fun m' he => ?_⟩
        cases he
        exact ⟨hm, by show (rLeave _ _ _).w = _; rw [leave_w (by rw [h3]; exact hm), h3]⟩
      | ok z =>
        obtain ⟨v, c⟩ := z
        have h3 := h2.1 v c hk
        rw [h3]
        refine ⟨fun v' a he => ?_, fun m he => ?_⟩
        · change (if c = b + n.toNat then Except.ok (v, c) else .error 50) = _ at he
          split at he
          · rename_i hc
            cases he
            unfold rLeave
            rw [if_neg (fun hh => hh.2 hc)]
          · cases he
        · change (if c = b + n.toNat then Except.ok (v, c) else .error 50) = _ at he
          split at he
          · cases he
          · rename_i hc
            cases he
            refine ⟨by decide, ?_⟩
            unfold rLeave
            rw [if_pos ⟨hw, hc⟩]
            exact bad_w0 hw
end Go.Proofs.YtkbfjkbokifgkaaGreatDoor

namespace Go.Proofs.YtkbfjkbokifgkaaGreatDoor
open Go.RowKit
set_option linter.unusedVariables false

/-- Runs of locals, behind those that were read. -/
def rLocs (s : List UInt8) : Nat → List Int → RS → Rg (List Int)
  | 0, l, r => (l, r)
  | k + 1, l, r => if r.w ≠ 0 then (l, r) else
    rLocs s k (if (rTyp s (if 256 - (l.length : Int) < (rU s r).1 then (rU s r).2.bad 3 else (rU s r).2)).2.w = 0 then l ++ List.replicate (rU s r).1.toNat (rTyp s (if 256 - (l.length : Int) < (rU s r).1 then (rU s r).2.bad 3 else (rU s r).2)).1 else l)
      (rTyp s (if 256 - (l.length : Int) < (rU s r).1 then (rU s r).2.bad 3 else (rU s r).2)).2
theorem locs_w (s : List UInt8) : ∀ (k : Nat) (l : List Int) (r : RS), r.w ≠ 0 → (rLocs s k l r).2.w = r.w
  | 0, _, _, _ => rfl
  | k + 1, l, r, h => by rw [rLocs, if_pos h]
theorem sim_locs (s : List UInt8) : ∀ (k : Nat) (l : List Int), Sim (fun e a => gRuns s e k l a) (rLocs s k l)
  | 0, l => sim_pure l
  | k + 1, l => by
    intro r
    refine ⟨fun hw => locs_w s _ l r hw, fun hw => ?_⟩
    have hu := (sim_u s r).2 hw
    rw [rLocs, if_neg (by simp [hw])]
    have bad : ∀ (r1 : RS) (L : List Int) (n : Int), n ≠ 0 → r1.w = n → (rLocs s k L (rTyp s r1).2).2.w = n := by
      intro r1 L n hn h1
      have h2 := (sim_typ s r1).1 (by rw [h1]; exact hn)
      rw [locs_w s k L _ (by rw [h2, h1]; exact hn), h2, h1]
    dsimp only
    rw [gRuns]
    cases hg : gU s r.e r.a with
    | error n =>
      obtain ⟨hn, h1⟩ := hu.2 n hg
      refine ⟨fun v a he => (by cases he), fun m he => ?_⟩
      cases he
      refine ⟨hn, bad _ _ _ hn ?_⟩
      split
      · rw [bad_w1 (by rw [h1]; exact hn), h1]
      · exact h1
    | ok q =>
      obtain ⟨n, b⟩ := q
      have h1 := hu.1 n b hg
      rw [h1]
      dsimp only
      show (∀ v a, (if n ≤ 256 - (l.length : Int) then (gTyp s r.e b).bind fun t => gRuns s r.e k (l ++ List.replicate n.toNat t.1) t.2 else .error 3) = .ok (v, a) → _) ∧ (∀ m, (if n ≤ 256 - (l.length : Int) then (gTyp s r.e b).bind fun t => gRuns s r.e k (l ++ List.replicate n.toNat t.1) t.2 else .error 3) = .error m → _)
      by_cases hb : n ≤ 256 - (l.length : Int)
      · simp only [if_pos hb, if_neg (show ¬ 256 - (l.length : Int) < n by omega)]
        have ht := (sim_typ s { r with a := b }).2 hw
        dsimp only at ht
        cases hk : gTyp s r.e b with
        | error m =>
          obtain ⟨hm, h3⟩ := ht.2 m hk
          refine ⟨fun v a he => (by cases he), fun m' he => ?_⟩
          cases he
          refine ⟨hm, ?_⟩
          rw [locs_w s k _ _ (by rw [h3]; exact hm), h3]
        | ok z =>
          obtain ⟨t, c⟩ := z
          have h3 := ht.1 t c hk
          rw [h3]
          dsimp only
          rw [if_pos hw]
          exact (sim_locs s k (l ++ List.replicate n.toNat t) { r with a := c }).2 hw
      · simp only [if_neg hb, if_pos (show 256 - (l.length : Int) < n by omega)]
        refine ⟨fun v a he => (by cases he), fun m he => ?_⟩
        cases he
        exact ⟨by decide, bad _ _ 3 (by decide) (bad_w0 hw)⟩
end Go.Proofs.YtkbfjkbokifgkaaGreatDoor

namespace Go.Proofs.YtkbfjkbokifgkaaGreatDoor
open Go.RowKit
set_option linter.unusedVariables false

theorem simI_long {α : Type} (s : List UInt8) {g : Nat → Nat → Nat → Except Int ((α × Nat) × Nat)} {f : RS → Rg α} (h : SimI g f) : SimI (fun l e a => gLong s e a (g l)) (rLong s f) := by
  intro r
  have hu := sim_u s r
  have kw : ∀ (r1 : RS), r1.w ≠ 0 → (rU s r).2 = r1 → (rLong s f r).2.w = r1.w := by
    intro r1 h1 h2
    have e1 : (rEnter s r).2 = r1 := by
      unfold rEnter
      dsimp only
      rw [h2, if_neg h1]
    have h3 := (h r1).1 h1
    show (rLeave _ _ (f (rEnter s r).2).2).w = _
    rw [e1, leave_w (by rw [h3]; exact h1), h3]
  refine ⟨fun hw => ?_, fun hw hi => ?_⟩
  · have h1 := hu.1 hw
    rw [kw _ (by rw [h1]; exact hw) rfl, h1]
  · have h0 := hu.2 hw
    dsimp only
    unfold gLong
    cases hg : gU s r.e r.a with
    | error n =>
      obtain ⟨hn, h1⟩ := h0.2 n hg
      refine ⟨fun v l a he => (by cases he), fun m he => ?_⟩
      cases he
      exact ⟨hn, by rw [kw _ (by rw [h1]; exact hn) rfl, h1]⟩
    | ok q =>
      obtain ⟨n, b⟩ := q
      have h1 := h0.1 n b hg
      have e1 : rEnter s r = ((b + n.toNat, r.e), { r with a := b, e := min r.e (b + n.toNat) }) := by
        unfold rEnter
        dsimp only
        rw [h1]
        dsimp only
        rw [if_pos hw]
      have h2 := (h { r with a := b, e := min r.e (b + n.toNat) }).2 hw hi
      dsimp only at h2
      have e2 : rLong s f r = ((f { r with a := b, e := min r.e (b + n.toNat) }).1, rLeave (b + n.toNat) r.e (f { r with a := b, e := min r.e (b + n.toNat) }).2) := by
        unfold rLong
        rw [e1]
      show (∀ v l a, ((g (65536 - r.i) (min (b + n.toNat) r.e) b).bind fun z => if z.2 = b + n.toNat then .ok z else .error 50) = .ok ((v, l), a) → _) ∧ (∀ m, ((g (65536 - r.i) (min (b + n.toNat) r.e) b).bind fun z => if z.2 = b + n.toNat then .ok z else .error 50) = .error m → _)
      rw [Nat.min_comm, e2]
      cases hk : g (65536 - r.i) (min r.e (b + n.toNat)) b with
      | error m =>
        obtain ⟨hm, h3⟩ := h2.2 m hk
        refine ⟨fun v l a he => (by cases he), fun m' he => ?_⟩
        cases he
        exact ⟨hm, by show (rLeave _ _ _).w = _; rw [leave_w (by rw [h3]; exact hm), h3]⟩
      | ok z =>
        obtain ⟨⟨v, l0⟩, c⟩ := z
        obtain ⟨h4, h3⟩ := h2.1 v l0 c hk
        rw [h3]
        refine ⟨fun v' l' a he => ?_, fun m he => ?_⟩
        · change (if c = b + n.toNat then Except.ok ((v, l0), c) else .error 50) = _ at he
          split at he
          · rename_i hc
            cases he
            refine ⟨h4, ?_⟩
            unfold rLeave
            rw [if_neg (fun hh => hh.2 hc)]
          · cases he
        · change (if c = b + n.toNat then Except.ok ((v, l0), c) else .error 50) = _ at he
          split at he
          · cases he
          · rename_i hc
            cases he
            refine ⟨by decide, ?_⟩
            unfold rLeave
            rw [if_pos ⟨hw, hc⟩]
            exact bad_w0 hw
/-- What stands in a function's code. -/
def rCodeIn (s : List UInt8) (r : RS) : Rg (List Int × Il) :=
  let n := rCount s r
  let l := rLocs s n.1.toNat [] n.2
  let b := rExprs s (l.2.e + 1) 0 false l.2
  ((l.1, b.1.1), b.2)
def rCode (s : List UInt8) : RS → Rg (List Int × Il) := rLong s (rCodeIn s)
theorem simI_codeIn (s : List UInt8) : SimI (fun l e a => (gCount s e a).bind fun n => (gRuns s e n.1.toNat [] n.2).bind fun ls => (gList s e (e + 1) 0 false l ls.2).bind fun b => .ok (((ls.1, b.1.1), b.1.2.2), b.2)) (rCodeIn s) := by
  have he : SimI (fun l e a => (gList s e (e + 1) 0 false l a).bind fun q => .ok (((q.1.1, (if q.1.2.1 = true then (5 : Int) else 11)), q.1.2.2), q.2)) (fun r => rExprs s (r.e + 1) 0 false r) := fun r => sim_exprs s (r.e + 1) 0 false r
  have h := simI_then (sim_count s).i fun n => simI_then (sim_locs s n.toNat []).i fun ls => simI_then he fun v => simI_pure (ls, v.1)
  refine simI_of h (fun l e a => ?_) (fun r _ => .inl rfl) (fun r hr => (h r).1 hr)
  cases hc : gCount s e a with
  | error n => rfl
  | ok q =>
    show ((gRuns s e q.1.toNat [] q.2).bind _) = (((gRuns s e q.1.toNat [] q.2).bind _).bind _)
    cases hr : gRuns s e q.1.toNat [] q.2 with
    | error n => rfl
    | ok ls =>
      show ((gList s e (e + 1) 0 false l ls.2).bind _) = (((gList s e (e + 1) 0 false l ls.2).bind _).bind _)
      cases hb : gList s e (e + 1) 0 false l ls.2 with
      | error n => rfl
      | ok b => rfl
theorem simI_code (s : List UInt8) : SimI (fun l e a => gCode s l e a) (rCode s) := simI_long s (simI_codeIn s)
end Go.Proofs.YtkbfjkbokifgkaaGreatDoor
