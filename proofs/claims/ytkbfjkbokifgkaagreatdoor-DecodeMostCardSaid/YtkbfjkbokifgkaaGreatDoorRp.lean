/- The document's reader, plainly: it goes on behind what is wrong, and keeps the first. -/
import Derived.Test.YtkbfjkbokifgkaaGreatDoorDp
namespace Go.Proofs.YtkbfjkbokifgkaaGreatDoor
open Go.RowKit
set_option linter.unusedVariables false

/-- The reader: its place, its end, how many instructions there were, the first error. -/
structure RS where
  a : Nat
  e : Nat
  i : Nat
  w : Int
abbrev Rg (α : Type) := α × RS
def RS.bad (r : RS) (n : Int) : RS := if r.w = 0 then { r with w := n } else r
def rByte (s : List UInt8) (r : RS) : Rg Int := if r.w ≠ 0 then (0, r) else if r.e ≤ r.a then (0, r.bad 50) else (((s[r.a]?.getD 0).toNat : Int), { r with a := r.a + 1 })
def rMust (s : List UInt8) (b : Int) (r : RS) : RS := if (rByte s r).1 = b then (rByte s r).2 else (rByte s r).2.bad 50
/-- A number, as g reads it. -/
def rNum (g : Nat → Nat → Got Int) (r : RS) : Rg Int := if r.w ≠ 0 then (0, r) else match g r.e r.a with
  | .ok q => (q.1, { r with a := q.2 })
  | .error _ => (0, r.bad 50)
def rU (s : List UInt8) : RS → Rg Int := rNum (gU s)
def rCount (s : List UInt8) (r : RS) : Rg Int := if 4096 < (rU s r).1 then (0, (rU s r).2.bad 3) else rU s r
def rText (s : List UInt8) (r : RS) : Rg (List UInt8) :=
  if (rU s r).2.w ≠ 0 then ([], (rU s r).2) else if ((rU s r).2.e : Int) - (rU s r).2.a < (rU s r).1 then ([], (rU s r).2.bad 50)
  else (win s (rU s r).2.a ((rU s r).2.a + (rU s r).1.toNat), { (rU s r).2 with a := (rU s r).2.a + (rU s r).1.toNat })
def rName (s : List UInt8) (r : RS) : Rg (List UInt8) := if nameB (mkb (rText s r).1) = true then rText s r else ((rText s r).1, (rText s r).2.bad 50)
def rTyp (s : List UInt8) (r : RS) : Rg Int :=
  if (rByte s r).2.w ≠ 0 then rByte s r else if (rByte s r).1 = 125 ∨ (rByte s r).1 = 124 then ((rByte s r).1, (rByte s r).2.bad 51)
  else if (rByte s r).1 ≠ 127 ∧ (rByte s r).1 ≠ 126 then ((rByte s r).1, (rByte s r).2.bad 50) else rByte s r
def rMany {α : Type} (f : RS → Rg α) : Nat → RS → Rg (List α)
  | 0, r => ([], r)
  | k + 1, r => if r.w ≠ 0 then ([], r) else ((f r).1 :: (rMany f k (f r).2).1, (rMany f k (f r).2).2)
def rEach {α : Type} (s : List UInt8) (f : RS → Rg α) (r : RS) : Rg (List α) := rMany f (rCount s r).1.toNat (rCount s r).2
def rResult (s : List UInt8) (r : RS) : Rg Int := if r.w = 0 ∧ r.a < r.e ∧ (s[r.a]?.getD 0) = 64 then (0, { r with a := r.a + 1 }) else rTyp s r
def one0 (op : Int) : One := ⟨op, 0, 0, 0, [], .nil, .nil⟩
/-- What stands behind an instruction's byte; rec reads a list. -/
def rOperands (s : List UInt8) (rec : Nat → Bool → RS → Rg (Il × Int)) (op : Int) (deep : Nat) (r : RS) : Rg One :=
  if formV op = 2 ∨ formV op = 3 then
    if (rec (deep + 1) (op == 4) (rResult s r).2).1.2 = 5 then
      (⟨op, (rResult s r).1, 0, 0, [], (rec (deep + 1) (op == 4) (rResult s r).2).1.1, (rec (deep + 1) false (rec (deep + 1) (op == 4) (rResult s r).2).2).1.1⟩, (rec (deep + 1) false (rec (deep + 1) (op == 4) (rResult s r).2).2).2)
    else (⟨op, (rResult s r).1, 0, 0, [], (rec (deep + 1) (op == 4) (rResult s r).2).1.1, .nil⟩, (rec (deep + 1) (op == 4) (rResult s r).2).2)
  else if formV op = 4 ∨ formV op = 6 then (⟨op, (rU s r).1, 0, 0, [], .nil, .nil⟩, (rU s r).2)
  else if formV op = 5 then (⟨op, (rU s (rEach s (rU s) r).2).1, 0, 0, (rEach s (rU s) r).1, .nil, .nil⟩, (rU s (rEach s (rU s) r).2).2)
  else if formV op = 7 then (⟨op, (rU s r).1, 0, 0, [], .nil, .nil⟩, rMust s 0 (rU s r).2)
  else if formV op = 8 then (⟨op, (rU s r).1, (rU s (rU s r).2).1, 0, [], .nil, .nil⟩, (rU s (rU s r).2).2)
  else if formV op = 9 then (if op = 65 then (⟨op, 0, 0, (rNum (gS32 s) r).1, [], .nil, .nil⟩, (rNum (gS32 s) r).2) else (⟨op, 0, 0, (rNum (gS64 s) r).1, [], .nil, .nil⟩, (rNum (gS64 s) r).2))
  else if op = 63 ∨ op = 64 then (one0 op, rMust s 0 r) else (one0 op, r)
/-- What an instruction's byte makes wrong. -/
def rWhat (op : Int) (deep : Nat) (r : RS) : RS := if formV op = 0 then r.bad 50 else if formV op = 10 then r.bad 51 else if r.i = 65536 then r.bad 3 else if 64 < deep then r.bad 4 else r
def rOne (s : List UInt8) (rec : Nat → Bool → RS → Rg (Il × Int)) (op : Int) (deep : Nat) (r : RS) : Rg One :=
  if (rWhat op deep r).w = 0 then rOperands s rec op deep { rWhat op deep r with i := (rWhat op deep r).i + 1 } else (one0 op, { rWhat op deep r with i := (rWhat op deep r).i + 1 })
def Il.consOne (o : One) (l : Il) : Il := .cons o.op o.x o.y o.n o.ls o.body o.els l
def rExprs (s : List UInt8) : Nat → Nat → Bool → RS → Rg (Il × Int)
  | 0, _, _, r => ((.nil, 0), r.bad 50)
  | k + 1, deep, other, r =>
    if r.w ≠ 0 then ((.nil, 0), r)
    else if (rByte s r).2.w ≠ 0 ∨ (rByte s r).1 = 11 ∨ (other = true ∧ (rByte s r).1 = 5) then ((.nil, (rByte s r).1), (rByte s r).2)
    else ((Il.consOne (rOne s (rExprs s k) (rByte s r).1 deep (rByte s r).2).1 (rExprs s k deep other (rOne s (rExprs s k) (rByte s r).1 deep (rByte s r).2).2).1.1,
      (rExprs s k deep other (rOne s (rExprs s k) (rByte s r).1 deep (rByte s r).2).2).1.2), (rExprs s k deep other (rOne s (rExprs s k) (rByte s r).1 deep (rByte s r).2).2).2)
def rLimits (s : List UInt8) (r : RS) : Rg (Int × Int × Bool) :=
  let b := rByte s r
  let r1 := if 1 < b.1 then b.2.bad 50 else b.2
  let n := rU s r1
  if b.1 = 1 then ((n.1, (rU s n.2).1, true), (rU s n.2).2) else ((n.1, 0, false), n.2)
def rConst (s : List UInt8) (r : RS) : Rg One :=
  let b := rByte s r
  let q : Rg One := if b.2.w ≠ 0 then (one0 b.1, b.2) else if formV b.1 = 10 then (one0 b.1, b.2.bad 51) else if b.1 = 65 ∨ b.1 = 66 ∨ b.1 = 35 then rOperands s (fun _ _ r => ((.nil, 0), r)) b.1 0 b.2 else (one0 b.1, b.2.bad 50)
  (q.1, rMust s 11 q.2)

/-- Does the one read as the other, where nothing was wrong; and is what was wrong kept? -/
def Sim {α : Type} (g : Nat → Nat → Got α) (f : RS → Rg α) : Prop :=
  ∀ r : RS, (r.w ≠ 0 → (f r).2.w = r.w) ∧ (r.w = 0 → (∀ v a, g r.e r.a = .ok (v, a) → f r = (v, { r with a := a })) ∧ (∀ n, g r.e r.a = .error n → n ≠ 0 ∧ (f r).2.w = n))
theorem bad_w0 {r : RS} {n : Int} (h : r.w = 0) : (r.bad n).w = n := by
  unfold RS.bad
  rw [if_pos h]
theorem bad_w1 {r : RS} {n : Int} (h : r.w ≠ 0) : r.bad n = r := by
  unfold RS.bad
  rw [if_neg h]
theorem sim_byte (s : List UInt8) : Sim (gByte s) (rByte s) := by
  intro r
  refine ⟨fun h => ?_, fun h => ⟨fun v a hg => ?_, fun n hg => ?_⟩⟩
  · unfold rByte
    rw [if_pos h]
  · unfold gByte at hg
    unfold rByte
    split at hg
    · cases hg
      rw [if_neg (by simp [h]), if_neg (by omega)]
    · cases hg
  · unfold gByte at hg
    unfold rByte
    split at hg
    · cases hg
    · cases hg
      rw [if_neg (by simp [h]), if_pos (by omega)]
      exact ⟨by decide, bad_w0 h⟩
theorem sim_num (g : Nat → Nat → Got Int) (hg5 : ∀ e a n, g e a = .error n → n = 50) : Sim g (rNum g) := by
  intro r
  refine ⟨fun h => ?_, fun h => ⟨fun v a hg => ?_, fun n hg => ?_⟩⟩
  · unfold rNum
    rw [if_pos h]
  · unfold rNum
    rw [if_neg (by simp [h]), hg]
  · have hn := hg5 _ _ _ hg
    subst hn
    unfold rNum
    rw [if_neg (by simp [h]), hg]
    exact ⟨by decide, bad_w0 h⟩
theorem gU_err (s : List UInt8) : ∀ e a n, gU s e a = .error n → n = 50 := by
  intro e a n h
  unfold gU at h
  split at h
  · split at h
    · cases h
    · cases h; rfl
  · cases h; rfl
theorem gS32_err (s : List UInt8) : ∀ e a n, gS32 s e a = .error n → n = 50 := by
  intro e a n h
  unfold gS32 at h
  split at h
  · split at h
    · cases h
    · cases h; rfl
  · cases h; rfl
theorem gS64_err (s : List UInt8) : ∀ e a n, gS64 s e a = .error n → n = 50 := by
  intro e a n h
  unfold gS64 at h
  split at h
  · split at h
    · cases h
    · cases h; rfl
  · cases h; rfl
theorem sim_u (s : List UInt8) : Sim (gU s) (rU s) := sim_num _ (gU_err s)
theorem sim_s32 (s : List UInt8) : Sim (gS32 s) (rNum (gS32 s)) := sim_num _ (gS32_err s)
theorem sim_s64 (s : List UInt8) : Sim (gS64 s) (rNum (gS64 s)) := sim_num _ (gS64_err s)
/-- One reading behind another one. -/
def rThen {α β : Type} (f : RS → Rg α) (k : α → RS → Rg β) (r : RS) : Rg β := k (f r).1 (f r).2
theorem sim_then {α β : Type} {g : Nat → Nat → Got α} {f : RS → Rg α} {gk : α → Nat → Nat → Got β} {k : α → RS → Rg β} (h : Sim g f) (hk : ∀ v, Sim (gk v) (k v)) :
    Sim (fun e a => (g e a).bind fun q => gk q.1 e q.2) (rThen f k) := by
  intro r
  refine ⟨fun hw => ?_, fun hw => ?_⟩
  · have h1 := (h r).1 hw
    have h2 := (hk (f r).1 (f r).2).1 (by rw [h1]; exact hw)
    show (k (f r).1 (f r).2).2.w = _
    rw [h2, h1]
  · have h0 := (h r).2 hw
    dsimp only
    cases hg : g r.e r.a with
    | error n =>
      obtain ⟨hn, h1⟩ := h0.2 n hg
      refine ⟨fun v a he => (by cases he), fun m he => ?_⟩
      cases he
      refine ⟨hn, ?_⟩
      have h2 := (hk (f r).1 (f r).2).1 (by rw [h1]; exact hn)
      show (k (f r).1 (f r).2).2.w = _
      rw [h2, h1]
    | ok q =>
      have h1 := h0.1 q.1 q.2 hg
      have h2 := (hk q.1 { r with a := q.2 }).2 hw
      have e : rThen f k r = k q.1 { r with a := q.2 } := by
        unfold rThen
        rw [h1]
      rw [e]
      exact h2
theorem sim_pure {α : Type} (v : α) : Sim (fun _ a => .ok (v, a)) (fun r => (v, r)) := by
  intro r
  refine ⟨fun _ => rfl, fun _ => ⟨fun v' a h => (by cases h; rfl), fun n h => (by cases h)⟩⟩
/-- What is wrong now. -/
theorem sim_bad {α : Type} (v : α) (n : Int) (hn : n ≠ 0) : Sim (fun _ _ => .error n) (fun r => (v, r.bad n)) := by
  intro r
  refine ⟨fun h => by show (r.bad n).w = _; rw [bad_w1 h], fun h => ⟨fun v' a he => (by cases he), fun m he => (by cases he; exact ⟨hn, bad_w0 h⟩)⟩⟩
/-- Equal on the reader that is not wrong; wrong ones stay. -/
theorem sim_of {α : Type} {g g' : Nat → Nat → Got α} {f f' : RS → Rg α} (h : Sim g f) (hg : ∀ e a, g' e a = g e a) (hf : ∀ r, r.w = 0 → (f' r = f r ∨ ((f r).2.w ≠ 0 ∧ (f' r).2.w = (f r).2.w))) (hw : ∀ r, r.w ≠ 0 → (f' r).2.w = r.w) : Sim g' f' := by
  intro r
  refine ⟨hw r, fun h0 => ?_⟩
  have h1 := (h r).2 h0
  rw [hg]
  rcases hf r h0 with e | ⟨e1, e2⟩
  · rw [e]
    exact h1
  · refine ⟨fun v a he => ?_, fun n he => ?_⟩
    · rw [h1.1 v a he] at e1
      exact absurd h0 e1
    · rw [e2]
      exact h1.2 n he
theorem bad_zero {r : RS} {n : Int} (hn : n ≠ 0) : (r.bad n).w ≠ 0 := by
  unfold RS.bad
  split
  · exact hn
  · assumption
theorem sim_is (s : List UInt8) (b : Int) : Sim (fun e a => gIs s e a b) (fun r => ((), rMust s b r)) := by
  refine sim_of (sim_then (gk := fun v _ a => if v = b then .ok ((), a) else .error 50) (k := fun v r => if v = b then ((), r) else ((), r.bad 50)) (sim_byte s) (fun v => ?_)) (fun e a => rfl) (fun r _ => .inl ?_) (fun r h => ?_)
  · by_cases hv : v = b
    · simp only [if_pos hv]
      exact sim_pure ()
    · simp only [if_neg hv]
      exact sim_bad () 50 (by decide)
  · unfold rThen rMust
    dsimp only
    split <;> rfl
  · show (rMust s b r).w = _
    unfold rMust
    have := (sim_byte s r).1 h
    split
    · exact this
    · rw [bad_w1 (by rw [this]; exact h), this]
theorem sim_if {α : Type} {c : Prop} [Decidable c] {g g' : Nat → Nat → Got α} {f f' : RS → Rg α} (h : c → Sim g f) (h' : ¬ c → Sim g' f') : Sim (fun e a => if c then g e a else g' e a) (fun r => if c then f r else f' r) := by
  by_cases hc : c
  · simp only [if_pos hc]
    exact h hc
  · simp only [if_neg hc]
    exact h' hc
/-- The count, and what is made of it, where it is no more than may be. -/
theorem sim_count (s : List UInt8) : Sim (gCount s) (rCount s) := by
  refine sim_of (sim_then (gk := fun v _ a => if v ≤ 4096 then .ok (v, a) else .error 3) (k := fun v r => if v ≤ 4096 then (v, r) else (0, r.bad 3)) (sim_u s) (fun v => sim_if (fun _ => sim_pure v) (fun _ => sim_bad 0 3 (by decide)))) (fun e a => rfl) (fun r _ => .inl ?_) (fun r h => ?_)
  · unfold rThen rCount
    dsimp only
    by_cases h : (rU s r).1 ≤ 4096
    · rw [if_pos h, if_neg (by omega)]
    · rw [if_neg h, if_pos (by omega)]
  · unfold rCount
    have := (sim_u s r).1 h
    split
    · show ((rU s r).2.bad 3).w = _
      rw [bad_w1 (by rw [this]; exact h), this]
    · exact this
theorem rU_zero (s : List UInt8) (r : RS) (h : r.w ≠ 0) : rU s r = (0, r) := by
  unfold rU rNum
  rw [if_pos h]
theorem sim_text (s : List UInt8) : Sim (gText s) (rText s) := by
  intro r
  have hu := sim_u s r
  refine ⟨fun h => ?_, fun h => ?_⟩
  · unfold rText
    rw [rU_zero s r h, if_pos h]
  · cases hg : gU s r.e r.a with
    | error n =>
      have h1 := (hu.2 h).2 n hg
      refine ⟨fun v a he => ?_, fun m he => ?_⟩
      · unfold gText at he
        rw [hg] at he
        cases he
      · unfold gText at he
        rw [hg] at he
        cases he
        refine ⟨h1.1, ?_⟩
        unfold rText
        rw [if_pos (by rw [h1.2]; exact h1.1)]
        exact h1.2
    | ok q =>
      have h1 := (hu.2 h).1 q.1 q.2 hg
      have e : gText s r.e r.a = if q.1 ≤ (r.e : Int) - q.2 then .ok (win s q.2 (q.2 + q.1.toNat), q.2 + q.1.toNat) else .error 50 := by
        unfold gText
        rw [hg]
        rfl
      have e' : rText s r = if (r.e : Int) - q.2 < q.1 then ([], ({ r with a := q.2 } : RS).bad 50) else (win s q.2 (q.2 + q.1.toNat), { r with a := q.2 + q.1.toNat }) := by
        unfold rText
        rw [h1]
        simp only
        rw [if_neg (by simp [h])]
      rw [e, e']
      by_cases hc : q.1 ≤ (r.e : Int) - q.2
      · rw [if_pos hc, if_neg (by omega)]
        exact ⟨fun v a he => (by cases he; rfl), fun n he => (by cases he)⟩
      · rw [if_neg hc, if_pos (by omega)]
        exact ⟨fun v a he => (by cases he), fun n he => (by cases he; exact ⟨by decide, bad_w0 h⟩)⟩
theorem sim_name (s : List UInt8) : Sim (gName s) (rName s) := by
  refine sim_of (sim_then (gk := fun v _ a => if nameB (mkb v) = true then .ok (v, a) else .error 50) (k := fun v r => if nameB (mkb v) = true then (v, r) else (v, r.bad 50)) (sim_text s) (fun v => sim_if (fun _ => sim_pure v) (fun _ => sim_bad v 50 (by decide)))) (fun e a => ?_) (fun r _ => .inl ?_) (fun r h => ?_)
  · rfl
  · unfold rThen rName
    rfl
  · unfold rName
    have := (sim_text s r).1 h
    split
    · exact this
    · show ((rText s r).2.bad 50).w = _
      rw [bad_w1 (by rw [this]; exact h), this]
theorem sim_typ (s : List UInt8) : Sim (gTyp s) (rTyp s) := by
  refine sim_of (sim_then (gk := fun v _ a => if v = 125 ∨ v = 124 then .error 51 else if v = 127 ∨ v = 126 then .ok (v, a) else .error 50) (k := fun v r => if v = 125 ∨ v = 124 then (v, r.bad 51) else if v = 127 ∨ v = 126 then (v, r) else (v, r.bad 50)) (sim_byte s)
    (fun v => sim_if (fun _ => sim_bad v 51 (by decide)) (fun _ => sim_if (fun _ => sim_pure v) (fun _ => sim_bad v 50 (by decide))))) (fun e a => rfl) (fun r hr => ?_) (fun r h => ?_)
  · unfold rThen rTyp
    dsimp only
    by_cases hw : (rByte s r).2.w = 0
    · left
      rw [if_neg (by simp [hw])]
      by_cases h1 : (rByte s r).1 = 125 ∨ (rByte s r).1 = 124
      · rw [if_pos h1, if_pos h1]
      · rw [if_neg h1, if_neg h1]
        by_cases h2 : (rByte s r).1 = 127 ∨ (rByte s r).1 = 126
        · rw [if_pos h2, if_neg (by omega)]
        · rw [if_neg h2, if_pos (by omega)]
    · right
      rw [if_pos hw]
      have : ∀ n, (rByte s r).2.bad n = (rByte s r).2 := fun n => bad_w1 hw
      simp only [this]
      refine ⟨?_, ?_⟩
      · split
        · exact hw
        · split <;> exact hw
      · split
        · rfl
        · split <;> rfl
  · unfold rTyp
    have := (sim_byte s r).1 h
    rw [if_pos (by rw [this]; exact h)]
    exact this
theorem sim_many {α : Type} {g : Nat → Nat → Got α} {f : RS → Rg α} (h : Sim g f) : ∀ k, Sim (fun e a => gMany (g e) k a) (rMany f k)
  | 0 => sim_pure []
  | k + 1 => by
    refine sim_of (sim_then (gk := fun v e a => (gMany (g e) k a).bind fun r => .ok (v :: r.1, r.2)) (k := fun v => rThen (rMany f k) fun l r => (v :: l, r)) h (fun v => sim_then (gk := fun l _ a => .ok (v :: l, a)) (sim_many h k) fun l => sim_pure _)) (fun e a => rfl) (fun r hr => .inl ?_) (fun r hr => ?_)
    · unfold rThen
      rw [rMany, if_neg (by simp [hr])]
    · rw [rMany, if_pos hr]
theorem sim_each {α : Type} (s : List UInt8) {g : Nat → Nat → Got α} {f : RS → Rg α} (h : Sim g f) : Sim (fun e a => gEach s e a (g e)) (rEach s f) :=
  by
  have h1 := sim_then (gk := fun (v : Int) e a => gMany (g e) v.toNat a) (k := fun (v : Int) => rMany f v.toNat) (sim_count s) (fun v => sim_many h v.toNat)
  exact h1
theorem sim_result (s : List UInt8) : Sim (gResult s) (rResult s) := by
  intro r
  refine ⟨fun h => ?_, fun h => ?_⟩
  · unfold rResult
    rw [if_neg (fun hh => h hh.1)]
    exact (sim_typ s r).1 h
  · unfold gResult rResult
    by_cases hc : r.a < r.e ∧ (s[r.a]?.getD 0) = 64
    · rw [if_pos hc, if_pos ⟨h, hc⟩]
      exact ⟨fun v a he => (by cases he; rfl), fun n he => (by cases he)⟩
    · rw [if_neg hc, if_neg (fun hh => hc hh.2)]
      exact (sim_typ s r).2 h
end Go.Proofs.YtkbfjkbokifgkaaGreatDoor

namespace Go.Proofs.YtkbfjkbokifgkaaGreatDoor
open Go.RowKit
set_option linter.unusedVariables false

/-- The same, where instructions are counted. -/
def SimI {α : Type} (g : Nat → Nat → Nat → Except Int ((α × Nat) × Nat)) (f : RS → Rg α) : Prop :=
  ∀ r : RS, (r.w ≠ 0 → (f r).2.w = r.w) ∧ (r.w = 0 → r.i ≤ 65536 → (∀ v l a, g (65536 - r.i) r.e r.a = .ok ((v, l), a) → l ≤ 65536 - r.i ∧ f r = (v, { r with a := a, i := 65536 - l })) ∧ (∀ n, g (65536 - r.i) r.e r.a = .error n → n ≠ 0 ∧ (f r).2.w = n))
theorem Sim.i {α : Type} {g : Nat → Nat → Got α} {f : RS → Rg α} (h : Sim g f) : SimI (fun l e a => (g e a).bind fun q => .ok ((q.1, l), q.2)) f := by
  intro r
  refine ⟨(h r).1, fun hw hi => ?_⟩
  have h1 := (h r).2 hw
  dsimp only
  cases hg : g r.e r.a with
  | error n => exact ⟨fun v l a he => (by cases he), fun m he => by cases he; exact h1.2 n hg⟩
  | ok q =>
    refine ⟨fun v l a he => ?_, fun m he => by cases he⟩
    cases he
    refine ⟨Nat.le_refl _, ?_⟩
    rw [h1.1 q.1 q.2 hg, show 65536 - (65536 - r.i) = r.i by omega]
theorem simI_then {α β : Type} {g : Nat → Nat → Nat → Except Int ((α × Nat) × Nat)} {f : RS → Rg α} {gk : α → Nat → Nat → Nat → Except Int ((β × Nat) × Nat)} {k : α → RS → Rg β} (h : SimI g f) (hk : ∀ v, SimI (gk v) (k v)) :
    SimI (fun l e a => (g l e a).bind fun q => gk q.1.1 q.1.2 e q.2) (rThen f k) := by
  intro r
  refine ⟨fun hw => ?_, fun hw hi => ?_⟩
  · have h1 := (h r).1 hw
    have h2 := (hk (f r).1 (f r).2).1 (by rw [h1]; exact hw)
    show (k (f r).1 (f r).2).2.w = _
    rw [h2, h1]
  · have h0 := (h r).2 hw hi
    dsimp only
    cases hg : g (65536 - r.i) r.e r.a with
    | error n =>
      obtain ⟨hn, h1⟩ := h0.2 n hg
      refine ⟨fun v l a he => (by cases he), fun m he => ?_⟩
      cases he
      refine ⟨hn, ?_⟩
      have h2 := (hk (f r).1 (f r).2).1 (by rw [h1]; exact hn)
      show (k (f r).1 (f r).2).2.w = _
      rw [h2, h1]
    | ok q =>
      obtain ⟨⟨v, l⟩, a⟩ := q
      obtain ⟨hl, h1⟩ := h0.1 v l a hg
      have h2 := (hk v { r with a := a, i := 65536 - l }).2 hw (by show 65536 - l ≤ 65536; omega)
      have e : rThen f k r = k v { r with a := a, i := 65536 - l } := by
        unfold rThen
        rw [h1]
      have e2 : 65536 - (65536 - l) = l := by omega
      rw [e]
      simp only [e2] at h2
      refine ⟨fun v' l' a' he => ?_, h2.2⟩
      obtain ⟨h3, h4⟩ := h2.1 v' l' a' he
      exact ⟨by omega, h4⟩
theorem simI_of {α : Type} {g g' : Nat → Nat → Nat → Except Int ((α × Nat) × Nat)} {f f' : RS → Rg α} (h : SimI g f) (hg : ∀ l e a, g' l e a = g l e a) (hf : ∀ r, r.w = 0 → (f' r = f r ∨ ((f r).2.w ≠ 0 ∧ (f' r).2.w = (f r).2.w))) (hw : ∀ r, r.w ≠ 0 → (f' r).2.w = r.w) : SimI g' f' := by
  intro r
  refine ⟨hw r, fun h0 hi => ?_⟩
  have h1 := (h r).2 h0 hi
  rw [hg]
  rcases hf r h0 with e | ⟨e1, e2⟩
  · rw [e]
    exact h1
  · refine ⟨fun v l a he => ?_, fun n he => ?_⟩
    · rw [(h1.1 v l a he).2] at e1
      exact absurd h0 e1
    · rw [e2]
      exact h1.2 n he
theorem simI_if {α : Type} {c : Prop} [Decidable c] {g g' : Nat → Nat → Nat → Except Int ((α × Nat) × Nat)} {f f' : RS → Rg α} (h : c → SimI g f) (h' : ¬ c → SimI g' f') : SimI (fun l e a => if c then g l e a else g' l e a) (fun r => if c then f r else f' r) := by
  by_cases hc : c
  · simp only [if_pos hc]
    exact h hc
  · simp only [if_neg hc]
    exact h' hc
theorem simI_pure {α : Type} (v : α) : SimI (fun l _ a => .ok ((v, l), a)) (fun r => (v, r)) := (sim_pure v).i
theorem simI_bad {α : Type} (v : α) (n : Int) (hn : n ≠ 0) : SimI (fun _ _ _ => .error n) (fun r => (v, r.bad n)) := (sim_bad v n hn).i
theorem except_assoc {ε α β γ : Type} (x : Except ε α) (f : α → Except ε β) (g : β → Except ε γ) : (x.bind f).bind g = x.bind fun q => (f q).bind g := by cases x <;> rfl
theorem bind_ok {ε α β : Type} {x : Except ε α} {f : α → Except ε β} {r : β} (h : x.bind f = .ok r) : ∃ q, x = .ok q ∧ f q = .ok r := by
  cases x with
  | error n => cases h
  | ok q => exact ⟨q, rfl, h⟩
theorem bind_congr {ε α β : Type} {x : Except ε α} {f g : α → Except ε β} (h : ∀ q, x = .ok q → f q = g q) : x.bind f = x.bind g := by
  cases x with
  | error n => rfl
  | ok q => exact h q rfl
/-- All that it may tell satisfies P. -/
def Tells {α : Type} (P : α → Prop) (x : Except Int α) : Prop := ∀ r, x = .ok r → P r
theorem Tells.bind {α β : Type} {P : β → Prop} {x : Except Int α} {f : α → Except Int β} (h : ∀ q, Tells P (f q)) : Tells P (x.bind f) := fun r hr => by
  obtain ⟨q, _, h2⟩ := bind_ok hr
  exact h q r h2
theorem Tells.ite {α : Type} {P : α → Prop} {c : Prop} [Decidable c] {x y : Except Int α} (h : Tells P x) (k : Tells P y) : Tells P (if c then x else y) := by
  split <;> assumption
theorem Tells.ok {α : Type} {P : α → Prop} {v : α} (h : P v) : Tells P (.ok v) := fun r hr => by cases hr; exact h
theorem gParts_op {s : List UInt8} {e : Nat} {rec : Nat → Bool → Nat → Nat → Except Int ((Il × Bool × Nat) × Nat)} {op : Int} {d l a : Nat} {r : (One × Nat) × Nat} (h : gParts s e rec op d l a = .ok r) : r.1.1.op = op := by
  have hT : Tells (fun r : (One × Nat) × Nat => r.1.1.op = op) (gParts s e rec op d l a) := by
    unfold gParts
    exact .ite (.ite (.bind fun _ => .ok rfl) (.ok rfl)) (.ite (.bind fun _ => .bind fun _ => .ite (.bind fun _ => .ok rfl) (.ok rfl)) (.ite (.bind fun _ => .ok rfl) (.ite (.bind fun _ => .bind fun _ => .ok rfl) (.ite (.bind fun _ => .bind fun _ => .ok rfl) (.ite (.bind fun _ => .bind fun _ => .ok rfl) (.ite (.ite (.bind fun _ => .ok rfl) (.bind fun _ => .ok rfl)) (.ok rfl)))))))
  exact hT r h
def SimL (s : List UInt8) (G : Nat → Nat → Bool → Nat → Nat → Except Int ((Il × Bool × Nat) × Nat)) (rec : Nat → Bool → RS → Rg (Il × Int)) : Prop :=
  ∀ deep other, SimI (fun l e a => (G e deep other l a).bind fun q => .ok (((q.1.1, (if q.1.2.1 = true then 5 else 11 : Int)), q.1.2.2), q.2)) (rec deep other)
theorem sim_operands (s : List UInt8) {G : Nat → Nat → Bool → Nat → Nat → Except Int ((Il × Bool × Nat) × Nat)} {rec : Nat → Bool → RS → Rg (Il × Int)} (h : SimL s G rec) (op : Int) (deep : Nat) :
    SimI (fun l e a => gParts s e (G e) op deep l a) (rOperands s rec op deep) := by
  have e63 : formV 63 = 1 := by rfl
  have e64 : formV 64 = 1 := by rfl
  by_cases h23 : formV op = 2 ∨ formV op = 3
  · have h1 : ¬ formV op = 1 := by omega
    have hG : ∀ l e a, gParts s e (G e) op deep l a = (gResult s e a).bind fun q => (G e (deep + 1) (op == 4) l q.2).bind fun b =>
        if b.1.2.1 = true then (G e (deep + 1) false b.1.2.2 b.2).bind fun c => .ok ((⟨op, q.1, 0, 0, [], b.1.1, c.1.1⟩, c.1.2.2), c.2)
        else .ok ((⟨op, q.1, 0, 0, [], b.1.1, .nil⟩, b.1.2.2), b.2) := fun l e a => by
      unfold gParts
      rw [if_neg h1, if_pos h23]
    have hF : ∀ r, rOperands s rec op deep r = rThen (rResult s) (fun t => rThen (rec (deep + 1) (op == 4)) fun b => fun r => if b.2 = 5 then rThen (rec (deep + 1) false) (fun c r => (⟨op, t, 0, 0, [], b.1, c.1⟩, r)) r else (⟨op, t, 0, 0, [], b.1, .nil⟩, r)) r := fun r => by
      unfold rOperands
      rw [if_pos h23]
      rfl
    refine simI_of (simI_then (sim_result s).i fun t => simI_then (h (deep + 1) (op == 4)) fun b => simI_if (c := b.2 = 5) (fun _ => simI_then (h (deep + 1) false) fun c => simI_pure (⟨op, t, 0, 0, [], b.1, c.1⟩ : One)) fun _ => simI_pure (⟨op, t, 0, 0, [], b.1, .nil⟩ : One)) (fun l e a => ?_) (fun r _ => .inl (hF r)) (fun r hr => ?_)
    · rw [hG]
      simp only [except_assoc]
      congr 1
      funext q
      show (G e (deep + 1) (op == 4) l q.2).bind _ = (G e (deep + 1) (op == 4) l q.2).bind _
      congr 1
      funext b
      show _ = (if (if b.1.2.1 = true then (5 : Int) else 11) = 5 then _ else _)
      by_cases hb : b.1.2.1 = true
      · rw [if_pos hb, if_pos hb, if_pos rfl]
        rfl
      · rw [if_neg hb, if_neg hb, if_neg (by decide)]
    · rw [hF]
      have h2 := (simI_then (sim_result s).i fun t => simI_then (h (deep + 1) (op == 4)) fun b => simI_if (c := b.2 = 5) (fun _ => simI_then (h (deep + 1) false) fun c => simI_pure (⟨op, t, 0, 0, [], b.1, c.1⟩ : One)) fun _ => simI_pure (⟨op, t, 0, 0, [], b.1, .nil⟩ : One)) r
      exact h2.1 hr
  · have n2 : ¬ formV op = 2 := fun e => h23 (.inl e)
    have n3 : ¬ formV op = 3 := fun e => h23 (.inr e)
    -- the others count no instruction
    suffices hs : ∃ g : Nat → Nat → Got One, Sim g (rOperands s rec op deep) ∧ ∀ l e a, gParts s e (G e) op deep l a = (g e a).bind fun q => .ok ((q.1, l), q.2) by
      obtain ⟨g, hs, hg⟩ := hs
      intro r
      have := hs.i r
      simp only [hg]
      exact this
    have fin : ∀ {g : Nat → Nat → Got One} {f : RS → Rg One}, Sim g f → (∀ r, rOperands s rec op deep r = f r) → (∀ l e a, gParts s e (G e) op deep l a = (g e a).bind fun q => .ok ((q.1, l), q.2)) → ∃ g : Nat → Nat → Got One, Sim g (rOperands s rec op deep) ∧ ∀ l e a, gParts s e (G e) op deep l a = (g e a).bind fun q => .ok ((q.1, l), q.2) := fun {g f} hs hf hg => ⟨g, by rw [show rOperands s rec op deep = f from funext hf]; exact hs, hg⟩
    by_cases h46 : formV op = 4 ∨ formV op = 6
    · refine fin (sim_then (gk := fun v _ a => .ok ((⟨op, v, 0, 0, [], .nil, .nil⟩ : One), a)) (sim_u s) fun v => sim_pure (⟨op, v, 0, 0, [], .nil, .nil⟩ : One)) (fun r => ?_) fun l e a => ?_
      · unfold rOperands
        rw [if_neg h23, if_pos h46]
        rfl
      · unfold gParts
        rw [if_neg (by omega), if_neg h23, if_pos h46]
        simp only [except_assoc]
        rfl
    · by_cases h5 : formV op = 5
      · refine fin (sim_then (gk := fun ls e a => (gU s e a).bind fun q => .ok ((⟨op, q.1, 0, 0, ls, .nil, .nil⟩ : One), q.2)) (sim_each s (sim_u s)) fun ls => sim_then (gk := fun v _ a => .ok ((⟨op, v, 0, 0, ls, .nil, .nil⟩ : One), a)) (sim_u s) fun v => sim_pure (⟨op, v, 0, 0, ls, .nil, .nil⟩ : One)) (fun r => ?_) fun l e a => ?_
        · unfold rOperands
          rw [if_neg h23, if_neg h46, if_pos h5]
          rfl
        · unfold gParts
          rw [if_neg (by omega), if_neg h23, if_neg h46, if_pos h5]
          simp only [except_assoc]
          rfl
      · by_cases h7 : formV op = 7
        · refine fin (sim_then (gk := fun v e a => (gIs s e a 0).bind fun q => .ok ((⟨op, v, 0, 0, [], .nil, .nil⟩ : One), q.2)) (sim_u s) fun v => sim_then (gk := fun _ _ a => .ok ((⟨op, v, 0, 0, [], .nil, .nil⟩ : One), a)) (sim_is s 0) fun _ => sim_pure (⟨op, v, 0, 0, [], .nil, .nil⟩ : One)) (fun r => ?_) fun l e a => ?_
          · unfold rOperands
            rw [if_neg h23, if_neg h46, if_neg h5, if_pos h7]
            rfl
          · unfold gParts
            rw [if_neg (by omega), if_neg h23, if_neg h46, if_neg h5, if_pos h7]
            simp only [except_assoc]
            rfl
        · by_cases h8 : formV op = 8
          · refine fin (sim_then (gk := fun v e a => (gU s e a).bind fun q => .ok ((⟨op, v, q.1, 0, [], .nil, .nil⟩ : One), q.2)) (sim_u s) fun v => sim_then (gk := fun z _ a => .ok ((⟨op, v, z, 0, [], .nil, .nil⟩ : One), a)) (sim_u s) fun z => sim_pure (⟨op, v, z, 0, [], .nil, .nil⟩ : One)) (fun r => ?_) fun l e a => ?_
            · unfold rOperands
              rw [if_neg h23, if_neg h46, if_neg h5, if_neg h7, if_pos h8]
              rfl
            · unfold gParts
              rw [if_neg (by omega), if_neg h23, if_neg h46, if_neg h5, if_neg h7, if_pos h8]
              simp only [except_assoc]
              rfl
          · by_cases h9 : formV op = 9
            · by_cases ho : op = 65
              · refine fin (sim_then (gk := fun v _ a => .ok ((⟨op, 0, 0, v, [], .nil, .nil⟩ : One), a)) (sim_s32 s) fun v => sim_pure (⟨op, 0, 0, v, [], .nil, .nil⟩ : One)) (fun r => ?_) fun l e a => ?_
                · unfold rOperands
                  rw [if_neg h23, if_neg h46, if_neg h5, if_neg h7, if_neg h8, if_pos h9, if_pos ho]
                  rfl
                · unfold gParts
                  rw [if_neg (by omega), if_neg h23, if_neg h46, if_neg h5, if_neg h7, if_neg h8, if_pos h9, if_pos ho]
                  simp only [except_assoc]
                  rfl
              · refine fin (sim_then (gk := fun v _ a => .ok ((⟨op, 0, 0, v, [], .nil, .nil⟩ : One), a)) (sim_s64 s) fun v => sim_pure (⟨op, 0, 0, v, [], .nil, .nil⟩ : One)) (fun r => ?_) fun l e a => ?_
                · unfold rOperands
                  rw [if_neg h23, if_neg h46, if_neg h5, if_neg h7, if_neg h8, if_pos h9, if_neg ho]
                  rfl
                · unfold gParts
                  rw [if_neg (by omega), if_neg h23, if_neg h46, if_neg h5, if_neg h7, if_neg h8, if_pos h9, if_neg ho]
                  simp only [except_assoc]
                  rfl
            · by_cases hm : op = 63 ∨ op = 64
              · refine fin (sim_then (gk := fun _ _ a => .ok (one0 op, a)) (sim_is s 0) fun _ => sim_pure (one0 op)) (fun r => ?_) fun l e a => ?_
                · unfold rOperands
                  rw [if_neg h23, if_neg h46, if_neg h5, if_neg h7, if_neg h8, if_neg h9, if_pos hm]
                  rfl
                · unfold gParts
                  rw [if_pos (by rcases hm with rfl | rfl <;> assumption), if_pos hm]
                  simp only [except_assoc]
                  rfl
              · refine fin (sim_pure (one0 op)) (fun r => ?_) fun l e a => ?_
                · unfold rOperands
                  rw [if_neg h23, if_neg h46, if_neg h5, if_neg h7, if_neg h8, if_neg h9, if_neg hm]
                · unfold gParts
                  by_cases h1 : formV op = 1
                  · rw [if_pos h1, if_neg hm]
                    rfl
                  · rw [if_neg h1, if_neg h23, if_neg h46, if_neg h5, if_neg h7, if_neg h8, if_neg h9]
                    rfl
/-- One instruction behind its byte. -/
def gOne (s : List UInt8) (e : Nat) (rec : Nat → Bool → Nat → Nat → Except Int ((Il × Bool × Nat) × Nat)) (op : Int) (deep left a : Nat) : Except Int ((One × Nat) × Nat) :=
  if formV op = 0 then .error 50 else if formV op = 10 then .error 51 else if left = 0 then .error 3 else if 64 < deep then .error 4 else gParts s e rec op deep (left - 1) a
theorem sim_one (s : List UInt8) {G : Nat → Nat → Bool → Nat → Nat → Except Int ((Il × Bool × Nat) × Nat)} {rec : Nat → Bool → RS → Rg (Il × Int)} (h : SimL s G rec) (op : Int) (deep : Nat) :
    SimI (fun l e a => gOne s e (G e) op deep l a) (rOne s rec op deep) := by
  intro r
  refine ⟨fun hw => ?_, fun hw hi => ?_⟩
  · have e : rWhat op deep r = r := by
      unfold rWhat
      simp only [bad_w1 hw]
      split
      · rfl
      · split
        · rfl
        · split
          · rfl
          · split <;> rfl
    unfold rOne
    rw [e, if_neg hw]
  · have err : ∀ n : Int, n ≠ 0 → rWhat op deep r = r.bad n → (rOne s rec op deep r).2.w = n := fun n hn e => by
      unfold rOne
      rw [e, if_neg (bad_zero hn)]
      exact bad_w0 hw
    unfold gOne
    dsimp only
    by_cases h0 : formV op = 0
    · rw [if_pos h0]
      refine ⟨fun v l a he => (by cases he), fun n he => ?_⟩
      cases he
      exact ⟨by decide, err 50 (by decide) (by unfold rWhat; rw [if_pos h0])⟩
    · rw [if_neg h0]
      by_cases h10 : formV op = 10
      · rw [if_pos h10]
        refine ⟨fun v l a he => (by cases he), fun n he => ?_⟩
        cases he
        exact ⟨by decide, err 51 (by decide) (by unfold rWhat; rw [if_neg h0, if_pos h10])⟩
      · rw [if_neg h10]
        by_cases hl : 65536 - r.i = 0
        · rw [if_pos hl]
          refine ⟨fun v l a he => (by cases he), fun n he => ?_⟩
          cases he
          exact ⟨by decide, err 3 (by decide) (by unfold rWhat; rw [if_neg h0, if_neg h10, if_pos (by omega)])⟩
        · rw [if_neg hl]
          by_cases hd : 64 < deep
          · rw [if_pos hd]
            refine ⟨fun v l a he => (by cases he), fun n he => ?_⟩
            cases he
            exact ⟨by decide, err 4 (by decide) (by unfold rWhat; rw [if_neg h0, if_neg h10, if_neg (by omega), if_pos hd])⟩
          · rw [if_neg hd]
            have e : rWhat op deep r = r := by
              unfold rWhat
              rw [if_neg h0, if_neg h10, if_neg (by omega), if_neg hd]
            have e2 : rOne s rec op deep r = rOperands s rec op deep { r with i := r.i + 1 } := by
              unfold rOne
              rw [e, if_pos hw]
            rw [e2]
            have h3 := (sim_operands s h op deep { r with i := r.i + 1 }).2 hw (by show r.i + 1 ≤ 65536; omega)
            have e3 : 65536 - (r.i + 1) = 65536 - r.i - 1 := by omega
            simp only [e3] at h3
            exact ⟨fun v l a he => ⟨by have := (h3.1 v l a he).1; omega, (h3.1 v l a he).2⟩, h3.2⟩
theorem sim_exprs (s : List UInt8) : ∀ k, SimL s (fun e => gList s e k) (rExprs s k)
  | 0 => fun deep other => by
    have h1 := simI_bad (Il.nil, (0 : Int)) 50 (by decide)
    exact h1
  | k + 1 => fun deep other => by
    have ih := sim_exprs s k
    refine simI_of (g := fun l e a => ((gByte s e a).bind fun q => .ok ((q.1, l), q.2)).bind fun q => (fun v l e a => if v = 11 ∨ (other = true ∧ v = 5) then .ok (((Il.nil, v), l), a) else (gOne s e (gList s e k) v deep l a).bind fun o => ((gList s e k deep other o.1.2 o.2).bind fun q => .ok (((q.1.1, (if q.1.2.1 = true then 5 else 11 : Int)), q.1.2.2), q.2)).bind fun t => .ok (((Il.consOne o.1.1 t.1.1.1, t.1.1.2), t.1.2), t.2)) q.1.1 q.1.2 e q.2)
      (f := rThen (rByte s) fun v r => if v = 11 ∨ (other = true ∧ v = 5) then ((.nil, v), r) else rThen (rOne s (rExprs s k) v deep) (fun o => rThen (rExprs s k deep other) fun t r => ((Il.consOne o t.1, t.2), r)) r) ?_ (fun l e a => ?_) (fun r hr => ?_) (fun r hr => ?_)
    · exact simI_then (sim_byte s).i fun v => simI_if (fun _ => simI_pure (Il.nil, v)) fun _ => simI_then (sim_one s ih v deep) fun o => simI_then (ih deep other) fun t => simI_pure (Il.consOne o t.1, t.2)
    · show (gList s e (k + 1) deep other l a).bind _ = _
      rw [gList]
      simp only [except_assoc]
      congr 1
      funext q
      show _ = (if q.1 = 11 ∨ (other = true ∧ q.1 = 5) then _ else _)
      by_cases hc : q.1 = 11 ∨ (other = true ∧ q.1 = 5)
      · rw [if_pos hc, if_pos (by rcases hc with hc | hc; exact .inl hc; exact .inr ⟨hc.2, hc.1⟩)]
        show Except.ok _ = Except.ok _
        rcases hc with hc | hc
        · simp [hc]
        · simp [hc.2]
      · rw [if_neg hc, if_neg (by rintro (h | h); exact hc (.inl h); exact hc (.inr ⟨h.2, h.1⟩))]
        unfold gOne
        by_cases h0 : formV q.1 = 0
        · rw [if_pos h0, if_pos h0]; rfl
        · rw [if_neg h0, if_neg h0]
          by_cases h10 : formV q.1 = 10
          · rw [if_pos h10, if_pos h10]; rfl
          · rw [if_neg h10, if_neg h10]
            by_cases hl : l = 0
            · rw [if_pos hl, if_pos hl]; rfl
            · rw [if_neg hl, if_neg hl]
              by_cases hd : 64 < deep
              · rw [if_pos hd, if_pos hd]; rfl
              · rw [if_neg hd, if_neg hd]
                simp only [except_assoc]
                refine bind_congr fun o ho => ?_
                have e1 := gParts_op ho
                refine bind_congr fun t _ => ?_
                show Except.ok (((Il.cons q.1 _ _ _ _ _ _ _, _), _), _) = Except.ok (((Il.cons o.1.1.op _ _ _ _ _ _ _, _), _), _)
                rw [e1]
    · rw [rExprs, if_neg (by simp [hr])]
      unfold rThen
      dsimp only
      by_cases hw : (rByte s r).2.w = 0
      · left
        by_cases hc : (rByte s r).1 = 11 ∨ (other = true ∧ (rByte s r).1 = 5)
        · rw [if_pos (.inr hc), if_pos hc]
        · rw [if_neg (by rintro (h | h); exact h hw; exact hc h), if_neg hc]
      · right
        rw [if_pos (show (rByte s r).2.w ≠ 0 ∨ (rByte s r).1 = 11 ∨ (other = true ∧ (rByte s r).1 = 5) from .inl hw)]
        have hone := (sim_one s ih (rByte s r).1 deep (rByte s r).2).1 hw
        have hex := (ih deep other (rOne s (rExprs s k) (rByte s r).1 deep (rByte s r).2).2).1 (by rw [hone]; exact hw)
        by_cases hc : (rByte s r).1 = 11 ∨ (other = true ∧ (rByte s r).1 = 5)
        · rw [if_pos hc]
          exact ⟨hw, rfl⟩
        · rw [if_neg hc]
          dsimp only
          rw [hex, hone]
          exact ⟨hw, rfl⟩
    · rw [rExprs, if_pos hr]
theorem sim_limits (s : List UInt8) : Sim (gLimits s) (rLimits s) := by
  refine sim_of (g := fun e a => (gByte s e a).bind fun b => (fun b e a => if b ≤ 1 then (gU s e a).bind fun n => (fun n e a => if b = 1 then (gU s e a).bind fun x => .ok ((n, x.1, true), x.2) else .ok ((n, 0, false), a)) n.1 e n.2 else .error 50) b.1 e b.2)
    (f := rThen (rByte s) fun b r => if b ≤ 1 then rThen (rU s) (fun n r => if b = 1 then rThen (rU s) (fun x r => ((n, x, true), r)) r else ((n, 0, false), r)) r else ((0, 0, false), r.bad 50)) ?_ (fun e a => ?_) (fun r hr => ?_) (fun r hr => ?_)
  · exact sim_then (sim_byte s) fun b => sim_if (fun _ => sim_then (sim_u s) fun n => sim_if (fun _ => sim_then (sim_u s) fun x => sim_pure (n, x, true)) fun _ => sim_pure (n, 0, false)) fun _ => sim_bad (0, 0, false) 50 (by decide)
  · unfold gLimits gFlag
    simp only [except_assoc]
    congr 1
    funext b
    by_cases hb : b.1 ≤ 1
    · rw [if_pos hb]
      show _ = (if b.1 ≤ 1 then _ else _)
      rw [if_pos hb]
      show (gU s e b.2).bind _ = (gU s e b.2).bind _
      congr 1
      funext n
      by_cases h1 : b.1 = 1
      · simp [h1]
      · have : (b.1 == 1) = false := by rw [beq_eq_false_iff_ne]; exact h1
        simp [this, h1]
    · rw [if_neg hb]
      show _ = (if b.1 ≤ 1 then _ else _)
      rw [if_neg hb]
      rfl
  · by_cases hb : (rByte s r).1 ≤ 1
    · left
      unfold rThen rLimits
      dsimp only
      rw [if_pos hb]
      simp only [if_neg (show ¬ 1 < (rByte s r).1 by omega)]
    · right
      have hz : ∀ r : RS, r.w ≠ 0 → (rU s r).2.w = r.w := fun r h => (sim_u s r).1 h
      have hbw : ((rByte s r).2.bad 50).w ≠ 0 := bad_zero (by decide)
      unfold rThen rLimits
      dsimp only
      rw [if_neg hb]
      simp only [if_pos (show 1 < (rByte s r).1 by omega)]
      refine ⟨hbw, ?_⟩
      have h1 := hz _ hbw
      split
      · show (rU s (rU s ((rByte s r).2.bad 50)).2).2.w = _
        rw [hz _ (by rw [h1]; exact hbw), h1]
      · exact h1
  · have hz : ∀ r : RS, r.w ≠ 0 → (rU s r).2.w = r.w := fun r h => (sim_u s r).1 h
    have hb := (sim_byte s r).1 hr
    unfold rLimits
    have e1 : (if 1 < (rByte s r).1 then (rByte s r).2.bad 50 else (rByte s r).2) = (rByte s r).2 := by
      split
      · exact bad_w1 (by rw [hb]; exact hr)
      · rfl
    simp only [e1]
    have h1 := hz (rByte s r).2 (by rw [hb]; exact hr)
    split
    · show (rU s (rU s (rByte s r).2).2).2.w = _
      rw [hz _ (by rw [h1, hb]; exact hr), h1, hb]
    · show (rU s (rByte s r).2).2.w = _
      rw [h1, hb]
theorem sim_const (s : List UInt8) : Sim (gConst s) (rConst s) := by
  have hrec : SimL s (fun _ _ _ _ _ => .error 50) (fun _ _ r => ((.nil, 0), r.bad 50)) := fun _ _ => by
    have h1 := simI_bad (Il.nil, (0 : Int)) 50 (by decide)
    exact h1
  have hf : ∀ op : Int, op = 65 ∨ op = 66 ∨ op = 35 → ∀ rec r, rOperands s rec op 0 r = rOperands s (fun _ _ r => ((.nil, 0), r.bad 50)) op 0 r := fun op ho rec r => by
    unfold rOperands
    have e2 : ¬ (formV op = 2 ∨ formV op = 3) := by rcases ho with rfl | rfl | rfl <;> decide
    rw [if_neg e2, if_neg e2]
  -- it counts none
  have hS : ∀ op : Int, op = 65 ∨ op = 66 ∨ op = 35 → Sim (fun e a => (gParts s e (fun _ _ _ _ => .error 50) op 0 0 a).bind fun q => .ok (q.1.1, q.2)) (rOperands s (fun _ _ r => ((.nil, 0), r)) op 0) := fun op ho => by
    rcases ho with rfl | rfl | rfl
    · refine sim_of (sim_then (gk := fun v _ a => .ok ((⟨65, 0, 0, v, [], .nil, .nil⟩ : One), a)) (sim_s32 s) fun v => sim_pure (⟨65, 0, 0, v, [], .nil, .nil⟩ : One)) (fun e a => ?_) (fun r _ => .inl ?_) (fun r hr => ?_)
      · show ((gS32 s e a).bind _).bind _ = _
        rw [except_assoc]
        rfl
      · rfl
      · exact (sim_s32 s r).1 hr
    · refine sim_of (sim_then (gk := fun v _ a => .ok ((⟨66, 0, 0, v, [], .nil, .nil⟩ : One), a)) (sim_s64 s) fun v => sim_pure (⟨66, 0, 0, v, [], .nil, .nil⟩ : One)) (fun e a => ?_) (fun r _ => .inl ?_) (fun r hr => ?_)
      · show ((gS64 s e a).bind _).bind _ = _
        rw [except_assoc]
        rfl
      · rfl
      · exact (sim_s64 s r).1 hr
    · refine sim_of (sim_then (gk := fun v _ a => .ok ((⟨35, v, 0, 0, [], .nil, .nil⟩ : One), a)) (sim_u s) fun v => sim_pure (⟨35, v, 0, 0, [], .nil, .nil⟩ : One)) (fun e a => ?_) (fun r _ => .inl ?_) (fun r hr => ?_)
      · show ((gU s e a).bind _).bind _ = _
        rw [except_assoc]
        rfl
      · rfl
      · exact (sim_u s r).1 hr
  refine sim_of (g := fun e a => (gByte s e a).bind fun b => (fun b e a => if formV b = 10 then .error 51 else if b = 65 ∨ b = 66 ∨ b = 35 then ((gParts s e (fun _ _ _ _ => .error 50) b 0 0 a).bind fun q => .ok (q.1.1, q.2)).bind fun o => (gIs s e o.2 11).bind fun z => .ok (o.1, z.2) else .error 50) b.1 e b.2)
    (f := rThen (rByte s) fun b r => if formV b = 10 then (one0 b, r.bad 51) else if b = 65 ∨ b = 66 ∨ b = 35 then rThen (rOperands s (fun _ _ r => ((.nil, 0), r)) b 0) (fun o => rThen (fun r => ((), rMust s 11 r)) fun _ r => (o, r)) r else (one0 b, r.bad 50)) ?_ (fun e a => ?_) (fun r hr => ?_) (fun r hr => ?_)
  · exact sim_then (sim_byte s) fun b => sim_if (fun _ => sim_bad (one0 b) 51 (by decide)) fun _ => sim_if (fun ho => sim_then (gk := fun o e a => (gIs s e a 11).bind fun z => .ok (o, z.2)) (hS b ho) fun o => sim_then (sim_is s 11) fun _ => sim_pure o) fun _ => sim_bad (one0 b) 50 (by decide)
  · unfold gConst
    congr 1
    funext b
    show _ = (if formV b.1 = 10 then _ else if b.1 = 65 ∨ b.1 = 66 ∨ b.1 = 35 then _ else _)
    simp only [except_assoc]
    rfl
  · have hm : ∀ r : RS, r.w ≠ 0 → (rMust s 11 r).w = r.w := fun r h => (sim_is s 11 r).1 h
    unfold rThen rConst
    dsimp only
    by_cases hw : (rByte s r).2.w = 0
    · have hw' : ¬ (rByte s r).2.w ≠ 0 := fun h => h hw
      rw [if_neg hw']
      by_cases h10 : formV (rByte s r).1 = 10
      · rw [if_pos h10, if_pos h10]
        right
        exact ⟨bad_zero (by decide), hm _ (bad_zero (by decide))⟩
      · rw [if_neg h10, if_neg h10]
        by_cases ho : (rByte s r).1 = 65 ∨ (rByte s r).1 = 66 ∨ (rByte s r).1 = 35
        · rw [if_pos ho, if_pos ho]
          exact .inl rfl
        · rw [if_neg ho, if_neg ho]
          right
          exact ⟨bad_zero (by decide), hm _ (bad_zero (by decide))⟩
    · right
      rw [if_pos hw]
      have hb : ∀ n, (rByte s r).2.bad n = (rByte s r).2 := fun n => bad_w1 hw
      have h1 := hm _ hw
      simp only [hb]
      by_cases h10 : formV (rByte s r).1 = 10
      · rw [if_pos h10]
        exact ⟨hw, h1⟩
      · rw [if_neg h10]
        by_cases ho : (rByte s r).1 = 65 ∨ (rByte s r).1 = 66 ∨ (rByte s r).1 = 35
        · rw [if_pos ho]
          have h2 := (hS _ ho (rByte s r).2).1 hw
          simp only
          rw [hm _ (by rw [h2]; exact hw), h2]
          exact ⟨hw, h1⟩
        · rw [if_neg ho]
          exact ⟨hw, h1⟩
  · have hm : ∀ r : RS, r.w ≠ 0 → (rMust s 11 r).w = r.w := fun r h => (sim_is s 11 r).1 h
    have hb := (sim_byte s r).1 hr
    have hb0 : (rByte s r).2.w ≠ 0 := by rw [hb]; exact hr
    unfold rConst
    simp only [if_pos hb0]
    rw [hm _ hb0, hb]
end Go.Proofs.YtkbfjkbokifgkaaGreatDoor
