/- The document's reader, plainly: it goes on behind what is wrong, and keeps the first. -/
import Derived.Test.YtkbfjkbokifgkaaDoorDp
namespace Go.Proofs.YtkbfjkbokifgkaaDoor
open Go.RowKit
set_option linter.unusedVariables false

/-- The reader: its place, its end, how many instructions there were, the first error. -/
structure RS where
  a : Nat
  e : Nat
  i : Nat
  w : Int
abbrev Rg (α : Type) := α × RS
def RS.bad (r : RS) (n : Int) : RS := if r.w = 0 then { r with w := n } else r
def rByte (s : List UInt8) (r : RS) : Rg Int := if r.w ≠ 0 then (0, r) else if r.e ≤ r.a then (0, r.bad 50) else (((s[r.a]?.getD 0).toNat : Int), { r with a := r.a + 1 })
def rMust (s : List UInt8) (b : Int) (r : RS) : RS := if (rByte s r).1 = b then (rByte s r).2 else (rByte s r).2.bad 50
/-- A number, as g reads it. -/
def rNum (g : Nat → Nat → Got Int) (r : RS) : Rg Int := if r.w ≠ 0 then (0, r) else match g r.e r.a with
  | .ok q => (q.1, { r with a := q.2 })
  | .error _ => (0, r.bad 50)
def rU (s : List UInt8) : RS → Rg Int := rNum (gU s)
def rCount (s : List UInt8) (r : RS) : Rg Int := if 4096 < (rU s r).1 then (0, (rU s r).2.bad 3) else rU s r
def rText (s : List UInt8) (r : RS) : Rg (List UInt8) :=
  if (rU s r).2.w ≠ 0 then ([], (rU s r).2) else if ((rU s r).2.e : Int) - (rU s r).2.a < (rU s r).1 then ([], (rU s r).2.bad 50)
  else (win s (rU s r).2.a ((rU s r).2.a + (rU s r).1.toNat), { (rU s r).2 with a := (rU s r).2.a + (rU s r).1.toNat })
def rName (s : List UInt8) (r : RS) : Rg (List UInt8) := if nameB (mkb (rText s r).1) = true then rText s r else ((rText s r).1, (rText s r).2.bad 50)
def rTyp (s : List UInt8) (r : RS) : Rg Int :=
  if (rByte s r).2.w ≠ 0 then rByte s r else if (rByte s r).1 = 125 ∨ (rByte s r).1 = 124 then ((rByte s r).1, (rByte s r).2.bad 51)
  else if (rByte s r).1 ≠ 127 ∧ (rByte s r).1 ≠ 126 then ((rByte s r).1, (rByte s r).2.bad 50) else rByte s r
def rMany {α : Type} (f : RS → Rg α) : Nat → RS → Rg (List α)
  | 0, r => ([], r)
  | k + 1, r => if r.w ≠ 0 then ([], r) else ((f r).1 :: (rMany f k (f r).2).1, (rMany f k (f r).2).2)
def rEach {α : Type} (s : List UInt8) (f : RS → Rg α) (r : RS) : Rg (List α) := rMany f (rCount s r).1.toNat (rCount s r).2
def rResult (s : List UInt8) (r : RS) : Rg Int := if r.w = 0 ∧ r.a < r.e ∧ (s[r.a]?.getD 0) = 64 then (0, { r with a := r.a + 1 }) else rTyp s r
def one0 (op : Int) : One := ⟨op, 0, 0, 0, [], .nil, .nil⟩
/-- What stands behind an instruction's byte; rec reads a list. -/
def rOperands (s : List UInt8) (rec : Nat → Bool → RS → Rg (Il × Int)) (op : Int) (deep : Nat) (r : RS) : Rg One :=
  if formV op = 2 ∨ formV op = 3 then
    if (rec (deep + 1) (op == 4) (rResult s r).2).1.2 = 5 then
      (⟨op, (rResult s r).1, 0, 0, [], (rec (deep + 1) (op == 4) (rResult s r).2).1.1, (rec (deep + 1) false (rec (deep + 1) (op == 4) (rResult s r).2).2).1.1⟩, (rec (deep + 1) false (rec (deep + 1) (op == 4) (rResult s r).2).2).2)
    else (⟨op, (rResult s r).1, 0, 0, [], (rec (deep + 1) (op == 4) (rResult s r).2).1.1, .nil⟩, (rec (deep + 1) (op == 4) (rResult s r).2).2)
  else if formV op = 4 ∨ formV op = 6 then (⟨op, (rU s r).1, 0, 0, [], .nil, .nil⟩, (rU s r).2)
  else if formV op = 5 then (⟨op, (rU s (rEach s (rU s) r).2).1, 0, 0, (rEach s (rU s) r).1, .nil, .nil⟩, (rU s (rEach s (rU s) r).2).2)
  else if formV op = 7 then (⟨op, (rU s r).1, 0, 0, [], .nil, .nil⟩, rMust s 0 (rU s r).2)
  else if formV op = 8 then (⟨op, (rU s r).1, (rU s (rU s r).2).1, 0, [], .nil, .nil⟩, (rU s (rU s r).2).2)
  else if formV op = 9 then (if op = 65 then (⟨op, 0, 0, (rNum (gS32 s) r).1, [], .nil, .nil⟩, (rNum (gS32 s) r).2) else (⟨op, 0, 0, (rNum (gS64 s) r).1, [], .nil, .nil⟩, (rNum (gS64 s) r).2))
  else if op = 63 ∨ op = 64 then (one0 op, rMust s 0 r) else (one0 op, r)
/-- What an instruction's byte makes wrong. -/
def rWhat (op : Int) (deep : Nat) (r : RS) : RS := if formV op = 0 then r.bad 50 else if formV op = 10 then r.bad 51 else if r.i = 65536 then r.bad 3 else if 64 < deep then r.bad 4 else r
def rOne (s : List UInt8) (rec : Nat → Bool → RS → Rg (Il × Int)) (op : Int) (deep : Nat) (r : RS) : Rg One :=
  if (rWhat op deep r).w = 0 then rOperands s rec op deep { rWhat op deep r with i := (rWhat op deep r).i + 1 } else (one0 op, { rWhat op deep r with i := (rWhat op deep r).i + 1 })
def Il.consOne (o : One) (l : Il) : Il := .cons o.op o.x o.y o.n o.ls o.body o.els l
def rExprs (s : List UInt8) : Nat → Nat → Bool → RS → Rg (Il × Int)
  | 0, _, _, r => ((.nil, 0), r.bad 50)
  | k + 1, deep, other, r =>
    if r.w ≠ 0 then ((.nil, 0), r)
    else if (rByte s r).2.w ≠ 0 ∨ (rByte s r).1 = 11 ∨ (other = true ∧ (rByte s r).1 = 5) then ((.nil, (rByte s r).1), (rByte s r).2)
    else ((Il.consOne (rOne s (rExprs s k) (rByte s r).1 deep (rByte s r).2).1 (rExprs s k deep other (rOne s (rExprs s k) (rByte s r).1 deep (rByte s r).2).2).1.1,
      (rExprs s k deep other (rOne s (rExprs s k) (rByte s r).1 deep (rByte s r).2).2).1.2), (rExprs s k deep other (rOne s (rExprs s k) (rByte s r).1 deep (rByte s r).2).2).2)
def rLimits (s : List UInt8) (r : RS) : Rg (Int × Int × Bool) :=
  let b := rByte s r
  let r1 := if 1 < b.1 then b.2.bad 50 else b.2
  let n := rU s r1
  if b.1 = 1 then ((n.1, (rU s n.2).1, true), (rU s n.2).2) else ((n.1, 0, false), n.2)
def rConst (s : List UInt8) (r : RS) : Rg One :=
  let b := rByte s r
  let q : Rg One := if b.2.w ≠ 0 then (one0 b.1, b.2) else if formV b.1 = 10 then (one0 b.1, b.2.bad 51) else if b.1 = 65 ∨ b.1 = 66 ∨ b.1 = 35 then rOperands s (fun _ _ r => ((.nil, 0), r)) b.1 0 b.2 else (one0 b.1, b.2.bad 50)
  (q.1, rMust s 11 q.2)

/-- Does the one read as the other, where nothing was wrong; and is what was wrong kept? -/
def Sim {α : Type} (g : Nat → Nat → Got α) (f : RS → Rg α) : Prop :=
  ∀ r : RS, (r.w ≠ 0 → (f r).2.w = r.w) ∧ (r.w = 0 → (∀ v a, g r.e r.a = .ok (v, a) → f r = (v, { r with a := a })) ∧ (∀ n, g r.e r.a = .error n → n ≠ 0 ∧ (f r).2.w = n))
theorem bad_w0 {r : RS} {n : Int} (h : r.w = 0) : (r.bad n).w = n := by
  unfold RS.bad
  rw [if_pos h]
theorem bad_w1 {r : RS} {n : Int} (h : r.w ≠ 0) : r.bad n = r := by
  unfold RS.bad
  rw [if_neg h]
theorem sim_byte (s : List UInt8) : Sim (gByte s) (rByte s) := by
  intro r
  refine ⟨fun h => ?_, fun h => ⟨fun v a hg => ?_, fun n hg => ?_⟩⟩
  · unfold rByte
    rw [if_pos h]
  · unfold gByte at hg
    unfold rByte
    split at hg
    · cases hg
      rw [if_neg (by simp [h]), if_neg (by omega)]
    · cases hg
  · unfold gByte at hg
    unfold rByte
    split at hg
    · cases hg
    · cases hg
      rw [if_neg (by simp [h]), if_pos (by omega)]
      exact ⟨by decide, bad_w0 h⟩
theorem sim_num (g : Nat → Nat → Got Int) (hg5 : ∀ e a n, g e a = .error n → n = 50) : Sim g (rNum g) := by
  intro r
  refine ⟨fun h => ?_, fun h => ⟨fun v a hg => ?_, fun n hg => ?_⟩⟩
  · unfold rNum
    rw [if_pos h]
  · unfold rNum
    rw [if_neg (by simp [h]), hg]
  · have hn := hg5 _ _ _ hg
    subst hn
    unfold rNum
    rw [if_neg (by simp [h]), hg]
    exact ⟨by decide, bad_w0 h⟩
theorem gU_err (s : List UInt8) : ∀ e a n, gU s e a = .error n → n = 50 := by
  intro e a n h
  unfold gU at h
  split at h
  · split at h
    · cases h
    · cases h; rfl
  · cases h; rfl
theorem gS32_err (s : List UInt8) : ∀ e a n, gS32 s e a = .error n → n = 50 := by
  intro e a n h
  unfold gS32 at h
  split at h
  · split at h
    · cases h
    · cases h; rfl
  · cases h; rfl
theorem gS64_err (s : List UInt8) : ∀ e a n, gS64 s e a = .error n → n = 50 := by
  intro e a n h
  unfold gS64 at h
  split at h
  · split at h
    · cases h
    · cases h; rfl
  · cases h; rfl
theorem sim_u (s : List UInt8) : Sim (gU s) (rU s) := sim_num _ (gU_err s)
theorem sim_s32 (s : List UInt8) : Sim (gS32 s) (rNum (gS32 s)) := sim_num _ (gS32_err s)
theorem sim_s64 (s : List UInt8) : Sim (gS64 s) (rNum (gS64 s)) := sim_num _ (gS64_err s)
/-- One reading behind another one. -/
def rThen {α β : Type} (f : RS → Rg α) (k : α → RS → Rg β) (r : RS) : Rg β := k (f r).1 (f r).2
theorem sim_then {α β : Type} {g : Nat → Nat → Got α} {f : RS → Rg α} {gk : α → Nat → Nat → Got β} {k : α → RS → Rg β} (h : Sim g f) (hk : ∀ v, Sim (gk v) (k v)) :
    Sim (fun e a => (g e a).bind fun q => gk q.1 e q.2) (rThen f k) := by
  intro r
  refine ⟨fun hw => ?_, fun hw => ?_⟩
  · have h1 := (h r).1 hw
    have h2 := (hk (f r).1 (f r).2).1 (by rw [h1]; exact hw)
    show (k (f r).1 (f r).2).2.w = _
    rw [h2, h1]
  · have h0 := (h r).2 hw
    dsimp only
    cases hg : g r.e r.a with
    | error n =>
      obtain ⟨hn, h1⟩ := h0.2 n hg
      refine ⟨fun v a he => (by cases he), fun m he => ?_⟩
      cases he
      refine ⟨hn, ?_⟩
      have h2 := (hk (f r).1 (f r).2).1 (by rw [h1]; exact hn)
      show (k (f r).1 (f r).2).2.w = _
      rw [h2, h1]
    | ok q =>
      have h1 := h0.1 q.1 q.2 hg
      have h2 := (hk q.1 { r with a := q.2 }).2 hw
      have e : rThen f k r = k q.1 { r with a := q.2 } := by
        unfold rThen
        rw [h1]
      rw [e]
      exact h2
theorem sim_pure {α : Type} (v : α) : Sim (fun _ a => .ok (v, a)) (fun r => (v, r)) := by
  intro r
  refine ⟨fun _ => rfl, fun _ => ⟨fun v' a h => (by cases h; rfl), fun n h => (by cases h)⟩⟩
/-- What is wrong now. -/
theorem sim_bad {α : Type} (v : α) (n : Int) (hn : n ≠ 0) : Sim (fun _ _ => .error n) (fun r => (v, r.bad n)) := by
  intro r
  refine ⟨fun h => by show (r.bad n).w = _; rw [bad_w1 h], fun h => ⟨fun v' a he => (by cases he), fun m he => (by cases he; exact ⟨hn, bad_w0 h⟩)⟩⟩
/-- Equal on the reader that is not wrong; wrong ones stay. -/
theorem sim_of {α : Type} {g g' : Nat → Nat → Got α} {f f' : RS → Rg α} (h : Sim g f) (hg : ∀ e a, g' e a = g e a) (hf : ∀ r, r.w = 0 → (f' r = f r ∨ ((f r).2.w ≠ 0 ∧ (f' r).2.w = (f r).2.w))) (hw : ∀ r, r.w ≠ 0 → (f' r).2.w = r.w) : Sim g' f' := by
  intro r
  refine ⟨hw r, fun h0 => ?_⟩
  have h1 := (h r).2 h0
  rw [hg]
  rcases hf r h0 with e | ⟨e1, e2⟩
  · rw [e]
    exact h1
  · refine ⟨fun v a he => ?_, fun n he => ?_⟩
    · rw [h1.1 v a he] at e1
      exact absurd h0 e1
    · rw [e2]
      exact h1.2 n he
theorem bad_zero {r : RS} {n : Int} (hn : n ≠ 0) : (r.bad n).w ≠ 0 := by
  unfold RS.bad
  split
  · exact hn
  · assumption
theorem sim_is (s : List UInt8) (b : Int) : Sim (fun e a => gIs s e a b) (fun r => ((), rMust s b r)) := by
  refine sim_of (sim_then (gk := fun v _ a => if v = b then .ok ((), a) else .error 50) (k := fun v r => if v = b then ((), r) else ((), r.bad 50)) (sim_byte s) (fun v => ?_)) (fun e a => rfl) (fun r _ => .inl ?_) (fun r h => ?_)
  · by_cases hv : v = b
    · simp only [if_pos hv]
      exact sim_pure ()
    · simp only [if_neg hv]
      exact sim_bad () 50 (by decide)
  · unfold rThen rMust
    dsimp only
    split <;> rfl
  · show (rMust s b r).w = _
    unfold rMust
    have := (sim_byte s r).1 h
    split
    · exact this
    · rw [bad_w1 (by rw [this]; exact h), this]
theorem sim_if {α : Type} {c : Prop} [Decidable c] {g g' : Nat → Nat → Got α} {f f' : RS → Rg α} (h : c → Sim g f) (h' : ¬ c → Sim g' f') : Sim (fun e a => if c then g e a else g' e a) (fun r => if c then f r else f' r) := by
  by_cases hc : c
  · simp only [if_pos hc]
    exact h hc
  · simp only [if_neg hc]
    exact h' hc
/-- The count, and what is made of it, where it is no more than may be. -/
theorem sim_count (s : List UInt8) : Sim (gCount s) (rCount s) := by
  refine sim_of (sim_then (gk := fun v _ a => if v ≤ 4096 then .ok (v, a) else .error 3) (k := fun v r => if v ≤ 4096 then (v, r) else (0, r.bad 3)) (sim_u s) (fun v => sim_if (fun _ => sim_pure v) (fun _ => sim_bad 0 3 (by decide)))) (fun e a => rfl) (fun r _ => .inl ?_) (fun r h => ?_)
  · unfold rThen rCount
    dsimp only
    by_cases h : (rU s r).1 ≤ 4096
    · rw [if_pos h, if_neg (by omega)]
    · rw [if_neg h, if_pos (by omega)]
  · unfold rCount
    have := (sim_u s r).1 h
    split
    · show ((rU s r).2.bad 3).w = _
      rw [bad_w1 (by rw [this]; exact h), this]
    · exact this
theorem rU_zero (s : List UInt8) (r : RS) (h : r.w ≠ 0) : rU s r = (0, r) := by
  unfold rU rNum
  rw [if_pos h]
theorem sim_text (s : List UInt8) : Sim (gText s) (rText s) := by
  intro r
  have hu := sim_u s r
  refine ⟨fun h => ?_, fun h => ?_⟩
  · unfold rText
    rw [rU_zero s r h, if_pos h]
  · cases hg : gU s r.e r.a with
    | error n =>
      have h1 := (hu.2 h).2 n hg
      refine ⟨fun v a he => ?_, fun m he => ?_⟩
      · unfold gText at he
        rw [hg] at he
        cases he
      · unfold gText at he
        rw [hg] at he
        cases he
        refine ⟨h1.1, ?_⟩
        unfold rText
        rw [if_pos (by rw [h1.2]; exact h1.1)]
        exact h1.2
    | ok q =>
      have h1 := (hu.2 h).1 q.1 q.2 hg
      have e : gText s r.e r.a = if q.1 ≤ (r.e : Int) - q.2 then .ok (win s q.2 (q.2 + q.1.toNat), q.2 + q.1.toNat) else .error 50 := by
        unfold gText
        rw [hg]
        rfl
      have e' : rText s r = if (r.e : Int) - q.2 < q.1 then ([], ({ r with a := q.2 } : RS).bad 50) else (win s q.2 (q.2 + q.1.toNat), { r with a := q.2 + q.1.toNat }) := by
        unfold rText
        rw [h1]
        simp only
        rw [if_neg (by simp [h])]
      rw [e, e']
      by_cases hc : q.1 ≤ (r.e : Int) - q.2
      · rw [if_pos hc, if_neg (by omega)]
        exact ⟨fun v a he => (by cases he; rfl), fun n he => (by cases he)⟩
      · rw [if_neg hc, if_pos (by omega)]
        exact ⟨fun v a he => (by cases he), fun n he => (by cases he; exact ⟨by decide, bad_w0 h⟩)⟩
theorem sim_name (s : List UInt8) : Sim (gName s) (rName s) := by
  refine sim_of (sim_then (gk := fun v _ a => if nameB (mkb v) = true then .ok (v, a) else .error 50) (k := fun v r => if nameB (mkb v) = true then (v, r) else (v, r.bad 50)) (sim_text s) (fun v => sim_if (fun _ => sim_pure v) (fun _ => sim_bad v 50 (by decide)))) (fun e a => ?_) (fun r _ => .inl ?_) (fun r h => ?_)
  · rfl
  · unfold rThen rName
    rfl
  · unfold rName
    have := (sim_text s r).1 h
    split
    · exact this
    · show ((rText s r).2.bad 50).w = _
      rw [bad_w1 (by rw [this]; exact h), this]
theorem sim_typ (s : List UInt8) : Sim (gTyp s) (rTyp s) := by
  refine sim_of (sim_then (gk := fun v _ a => if v = 125 ∨ v = 124 then .error 51 else if v = 127 ∨ v = 126 then .ok (v, a) else .error 50) (k := fun v r => if v = 125 ∨ v = 124 then (v, r.bad 51) else if v = 127 ∨ v = 126 then (v, r) else (v, r.bad 50)) (sim_byte s)
    (fun v => sim_if (fun _ => sim_bad v 51 (by decide)) (fun _ => sim_if (fun _ => sim_pure v) (fun _ => sim_bad v 50 (by decide))))) (fun e a => rfl) (fun r hr => ?_) (fun r h => ?_)
  · unfold rThen rTyp
    dsimp only
    by_cases hw : (rByte s r).2.w = 0
    · left
      rw [if_neg (by simp [hw])]
      by_cases h1 : (rByte s r).1 = 125 ∨ (rByte s r).1 = 124
      · rw [if_pos h1, if_pos h1]
      · rw [if_neg h1, if_neg h1]
        by_cases h2 : (rByte s r).1 = 127 ∨ (rByte s r).1 = 126
        · rw [if_pos h2, if_neg (by omega)]
        · rw [if_neg h2, if_pos (by omega)]
    · right
      rw [if_pos hw]
      have : ∀ n, (rByte s r).2.bad n = (rByte s r).2 := fun n => bad_w1 hw
      simp only [this]
      refine ⟨?_, ?_⟩
      · split
        · exact hw
        · split <;> exact hw
      · split
        · rfl
        · split <;> rfl
  · unfold rTyp
    have := (sim_byte s r).1 h
    rw [if_pos (by rw [this]; exact h)]
    exact this
theorem sim_many {α : Type} {g : Nat → Nat → Got α} {f : RS → Rg α} (h : Sim g f) : ∀ k, Sim (fun e a => gMany (g e) k a) (rMany f k)
  | 0 => sim_pure []
  | k + 1 => by
    refine sim_of (sim_then (gk := fun v e a => (gMany (g e) k a).bind fun r => .ok (v :: r.1, r.2)) (k := fun v => rThen (rMany f k) fun l r => (v :: l, r)) h (fun v => sim_then (gk := fun l _ a => .ok (v :: l, a)) (sim_many h k) fun l => sim_pure _)) (fun e a => rfl) (fun r hr => .inl ?_) (fun r hr => ?_)
    · unfold rThen
      rw [rMany, if_neg (by simp [hr])]
    · rw [rMany, if_pos hr]
theorem sim_each {α : Type} (s : List UInt8) {g : Nat → Nat → Got α} {f : RS → Rg α} (h : Sim g f) : Sim (fun e a => gEach s e a (g e)) (rEach s f) :=
  by
  have h1 := sim_then (gk := fun (v : Int) e a => gMany (g e) v.toNat a) (k := fun (v : Int) => rMany f v.toNat) (sim_count s) (fun v => sim_many h v.toNat)
  exact h1
theorem sim_result (s : List UInt8) : Sim (gResult s) (rResult s) := by
  intro r
  refine ⟨fun h => ?_, fun h => ?_⟩
  · unfold rResult
    rw [if_neg (fun hh => h hh.1)]
    exact (sim_typ s r).1 h
  · unfold gResult rResult
    by_cases hc : r.a < r.e ∧ (s[r.a]?.getD 0) = 64
    · rw [if_pos hc, if_pos ⟨h, hc⟩]
      exact ⟨fun v a he => (by cases he; rfl), fun n he => (by cases he)⟩
    · rw [if_neg hc, if_neg (fun hh => hc hh.2)]
      exact (sim_typ s r).2 h
end Go.Proofs.YtkbfjkbokifgkaaDoor
