/- The reference's reader, plainly: any section reads as the program's. -/
import Derived.Test.YtkbfjkbokifgkaaGreatDoorTp
namespace Go.Proofs.YtkbfjkbokifgkaaGreatDoor
open Go.RowKit
set_option linter.unusedVariables false

/-- The section of the codes. -/
def rCodeSec (s : List UInt8) (m : Md) (r : RS) : Rg Md :=
  ({ m with funcs := (rCodes s (m.funcs.map (·.1)) (if (rCount s r).1 = (m.funcs.length : Int) then (rCount s r).2 else (rCount s r).2.bad 50)).1 },
    (rCodes s (m.funcs.map (·.1)) (if (rCount s r).1 = (m.funcs.length : Int) then (rCount s r).2 else (rCount s r).2.bad 50)).2)
def rSection (s : List UInt8) (id : Nat) (m : Md) (r : RS) : Rg Md := if id = 10 then rCodeSec s m r else rSec s id m r
theorem sim_codeSec (s : List UInt8) (m : Md) (r : RS) : (r.w ≠ 0 → (rCodeSec s m r).2.w = r.w) ∧ (r.w = 0 → r.i = 0 →
    (∀ v a, gSection s 10 m r.e r.a = .ok (v, a) → ∃ i, i ≤ 65536 ∧ rCodeSec s m r = (v, { r with a := a, i := i })) ∧ (∀ n, gSection s 10 m r.e r.a = .error n → n ≠ 0 ∧ (rCodeSec s m r).2.w = n)) := by
  have hc := sim_count s r
  have kw : ∀ (r1 : RS), r1.w ≠ 0 → (rCount s r).2 = r1 → (rCodeSec s m r).2.w = r1.w := by
    intro r1 h1 h2
    show (rCodes s (m.funcs.map (·.1)) (if (rCount s r).1 = (m.funcs.length : Int) then (rCount s r).2 else (rCount s r).2.bad 50)).2.w = _
    rw [h2, bad_w1 h1]
    simp only [ite_self]
    exact codes_w s _ r1 h1
  refine ⟨fun hw => ?_, fun hw hi => ?_⟩
  · have h1 := hc.1 hw
    rw [kw _ (by rw [h1]; exact hw) rfl, h1]
  · have h0 := hc.2 hw
    unfold gSection
    cases hg : gCount s r.e r.a with
    | error n =>
      obtain ⟨hn, h1⟩ := h0.2 n hg
      refine ⟨fun v a he => (by cases he), fun k he => ?_⟩
      cases he
      exact ⟨hn, by rw [kw _ (by rw [h1]; exact hn) rfl, h1]⟩
    | ok q =>
      obtain ⟨n, b⟩ := q
      have h1 := h0.1 n b hg
      unfold rCodeSec
      rw [h1]
      dsimp only
      show (∀ v a, (if n = (m.funcs.length : Int) then (gCodes s r.e (m.funcs.map (·.1)) 65536 b).bind fun l => Except.ok ({ m with funcs := l.1 }, l.2) else .error 50) = .ok (v, a) → _) ∧ (∀ k, (if n = (m.funcs.length : Int) then (gCodes s r.e (m.funcs.map (·.1)) 65536 b).bind fun l => Except.ok ({ m with funcs := l.1 }, l.2) else .error 50) = .error k → _)
      by_cases hn : n = (m.funcs.length : Int)
      · simp only [if_pos hn]
        have h2 := sim_codes s (m.funcs.map (·.1)) { r with a := b } hw (by show r.i ≤ 65536; omega)
        dsimp only at h2
        rw [hi, show 65536 - 0 = 65536 from rfl] at h2
        cases hk : gCodes s r.e (m.funcs.map (·.1)) 65536 b with
        | error k =>
          obtain ⟨hm, h3⟩ := h2.2 k hk
          refine ⟨fun v a he => (by cases he), fun k' he => ?_⟩
          cases he
          rw [show ({ r with a := b } : RS) = { a := b, e := r.e, i := 0, w := r.w } by rw [← hi]]
          exact ⟨hm, h3⟩
        | ok z =>
          obtain ⟨zs, d⟩ := z
          obtain ⟨i, h3, h4⟩ := h2.1 zs d hk
          refine ⟨fun v a he => ?_, fun k' he => (by cases he)⟩
          cases he
          refine ⟨i, h3, ?_⟩
          rw [show ({ r with a := b } : RS) = { a := b, e := r.e, i := 0, w := r.w } by rw [← hi]]
          rw [h4]
      · simp only [if_neg hn]
        refine ⟨fun v a he => (by cases he), fun k he => ?_⟩
        cases he
        have h50 : (({ r with a := b } : RS).bad 50).w = 50 := bad_w0 hw
        exact ⟨by decide, by rw [codes_w s _ _ (by rw [h50]; decide), h50]⟩
/-- Any section. -/
theorem sim_section (s : List UInt8) (id : Nat) (m : Md) (hid : id ≤ 11) (r : RS) : (r.w ≠ 0 → (rSection s id m r).2.w = r.w) ∧ (r.w = 0 → (id = 10 → r.i = 0) → r.i ≤ 65536 →
    (∀ v a, gSection s id m r.e r.a = .ok (v, a) → ∃ i, i ≤ 65536 ∧ (id ≠ 10 → i = r.i) ∧ rSection s id m r = (v, { r with a := a, i := i })) ∧ (∀ n, gSection s id m r.e r.a = .error n → n ≠ 0 ∧ (rSection s id m r).2.w = n)) := by
  unfold rSection
  by_cases h10 : id = 10
  · subst h10
    rw [if_pos rfl]
    obtain ⟨h1, h2⟩ := sim_codeSec s m r
    refine ⟨h1, fun hw hi _ => ⟨fun v a he => ?_, (h2 hw (hi rfl)).2⟩⟩
    obtain ⟨i, h3, h4⟩ := (h2 hw (hi rfl)).1 v a he
    exact ⟨i, h3, fun h => absurd rfl h, h4⟩
  · rw [if_neg h10]
    obtain ⟨h1, h2⟩ := sim_sec s m id hid h10 r
    refine ⟨h1, fun hw _ hi => ⟨fun v a he => ?_, (h2 hw).2⟩⟩
    exact ⟨r.i, hi, fun _ => rfl, (h2 hw).1 v a he⟩
end Go.Proofs.YtkbfjkbokifgkaaGreatDoor

namespace Go.Proofs.YtkbfjkbokifgkaaGreatDoor
open Go.RowKit
set_option linter.unusedVariables false

/-- A section, unless something is wrong. -/
def rSectIf (s : List UInt8) (id : Nat) (m : Md) (r : RS) : Rg Md := if r.w = 0 then rSection s id m r else (m, r)
theorem long_w {α : Type} (s : List UInt8) {f : RS → Rg α} (hf : ∀ r : RS, r.w ≠ 0 → (f r).2.w = r.w) (r r1 : RS) (h1 : r1.w ≠ 0) (h2 : (rU s r).2 = r1) : (rLong s f r).2.w = r1.w := by
  have e1 : (rEnter s r).2 = r1 := by
    unfold rEnter
    dsimp only
    rw [h2, if_neg h1]
  have h3 := hf r1 h1
  show (rLeave _ _ (f (rEnter s r).2).2).w = _
  rw [e1, leave_w (by rw [h3]; exact h1), h3]
theorem long_section (s : List UInt8) (id : Nat) (m : Md) (hid : id ≤ 11) (r : RS) : (r.w ≠ 0 → (rLong s (rSectIf s id m) r).2.w = r.w) ∧ (r.w = 0 → (id = 10 → r.i = 0) → r.i ≤ 65536 →
    (∀ v a, gLong s r.e r.a (gSection s id m) = .ok (v, a) → ∃ i, i ≤ 65536 ∧ (id ≠ 10 → i = r.i) ∧ rLong s (rSectIf s id m) r = (v, { r with a := a, i := i })) ∧ (∀ n, gLong s r.e r.a (gSection s id m) = .error n → n ≠ 0 ∧ (rLong s (rSectIf s id m) r).2.w = n)) := by
  have hf : ∀ r : RS, r.w ≠ 0 → (rSectIf s id m r).2.w = r.w := by
    intro r h
    unfold rSectIf
    rw [if_neg h]
  have hu := sim_u s r
  refine ⟨fun hw => ?_, fun hw hi0 hi => ?_⟩
  · have h1 := hu.1 hw
    rw [long_w s hf r _ (by rw [h1]; exact hw) rfl, h1]
  · have h0 := hu.2 hw
    unfold gLong
    cases hg : gU s r.e r.a with
    | error n =>
      obtain ⟨hn, h1⟩ := h0.2 n hg
      refine ⟨fun v a he => (by cases he), fun k he => ?_⟩
      cases he
      exact ⟨hn, by rw [long_w s hf r _ (by rw [h1]; exact hn) rfl, h1]⟩
    | ok q =>
      obtain ⟨n, b⟩ := q
      have h1 := h0.1 n b hg
      have e1 : rEnter s r = ((b + n.toNat, r.e), { r with a := b, e := min r.e (b + n.toNat) }) := by
        unfold rEnter
        dsimp only
        rw [h1]
        dsimp only
        rw [if_pos hw]
      have h2 := (sim_section s id m hid { r with a := b, e := min r.e (b + n.toNat) }).2 hw hi0 hi
      dsimp only at h2
      have e2 : rLong s (rSectIf s id m) r = ((rSection s id m { r with a := b, e := min r.e (b + n.toNat) }).1, rLeave (b + n.toNat) r.e (rSection s id m { r with a := b, e := min r.e (b + n.toNat) }).2) := by
        unfold rLong
        rw [e1]
        unfold rSectIf
        rw [if_pos hw]
      show (∀ v a, ((gSection s id m (min (b + n.toNat) r.e) b).bind fun z => if z.2 = b + n.toNat then .ok z else .error 50) = .ok (v, a) → _) ∧ (∀ k, ((gSection s id m (min (b + n.toNat) r.e) b).bind fun z => if z.2 = b + n.toNat then .ok z else .error 50) = .error k → _)
      rw [Nat.min_comm, e2]
      cases hk : gSection s id m (min r.e (b + n.toNat)) b with
      | error k =>
        obtain ⟨hm, h3⟩ := h2.2 k hk
        refine ⟨fun v a he => (by cases he), fun k' he => ?_⟩
        cases he
        exact ⟨hm, by show (rLeave _ _ _).w = _; rw [leave_w (by rw [h3]; exact hm), h3]⟩
      | ok z =>
        obtain ⟨v, c⟩ := z
        obtain ⟨i, h4, h5, h3⟩ := h2.1 v c hk
        rw [h3]
        refine ⟨fun v' a he => ?_, fun k he => ?_⟩
        · change (if c = b + n.toNat then Except.ok (v, c) else .error 50) = _ at he
          split at he
          · rename_i hc
            cases he
            refine ⟨i, h4, h5, ?_⟩
            unfold rLeave
            rw [if_neg (fun hh => hh.2 hc)]
          · cases he
        · change (if c = b + n.toNat then Except.ok (v, c) else .error 50) = _ at he
          split at he
          · cases he
          · rename_i hc
            cases he
            refine ⟨by decide, ?_⟩
            unfold rLeave
            rw [if_pos ⟨hw, hc⟩]
            exact bad_w0 hw
end Go.Proofs.YtkbfjkbokifgkaaGreatDoor

namespace Go.Proofs.YtkbfjkbokifgkaaGreatDoor
open Go.RowKit
set_option linter.unusedVariables false

def rNum1 (last : Nat) (b : Rg Int) : RS := if 11 < b.1 ∨ (b.1 ≠ 0 ∧ b.1 ≤ (last : Int)) then b.2.bad 50 else b.2
def rSecs (s : List UInt8) : Nat → Nat → Bool → Md → RS → Rg Md
  | 0, _, _, m, r => (m, r.bad 50)
  | k + 1, last, coded, m, r => if r.w = 0 ∧ r.a < r.e then
      rSecs s k (max last (rByte s r).1.toNat) (coded || (rByte s r).1 == 10) (rLong s (rSectIf s (rByte s r).1.toNat m) (rNum1 last (rByte s r))).1 (rLong s (rSectIf s (rByte s r).1.toNat m) (rNum1 last (rByte s r))).2
    else (m, if coded = true ∨ m.funcs = [] then r else r.bad 50)
theorem secs_w (s : List UInt8) : ∀ (k last : Nat) (coded : Bool) (m : Md) (r : RS), r.w ≠ 0 → (rSecs s k last coded m r).2.w = r.w
  | 0, _, _, _, r, h => by show (r.bad 50).w = _; rw [bad_w1 h]
  | k + 1, last, coded, m, r, h => by
    rw [rSecs, if_neg (fun hh => h hh.1)]
    show (if coded = true ∨ m.funcs = [] then r else r.bad 50).w = _
    rw [bad_w1 h]
    split <;> rfl
theorem sim_secs (s : List UInt8) : ∀ (k last : Nat) (coded : Bool) (m : Md) (r : RS), r.w = 0 → r.e = s.length → (last < 10 → r.i = 0) → r.i ≤ 65536 →
    (∀ m', gSections s k last coded m r.a = .ok m' → ∃ r', rSecs s k last coded m r = (m', r') ∧ r'.w = 0) ∧ (∀ n, gSections s k last coded m r.a = .error n → n ≠ 0 ∧ (rSecs s k last coded m r).2.w = n)
  | 0, _, _, m, r, hw, _, _, _ => ⟨fun m' h => (by cases h), fun n h => (by
      cases h
      exact ⟨by decide, bad_w0 hw⟩)⟩
  | k + 1, last, coded, m, r, hw, he, hi0, hi => by
    rw [rSecs, gSections]
    by_cases ha : r.a < s.length
    · rw [if_pos ha, if_pos ⟨hw, by omega⟩]
      have hb0 : gByte s s.length r.a = .ok (((s[r.a]?.getD 0).toNat : Int), r.a + 1) := by
        unfold gByte
        rw [if_pos ha]
      have hb := ((sim_byte s r).2 hw).1 _ _ (by rw [he]; exact hb0)
      rw [hb0, hb]
      obtain ⟨b, hbb⟩ : ∃ b : Nat, b = (s[r.a]?.getD 0).toNat := ⟨_, rfl⟩
      rw [← hbb]
      dsimp only
      rw [Int.toNat_natCast]
      show (∀ m', (if (b : Int) < 12 ∧ ((b : Int) = 0 ∨ (last : Int) < (b : Int)) then (gLong s s.length (r.a + 1) (gSection s (b : Int).toNat m)).bind fun z => gSections s k (max last (b : Int).toNat) (coded || (b : Int) == 10) z.1 z.2 else .error 50) = .ok m' → _) ∧ (∀ n, (if (b : Int) < 12 ∧ ((b : Int) = 0 ∨ (last : Int) < (b : Int)) then (gLong s s.length (r.a + 1) (gSection s (b : Int).toNat m)).bind fun z => gSections s k (max last (b : Int).toNat) (coded || (b : Int) == 10) z.1 z.2 else .error 50) = .error n → _)
      rw [Int.toNat_natCast]
      by_cases hc : (b : Int) < 12 ∧ ((b : Int) = 0 ∨ (last : Int) < (b : Int))
      · have e1 : rNum1 last ((b : Int), { r with a := r.a + 1 }) = { r with a := r.a + 1 } := by
          unfold rNum1
          rw [if_neg]
          dsimp only
          omega
        simp only [if_pos hc, e1]
        have h2 := (long_section s b m (by omega) { r with a := r.a + 1 }).2 hw (fun h10 => hi0 (by omega)) hi
        dsimp only at h2
        cases hk : gLong s s.length (r.a + 1) (gSection s b m) with
        | error n =>
          obtain ⟨hn, h3⟩ := h2.2 n (by rw [he]; exact hk)
          refine ⟨fun m' h => (by cases h), fun n' h => ?_⟩
          cases h
          exact ⟨hn, by rw [secs_w s k _ _ _ _ (by rw [h3]; exact hn), h3]⟩
        | ok z =>
          obtain ⟨v, c⟩ := z
          obtain ⟨i, h4, h5, h3⟩ := h2.1 v c (by rw [he]; exact hk)
          rw [h3]
          exact sim_secs s k (max last b) (coded || (b : Int) == 10) v { r with a := c, i := i } hw he (fun hl => (h5 (by omega)).trans (hi0 (by omega))) h4
      · have e1 : rNum1 last ((b : Int), { r with a := r.a + 1 }) = ({ r with a := r.a + 1 } : RS).bad 50 := by
          unfold rNum1
          rw [if_pos]
          dsimp only
          omega
        simp only [if_neg hc, e1]
        refine ⟨fun m' h => (by cases h), fun n h => ?_⟩
        cases h
        have h50 : (({ r with a := r.a + 1 } : RS).bad 50).w = 50 := bad_w0 hw
        have hl : (rLong s (rSectIf s b m) (({ r with a := r.a + 1 } : RS).bad 50)).2.w = 50 := by
          have hz := rU_zero s (({ r with a := r.a + 1 } : RS).bad 50) (by rw [h50]; decide)
          rw [long_w s (fun r h => by unfold rSectIf; rw [if_neg h]) _ (({ r with a := r.a + 1 } : RS).bad 50) (by rw [h50]; decide) (by rw [hz]), h50]
        exact ⟨by decide, by rw [secs_w s k _ _ _ _ (by rw [hl]; decide), hl]⟩
    · have hn : ¬ (r.w = 0 ∧ r.a < r.e) := fun hh => by have := hh.2; omega
      rw [if_neg ha, if_neg hn]
      by_cases hc : coded = true ∨ m.funcs = []
      · simp only [if_pos hc]
        refine ⟨fun m' h => ?_, fun n h => (by cases h)⟩
        cases h
        exact ⟨r, rfl, hw⟩
      · simp only [if_neg hc]
        refine ⟨fun m' h => (by cases h), fun n h => ?_⟩
        cases h
        exact ⟨by decide, bad_w0 hw⟩
end Go.Proofs.YtkbfjkbokifgkaaGreatDoor

namespace Go.Proofs.YtkbfjkbokifgkaaGreatDoor
open Go.RowKit
set_option linter.unusedVariables false

/-- The bytes that a module begins with. -/
def rHead (s : List UInt8) : List UInt8 → RS → RS
  | [], r => r
  | b :: l, r => rHead s l (rMust s (b.toNat : Int) r)
def rModule (s : List UInt8) : Rg Md := rSecs s (s.length + 1) 0 false md0 (rHead s [0, 97, 115, 109, 1, 0, 0, 0] ⟨0, s.length, 0, 0⟩)
theorem head_w (s : List UInt8) : ∀ (l : List UInt8) (r : RS), r.w ≠ 0 → (rHead s l r).w = r.w
  | [], _, _ => rfl
  | b :: l, r, h => by
    have h1 : (rMust s (b.toNat : Int) r).w = r.w := (sim_is s (b.toNat : Int) r).1 h
    rw [rHead, head_w s l _ (by rw [h1]; exact h), h1]
theorem sim_head (s : List UInt8) : ∀ (l : List UInt8) (r : RS), r.w = 0 → r.e = s.length →
    (∀ a, gHead s l r.a = .ok ((), a) → rHead s l r = { r with a := a }) ∧ (∀ n, gHead s l r.a = .error n → n ≠ 0 ∧ (rHead s l r).w = n)
  | [], r, hw, he => ⟨fun a h => (by cases h; rfl), fun n h => (by cases h)⟩
  | b :: l, r, hw, he => by
    have h0 := (sim_is s (b.toNat : Int) r).2 hw
    dsimp only at h0
    rw [rHead, gHead]
    cases hg : gIs s s.length r.a (b.toNat : Int) with
    | error n =>
      obtain ⟨hn, h1⟩ := h0.2 n (by rw [he]; exact hg)
      refine ⟨fun a h => (by cases h), fun n' h => ?_⟩
      cases h
      exact ⟨hn, by rw [head_w s l _ (by rw [h1]; exact hn), h1]⟩
    | ok z =>
      obtain ⟨u, c⟩ := z
      have h1 := h0.1 u c (by rw [he]; exact hg)
      have h2 : rMust s (b.toNat : Int) r = { r with a := c } := (Prod.mk.inj h1).2
      rw [h2]
      exact sim_head s l { r with a := c } hw he
theorem sim_module (s : List UInt8) (hl : s.length ≤ 262144) : (∀ m, gModule s = .ok m → ∃ r', rModule s = (m, r') ∧ r'.w = 0) ∧ (∀ n, gModule s = .error n → n ≠ 0 ∧ (rModule s).2.w = n) := by
  have h0 := sim_head s [0, 97, 115, 109, 1, 0, 0, 0] ⟨0, s.length, 0, 0⟩ rfl rfl
  dsimp only at h0
  unfold gModule rModule
  rw [if_neg (by omega)]
  cases hg : gHead s [0, 97, 115, 109, 1, 0, 0, 0] 0 with
  | error n =>
    obtain ⟨hn, h1⟩ := h0.2 n hg
    refine ⟨fun m h => (by cases h), fun n' h => ?_⟩
    cases h
    exact ⟨hn, by rw [secs_w s _ _ _ _ _ (by rw [h1]; exact hn), h1]⟩
  | ok z =>
    obtain ⟨u, c⟩ := z
    rw [h0.1 c hg]
    exact sim_secs s (s.length + 1) 0 false md0 ⟨c, s.length, 0, 0⟩ rfl rfl (fun _ => rfl) (by show (0 : Nat) ≤ 65536; omega)
end Go.Proofs.YtkbfjkbokifgkaaGreatDoor
