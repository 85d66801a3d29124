/- The contracts of labelled and flat. -/
import Derived.Test.YtacohbllbjgdgaaDoorMc
namespace Go.Proofs.YtacohbllbjgdgaaDoor
open Go.RowKit
set_option linter.unusedVariables false

def lab : Il → Bool
  | .nil => true
  | .cons _ _ _ _ ls body els rest => decide (ls.length ≤ 4096) && (lab body && (lab els && lab rest))

def LabC (l : Il) : Prop := ∀ (ao : Option Addr) (c : Nat) (w : World), l.len ≤ 9223372036854775807 → IlIn w ao 0 l →
  Calls Tryd.prog 29 #[.slice ao l.len c] w fun e w' => e = endE (lab l) 3 ∧ Below w.heap.size w w'

set_option maxRecDepth 100000 in
set_option maxHeartbeats 4000000 in
theorem lab_step (l : Il) (hs : Sub LabC l) : LabC l := by
  intro ao c w hl hw
  obtain ⟨N, hN⟩ : ∃ N, l.len = N := ⟨_, rfl⟩
  rw [hN] at hl ⊢
  go_enter Tryd.func29, Tryd.ntmps29
  go_wp2_with fail
  go_loopw [6] (fun vi wr => ∃ (i : Nat) (r : Il), vi = .int .i64 i ∧ i + r.len = N ∧ Hid (IlIn wr ao i r) ∧ Hid (Sub LabC r) ∧ Hid (lab l = lab r) ∧ Hid (Below w.heap.size w wr)) (fun vi _ => N - (intOf vi).toNat)
  case atStart => exact ⟨0, l, rfl, by omega, Lib.hid hw, Lib.hid hs, Lib.hid rfl, Lib.hid (Below.refl _ _)⟩
  case round =>
    obtain ⟨i, r, rfl, hi, hr, hsub, hc, hb⟩ := hrel
    cases r with
    | nil =>
      have hiN : i = N := by simpa [Il.len] using hi
      subst hiN
      go_wp2
      go_end0
      exact ⟨by rw [hc.out]; rfl, hb.out⟩
    | cons op x y n ls body els rest =>
      have hlen : i + (rest.len + 1) = N := hi
      have hlt : i < N := by omega
      obtain ⟨b, o, a4, k4, a5, k5, a6, k6, rfl, hh, hrest⟩ := hr.out.head
      obtain ⟨c0, c1, c2, c3, c4, c5, c6, i4, l5, i5, l6, i6⟩ := hh
      have hr2 := Lib.hid hrest
      have hi5 := Lib.hid i5
      have hi6 := Lib.hid i6
      have hl4 := i4.1
      have hal : ∀ o, Below wr.heap.size wr (wr.alloc o) := fun o => (Below.refl _ _).alloc (Nat.le_refl _) o
      have hcb := fun w h0 => Lib.hid (hsub.out.1 a5 k5 w l5 h0)
      have hce := fun w h0 => Lib.hid (hsub.out.2.1 a6 k6 w l6 h0)
      have hsr := Lib.hid hsub.out.2.2
      have hc1 : Hid (lab l = (decide (ls.length ≤ 4096) && (lab body && (lab els && lab rest)))) := hc
      clear hr hrest i4 i5 i6 hi hsub hc
      generalize ls.length = n4 at *
      by_cases hn4 : n4 ≤ 4096
      · have hd : decide (n4 ≤ 4096) = true := by simp [hn4]
        have hz4 : decide ((n4 : Int) ≤ 4096) = true := by simp; omega
        rw [hd, Bool.true_and] at hc1
        clear hd
        generalize hX : lab body = X at *
        go_wp2_with fail
        refine (want_yes 3 _).mono ?_
        rintro e w' ⟨rfl, rfl⟩
        go_wp2_with fail
        refine (hcb _ (hi5.out.below (hal _))).out.mono ?_
        clear hX
        rintro e w2 ⟨rfl, b2⟩
        have hb2 := Lib.hid ((hal _).trans (b2.mono (by simp)))
        have g6 : w2.cell? ⟨wr.heap.size, 6, none⟩ = some (.slice a6 els.len k6) := keep_below b2 _ _ (World.cell?_alloc_at _ _ _ 6 (by simp))
        clear b2
        cases X
        · rw [Bool.false_and] at hc1
          rw [endE_no]
          go_wp2
          exact ⟨rfl, by rw [hc1.out]; rfl, hb.out.trans (hb2.out.mono hb.out.size)⟩
        · rw [Bool.true_and] at hc1
          rw [endE_yes]
          generalize hY : lab els = Y at *
          go_wp2_with fail
          refine (hce _ (hi6.out.below hb2.out)).out.mono ?_
          clear hY
          rintro e w3 ⟨rfl, b3⟩
          have hb4 := Lib.hid (hb2.out.trans (b3.mono hb2.out.size))
          clear b3 hb2
          cases Y
          · rw [Bool.false_and] at hc1
            rw [endE_no]
            go_wp2
            exact ⟨rfl, by rw [hc1.out]; rfl, hb.out.trans (hb4.out.mono hb.out.size)⟩
          · rw [Bool.true_and] at hc1
            rw [endE_yes]
            go_wp2
            go_roundw
            case rel => exact ⟨i + 1, rest, by simp, by omega, Lib.hid (hr2.out.below hb4.out), hsr, hc1, Lib.hid (hb.out.trans (hb4.out.mono hb.out.size))⟩
            case measure => simp [intOf]; omega
      · have hd : decide (n4 ≤ 4096) = false := by simp [hn4]
        have hz4 : decide ((n4 : Int) ≤ 4096) = false := by simp; omega
        rw [hd, Bool.false_and] at hc1
        clear hd
        go_wp2_with fail
        refine (want_no 3 _).mono ?_
        rintro e w' ⟨rfl, rfl⟩
        go_wp2
        exact ⟨rfl, by rw [hc1.out]; rfl, hb.out.trans ((hal _).mono hb.out.size)⟩
theorem labelled_any (l : Il) : LabC l := Il.each lab_step l

/-- No instruction stands too deep. -/
def flatR : Il → Int → Bool
  | .nil, _ => true
  | .cons _ _ _ _ _ body els rest, d => ((body.len == 0 || decide (d + 1 ≤ 64)) && flatR body (d + 1)) && (((els.len == 0 || decide (d + 1 ≤ 64)) && flatR els (d + 1)) && flatR rest d)
def flatB (l : Il) (d : Int) : Bool := (l.len == 0 || decide (d ≤ 64)) && flatR l d

def FlatC (l : Il) : Prop := ∀ (ao : Option Addr) (c : Nat) (w : World) (d : Int), l.len ≤ 9223372036854775807 → IlIn w ao 0 l → 0 ≤ d → d ≤ 65 →
  Calls Tryd.prog 18 #[.slice ao l.len c, .int .i64 d] w fun e w' => e = endE (flatB l d) 4 ∧ Below w.heap.size w w'

set_option maxRecDepth 100000 in
set_option maxHeartbeats 4000000 in
theorem flat_step (l : Il) (hs : Sub FlatC l) : FlatC l := by
  intro ao c w d hl hw hd0 hd1
  obtain ⟨N, hN⟩ : ∃ N, l.len = N := ⟨_, rfl⟩
  by_cases hd : d ≤ 64
  · have hf : flatB l d = flatR l d := by unfold flatB; simp [hd]
    rw [hf]
    clear hf
    rw [hN] at hl ⊢
    have HW : ∀ w, Calls Tryd.prog 27 #[.bool true, .int .i64 4] w fun e w' => e = .returned (.tuple #[]) ∧ w = w' := want_yes 4
    by_cases hz : N = 0
    · subst hz
      cases l with
      | nil =>
        go_enter Tryd.func18, Tryd.ntmps18
        go_wp2_with fail
        refine (want_yes 4 _).mono ?_
        rintro e w' ⟨rfl, rfl⟩
        go_wp2_with fail
        go_loopw [16] (fun vi wr => vi = .int .i64 0 ∧ wr = w) (fun _ _ => 0)
        case atStart => exact ⟨rfl, rfl⟩
        case round =>
          obtain ⟨rfl, rfl⟩ := hrel
          go_wp2
          go_end0
          exact ⟨rfl, Below.refl _ _⟩
      | cons => exact absurd hN (by simp [Il.len])
    · have hzb : ((N : Int) == 0) = false := by simp [hz]
      go_enter Tryd.func18, Tryd.ntmps18
      go_wp2_with fail
      refine (want_yes 4 _).mono ?_
      rintro e w' ⟨rfl, rfl⟩
      go_wp2_with fail
      go_loopw [16] (fun vi wr => ∃ (i : Nat) (r : Il), vi = .int .i64 i ∧ i + r.len = N ∧ Hid (IlIn wr ao i r) ∧ Hid (Sub FlatC r) ∧ Hid (flatR l d = flatR r d) ∧ Hid (Below w.heap.size w wr)) (fun vi _ => N - (intOf vi).toNat)
      case atStart => exact ⟨0, l, rfl, by omega, Lib.hid hw, Lib.hid hs, Lib.hid rfl, Lib.hid (Below.refl _ _)⟩
      case round =>
        obtain ⟨i, r, rfl, hi, hr, hsub, hc, hb⟩ := hrel
        cases r with
        | nil =>
          have hiN : i = N := by simpa [Il.len] using hi
          subst hiN
          go_wp2
          go_end0
          exact ⟨by rw [hc.out]; rfl, hb.out⟩
        | cons op x y n ls body els rest =>
          have hlen : i + (rest.len + 1) = N := hi
          have hlt : i < N := by omega
          obtain ⟨b, o, a4, k4, a5, k5, a6, k6, rfl, hh, hrest⟩ := hr.out.head
          obtain ⟨c0, c1, c2, c3, c4, c5, c6, i4, l5, i5, l6, i6⟩ := hh
          have hr2 := Lib.hid hrest
          have hi5 := Lib.hid i5
          have hi6 := Lib.hid i6
          have hal : ∀ o, Below wr.heap.size wr (wr.alloc o) := fun o => (Below.refl _ _).alloc (Nat.le_refl _) o
          have hcb := fun w h0 => Lib.hid (hsub.out.1 a5 k5 w (d + 1) l5 h0 (by omega) (by omega))
          have hce := fun w h0 => Lib.hid (hsub.out.2.1 a6 k6 w (d + 1) l6 h0 (by omega) (by omega))
          have hsr := Lib.hid hsub.out.2.2
          have hc1 : Hid (flatR l d = (flatB body (d + 1) && (flatB els (d + 1) && flatR rest d))) := hc
          clear hr hrest i4 i5 i6 hi hsub hc
          generalize hX : flatB body (d + 1) = X at *
          go_wp2_with fail
          refine (hcb _ (hi5.out.below (hal _))).out.mono ?_
          clear hX
          rintro e w2 ⟨rfl, b2⟩
          have hb2 := Lib.hid ((hal _).trans (b2.mono (by simp)))
          have g6 : w2.cell? ⟨wr.heap.size, 6, none⟩ = some (.slice a6 els.len k6) := keep_below b2 _ _ (World.cell?_alloc_at _ _ _ 6 (by simp))
          clear b2
          cases X
          · rw [Bool.false_and] at hc1
            rw [endE_no]
            go_wp2
            exact ⟨rfl, by rw [hc1.out]; rfl, hb.out.trans (hb2.out.mono hb.out.size)⟩
          · rw [Bool.true_and] at hc1
            rw [endE_yes]
            generalize hY : flatB els (d + 1) = Y at *
            go_wp2_with fail
            refine (hce _ (hi6.out.below hb2.out)).out.mono ?_
            clear hY
            rintro e w3 ⟨rfl, b3⟩
            have hb4 := Lib.hid (hb2.out.trans (b3.mono hb2.out.size))
            clear b3 hb2
            cases Y
            · rw [Bool.false_and] at hc1
              rw [endE_no]
              go_wp2
              exact ⟨rfl, by rw [hc1.out]; rfl, hb.out.trans (hb4.out.mono hb.out.size)⟩
            · rw [Bool.true_and] at hc1
              rw [endE_yes]
              go_wp2
              go_roundw
              case rel => exact ⟨i + 1, rest, by simp, by omega, Lib.hid (hr2.out.below hb4.out), hsr, hc1, Lib.hid (hb.out.trans (hb4.out.mono hb.out.size))⟩
              case measure => simp [intOf]; omega
  · cases l with
    | nil =>
      have hf : flatB .nil d = true := rfl
      rw [hf]
      have hz : Il.nil.len = 0 := rfl
      rw [hz]
      go_enter Tryd.func18, Tryd.ntmps18
      go_wp2_with fail
      refine (want_yes 4 _).mono ?_
      rintro e w' ⟨rfl, rfl⟩
      go_wp2_with fail
      go_loopw [16] (fun vi wr => vi = .int .i64 0 ∧ wr = w) (fun _ _ => 0)
      case atStart => exact ⟨rfl, rfl⟩
      case round =>
        obtain ⟨rfl, rfl⟩ := hrel
        go_wp2
        go_end0
        exact ⟨rfl, Below.refl _ _⟩
    | cons op x y n ls body els rest =>
      have hNz : N ≠ 0 := by rw [← hN]; simp [Il.len]
      have hzb : ((N : Int) == 0) = false := by simp [hNz]
      have hf : flatB (.cons op x y n ls body els rest) d = false := by
        unfold flatB
        rw [hN]
        simp [hNz, hd]
      rw [hf]
      clear hf
      rw [hN] at hl ⊢
      go_enter Tryd.func18, Tryd.ntmps18
      go_wp2_with fail
      refine (want_no 4 _).mono ?_
      rintro e w' ⟨rfl, rfl⟩
      go_wp2
      exact ⟨rfl, rfl, Below.refl _ _⟩
theorem flat_any (l : Il) : FlatC l := Il.each flat_step l
end Go.Proofs.YtacohbllbjgdgaaDoor
