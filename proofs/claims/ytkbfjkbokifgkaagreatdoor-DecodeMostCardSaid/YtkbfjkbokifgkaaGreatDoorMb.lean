/- The contract of want. -/
import Derived.Test.YtkbfjkbokifgkaaGreatDoorMa
import Derived.WalkLawsBesides
namespace Go.Proofs.YtkbfjkbokifgkaaGreatDoor
open Go.RowKit
set_option linter.unusedVariables false

theorem want_yes (n : Int) (w : World) : Calls Tryz.prog 161 #[.bool true, .int .i64 n] w fun e w' => e = .returned (.tuple #[]) ∧ w = w' := by
  go_enter Tryz.func161, Tryz.ntmps161
  go_wp2
  go_end0
  exact ⟨rfl, rfl⟩

theorem want_no (n : Int) (w : World) : Calls Tryz.prog 161 #[.bool false, .int .i64 n] w fun e w' => e = .panicked (fault n) ∧ w = w' := by
  go_enter Tryz.func161, Tryz.ntmps161
  go_wp2
  exact ⟨rfl, rfl, rfl⟩

theorem want_any (ok : Bool) (n : Int) (w : World) : Calls Tryz.prog 161 #[.bool ok, .int .i64 n] w fun e w' => e = endE ok n ∧ w = w' := by
  cases ok
  · exact want_no n w
  · exact want_yes n w
end Go.Proofs.YtkbfjkbokifgkaaGreatDoor

namespace Go.Proofs.YtkbfjkbokifgkaaGreatDoor
open Go.RowKit
set_option linter.unusedVariables false

/-- What is left behind the instructions of a list; -1: they are more. -/
def cnt : Il → Int → Int
  | .nil, left => left
  | .cons _ _ _ _ _ body els rest, left =>
    let l2 := if 0 ≤ left - 1 then cnt body (left - 1) else left - 1
    let l3 := if 0 ≤ l2 then cnt els l2 else l2
    if l3 < 0 then -1 else cnt rest l3
theorem cnt_bd : ∀ (l : Il) (left : Int), 0 ≤ left → -1 ≤ cnt l left ∧ cnt l left ≤ left
  | .nil, left, h => by unfold cnt; omega
  | .cons _ _ _ _ _ body els rest, left, h => by
    unfold cnt
    have hb : -1 ≤ (if 0 ≤ left - 1 then cnt body (left - 1) else left - 1) ∧ (if 0 ≤ left - 1 then cnt body (left - 1) else left - 1) ≤ left - 1 := by
      split
      · rename_i h1
        exact cnt_bd body _ h1
      · omega
    generalize (if 0 ≤ left - 1 then cnt body (left - 1) else left - 1) = l2 at *
    have he : -1 ≤ (if 0 ≤ l2 then cnt els l2 else l2) ∧ (if 0 ≤ l2 then cnt els l2 else l2) ≤ l2 := by
      split
      · rename_i h1
        exact cnt_bd els _ h1
      · omega
    show -1 ≤ (if (if 0 ≤ l2 then cnt els l2 else l2) < 0 then -1 else cnt rest (if 0 ≤ l2 then cnt els l2 else l2)) ∧ (if (if 0 ≤ l2 then cnt els l2 else l2) < 0 then -1 else cnt rest (if 0 ≤ l2 then cnt els l2 else l2)) ≤ left
    generalize (if 0 ≤ l2 then cnt els l2 else l2) = l3 at *
    split
    · omega
    · have := cnt_bd rest l3 (by omega)
      omega

def CountedC (l : Il) : Prop := ∀ (ao : Option Addr) (c : Nat) (w : World) (left : Int), l.len ≤ 9223372036854775807 → IlIn w ao 0 l → 0 ≤ left → left ≤ 65536 →
  Calls Tryz.prog 183 #[.slice ao l.len c, .int .i64 left] w fun e w' => e = .returned (.int .i64 (cnt l left)) ∧ Below w.heap.size w w'

set_option maxRecDepth 100000 in
set_option maxHeartbeats 4000000 in
theorem counted_step (l : Il) (hs : Sub CountedC l) : CountedC l := by
  intro ao c w left hl hw h0 h1
  obtain ⟨N, hN⟩ : ∃ N, l.len = N := ⟨_, rfl⟩
  rw [hN] at hl ⊢
  go_enter Tryz.func183, Tryz.ntmps183
  go_wp2_with fail
  go_loopw [1, 9] (fun vL vi wr => ∃ (i : Nat) (r : Il) (L : Int), vi = .int .i64 i ∧ vL = .int .i64 L ∧ 0 ≤ L ∧ L ≤ 65536 ∧ i + r.len = N ∧ Hid (IlIn wr ao i r) ∧ Hid (Sub CountedC r) ∧ Hid (cnt l left = cnt r L) ∧ Hid (Below w.heap.size w wr)) (fun _ vi _ => N - (intOf vi).toNat)
  case atStart => exact ⟨0, l, left, rfl, rfl, h0, h1, by omega, Lib.hid hw, Lib.hid hs, Lib.hid rfl, Lib.hid (Below.refl _ _)⟩
  case round =>
    obtain ⟨i, r, L, rfl, rfl, hL0, hL1, hi, hr, hsub, hc, hb⟩ := hrel
    cases r with
    | nil =>
      have hiN : i = N := by simpa [Il.len] using hi
      subst hiN
      go_wp2
      go_ret
      exact ⟨by rw [hc.out]; rfl, hb.out⟩
    | cons op x y n ls body els rest =>
      have hlen : i + (rest.len + 1) = N := hi
      have hlt : i < N := by omega
      obtain ⟨b, o, a4, k4, a5, k5, a6, k6, rfl, hh, hrest⟩ := hr.out.head
      obtain ⟨c0, c1, c2, c3, c4, c5, c6, i4, l5, i5, l6, i6⟩ := hh
      have hr2 := Lib.hid hrest
      have hi5 := Lib.hid i5
      have hi6 := Lib.hid i6
      have hal : ∀ o, Below wr.heap.size wr (wr.alloc o) := fun o => (Below.refl _ _).alloc (Nat.le_refl _) o
      have hcb := fun w left h0 h1 h2 => Lib.hid (hsub.out.1 a5 k5 w left l5 h0 h1 h2)
      have hce := fun w left h0 h1 h2 => Lib.hid (hsub.out.2.1 a6 k6 w left l6 h0 h1 h2)
      have hsr := Lib.hid hsub.out.2.2
      clear hr hrest i4 i5 i6 hi hsub
      by_cases hL : 0 ≤ L - 1
      · have hb1 := cnt_bd body (L - 1) hL
        have hc2 : Hid (cnt l left = (if (if 0 ≤ cnt body (L - 1) then cnt els (cnt body (L - 1)) else cnt body (L - 1)) < 0 then -1 else cnt rest (if 0 ≤ cnt body (L - 1) then cnt els (cnt body (L - 1)) else cnt body (L - 1)))) := Lib.hid (by rw [hc.out]; show (if (if 0 ≤ (if 0 ≤ L - 1 then cnt body (L - 1) else L - 1) then _ else _) < 0 then _ else _) = _; rw [if_pos hL])
        clear hc
        generalize hX : cnt body (L - 1) = X at *
        go_wp2_with fail
        refine (hcb _ _ (hi5.out.below (hal _)) hL (by omega)).out.mono ?_
        rw [hX]
        clear hX
        rintro e w2 ⟨rfl, b2⟩
        have hb2 := Lib.hid ((hal _).trans (b2.mono (by simp)))
        have g6 : w2.cell? ⟨wr.heap.size, 6, none⟩ = some (.slice a6 els.len k6) := keep_below b2 _ _ (World.cell?_alloc_at _ _ _ 6 (by simp))
        clear b2
        by_cases hX0 : 0 ≤ X
        · have hb3 := cnt_bd els X hX0
          rw [if_pos hX0] at hc2
          generalize hY : cnt els X = Y at *
          go_wp2_with fail
          refine (hce _ _ (hi6.out.below hb2.out) hX0 (by omega)).out.mono ?_
          rw [hY]
          clear hY
          rintro e w3 ⟨rfl, b3⟩
          have hb4 := Lib.hid (hb2.out.trans (b3.mono hb2.out.size))
          clear b3 hb2
          by_cases hY0 : Y < 0
          · rw [if_pos hY0] at hc2
            go_wp2
            go_ret
            exact ⟨by rw [hc2.out]; rfl, hb.out.trans (hb4.out.mono hb.out.size)⟩
          · rw [if_neg hY0] at hc2
            go_wp2
            go_roundw
            case rel => exact ⟨i + 1, rest, Y, by simp, rfl, by omega, by omega, by omega, Lib.hid (hr2.out.below hb4.out), hsr, hc2, Lib.hid (hb.out.trans (hb4.out.mono hb.out.size))⟩
            case measure => simp [intOf]; omega
        · rw [if_neg hX0, if_pos (by omega)] at hc2
          go_wp2
          go_ret
          exact ⟨by rw [hc2.out]; rfl, hb.out.trans (hb2.out.mono hb.out.size)⟩
      · have hc2 : Hid (cnt l left = -1) := Lib.hid (by
          rw [hc.out]
          show (if (if 0 ≤ (if 0 ≤ L - 1 then cnt body (L - 1) else L - 1) then _ else _) < 0 then _ else _) = _
          rw [if_neg hL, if_neg hL, if_pos (by omega)])
        clear hc
        go_wp2
        go_ret
        exact ⟨by rw [hc2.out]; rfl, hb.out.trans ((hal _).mono hb.out.size)⟩
theorem counted_any (l : Il) : CountedC l := Il.each counted_step l
end Go.Proofs.YtkbfjkbokifgkaaGreatDoor

namespace Go.Proofs.YtkbfjkbokifgkaaGreatDoor
open Go.RowKit
set_option linter.unusedVariables false

theorem endE_yes (n : Int) : endE true n = .returned (.tuple #[]) := rfl
theorem endE_no (n : Int) : endE false n = .panicked (fault n) := rfl

theorem IntsIn.cell {w : World} {ao : Option Addr} {l : List Int} {i : Nat} {x : Int} (h : IntsIn w ao l) (hx : l[i]? = some x) : ∃ b o, ao = some ⟨b, o, none⟩ ∧ w.cell? ⟨b, o + i, none⟩ = some (.int .i64 x) := by
  rcases h with ⟨_, rfl | ⟨b, o, e, h⟩⟩
  · simp at hx
  · exact ⟨b, o, e, h i x hx⟩

def idx1 (n : Int) : Bool := decide (0 ≤ n) && decide (n < 4294967296)
def typ1 (n : Int) : Bool := n == 127 || n == 126

theorem all_drop {f : Int → Bool} {l : List Int} {i : Nat} {x : Int} (hx : l[i]? = some x) (h : (l.take i).all f = true) : (f x = true → (l.take (i + 1)).all f = true) ∧ (f x = false → l.all f = false) := by
  have hi := (List.getElem?_eq_some_iff.1 hx).1
  have he := (List.getElem?_eq_some_iff.1 hx).2
  constructor
  · intro hf
    rw [List.take_add_one, hx]
    simp [h, hf]
  · intro hf
    rw [List.all_eq_false]
    exact ⟨x, by rw [← he]; exact List.getElem_mem hi, by simp [hf]⟩

set_option maxRecDepth 100000 in
set_option maxHeartbeats 4000000 in
theorem index_any (l : List Int) (ao : Option Addr) (c : Nat) (w : World) (h : IntsIn w ao l) :
    Calls Tryz.prog 167 #[.slice ao l.length c] w fun e w' => e = endE (l.all idx1) 30 ∧ w = w' := by
  obtain ⟨N, hN⟩ : ∃ N, l.length = N := ⟨_, rfl⟩
  have hl := h.1
  have HI := Lib.hid h
  clear h
  rw [hN] at hl ⊢
  go_enter Tryz.func167, Tryz.ntmps167
  go_wp2_with fail
  go_loop [6] (fun vi => ∃ i : Nat, i ≤ N ∧ vi = .int .i64 i ∧ Hid ((l.take i).all idx1 = true)) (fun vi => N - (intOf vi).toNat)
  case atStart => exact ⟨0, Nat.zero_le _, rfl, Lib.hid rfl⟩
  case round =>
    obtain ⟨i, hi, rfl, ha⟩ := hrel
    by_cases hlt : i < N
    · obtain ⟨x, hx⟩ : ∃ x, l[i]? = some x := ⟨_, List.getElem?_eq_getElem (by omega)⟩
      obtain ⟨b, o, rfl, hcell⟩ := HI.out.cell hx
      have hn := Lib.hid (all_drop hx ha.out)
      clear hx
      by_cases h1 : 0 ≤ x
      · by_cases h2 : x < 4294967296
        · have hf : idx1 x = true := by simp [idx1, h1, h2]
          have hn2 := Lib.hid (hn.out.1 hf)
          clear hn hf
          go_wp2_with fail
          refine (want_yes 30 _).mono ?_
          rintro e w' ⟨rfl, rfl⟩
          go_wp2
          go_round
          case rel => exact ⟨i + 1, by omega, by simp, hn2⟩
          case measure => simp [intOf]; omega
        · have hf : idx1 x = false := by simp [idx1]; omega
          have hn2 := Lib.hid (hn.out.2 hf)
          clear hn hf
          go_wp2_with fail
          refine (want_no 30 _).mono ?_
          rintro e w' ⟨rfl, rfl⟩
          go_wp2
          exact ⟨rfl, by rw [hn2.out]; rfl, rfl⟩
      · have hf : idx1 x = false := by simp [idx1]; omega
        have hn2 := Lib.hid (hn.out.2 hf)
        clear hn hf
        go_wp2_with fail
        refine (want_no 30 _).mono ?_
        rintro e w' ⟨rfl, rfl⟩
        go_wp2
        exact ⟨rfl, by rw [hn2.out]; rfl, rfl⟩
    · obtain rfl : i = N := by omega
      have ht : l.take i = l := by rw [← hN]; exact List.take_length
      have ha2 := Lib.hid (ht ▸ ha.out)
      clear ht
      go_wp2
      go_end0
      exact ⟨by rw [ha2.out]; rfl, rfl⟩

set_option maxRecDepth 100000 in
set_option maxHeartbeats 4000000 in
theorem typed_any (l : List Int) (ao : Option Addr) (c : Nat) (w : World) (h : IntsIn w ao l) :
    Calls Tryz.prog 166 #[.slice ao l.length c] w fun e w' => e = endE (l.all typ1) 30 ∧ w = w' := by
  obtain ⟨N, hN⟩ : ∃ N, l.length = N := ⟨_, rfl⟩
  have hl := h.1
  have HI := Lib.hid h
  clear h
  rw [hN] at hl ⊢
  go_enter Tryz.func166, Tryz.ntmps166
  go_wp2_with fail
  go_loop [6] (fun vi => ∃ i : Nat, i ≤ N ∧ vi = .int .i64 i ∧ Hid ((l.take i).all typ1 = true)) (fun vi => N - (intOf vi).toNat)
  case atStart => exact ⟨0, Nat.zero_le _, rfl, Lib.hid rfl⟩
  case round =>
    obtain ⟨i, hi, rfl, ha⟩ := hrel
    by_cases hlt : i < N
    · obtain ⟨x, hx⟩ : ∃ x, l[i]? = some x := ⟨_, List.getElem?_eq_getElem (by omega)⟩
      obtain ⟨b, o, rfl, hcell⟩ := HI.out.cell hx
      have hn := Lib.hid (all_drop hx ha.out)
      clear hx
      by_cases h1 : x = 127
      · subst h1
        have hn2 := Lib.hid (hn.out.1 rfl)
        clear hn
        go_wp2_with fail
        refine (want_yes 30 _).mono ?_
        rintro e w' ⟨rfl, rfl⟩
        go_wp2
        go_round
        case rel => exact ⟨i + 1, by omega, by simp, hn2⟩
        case measure => simp [intOf]; omega
      · by_cases h2 : x = 126
        · subst h2
          have hn2 := Lib.hid (hn.out.1 rfl)
          clear hn
          go_wp2_with fail
          refine (want_yes 30 _).mono ?_
          rintro e w' ⟨rfl, rfl⟩
          go_wp2
          go_round
          case rel => exact ⟨i + 1, by omega, by simp, hn2⟩
          case measure => simp [intOf]; omega
        · have q1 : (x == 127) = false := by simp [h1]
          have q2 : (x == 126) = false := by simp [h2]
          have hf : typ1 x = false := by simp [typ1, h1, h2]
          have hn2 := Lib.hid (hn.out.2 hf)
          clear hn hf
          go_wp2_with fail
          refine (want_no 30 _).mono ?_
          rintro e w' ⟨rfl, rfl⟩
          go_wp2
          exact ⟨rfl, by rw [hn2.out]; rfl, rfl⟩
    · obtain rfl : i = N := by omega
      have ht : l.take i = l := by rw [← hN]; exact List.take_length
      have ha2 := Lib.hid (ht ▸ ha.out)
      clear ht
      go_wp2
      go_end0
      exact ⟨by rw [ha2.out]; rfl, rfl⟩
end Go.Proofs.YtkbfjkbokifgkaaGreatDoor

namespace Go.Proofs.YtkbfjkbokifgkaaGreatDoor
open Go.RowKit
set_option linter.unusedVariables false

def lab : Il → Bool
  | .nil => true
  | .cons _ _ _ _ ls body els rest => decide (ls.length ≤ 4096) && (lab body && (lab els && lab rest))

def LabC (l : Il) : Prop := ∀ (ao : Option Addr) (c : Nat) (w : World), l.len ≤ 9223372036854775807 → IlIn w ao 0 l →
  Calls Tryz.prog 163 #[.slice ao l.len c] w fun e w' => e = endE (lab l) 3 ∧ Below w.heap.size w w'

set_option maxRecDepth 100000 in
set_option maxHeartbeats 4000000 in
theorem lab_step (l : Il) (hs : Sub LabC l) : LabC l := by
  intro ao c w hl hw
  obtain ⟨N, hN⟩ : ∃ N, l.len = N := ⟨_, rfl⟩
  rw [hN] at hl ⊢
  go_enter Tryz.func163, Tryz.ntmps163
  go_wp2_with fail
  go_loopw [6] (fun vi wr => ∃ (i : Nat) (r : Il), vi = .int .i64 i ∧ i + r.len = N ∧ Hid (IlIn wr ao i r) ∧ Hid (Sub LabC r) ∧ Hid (lab l = lab r) ∧ Hid (Below w.heap.size w wr)) (fun vi _ => N - (intOf vi).toNat)
  case atStart => exact ⟨0, l, rfl, by omega, Lib.hid hw, Lib.hid hs, Lib.hid rfl, Lib.hid (Below.refl _ _)⟩
  case round =>
    obtain ⟨i, r, rfl, hi, hr, hsub, hc, hb⟩ := hrel
    cases r with
    | nil =>
      have hiN : i = N := by simpa [Il.len] using hi
      subst hiN
      go_wp2
      go_end0
      exact ⟨by rw [hc.out]; rfl, hb.out⟩
    | cons op x y n ls body els rest =>
      have hlen : i + (rest.len + 1) = N := hi
      have hlt : i < N := by omega
      obtain ⟨b, o, a4, k4, a5, k5, a6, k6, rfl, hh, hrest⟩ := hr.out.head
      obtain ⟨c0, c1, c2, c3, c4, c5, c6, i4, l5, i5, l6, i6⟩ := hh
      have hr2 := Lib.hid hrest
      have hi5 := Lib.hid i5
      have hi6 := Lib.hid i6
      have hl4 := i4.1
      have hal : ∀ o, Below wr.heap.size wr (wr.alloc o) := fun o => (Below.refl _ _).alloc (Nat.le_refl _) o
      have hcb := fun w h0 => Lib.hid (hsub.out.1 a5 k5 w l5 h0)
      have hce := fun w h0 => Lib.hid (hsub.out.2.1 a6 k6 w l6 h0)
      have hsr := Lib.hid hsub.out.2.2
      have hc1 : Hid (lab l = (decide (ls.length ≤ 4096) && (lab body && (lab els && lab rest)))) := hc
      clear hr hrest i4 i5 i6 hi hsub hc
      generalize ls.length = n4 at *
      by_cases hn4 : n4 ≤ 4096
      · have hd : decide (n4 ≤ 4096) = true := by simp [hn4]
        have hz4 : decide ((n4 : Int) ≤ 4096) = true := by simp; omega
        rw [hd, Bool.true_and] at hc1
        clear hd
        generalize hX : lab body = X at *
        go_wp2_with fail
        refine (want_yes 3 _).mono ?_
        rintro e w' ⟨rfl, rfl⟩
        go_wp2_with fail
        refine (hcb _ (hi5.out.below (hal _))).out.mono ?_
        clear hX
        rintro e w2 ⟨rfl, b2⟩
        have hb2 := Lib.hid ((hal _).trans (b2.mono (by simp)))
        have g6 : w2.cell? ⟨wr.heap.size, 6, none⟩ = some (.slice a6 els.len k6) := keep_below b2 _ _ (World.cell?_alloc_at _ _ _ 6 (by simp))
        clear b2
        cases X
        · rw [Bool.false_and] at hc1
          rw [endE_no]
          go_wp2
          exact ⟨rfl, by rw [hc1.out]; rfl, hb.out.trans (hb2.out.mono hb.out.size)⟩
        · rw [Bool.true_and] at hc1
          rw [endE_yes]
          generalize hY : lab els = Y at *
          go_wp2_with fail
          refine (hce _ (hi6.out.below hb2.out)).out.mono ?_
          clear hY
          rintro e w3 ⟨rfl, b3⟩
          have hb4 := Lib.hid (hb2.out.trans (b3.mono hb2.out.size))
          clear b3 hb2
          cases Y
          · rw [Bool.false_and] at hc1
            rw [endE_no]
            go_wp2
            exact ⟨rfl, by rw [hc1.out]; rfl, hb.out.trans (hb4.out.mono hb.out.size)⟩
          · rw [Bool.true_and] at hc1
            rw [endE_yes]
            go_wp2
            go_roundw
            case rel => exact ⟨i + 1, rest, by simp, by omega, Lib.hid (hr2.out.below hb4.out), hsr, hc1, Lib.hid (hb.out.trans (hb4.out.mono hb.out.size))⟩
            case measure => simp [intOf]; omega
      · have hd : decide (n4 ≤ 4096) = false := by simp [hn4]
        have hz4 : decide ((n4 : Int) ≤ 4096) = false := by simp; omega
        rw [hd, Bool.false_and] at hc1
        clear hd
        go_wp2_with fail
        refine (want_no 3 _).mono ?_
        rintro e w' ⟨rfl, rfl⟩
        go_wp2
        exact ⟨rfl, by rw [hc1.out]; rfl, hb.out.trans ((hal _).mono hb.out.size)⟩
theorem labelled_any (l : Il) : LabC l := Il.each lab_step l

/-- No instruction stands too deep. -/
def flatR : Il → Int → Bool
  | .nil, _ => true
  | .cons _ _ _ _ _ body els rest, d => ((body.len == 0 || decide (d + 1 ≤ 64)) && flatR body (d + 1)) && (((els.len == 0 || decide (d + 1 ≤ 64)) && flatR els (d + 1)) && flatR rest d)
def flatB (l : Il) (d : Int) : Bool := (l.len == 0 || decide (d ≤ 64)) && flatR l d

def FlatC (l : Il) : Prop := ∀ (ao : Option Addr) (c : Nat) (w : World) (d : Int), l.len ≤ 9223372036854775807 → IlIn w ao 0 l → 0 ≤ d → d ≤ 65 →
  Calls Tryz.prog 99 #[.slice ao l.len c, .int .i64 d] w fun e w' => e = endE (flatB l d) 4 ∧ Below w.heap.size w w'

set_option maxRecDepth 100000 in
set_option maxHeartbeats 4000000 in
theorem flat_step (l : Il) (hs : Sub FlatC l) : FlatC l := by
  intro ao c w d hl hw hd0 hd1
  obtain ⟨N, hN⟩ : ∃ N, l.len = N := ⟨_, rfl⟩
  by_cases hd : d ≤ 64
  · have hf : flatB l d = flatR l d := by unfold flatB; simp [hd]
    rw [hf]
    clear hf
    rw [hN] at hl ⊢
    have HW : ∀ w, Calls Tryz.prog 161 #[.bool true, .int .i64 4] w fun e w' => e = .returned (.tuple #[]) ∧ w = w' := want_yes 4
    by_cases hz : N = 0
    · subst hz
      cases l with
      | nil =>
        go_enter Tryz.func99, Tryz.ntmps99
        go_wp2_with fail
        refine (want_yes 4 _).mono ?_
        rintro e w' ⟨rfl, rfl⟩
        go_wp2_with fail
        go_loopw [16] (fun vi wr => vi = .int .i64 0 ∧ wr = w) (fun _ _ => 0)
        case atStart => exact ⟨rfl, rfl⟩
        case round =>
          obtain ⟨rfl, rfl⟩ := hrel
          go_wp2
          go_end0
          exact ⟨rfl, Below.refl _ _⟩
      | cons => exact absurd hN (by simp [Il.len])
    · have hzb : ((N : Int) == 0) = false := by simp [hz]
      go_enter Tryz.func99, Tryz.ntmps99
      go_wp2_with fail
      refine (want_yes 4 _).mono ?_
      rintro e w' ⟨rfl, rfl⟩
      go_wp2_with fail
      go_loopw [16] (fun vi wr => ∃ (i : Nat) (r : Il), vi = .int .i64 i ∧ i + r.len = N ∧ Hid (IlIn wr ao i r) ∧ Hid (Sub FlatC r) ∧ Hid (flatR l d = flatR r d) ∧ Hid (Below w.heap.size w wr)) (fun vi _ => N - (intOf vi).toNat)
      case atStart => exact ⟨0, l, rfl, by omega, Lib.hid hw, Lib.hid hs, Lib.hid rfl, Lib.hid (Below.refl _ _)⟩
      case round =>
        obtain ⟨i, r, rfl, hi, hr, hsub, hc, hb⟩ := hrel
        cases r with
        | nil =>
          have hiN : i = N := by simpa [Il.len] using hi
          subst hiN
          go_wp2
          go_end0
          exact ⟨by rw [hc.out]; rfl, hb.out⟩
        | cons op x y n ls body els rest =>
          have hlen : i + (rest.len + 1) = N := hi
          have hlt : i < N := by omega
          obtain ⟨b, o, a4, k4, a5, k5, a6, k6, rfl, hh, hrest⟩ := hr.out.head
          obtain ⟨c0, c1, c2, c3, c4, c5, c6, i4, l5, i5, l6, i6⟩ := hh
          have hr2 := Lib.hid hrest
          have hi5 := Lib.hid i5
          have hi6 := Lib.hid i6
          have hal : ∀ o, Below wr.heap.size wr (wr.alloc o) := fun o => (Below.refl _ _).alloc (Nat.le_refl _) o
          have hcb := fun w h0 => Lib.hid (hsub.out.1 a5 k5 w (d + 1) l5 h0 (by omega) (by omega))
          have hce := fun w h0 => Lib.hid (hsub.out.2.1 a6 k6 w (d + 1) l6 h0 (by omega) (by omega))
          have hsr := Lib.hid hsub.out.2.2
          have hc1 : Hid (flatR l d = (flatB body (d + 1) && (flatB els (d + 1) && flatR rest d))) := hc
          clear hr hrest i4 i5 i6 hi hsub hc
          generalize hX : flatB body (d + 1) = X at *
          go_wp2_with fail
          refine (hcb _ (hi5.out.below (hal _))).out.mono ?_
          clear hX
          rintro e w2 ⟨rfl, b2⟩
          have hb2 := Lib.hid ((hal _).trans (b2.mono (by simp)))
          have g6 : w2.cell? ⟨wr.heap.size, 6, none⟩ = some (.slice a6 els.len k6) := keep_below b2 _ _ (World.cell?_alloc_at _ _ _ 6 (by simp))
          clear b2
          cases X
          · rw [Bool.false_and] at hc1
            rw [endE_no]
            go_wp2
            exact ⟨rfl, by rw [hc1.out]; rfl, hb.out.trans (hb2.out.mono hb.out.size)⟩
          · rw [Bool.true_and] at hc1
            rw [endE_yes]
            generalize hY : flatB els (d + 1) = Y at *
            go_wp2_with fail
            refine (hce _ (hi6.out.below hb2.out)).out.mono ?_
            clear hY
            rintro e w3 ⟨rfl, b3⟩
            have hb4 := Lib.hid (hb2.out.trans (b3.mono hb2.out.size))
            clear b3 hb2
            cases Y
            · rw [Bool.false_and] at hc1
              rw [endE_no]
              go_wp2
              exact ⟨rfl, by rw [hc1.out]; rfl, hb.out.trans (hb4.out.mono hb.out.size)⟩
            · rw [Bool.true_and] at hc1
              rw [endE_yes]
              go_wp2
              go_roundw
              case rel => exact ⟨i + 1, rest, by simp, by omega, Lib.hid (hr2.out.below hb4.out), hsr, hc1, Lib.hid (hb.out.trans (hb4.out.mono hb.out.size))⟩
              case measure => simp [intOf]; omega
  · cases l with
    | nil =>
      have hf : flatB .nil d = true := rfl
      rw [hf]
      have hz : Il.nil.len = 0 := rfl
      rw [hz]
      go_enter Tryz.func99, Tryz.ntmps99
      go_wp2_with fail
      refine (want_yes 4 _).mono ?_
      rintro e w' ⟨rfl, rfl⟩
      go_wp2_with fail
      go_loopw [16] (fun vi wr => vi = .int .i64 0 ∧ wr = w) (fun _ _ => 0)
      case atStart => exact ⟨rfl, rfl⟩
      case round =>
        obtain ⟨rfl, rfl⟩ := hrel
        go_wp2
        go_end0
        exact ⟨rfl, Below.refl _ _⟩
    | cons op x y n ls body els rest =>
      have hNz : N ≠ 0 := by rw [← hN]; simp [Il.len]
      have hzb : ((N : Int) == 0) = false := by simp [hNz]
      have hf : flatB (.cons op x y n ls body els rest) d = false := by
        unfold flatB
        rw [hN]
        simp [hNz, hd]
      rw [hf]
      clear hf
      rw [hN] at hl ⊢
      go_enter Tryz.func99, Tryz.ntmps99
      go_wp2_with fail
      refine (want_no 4 _).mono ?_
      rintro e w' ⟨rfl, rfl⟩
      go_wp2
      exact ⟨rfl, rfl, Below.refl _ _⟩
theorem flat_any (l : Il) : FlatC l := Il.each flat_step l
end Go.Proofs.YtkbfjkbokifgkaaGreatDoor
