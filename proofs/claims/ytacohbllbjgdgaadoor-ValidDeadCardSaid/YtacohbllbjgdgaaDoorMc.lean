/- The contract of counted. -/
import Derived.Test.YtacohbllbjgdgaaDoorMa
namespace Go.Proofs.YtacohbllbjgdgaaDoor
open Go.RowKit
set_option linter.unusedVariables false

/-- What is left behind the instructions of a list; -1: they are more. -/
def cnt : Il → Int → Int
  | .nil, left => left
  | .cons _ _ _ _ _ body els rest, left =>
    let l2 := if 0 ≤ left - 1 then cnt body (left - 1) else left - 1
    let l3 := if 0 ≤ l2 then cnt els l2 else l2
    if l3 < 0 then -1 else cnt rest l3
theorem cnt_bd : ∀ (l : Il) (left : Int), 0 ≤ left → -1 ≤ cnt l left ∧ cnt l left ≤ left
  | .nil, left, h => by unfold cnt; omega
  | .cons _ _ _ _ _ body els rest, left, h => by
    unfold cnt
    have hb : -1 ≤ (if 0 ≤ left - 1 then cnt body (left - 1) else left - 1) ∧ (if 0 ≤ left - 1 then cnt body (left - 1) else left - 1) ≤ left - 1 := by
      split
      · rename_i h1
        exact cnt_bd body _ h1
      · omega
    generalize (if 0 ≤ left - 1 then cnt body (left - 1) else left - 1) = l2 at *
    have he : -1 ≤ (if 0 ≤ l2 then cnt els l2 else l2) ∧ (if 0 ≤ l2 then cnt els l2 else l2) ≤ l2 := by
      split
      · rename_i h1
        exact cnt_bd els _ h1
      · omega
    show -1 ≤ (if (if 0 ≤ l2 then cnt els l2 else l2) < 0 then -1 else cnt rest (if 0 ≤ l2 then cnt els l2 else l2)) ∧ (if (if 0 ≤ l2 then cnt els l2 else l2) < 0 then -1 else cnt rest (if 0 ≤ l2 then cnt els l2 else l2)) ≤ left
    generalize (if 0 ≤ l2 then cnt els l2 else l2) = l3 at *
    split
    · omega
    · have := cnt_bd rest l3 (by omega)
      omega

def CountedC (l : Il) : Prop := ∀ (ao : Option Addr) (c : Nat) (w : World) (left : Int), l.len ≤ 9223372036854775807 → IlIn w ao 0 l → 0 ≤ left → left ≤ 65536 →
  Calls Tryd.prog 42 #[.slice ao l.len c, .int .i64 left] w fun e w' => e = .returned (.int .i64 (cnt l left)) ∧ Below w.heap.size w w'

set_option maxRecDepth 100000 in
set_option maxHeartbeats 4000000 in
theorem counted_step (l : Il) (hs : Sub CountedC l) : CountedC l := by
  intro ao c w left hl hw h0 h1
  obtain ⟨N, hN⟩ : ∃ N, l.len = N := ⟨_, rfl⟩
  rw [hN] at hl ⊢
  go_enter Tryd.func42, Tryd.ntmps42
  go_wp2_with fail
  go_loopw [1, 9] (fun vL vi wr => ∃ (i : Nat) (r : Il) (L : Int), vi = .int .i64 i ∧ vL = .int .i64 L ∧ 0 ≤ L ∧ L ≤ 65536 ∧ i + r.len = N ∧ Hid (IlIn wr ao i r) ∧ Hid (Sub CountedC r) ∧ Hid (cnt l left = cnt r L) ∧ Hid (Below w.heap.size w wr)) (fun _ vi _ => N - (intOf vi).toNat)
  case atStart => exact ⟨0, l, left, rfl, rfl, h0, h1, by omega, Lib.hid hw, Lib.hid hs, Lib.hid rfl, Lib.hid (Below.refl _ _)⟩
  case round =>
    obtain ⟨i, r, L, rfl, rfl, hL0, hL1, hi, hr, hsub, hc, hb⟩ := hrel
    cases r with
    | nil =>
      have hiN : i = N := by simpa [Il.len] using hi
      subst hiN
      go_wp2
      go_ret
      exact ⟨by rw [hc.out]; rfl, hb.out⟩
    | cons op x y n ls body els rest =>
      have hlen : i + (rest.len + 1) = N := hi
      have hlt : i < N := by omega
      obtain ⟨b, o, a4, k4, a5, k5, a6, k6, rfl, hh, hrest⟩ := hr.out.head
      obtain ⟨c0, c1, c2, c3, c4, c5, c6, i4, l5, i5, l6, i6⟩ := hh
      have hr2 := Lib.hid hrest
      have hi5 := Lib.hid i5
      have hi6 := Lib.hid i6
      have hal : ∀ o, Below wr.heap.size wr (wr.alloc o) := fun o => (Below.refl _ _).alloc (Nat.le_refl _) o
      have hcb := fun w left h0 h1 h2 => Lib.hid (hsub.out.1 a5 k5 w left l5 h0 h1 h2)
      have hce := fun w left h0 h1 h2 => Lib.hid (hsub.out.2.1 a6 k6 w left l6 h0 h1 h2)
      have hsr := Lib.hid hsub.out.2.2
      clear hr hrest i4 i5 i6 hi hsub
      by_cases hL : 0 ≤ L - 1
      · have hb1 := cnt_bd body (L - 1) hL
        have hc2 : Hid (cnt l left = (if (if 0 ≤ cnt body (L - 1) then cnt els (cnt body (L - 1)) else cnt body (L - 1)) < 0 then -1 else cnt rest (if 0 ≤ cnt body (L - 1) then cnt els (cnt body (L - 1)) else cnt body (L - 1)))) := Lib.hid (by rw [hc.out]; show (if (if 0 ≤ (if 0 ≤ L - 1 then cnt body (L - 1) else L - 1) then _ else _) < 0 then _ else _) = _; rw [if_pos hL])
        clear hc
        generalize hX : cnt body (L - 1) = X at *
        go_wp2_with fail
        refine (hcb _ _ (hi5.out.below (hal _)) hL (by omega)).out.mono ?_
        rw [hX]
        clear hX
        rintro e w2 ⟨rfl, b2⟩
        have hb2 := Lib.hid ((hal _).trans (b2.mono (by simp)))
        have g6 : w2.cell? ⟨wr.heap.size, 6, none⟩ = some (.slice a6 els.len k6) := keep_below b2 _ _ (World.cell?_alloc_at _ _ _ 6 (by simp))
        clear b2
        by_cases hX0 : 0 ≤ X
        · have hb3 := cnt_bd els X hX0
          rw [if_pos hX0] at hc2
          generalize hY : cnt els X = Y at *
          go_wp2_with fail
          refine (hce _ _ (hi6.out.below hb2.out) hX0 (by omega)).out.mono ?_
          rw [hY]
          clear hY
          rintro e w3 ⟨rfl, b3⟩
          have hb4 := Lib.hid (hb2.out.trans (b3.mono hb2.out.size))
          clear b3 hb2
          by_cases hY0 : Y < 0
          · rw [if_pos hY0] at hc2
            go_wp2
            go_ret
            exact ⟨by rw [hc2.out]; rfl, hb.out.trans (hb4.out.mono hb.out.size)⟩
          · rw [if_neg hY0] at hc2
            go_wp2
            go_roundw
            case rel => exact ⟨i + 1, rest, Y, by simp, rfl, by omega, by omega, by omega, Lib.hid (hr2.out.below hb4.out), hsr, hc2, Lib.hid (hb.out.trans (hb4.out.mono hb.out.size))⟩
            case measure => simp [intOf]; omega
        · rw [if_neg hX0, if_pos (by omega)] at hc2
          go_wp2
          go_ret
          exact ⟨by rw [hc2.out]; rfl, hb.out.trans (hb2.out.mono hb.out.size)⟩
      · have hc2 : Hid (cnt l left = -1) := Lib.hid (by
          rw [hc.out]
          show (if (if 0 ≤ (if 0 ≤ L - 1 then cnt body (L - 1) else L - 1) then _ else _) < 0 then _ else _) = _
          rw [if_neg hL, if_neg hL, if_pos (by omega)])
        clear hc
        go_wp2
        go_ret
        exact ⟨by rw [hc2.out]; rfl, hb.out.trans ((hal _).mono hb.out.size)⟩
theorem counted_any (l : Il) : CountedC l := Il.each counted_step l
end Go.Proofs.YtacohbllbjgdgaaDoor
namespace Go.Proofs.YtacohbllbjgdgaaDoor
open Go.RowKit
set_option linter.unusedVariables false

theorem endE_yes (n : Int) : endE true n = .returned (.tuple #[]) := rfl
theorem endE_no (n : Int) : endE false n = .panicked (fault n) := rfl

theorem IntsIn.cell {w : World} {ao : Option Addr} {l : List Int} {i : Nat} {x : Int} (h : IntsIn w ao l) (hx : l[i]? = some x) : ∃ b o, ao = some ⟨b, o, none⟩ ∧ w.cell? ⟨b, o + i, none⟩ = some (.int .i64 x) := by
  rcases h with ⟨_, rfl | ⟨b, o, e, h⟩⟩
  · simp at hx
  · exact ⟨b, o, e, h i x hx⟩

def idx1 (n : Int) : Bool := decide (0 ≤ n) && decide (n < 4294967296)
def typ1 (n : Int) : Bool := n == 127 || n == 126

theorem all_drop {f : Int → Bool} {l : List Int} {i : Nat} {x : Int} (hx : l[i]? = some x) (h : (l.take i).all f = true) : (f x = true → (l.take (i + 1)).all f = true) ∧ (f x = false → l.all f = false) := by
  have hi := (List.getElem?_eq_some_iff.1 hx).1
  have he := (List.getElem?_eq_some_iff.1 hx).2
  constructor
  · intro hf
    rw [List.take_add_one, hx]
    simp [h, hf]
  · intro hf
    rw [List.all_eq_false]
    exact ⟨x, by rw [← he]; exact List.getElem_mem hi, by simp [hf]⟩

set_option maxRecDepth 100000 in
set_option maxHeartbeats 4000000 in
theorem index_any (l : List Int) (ao : Option Addr) (c : Nat) (w : World) (h : IntsIn w ao l) :
    Calls Tryd.prog 33 #[.slice ao l.length c] w fun e w' => e = endE (l.all idx1) 30 ∧ w = w' := by
  obtain ⟨N, hN⟩ : ∃ N, l.length = N := ⟨_, rfl⟩
  have hl := h.1
  have HI := Lib.hid h
  clear h
  rw [hN] at hl ⊢
  go_enter Tryd.func33, Tryd.ntmps33
  go_wp2_with fail
  go_loop [6] (fun vi => ∃ i : Nat, i ≤ N ∧ vi = .int .i64 i ∧ Hid ((l.take i).all idx1 = true)) (fun vi => N - (intOf vi).toNat)
  case atStart => exact ⟨0, Nat.zero_le _, rfl, Lib.hid rfl⟩
  case round =>
    obtain ⟨i, hi, rfl, ha⟩ := hrel
    by_cases hlt : i < N
    · obtain ⟨x, hx⟩ : ∃ x, l[i]? = some x := ⟨_, List.getElem?_eq_getElem (by omega)⟩
      obtain ⟨b, o, rfl, hcell⟩ := HI.out.cell hx
      have hn := Lib.hid (all_drop hx ha.out)
      clear hx
      by_cases h1 : 0 ≤ x
      · by_cases h2 : x < 4294967296
        · have hf : idx1 x = true := by simp [idx1, h1, h2]
          have hn2 := Lib.hid (hn.out.1 hf)
          clear hn hf
          go_wp2_with fail
          refine (want_yes 30 _).mono ?_
          rintro e w' ⟨rfl, rfl⟩
          go_wp2
          go_round
          case rel => exact ⟨i + 1, by omega, by simp, hn2⟩
          case measure => simp [intOf]; omega
        · have hf : idx1 x = false := by simp [idx1]; omega
          have hn2 := Lib.hid (hn.out.2 hf)
          clear hn hf
          go_wp2_with fail
          refine (want_no 30 _).mono ?_
          rintro e w' ⟨rfl, rfl⟩
          go_wp2
          exact ⟨rfl, by rw [hn2.out]; rfl, rfl⟩
      · have hf : idx1 x = false := by simp [idx1]; omega
        have hn2 := Lib.hid (hn.out.2 hf)
        clear hn hf
        go_wp2_with fail
        refine (want_no 30 _).mono ?_
        rintro e w' ⟨rfl, rfl⟩
        go_wp2
        exact ⟨rfl, by rw [hn2.out]; rfl, rfl⟩
    · obtain rfl : i = N := by omega
      have ht : l.take i = l := by rw [← hN]; exact List.take_length
      have ha2 := Lib.hid (ht ▸ ha.out)
      clear ht
      go_wp2
      go_end0
      exact ⟨by rw [ha2.out]; rfl, rfl⟩

set_option maxRecDepth 100000 in
set_option maxHeartbeats 4000000 in
theorem typed_any (l : List Int) (ao : Option Addr) (c : Nat) (w : World) (h : IntsIn w ao l) :
    Calls Tryd.prog 32 #[.slice ao l.length c] w fun e w' => e = endE (l.all typ1) 30 ∧ w = w' := by
  obtain ⟨N, hN⟩ : ∃ N, l.length = N := ⟨_, rfl⟩
  have hl := h.1
  have HI := Lib.hid h
  clear h
  rw [hN] at hl ⊢
  go_enter Tryd.func32, Tryd.ntmps32
  go_wp2_with fail
  go_loop [6] (fun vi => ∃ i : Nat, i ≤ N ∧ vi = .int .i64 i ∧ Hid ((l.take i).all typ1 = true)) (fun vi => N - (intOf vi).toNat)
  case atStart => exact ⟨0, Nat.zero_le _, rfl, Lib.hid rfl⟩
  case round =>
    obtain ⟨i, hi, rfl, ha⟩ := hrel
    by_cases hlt : i < N
    · obtain ⟨x, hx⟩ : ∃ x, l[i]? = some x := ⟨_, List.getElem?_eq_getElem (by omega)⟩
      obtain ⟨b, o, rfl, hcell⟩ := HI.out.cell hx
      have hn := Lib.hid (all_drop hx ha.out)
      clear hx
      by_cases h1 : x = 127
      · subst h1
        have hn2 := Lib.hid (hn.out.1 rfl)
        clear hn
        go_wp2_with fail
        refine (want_yes 30 _).mono ?_
        rintro e w' ⟨rfl, rfl⟩
        go_wp2
        go_round
        case rel => exact ⟨i + 1, by omega, by simp, hn2⟩
        case measure => simp [intOf]; omega
      · by_cases h2 : x = 126
        · subst h2
          have hn2 := Lib.hid (hn.out.1 rfl)
          clear hn
          go_wp2_with fail
          refine (want_yes 30 _).mono ?_
          rintro e w' ⟨rfl, rfl⟩
          go_wp2
          go_round
          case rel => exact ⟨i + 1, by omega, by simp, hn2⟩
          case measure => simp [intOf]; omega
        · have q1 : (x == 127) = false := by simp [h1]
          have q2 : (x == 126) = false := by simp [h2]
          have hf : typ1 x = false := by simp [typ1, h1, h2]
          have hn2 := Lib.hid (hn.out.2 hf)
          clear hn hf
          go_wp2_with fail
          refine (want_no 30 _).mono ?_
          rintro e w' ⟨rfl, rfl⟩
          go_wp2
          exact ⟨rfl, by rw [hn2.out]; rfl, rfl⟩
    · obtain rfl : i = N := by omega
      have ht : l.take i = l := by rw [← hN]; exact List.take_length
      have ha2 := Lib.hid (ht ▸ ha.out)
      clear ht
      go_wp2
      go_end0
      exact ⟨by rw [ha2.out]; rfl, rfl⟩
end Go.Proofs.YtacohbllbjgdgaaDoor
