/- The contracts of index, typed, labelled, flat. -/
import Derived.Test.YtofleejokkdklaaDoorMc
namespace Go.Proofs.YtofleejokkdklaaDoor
open Go.RowKit
set_option linter.unusedVariables false

theorem endE_yes (n : Int) : endE true n = .returned (.tuple #[]) := rfl
theorem endE_no (n : Int) : endE false n = .panicked (fault n) := rfl

theorem IntsIn.cell {w : World} {ao : Option Addr} {l : List Int} {i : Nat} {x : Int} (h : IntsIn w ao l) (hx : l[i]? = some x) : ∃ b o, ao = some ⟨b, o, none⟩ ∧ w.cell? ⟨b, o + i, none⟩ = some (.int .i64 x) := by
  rcases h with ⟨_, rfl | ⟨b, o, e, h⟩⟩
  · simp at hx
  · exact ⟨b, o, e, h i x hx⟩

def idx1 (n : Int) : Bool := decide (0 ≤ n) && decide (n < 4294967296)
def typ1 (n : Int) : Bool := n == 127 || n == 126

theorem all_drop {f : Int → Bool} {l : List Int} {i : Nat} {x : Int} (hx : l[i]? = some x) (h : (l.take i).all f = true) : (f x = true → (l.take (i + 1)).all f = true) ∧ (f x = false → l.all f = false) := by
  have hi := (List.getElem?_eq_some_iff.1 hx).1
  have he := (List.getElem?_eq_some_iff.1 hx).2
  constructor
  · intro hf
    rw [List.take_add_one, hx]
    simp [h, hf]
  · intro hf
    rw [List.all_eq_false]
    exact ⟨x, by rw [← he]; exact List.getElem_mem hi, by simp [hf]⟩

set_option maxRecDepth 100000 in
set_option maxHeartbeats 4000000 in
theorem index_any (l : List Int) (ao : Option Addr) (c : Nat) (w : World) (h : IntsIn w ao l) :
    Calls Tryd.prog 66 #[.slice ao l.length c] w fun e w' => e = endE (l.all idx1) 30 ∧ w = w' := by
  obtain ⟨N, hN⟩ : ∃ N, l.length = N := ⟨_, rfl⟩
  have hl := h.1
  have HI := Lib.hid h
  clear h
  rw [hN] at hl ⊢
  go_enter Tryd.func66, Tryd.ntmps66
  go_wp2_with fail
  go_loop [6] (fun vi => ∃ i : Nat, i ≤ N ∧ vi = .int .i64 i ∧ Hid ((l.take i).all idx1 = true)) (fun vi => N - (intOf vi).toNat)
  case atStart => exact ⟨0, Nat.zero_le _, rfl, Lib.hid rfl⟩
  case round =>
    obtain ⟨i, hi, rfl, ha⟩ := hrel
    by_cases hlt : i < N
    · obtain ⟨x, hx⟩ : ∃ x, l[i]? = some x := ⟨_, List.getElem?_eq_getElem (by omega)⟩
      obtain ⟨b, o, rfl, hcell⟩ := HI.out.cell hx
      have hn := Lib.hid (all_drop hx ha.out)
      clear hx
      by_cases h1 : 0 ≤ x
      · by_cases h2 : x < 4294967296
        · have hf : idx1 x = true := by simp [idx1, h1, h2]
          have hn2 := Lib.hid (hn.out.1 hf)
          clear hn hf
          go_wp2_with fail
          refine (want_yes 30 _).mono ?_
          rintro e w' ⟨rfl, rfl⟩
          go_wp2
          go_round
          case rel => exact ⟨i + 1, by omega, by simp, hn2⟩
          case measure => simp [intOf]; omega
        · have hf : idx1 x = false := by simp [idx1]; omega
          have hn2 := Lib.hid (hn.out.2 hf)
          clear hn hf
          go_wp2_with fail
          refine (want_no 30 _).mono ?_
          rintro e w' ⟨rfl, rfl⟩
          go_wp2
          exact ⟨rfl, by rw [hn2.out]; rfl, rfl⟩
      · have hf : idx1 x = false := by simp [idx1]; omega
        have hn2 := Lib.hid (hn.out.2 hf)
        clear hn hf
        go_wp2_with fail
        refine (want_no 30 _).mono ?_
        rintro e w' ⟨rfl, rfl⟩
        go_wp2
        exact ⟨rfl, by rw [hn2.out]; rfl, rfl⟩
    · obtain rfl : i = N := by omega
      have ht : l.take i = l := by rw [← hN]; exact List.take_length
      have ha2 := Lib.hid (ht ▸ ha.out)
      clear ht
      go_wp2
      go_end0
      exact ⟨by rw [ha2.out]; rfl, rfl⟩

set_option maxRecDepth 100000 in
set_option maxHeartbeats 4000000 in
theorem typed_any (l : List Int) (ao : Option Addr) (c : Nat) (w : World) (h : IntsIn w ao l) :
    Calls Tryd.prog 65 #[.slice ao l.length c] w fun e w' => e = endE (l.all typ1) 30 ∧ w = w' := by
  obtain ⟨N, hN⟩ : ∃ N, l.length = N := ⟨_, rfl⟩
  have hl := h.1
  have HI := Lib.hid h
  clear h
  rw [hN] at hl ⊢
  go_enter Tryd.func65, Tryd.ntmps65
  go_wp2_with fail
  go_loop [6] (fun vi => ∃ i : Nat, i ≤ N ∧ vi = .int .i64 i ∧ Hid ((l.take i).all typ1 = true)) (fun vi => N - (intOf vi).toNat)
  case atStart => exact ⟨0, Nat.zero_le _, rfl, Lib.hid rfl⟩
  case round =>
    obtain ⟨i, hi, rfl, ha⟩ := hrel
    by_cases hlt : i < N
    · obtain ⟨x, hx⟩ : ∃ x, l[i]? = some x := ⟨_, List.getElem?_eq_getElem (by omega)⟩
      obtain ⟨b, o, rfl, hcell⟩ := HI.out.cell hx
      have hn := Lib.hid (all_drop hx ha.out)
      clear hx
      by_cases h1 : x = 127
      · subst h1
        have hn2 := Lib.hid (hn.out.1 rfl)
        clear hn
        go_wp2_with fail
        refine (want_yes 30 _).mono ?_
        rintro e w' ⟨rfl, rfl⟩
        go_wp2
        go_round
        case rel => exact ⟨i + 1, by omega, by simp, hn2⟩
        case measure => simp [intOf]; omega
      · by_cases h2 : x = 126
        · subst h2
          have hn2 := Lib.hid (hn.out.1 rfl)
          clear hn
          go_wp2_with fail
          refine (want_yes 30 _).mono ?_
          rintro e w' ⟨rfl, rfl⟩
          go_wp2
          go_round
          case rel => exact ⟨i + 1, by omega, by simp, hn2⟩
          case measure => simp [intOf]; omega
        · have q1 : (x == 127) = false := by simp [h1]
          have q2 : (x == 126) = false := by simp [h2]
          have hf : typ1 x = false := by simp [typ1, h1, h2]
          have hn2 := Lib.hid (hn.out.2 hf)
          clear hn hf
          go_wp2_with fail
          refine (want_no 30 _).mono ?_
          rintro e w' ⟨rfl, rfl⟩
          go_wp2
          exact ⟨rfl, by rw [hn2.out]; rfl, rfl⟩
    · obtain rfl : i = N := by omega
      have ht : l.take i = l := by rw [← hN]; exact List.take_length
      have ha2 := Lib.hid (ht ▸ ha.out)
      clear ht
      go_wp2
      go_end0
      exact ⟨by rw [ha2.out]; rfl, rfl⟩
end Go.Proofs.YtofleejokkdklaaDoor
