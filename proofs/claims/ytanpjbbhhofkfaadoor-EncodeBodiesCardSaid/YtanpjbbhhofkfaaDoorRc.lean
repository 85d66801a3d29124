/- The reference: index, types, indices, limits. -/
import Derived.Test.YtanpjbbhhofkfaaDoorRa
import Derived.Test.YtanpjbbhhofkfaaDoorFc
import Derived.Test.YtanpjbbhhofkfaaDoorMi
namespace Go.Proofs.YtanpjbbhhofkfaaDoor
open Go.RowKit
set_option linter.unusedVariables false

set_option maxRecDepth 100000 in
theorem rindex_any (n : Int) (w : World) : Calls Tryd.prog 74 #[.int .i64 n] w fun e w' => e = .returned (.bool (idx1 n)) ∧ w = w' := by
  by_cases h1 : 0 ≤ n
  · by_cases h2 : n ≤ 4294967295
    · have hv : idx1 n = true := by unfold idx1; rw [decide_eq_true h1, decide_eq_true (by omega)]; rfl
      go_enter Tryd.func74, Tryd.ntmps74
      go_wp2
      go_ret
      exact ⟨by rw [hv]; rfl, rfl⟩
    · have hv : idx1 n = false := by unfold idx1; rw [decide_eq_true h1, decide_eq_false (by omega)]; rfl
      go_enter Tryd.func74, Tryd.ntmps74
      go_wp2
      go_ret
      exact ⟨rfl, rfl⟩
  · have hv : idx1 n = false := by unfold idx1; rw [decide_eq_false h1]; rfl
    go_enter Tryd.func74, Tryd.ntmps74
    go_wp2
    go_ret
    exact ⟨rfl, rfl⟩

set_option maxRecDepth 100000 in
set_option maxHeartbeats 1500000 in
theorem rtypes_any (l : List Int) (ao : Option Addr) (c : Nat) (w : World) (h : IntsIn w ao l) :
    Calls Tryd.prog 73 #[.slice ao l.length c] w fun e w' => e = .returned (.bool (l.all typ1)) ∧ w = w' := by
  obtain ⟨N, hN⟩ : ∃ N, l.length = N := ⟨_, rfl⟩
  have hl := h.1
  have HI := Lib.hid h
  clear h
  rw [hN] at hl ⊢
  go_enter Tryd.func73, Tryd.ntmps73
  go_wp2_with fail
  go_loopw [3] (fun vi wr => ∃ i : Nat, i ≤ N ∧ vi = .int .i64 i ∧ wr = w ∧ Hid ((l.take i).all typ1 = true)) (fun vi _ => N - (intOf vi).toNat)
  case atStart => exact ⟨0, Nat.zero_le _, rfl, rfl, Lib.hid rfl⟩
  case round =>
    obtain ⟨i, hi, rfl, rfl, ha⟩ := hrel
    by_cases hlt : i < N
    · obtain ⟨x, hx⟩ : ∃ x, l[i]? = some x := ⟨_, List.getElem?_eq_getElem (by omega)⟩
      obtain ⟨b, o, rfl, hcell⟩ := HI.out.cell hx
      have hn := Lib.hid (all_drop hx ha.out)
      clear hx ha
      by_cases h6 : x = 126
      · subst h6
        have hn2 := Lib.hid (hn.out.1 rfl)
        clear hn
        go_wp2
        exact ⟨⟨i + 1, by omega, by simp, trivial, hn2⟩, by simp [intOf]; omega⟩
      by_cases h7 : x = 127
      · subst h7
        have hn2 := Lib.hid (hn.out.1 rfl)
        clear hn
        go_wp2
        exact ⟨⟨i + 1, by omega, by simp, trivial, hn2⟩, by simp [intOf]; omega⟩
      have hf : typ1 x = false := by unfold typ1; simp [h6, h7]
      have q6 : (x != 126) = true := by simp [h6]
      have q7 : (x != 127) = true := by simp [h7]
      have hv := hn.out.2 hf
      clear hn
      go_wp2
      go_ret
      exact ⟨by rw [hv]; rfl, rfl⟩
    · have hiN : i = N := by omega
      subst hiN
      have ha2 : l.all typ1 = true := by have := ha.out; rwa [List.take_of_length_le (by omega)] at this
      clear ha
      go_wp2
      go_ret
      exact ⟨by rw [ha2]; rfl, rfl⟩

set_option maxRecDepth 100000 in
set_option maxHeartbeats 1500000 in
theorem rindices_any (l : List Int) (ao : Option Addr) (c : Nat) (w : World) (h : IntsIn w ao l) :
    Calls Tryd.prog 79 #[.slice ao l.length c] w fun e w' => e = .returned (.bool (l.all idx1)) ∧ w = w' := by
  obtain ⟨N, hN⟩ : ∃ N, l.length = N := ⟨_, rfl⟩
  have hl := h.1
  have HI := Lib.hid h
  clear h
  rw [hN] at hl ⊢
  go_enter Tryd.func79, Tryd.ntmps79
  go_wp2_with fail
  go_loopw [3] (fun vi wr => ∃ i : Nat, i ≤ N ∧ vi = .int .i64 i ∧ wr = w ∧ Hid ((l.take i).all idx1 = true)) (fun vi _ => N - (intOf vi).toNat)
  case atStart => exact ⟨0, Nat.zero_le _, rfl, rfl, Lib.hid rfl⟩
  case round =>
    obtain ⟨i, hi, rfl, rfl, ha⟩ := hrel
    by_cases hlt : i < N
    · obtain ⟨x, hx⟩ : ∃ x, l[i]? = some x := ⟨_, List.getElem?_eq_getElem (by omega)⟩
      obtain ⟨b, o, rfl, hcell⟩ := HI.out.cell hx
      have hn := Lib.hid (all_drop hx ha.out)
      clear hx ha
      go_wp2_with fail
      refine (rindex_any x _).mono ?_
      rintro e w2 ⟨rfl, rfl⟩
      cases hX : idx1 x
      · have hv := hn.out.2 hX
        clear hn
        go_wp2
        go_ret
        exact ⟨by rw [hv]; rfl, rfl⟩
      · have hn2 := Lib.hid (hn.out.1 hX)
        clear hn
        go_wp2
        exact ⟨⟨i + 1, by omega, by simp, trivial, hn2⟩, by simp [intOf]; omega⟩
    · have hiN : i = N := by omega
      subst hiN
      have ha2 : l.all idx1 = true := by have := ha.out; rwa [List.take_of_length_le (by omega)] at this
      clear ha
      go_wp2
      go_ret
      exact ⟨by rw [ha2]; rfl, rfl⟩

set_option maxRecDepth 100000 in
set_option maxHeartbeats 1500000 in
theorem rlimits_any (l : List (Int × Int × Bool)) (ao : Option Addr) (c : Nat) (w : World) (h : RowsIn LimitsAt 3 w ao l) :
    Calls Tryd.prog 80 #[.slice ao l.length c] w fun e w' => e = .returned (.bool (l.all lim1)) ∧ w = w' := by
  obtain ⟨N, hN⟩ : ∃ N, l.length = N := ⟨_, rfl⟩
  have hl := h.1
  have HI := Lib.hid h
  clear h
  rw [hN] at hl ⊢
  go_enter Tryd.func80, Tryd.ntmps80
  go_wp2_with fail
  go_loopw [3] (fun vi wr => ∃ i : Nat, i ≤ N ∧ vi = .int .i64 i ∧ wr = w ∧ Hid ((l.take i).all lim1 = true)) (fun vi _ => N - (intOf vi).toNat)
  case atStart => exact ⟨0, Nat.zero_le _, rfl, rfl, Lib.hid rfl⟩
  case round =>
    obtain ⟨i, hi, rfl, rfl, ha⟩ := hrel
    by_cases hlt : i < N
    · obtain ⟨t, ht⟩ : ∃ t, l[i]? = some t := ⟨_, List.getElem?_eq_getElem (by omega)⟩
      obtain ⟨b, o, rfl, hrow⟩ := HI.out.row ht
      obtain ⟨mn, mx, has⟩ := t
      obtain ⟨c0, c1, c2⟩ := hrow
      have c0 : wr.cell? ⟨b, o + i * 3, none⟩ = some (.int .i64 mn) := c0
      have c1 : wr.cell? ⟨b, o + i * 3 + 1, none⟩ = some (.int .i64 mx) := c1
      have c2 : wr.cell? ⟨b, o + i * 3 + 2, none⟩ = some (.bool has) := c2
      have hn := Lib.hid (all_row ht ha.out)
      clear ht ha
      go_wp2_with fail
      refine (rindex_any mn _).mono ?_
      rintro e w2 ⟨rfl, rfl⟩
      cases hX : idx1 mn
      · have hv := hn.out.2 (by unfold lim1; rw [hX]; rfl)
        clear hn
        go_wp2
        go_ret
        exact ⟨by rw [hv]; rfl, rfl⟩
      · go_wp2_with fail
        refine (rindex_any mx _).mono ?_
        rintro e w2 ⟨rfl, rfl⟩
        cases hY : idx1 mx
        · have hv := hn.out.2 (by unfold lim1; rw [hX, hY]; rfl)
          clear hn
          go_wp2
          go_ret
          exact ⟨by rw [hv]; rfl, rfl⟩
        · cases has
          · by_cases h0 : mx = 0
            · subst h0
              have hn2 := Lib.hid (hn.out.1 (by unfold lim1; rw [hX, hY]; rfl))
              clear hn
              go_wp2
              exact ⟨⟨i + 1, by omega, by simp, trivial, hn2⟩, by simp [intOf]; omega⟩
            · have q0 : (mx == 0) = false := by simp [h0]
              have hv := hn.out.2 (by unfold lim1; rw [hX, hY]; exact q0)
              clear hn
              go_wp2
              go_ret
              exact ⟨by rw [hv]; rfl, rfl⟩
          · have hn2 := Lib.hid (hn.out.1 (by unfold lim1; rw [hX, hY]; rfl))
            clear hn
            go_wp2
            exact ⟨⟨i + 1, by omega, by simp, trivial, hn2⟩, by simp [intOf]; omega⟩
    · have hiN : i = N := by omega
      subst hiN
      have ha2 : l.all lim1 = true := by have := ha.out; rwa [List.take_of_length_le (by omega)] at this
      clear ha
      go_wp2
      go_ret
      exact ⟨by rw [ha2]; rfl, rfl⟩
end Go.Proofs.YtanpjbbhhofkfaaDoor
