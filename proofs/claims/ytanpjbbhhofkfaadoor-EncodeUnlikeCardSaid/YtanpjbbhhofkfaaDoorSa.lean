/- The reference: are lists of numbers alike? -/
import Derived.Test.YtanpjbbhhofkfaaDoorRa
namespace Go.Proofs.YtanpjbbhhofkfaaDoor
open Go.RowKit
set_option linter.unusedVariables false

theorem IntsIn.drewN {w : World} {a : Option Addr} {l : List Int} (h : IntsIn w a l) (n : Nat) : IntsIn (w.drewN n) a l := h.below (below_drewN (Below.refl _ _) n)
theorem take_eq_step {α : Type} {l l' : List α} {i : Nat} {x y : α} (hx : l[i]? = some x) (hy : l'[i]? = some y) (h : l.take i = l'.take i) : (x = y → l.take (i + 1) = l'.take (i + 1)) ∧ (¬ x = y → ¬ l = l') := by
  constructor
  · intro e
    rw [List.take_add_one, List.take_add_one, hx, hy, h, e]
  · intro e e2
    subst e2
    rw [hx] at hy
    exact e (Option.some.inj hy)

set_option maxRecDepth 100000 in
set_option maxHeartbeats 1500000 in
theorem keepSame_any (l l' : List Int) (a a' : Option Addr) (c c' : Nat) (w : World) (h : IntsIn w a l) (h' : IntsIn w a' l') :
    Calls Tryd.prog 33 #[.slice a l.length c, .slice a' l'.length c'] w fun e w' => e = .returned (.bool (decide (l = l'))) ∧ ∃ m, w' = w.drewN m := by
  obtain ⟨N, hN⟩ : ∃ N, l.length = N := ⟨_, rfl⟩
  obtain ⟨N', hN'⟩ : ∃ N, l'.length = N := ⟨_, rfl⟩
  have hl := h.1
  have hl' := h'.1
  have HI := Lib.hid h
  have HI' := Lib.hid h'
  clear h h'
  rw [hN] at hl ⊢
  rw [hN'] at hl' ⊢
  go_enter Tryd.func33, Tryd.ntmps33
  by_cases hne : N = N'
  · subst hne
    go_wp2_with fail
    go_loopw [5] (fun vi wr => ∃ (i m : Nat), i ≤ N ∧ vi = .int .i64 i ∧ Hid (wr = w.drewN m) ∧ Hid (l.take i = l'.take i)) (fun vi _ => N - (intOf vi).toNat)
    case atStart => exact ⟨0, 0, Nat.zero_le _, rfl, Lib.hid rfl, Lib.hid rfl⟩
    case round =>
      obtain ⟨i, m, hi, rfl, hwr, ha⟩ := hrel
      by_cases hlt : i < N
      · obtain ⟨x, hx⟩ : ∃ x, l[i]? = some x := ⟨_, List.getElem?_eq_getElem (by omega)⟩
        obtain ⟨y, hy⟩ : ∃ x, l'[i]? = some x := ⟨_, List.getElem?_eq_getElem (by omega)⟩
        have hi1 : IntsIn wr a l := by rw [hwr.out]; exact HI.out.drewN m
        have hi2 : IntsIn wr a' l' := by rw [hwr.out]; exact HI'.out.drewN m
        obtain ⟨b, o, rfl, hc⟩ := hi1.cell hx
        obtain ⟨b', o', rfl, hc'⟩ := hi2.cell hy
        have hn := Lib.hid (take_eq_step hx hy ha.out)
        clear hx hy ha hi1 hi2
        by_cases hxy : x = y
        · have hn2 := Lib.hid (hn.out.1 hxy)
          subst hxy
          clear hn
          go_wp2_with fail
          go_quiet (fail)
          go_wp2
          exact ⟨⟨i + 1, m + nq, by omega, by simp, Lib.hid (by rw [hwr.out, World.drewN_drewN]), hn2⟩, by simp [intOf]; omega⟩
        · have hn2 := Lib.hid (hn.out.2 hxy)
          have q : (x != y) = true := by simp [hxy]
          clear hn
          go_wp2_with fail
          go_quiet (fail)
          go_wp2
          go_ret
          exact ⟨by rw [decide_eq_false hn2.out]; rfl, m + nq, by rw [hwr.out, World.drewN_drewN]⟩
      · have hiN : i = N := by omega
        have hv : l = l' := by
          have := ha.out
          rwa [List.take_of_length_le (by omega), List.take_of_length_le (by omega)] at this
        clear ha
        go_wp2
        go_ret
        exact ⟨by rw [decide_eq_true hv]; rfl, m, hwr.out⟩
  · have hv : ¬ l = l' := fun e => hne (by rw [← hN, ← hN', e])
    have q : ((N : Int) != (N' : Int)) = true := by simp; omega
    go_wp2
    go_ret
    exact ⟨by rw [decide_eq_false hv]; rfl, 0, rfl⟩
end Go.Proofs.YtanpjbbhhofkfaaDoor
