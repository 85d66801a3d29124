/- The library's Equal over rows. -/
import Derived.Test.YtofleejokkdklaaDoorEa
import Derived.Test.YtofleejokkdklaaDoorSb
import Derived.Laws.Strings
namespace Go.Proofs.YtofleejokkdklaaDoor
open Go.RowKit
set_option linter.unusedVariables false
set_option linter.unusedSimpArgs false

def eqB {α β : Type} (Q : α × β → Bool) (l : List α) (l' : List β) : Bool := decide (l.length = l'.length) && (l.zip l').all Q
theorem eqB_len {α β : Type} {Q : α × β → Bool} {l : List α} {l' : List β} (h : l.length ≠ l'.length) : eqB Q l l' = false := by simp [eqB, h]
theorem eqB_all {α β : Type} {Q : α × β → Bool} {l : List α} {l' : List β} (h : l.length = l'.length) : eqB Q l l' = (l.zip l').all Q := by simp [eqB, h]
theorem eqB_step {α β : Type} {Q : α × β → Bool} {l : List α} {l' : List β} {i : Nat} {x : α} {y : β} (hx : l[i]? = some x) (hy : l'[i]? = some y) (hl : l.length = l'.length) (h : ((l.zip l').take i).all Q = true) :
    (Q (x, y) = true → ((l.zip l').take (i + 1)).all Q = true) ∧ (Q (x, y) = false → eqB Q l l' = false) := by
  have := all_row (zip_at hx hy) h
  rw [eqB_all hl]
  exact this
theorem eqB_end {α β : Type} {Q : α × β → Bool} {l : List α} {l' : List β} (hl : l.length = l'.length) (h : ((l.zip l').take l.length).all Q = true) : eqB Q l l' = true := by
  rw [eqB_all hl]
  rwa [zip_end hl] at h
theorem RowsIn.drewN {α : Type} {F : World → Nat → Nat → α → Prop} {k : Nat} {w : World} {ao : Option Addr} {xs : List α} (hF : ∀ b o x w', Keeps w w' → F w b o x → F w' b o x) (h : RowsIn F k w ao xs) (n : Nat) : RowsIn F k (w.drewN n) ao xs := h.keep fun b o x => hF b o x _ (keep_below (below_drewN (Below.refl _ _) n))

set_option maxRecDepth 100000 in
set_option maxHeartbeats 2000000 in
theorem equalImports_any (l l' : List (ByteArray × ByteArray × Int)) (a a' : Option Addr) (c c' : Nat) (w : World) (h : RowsIn ImportAt 3 w a l) (h' : RowsIn ImportAt 3 w a' l') :
    Calls Tryd.prog 46 #[.slice a l.length c, .slice a' l'.length c'] w fun e w' => e = .returned (.bool (eqB impQ l l')) ∧ ∃ m, w' = w.drewN m := by
  obtain ⟨N, hN⟩ : ∃ N, l.length = N := ⟨_, rfl⟩
  obtain ⟨N', hN'⟩ : ∃ N, l'.length = N := ⟨_, rfl⟩
  have hl := h.1
  have hl' := h'.1
  have HI := Lib.hid h
  have HI' := Lib.hid h'
  clear h h'
  rw [hN] at hl ⊢
  rw [hN'] at hl' ⊢
  go_enter Tryd.func46, Tryd.ntmps46
  by_cases hne : N = N'
  · subst hne
    have hll := Lib.hid (hN.trans hN'.symm)
    go_wp2_with fail
    go_loopw [13] (fun vi wr => ∃ (i m : Nat), i ≤ N ∧ vi = .int .i64 i ∧ Hid (wr = w.drewN m) ∧ Hid (((l.zip l').take i).all impQ = true)) (fun vi _ => N - (intOf vi).toNat)
    case atStart => exact ⟨0, 0, Nat.zero_le _, rfl, Lib.hid rfl, Lib.hid rfl⟩
    case round =>
      obtain ⟨i, m, hi, rfl, hwr, ha⟩ := hrel
      by_cases hlt : i < N
      · obtain ⟨x, hx⟩ : ∃ x, l[i]? = some x := ⟨_, List.getElem?_eq_getElem (by omega)⟩
        obtain ⟨y, hy⟩ : ∃ x, l'[i]? = some x := ⟨_, List.getElem?_eq_getElem (by omega)⟩
        have hi1 : RowsIn ImportAt 3 wr a l := by rw [hwr.out]; exact HI.out.drewN (fun b o x w' k h => h.keep k) m
        have hi2 : RowsIn ImportAt 3 wr a' l' := by rw [hwr.out]; exact HI'.out.drewN (fun b o x w' k h => h.keep k) m
        obtain ⟨b, o, rfl, hrow⟩ := hi1.row hx
        obtain ⟨b', o', rfl, hrow'⟩ := hi2.row hy
        have hn := Lib.hid (eqB_step hx hy hll.out ha.out)
        clear hx hy ha hi1 hi2
        obtain ⟨s0, s1, v0⟩ := x
        obtain ⟨s0', s1', v0'⟩ := y
        obtain ⟨⟨c0, _⟩, ⟨c1, _⟩, c2⟩ := hrow
        obtain ⟨⟨c0', _⟩, ⟨c1', _⟩, c2'⟩ := hrow'
        unfold IntCell at c2 c2'
        simp only at c0 c1 c2 c0' c1' c2'
        have hiff : (s0.toList = s0'.toList ∧ s1.toList = s1'.toList ∧ v0 = v0') ↔ (s0, s1, v0) = (s0', s1', v0') := by simp only [Prod.mk.injEq, str_eq]
        by_cases z0 : s0.toList = s0'.toList
        · by_cases z1 : s1.toList = s1'.toList
          · by_cases z2 : v0 = v0'
            · have hn2 := Lib.hid (hn.out.1 (decide_eq_true (hiff.1 ⟨z0, z1, z2⟩)))
              clear hn hiff
              go_wp2_with fail
              go_quiet (fail)
              go_wp2
              exact ⟨⟨i + 1, m + nq, by omega, by simp, Lib.hid (by rw [hwr.out, World.drewN_drewN]), hn2⟩, by simp [intOf]; omega⟩
            · have hn2 := Lib.hid (hn.out.2 (decide_eq_false (fun e => z2 (hiff.2 e).2.2)))
              clear hn hiff
              go_wp2_with fail
              go_quiet (fail)
              go_wp2
              go_ret
              exact ⟨by rw [hn2.out]; rfl, m + nq, by rw [hwr.out, World.drewN_drewN]⟩
          · have hn2 := Lib.hid (hn.out.2 (decide_eq_false (fun e => z1 (hiff.2 e).2.1)))
            clear hn hiff
            go_wp2_with fail
            go_quiet (fail)
            go_wp2
            go_ret
            exact ⟨by rw [hn2.out]; rfl, m + nq, by rw [hwr.out, World.drewN_drewN]⟩
        · have hn2 := Lib.hid (hn.out.2 (decide_eq_false (fun e => z0 (hiff.2 e).1)))
          clear hn hiff
          go_wp2_with fail
          go_quiet (fail)
          go_wp2
          go_ret
          exact ⟨by rw [hn2.out]; rfl, m + nq, by rw [hwr.out, World.drewN_drewN]⟩
      · have hiN : i = N := by omega
        have hv : eqB impQ l l' = true := eqB_end hll.out (by rw [hN, ← hiN]; exact ha.out)
        clear ha
        go_wp2
        go_ret
        exact ⟨by rw [hv]; rfl, m, hwr.out⟩
  · have hv : eqB impQ l l' = false := eqB_len (fun e => hne (by rw [← hN, ← hN', e]))
    have q : ((N : Int) != (N' : Int)) = true := by simp; omega
    go_wp2
    go_ret
    exact ⟨by rw [hv]; rfl, 0, rfl⟩

set_option maxRecDepth 100000 in
set_option maxHeartbeats 2000000 in
theorem equalLimits_any (l l' : List (Int × Int × Bool)) (a a' : Option Addr) (c c' : Nat) (w : World) (h : RowsIn LimitsAt 3 w a l) (h' : RowsIn LimitsAt 3 w a' l') :
    Calls Tryd.prog 50 #[.slice a l.length c, .slice a' l'.length c'] w fun e w' => e = .returned (.bool (eqB limQ l l')) ∧ ∃ m, w' = w.drewN m := by
  obtain ⟨N, hN⟩ : ∃ N, l.length = N := ⟨_, rfl⟩
  obtain ⟨N', hN'⟩ : ∃ N, l'.length = N := ⟨_, rfl⟩
  have hl := h.1
  have hl' := h'.1
  have HI := Lib.hid h
  have HI' := Lib.hid h'
  clear h h'
  rw [hN] at hl ⊢
  rw [hN'] at hl' ⊢
  go_enter Tryd.func50, Tryd.ntmps50
  by_cases hne : N = N'
  · subst hne
    have hll := Lib.hid (hN.trans hN'.symm)
    go_wp2_with fail
    go_loopw [13] (fun vi wr => ∃ (i m : Nat), i ≤ N ∧ vi = .int .i64 i ∧ Hid (wr = w.drewN m) ∧ Hid (((l.zip l').take i).all limQ = true)) (fun vi _ => N - (intOf vi).toNat)
    case atStart => exact ⟨0, 0, Nat.zero_le _, rfl, Lib.hid rfl, Lib.hid rfl⟩
    case round =>
      obtain ⟨i, m, hi, rfl, hwr, ha⟩ := hrel
      by_cases hlt : i < N
      · obtain ⟨x, hx⟩ : ∃ x, l[i]? = some x := ⟨_, List.getElem?_eq_getElem (by omega)⟩
        obtain ⟨y, hy⟩ : ∃ x, l'[i]? = some x := ⟨_, List.getElem?_eq_getElem (by omega)⟩
        have hi1 : RowsIn LimitsAt 3 wr a l := by rw [hwr.out]; exact HI.out.drewN (fun b o x w' k h => h.keep k) m
        have hi2 : RowsIn LimitsAt 3 wr a' l' := by rw [hwr.out]; exact HI'.out.drewN (fun b o x w' k h => h.keep k) m
        obtain ⟨b, o, rfl, hrow⟩ := hi1.row hx
        obtain ⟨b', o', rfl, hrow'⟩ := hi2.row hy
        have hn := Lib.hid (eqB_step hx hy hll.out ha.out)
        clear hx hy ha hi1 hi2
        obtain ⟨v0, v1, k0⟩ := x
        obtain ⟨v0', v1', k0'⟩ := y
        obtain ⟨c0, c1, c2⟩ := hrow
        obtain ⟨c0', c1', c2'⟩ := hrow'
        unfold IntCell at c0 c1 c0' c1'
        unfold BoolCell at c2 c2'
        simp only at c0 c1 c2 c0' c1' c2'
        have hiff : (v0 = v0' ∧ v1 = v1' ∧ k0 = k0') ↔ (v0, v1, k0) = (v0', v1', k0') := by simp only [Prod.mk.injEq, str_eq]
        by_cases z0 : v0 = v0'
        · by_cases z1 : v1 = v1'
          · by_cases z2 : k0 = k0'
            · have hn2 := Lib.hid (hn.out.1 (decide_eq_true (hiff.1 ⟨z0, z1, z2⟩)))
              clear hn hiff
              go_wp2_with fail
              go_quiet (fail)
              go_wp2
              exact ⟨⟨i + 1, m + nq, by omega, by simp, Lib.hid (by rw [hwr.out, World.drewN_drewN]), hn2⟩, by simp [intOf]; omega⟩
            · have hn2 := Lib.hid (hn.out.2 (decide_eq_false (fun e => z2 (hiff.2 e).2.2)))
              clear hn hiff
              go_wp2_with fail
              go_quiet (fail)
              go_wp2
              go_ret
              exact ⟨by rw [hn2.out]; rfl, m + nq, by rw [hwr.out, World.drewN_drewN]⟩
          · have hn2 := Lib.hid (hn.out.2 (decide_eq_false (fun e => z1 (hiff.2 e).2.1)))
            clear hn hiff
            go_wp2_with fail
            go_quiet (fail)
            go_wp2
            go_ret
            exact ⟨by rw [hn2.out]; rfl, m + nq, by rw [hwr.out, World.drewN_drewN]⟩
        · have hn2 := Lib.hid (hn.out.2 (decide_eq_false (fun e => z0 (hiff.2 e).1)))
          clear hn hiff
          go_wp2_with fail
          go_quiet (fail)
          go_wp2
          go_ret
          exact ⟨by rw [hn2.out]; rfl, m + nq, by rw [hwr.out, World.drewN_drewN]⟩
      · have hiN : i = N := by omega
        have hv : eqB limQ l l' = true := eqB_end hll.out (by rw [hN, ← hiN]; exact ha.out)
        clear ha
        go_wp2
        go_ret
        exact ⟨by rw [hv]; rfl, m, hwr.out⟩
  · have hv : eqB limQ l l' = false := eqB_len (fun e => hne (by rw [← hN, ← hN', e]))
    have q : ((N : Int) != (N' : Int)) = true := by simp; omega
    go_wp2
    go_ret
    exact ⟨by rw [hv]; rfl, 0, rfl⟩

set_option maxRecDepth 100000 in
set_option maxHeartbeats 2000000 in
theorem equalExports_any (l l' : List (ByteArray × Int × Int)) (a a' : Option Addr) (c c' : Nat) (w : World) (h : RowsIn ExportAt 3 w a l) (h' : RowsIn ExportAt 3 w a' l') :
    Calls Tryd.prog 54 #[.slice a l.length c, .slice a' l'.length c'] w fun e w' => e = .returned (.bool (eqB expQ l l')) ∧ ∃ m, w' = w.drewN m := by
  obtain ⟨N, hN⟩ : ∃ N, l.length = N := ⟨_, rfl⟩
  obtain ⟨N', hN'⟩ : ∃ N, l'.length = N := ⟨_, rfl⟩
  have hl := h.1
  have hl' := h'.1
  have HI := Lib.hid h
  have HI' := Lib.hid h'
  clear h h'
  rw [hN] at hl ⊢
  rw [hN'] at hl' ⊢
  go_enter Tryd.func54, Tryd.ntmps54
  by_cases hne : N = N'
  · subst hne
    have hll := Lib.hid (hN.trans hN'.symm)
    go_wp2_with fail
    go_loopw [13] (fun vi wr => ∃ (i m : Nat), i ≤ N ∧ vi = .int .i64 i ∧ Hid (wr = w.drewN m) ∧ Hid (((l.zip l').take i).all expQ = true)) (fun vi _ => N - (intOf vi).toNat)
    case atStart => exact ⟨0, 0, Nat.zero_le _, rfl, Lib.hid rfl, Lib.hid rfl⟩
    case round =>
      obtain ⟨i, m, hi, rfl, hwr, ha⟩ := hrel
      by_cases hlt : i < N
      · obtain ⟨x, hx⟩ : ∃ x, l[i]? = some x := ⟨_, List.getElem?_eq_getElem (by omega)⟩
        obtain ⟨y, hy⟩ : ∃ x, l'[i]? = some x := ⟨_, List.getElem?_eq_getElem (by omega)⟩
        have hi1 : RowsIn ExportAt 3 wr a l := by rw [hwr.out]; exact HI.out.drewN (fun b o x w' k h => h.keep k) m
        have hi2 : RowsIn ExportAt 3 wr a' l' := by rw [hwr.out]; exact HI'.out.drewN (fun b o x w' k h => h.keep k) m
        obtain ⟨b, o, rfl, hrow⟩ := hi1.row hx
        obtain ⟨b', o', rfl, hrow'⟩ := hi2.row hy
        have hn := Lib.hid (eqB_step hx hy hll.out ha.out)
        clear hx hy ha hi1 hi2
        obtain ⟨s0, v0, v1⟩ := x
        obtain ⟨s0', v0', v1'⟩ := y
        obtain ⟨⟨c0, _⟩, c1, c2⟩ := hrow
        obtain ⟨⟨c0', _⟩, c1', c2'⟩ := hrow'
        unfold IntCell at c1 c2 c1' c2'
        simp only at c0 c1 c2 c0' c1' c2'
        have hiff : (s0.toList = s0'.toList ∧ v0 = v0' ∧ v1 = v1') ↔ (s0, v0, v1) = (s0', v0', v1') := by simp only [Prod.mk.injEq, str_eq]
        by_cases z0 : s0.toList = s0'.toList
        · by_cases z1 : v0 = v0'
          · by_cases z2 : v1 = v1'
            · have hn2 := Lib.hid (hn.out.1 (decide_eq_true (hiff.1 ⟨z0, z1, z2⟩)))
              clear hn hiff
              go_wp2_with fail
              go_quiet (fail)
              go_wp2
              exact ⟨⟨i + 1, m + nq, by omega, by simp, Lib.hid (by rw [hwr.out, World.drewN_drewN]), hn2⟩, by simp [intOf]; omega⟩
            · have hn2 := Lib.hid (hn.out.2 (decide_eq_false (fun e => z2 (hiff.2 e).2.2)))
              clear hn hiff
              go_wp2_with fail
              go_quiet (fail)
              go_wp2
              go_ret
              exact ⟨by rw [hn2.out]; rfl, m + nq, by rw [hwr.out, World.drewN_drewN]⟩
          · have hn2 := Lib.hid (hn.out.2 (decide_eq_false (fun e => z1 (hiff.2 e).2.1)))
            clear hn hiff
            go_wp2_with fail
            go_quiet (fail)
            go_wp2
            go_ret
            exact ⟨by rw [hn2.out]; rfl, m + nq, by rw [hwr.out, World.drewN_drewN]⟩
        · have hn2 := Lib.hid (hn.out.2 (decide_eq_false (fun e => z0 (hiff.2 e).1)))
          clear hn hiff
          go_wp2_with fail
          go_quiet (fail)
          go_wp2
          go_ret
          exact ⟨by rw [hn2.out]; rfl, m + nq, by rw [hwr.out, World.drewN_drewN]⟩
      · have hiN : i = N := by omega
        have hv : eqB expQ l l' = true := eqB_end hll.out (by rw [hN, ← hiN]; exact ha.out)
        clear ha
        go_wp2
        go_ret
        exact ⟨by rw [hv]; rfl, m, hwr.out⟩
  · have hv : eqB expQ l l' = false := eqB_len (fun e => hne (by rw [← hN, ← hN', e]))
    have q : ((N : Int) != (N' : Int)) = true := by simp; omega
    go_wp2
    go_ret
    exact ⟨by rw [hv]; rfl, 0, rfl⟩
end Go.Proofs.YtofleejokkdklaaDoor
