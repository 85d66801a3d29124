/- Ra -/
import Derived.Test.YtanpjbbhhofkfaaGreatDoorMh
import Derived.Deep.QuietTactic
import Derived.BigQuiet
import Derived.WalkSmall
namespace Go.Proofs.YtanpjbbhhofkfaaGreatDoor
open Go.RowKit
set_option linter.unusedVariables false
set_option linter.unusedSimpArgs false
set_option maxRecDepth 100000
set_option maxHeartbeats 4000000
def LabelsC (l : Il) : Prop := ∀ (ao : Option Addr) (c : Nat) (w : World), l.len ≤ 9223372036854775807 → IlIn w ao 0 l →
 Calls Tryz.prog 50 #[.slice ao l.len c] w fun e w' => e = .returned (.bool (!lab l)) ∧ w = w'
theorem labels_step (l : Il) (hs : Sub LabelsC l) : LabelsC l := by
 intro ao c w hl hw; obtain ⟨N, hN⟩ : ∃ N, l.len = N := ⟨_, rfl⟩
 rw [hN] at hl ⊢; go_enter Tryz.func50, Tryz.ntmps50; go_wp2_with fail; go_loopw [3] (fun vi wr => ∃ (i : Nat) (r : Il), vi = .int .i64 i ∧ wr = w ∧ i + r.len = N ∧ Hid (IlIn w ao i r) ∧ Hid (Sub LabelsC r) ∧ Hid (lab l = lab r)) (fun vi _ => N - (intOf vi).toNat)
 case atStart => exact ⟨0, l, rfl, rfl, by omega, zh hw, zh hs, zh rfl⟩
 case round =>
  obtain ⟨i, r, rfl, rfl, hi, hr, hsub, hc⟩ := hrel; cases r with
  | nil =>
    have hiN : i = N := (by simpa [Il.len] using hi)
    subst hiN; go_wp2; go_ret; exact ⟨by rw [hc.out]; rfl, rfl⟩
  | cons op x y n ls body els rest =>
    have hlen : i + (rest.len + 1) = N := hi; have hlt : i < N := (by omega)
    obtain ⟨b, o, a4, k4, a5, k5, a6, k6, rfl, hh, hrest⟩ := hr.out.head; obtain ⟨c0, c1, c2, c3, c4, c5, c6, i4, l5, i5, l6, i6⟩ := hh; have hr2 := zh hrest; have hcb := zh (hsub.out.1 a5 k5 wr l5 i5); have hce := zh (hsub.out.2.1 a6 k6 wr l6 i6); have hsr := zh hsub.out.2.2; have hls := i4.1; have hc2 : Hid (lab l = (decide (ls.length ≤ 4096) && (lab body && (lab els && lab rest)))) := zh (by rw [hc.out]; rfl); clear hr hrest i4 i5 i6 hi hsub hc
    by_cases hL : ls.length ≤ 4096
    · rw [decide_eq_true hL, Bool.true_and] at hc2; go_wp2_with fail; refine hcb.out.mono ?_; rintro e w2 ⟨rfl, rfl⟩; cases hX : lab body
      · rw [hX, Bool.false_and] at hc2; go_wp2; go_ret; exact ⟨by rw [hc2.out]; rfl, rfl⟩
      · rw [hX, Bool.true_and] at hc2; go_wp2_with fail; refine hce.out.mono ?_; rintro e w2 ⟨rfl, rfl⟩; cases hY : lab els
        · rw [hY, Bool.false_and] at hc2; go_wp2; go_ret; exact ⟨by rw [hc2.out]; rfl, rfl⟩
        · rw [hY, Bool.true_and] at hc2; go_wp2
          go_roundw
          case rel => exact ⟨i + 1, rest, by simp, trivial, by omega, hr2, hsr, hc2⟩
          case measure => simp [intOf]; omega
    · rw [decide_eq_false hL, Bool.false_and] at hc2; go_wp2; go_ret; exact ⟨by rw [hc2.out]; rfl, rfl⟩
theorem labels_any (l : Il) : LabelsC l := Il.each labels_step l
def DeepC (l : Il) : Prop := ∀ (ao : Option Addr) (c : Nat) (w : World) (d : Int), l.len ≤ 9223372036854775807 → IlIn w ao 0 l → 0 ≤ d → d ≤ 65 →
 Calls Tryz.prog 51 #[.slice ao l.len c, .int .i64 d] w fun e w' => e = .returned (.bool (!flatB l d)) ∧ w = w'
theorem deep_step (l : Il) (hs : Sub DeepC l) : DeepC l := by
 intro ao c w d hl hw hd0 hd1; have hb0 : Hid (flatB l d = ((l.len == 0 || decide (d ≤ 64)) && flatR l d)) := zh rfl; obtain ⟨N, hN⟩ : ∃ N, l.len = N := ⟨_, rfl⟩
 rw [hN] at hl hb0 ⊢; go_enter Tryz.func51, Tryz.ntmps51
 by_cases hg : 0 < N ∧ 64 < d
 · have hv : flatB l d = false := by rw [hb0.out, decide_eq_false (by omega), show (N == 0) = false by simp; omega]; rfl
   obtain ⟨g1, g2⟩ := hg; go_wp2; go_ret; exact ⟨by rw [hv]; rfl, rfl⟩
 · have hv : Hid (flatB l d = flatR l d) := zh (by
    rw [hb0.out]
    by_cases h0 : N = 0
    · rw [h0]; simp
    · rw [decide_eq_true (by omega)]; simp)
   clear hb0
   by_cases hN0 : N = 0
   · have hln : l = .nil := by
      cases l with
      | nil => rfl
      | cons => simp [Il.len] at hN; omega
     subst hN0; subst hln; go_wp2_with fail; go_loopw [5] (fun vi wr => vi = .int .i64 0 ∧ wr = w) (fun _ _ => 0)
     case atStart => exact ⟨rfl, rfl⟩
     case round => obtain ⟨rfl, rfl⟩ := hrel; go_wp2; go_ret; exact ⟨by rw [hv.out]; rfl, rfl⟩
   have hNp : 0 < N := (by omega)
   have hd64 : d ≤ 64 := (by omega)
   clear hg hN0; go_wp2_with fail; go_loopw [5] (fun vi wr => ∃ (i : Nat) (r : Il), vi = .int .i64 i ∧ wr = w ∧ i + r.len = N ∧ Hid (IlIn w ao i r) ∧ Hid (Sub DeepC r) ∧ Hid (flatB l d = flatR r d)) (fun vi _ => N - (intOf vi).toNat)
   case atStart => exact ⟨0, l, rfl, rfl, by omega, zh hw, zh hs, hv⟩
   case round =>
    obtain ⟨i, r, rfl, rfl, hi, hr, hsub, hc⟩ := hrel; cases r with
    | nil =>
      have hiN : i = N := (by simpa [Il.len] using hi)
      subst hiN; go_wp2; go_ret; exact ⟨by rw [hc.out]; rfl, rfl⟩
    | cons op x y n ls body els rest =>
      have hlen : i + (rest.len + 1) = N := hi; have hlt : i < N := (by omega)
      obtain ⟨b, o, a4, k4, a5, k5, a6, k6, rfl, hh, hrest⟩ := hr.out.head; obtain ⟨c0, c1, c2, c3, c4, c5, c6, i4, l5, i5, l6, i6⟩ := hh; have hr2 := zh hrest; have hcb := zh (hsub.out.1 a5 k5 wr (d + 1) l5 i5 (by omega) (by omega)); have hce := zh (hsub.out.2.1 a6 k6 wr (d + 1) l6 i6 (by omega) (by omega)); have hsr := zh hsub.out.2.2; have hc2 : Hid (flatB l d = (flatB body (d + 1) && (flatB els (d + 1) && flatR rest d))) := zh (by rw [hc.out]; rfl); clear hr hrest i4 i5 i6 hi hsub hc hv; go_wp2_with fail; refine hcb.out.mono ?_; rintro e w2 ⟨rfl, rfl⟩; cases hX : flatB body (d + 1)
      · rw [hX, Bool.false_and] at hc2; go_wp2; go_ret; exact ⟨by rw [hc2.out]; rfl, rfl⟩
      · rw [hX, Bool.true_and] at hc2; go_wp2_with fail; refine hce.out.mono ?_; rintro e w2 ⟨rfl, rfl⟩; cases hY : flatB els (d + 1)
        · rw [hY, Bool.false_and] at hc2; go_wp2; go_ret; exact ⟨by rw [hc2.out]; rfl, rfl⟩
        · rw [hY, Bool.true_and] at hc2; go_wp2
          go_roundw
          case rel => exact ⟨i + 1, rest, by simp, trivial, by omega, hr2, hsr, hc2⟩
          case measure => simp [intOf]; omega
theorem deep_any (l : Il) : DeepC l := Il.each deep_step l
theorem quietMany {P : Program} {f : FuncId} {args : Array Value} {w : World} {n : Nat} {v : Value}
 (h : Calls P f args (w.drewN n) fun e w' => e = .returned v ∧ ∃ m, w' = (w.drewN n).drewN m) : Calls P f args (w.drewN n) fun e w'' => e = .returned v ∧ ∃ m, w'' = w.drewN m :=
 h.mono fun _ _ ⟨he, m, hm⟩ => ⟨he, n + m, by rw [hm, World.drewN_drewN]⟩
theorem IlIn.drewN {w : World} {a : Option Addr} {i : Nat} {l : Il} (h : IlIn w a i l) (n : Nat) : IlIn (w.drewN n) a i l := h.below (below_drewN (Below.refl _ _) n)
theorem wrap_id64 (n : Int) (h0 : 0 ≤ n) (h1 : n < 9223372036854775808) : IntKind.i64.wrap n = n := by simp [IntKind.wrap, IntKind.bits, IntKind.signed]; omega
theorem cnt_neg (l : Il) : cnt l (-1) = -1 := by
 cases l with
 | nil => rfl
 | cons op x y n ls body els rest => rfl
def CountC (l : Il) : Prop := ∀ (ao : Option Addr) (c : Nat) (w : World) (nn left : Int), l.len ≤ 9223372036854775807 → IlIn w ao 0 l → nn + left = 65536 → -1 ≤ left → left ≤ 65536 →
 Calls Tryz.prog 78 #[.slice ao l.len c, .int .i64 nn] w fun e w' => e = .returned (.int .i64 (65536 - cnt l left)) ∧ ∃ m, w' = w.drewN m
theorem rcount_step (l : Il) (hs : Sub CountC l) : CountC l := by
 intro ao c w nn left hl hw hnn h0 h1; obtain ⟨N, hN⟩ : ∃ N, l.len = N := ⟨_, rfl⟩
 rw [hN] at hl ⊢; go_enter Tryz.func78, Tryz.ntmps78; go_wp2_with fail; go_loopw [1, 5] (fun vn vi wr => ∃ (i m : Nat) (r : Il) (L n : Int), vi = .int .i64 i ∧ vn = .int .i64 n ∧ n + L = 65536 ∧ -1 ≤ L ∧ L ≤ 65536 ∧ Hid (wr = w.drewN m) ∧ i + r.len = N ∧ Hid (IlIn wr ao i r) ∧ Hid (Sub CountC r) ∧ Hid (cnt l left = cnt r L)) (fun _ vi _ => N - (intOf vi).toNat)
 case atStart => exact ⟨0, 0, l, left, nn, rfl, rfl, hnn, h0, h1, zh rfl, by omega, zh hw, zh hs, zh rfl⟩
 case round =>
  obtain ⟨i, m, r, L, n, rfl, rfl, hnL, hL0, hL1, hwr, hi, hr, hsub, hc⟩ := hrel
  by_cases hneg : L = -1
  · have hv : cnt l left = -1 := (by rw [hc.out, hneg, cnt_neg])
    have hn7 : n = 65537 := (by omega)
    subst hn7; clear hc hr hsub
    by_cases hiN : i < N
    · go_wp2; go_ret; exact ⟨by rw [hv]; rfl, m, hwr.out⟩
    · go_wp2; go_ret; exact ⟨by rw [hv]; rfl, m, hwr.out⟩
  cases r with
  | nil =>
    have hiN : i = N := (by simpa [Il.len] using hi)
    subst hiN; have hv : 65536 - cnt l left = n := (by rw [hc.out]; show 65536 - L = n; omega)
    go_wp2; go_ret; exact ⟨by rw [hv]; rfl, m, hwr.out⟩
  | cons op x y n' ls body els rest =>
    have hlen : i + (rest.len + 1) = N := hi; have hlt : i < N := (by omega)
    obtain ⟨b, o, a4, k4, a5, k5, a6, k6, rfl, hh, hrest⟩ := hr.out.head; obtain ⟨c0, c1, c2, c3, c4, c5, c6, i4, l5, i5, l6, i6⟩ := hh; have hr2 := zh hrest
    have hX : ∃ X, -1 ≤ X ∧ X ≤ 65536 ∧ X = cnt body (L - 1) := by
     rcases (show L - 1 = -1 ∨ 0 ≤ L - 1 by omega) with h | h
     · exact ⟨-1, by omega, by omega, by rw [h, cnt_neg]⟩
     · have := cnt_bd body (L - 1) h; exact ⟨_, this.1, by omega, rfl⟩
    obtain ⟨X, hX0, hX1, hX⟩ := hX
    have hY : ∃ Y, -1 ≤ Y ∧ Y ≤ 65536 ∧ Y = cnt els X := by
     rcases (show X = -1 ∨ 0 ≤ X by omega) with h | h
     · exact ⟨-1, by omega, by omega, by rw [h, cnt_neg]⟩
     · have := cnt_bd els X h; exact ⟨_, this.1, by omega, rfl⟩
    obtain ⟨Y, hY0, hY1, hY⟩ := hY
    have hc2 : Hid (cnt l left = cnt rest Y) := zh (by
     rw [hc.out]
     show (if (if 0 ≤ (if 0 ≤ L - 1 then cnt body (L - 1) else L - 1) then cnt els (if 0 ≤ L - 1 then cnt body (L - 1) else L - 1) else (if 0 ≤ L - 1 then cnt body (L - 1) else L - 1)) < 0 then -1 else cnt rest (if 0 ≤ (if 0 ≤ L - 1 then cnt body (L - 1) else L - 1) then cnt els (if 0 ≤ L - 1 then cnt body (L - 1) else L - 1) else (if 0 ≤ L - 1 then cnt body (L - 1) else L - 1))) = _
     have e1 : (if 0 ≤ L - 1 then cnt body (L - 1) else L - 1) = X := by
      by_cases h : 0 ≤ L - 1
      · rw [if_pos h, hX]
      · rw [if_neg h, hX, show L - 1 = -1 by omega, cnt_neg]
     rw [e1]
     have e2 : (if 0 ≤ X then cnt els X else X) = Y := by
      by_cases h : 0 ≤ X
      · rw [if_pos h, hY]
      · rw [if_neg h, hY, show X = -1 by omega, cnt_neg]
     rw [e2]
     by_cases h : Y < 0
     · rw [if_pos h, show Y = -1 by omega, cnt_neg]
     · rw [if_neg h])
    obtain ⟨U, hUX⟩ : ∃ U, U = 65536 - X := ⟨_, rfl⟩
    obtain ⟨V, hVY⟩ : ∃ V, V = 65536 - Y := ⟨_, rfl⟩
    have hcb : ∀ q, Hid (Calls Tryz.prog 78 #[.slice a5 body.len k5, .int .i64 (IntKind.i64.wrap (n + 1))] (wr.drewN q) fun e w' => e = .returned (.int .i64 U) ∧ ∃ m, w' = (wr.drewN q).drewN m) := fun q => zh (by
     rw [hUX, hX, wrap_id64 (n + 1) (by omega) (by omega)]; exact hsub.out.1 a5 k5 (wr.drewN q) (n + 1) (L - 1) l5 (i5.drewN q) (by omega) (by omega) (by omega))
    have hce : ∀ q, Hid (Calls Tryz.prog 78 #[.slice a6 els.len k6, .int .i64 U] (wr.drewN q) fun e w' => e = .returned (.int .i64 V) ∧ ∃ m, w' = (wr.drewN q).drewN m) := fun q => zh (by
     rw [hVY, hY]; exact hsub.out.2.1 a6 k6 (wr.drewN q) U X l6 (i6.drewN q) (by omega) (by omega) (by omega))
    have hsr := zh hsub.out.2.2; clear hr hrest i4 i5 i6 hi hsub hc hX hY; have hVY2 := zh hVY; clear hUX hVY; go_wp2_with fail
    go_quiet ((first | (go_at_call 78; with_reducible exact quietMany (hcb _).out) | (go_at_call 78; with_reducible exact quietMany (hce _).out)))
    go_wp2; exact ⟨⟨i + 1, m + nq, rest, Y, V, by simp, rfl, by have := hVY2.out; omega, hY0, hY1, zh (by rw [hwr.out, World.drewN_drewN]), by omega, zh (hr2.out.drewN nq), hsr, hc2⟩, by simp [intOf]; omega⟩
theorem rcount_any (l : Il) : CountC l := Il.each rcount_step l
end Go.Proofs.YtanpjbbhhofkfaaGreatDoor
