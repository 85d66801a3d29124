/- Re -/
import Derived.Test.YtanpjbbhhofkfaaGreatDoorRc
namespace Go.Proofs.YtanpjbbhhofkfaaGreatDoor
open Go.RowKit
set_option linter.unusedVariables false
set_option linter.unusedSimpArgs false
set_option maxRecDepth 100000
set_option maxHeartbeats 4000000
def AllC (l : Il) : Prop := ∀ (ao : Option Addr) (c : Nat) (w : World), l.len ≤ 9223372036854775807 → IlIn w ao 0 l →
 Calls Tryz.prog 82 #[.slice ao l.len c] w fun e w' => e = .returned (.bool (formB l)) ∧ Below w.heap.size w w'
theorem all_step (l : Il) (hs : Sub AllC l) : AllC l := by
 intro ao c w hl hw; obtain ⟨N, hN⟩ : ∃ N, l.len = N := ⟨_, rfl⟩
 rw [hN] at hl ⊢; go_enter Tryz.func82, Tryz.ntmps82; go_wp2_with fail; go_loopw [3] (fun vi wr => ∃ (i : Nat) (r : Il), vi = .int .i64 i ∧ i + r.len = N ∧ Hid (Below w.heap.size w wr) ∧ Hid (IlIn wr ao i r) ∧ Hid (Sub AllC r) ∧ Hid (formB l = formB r)) (fun vi _ => N - (intOf vi).toNat)
 case atStart => exact ⟨0, l, rfl, by omega, zh (Below.refl _ _), zh hw, zh hs, zh rfl⟩
 case round =>
  obtain ⟨i, r, rfl, hi, hb, hr, hsub, hc⟩ := hrel; cases r with
  | nil =>
    have hiN : i = N := (by simpa [Il.len] using hi)
    subst hiN; go_wp2; go_ret; exact ⟨by rw [hc.out]; rfl, hb.out⟩
  | cons op x y n ls body els rest =>
    have hlen : i + (rest.len + 1) = N := hi; have hlt : i < N := (by omega)
    obtain ⟨b, o, a4, k4, a5, k5, a6, k6, rfl, hh, hrest⟩ := hr.out.head; obtain ⟨c0, c1, c2, c3, c4, c5, c6, i4, l5, i5, l6, i6⟩ := hh; have hr2 := zh hrest; have hi4 := zh i4; have hi5 := zh i5; have hi6 := zh i6; have hcb := fun w h => zh (hsub.out.1 a5 k5 w l5 h); have hce := fun w h => zh (hsub.out.2.1 a6 k6 w l6 h); have hsr := zh hsub.out.2.2; have hc2 : Hid (formB l = (form1 op x y n ls body.len els.len && (formB body && (formB els && formB rest)))) := zh (by rw [hc.out]; rfl); clear hr hrest i4 i5 i6 hi hsub hc; go_wp2_with fail; refine (one_any op x y n ls body.len els.len a4 k4 a5 k5 a6 k6 _ hi4.out l5 l6).mono ?_; rintro e w2 ⟨rfl, b2⟩; have d5 := keep_below b2 _ _ c5; have d6 := keep_below b2 _ _ c6; have B2 := zh b2; clear b2 c0 c1 c2 c3 c4 c5 c6; cases hW : form1 op x y n ls body.len els.len
    · rw [hW, Bool.false_and] at hc2; have hfin := hb.out.trans (B2.out.mono hb.out.size); go_wp2; go_ret; exact ⟨by rw [hc2.out]; rfl, hfin⟩
    rw [hW, Bool.true_and] at hc2; go_wp2_with fail; refine (hcb _ (hi5.out.below B2.out)).out.mono ?_; rintro e w3 ⟨rfl, b3⟩; have e6 := keep_below b3 _ _ d6; have B3 := zh (B2.out.trans (b3.mono B2.out.size)); clear b3 d5 d6 B2; cases hX : formB body
    · rw [hX, Bool.false_and] at hc2; have hfin := hb.out.trans (B3.out.mono hb.out.size); go_wp2; go_ret; exact ⟨by rw [hc2.out]; rfl, hfin⟩
    rw [hX, Bool.true_and] at hc2; go_wp2_with fail; refine (hce _ (hi6.out.below B3.out)).out.mono ?_; rintro e w4 ⟨rfl, b4⟩; have B4 := zh (B3.out.trans (b4.mono B3.out.size)); clear b4 e6 B3; have hfin := zh (hb.out.trans (B4.out.mono hb.out.size)); cases hY : formB els
    · rw [hY, Bool.false_and] at hc2; go_wp2; go_ret; exact ⟨by rw [hc2.out]; rfl, hfin.out⟩
    rw [hY, Bool.true_and] at hc2; go_wp2
    go_roundw
    case rel => exact ⟨i + 1, rest, by simp, by omega, hfin, zh (hr2.out.below B4.out), hsr, hc2⟩
    case measure => simp [intOf]; omega
theorem all_any (l : Il) : AllC l := Il.each all_step l
theorem len_nil {l : Il} (h : l.len = 0) : l = .nil := by
 cases l with
 | nil => rfl
 | cons => simp [Il.len] at h
theorem beg1_eq (op x y n : Int) (ls : List Int) (body els : Il) (hop : op = 65 ∨ op = 66 ∨ op = 35) : beg1 ⟨op, x, y, n, ls, body, els⟩ = form1 op x y n ls body.len els.len := by
 have ho : (op == 65 || (op == 66 || op == 35)) = true := by rcases hop with rfl | rfl | rfl <;> rfl
 show ((op == 65 || (op == 66 || op == 35)) && (form1 op x y n ls body.len els.len && (formB body && (formB els && true)))) = _
 rw [ho, Bool.true_and]; cases hW : form1 op x y n ls body.len els.len
 · rfl
 have hz : body.len = 0 ∧ els.len = 0 := by
  rcases hop with rfl | rfl | rfl
  · have e : formV 65 = 9 := (by decide)
    simp [form1, e] at hW; omega
  · have e : formV 66 = 9 := (by decide)
    simp [form1, e] at hW; omega
  · have e : formV 35 = 6 := (by decide)
    simp [form1, e] at hW; omega
 rw [len_nil hz.1, len_nil hz.2]; rfl
theorem constant_any (op x y n : Int) (ls : List Int) (body els : Il) (a4 : Option Addr) (k4 : Nat) (a5 : Option Addr) (k5 : Nat) (a6 : Option Addr) (k6 : Nat) (w : World) (HI0 : IntsIn w a4 ls) (l5 : body.len ≤ 9223372036854775807) (l6 : els.len ≤ 9223372036854775807) :
 Calls Tryz.prog 83 #[.agg #[.int .i64 op, .int .i64 x, .int .i64 y, .int .i64 n, .slice a4 ls.length k4, .slice a5 body.len k5, .slice a6 els.len k6]] w fun e w' => e = .returned (.bool (beg1 ⟨op, x, y, n, ls, body, els⟩)) ∧ Below w.heap.size w w' := by
 have hB : Below w.heap.size w (w.alloc (.cells #[.int .i64 op, .int .i64 x, .int .i64 y, .int .i64 n, .slice a4 ls.length k4, .slice a5 body.len k5, .slice a6 els.len k6] 46)) := (Below.refl _ _).alloc (Nat.le_refl _) _; have HI := HI0.below hB; have l4 := HI0.1; clear HI0
 by_cases hop : op = 65 ∨ op = 66 ∨ op = 35
 · have hv := beg1_eq op x y n ls body els hop; rw [hv]; clear hv; have HB := zh hB; clear hB; go_enter Tryz.func83, Tryz.ntmps83
   rcases hop with rfl | rfl | rfl
   all_goals (
    go_wp2_with fail; refine (one_any _ x y n ls body.len els.len a4 k4 a5 k5 a6 k6 _ HI l5 l6).mono ?_; rintro e w2 ⟨rfl, b2⟩; have hfin := HB.out.trans (b2.mono HB.out.size); clear b2; go_wp2; go_ret; exact ⟨rfl, hfin⟩)
 · have q1 : (op == 65) = false := (by simp; omega)
   have q2 : (op == 66) = false := (by simp; omega)
   have q3 : (op == 35) = false := (by simp; omega)
   have hv : beg1 ⟨op, x, y, n, ls, body, els⟩ = false := by
    show ((op == 65 || (op == 66 || op == 35)) && _) = false
    rw [q1, q2, q3]; rfl
   go_enter Tryz.func83, Tryz.ntmps83; go_wp2; go_ret; exact ⟨by rw [hv]; rfl, hB⟩
end Go.Proofs.YtanpjbbhhofkfaaGreatDoor
