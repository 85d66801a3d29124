/- What the reference's codes writes. -/
import Derived.Test.YtkbfjkbokifgkaaGreatDoorHd
import Derived.Test.YtkbfjkbokifgkaaGreatDoorWa
import Derived.Test.YtkbfjkbokifgkaaGreatDoorFa
import Derived.Deep.QuietTactic
import Derived.BigQuiet
import Derived.WalkSmall
import Derived.Test.YtkbfjkbokifgkaaGreatDoorFc
namespace Go.Proofs.YtkbfjkbokifgkaaGreatDoor
open Go.RowKit
set_option linter.unusedVariables false
set_option linter.unusedSimpArgs false
set_option maxRecDepth 100000 in
set_option maxHeartbeats 4000000 in
theorem pCodes_any (m : Md) (a0 : Option Addr) (k0 : Nat) (a1 : Option Addr) (k1 : Nat) (a2 : Option Addr) (k2 : Nat) (a3 : Option Addr) (k3 : Nat) (a4 : Option Addr) (k4 : Nat) (a5 : Option Addr) (k5 : Nat) (a6 : Option Addr) (k6 : Nat) (a7 : Option Addr) (k7 : Nat) (a8 : Option Addr) (k8 : Nat) (a9 : Option Addr) (k9 : Nat) (w : World) (h : MdAt w m a0 k0 a1 k1 a2 k2 a3 k3 a4 k4 a5 k5 a6 k6 a7 k7 a8 k8 a9 k9) (hok : ∀ t ∈ m.funcs, nOk t.2.2) (hlo : ∀ t ∈ m.funcs, t.2.1.length ≤ 65536) :
 Calls Tryz.prog 95 #[mdV m a0 k0 a1 k1 a2 k2 a3 k3 a4 k4 a5 k5 a6 k6 a7 k7 a8 k8 a9 k9] w fun e w' => PNew w (xSec xCodes m.funcs) e w' := by
 unfold mdV; obtain ⟨N0, hl⟩ : ∃ N0, m.funcs.length = N0 := ⟨_, rfl⟩
 have hl63 := h.funcs.1; rw [hl] at hl63 ⊢; obtain ⟨c, hc⟩ : ∃ c, w.heap.size = c := ⟨_, rfl⟩
 obtain ⟨wA, hwA⟩ : ∃ wA, wA = w.alloc (.cells #[.slice a0 m.types.length k0, .slice a1 m.imports.length k1, .slice a2 N0 k2, .slice a3 m.tables.length k3, .slice a4 m.mems.length k4, .slice a5 m.globals.length k5, .slice a6 m.exports.length k6, .slice a7 m.start.length k7, .slice a8 m.elems.length k8, .slice a9 m.datas.length k9] 33) := ⟨_, rfl⟩
 have hbel : Below w.heap.size w wA := (by rw [hwA]; exact (Below.refl _ _).alloc (Nat.le_refl _) _)
 have hbx : Box wA c #[.slice a0 m.types.length k0, .slice a1 m.imports.length k1, .slice a2 N0 k2, .slice a3 m.tables.length k3, .slice a4 m.mems.length k4, .slice a5 m.globals.length k5, .slice a6 m.exports.length k6, .slice a7 m.start.length k7, .slice a8 m.elems.length k8, .slice a9 m.datas.length k9] := (by rw [hwA, ← hc]; exact box_new w _ _)
 have hr := zh ((h.keep (keep_below hbel)).funcs); have x0 : wA.cell? ⟨c, 2, none⟩ = some (.slice a2 N0 k2) := hbx 2 _ rfl; have y0 := zh x0; have hok2 := zh hok; have hlo2 := zh hlo; clear hok hlo; replace hl := zh hl; replace hbel := zh hbel; clear h hbx; go_enter Tryz.func95, Tryz.ntmps95; rw [hwA] at x0; go_wp2_with fail; rw [← hwA]; clear x0 hwA hc; refine (pcounted_any (N0 : Int) wA).mono ?_; rintro e w1 ⟨p, v1, s1, rfl, h1, hb1, q1⟩; have V1 := zh (Vw.oldp h1 hb1); have hN1 := zh h1.hN; have hO1 := zh h1.ownN; have hZ1 := zh hb1.size; replace h1 := zh h1; replace hb1 := zh (hbel.out.trans (hb1.mono hbel.out.size)); replace q1 := zh q1; go_wp2_with fail; go_loopw [4] (fun vi wr => ∃ (i : Nat) (v2 : Value) (s2 : PS), i ≤ N0 ∧ vi = .int .i64 i ∧ Hid (PAt wA.heap.size p wr v2 s2) ∧ Hid (Tr p v1 v2 w1 wr) ∧ Hid (Pen ⟨[], false⟩ (uB N0 ++ (m.funcs.take i).flatMap xCodes) s2)) (fun vi _ => N0 - (intOf vi).toNat)
 case atStart => exact ⟨0, v1, s1, Nat.zero_le _, rfl, h1, zh (Tr.refl _ _ _), zh (by simpa using q1.out)⟩
 case round =>
  obtain ⟨i, v2, s2, hle, rfl, h2, t2, q2⟩ := hrel; have B0 := zh (V1.out.tr t2.out); have X0 : wr.cell? ⟨c, 2, none⟩ = some (.slice a2 N0 k2) := B0.out.keeps _ _ y0.out; have ov := h2.out.c1; have hz := zh (hb1.out.trans (t2.out.below (Nat.le_trans hbel.out.size hN1.out) (fun g e => Nat.le_trans hbel.out.size (hO1.out g e)) hb1.out.size))
  by_cases hlt : i < N0
  · by_cases hov : s2.o = true
    · have hall : xSec xCodes m.funcs = (uB N0 ++ (m.funcs.take i).flatMap xCodes) ++ (m.funcs.drop i).flatMap xCodes := by unfold xSec; rw [hl.out, List.append_assoc, ← List.flatMap_append, List.take_append_drop]
      have hfin := zh (show Pen ⟨[], false⟩ (xSec xCodes m.funcs) s2 by rw [hall]; exact q2.out.stop hov); clear hall; rw [hov] at ov; go_wp2; go_ret; exact ⟨p, v2, s2, rfl, h2.out.mono hbel.out.size, hz.out, hfin.out⟩
    · have hov2 : s2.o = false := (by simpa using hov)
      rw [hov2] at ov; clear hov hov2 hz; obtain ⟨t, ht⟩ : ∃ t, m.funcs[i]? = some t := ⟨_, List.getElem?_eq_getElem (by rw [hl.out]; exact hlt)⟩
      obtain ⟨blk, o, rfl, hrow0⟩ := hr.out.row ht; have hst := zh (show (m.funcs.take (i + 1)).flatMap xCodes = (m.funcs.take i).flatMap xCodes ++ xCodes t by rw [List.take_add_one, ht]; simp); have hnk := zh (hok2.out t (List.mem_of_getElem? ht)); have hlm := hlo2.out t (List.mem_of_getElem? ht); clear ht; obtain ⟨ty, lo, bo⟩ := t; obtain ⟨c0, ⟨u1, r1, c1, i1⟩, ⟨u2, r2, c2, l2, i2⟩⟩ := hrow0; unfold IntCell at c0
      try simp only at c0 c1 c2 hnk hlm
      have J1 := zh (i1.keep B0.out.keeps); have J2 := zh (i2.keep B0.out.keeps); have L1 := i1.1; have L2 := l2; have p0 : wr.cell? ⟨blk, o + i * 3, none⟩ = some (.int .i64 ty) := B0.out.keeps _ _ c0; have p1 : wr.cell? ⟨blk, o + i * 3 + 1, none⟩ = some (.slice u1 lo.length r1) := B0.out.keeps _ _ c1; have p2 : wr.cell? ⟨blk, o + i * 3 + 2, none⟩ = some (.slice u2 bo.len r2) := B0.out.keeps _ _ c2; clear c0 c1 c2 i1 i2 l2; go_wp2_with fail; refine (pcode_any ty lo bo u1 r1 u2 r2 wr J1.out hlm L2 J2.out hnk.out).mono ?_; rintro e w3 ⟨q', v', s', rfl, hq', hb3, hp3⟩; have h3 := h2.out.below hb3; have hpM := h2.out.lt; clear p0 p1 p2 X0 ov; go_wp2_with fail; refine (part_any h3 hq' hp3 hpM).mono ?_; rintro e w4 ⟨rfl, v4, s4, h4, t4, q4⟩; have t5 := zh ((t2.out.trans (Tr.of_below hb3)).trans t4); have h5 := zh h4; have q5 := zh (show Pen ⟨[], false⟩ (uB N0 ++ (m.funcs.take (i + 1)).flatMap xCodes) s4 by rw [hst.out, ← List.append_assoc]; exact q2.out.trans q4); clear h4 t4 q4 hst h3 hq' hb3 hp3; go_wp2; exact ⟨⟨i + 1, v4, s4, by omega, by simp, h5, t5, q5⟩, by simp [intOf]; omega⟩
  · have hfin := zh (show Pen ⟨[], false⟩ (xSec xCodes m.funcs) s2 by
     have := q2.out; rw [List.take_of_length_le (by rw [hl.out]; omega)] at this; unfold xSec; rw [hl.out]; exact this)
    go_wp2; go_ret; exact ⟨p, v2, s2, rfl, h2.out.mono hbel.out.size, hz.out, hfin.out⟩
end Go.Proofs.YtkbfjkbokifgkaaGreatDoor
namespace Go.Proofs.YtkbfjkbokifgkaaGreatDoor
open Go.RowKit
set_option linter.unusedVariables false
set_option linter.unusedSimpArgs false
def LabelsC (l : Il) : Prop := ∀ (ao : Option Addr) (c : Nat) (w : World), l.len ≤ 9223372036854775807 → IlIn w ao 0 l →
 Calls Tryz.prog 61 #[.slice ao l.len c] w fun e w' => e = .returned (.bool (!lab l)) ∧ w = w'
set_option maxRecDepth 100000 in
set_option maxHeartbeats 1500000 in
theorem labels_step (l : Il) (hs : Sub LabelsC l) : LabelsC l := by
 intro ao c w hl hw; obtain ⟨N, hN⟩ : ∃ N, l.len = N := ⟨_, rfl⟩
 rw [hN] at hl ⊢; go_enter Tryz.func61, Tryz.ntmps61; go_wp2_with fail; go_loopw [3] (fun vi wr => ∃ (i : Nat) (r : Il), vi = .int .i64 i ∧ wr = w ∧ i + r.len = N ∧ Hid (IlIn w ao i r) ∧ Hid (Sub LabelsC r) ∧ Hid (lab l = lab r)) (fun vi _ => N - (intOf vi).toNat)
 case atStart => exact ⟨0, l, rfl, rfl, by omega, zh hw, zh hs, zh rfl⟩
 case round =>
  obtain ⟨i, r, rfl, rfl, hi, hr, hsub, hc⟩ := hrel; cases r with
  | nil =>
    have hiN : i = N := (by simpa [Il.len] using hi)
    subst hiN; go_wp2; go_ret; exact ⟨by rw [hc.out]; rfl, rfl⟩
  | cons op x y n ls body els rest =>
    have hlen : i + (rest.len + 1) = N := hi; have hlt : i < N := (by omega)
    obtain ⟨b, o, a4, k4, a5, k5, a6, k6, rfl, hh, hrest⟩ := hr.out.head; obtain ⟨c0, c1, c2, c3, c4, c5, c6, i4, l5, i5, l6, i6⟩ := hh; have hr2 := zh hrest; have hcb := zh (hsub.out.1 a5 k5 wr l5 i5); have hce := zh (hsub.out.2.1 a6 k6 wr l6 i6); have hsr := zh hsub.out.2.2; have hls := i4.1; have hc2 : Hid (lab l = (decide (ls.length ≤ 4096) && (lab body && (lab els && lab rest)))) := zh (by rw [hc.out]; rfl); clear hr hrest i4 i5 i6 hi hsub hc
    by_cases hL : ls.length ≤ 4096
    · rw [decide_eq_true hL, Bool.true_and] at hc2; go_wp2_with fail; refine hcb.out.mono ?_; rintro e w2 ⟨rfl, rfl⟩; cases hX : lab body
      · rw [hX, Bool.false_and] at hc2; go_wp2; go_ret; exact ⟨by rw [hc2.out]; rfl, rfl⟩
      · rw [hX, Bool.true_and] at hc2; go_wp2_with fail; refine hce.out.mono ?_; rintro e w2 ⟨rfl, rfl⟩; cases hY : lab els
        · rw [hY, Bool.false_and] at hc2; go_wp2; go_ret; exact ⟨by rw [hc2.out]; rfl, rfl⟩
        · rw [hY, Bool.true_and] at hc2; go_wp2
          go_roundw
          case rel => exact ⟨i + 1, rest, by simp, trivial, by omega, hr2, hsr, hc2⟩
          case measure => simp [intOf]; omega
    · rw [decide_eq_false hL, Bool.false_and] at hc2; go_wp2; go_ret; exact ⟨by rw [hc2.out]; rfl, rfl⟩
theorem labels_any (l : Il) : LabelsC l := Il.each labels_step l
def DeepC (l : Il) : Prop := ∀ (ao : Option Addr) (c : Nat) (w : World) (d : Int), l.len ≤ 9223372036854775807 → IlIn w ao 0 l → 0 ≤ d → d ≤ 65 →
 Calls Tryz.prog 62 #[.slice ao l.len c, .int .i64 d] w fun e w' => e = .returned (.bool (!flatB l d)) ∧ w = w'
set_option maxRecDepth 100000 in
set_option maxHeartbeats 1500000 in
theorem deep_step (l : Il) (hs : Sub DeepC l) : DeepC l := by
 intro ao c w d hl hw hd0 hd1; have hb0 : Hid (flatB l d = ((l.len == 0 || decide (d ≤ 64)) && flatR l d)) := zh rfl; obtain ⟨N, hN⟩ : ∃ N, l.len = N := ⟨_, rfl⟩
 rw [hN] at hl hb0 ⊢; go_enter Tryz.func62, Tryz.ntmps62
 by_cases hg : 0 < N ∧ 64 < d
 · have hv : flatB l d = false := by rw [hb0.out, decide_eq_false (by omega), show (N == 0) = false by simp; omega]; rfl
   obtain ⟨g1, g2⟩ := hg; go_wp2; go_ret; exact ⟨by rw [hv]; rfl, rfl⟩
 · have hv : Hid (flatB l d = flatR l d) := zh (by
    rw [hb0.out]
    by_cases h0 : N = 0
    · rw [h0]; simp
    · rw [decide_eq_true (by omega)]; simp)
   clear hb0
   by_cases hN0 : N = 0
   · have hln : l = .nil := by
      cases l with
      | nil => rfl
      | cons => simp [Il.len] at hN; omega
     subst hN0; subst hln; go_wp2_with fail; go_loopw [5] (fun vi wr => vi = .int .i64 0 ∧ wr = w) (fun _ _ => 0)
     case atStart => exact ⟨rfl, rfl⟩
     case round => obtain ⟨rfl, rfl⟩ := hrel; go_wp2; go_ret; exact ⟨by rw [hv.out]; rfl, rfl⟩
   have hNp : 0 < N := (by omega)
   have hd64 : d ≤ 64 := (by omega)
   clear hg hN0; go_wp2_with fail; go_loopw [5] (fun vi wr => ∃ (i : Nat) (r : Il), vi = .int .i64 i ∧ wr = w ∧ i + r.len = N ∧ Hid (IlIn w ao i r) ∧ Hid (Sub DeepC r) ∧ Hid (flatB l d = flatR r d)) (fun vi _ => N - (intOf vi).toNat)
   case atStart => exact ⟨0, l, rfl, rfl, by omega, zh hw, zh hs, hv⟩
   case round =>
    obtain ⟨i, r, rfl, rfl, hi, hr, hsub, hc⟩ := hrel; cases r with
    | nil =>
      have hiN : i = N := (by simpa [Il.len] using hi)
      subst hiN; go_wp2; go_ret; exact ⟨by rw [hc.out]; rfl, rfl⟩
    | cons op x y n ls body els rest =>
      have hlen : i + (rest.len + 1) = N := hi; have hlt : i < N := (by omega)
      obtain ⟨b, o, a4, k4, a5, k5, a6, k6, rfl, hh, hrest⟩ := hr.out.head; obtain ⟨c0, c1, c2, c3, c4, c5, c6, i4, l5, i5, l6, i6⟩ := hh; have hr2 := zh hrest; have hcb := zh (hsub.out.1 a5 k5 wr (d + 1) l5 i5 (by omega) (by omega)); have hce := zh (hsub.out.2.1 a6 k6 wr (d + 1) l6 i6 (by omega) (by omega)); have hsr := zh hsub.out.2.2; have hc2 : Hid (flatB l d = (flatB body (d + 1) && (flatB els (d + 1) && flatR rest d))) := zh (by rw [hc.out]; rfl); clear hr hrest i4 i5 i6 hi hsub hc hv; go_wp2_with fail; refine hcb.out.mono ?_; rintro e w2 ⟨rfl, rfl⟩; cases hX : flatB body (d + 1)
      · rw [hX, Bool.false_and] at hc2; go_wp2; go_ret; exact ⟨by rw [hc2.out]; rfl, rfl⟩
      · rw [hX, Bool.true_and] at hc2; go_wp2_with fail; refine hce.out.mono ?_; rintro e w2 ⟨rfl, rfl⟩; cases hY : flatB els (d + 1)
        · rw [hY, Bool.false_and] at hc2; go_wp2; go_ret; exact ⟨by rw [hc2.out]; rfl, rfl⟩
        · rw [hY, Bool.true_and] at hc2; go_wp2
          go_roundw
          case rel => exact ⟨i + 1, rest, by simp, trivial, by omega, hr2, hsr, hc2⟩
          case measure => simp [intOf]; omega
theorem deep_any (l : Il) : DeepC l := Il.each deep_step l
theorem quietMany {P : Program} {f : FuncId} {args : Array Value} {w : World} {n : Nat} {v : Value}
 (h : Calls P f args (w.drewN n) fun e w' => e = .returned v ∧ ∃ m, w' = (w.drewN n).drewN m) : Calls P f args (w.drewN n) fun e w'' => e = .returned v ∧ ∃ m, w'' = w.drewN m :=
 h.mono fun _ _ ⟨he, m, hm⟩ => ⟨he, n + m, by rw [hm, World.drewN_drewN]⟩
theorem cnt_neg (l : Il) : cnt l (-1) = -1 := by
 cases l with
 | nil => rfl
 | cons op x y n ls body els rest => rfl
def CountC (l : Il) : Prop := ∀ (ao : Option Addr) (c : Nat) (w : World) (nn left : Int), l.len ≤ 9223372036854775807 → IlIn w ao 0 l → nn + left = 65536 → -1 ≤ left → left ≤ 65536 →
 Calls Tryz.prog 109 #[.slice ao l.len c, .int .i64 nn] w fun e w' => e = .returned (.int .i64 (65536 - cnt l left)) ∧ ∃ m, w' = w.drewN m
set_option maxRecDepth 100000 in
set_option maxHeartbeats 1500000 in
theorem rcount_step (l : Il) (hs : Sub CountC l) : CountC l := by
 intro ao c w nn left hl hw hnn h0 h1; obtain ⟨N, hN⟩ : ∃ N, l.len = N := ⟨_, rfl⟩
 rw [hN] at hl ⊢; go_enter Tryz.func109, Tryz.ntmps109; go_wp2_with fail; go_loopw [1, 5] (fun vn vi wr => ∃ (i m : Nat) (r : Il) (L n : Int), vi = .int .i64 i ∧ vn = .int .i64 n ∧ n + L = 65536 ∧ -1 ≤ L ∧ L ≤ 65536 ∧ Hid (wr = w.drewN m) ∧ i + r.len = N ∧ Hid (IlIn wr ao i r) ∧ Hid (Sub CountC r) ∧ Hid (cnt l left = cnt r L)) (fun _ vi _ => N - (intOf vi).toNat)
 case atStart => exact ⟨0, 0, l, left, nn, rfl, rfl, hnn, h0, h1, zh rfl, by omega, zh hw, zh hs, zh rfl⟩
 case round =>
  obtain ⟨i, m, r, L, n, rfl, rfl, hnL, hL0, hL1, hwr, hi, hr, hsub, hc⟩ := hrel
  by_cases hneg : L = -1
  · have hv : cnt l left = -1 := (by rw [hc.out, hneg, cnt_neg])
    have hn7 : n = 65537 := (by omega)
    subst hn7; clear hc hr hsub
    by_cases hiN : i < N
    · go_wp2; go_ret; exact ⟨by rw [hv]; rfl, m, hwr.out⟩
    · go_wp2; go_ret; exact ⟨by rw [hv]; rfl, m, hwr.out⟩
  cases r with
  | nil =>
    have hiN : i = N := (by simpa [Il.len] using hi)
    subst hiN; have hv : 65536 - cnt l left = n := (by rw [hc.out]; show 65536 - L = n; omega)
    go_wp2; go_ret; exact ⟨by rw [hv]; rfl, m, hwr.out⟩
  | cons op x y n' ls body els rest =>
    have hlen : i + (rest.len + 1) = N := hi; have hlt : i < N := (by omega)
    obtain ⟨b, o, a4, k4, a5, k5, a6, k6, rfl, hh, hrest⟩ := hr.out.head; obtain ⟨c0, c1, c2, c3, c4, c5, c6, i4, l5, i5, l6, i6⟩ := hh; have hr2 := zh hrest
    have hX : ∃ X, -1 ≤ X ∧ X ≤ 65536 ∧ X = cnt body (L - 1) := by
     rcases (show L - 1 = -1 ∨ 0 ≤ L - 1 by omega) with h | h
     · exact ⟨-1, by omega, by omega, by rw [h, cnt_neg]⟩
     · have := cnt_bd body (L - 1) h; exact ⟨_, this.1, by omega, rfl⟩
    obtain ⟨X, hX0, hX1, hX⟩ := hX
    have hY : ∃ Y, -1 ≤ Y ∧ Y ≤ 65536 ∧ Y = cnt els X := by
     rcases (show X = -1 ∨ 0 ≤ X by omega) with h | h
     · exact ⟨-1, by omega, by omega, by rw [h, cnt_neg]⟩
     · have := cnt_bd els X h; exact ⟨_, this.1, by omega, rfl⟩
    obtain ⟨Y, hY0, hY1, hY⟩ := hY
    have hc2 : Hid (cnt l left = cnt rest Y) := zh (by
     rw [hc.out]
     show (if (if 0 ≤ (if 0 ≤ L - 1 then cnt body (L - 1) else L - 1) then cnt els (if 0 ≤ L - 1 then cnt body (L - 1) else L - 1) else (if 0 ≤ L - 1 then cnt body (L - 1) else L - 1)) < 0 then -1 else cnt rest (if 0 ≤ (if 0 ≤ L - 1 then cnt body (L - 1) else L - 1) then cnt els (if 0 ≤ L - 1 then cnt body (L - 1) else L - 1) else (if 0 ≤ L - 1 then cnt body (L - 1) else L - 1))) = _
     have e1 : (if 0 ≤ L - 1 then cnt body (L - 1) else L - 1) = X := by
      by_cases h : 0 ≤ L - 1
      · rw [if_pos h, hX]
      · rw [if_neg h, hX, show L - 1 = -1 by omega, cnt_neg]
     rw [e1]
     have e2 : (if 0 ≤ X then cnt els X else X) = Y := by
      by_cases h : 0 ≤ X
      · rw [if_pos h, hY]
      · rw [if_neg h, hY, show X = -1 by omega, cnt_neg]
     rw [e2]
     by_cases h : Y < 0
     · rw [if_pos h, show Y = -1 by omega, cnt_neg]
     · rw [if_neg h])
    obtain ⟨U, hUX⟩ : ∃ U, U = 65536 - X := ⟨_, rfl⟩
    obtain ⟨V, hVY⟩ : ∃ V, V = 65536 - Y := ⟨_, rfl⟩
    have hcb : ∀ q, Hid (Calls Tryz.prog 109 #[.slice a5 body.len k5, .int .i64 (IntKind.i64.wrap (n + 1))] (wr.drewN q) fun e w' => e = .returned (.int .i64 U) ∧ ∃ m, w' = (wr.drewN q).drewN m) := fun q => zh (by
     rw [hUX, hX, wrap_id64 (n + 1) (by omega) (by omega)]; exact hsub.out.1 a5 k5 (wr.drewN q) (n + 1) (L - 1) l5 (i5.drewN q) (by omega) (by omega) (by omega))
    have hce : ∀ q, Hid (Calls Tryz.prog 109 #[.slice a6 els.len k6, .int .i64 U] (wr.drewN q) fun e w' => e = .returned (.int .i64 V) ∧ ∃ m, w' = (wr.drewN q).drewN m) := fun q => zh (by
     rw [hVY, hY]; exact hsub.out.2.1 a6 k6 (wr.drewN q) U X l6 (i6.drewN q) (by omega) (by omega) (by omega))
    have hsr := zh hsub.out.2.2; clear hr hrest i4 i5 i6 hi hsub hc hX hY; have hVY2 := zh hVY; clear hUX hVY; go_wp2_with fail
    go_quiet ((first | (go_at_call 109; with_reducible exact quietMany (hcb _).out) | (go_at_call 109; with_reducible exact quietMany (hce _).out)))
    go_wp2; exact ⟨⟨i + 1, m + nq, rest, Y, V, by simp, rfl, by have := hVY2.out; omega, hY0, hY1, zh (by rw [hwr.out, World.drewN_drewN]), by omega, zh (hr2.out.drewN nq), hsr, hc2⟩, by simp [intOf]; omega⟩
theorem rcount_any (l : Il) : CountC l := Il.each rcount_step l
end Go.Proofs.YtkbfjkbokifgkaaGreatDoor
namespace Go.Proofs.YtkbfjkbokifgkaaGreatDoor
open Go.RowKit
set_option linter.unusedVariables false
set_option linter.unusedSimpArgs false
set_option maxRecDepth 100000 in
theorem rindex_any (n : Int) (w : World) : Calls Tryz.prog 111 #[.int .i64 n] w fun e w' => e = .returned (.bool (idx1 n)) ∧ w = w' := by
 by_cases h1 : 0 ≤ n
 · by_cases h2 : n ≤ 4294967295
   · have hv : idx1 n = true := (by unfold idx1; rw [decide_eq_true h1, decide_eq_true (by omega)]; rfl)
     go_enter Tryz.func111, Tryz.ntmps111; go_wp2; go_ret; exact ⟨by rw [hv]; rfl, rfl⟩
   · have hv : idx1 n = false := (by unfold idx1; rw [decide_eq_true h1, decide_eq_false (by omega)]; rfl)
     go_enter Tryz.func111, Tryz.ntmps111; go_wp2; go_ret; exact ⟨rfl, rfl⟩
 · have hv : idx1 n = false := (by unfold idx1; rw [decide_eq_false h1]; rfl)
   go_enter Tryz.func111, Tryz.ntmps111; go_wp2; go_ret; exact ⟨rfl, rfl⟩
set_option maxRecDepth 100000 in
set_option maxHeartbeats 1500000 in
theorem rtypes_any (l : List Int) (ao : Option Addr) (c : Nat) (w : World) (h : IntsIn w ao l) :
 Calls Tryz.prog 110 #[.slice ao l.length c] w fun e w' => e = .returned (.bool (l.all typ1)) ∧ w = w' := by
 obtain ⟨N, hN⟩ : ∃ N, l.length = N := ⟨_, rfl⟩
 have hl := h.1; have HI := zh h; clear h; rw [hN] at hl ⊢; go_enter Tryz.func110, Tryz.ntmps110; go_wp2_with fail; go_loopw [3] (fun vi wr => ∃ i : Nat, i ≤ N ∧ vi = .int .i64 i ∧ wr = w ∧ Hid ((l.take i).all typ1 = true)) (fun vi _ => N - (intOf vi).toNat)
 case atStart => exact ⟨0, Nat.zero_le _, rfl, rfl, zh rfl⟩
 case round =>
  obtain ⟨i, hi, rfl, rfl, ha⟩ := hrel
  by_cases hlt : i < N
  · obtain ⟨x, hx⟩ : ∃ x, l[i]? = some x := ⟨_, List.getElem?_eq_getElem (by omega)⟩
    obtain ⟨b, o, rfl, hcell⟩ := HI.out.cell hx; have hn := zh (all_drop hx ha.out); clear hx ha
    by_cases h6 : x = 126
    · subst h6; have hn2 := zh (hn.out.1 rfl); clear hn; go_wp2; exact ⟨⟨i + 1, by omega, by simp, trivial, hn2⟩, by simp [intOf]; omega⟩
    by_cases h7 : x = 127
    · subst h7; have hn2 := zh (hn.out.1 rfl); clear hn; go_wp2; exact ⟨⟨i + 1, by omega, by simp, trivial, hn2⟩, by simp [intOf]; omega⟩
    have hf : typ1 x = false := (by unfold typ1; simp [h6, h7])
    have q6 : (x != 126) = true := (by simp [h6])
    have q7 : (x != 127) = true := (by simp [h7])
    have hv := hn.out.2 hf; clear hn; go_wp2; go_ret; exact ⟨by rw [hv]; rfl, rfl⟩
  · have hiN : i = N := (by omega)
    subst hiN; have ha2 : l.all typ1 = true := (by have := ha.out; rwa [List.take_of_length_le (by omega)] at this)
    clear ha; go_wp2; go_ret; exact ⟨by rw [ha2]; rfl, rfl⟩
set_option maxRecDepth 100000 in
set_option maxHeartbeats 1500000 in
theorem rindices_any (l : List Int) (ao : Option Addr) (c : Nat) (w : World) (h : IntsIn w ao l) :
 Calls Tryz.prog 115 #[.slice ao l.length c] w fun e w' => e = .returned (.bool (l.all idx1)) ∧ w = w' := by
 obtain ⟨N, hN⟩ : ∃ N, l.length = N := ⟨_, rfl⟩
 have hl := h.1; have HI := zh h; clear h; rw [hN] at hl ⊢; go_enter Tryz.func115, Tryz.ntmps115; go_wp2_with fail; go_loopw [3] (fun vi wr => ∃ i : Nat, i ≤ N ∧ vi = .int .i64 i ∧ wr = w ∧ Hid ((l.take i).all idx1 = true)) (fun vi _ => N - (intOf vi).toNat)
 case atStart => exact ⟨0, Nat.zero_le _, rfl, rfl, zh rfl⟩
 case round =>
  obtain ⟨i, hi, rfl, rfl, ha⟩ := hrel
  by_cases hlt : i < N
  · obtain ⟨x, hx⟩ : ∃ x, l[i]? = some x := ⟨_, List.getElem?_eq_getElem (by omega)⟩
    obtain ⟨b, o, rfl, hcell⟩ := HI.out.cell hx; have hn := zh (all_drop hx ha.out); clear hx ha; go_wp2_with fail; refine (rindex_any x _).mono ?_; rintro e w2 ⟨rfl, rfl⟩; cases hX : idx1 x
    · have hv := hn.out.2 hX; clear hn; go_wp2; go_ret; exact ⟨by rw [hv]; rfl, rfl⟩
    · have hn2 := zh (hn.out.1 hX); clear hn; go_wp2; exact ⟨⟨i + 1, by omega, by simp, trivial, hn2⟩, by simp [intOf]; omega⟩
  · have hiN : i = N := (by omega)
    subst hiN; have ha2 : l.all idx1 = true := (by have := ha.out; rwa [List.take_of_length_le (by omega)] at this)
    clear ha; go_wp2; go_ret; exact ⟨by rw [ha2]; rfl, rfl⟩
set_option maxRecDepth 100000 in
set_option maxHeartbeats 1500000 in
theorem prlimits_any (l : List (Int × Int × Bool)) (ao : Option Addr) (c : Nat) (w : World) (h : RowsIn LimitsAt 3 w ao l) :
 Calls Tryz.prog 116 #[.slice ao l.length c] w fun e w' => e = .returned (.bool (l.all lim1)) ∧ w = w' := by
 obtain ⟨N, hN⟩ : ∃ N, l.length = N := ⟨_, rfl⟩
 have hl := h.1; have HI := zh h; clear h; rw [hN] at hl ⊢; go_enter Tryz.func116, Tryz.ntmps116; go_wp2_with fail; go_loopw [3] (fun vi wr => ∃ i : Nat, i ≤ N ∧ vi = .int .i64 i ∧ wr = w ∧ Hid ((l.take i).all lim1 = true)) (fun vi _ => N - (intOf vi).toNat)
 case atStart => exact ⟨0, Nat.zero_le _, rfl, rfl, zh rfl⟩
 case round =>
  obtain ⟨i, hi, rfl, rfl, ha⟩ := hrel
  by_cases hlt : i < N
  · obtain ⟨t, ht⟩ : ∃ t, l[i]? = some t := ⟨_, List.getElem?_eq_getElem (by omega)⟩
    obtain ⟨b, o, rfl, hrow⟩ := HI.out.row ht; obtain ⟨mn, mx, has⟩ := t; obtain ⟨c0, c1, c2⟩ := hrow; have c0 : wr.cell? ⟨b, o + i * 3, none⟩ = some (.int .i64 mn) := c0; have c1 : wr.cell? ⟨b, o + i * 3 + 1, none⟩ = some (.int .i64 mx) := c1; have c2 : wr.cell? ⟨b, o + i * 3 + 2, none⟩ = some (.bool has) := c2; have hn := zh (all_row ht ha.out); clear ht ha; go_wp2_with fail; refine (rindex_any mn _).mono ?_; rintro e w2 ⟨rfl, rfl⟩; cases hX : idx1 mn
    · have hv := hn.out.2 (by unfold lim1; rw [hX]; rfl); clear hn; go_wp2; go_ret; exact ⟨by rw [hv]; rfl, rfl⟩
    · go_wp2_with fail; refine (rindex_any mx _).mono ?_; rintro e w2 ⟨rfl, rfl⟩; cases hY : idx1 mx
      · have hv := hn.out.2 (by unfold lim1; rw [hX, hY]; rfl); clear hn; go_wp2; go_ret; exact ⟨by rw [hv]; rfl, rfl⟩
      · cases has
        · by_cases h0 : mx = 0
          · subst h0; have hn2 := zh (hn.out.1 (by unfold lim1; rw [hX, hY]; rfl)); clear hn; go_wp2; exact ⟨⟨i + 1, by omega, by simp, trivial, hn2⟩, by simp [intOf]; omega⟩
          · have q0 : (mx == 0) = false := (by simp [h0])
            have hv := hn.out.2 (by unfold lim1; rw [hX, hY]; exact q0); clear hn; go_wp2; go_ret; exact ⟨by rw [hv]; rfl, rfl⟩
        · have hn2 := zh (hn.out.1 (by unfold lim1; rw [hX, hY]; rfl)); clear hn; go_wp2; exact ⟨⟨i + 1, by omega, by simp, trivial, hn2⟩, by simp [intOf]; omega⟩
  · have hiN : i = N := (by omega)
    subst hiN; have ha2 : l.all lim1 = true := (by have := ha.out; rwa [List.take_of_length_le (by omega)] at this)
    clear ha; go_wp2; go_ret; exact ⟨by rw [ha2]; rfl, rfl⟩
end Go.Proofs.YtkbfjkbokifgkaaGreatDoor
