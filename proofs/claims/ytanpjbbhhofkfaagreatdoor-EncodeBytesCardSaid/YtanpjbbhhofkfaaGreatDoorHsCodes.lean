/- HsCodes -/
import Derived.Test.YtanpjbbhhofkfaaGreatDoorHd
namespace Go.Proofs.YtanpjbbhhofkfaaGreatDoor
open Go.RowKit
set_option linter.unusedVariables false
set_option linter.unusedSimpArgs false
set_option maxRecDepth 100000
set_option maxHeartbeats 4000000
theorem pCodes_any (m : Md) (a0 : Option Addr) (k0 : Nat) (a1 : Option Addr) (k1 : Nat) (a2 : Option Addr) (k2 : Nat) (a3 : Option Addr) (k3 : Nat) (a4 : Option Addr) (k4 : Nat) (a5 : Option Addr) (k5 : Nat) (a6 : Option Addr) (k6 : Nat) (a7 : Option Addr) (k7 : Nat) (a8 : Option Addr) (k8 : Nat) (a9 : Option Addr) (k9 : Nat) (w : World) (h : MdAt w m a0 k0 a1 k1 a2 k2 a3 k3 a4 k4 a5 k5 a6 k6 a7 k7 a8 k8 a9 k9) (hok : ∀ t ∈ m.funcs, nOk t.2.2) (hlo : ∀ t ∈ m.funcs, t.2.1.length ≤ 65536) :
 Calls Tryz.prog 62 #[mdV m a0 k0 a1 k1 a2 k2 a3 k3 a4 k4 a5 k5 a6 k6 a7 k7 a8 k8 a9 k9] w fun e w' => PNew w (xSec xCodes m.funcs) e w' := by
 unfold mdV; obtain ⟨N0, hl⟩ : ∃ N0, m.funcs.length = N0 := ⟨_, rfl⟩
 have hl63 := h.funcs.1; rw [hl] at hl63 ⊢; obtain ⟨c, hc⟩ : ∃ c, w.heap.size = c := ⟨_, rfl⟩
 obtain ⟨wA, hwA⟩ : ∃ wA, wA = w.alloc (.cells #[.slice a0 m.types.length k0, .slice a1 m.imports.length k1, .slice a2 N0 k2, .slice a3 m.tables.length k3, .slice a4 m.mems.length k4, .slice a5 m.globals.length k5, .slice a6 m.exports.length k6, .slice a7 m.start.length k7, .slice a8 m.elems.length k8, .slice a9 m.datas.length k9] 32) := ⟨_, rfl⟩
 have hbel : Below w.heap.size w wA := (by rw [hwA]; exact (Below.refl _ _).alloc (Nat.le_refl _) _)
 have hbx : Box wA c #[.slice a0 m.types.length k0, .slice a1 m.imports.length k1, .slice a2 N0 k2, .slice a3 m.tables.length k3, .slice a4 m.mems.length k4, .slice a5 m.globals.length k5, .slice a6 m.exports.length k6, .slice a7 m.start.length k7, .slice a8 m.elems.length k8, .slice a9 m.datas.length k9] := (by rw [hwA, ← hc]; exact box_new w _ _)
 have hr := zh ((h.keep (keep_below hbel)).funcs); have x0 : wA.cell? ⟨c, 2, none⟩ = some (.slice a2 N0 k2) := hbx 2 _ rfl; have y0 := zh x0; have hok2 := zh hok; have hlo2 := zh hlo; clear hok hlo; replace hl := zh hl; replace hbel := zh hbel; clear h hbx; go_enter Tryz.func62, Tryz.ntmps62; rw [hwA] at x0; go_wp2_with fail; rw [← hwA]; clear x0 hwA hc; refine (pcounted_any (N0 : Int) wA).mono ?_; rintro e w1 ⟨p, v1, s1, rfl, h1, hb1, q1⟩; have V1 := zh (Vw.oldp h1 hb1); have hN1 := zh h1.hN; have hO1 := zh h1.ownN; have hZ1 := zh hb1.size; replace h1 := zh h1; replace hb1 := zh (hbel.out.trans (hb1.mono hbel.out.size)); replace q1 := zh q1; go_wp2_with fail; go_loopw [4] (fun vi wr => ∃ (i : Nat) (v2 : Value) (s2 : PS), i ≤ N0 ∧ vi = .int .i64 i ∧ Hid (PAt wA.heap.size p wr v2 s2) ∧ Hid (Tr p v1 v2 w1 wr) ∧ Hid (Pen ⟨[], false⟩ (uB N0 ++ (m.funcs.take i).flatMap xCodes) s2)) (fun vi _ => N0 - (intOf vi).toNat)
 case atStart => exact ⟨0, v1, s1, Nat.zero_le _, rfl, h1, zh (Tr.refl _ _ _), zh (by simpa using q1.out)⟩
 case round =>
  obtain ⟨i, v2, s2, hle, rfl, h2, t2, q2⟩ := hrel; have B0 := zh (V1.out.tr t2.out); have X0 : wr.cell? ⟨c, 2, none⟩ = some (.slice a2 N0 k2) := B0.out.keeps _ _ y0.out; have ov := h2.out.c1; have hz := zh (hb1.out.trans (t2.out.below (Nat.le_trans hbel.out.size hN1.out) (fun g e => Nat.le_trans hbel.out.size (hO1.out g e)) hb1.out.size))
  by_cases hlt : i < N0
  · by_cases hov : s2.o = true
    · have hall : xSec xCodes m.funcs = (uB N0 ++ (m.funcs.take i).flatMap xCodes) ++ (m.funcs.drop i).flatMap xCodes := by unfold xSec; rw [hl.out, List.append_assoc, ← List.flatMap_append, List.take_append_drop]
      have hfin := zh (show Pen ⟨[], false⟩ (xSec xCodes m.funcs) s2 by rw [hall]; exact q2.out.stop hov); clear hall; rw [hov] at ov; go_wp2; go_ret; exact ⟨p, v2, s2, rfl, h2.out.mono hbel.out.size, hz.out, hfin.out⟩
    · have hov2 : s2.o = false := (by simpa using hov)
      rw [hov2] at ov; clear hov hov2 hz; obtain ⟨t, ht⟩ : ∃ t, m.funcs[i]? = some t := ⟨_, List.getElem?_eq_getElem (by rw [hl.out]; exact hlt)⟩
      obtain ⟨blk, o, rfl, hrow0⟩ := hr.out.row ht; have hst := zh (show (m.funcs.take (i + 1)).flatMap xCodes = (m.funcs.take i).flatMap xCodes ++ xCodes t by rw [List.take_add_one, ht]; simp); have hnk := zh (hok2.out t (List.mem_of_getElem? ht)); have hlm := hlo2.out t (List.mem_of_getElem? ht); clear ht; obtain ⟨ty, lo, bo⟩ := t; obtain ⟨c0, ⟨u1, r1, c1, i1⟩, ⟨u2, r2, c2, l2, i2⟩⟩ := hrow0; unfold IntCell at c0
      try simp only at c0 c1 c2 hnk hlm
      have J1 := zh (i1.keep B0.out.keeps); have J2 := zh (i2.keep B0.out.keeps); have L1 := i1.1; have L2 := l2; have p0 : wr.cell? ⟨blk, o + i * 3, none⟩ = some (.int .i64 ty) := B0.out.keeps _ _ c0; have p1 : wr.cell? ⟨blk, o + i * 3 + 1, none⟩ = some (.slice u1 lo.length r1) := B0.out.keeps _ _ c1; have p2 : wr.cell? ⟨blk, o + i * 3 + 2, none⟩ = some (.slice u2 bo.len r2) := B0.out.keeps _ _ c2; clear c0 c1 c2 i1 i2 l2; go_wp2_with fail; refine (pcode_any ty lo bo u1 r1 u2 r2 wr J1.out hlm L2 J2.out hnk.out).mono ?_; rintro e w3 ⟨q', v', s', rfl, hq', hb3, hp3⟩; have h3 := h2.out.below hb3; have hpM := h2.out.lt; clear p0 p1 p2 X0 ov; go_wp2_with fail; refine (part_any h3 hq' hp3 hpM).mono ?_; rintro e w4 ⟨rfl, v4, s4, h4, t4, q4⟩; have t5 := zh ((t2.out.trans (Tr.of_below hb3)).trans t4); have h5 := zh h4; have q5 := zh (show Pen ⟨[], false⟩ (uB N0 ++ (m.funcs.take (i + 1)).flatMap xCodes) s4 by rw [hst.out, ← List.append_assoc]; exact q2.out.trans q4); clear h4 t4 q4 hst h3 hq' hb3 hp3; go_wp2; exact ⟨⟨i + 1, v4, s4, by omega, by simp, h5, t5, q5⟩, by simp [intOf]; omega⟩
  · have hfin := zh (show Pen ⟨[], false⟩ (xSec xCodes m.funcs) s2 by
     have := q2.out; rw [List.take_of_length_le (by rw [hl.out]; omega)] at this; unfold xSec; rw [hl.out]; exact this)
    go_wp2; go_ret; exact ⟨p, v2, s2, rfl, h2.out.mono hbel.out.size, hz.out, hfin.out⟩
end Go.Proofs.YtanpjbbhhofkfaaGreatDoor
