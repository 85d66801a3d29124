/- What the reference's types writes. -/
import Derived.Test.YtanpjbbhhofkfaaGreatDoorHc
import Derived.Test.YtanpjbbhhofkfaaGreatDoorGp
namespace Go.Proofs.YtanpjbbhhofkfaaGreatDoor
open Go.RowKit
set_option linter.unusedVariables false
set_option linter.unusedSimpArgs false

set_option maxRecDepth 100000 in
set_option maxHeartbeats 4000000 in
theorem pTypes_any (m : Md) (a0 : Option Addr) (k0 : Nat) (a1 : Option Addr) (k1 : Nat) (a2 : Option Addr) (k2 : Nat) (a3 : Option Addr) (k3 : Nat) (a4 : Option Addr) (k4 : Nat) (a5 : Option Addr) (k5 : Nat) (a6 : Option Addr) (k6 : Nat) (a7 : Option Addr) (k7 : Nat) (a8 : Option Addr) (k8 : Nat) (a9 : Option Addr) (k9 : Nat) (w : World) (h : MdAt w m a0 k0 a1 k1 a2 k2 a3 k3 a4 k4 a5 k5 a6 k6 a7 k7 a8 k8 a9 k9) :
    Calls Tryz.prog 54 #[mdV m a0 k0 a1 k1 a2 k2 a3 k3 a4 k4 a5 k5 a6 k6 a7 k7 a8 k8 a9 k9] w fun e w' => PNew w (xSec xTypes m.types) e w' := by
  unfold mdV
  obtain ⟨N0, hl⟩ : ∃ N0, m.types.length = N0 := ⟨_, rfl⟩
  have hl63 := h.types.1
  rw [hl] at hl63 ⊢
  obtain ⟨c, hc⟩ : ∃ c, w.heap.size = c := ⟨_, rfl⟩
  obtain ⟨wA, hwA⟩ : ∃ wA, wA = w.alloc (.cells #[.slice a0 N0 k0, .slice a1 m.imports.length k1, .slice a2 m.funcs.length k2, .slice a3 m.tables.length k3, .slice a4 m.mems.length k4, .slice a5 m.globals.length k5, .slice a6 m.exports.length k6, .slice a7 m.start.length k7, .slice a8 m.elems.length k8, .slice a9 m.datas.length k9] 32) := ⟨_, rfl⟩
  have hbel : Below w.heap.size w wA := by rw [hwA]; exact (Below.refl _ _).alloc (Nat.le_refl _) _
  have hbx : Box wA c #[.slice a0 N0 k0, .slice a1 m.imports.length k1, .slice a2 m.funcs.length k2, .slice a3 m.tables.length k3, .slice a4 m.mems.length k4, .slice a5 m.globals.length k5, .slice a6 m.exports.length k6, .slice a7 m.start.length k7, .slice a8 m.elems.length k8, .slice a9 m.datas.length k9] := by rw [hwA, ← hc]; exact box_new w _ _
  have hr := Lib.hid ((h.keep (keep_below hbel)).types)
  have x0 : wA.cell? ⟨c, 0, none⟩ = some (.slice a0 N0 k0) := hbx 0 _ rfl
  have y0 := Lib.hid x0
  replace hl := Lib.hid hl
  replace hbel := Lib.hid hbel
  clear h hbx
  go_enter Tryz.func54, Tryz.ntmps54
  rw [hwA] at x0
  go_wp2_with fail
  rw [← hwA]
  clear x0 hwA hc
  refine (pcounted_any (N0 : Int) wA).mono ?_
  rintro e w1 ⟨p, v1, s1, rfl, h1, hb1, q1⟩
  have V1 := Lib.hid (Vw.oldp h1 hb1)
  have hN1 := Lib.hid h1.hN
  have hO1 := Lib.hid h1.ownN
  have hZ1 := Lib.hid hb1.size
  replace h1 := Lib.hid h1
  replace hb1 := Lib.hid (hbel.out.trans (hb1.mono hbel.out.size))
  replace q1 := Lib.hid q1
  go_wp2_with fail
  go_loopw [4] (fun vi wr => ∃ (i : Nat) (v2 : Value) (s2 : PS), i ≤ N0 ∧ vi = .int .i64 i ∧ Hid (PAt wA.heap.size p wr v2 s2) ∧ Hid (Tr p v1 v2 w1 wr) ∧ Hid (Pen ⟨[], false⟩ (uB N0 ++ (m.types.take i).flatMap xTypes) s2)) (fun vi _ => N0 - (intOf vi).toNat)
  case atStart => exact ⟨0, v1, s1, Nat.zero_le _, rfl, h1, Lib.hid (Tr.refl _ _ _), Lib.hid (by simpa using q1.out)⟩
  case round =>
    obtain ⟨i, v2, s2, hle, rfl, h2, t2, q2⟩ := hrel
    have B0 := Lib.hid (V1.out.tr t2.out)
    have X0 : wr.cell? ⟨c, 0, none⟩ = some (.slice a0 N0 k0) := B0.out.keeps _ _ y0.out
    by_cases hlt : i < N0
    · obtain ⟨t, ht⟩ : ∃ t, m.types[i]? = some t := ⟨_, List.getElem?_eq_getElem (by rw [hl.out]; exact hlt)⟩
      obtain ⟨blk, o, rfl, hrow0⟩ := hr.out.row ht
      have hst := Lib.hid (show (m.types.take (i + 1)).flatMap xTypes = (m.types.take i).flatMap xTypes ++ xTypes t by rw [List.take_add_one, ht]; simp)
      clear ht
      obtain ⟨ps, rs⟩ := t
      obtain ⟨⟨u0, r0, c0, i0⟩, ⟨u1, r1, c1, i1⟩⟩ := hrow0
      try simp only at c0 c1
      have L_ps := i0.1
      have L_rs := i1.1
      replace i0 := Lib.hid i0
      replace i1 := Lib.hid i1
      have C0 := Lib.hid (show wA.cell? ⟨blk, o + i * 2, none⟩ = some (.slice u0 ps.length r0) from c0)
      have C1 := Lib.hid (show wA.cell? ⟨blk, o + i * 2 + 1, none⟩ = some (.slice u1 rs.length r1) from c1)
      clear c0 c1
      replace hlt := hlt
      go_wp2_with fail
      refine (pbyte_any h2.out 96).mono ?_
      rintro e w1_ ⟨rfl, v1_, s1_, hh, tt, qq⟩
      have H1 := Lib.hid hh
      have T1 := Lib.hid (t2.out.trans tt)
      have B1 := Lib.hid (B0.out.tr tt)
      have Q1 := Lib.hid (q2.out.trans qq)
      clear hh tt qq
      have X1 : w1_.cell? ⟨c, 0, none⟩ = some (.slice (some ⟨blk, o, none⟩) N0 k0) := B1.out.keeps _ _ y0.out
      have p0 : w1_.cell? ⟨blk, o + i * 2, none⟩ = some (.slice u0 ps.length r0) := B1.out.keeps _ _ C0.out
      go_wp2_with fail
      clear p0 X1
      refine (ptypes_any H1.out B1.out ps u0 r0 i0.out).mono ?_
      rintro e w2_ ⟨rfl, v2_, s2_, hh, tt, qq⟩
      have H2 := Lib.hid hh
      have T2 := Lib.hid (T1.out.trans tt)
      have B2 := Lib.hid (B1.out.tr tt)
      have Q2 := Lib.hid (Q1.out.trans qq)
      clear hh tt qq
      have X2 : w2_.cell? ⟨c, 0, none⟩ = some (.slice (some ⟨blk, o, none⟩) N0 k0) := B2.out.keeps _ _ y0.out
      have p1 : w2_.cell? ⟨blk, o + i * 2 + 1, none⟩ = some (.slice u1 rs.length r1) := B2.out.keeps _ _ C1.out
      go_wp2_with fail
      clear p1 X2
      refine (ptypes_any H2.out B2.out rs u1 r1 i1.out).mono ?_
      rintro e w3_ ⟨rfl, v3_, s3_, hh, tt, qq⟩
      have H3 := Lib.hid hh
      have T3 := Lib.hid (T2.out.trans tt)
      have B3 := Lib.hid (B2.out.tr tt)
      have Q3 := Lib.hid (Q2.out.trans qq)
      clear hh tt qq
      have h9 := Lib.hid (show Pen ⟨[], false⟩ (uB N0 ++ (m.types.take (i + 1)).flatMap xTypes) s3_ by rw [hst.out]; simpa only [xTypes, List.append_assoc] using Q3.out)
      clear hst
      go_wp2
      exact ⟨⟨i + 1, v3_, s3_, by omega, by simp, H3, T3, h9⟩, by simp [intOf]; omega⟩
    · have hfin := Lib.hid (show Pen ⟨[], false⟩ (xSec xTypes m.types) s2 by
        have := q2.out
        rw [List.take_of_length_le (by rw [hl.out]; omega)] at this
        unfold xSec
        rw [hl.out]
        exact this)
      have hz := Lib.hid (hb1.out.trans (t2.out.below (Nat.le_trans hbel.out.size hN1.out) (fun g e => Nat.le_trans hbel.out.size (hO1.out g e)) hb1.out.size))
      go_wp2
      go_ret
      exact ⟨p, v2, s2, rfl, h2.out.mono hbel.out.size, hz.out, hfin.out⟩
end Go.Proofs.YtanpjbbhhofkfaaGreatDoor

namespace Go.Proofs.YtanpjbbhhofkfaaGreatDoor
open Go.RowKit
set_option linter.unusedVariables false
set_option linter.unusedSimpArgs false

set_option maxRecDepth 100000 in
set_option maxHeartbeats 4000000 in
theorem pImports_any (m : Md) (a0 : Option Addr) (k0 : Nat) (a1 : Option Addr) (k1 : Nat) (a2 : Option Addr) (k2 : Nat) (a3 : Option Addr) (k3 : Nat) (a4 : Option Addr) (k4 : Nat) (a5 : Option Addr) (k5 : Nat) (a6 : Option Addr) (k6 : Nat) (a7 : Option Addr) (k7 : Nat) (a8 : Option Addr) (k8 : Nat) (a9 : Option Addr) (k9 : Nat) (w : World) (h : MdAt w m a0 k0 a1 k1 a2 k2 a3 k3 a4 k4 a5 k5 a6 k6 a7 k7 a8 k8 a9 k9) (hsz : ∀ t ∈ m.imports, t.1.size ≤ 4611686018427387904 ∧ t.2.1.size ≤ 4611686018427387904) :
    Calls Tryz.prog 55 #[mdV m a0 k0 a1 k1 a2 k2 a3 k3 a4 k4 a5 k5 a6 k6 a7 k7 a8 k8 a9 k9] w fun e w' => PNew w (xSec xImports m.imports) e w' := by
  unfold mdV
  obtain ⟨N0, hl⟩ : ∃ N0, m.imports.length = N0 := ⟨_, rfl⟩
  have hl63 := h.imports.1
  rw [hl] at hl63 ⊢
  obtain ⟨c, hc⟩ : ∃ c, w.heap.size = c := ⟨_, rfl⟩
  obtain ⟨wA, hwA⟩ : ∃ wA, wA = w.alloc (.cells #[.slice a0 m.types.length k0, .slice a1 N0 k1, .slice a2 m.funcs.length k2, .slice a3 m.tables.length k3, .slice a4 m.mems.length k4, .slice a5 m.globals.length k5, .slice a6 m.exports.length k6, .slice a7 m.start.length k7, .slice a8 m.elems.length k8, .slice a9 m.datas.length k9] 32) := ⟨_, rfl⟩
  have hbel : Below w.heap.size w wA := by rw [hwA]; exact (Below.refl _ _).alloc (Nat.le_refl _) _
  have hbx : Box wA c #[.slice a0 m.types.length k0, .slice a1 N0 k1, .slice a2 m.funcs.length k2, .slice a3 m.tables.length k3, .slice a4 m.mems.length k4, .slice a5 m.globals.length k5, .slice a6 m.exports.length k6, .slice a7 m.start.length k7, .slice a8 m.elems.length k8, .slice a9 m.datas.length k9] := by rw [hwA, ← hc]; exact box_new w _ _
  have hr := Lib.hid ((h.keep (keep_below hbel)).imports)
  have x0 : wA.cell? ⟨c, 1, none⟩ = some (.slice a1 N0 k1) := hbx 1 _ rfl
  have y0 := Lib.hid x0
  have hsz2 := Lib.hid hsz
  clear hsz
  replace hl := Lib.hid hl
  replace hbel := Lib.hid hbel
  clear h hbx
  go_enter Tryz.func55, Tryz.ntmps55
  rw [hwA] at x0
  go_wp2_with fail
  rw [← hwA]
  clear x0 hwA hc
  refine (pcounted_any (N0 : Int) wA).mono ?_
  rintro e w1 ⟨p, v1, s1, rfl, h1, hb1, q1⟩
  have V1 := Lib.hid (Vw.oldp h1 hb1)
  have hN1 := Lib.hid h1.hN
  have hO1 := Lib.hid h1.ownN
  have hZ1 := Lib.hid hb1.size
  replace h1 := Lib.hid h1
  replace hb1 := Lib.hid (hbel.out.trans (hb1.mono hbel.out.size))
  replace q1 := Lib.hid q1
  go_wp2_with fail
  go_loopw [4] (fun vi wr => ∃ (i : Nat) (v2 : Value) (s2 : PS), i ≤ N0 ∧ vi = .int .i64 i ∧ Hid (PAt wA.heap.size p wr v2 s2) ∧ Hid (Tr p v1 v2 w1 wr) ∧ Hid (Pen ⟨[], false⟩ (uB N0 ++ (m.imports.take i).flatMap xImports) s2)) (fun vi _ => N0 - (intOf vi).toNat)
  case atStart => exact ⟨0, v1, s1, Nat.zero_le _, rfl, h1, Lib.hid (Tr.refl _ _ _), Lib.hid (by simpa using q1.out)⟩
  case round =>
    obtain ⟨i, v2, s2, hle, rfl, h2, t2, q2⟩ := hrel
    have B0 := Lib.hid (V1.out.tr t2.out)
    have X0 : wr.cell? ⟨c, 1, none⟩ = some (.slice a1 N0 k1) := B0.out.keeps _ _ y0.out
    by_cases hlt : i < N0
    · obtain ⟨t, ht⟩ : ∃ t, m.imports[i]? = some t := ⟨_, List.getElem?_eq_getElem (by rw [hl.out]; exact hlt)⟩
      obtain ⟨blk, o, rfl, hrow0⟩ := hr.out.row ht
      have hst := Lib.hid (show (m.imports.take (i + 1)).flatMap xImports = (m.imports.take i).flatMap xImports ++ xImports t by rw [List.take_add_one, ht]; simp)
      have hzz := hsz2.out t (List.mem_of_getElem? ht)
      clear ht
      obtain ⟨s0, s1, v0⟩ := t
      obtain ⟨⟨c0, _⟩, ⟨c1, _⟩, c2⟩ := hrow0
      unfold IntCell at c2
      try simp only at c0 c1 c2
      try simp only at hzz
      obtain ⟨z0, z1⟩ := hzz
      have C0 := Lib.hid (show wA.cell? ⟨blk, o + i * 3, none⟩ = some (.string s0) from c0)
      have C1 := Lib.hid (show wA.cell? ⟨blk, o + i * 3 + 1, none⟩ = some (.string s1) from c1)
      have C2 := Lib.hid (show wA.cell? ⟨blk, o + i * 3 + 2, none⟩ = some (.int .i64 v0) from c2)
      clear c0 c1 c2
      replace hlt := hlt
      have p0 : wr.cell? ⟨blk, o + i * 3, none⟩ = some (.string s0) := B0.out.keeps _ _ C0.out
      go_wp2_with fail
      clear p0
      refine (pname_any h2.out s0 z0).mono ?_
      rintro e w1_ ⟨rfl, v1_, s1_, hh, tt, qq⟩
      have H1 := Lib.hid hh
      have T1 := Lib.hid (t2.out.trans tt)
      have B1 := Lib.hid (B0.out.tr tt)
      have Q1 := Lib.hid (q2.out.trans qq)
      clear hh tt qq
      have X1 : w1_.cell? ⟨c, 1, none⟩ = some (.slice (some ⟨blk, o, none⟩) N0 k1) := B1.out.keeps _ _ y0.out
      have p1 : w1_.cell? ⟨blk, o + i * 3 + 1, none⟩ = some (.string s1) := B1.out.keeps _ _ C1.out
      go_wp2_with fail
      clear p1 X1
      refine (pname_any H1.out s1 z1).mono ?_
      rintro e w2_ ⟨rfl, v2_, s2_, hh, tt, qq⟩
      have H2 := Lib.hid hh
      have T2 := Lib.hid (T1.out.trans tt)
      have B2 := Lib.hid (B1.out.tr tt)
      have Q2 := Lib.hid (Q1.out.trans qq)
      clear hh tt qq
      go_wp2_with fail
      refine (pbyte_any H2.out 0).mono ?_
      rintro e w3_ ⟨rfl, v3_, s3_, hh, tt, qq⟩
      have H3 := Lib.hid hh
      have T3 := Lib.hid (T2.out.trans tt)
      have B3 := Lib.hid (B2.out.tr tt)
      have Q3 := Lib.hid (Q2.out.trans qq)
      clear hh tt qq
      have X3 : w3_.cell? ⟨c, 1, none⟩ = some (.slice (some ⟨blk, o, none⟩) N0 k1) := B3.out.keeps _ _ y0.out
      have p2 : w3_.cell? ⟨blk, o + i * 3 + 2, none⟩ = some (.int .i64 v0) := B3.out.keeps _ _ C2.out
      go_wp2_with fail
      clear p2 X3
      refine (pu_any H3.out v0).mono ?_
      rintro e w4_ ⟨rfl, v4_, s4_, hh, tt, qq⟩
      have H4 := Lib.hid hh
      have T4 := Lib.hid (T3.out.trans tt)
      have B4 := Lib.hid (B3.out.tr tt)
      have Q4 := Lib.hid (Q3.out.trans qq)
      clear hh tt qq
      have h9 := Lib.hid (show Pen ⟨[], false⟩ (uB N0 ++ (m.imports.take (i + 1)).flatMap xImports) s4_ by rw [hst.out]; simpa only [xImports, List.append_assoc] using Q4.out)
      clear hst
      go_wp2
      exact ⟨⟨i + 1, v4_, s4_, by omega, by simp, H4, T4, h9⟩, by simp [intOf]; omega⟩
    · have hfin := Lib.hid (show Pen ⟨[], false⟩ (xSec xImports m.imports) s2 by
        have := q2.out
        rw [List.take_of_length_le (by rw [hl.out]; omega)] at this
        unfold xSec
        rw [hl.out]
        exact this)
      have hz := Lib.hid (hb1.out.trans (t2.out.below (Nat.le_trans hbel.out.size hN1.out) (fun g e => Nat.le_trans hbel.out.size (hO1.out g e)) hb1.out.size))
      go_wp2
      go_ret
      exact ⟨p, v2, s2, rfl, h2.out.mono hbel.out.size, hz.out, hfin.out⟩
end Go.Proofs.YtanpjbbhhofkfaaGreatDoor

namespace Go.Proofs.YtanpjbbhhofkfaaGreatDoor
open Go.RowKit
set_option linter.unusedVariables false
set_option linter.unusedSimpArgs false

set_option maxRecDepth 100000 in
set_option maxHeartbeats 4000000 in
theorem pFuncs_any (m : Md) (a0 : Option Addr) (k0 : Nat) (a1 : Option Addr) (k1 : Nat) (a2 : Option Addr) (k2 : Nat) (a3 : Option Addr) (k3 : Nat) (a4 : Option Addr) (k4 : Nat) (a5 : Option Addr) (k5 : Nat) (a6 : Option Addr) (k6 : Nat) (a7 : Option Addr) (k7 : Nat) (a8 : Option Addr) (k8 : Nat) (a9 : Option Addr) (k9 : Nat) (w : World) (h : MdAt w m a0 k0 a1 k1 a2 k2 a3 k3 a4 k4 a5 k5 a6 k6 a7 k7 a8 k8 a9 k9) :
    Calls Tryz.prog 56 #[mdV m a0 k0 a1 k1 a2 k2 a3 k3 a4 k4 a5 k5 a6 k6 a7 k7 a8 k8 a9 k9] w fun e w' => PNew w (xSec xFuncs m.funcs) e w' := by
  unfold mdV
  obtain ⟨N0, hl⟩ : ∃ N0, m.funcs.length = N0 := ⟨_, rfl⟩
  have hl63 := h.funcs.1
  rw [hl] at hl63 ⊢
  obtain ⟨c, hc⟩ : ∃ c, w.heap.size = c := ⟨_, rfl⟩
  obtain ⟨wA, hwA⟩ : ∃ wA, wA = w.alloc (.cells #[.slice a0 m.types.length k0, .slice a1 m.imports.length k1, .slice a2 N0 k2, .slice a3 m.tables.length k3, .slice a4 m.mems.length k4, .slice a5 m.globals.length k5, .slice a6 m.exports.length k6, .slice a7 m.start.length k7, .slice a8 m.elems.length k8, .slice a9 m.datas.length k9] 32) := ⟨_, rfl⟩
  have hbel : Below w.heap.size w wA := by rw [hwA]; exact (Below.refl _ _).alloc (Nat.le_refl _) _
  have hbx : Box wA c #[.slice a0 m.types.length k0, .slice a1 m.imports.length k1, .slice a2 N0 k2, .slice a3 m.tables.length k3, .slice a4 m.mems.length k4, .slice a5 m.globals.length k5, .slice a6 m.exports.length k6, .slice a7 m.start.length k7, .slice a8 m.elems.length k8, .slice a9 m.datas.length k9] := by rw [hwA, ← hc]; exact box_new w _ _
  have hr := Lib.hid ((h.keep (keep_below hbel)).funcs)
  have x0 : wA.cell? ⟨c, 2, none⟩ = some (.slice a2 N0 k2) := hbx 2 _ rfl
  have y0 := Lib.hid x0
  replace hl := Lib.hid hl
  replace hbel := Lib.hid hbel
  clear h hbx
  go_enter Tryz.func56, Tryz.ntmps56
  rw [hwA] at x0
  go_wp2_with fail
  rw [← hwA]
  clear x0 hwA hc
  refine (pcounted_any (N0 : Int) wA).mono ?_
  rintro e w1 ⟨p, v1, s1, rfl, h1, hb1, q1⟩
  have V1 := Lib.hid (Vw.oldp h1 hb1)
  have hN1 := Lib.hid h1.hN
  have hO1 := Lib.hid h1.ownN
  have hZ1 := Lib.hid hb1.size
  replace h1 := Lib.hid h1
  replace hb1 := Lib.hid (hbel.out.trans (hb1.mono hbel.out.size))
  replace q1 := Lib.hid q1
  go_wp2_with fail
  go_loopw [4] (fun vi wr => ∃ (i : Nat) (v2 : Value) (s2 : PS), i ≤ N0 ∧ vi = .int .i64 i ∧ Hid (PAt wA.heap.size p wr v2 s2) ∧ Hid (Tr p v1 v2 w1 wr) ∧ Hid (Pen ⟨[], false⟩ (uB N0 ++ (m.funcs.take i).flatMap xFuncs) s2)) (fun vi _ => N0 - (intOf vi).toNat)
  case atStart => exact ⟨0, v1, s1, Nat.zero_le _, rfl, h1, Lib.hid (Tr.refl _ _ _), Lib.hid (by simpa using q1.out)⟩
  case round =>
    obtain ⟨i, v2, s2, hle, rfl, h2, t2, q2⟩ := hrel
    have B0 := Lib.hid (V1.out.tr t2.out)
    have X0 : wr.cell? ⟨c, 2, none⟩ = some (.slice a2 N0 k2) := B0.out.keeps _ _ y0.out
    by_cases hlt : i < N0
    · obtain ⟨t, ht⟩ : ∃ t, m.funcs[i]? = some t := ⟨_, List.getElem?_eq_getElem (by rw [hl.out]; exact hlt)⟩
      obtain ⟨blk, o, rfl, hrow0⟩ := hr.out.row ht
      have hst := Lib.hid (show (m.funcs.take (i + 1)).flatMap xFuncs = (m.funcs.take i).flatMap xFuncs ++ xFuncs t by rw [List.take_add_one, ht]; simp)
      clear ht
      obtain ⟨ty, lo, bo⟩ := t
      obtain ⟨c0, ⟨u1, r1, c1, i1⟩, ⟨u2, r2, c2, l2, i2⟩⟩ := hrow0
      unfold IntCell at c0
      try simp only at c0 c1 c2
      have L_lo := i1.1
      have L_bo := l2
      replace i1 := Lib.hid i1
      replace l2 := Lib.hid l2
      replace i2 := Lib.hid i2
      have C0 := Lib.hid (show wA.cell? ⟨blk, o + i * 3, none⟩ = some (.int .i64 ty) from c0)
      have C1 := Lib.hid (show wA.cell? ⟨blk, o + i * 3 + 1, none⟩ = some (.slice u1 lo.length r1) from c1)
      have C2 := Lib.hid (show wA.cell? ⟨blk, o + i * 3 + 2, none⟩ = some (.slice u2 bo.len r2) from c2)
      clear c0 c1 c2
      replace hlt := hlt
      have p0 : wr.cell? ⟨blk, o + i * 3, none⟩ = some (.int .i64 ty) := B0.out.keeps _ _ C0.out
      go_wp2_with fail
      clear p0
      refine (pu_any h2.out ty).mono ?_
      rintro e w1_ ⟨rfl, v1_, s1_, hh, tt, qq⟩
      have H1 := Lib.hid hh
      have T1 := Lib.hid (t2.out.trans tt)
      have B1 := Lib.hid (B0.out.tr tt)
      have Q1 := Lib.hid (q2.out.trans qq)
      clear hh tt qq
      have h9 := Lib.hid (show Pen ⟨[], false⟩ (uB N0 ++ (m.funcs.take (i + 1)).flatMap xFuncs) s1_ by rw [hst.out]; simpa only [xFuncs, List.append_assoc] using Q1.out)
      clear hst
      go_wp2
      exact ⟨⟨i + 1, v1_, s1_, by omega, by simp, H1, T1, h9⟩, by simp [intOf]; omega⟩
    · have hfin := Lib.hid (show Pen ⟨[], false⟩ (xSec xFuncs m.funcs) s2 by
        have := q2.out
        rw [List.take_of_length_le (by rw [hl.out]; omega)] at this
        unfold xSec
        rw [hl.out]
        exact this)
      have hz := Lib.hid (hb1.out.trans (t2.out.below (Nat.le_trans hbel.out.size hN1.out) (fun g e => Nat.le_trans hbel.out.size (hO1.out g e)) hb1.out.size))
      go_wp2
      go_ret
      exact ⟨p, v2, s2, rfl, h2.out.mono hbel.out.size, hz.out, hfin.out⟩
end Go.Proofs.YtanpjbbhhofkfaaGreatDoor

namespace Go.Proofs.YtanpjbbhhofkfaaGreatDoor
open Go.RowKit
set_option linter.unusedVariables false
set_option linter.unusedSimpArgs false

set_option maxRecDepth 100000 in
set_option maxHeartbeats 4000000 in
theorem pGlobals_any (m : Md) (a0 : Option Addr) (k0 : Nat) (a1 : Option Addr) (k1 : Nat) (a2 : Option Addr) (k2 : Nat) (a3 : Option Addr) (k3 : Nat) (a4 : Option Addr) (k4 : Nat) (a5 : Option Addr) (k5 : Nat) (a6 : Option Addr) (k6 : Nat) (a7 : Option Addr) (k7 : Nat) (a8 : Option Addr) (k8 : Nat) (a9 : Option Addr) (k9 : Nat) (w : World) (h : MdAt w m a0 k0 a1 k1 a2 k2 a3 k3 a4 k4 a5 k5 a6 k6 a7 k7 a8 k8 a9 k9) (hok : ∀ t ∈ m.globals, nOk t.2.2.il) :
    Calls Tryz.prog 58 #[mdV m a0 k0 a1 k1 a2 k2 a3 k3 a4 k4 a5 k5 a6 k6 a7 k7 a8 k8 a9 k9] w fun e w' => PNew w (xSec xGlobals m.globals) e w' := by
  unfold mdV
  obtain ⟨N0, hl⟩ : ∃ N0, m.globals.length = N0 := ⟨_, rfl⟩
  have hl63 := h.globals.1
  rw [hl] at hl63 ⊢
  obtain ⟨c, hc⟩ : ∃ c, w.heap.size = c := ⟨_, rfl⟩
  obtain ⟨wA, hwA⟩ : ∃ wA, wA = w.alloc (.cells #[.slice a0 m.types.length k0, .slice a1 m.imports.length k1, .slice a2 m.funcs.length k2, .slice a3 m.tables.length k3, .slice a4 m.mems.length k4, .slice a5 N0 k5, .slice a6 m.exports.length k6, .slice a7 m.start.length k7, .slice a8 m.elems.length k8, .slice a9 m.datas.length k9] 32) := ⟨_, rfl⟩
  have hbel : Below w.heap.size w wA := by rw [hwA]; exact (Below.refl _ _).alloc (Nat.le_refl _) _
  have hbx : Box wA c #[.slice a0 m.types.length k0, .slice a1 m.imports.length k1, .slice a2 m.funcs.length k2, .slice a3 m.tables.length k3, .slice a4 m.mems.length k4, .slice a5 N0 k5, .slice a6 m.exports.length k6, .slice a7 m.start.length k7, .slice a8 m.elems.length k8, .slice a9 m.datas.length k9] := by rw [hwA, ← hc]; exact box_new w _ _
  have hr := Lib.hid ((h.keep (keep_below hbel)).globals)
  have x0 : wA.cell? ⟨c, 5, none⟩ = some (.slice a5 N0 k5) := hbx 5 _ rfl
  have y0 := Lib.hid x0
  have hok2 := Lib.hid hok
  clear hok
  replace hl := Lib.hid hl
  replace hbel := Lib.hid hbel
  clear h hbx
  go_enter Tryz.func58, Tryz.ntmps58
  rw [hwA] at x0
  go_wp2_with fail
  rw [← hwA]
  clear x0 hwA hc
  refine (pcounted_any (N0 : Int) wA).mono ?_
  rintro e w1 ⟨p, v1, s1, rfl, h1, hb1, q1⟩
  have V1 := Lib.hid (Vw.oldp h1 hb1)
  have hN1 := Lib.hid h1.hN
  have hO1 := Lib.hid h1.ownN
  have hZ1 := Lib.hid hb1.size
  replace h1 := Lib.hid h1
  replace hb1 := Lib.hid (hbel.out.trans (hb1.mono hbel.out.size))
  replace q1 := Lib.hid q1
  go_wp2_with fail
  go_loopw [4] (fun vi wr => ∃ (i : Nat) (v2 : Value) (s2 : PS), i ≤ N0 ∧ vi = .int .i64 i ∧ Hid (PAt wA.heap.size p wr v2 s2) ∧ Hid (Tr p v1 v2 w1 wr) ∧ Hid (Pen ⟨[], false⟩ (uB N0 ++ (m.globals.take i).flatMap xGlobals) s2)) (fun vi _ => N0 - (intOf vi).toNat)
  case atStart => exact ⟨0, v1, s1, Nat.zero_le _, rfl, h1, Lib.hid (Tr.refl _ _ _), Lib.hid (by simpa using q1.out)⟩
  case round =>
    obtain ⟨i, v2, s2, hle, rfl, h2, t2, q2⟩ := hrel
    have B0 := Lib.hid (V1.out.tr t2.out)
    have X0 : wr.cell? ⟨c, 5, none⟩ = some (.slice a5 N0 k5) := B0.out.keeps _ _ y0.out
    by_cases hlt : i < N0
    · obtain ⟨t, ht⟩ : ∃ t, m.globals[i]? = some t := ⟨_, List.getElem?_eq_getElem (by rw [hl.out]; exact hlt)⟩
      obtain ⟨blk, o, rfl, hrow0⟩ := hr.out.row ht
      have hst := Lib.hid (show (m.globals.take (i + 1)).flatMap xGlobals = (m.globals.take i).flatMap xGlobals ++ xGlobals t by rw [List.take_add_one, ht]; simp)
      have hnk := Lib.hid (hok2.out t (List.mem_of_getElem? ht))
      clear ht
      obtain ⟨ty, mu, ⟨op, x, y, n, ls, body, els⟩⟩ := t
      obtain ⟨c0, c1, ⟨⟨d0, d1, d2, d3⟩, ⟨u4, r4, d4, i4⟩, ⟨u5, r5, d5, l5, i5⟩, ⟨u6, r6, d6, l6, i6⟩, _⟩⟩ := hrow0
      unfold IntCell at c0
      unfold BoolCell at c1
      try simp only at c0 c1
      have L_ls := i4.1
      have L_body := l5
      have L_els := l6
      replace i4 := Lib.hid i4
      replace l5 := Lib.hid l5
      replace i5 := Lib.hid i5
      replace l6 := Lib.hid l6
      replace i6 := Lib.hid i6
      have C0 := Lib.hid (show wA.cell? ⟨blk, o + i * 9, none⟩ = some (.int .i64 ty) from c0)
      have C1 := Lib.hid (show wA.cell? ⟨blk, o + i * 9 + 1, none⟩ = some (.bool mu) from c1)
      have C2 := Lib.hid (show wA.cell? ⟨blk, o + i * 9 + 2, none⟩ = some (.int .i64 op) from d0)
      have C3 := Lib.hid (show wA.cell? ⟨blk, o + i * 9 + 3, none⟩ = some (.int .i64 x) from d1)
      have C4 := Lib.hid (show wA.cell? ⟨blk, o + i * 9 + 4, none⟩ = some (.int .i64 y) from d2)
      have C5 := Lib.hid (show wA.cell? ⟨blk, o + i * 9 + 5, none⟩ = some (.int .i64 n) from d3)
      have C6 := Lib.hid (show wA.cell? ⟨blk, o + i * 9 + 6, none⟩ = some (.slice u4 ls.length r4) from d4)
      have C7 := Lib.hid (show wA.cell? ⟨blk, o + i * 9 + 7, none⟩ = some (.slice u5 body.len r5) from d5)
      have C8 := Lib.hid (show wA.cell? ⟨blk, o + i * 9 + 8, none⟩ = some (.slice u6 els.len r6) from d6)
      clear c0 c1 d0 d1 d2 d3 d4 d5 d6
      replace hlt := hlt
      have p0 : wr.cell? ⟨blk, o + i * 9, none⟩ = some (.int .i64 ty) := B0.out.keeps _ _ C0.out
      go_wp2_with fail
      clear p0
      refine (pbyte_any h2.out ty).mono ?_
      rintro e w1_ ⟨rfl, v1_, s1_, hh, tt, qq⟩
      have H1 := Lib.hid hh
      have T1 := Lib.hid (t2.out.trans tt)
      have B1 := Lib.hid (B0.out.tr tt)
      have Q1 := Lib.hid (q2.out.trans qq)
      clear hh tt qq
      have X1 : w1_.cell? ⟨c, 5, none⟩ = some (.slice (some ⟨blk, o, none⟩) N0 k5) := B1.out.keeps _ _ y0.out
      have p1 : w1_.cell? ⟨blk, o + i * 9 + 1, none⟩ = some (.bool mu) := B1.out.keeps _ _ C1.out
      cases mu
      · go_wp2_with fail
        clear p1 X1
        refine (pbyte_any H1.out 0).mono ?_
        rintro e w2_ ⟨rfl, v2_, s2_, hh, tt, qq⟩
        have H2 := Lib.hid hh
        have T2 := Lib.hid (T1.out.trans tt)
        have B2 := Lib.hid (B1.out.tr tt)
        have Q2 := Lib.hid (Q1.out.trans qq)
        clear hh tt qq
        have X2 : w2_.cell? ⟨c, 5, none⟩ = some (.slice (some ⟨blk, o, none⟩) N0 k5) := B2.out.keeps _ _ y0.out
        have p2 : w2_.cell? ⟨blk, o + i * 9 + 2, none⟩ = some (.int .i64 op) := B2.out.keeps _ _ C2.out
        have p3 : w2_.cell? ⟨blk, o + i * 9 + 3, none⟩ = some (.int .i64 x) := B2.out.keeps _ _ C3.out
        have p4 : w2_.cell? ⟨blk, o + i * 9 + 4, none⟩ = some (.int .i64 y) := B2.out.keeps _ _ C4.out
        have p5 : w2_.cell? ⟨blk, o + i * 9 + 5, none⟩ = some (.int .i64 n) := B2.out.keeps _ _ C5.out
        have p6 : w2_.cell? ⟨blk, o + i * 9 + 6, none⟩ = some (.slice u4 ls.length r4) := B2.out.keeps _ _ C6.out
        have p7 : w2_.cell? ⟨blk, o + i * 9 + 7, none⟩ = some (.slice u5 body.len r5) := B2.out.keeps _ _ C7.out
        have p8 : w2_.cell? ⟨blk, o + i * 9 + 8, none⟩ = some (.slice u6 els.len r6) := B2.out.keeps _ _ C8.out
        obtain ⟨wB, hwB⟩ : ∃ wB, wB = w2_.alloc (.cells #[.int .i64 op, .int .i64 x, .int .i64 y, .int .i64 n, .slice u4 ls.length r4, .slice u5 body.len r5, .slice u6 els.len r6] 46) := ⟨_, rfl⟩
        have hbb : Below w2_.heap.size w2_ wB := by rw [hwB]; exact (Below.refl _ _).alloc (Nat.le_refl _) _
        have hby : Hid (Box wB w2_.heap.size #[.int .i64 op, .int .i64 x, .int .i64 y, .int .i64 n, .slice u4 ls.length r4, .slice u5 body.len r5, .slice u6 els.len r6]) := Lib.hid (by rw [hwB]; exact box_new w2_ _ _)
        have hgp := Lib.hid (show w2_.heap.size ≠ p by have := H2.out.lt; omega)
        have hgv := Lib.hid (show v2_.ownBlock ≠ some w2_.heap.size from fun e => by have := (H2.out.own.lt _ e).2; omega)
        have kx := Lib.hid (H2.out.below hbb)
        have tx := Lib.hid (Tr.of_below (p := p) (v := v2_) hbb)
        clear hbb
        go_wp2_with fail
        clear p2 p3 p4 p5 p6 p7 p8 X2
        rw [← hwB]
        clear hwB
        obtain ⟨V, hV, hvi⟩ := one_view (B2.out.tr tx.out) hby.out hgp.out hgv.out i4.out l5.out i5.out l6.out i6.out
        refine (pexpr_any (Il.cons op x y n ls body els .nil) V wA.heap.size p wB v2_ s2_ (some ⟨w2_.heap.size, 0, none⟩) 1 kx.out hV (by show 0 + 1 ≤ _; omega) hvi hnk.out).mono ?_
        rintro e w3_ ⟨rfl, v3_, s3_, hh, tt, qq⟩
        have H3 := Lib.hid hh
        have T3 := Lib.hid ((T2.out.trans tx.out).trans tt)
        have B3 := Lib.hid ((B2.out.tr tx.out).tr tt)
        have Q3 := Lib.hid (Q2.out.trans qq)
        clear hh tt qq hby hgp hgv kx tx V hV hvi
        have h9 := Lib.hid (show Pen ⟨[], false⟩ (uB N0 ++ (m.globals.take (i + 1)).flatMap xGlobals) s3_ by rw [hst.out]; simpa only [xGlobals, List.append_assoc, One.il, if_true, if_false, Bool.false_eq_true] using Q3.out)
        clear hst
        go_wp2
        exact ⟨⟨i + 1, v3_, s3_, by omega, by simp, H3, T3, h9⟩, by simp [intOf]; omega⟩
      · go_wp2_with fail
        clear p1 X1
        refine (pbyte_any H1.out 1).mono ?_
        rintro e w2_ ⟨rfl, v2_, s2_, hh, tt, qq⟩
        have H2 := Lib.hid hh
        have T2 := Lib.hid (T1.out.trans tt)
        have B2 := Lib.hid (B1.out.tr tt)
        have Q2 := Lib.hid (Q1.out.trans qq)
        clear hh tt qq
        have X2 : w2_.cell? ⟨c, 5, none⟩ = some (.slice (some ⟨blk, o, none⟩) N0 k5) := B2.out.keeps _ _ y0.out
        have p2 : w2_.cell? ⟨blk, o + i * 9 + 2, none⟩ = some (.int .i64 op) := B2.out.keeps _ _ C2.out
        have p3 : w2_.cell? ⟨blk, o + i * 9 + 3, none⟩ = some (.int .i64 x) := B2.out.keeps _ _ C3.out
        have p4 : w2_.cell? ⟨blk, o + i * 9 + 4, none⟩ = some (.int .i64 y) := B2.out.keeps _ _ C4.out
        have p5 : w2_.cell? ⟨blk, o + i * 9 + 5, none⟩ = some (.int .i64 n) := B2.out.keeps _ _ C5.out
        have p6 : w2_.cell? ⟨blk, o + i * 9 + 6, none⟩ = some (.slice u4 ls.length r4) := B2.out.keeps _ _ C6.out
        have p7 : w2_.cell? ⟨blk, o + i * 9 + 7, none⟩ = some (.slice u5 body.len r5) := B2.out.keeps _ _ C7.out
        have p8 : w2_.cell? ⟨blk, o + i * 9 + 8, none⟩ = some (.slice u6 els.len r6) := B2.out.keeps _ _ C8.out
        obtain ⟨wB, hwB⟩ : ∃ wB, wB = w2_.alloc (.cells #[.int .i64 op, .int .i64 x, .int .i64 y, .int .i64 n, .slice u4 ls.length r4, .slice u5 body.len r5, .slice u6 els.len r6] 46) := ⟨_, rfl⟩
        have hbb : Below w2_.heap.size w2_ wB := by rw [hwB]; exact (Below.refl _ _).alloc (Nat.le_refl _) _
        have hby : Hid (Box wB w2_.heap.size #[.int .i64 op, .int .i64 x, .int .i64 y, .int .i64 n, .slice u4 ls.length r4, .slice u5 body.len r5, .slice u6 els.len r6]) := Lib.hid (by rw [hwB]; exact box_new w2_ _ _)
        have hgp := Lib.hid (show w2_.heap.size ≠ p by have := H2.out.lt; omega)
        have hgv := Lib.hid (show v2_.ownBlock ≠ some w2_.heap.size from fun e => by have := (H2.out.own.lt _ e).2; omega)
        have kx := Lib.hid (H2.out.below hbb)
        have tx := Lib.hid (Tr.of_below (p := p) (v := v2_) hbb)
        clear hbb
        go_wp2_with fail
        clear p2 p3 p4 p5 p6 p7 p8 X2
        rw [← hwB]
        clear hwB
        obtain ⟨V, hV, hvi⟩ := one_view (B2.out.tr tx.out) hby.out hgp.out hgv.out i4.out l5.out i5.out l6.out i6.out
        refine (pexpr_any (Il.cons op x y n ls body els .nil) V wA.heap.size p wB v2_ s2_ (some ⟨w2_.heap.size, 0, none⟩) 1 kx.out hV (by show 0 + 1 ≤ _; omega) hvi hnk.out).mono ?_
        rintro e w3_ ⟨rfl, v3_, s3_, hh, tt, qq⟩
        have H3 := Lib.hid hh
        have T3 := Lib.hid ((T2.out.trans tx.out).trans tt)
        have B3 := Lib.hid ((B2.out.tr tx.out).tr tt)
        have Q3 := Lib.hid (Q2.out.trans qq)
        clear hh tt qq hby hgp hgv kx tx V hV hvi
        have h9 := Lib.hid (show Pen ⟨[], false⟩ (uB N0 ++ (m.globals.take (i + 1)).flatMap xGlobals) s3_ by rw [hst.out]; simpa only [xGlobals, List.append_assoc, One.il, if_true, if_false, Bool.false_eq_true] using Q3.out)
        clear hst
        go_wp2
        exact ⟨⟨i + 1, v3_, s3_, by omega, by simp, H3, T3, h9⟩, by simp [intOf]; omega⟩
    · have hfin := Lib.hid (show Pen ⟨[], false⟩ (xSec xGlobals m.globals) s2 by
        have := q2.out
        rw [List.take_of_length_le (by rw [hl.out]; omega)] at this
        unfold xSec
        rw [hl.out]
        exact this)
      have hz := Lib.hid (hb1.out.trans (t2.out.below (Nat.le_trans hbel.out.size hN1.out) (fun g e => Nat.le_trans hbel.out.size (hO1.out g e)) hb1.out.size))
      go_wp2
      go_ret
      exact ⟨p, v2, s2, rfl, h2.out.mono hbel.out.size, hz.out, hfin.out⟩
end Go.Proofs.YtanpjbbhhofkfaaGreatDoor

namespace Go.Proofs.YtanpjbbhhofkfaaGreatDoor
open Go.RowKit
set_option linter.unusedVariables false
set_option linter.unusedSimpArgs false

set_option maxRecDepth 100000 in
set_option maxHeartbeats 4000000 in
theorem pExports_any (m : Md) (a0 : Option Addr) (k0 : Nat) (a1 : Option Addr) (k1 : Nat) (a2 : Option Addr) (k2 : Nat) (a3 : Option Addr) (k3 : Nat) (a4 : Option Addr) (k4 : Nat) (a5 : Option Addr) (k5 : Nat) (a6 : Option Addr) (k6 : Nat) (a7 : Option Addr) (k7 : Nat) (a8 : Option Addr) (k8 : Nat) (a9 : Option Addr) (k9 : Nat) (w : World) (h : MdAt w m a0 k0 a1 k1 a2 k2 a3 k3 a4 k4 a5 k5 a6 k6 a7 k7 a8 k8 a9 k9) (hsz : ∀ t ∈ m.exports, t.1.size ≤ 4611686018427387904) :
    Calls Tryz.prog 59 #[mdV m a0 k0 a1 k1 a2 k2 a3 k3 a4 k4 a5 k5 a6 k6 a7 k7 a8 k8 a9 k9] w fun e w' => PNew w (xSec xExports m.exports) e w' := by
  unfold mdV
  obtain ⟨N0, hl⟩ : ∃ N0, m.exports.length = N0 := ⟨_, rfl⟩
  have hl63 := h.exports.1
  rw [hl] at hl63 ⊢
  obtain ⟨c, hc⟩ : ∃ c, w.heap.size = c := ⟨_, rfl⟩
  obtain ⟨wA, hwA⟩ : ∃ wA, wA = w.alloc (.cells #[.slice a0 m.types.length k0, .slice a1 m.imports.length k1, .slice a2 m.funcs.length k2, .slice a3 m.tables.length k3, .slice a4 m.mems.length k4, .slice a5 m.globals.length k5, .slice a6 N0 k6, .slice a7 m.start.length k7, .slice a8 m.elems.length k8, .slice a9 m.datas.length k9] 32) := ⟨_, rfl⟩
  have hbel : Below w.heap.size w wA := by rw [hwA]; exact (Below.refl _ _).alloc (Nat.le_refl _) _
  have hbx : Box wA c #[.slice a0 m.types.length k0, .slice a1 m.imports.length k1, .slice a2 m.funcs.length k2, .slice a3 m.tables.length k3, .slice a4 m.mems.length k4, .slice a5 m.globals.length k5, .slice a6 N0 k6, .slice a7 m.start.length k7, .slice a8 m.elems.length k8, .slice a9 m.datas.length k9] := by rw [hwA, ← hc]; exact box_new w _ _
  have hr := Lib.hid ((h.keep (keep_below hbel)).exports)
  have x0 : wA.cell? ⟨c, 6, none⟩ = some (.slice a6 N0 k6) := hbx 6 _ rfl
  have y0 := Lib.hid x0
  have hsz2 := Lib.hid hsz
  clear hsz
  replace hl := Lib.hid hl
  replace hbel := Lib.hid hbel
  clear h hbx
  go_enter Tryz.func59, Tryz.ntmps59
  rw [hwA] at x0
  go_wp2_with fail
  rw [← hwA]
  clear x0 hwA hc
  refine (pcounted_any (N0 : Int) wA).mono ?_
  rintro e w1 ⟨p, v1, s1, rfl, h1, hb1, q1⟩
  have V1 := Lib.hid (Vw.oldp h1 hb1)
  have hN1 := Lib.hid h1.hN
  have hO1 := Lib.hid h1.ownN
  have hZ1 := Lib.hid hb1.size
  replace h1 := Lib.hid h1
  replace hb1 := Lib.hid (hbel.out.trans (hb1.mono hbel.out.size))
  replace q1 := Lib.hid q1
  go_wp2_with fail
  go_loopw [4] (fun vi wr => ∃ (i : Nat) (v2 : Value) (s2 : PS), i ≤ N0 ∧ vi = .int .i64 i ∧ Hid (PAt wA.heap.size p wr v2 s2) ∧ Hid (Tr p v1 v2 w1 wr) ∧ Hid (Pen ⟨[], false⟩ (uB N0 ++ (m.exports.take i).flatMap xExports) s2)) (fun vi _ => N0 - (intOf vi).toNat)
  case atStart => exact ⟨0, v1, s1, Nat.zero_le _, rfl, h1, Lib.hid (Tr.refl _ _ _), Lib.hid (by simpa using q1.out)⟩
  case round =>
    obtain ⟨i, v2, s2, hle, rfl, h2, t2, q2⟩ := hrel
    have B0 := Lib.hid (V1.out.tr t2.out)
    have X0 : wr.cell? ⟨c, 6, none⟩ = some (.slice a6 N0 k6) := B0.out.keeps _ _ y0.out
    by_cases hlt : i < N0
    · obtain ⟨t, ht⟩ : ∃ t, m.exports[i]? = some t := ⟨_, List.getElem?_eq_getElem (by rw [hl.out]; exact hlt)⟩
      obtain ⟨blk, o, rfl, hrow0⟩ := hr.out.row ht
      have hst := Lib.hid (show (m.exports.take (i + 1)).flatMap xExports = (m.exports.take i).flatMap xExports ++ xExports t by rw [List.take_add_one, ht]; simp)
      have hzz := hsz2.out t (List.mem_of_getElem? ht)
      clear ht
      obtain ⟨s0, v0, v1⟩ := t
      obtain ⟨⟨c0, _⟩, c1, c2⟩ := hrow0
      unfold IntCell at c1 c2
      try simp only at c0 c1 c2
      try simp only at hzz
      have z0 := hzz
      clear hzz
      have C0 := Lib.hid (show wA.cell? ⟨blk, o + i * 3, none⟩ = some (.string s0) from c0)
      have C1 := Lib.hid (show wA.cell? ⟨blk, o + i * 3 + 1, none⟩ = some (.int .i64 v0) from c1)
      have C2 := Lib.hid (show wA.cell? ⟨blk, o + i * 3 + 2, none⟩ = some (.int .i64 v1) from c2)
      clear c0 c1 c2
      replace hlt := hlt
      have p0 : wr.cell? ⟨blk, o + i * 3, none⟩ = some (.string s0) := B0.out.keeps _ _ C0.out
      go_wp2_with fail
      clear p0
      refine (pname_any h2.out s0 z0).mono ?_
      rintro e w1_ ⟨rfl, v1_, s1_, hh, tt, qq⟩
      have H1 := Lib.hid hh
      have T1 := Lib.hid (t2.out.trans tt)
      have B1 := Lib.hid (B0.out.tr tt)
      have Q1 := Lib.hid (q2.out.trans qq)
      clear hh tt qq
      have X1 : w1_.cell? ⟨c, 6, none⟩ = some (.slice (some ⟨blk, o, none⟩) N0 k6) := B1.out.keeps _ _ y0.out
      have p1 : w1_.cell? ⟨blk, o + i * 3 + 1, none⟩ = some (.int .i64 v0) := B1.out.keeps _ _ C1.out
      go_wp2_with fail
      clear p1 X1
      refine (pbyte_any H1.out v0).mono ?_
      rintro e w2_ ⟨rfl, v2_, s2_, hh, tt, qq⟩
      have H2 := Lib.hid hh
      have T2 := Lib.hid (T1.out.trans tt)
      have B2 := Lib.hid (B1.out.tr tt)
      have Q2 := Lib.hid (Q1.out.trans qq)
      clear hh tt qq
      have X2 : w2_.cell? ⟨c, 6, none⟩ = some (.slice (some ⟨blk, o, none⟩) N0 k6) := B2.out.keeps _ _ y0.out
      have p2 : w2_.cell? ⟨blk, o + i * 3 + 2, none⟩ = some (.int .i64 v1) := B2.out.keeps _ _ C2.out
      go_wp2_with fail
      clear p2 X2
      refine (pu_any H2.out v1).mono ?_
      rintro e w3_ ⟨rfl, v3_, s3_, hh, tt, qq⟩
      have H3 := Lib.hid hh
      have T3 := Lib.hid (T2.out.trans tt)
      have B3 := Lib.hid (B2.out.tr tt)
      have Q3 := Lib.hid (Q2.out.trans qq)
      clear hh tt qq
      have h9 := Lib.hid (show Pen ⟨[], false⟩ (uB N0 ++ (m.exports.take (i + 1)).flatMap xExports) s3_ by rw [hst.out]; simpa only [xExports, List.append_assoc] using Q3.out)
      clear hst
      go_wp2
      exact ⟨⟨i + 1, v3_, s3_, by omega, by simp, H3, T3, h9⟩, by simp [intOf]; omega⟩
    · have hfin := Lib.hid (show Pen ⟨[], false⟩ (xSec xExports m.exports) s2 by
        have := q2.out
        rw [List.take_of_length_le (by rw [hl.out]; omega)] at this
        unfold xSec
        rw [hl.out]
        exact this)
      have hz := Lib.hid (hb1.out.trans (t2.out.below (Nat.le_trans hbel.out.size hN1.out) (fun g e => Nat.le_trans hbel.out.size (hO1.out g e)) hb1.out.size))
      go_wp2
      go_ret
      exact ⟨p, v2, s2, rfl, h2.out.mono hbel.out.size, hz.out, hfin.out⟩
end Go.Proofs.YtanpjbbhhofkfaaGreatDoor

namespace Go.Proofs.YtanpjbbhhofkfaaGreatDoor
open Go.RowKit
set_option linter.unusedVariables false
set_option linter.unusedSimpArgs false

set_option maxRecDepth 100000 in
set_option maxHeartbeats 4000000 in
theorem pElems_any (m : Md) (a0 : Option Addr) (k0 : Nat) (a1 : Option Addr) (k1 : Nat) (a2 : Option Addr) (k2 : Nat) (a3 : Option Addr) (k3 : Nat) (a4 : Option Addr) (k4 : Nat) (a5 : Option Addr) (k5 : Nat) (a6 : Option Addr) (k6 : Nat) (a7 : Option Addr) (k7 : Nat) (a8 : Option Addr) (k8 : Nat) (a9 : Option Addr) (k9 : Nat) (w : World) (h : MdAt w m a0 k0 a1 k1 a2 k2 a3 k3 a4 k4 a5 k5 a6 k6 a7 k7 a8 k8 a9 k9) (hok : ∀ t ∈ m.elems, nOk t.1.il) :
    Calls Tryz.prog 61 #[mdV m a0 k0 a1 k1 a2 k2 a3 k3 a4 k4 a5 k5 a6 k6 a7 k7 a8 k8 a9 k9] w fun e w' => PNew w (xSec xElems m.elems) e w' := by
  unfold mdV
  obtain ⟨N0, hl⟩ : ∃ N0, m.elems.length = N0 := ⟨_, rfl⟩
  have hl63 := h.elems.1
  rw [hl] at hl63 ⊢
  obtain ⟨c, hc⟩ : ∃ c, w.heap.size = c := ⟨_, rfl⟩
  obtain ⟨wA, hwA⟩ : ∃ wA, wA = w.alloc (.cells #[.slice a0 m.types.length k0, .slice a1 m.imports.length k1, .slice a2 m.funcs.length k2, .slice a3 m.tables.length k3, .slice a4 m.mems.length k4, .slice a5 m.globals.length k5, .slice a6 m.exports.length k6, .slice a7 m.start.length k7, .slice a8 N0 k8, .slice a9 m.datas.length k9] 32) := ⟨_, rfl⟩
  have hbel : Below w.heap.size w wA := by rw [hwA]; exact (Below.refl _ _).alloc (Nat.le_refl _) _
  have hbx : Box wA c #[.slice a0 m.types.length k0, .slice a1 m.imports.length k1, .slice a2 m.funcs.length k2, .slice a3 m.tables.length k3, .slice a4 m.mems.length k4, .slice a5 m.globals.length k5, .slice a6 m.exports.length k6, .slice a7 m.start.length k7, .slice a8 N0 k8, .slice a9 m.datas.length k9] := by rw [hwA, ← hc]; exact box_new w _ _
  have hr := Lib.hid ((h.keep (keep_below hbel)).elems)
  have x0 : wA.cell? ⟨c, 8, none⟩ = some (.slice a8 N0 k8) := hbx 8 _ rfl
  have y0 := Lib.hid x0
  have hok2 := Lib.hid hok
  clear hok
  replace hl := Lib.hid hl
  replace hbel := Lib.hid hbel
  clear h hbx
  go_enter Tryz.func61, Tryz.ntmps61
  rw [hwA] at x0
  go_wp2_with fail
  rw [← hwA]
  clear x0 hwA hc
  refine (pcounted_any (N0 : Int) wA).mono ?_
  rintro e w1 ⟨p, v1, s1, rfl, h1, hb1, q1⟩
  have V1 := Lib.hid (Vw.oldp h1 hb1)
  have hN1 := Lib.hid h1.hN
  have hO1 := Lib.hid h1.ownN
  have hZ1 := Lib.hid hb1.size
  replace h1 := Lib.hid h1
  replace hb1 := Lib.hid (hbel.out.trans (hb1.mono hbel.out.size))
  replace q1 := Lib.hid q1
  go_wp2_with fail
  go_loopw [4] (fun vi wr => ∃ (i : Nat) (v2 : Value) (s2 : PS), i ≤ N0 ∧ vi = .int .i64 i ∧ Hid (PAt wA.heap.size p wr v2 s2) ∧ Hid (Tr p v1 v2 w1 wr) ∧ Hid (Pen ⟨[], false⟩ (uB N0 ++ (m.elems.take i).flatMap xElems) s2)) (fun vi _ => N0 - (intOf vi).toNat)
  case atStart => exact ⟨0, v1, s1, Nat.zero_le _, rfl, h1, Lib.hid (Tr.refl _ _ _), Lib.hid (by simpa using q1.out)⟩
  case round =>
    obtain ⟨i, v2, s2, hle, rfl, h2, t2, q2⟩ := hrel
    have B0 := Lib.hid (V1.out.tr t2.out)
    have X0 : wr.cell? ⟨c, 8, none⟩ = some (.slice a8 N0 k8) := B0.out.keeps _ _ y0.out
    by_cases hlt : i < N0
    · obtain ⟨t, ht⟩ : ∃ t, m.elems[i]? = some t := ⟨_, List.getElem?_eq_getElem (by rw [hl.out]; exact hlt)⟩
      obtain ⟨blk, o, rfl, hrow0⟩ := hr.out.row ht
      have hst := Lib.hid (show (m.elems.take (i + 1)).flatMap xElems = (m.elems.take i).flatMap xElems ++ xElems t by rw [List.take_add_one, ht]; simp)
      have hnk := Lib.hid (hok2.out t (List.mem_of_getElem? ht))
      clear ht
      obtain ⟨⟨op, x, y, n, ls, body, els⟩, fs⟩ := t
      obtain ⟨⟨⟨d0, d1, d2, d3⟩, ⟨u4, r4, d4, i4⟩, ⟨u5, r5, d5, l5, i5⟩, ⟨u6, r6, d6, l6, i6⟩, _⟩, ⟨u7, r7, d7, i7⟩⟩ := hrow0
      try simp only at d7
      have L_ls := i4.1
      have L_body := l5
      have L_els := l6
      have L_fs := i7.1
      replace i4 := Lib.hid i4
      replace l5 := Lib.hid l5
      replace i5 := Lib.hid i5
      replace l6 := Lib.hid l6
      replace i6 := Lib.hid i6
      replace i7 := Lib.hid i7
      have C0 := Lib.hid (show wA.cell? ⟨blk, o + i * 8, none⟩ = some (.int .i64 op) from d0)
      have C1 := Lib.hid (show wA.cell? ⟨blk, o + i * 8 + 1, none⟩ = some (.int .i64 x) from d1)
      have C2 := Lib.hid (show wA.cell? ⟨blk, o + i * 8 + 2, none⟩ = some (.int .i64 y) from d2)
      have C3 := Lib.hid (show wA.cell? ⟨blk, o + i * 8 + 3, none⟩ = some (.int .i64 n) from d3)
      have C4 := Lib.hid (show wA.cell? ⟨blk, o + i * 8 + 4, none⟩ = some (.slice u4 ls.length r4) from d4)
      have C5 := Lib.hid (show wA.cell? ⟨blk, o + i * 8 + 5, none⟩ = some (.slice u5 body.len r5) from d5)
      have C6 := Lib.hid (show wA.cell? ⟨blk, o + i * 8 + 6, none⟩ = some (.slice u6 els.len r6) from d6)
      have C7 := Lib.hid (show wA.cell? ⟨blk, o + i * 8 + 7, none⟩ = some (.slice u7 fs.length r7) from d7)
      clear d0 d1 d2 d3 d4 d5 d6 d7
      replace hlt := hlt
      go_wp2_with fail
      refine (pbyte_any h2.out 0).mono ?_
      rintro e w1_ ⟨rfl, v1_, s1_, hh, tt, qq⟩
      have H1 := Lib.hid hh
      have T1 := Lib.hid (t2.out.trans tt)
      have B1 := Lib.hid (B0.out.tr tt)
      have Q1 := Lib.hid (q2.out.trans qq)
      clear hh tt qq
      have X1 : w1_.cell? ⟨c, 8, none⟩ = some (.slice (some ⟨blk, o, none⟩) N0 k8) := B1.out.keeps _ _ y0.out
      have p0 : w1_.cell? ⟨blk, o + i * 8, none⟩ = some (.int .i64 op) := B1.out.keeps _ _ C0.out
      have p1 : w1_.cell? ⟨blk, o + i * 8 + 1, none⟩ = some (.int .i64 x) := B1.out.keeps _ _ C1.out
      have p2 : w1_.cell? ⟨blk, o + i * 8 + 2, none⟩ = some (.int .i64 y) := B1.out.keeps _ _ C2.out
      have p3 : w1_.cell? ⟨blk, o + i * 8 + 3, none⟩ = some (.int .i64 n) := B1.out.keeps _ _ C3.out
      have p4 : w1_.cell? ⟨blk, o + i * 8 + 4, none⟩ = some (.slice u4 ls.length r4) := B1.out.keeps _ _ C4.out
      have p5 : w1_.cell? ⟨blk, o + i * 8 + 5, none⟩ = some (.slice u5 body.len r5) := B1.out.keeps _ _ C5.out
      have p6 : w1_.cell? ⟨blk, o + i * 8 + 6, none⟩ = some (.slice u6 els.len r6) := B1.out.keeps _ _ C6.out
      obtain ⟨wB, hwB⟩ : ∃ wB, wB = w1_.alloc (.cells #[.int .i64 op, .int .i64 x, .int .i64 y, .int .i64 n, .slice u4 ls.length r4, .slice u5 body.len r5, .slice u6 els.len r6] 46) := ⟨_, rfl⟩
      have hbb : Below w1_.heap.size w1_ wB := by rw [hwB]; exact (Below.refl _ _).alloc (Nat.le_refl _) _
      have hby : Hid (Box wB w1_.heap.size #[.int .i64 op, .int .i64 x, .int .i64 y, .int .i64 n, .slice u4 ls.length r4, .slice u5 body.len r5, .slice u6 els.len r6]) := Lib.hid (by rw [hwB]; exact box_new w1_ _ _)
      have hgp := Lib.hid (show w1_.heap.size ≠ p by have := H1.out.lt; omega)
      have hgv := Lib.hid (show v1_.ownBlock ≠ some w1_.heap.size from fun e => by have := (H1.out.own.lt _ e).2; omega)
      have kx := Lib.hid (H1.out.below hbb)
      have tx := Lib.hid (Tr.of_below (p := p) (v := v1_) hbb)
      clear hbb
      go_wp2_with fail
      clear p0 p1 p2 p3 p4 p5 p6 X1
      rw [← hwB]
      clear hwB
      obtain ⟨V, hV, hvi⟩ := one_view (B1.out.tr tx.out) hby.out hgp.out hgv.out i4.out l5.out i5.out l6.out i6.out
      refine (pexpr_any (Il.cons op x y n ls body els .nil) V wA.heap.size p wB v1_ s1_ (some ⟨w1_.heap.size, 0, none⟩) 1 kx.out hV (by show 0 + 1 ≤ _; omega) hvi hnk.out).mono ?_
      rintro e w2_ ⟨rfl, v2_, s2_, hh, tt, qq⟩
      have H2 := Lib.hid hh
      have T2 := Lib.hid ((T1.out.trans tx.out).trans tt)
      have B2 := Lib.hid ((B1.out.tr tx.out).tr tt)
      have Q2 := Lib.hid (Q1.out.trans qq)
      clear hh tt qq hby hgp hgv kx tx V hV hvi
      have X2 : w2_.cell? ⟨c, 8, none⟩ = some (.slice (some ⟨blk, o, none⟩) N0 k8) := B2.out.keeps _ _ y0.out
      have p7 : w2_.cell? ⟨blk, o + i * 8 + 7, none⟩ = some (.slice u7 fs.length r7) := B2.out.keeps _ _ C7.out
      go_wp2_with fail
      clear p7 X2
      refine (plist_any H2.out B2.out fs u7 r7 i7.out).mono ?_
      rintro e w3_ ⟨rfl, v3_, s3_, hh, tt, qq⟩
      have H3 := Lib.hid hh
      have T3 := Lib.hid (T2.out.trans tt)
      have B3 := Lib.hid (B2.out.tr tt)
      have Q3 := Lib.hid (Q2.out.trans qq)
      clear hh tt qq
      have h9 := Lib.hid (show Pen ⟨[], false⟩ (uB N0 ++ (m.elems.take (i + 1)).flatMap xElems) s3_ by rw [hst.out]; simpa only [xElems, List.append_assoc, One.il, if_true, if_false, Bool.false_eq_true] using Q3.out)
      clear hst
      go_wp2
      exact ⟨⟨i + 1, v3_, s3_, by omega, by simp, H3, T3, h9⟩, by simp [intOf]; omega⟩
    · have hfin := Lib.hid (show Pen ⟨[], false⟩ (xSec xElems m.elems) s2 by
        have := q2.out
        rw [List.take_of_length_le (by rw [hl.out]; omega)] at this
        unfold xSec
        rw [hl.out]
        exact this)
      have hz := Lib.hid (hb1.out.trans (t2.out.below (Nat.le_trans hbel.out.size hN1.out) (fun g e => Nat.le_trans hbel.out.size (hO1.out g e)) hb1.out.size))
      go_wp2
      go_ret
      exact ⟨p, v2, s2, rfl, h2.out.mono hbel.out.size, hz.out, hfin.out⟩
end Go.Proofs.YtanpjbbhhofkfaaGreatDoor

namespace Go.Proofs.YtanpjbbhhofkfaaGreatDoor
open Go.RowKit
set_option linter.unusedVariables false
set_option linter.unusedSimpArgs false

set_option maxRecDepth 100000 in
set_option maxHeartbeats 4000000 in
theorem pDatas_any (m : Md) (a0 : Option Addr) (k0 : Nat) (a1 : Option Addr) (k1 : Nat) (a2 : Option Addr) (k2 : Nat) (a3 : Option Addr) (k3 : Nat) (a4 : Option Addr) (k4 : Nat) (a5 : Option Addr) (k5 : Nat) (a6 : Option Addr) (k6 : Nat) (a7 : Option Addr) (k7 : Nat) (a8 : Option Addr) (k8 : Nat) (a9 : Option Addr) (k9 : Nat) (w : World) (h : MdAt w m a0 k0 a1 k1 a2 k2 a3 k3 a4 k4 a5 k5 a6 k6 a7 k7 a8 k8 a9 k9) (hok : ∀ t ∈ m.datas, nOk t.1.il) (hsz : ∀ t ∈ m.datas, t.2.size ≤ 4611686018427387904) :
    Calls Tryz.prog 63 #[mdV m a0 k0 a1 k1 a2 k2 a3 k3 a4 k4 a5 k5 a6 k6 a7 k7 a8 k8 a9 k9] w fun e w' => PNew w (xSec xDatas m.datas) e w' := by
  unfold mdV
  obtain ⟨N0, hl⟩ : ∃ N0, m.datas.length = N0 := ⟨_, rfl⟩
  have hl63 := h.datas.1
  rw [hl] at hl63 ⊢
  obtain ⟨c, hc⟩ : ∃ c, w.heap.size = c := ⟨_, rfl⟩
  obtain ⟨wA, hwA⟩ : ∃ wA, wA = w.alloc (.cells #[.slice a0 m.types.length k0, .slice a1 m.imports.length k1, .slice a2 m.funcs.length k2, .slice a3 m.tables.length k3, .slice a4 m.mems.length k4, .slice a5 m.globals.length k5, .slice a6 m.exports.length k6, .slice a7 m.start.length k7, .slice a8 m.elems.length k8, .slice a9 N0 k9] 32) := ⟨_, rfl⟩
  have hbel : Below w.heap.size w wA := by rw [hwA]; exact (Below.refl _ _).alloc (Nat.le_refl _) _
  have hbx : Box wA c #[.slice a0 m.types.length k0, .slice a1 m.imports.length k1, .slice a2 m.funcs.length k2, .slice a3 m.tables.length k3, .slice a4 m.mems.length k4, .slice a5 m.globals.length k5, .slice a6 m.exports.length k6, .slice a7 m.start.length k7, .slice a8 m.elems.length k8, .slice a9 N0 k9] := by rw [hwA, ← hc]; exact box_new w _ _
  have hr := Lib.hid ((h.keep (keep_below hbel)).datas)
  have x0 : wA.cell? ⟨c, 9, none⟩ = some (.slice a9 N0 k9) := hbx 9 _ rfl
  have y0 := Lib.hid x0
  have hok2 := Lib.hid hok
  clear hok
  have hsz2 := Lib.hid hsz
  clear hsz
  replace hl := Lib.hid hl
  replace hbel := Lib.hid hbel
  clear h hbx
  go_enter Tryz.func63, Tryz.ntmps63
  rw [hwA] at x0
  go_wp2_with fail
  rw [← hwA]
  clear x0 hwA hc
  refine (pcounted_any (N0 : Int) wA).mono ?_
  rintro e w1 ⟨p, v1, s1, rfl, h1, hb1, q1⟩
  have V1 := Lib.hid (Vw.oldp h1 hb1)
  have hN1 := Lib.hid h1.hN
  have hO1 := Lib.hid h1.ownN
  have hZ1 := Lib.hid hb1.size
  replace h1 := Lib.hid h1
  replace hb1 := Lib.hid (hbel.out.trans (hb1.mono hbel.out.size))
  replace q1 := Lib.hid q1
  go_wp2_with fail
  go_loopw [4] (fun vi wr => ∃ (i : Nat) (v2 : Value) (s2 : PS), i ≤ N0 ∧ vi = .int .i64 i ∧ Hid (PAt wA.heap.size p wr v2 s2) ∧ Hid (Tr p v1 v2 w1 wr) ∧ Hid (Pen ⟨[], false⟩ (uB N0 ++ (m.datas.take i).flatMap xDatas) s2)) (fun vi _ => N0 - (intOf vi).toNat)
  case atStart => exact ⟨0, v1, s1, Nat.zero_le _, rfl, h1, Lib.hid (Tr.refl _ _ _), Lib.hid (by simpa using q1.out)⟩
  case round =>
    obtain ⟨i, v2, s2, hle, rfl, h2, t2, q2⟩ := hrel
    have B0 := Lib.hid (V1.out.tr t2.out)
    have X0 : wr.cell? ⟨c, 9, none⟩ = some (.slice a9 N0 k9) := B0.out.keeps _ _ y0.out
    by_cases hlt : i < N0
    · obtain ⟨t, ht⟩ : ∃ t, m.datas[i]? = some t := ⟨_, List.getElem?_eq_getElem (by rw [hl.out]; exact hlt)⟩
      obtain ⟨blk, o, rfl, hrow0⟩ := hr.out.row ht
      have hst := Lib.hid (show (m.datas.take (i + 1)).flatMap xDatas = (m.datas.take i).flatMap xDatas ++ xDatas t by rw [List.take_add_one, ht]; simp)
      have hnk := Lib.hid (hok2.out t (List.mem_of_getElem? ht))
      have hzz := hsz2.out t (List.mem_of_getElem? ht)
      clear ht
      obtain ⟨⟨op, x, y, n, ls, body, els⟩, s0⟩ := t
      obtain ⟨⟨⟨d0, d1, d2, d3⟩, ⟨u4, r4, d4, i4⟩, ⟨u5, r5, d5, l5, i5⟩, ⟨u6, r6, d6, l6, i6⟩, _⟩, ⟨d7, _⟩⟩ := hrow0
      try simp only at d7
      try simp only at hzz
      have z0 := hzz
      clear hzz
      have L_ls := i4.1
      have L_body := l5
      have L_els := l6
      replace i4 := Lib.hid i4
      replace l5 := Lib.hid l5
      replace i5 := Lib.hid i5
      replace l6 := Lib.hid l6
      replace i6 := Lib.hid i6
      have C0 := Lib.hid (show wA.cell? ⟨blk, o + i * 8, none⟩ = some (.int .i64 op) from d0)
      have C1 := Lib.hid (show wA.cell? ⟨blk, o + i * 8 + 1, none⟩ = some (.int .i64 x) from d1)
      have C2 := Lib.hid (show wA.cell? ⟨blk, o + i * 8 + 2, none⟩ = some (.int .i64 y) from d2)
      have C3 := Lib.hid (show wA.cell? ⟨blk, o + i * 8 + 3, none⟩ = some (.int .i64 n) from d3)
      have C4 := Lib.hid (show wA.cell? ⟨blk, o + i * 8 + 4, none⟩ = some (.slice u4 ls.length r4) from d4)
      have C5 := Lib.hid (show wA.cell? ⟨blk, o + i * 8 + 5, none⟩ = some (.slice u5 body.len r5) from d5)
      have C6 := Lib.hid (show wA.cell? ⟨blk, o + i * 8 + 6, none⟩ = some (.slice u6 els.len r6) from d6)
      have C7 := Lib.hid (show wA.cell? ⟨blk, o + i * 8 + 7, none⟩ = some (.string s0) from d7)
      clear d0 d1 d2 d3 d4 d5 d6 d7
      replace hlt := hlt
      go_wp2_with fail
      refine (pbyte_any h2.out 0).mono ?_
      rintro e w1_ ⟨rfl, v1_, s1_, hh, tt, qq⟩
      have H1 := Lib.hid hh
      have T1 := Lib.hid (t2.out.trans tt)
      have B1 := Lib.hid (B0.out.tr tt)
      have Q1 := Lib.hid (q2.out.trans qq)
      clear hh tt qq
      have X1 : w1_.cell? ⟨c, 9, none⟩ = some (.slice (some ⟨blk, o, none⟩) N0 k9) := B1.out.keeps _ _ y0.out
      have p0 : w1_.cell? ⟨blk, o + i * 8, none⟩ = some (.int .i64 op) := B1.out.keeps _ _ C0.out
      have p1 : w1_.cell? ⟨blk, o + i * 8 + 1, none⟩ = some (.int .i64 x) := B1.out.keeps _ _ C1.out
      have p2 : w1_.cell? ⟨blk, o + i * 8 + 2, none⟩ = some (.int .i64 y) := B1.out.keeps _ _ C2.out
      have p3 : w1_.cell? ⟨blk, o + i * 8 + 3, none⟩ = some (.int .i64 n) := B1.out.keeps _ _ C3.out
      have p4 : w1_.cell? ⟨blk, o + i * 8 + 4, none⟩ = some (.slice u4 ls.length r4) := B1.out.keeps _ _ C4.out
      have p5 : w1_.cell? ⟨blk, o + i * 8 + 5, none⟩ = some (.slice u5 body.len r5) := B1.out.keeps _ _ C5.out
      have p6 : w1_.cell? ⟨blk, o + i * 8 + 6, none⟩ = some (.slice u6 els.len r6) := B1.out.keeps _ _ C6.out
      obtain ⟨wB, hwB⟩ : ∃ wB, wB = w1_.alloc (.cells #[.int .i64 op, .int .i64 x, .int .i64 y, .int .i64 n, .slice u4 ls.length r4, .slice u5 body.len r5, .slice u6 els.len r6] 46) := ⟨_, rfl⟩
      have hbb : Below w1_.heap.size w1_ wB := by rw [hwB]; exact (Below.refl _ _).alloc (Nat.le_refl _) _
      have hby : Hid (Box wB w1_.heap.size #[.int .i64 op, .int .i64 x, .int .i64 y, .int .i64 n, .slice u4 ls.length r4, .slice u5 body.len r5, .slice u6 els.len r6]) := Lib.hid (by rw [hwB]; exact box_new w1_ _ _)
      have hgp := Lib.hid (show w1_.heap.size ≠ p by have := H1.out.lt; omega)
      have hgv := Lib.hid (show v1_.ownBlock ≠ some w1_.heap.size from fun e => by have := (H1.out.own.lt _ e).2; omega)
      have kx := Lib.hid (H1.out.below hbb)
      have tx := Lib.hid (Tr.of_below (p := p) (v := v1_) hbb)
      clear hbb
      go_wp2_with fail
      clear p0 p1 p2 p3 p4 p5 p6 X1
      rw [← hwB]
      clear hwB
      obtain ⟨V, hV, hvi⟩ := one_view (B1.out.tr tx.out) hby.out hgp.out hgv.out i4.out l5.out i5.out l6.out i6.out
      refine (pexpr_any (Il.cons op x y n ls body els .nil) V wA.heap.size p wB v1_ s1_ (some ⟨w1_.heap.size, 0, none⟩) 1 kx.out hV (by show 0 + 1 ≤ _; omega) hvi hnk.out).mono ?_
      rintro e w2_ ⟨rfl, v2_, s2_, hh, tt, qq⟩
      have H2 := Lib.hid hh
      have T2 := Lib.hid ((T1.out.trans tx.out).trans tt)
      have B2 := Lib.hid ((B1.out.tr tx.out).tr tt)
      have Q2 := Lib.hid (Q1.out.trans qq)
      clear hh tt qq hby hgp hgv kx tx V hV hvi
      have X2 : w2_.cell? ⟨c, 9, none⟩ = some (.slice (some ⟨blk, o, none⟩) N0 k9) := B2.out.keeps _ _ y0.out
      have p7 : w2_.cell? ⟨blk, o + i * 8 + 7, none⟩ = some (.string s0) := B2.out.keeps _ _ C7.out
      go_wp2_with fail
      clear p7 X2
      refine (pname_any H2.out s0 z0).mono ?_
      rintro e w3_ ⟨rfl, v3_, s3_, hh, tt, qq⟩
      have H3 := Lib.hid hh
      have T3 := Lib.hid (T2.out.trans tt)
      have B3 := Lib.hid (B2.out.tr tt)
      have Q3 := Lib.hid (Q2.out.trans qq)
      clear hh tt qq
      have h9 := Lib.hid (show Pen ⟨[], false⟩ (uB N0 ++ (m.datas.take (i + 1)).flatMap xDatas) s3_ by rw [hst.out]; simpa only [xDatas, List.append_assoc, One.il, if_true, if_false, Bool.false_eq_true] using Q3.out)
      clear hst
      go_wp2
      exact ⟨⟨i + 1, v3_, s3_, by omega, by simp, H3, T3, h9⟩, by simp [intOf]; omega⟩
    · have hfin := Lib.hid (show Pen ⟨[], false⟩ (xSec xDatas m.datas) s2 by
        have := q2.out
        rw [List.take_of_length_le (by rw [hl.out]; omega)] at this
        unfold xSec
        rw [hl.out]
        exact this)
      have hz := Lib.hid (hb1.out.trans (t2.out.below (Nat.le_trans hbel.out.size hN1.out) (fun g e => Nat.le_trans hbel.out.size (hO1.out g e)) hb1.out.size))
      go_wp2
      go_ret
      exact ⟨p, v2, s2, rfl, h2.out.mono hbel.out.size, hz.out, hfin.out⟩
end Go.Proofs.YtanpjbbhhofkfaaGreatDoor

namespace Go.Proofs.YtanpjbbhhofkfaaGreatDoor
open Go.RowKit
set_option linter.unusedVariables false
set_option linter.unusedSimpArgs false

set_option maxRecDepth 100000 in
set_option maxHeartbeats 4000000 in
theorem plimits_any {N p : Nat} {w0 w : World} {v : Value} {s : PS} (h : PAt N p w v s) (hb : Vw w0 p v w) (l : List (Int × Int × Bool)) (a : Option Addr) (c : Nat) (hr : RowsIn LimitsAt 3 w0 a l) (f : ByteArray) (hf : f.size ≤ 4611686018427387904) :
    Calls Tryz.prog 92 #[.pointer (some ⟨p, 0, none⟩), .slice a l.length c, .string f] w fun e w' => e = .returned (.tuple #[]) ∧ POut N p w v s (uB l.length ++ l.flatMap fun t => strl f ++ xLim t) w' := by
  obtain ⟨N0, hl⟩ : ∃ N0, l.length = N0 := ⟨_, rfl⟩
  have hl63 := hr.1
  rw [hl] at hl63 ⊢
  replace h := Lib.hid h
  replace hb := Lib.hid hb
  replace hr := Lib.hid hr
  replace hl := Lib.hid hl
  go_enter Tryz.func92, Tryz.ntmps92
  go_wp2_with fail
  refine (pu_any h.out N0).mono ?_
  rintro e w1 ⟨rfl, v1, s1, h1, t1, q1⟩
  replace h1 := Lib.hid h1
  replace t1 := Lib.hid t1
  replace q1 := Lib.hid q1
  go_wp2_with fail
  go_loopw [6] (fun vi wr => ∃ (i : Nat) (v2 : Value) (s2 : PS), i ≤ N0 ∧ vi = .int .i64 i ∧ Hid (PAt N p wr v2 s2) ∧ Hid (Tr p v v2 w wr) ∧ Hid (Pen s (uB N0 ++ (l.take i).flatMap fun t => strl f ++ xLim t) s2)) (fun vi _ => N0 - (intOf vi).toNat)
  case atStart => exact ⟨0, v1, s1, Nat.zero_le _, rfl, h1, t1, Lib.hid (by simpa using q1.out)⟩
  case round =>
    obtain ⟨i, v2, s2, hle, rfl, H0, T0, Q0⟩ := hrel
    have B0 := Lib.hid (hb.out.tr T0.out)
    by_cases hlt : i < N0
    · obtain ⟨t, ht⟩ : ∃ t, l[i]? = some t := ⟨_, List.getElem?_eq_getElem (by rw [hl.out]; exact hlt)⟩
      obtain ⟨blk, o, rfl, hrow0⟩ := hr.out.row ht
      have hst := Lib.hid (show ((l.take (i + 1)).flatMap fun t => strl f ++ xLim t) = ((l.take i).flatMap fun t => strl f ++ xLim t) ++ (strl f ++ xLim t) by rw [List.take_add_one, ht]; simp)
      clear ht
      obtain ⟨mn, mx, fl⟩ := t
      obtain ⟨c0, c1, c2⟩ := hrow0
      unfold IntCell at c0 c1
      unfold BoolCell at c2
      try simp only at c0 c1 c2
      have C0 := Lib.hid (show w0.cell? ⟨blk, o + i * 3, none⟩ = some (.int .i64 mn) from c0)
      have C1 := Lib.hid (show w0.cell? ⟨blk, o + i * 3 + 1, none⟩ = some (.int .i64 mx) from c1)
      have C2 := Lib.hid (show w0.cell? ⟨blk, o + i * 3 + 2, none⟩ = some (.bool fl) from c2)
      clear c0 c1 c2
      go_wp2_with fail
      refine (pput_any H0.out f hf).mono ?_
      rintro e w1_ ⟨rfl, v1_, s1_, hh, tt, qq⟩
      have H1 := Lib.hid hh
      have T1 := Lib.hid (T0.out.trans tt)
      have B1 := Lib.hid (B0.out.tr tt)
      have Q1 := Lib.hid (Q0.out.trans qq)
      clear hh tt qq
      have p2 : w1_.cell? ⟨blk, o + i * 3 + 2, none⟩ = some (.bool fl) := B1.out.keeps _ _ C2.out
      cases fl
      · go_wp2_with fail
        clear p2
        refine (pbyte_any H1.out 0).mono ?_
        rintro e w2_ ⟨rfl, v2_, s2_, hh, tt, qq⟩
        have H2 := Lib.hid hh
        have T2 := Lib.hid (T1.out.trans tt)
        have B2 := Lib.hid (B1.out.tr tt)
        have Q2 := Lib.hid (Q1.out.trans qq)
        clear hh tt qq
        have p0 : w2_.cell? ⟨blk, o + i * 3, none⟩ = some (.int .i64 mn) := B2.out.keeps _ _ C0.out
        go_wp2_with fail
        clear p0
        refine (pu_any H2.out mn).mono ?_
        rintro e w3_ ⟨rfl, v3_, s3_, hh, tt, qq⟩
        have H3 := Lib.hid hh
        have T3 := Lib.hid (T2.out.trans tt)
        have B3 := Lib.hid (B2.out.tr tt)
        have Q3 := Lib.hid (Q2.out.trans qq)
        clear hh tt qq
        have h9 := Lib.hid (show Pen s (uB N0 ++ (l.take (i + 1)).flatMap fun t => strl f ++ xLim t) s3_ by rw [hst.out]; simpa only [xLim, List.append_assoc, if_false, Bool.false_eq_true] using Q3.out)
        clear hst
        go_wp2
        exact ⟨⟨i + 1, v3_, s3_, by omega, by simp, H3, T3, h9⟩, by simp [intOf]; omega⟩
      · go_wp2_with fail
        clear p2
        refine (pbyte_any H1.out 1).mono ?_
        rintro e w2_ ⟨rfl, v2_, s2_, hh, tt, qq⟩
        have H2 := Lib.hid hh
        have T2 := Lib.hid (T1.out.trans tt)
        have B2 := Lib.hid (B1.out.tr tt)
        have Q2 := Lib.hid (Q1.out.trans qq)
        clear hh tt qq
        have p0 : w2_.cell? ⟨blk, o + i * 3, none⟩ = some (.int .i64 mn) := B2.out.keeps _ _ C0.out
        go_wp2_with fail
        clear p0
        refine (pu_any H2.out mn).mono ?_
        rintro e w3_ ⟨rfl, v3_, s3_, hh, tt, qq⟩
        have H3 := Lib.hid hh
        have T3 := Lib.hid (T2.out.trans tt)
        have B3 := Lib.hid (B2.out.tr tt)
        have Q3 := Lib.hid (Q2.out.trans qq)
        clear hh tt qq
        have p1 : w3_.cell? ⟨blk, o + i * 3 + 1, none⟩ = some (.int .i64 mx) := B3.out.keeps _ _ C1.out
        go_wp2_with fail
        clear p1
        refine (pu_any H3.out mx).mono ?_
        rintro e w4_ ⟨rfl, v4_, s4_, hh, tt, qq⟩
        have H4 := Lib.hid hh
        have T4 := Lib.hid (T3.out.trans tt)
        have B4 := Lib.hid (B3.out.tr tt)
        have Q4 := Lib.hid (Q3.out.trans qq)
        clear hh tt qq
        have h9 := Lib.hid (show Pen s (uB N0 ++ (l.take (i + 1)).flatMap fun t => strl f ++ xLim t) s4_ by rw [hst.out]; simpa only [xLim, List.append_assoc, if_true] using Q4.out)
        clear hst
        go_wp2
        exact ⟨⟨i + 1, v4_, s4_, by omega, by simp, H4, T4, h9⟩, by simp [intOf]; omega⟩
    · have hin : i = N0 := by omega
      have hfin := Lib.hid (show Pen s (uB N0 ++ l.flatMap fun t => strl f ++ xLim t) s2 by
        have := Q0.out
        rwa [List.take_of_length_le (by rw [hl.out]; omega)] at this)
      go_wp2
      go_end0
      exact ⟨rfl, v2, s2, H0.out, T0.out, hfin.out⟩
set_option maxRecDepth 100000 in
set_option maxHeartbeats 1000000 in
theorem limited_any (w : World) (l : List (Int × Int × Bool)) (a : Option Addr) (c : Nat) (hr : RowsIn LimitsAt 3 w a l) (f : ByteArray) (hf : f.size ≤ 4611686018427387904) :
    Calls Tryz.prog 57 #[.slice a l.length c, .string f] w fun e w' => PNew w (uB l.length ++ l.flatMap fun t => strl f ++ xLim t) e w' := by
  obtain ⟨q, hq⟩ : ∃ q, w.heap.size = q := ⟨_, rfl⟩
  obtain ⟨wA, hwA⟩ : ∃ wA, wA = w.alloc (.cells #[.slice none 0 0, .bool false] 72) := ⟨_, rfl⟩
  have hbel : Below w.heap.size w wA := by rw [hwA]; exact (Below.refl _ _).alloc (Nat.le_refl _) _
  have h0 : PAt w.heap.size q wA (.slice none 0 0) ⟨[], false⟩ := by rw [hwA, ← hq]; exact PAt.new w
  have V0 := Lib.hid (Vw.oldp h0 hbel)
  have hl63 := hr.1
  replace h0 := Lib.hid h0
  replace hbel := Lib.hid hbel
  replace hr := Lib.hid hr
  obtain ⟨N0, hl⟩ : ∃ N0, l.length = N0 := ⟨_, rfl⟩
  have hcall := Lib.hid (plimits_any h0.out V0.out l a c hr.out f hf)
  rw [hl] at hcall hl63 ⊢
  go_enter Tryz.func57, Tryz.ntmps57
  go_wp2_with fail
  rw [← hwA]
  clear hwA hq
  refine hcall.out.mono ?_
  rintro e w1 ⟨rfl, ho⟩
  have hr := Lib.hid (POut.below (w0 := w) ho (Pen.refl (by decide)) rfl h0.out hbel.out)
  clear ho
  go_wp2
  go_ret
  obtain ⟨v', s', h1, h2, h3⟩ := hr.out
  exact ⟨_, v', s', rfl, h1, h2, h3⟩
end Go.Proofs.YtanpjbbhhofkfaaGreatDoor
