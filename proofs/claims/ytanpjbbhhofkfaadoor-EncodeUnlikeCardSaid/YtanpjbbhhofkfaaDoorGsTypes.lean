/- What the writer's section of types writes. -/
import Derived.Test.YtanpjbbhhofkfaaDoorGh
namespace Go.Proofs.YtanpjbbhhofkfaaDoor
open Go.RowKit
set_option linter.unusedVariables false
set_option linter.unusedSimpArgs false

def fTypes : List Int × List Int → WS → WS := fun t s => puts (bytsC t.2) (puts (bytsC t.1) (put [b1 96] s))
def cTypes : List Int × List Int → Nat := fun t => 21 + t.1.length + t.2.length
theorem inTypes {l : List (List Int × List Int)} : ∀ t ∈ l, InR (fTypes t) (cTypes t) := fun t ht => ((InR.b 96).comp ((InR.puts _).comp (InR.puts _))).mono (by show _ ≤ cTypes t; unfold cTypes; have := bytsC_tot t.1; have := bytsC_tot t.2; omega)
set_option maxRecDepth 100000 in
set_option maxHeartbeats 4000000 in
theorem sTypes_any {N p : Nat} {w0 w : World} {mv : List Value} {v : Value} {s : WS} (h : WAt N p w mv v s) (hv : Vw w0 p v w) (l : List (List Int × List Int)) (a : Option Addr) (c : Nat) (hj : mv[0]? = some (.slice a l.length c)) (hr : RowsIn TypeAt 2 w0 a l) (hs : s.n + 10 + cs cTypes l ≤ 4611686018427387904) :
    Calls Tryd.prog 17 #[.pointer (some ⟨p, 0, none⟩)] w fun e w' => e = .returned (.bool (decide (0 < l.length))) ∧ WOut N p w mv v (fo fTypes l (put (uB l.length) s)) w' := by
  have hin := Lib.hid (inTypes (l := l))
  obtain ⟨m, hl⟩ : ∃ m, l.length = m := ⟨_, rfl⟩
  have hl63 := hr.1
  have hlow := h.low
  have hul := uB_len (m : Int)
  rw [hl] at hl63 hj ⊢
  have x0 : w.cell? ⟨p, 0, none⟩ = some (.slice a m c) := h.cm hj
  replace h := Lib.hid h
  replace hv := Lib.hid hv
  replace hr := Lib.hid hr
  replace hj := Lib.hid hj
  replace hs := Lib.hid hs
  replace hl := Lib.hid hl
  go_enter Tryd.func17, Tryd.ntmps17
  go_wp2_with fail
  refine (u_any h.out m (by have := hs.out; omega)).mono ?_
  rintro e w1 ⟨rfl, v1, h1, t1⟩
  replace h1 := Lib.hid h1
  replace t1 := Lib.hid t1
  clear x0
  have x1 : w1.cell? ⟨p, 0, none⟩ = some (.slice a m c) := h1.out.cm hj.out
  go_wp2_with fail
  go_loopw [19] (fun vi wr => ∃ (i : Nat) (v2 : Value), i ≤ m ∧ vi = .int .i64 i ∧ Hid (WAt N p wr mv v2 (fo fTypes (l.take i) (put (uB m) s))) ∧ Hid (Tr p v v2 w wr)) (fun vi _ => m - (intOf vi).toNat)
  case atStart => exact ⟨0, v1, Nat.zero_le _, rfl, Lib.hid h1.out, t1⟩
  case round =>
    clear x1
    obtain ⟨i, v2, hle, rfl, h2, t2⟩ := hrel
    by_cases hlt : i < m
    · obtain ⟨t, ht⟩ : ∃ t, l[i]? = some t := ⟨_, List.getElem?_eq_getElem (by rw [hl.out]; exact hlt)⟩
      have hB := Lib.hid (hv.out.tr t2.out)
      obtain ⟨blk, o, rfl, hrow0⟩ := hr.out.row ht
      have hst := Lib.hid (fo_take (f := fTypes) ht (put (uB m) s))
      have hbd := fo_bd (s := put (uB m) s) hin.out ht
      rw [put_n] at hbd
      have hbd2 := hs.out
      clear ht
      obtain ⟨ps, rs⟩ := t
      obtain ⟨⟨u0, r0, c0, i0⟩, ⟨u1, r1, c1, i1⟩⟩ := hrow0
      try simp only at c0 c1
      replace i0 := Lib.hid i0
      replace i1 := Lib.hid i1
      simp only [cTypes] at hbd
      have g0 : wr.cell? ⟨blk, o + i * 2, none⟩ = some (.slice u0 ps.length r0) := hB.out.keeps _ _ c0
      have g1 : wr.cell? ⟨blk, o + i * 2 + 1, none⟩ = some (.slice u1 rs.length r1) := hB.out.keeps _ _ c1
      clear c0 c1
      have L_ps := i0.out.1
      have L_rs := i1.out.1
      obtain ⟨q, hq⟩ : ∃ q, wr.heap.size = q := ⟨_, rfl⟩
      obtain ⟨wA, hwA⟩ : ∃ wA, wA = wr.alloc (.cells #[.slice u0 ps.length r0, .slice u1 rs.length r1] 51) := ⟨_, rfl⟩
      have hbel : Below wr.heap.size wr wA := by rw [hwA]; exact (Below.refl _ _).alloc (Nat.le_refl _) _
      have hbx : Hid (Box wA q #[.slice u0 ps.length r0, .slice u1 rs.length r1]) := Lib.hid (by rw [hwA, ← hq]; exact box_new wr _ _)
      have hqp := Lib.hid (show q ≠ p by have := h2.out.lt; omega)
      have hqv := Lib.hid (show v2.ownBlock ≠ some q from fun e => by have := (h2.out.own.lt q e).2; omega)
      have k0 := Lib.hid (h2.out.below hbel)
      have T0 := Lib.hid (t2.out.trans (Tr.of_below hbel))
      have z0 := Lib.hid (Tr.refl p v2 wA)
      have B0 := Lib.hid (hB.out.tr (Tr.of_below hbel))
      clear hbel
      go_wp2_with fail
      rw [← hwA]
      clear g0 g1 hwA
      refine (byte_any k0.out 96 (by (try simp only [put_n, puts_n, wEx, lg, List.length_cons, List.length_nil, strl_length]); omega)).mono ?_
      rintro e w1_ ⟨rfl, v1_, hh, tt⟩
      have k1 := Lib.hid hh
      have T1 := Lib.hid (T0.out.trans tt)
      have z1 := Lib.hid (z0.out.trans tt)
      have B1 := Lib.hid (B0.out.tr tt)
      clear hh tt
      have e1 := bytsC_tot ps
      have p0 : w1_.cell? ⟨q, 0, none⟩ = some (.slice u0 ps.length r0) := (z1.out.box hqp.out hqv.out hbx.out) 0 _ rfl
      go_wp2_with fail
      clear p0
      refine (bytes_any k1.out B1.out ps u0 r0 i0.out (by (try simp only [put_n, puts_n, wEx, lg, List.length_cons, List.length_nil, strl_length]); omega)).mono ?_
      rintro e w2_ ⟨rfl, v2_, hh, tt⟩
      have k2 := Lib.hid hh
      have T2 := Lib.hid (T1.out.trans tt)
      have z2 := Lib.hid (z1.out.trans tt)
      have B2 := Lib.hid (B1.out.tr tt)
      clear hh tt
      have e2 := bytsC_tot rs
      have p1 : w2_.cell? ⟨q, 1, none⟩ = some (.slice u1 rs.length r1) := (z2.out.box hqp.out hqv.out hbx.out) 1 _ rfl
      go_wp2_with fail
      clear p1
      refine (bytes_any k2.out B2.out rs u1 r1 i1.out (by (try simp only [put_n, puts_n, wEx, lg, List.length_cons, List.length_nil, strl_length]); omega)).mono ?_
      rintro e w3_ ⟨rfl, v3_, hh, tt⟩
      have k3 := Lib.hid hh
      have T3 := Lib.hid (T2.out.trans tt)
      have z3 := Lib.hid (z2.out.trans tt)
      have B3 := Lib.hid (B2.out.tr tt)
      clear hh tt
      have h9 := Lib.hid (by rw [hst.out]; exact k3.out : WAt N p w3_ mv v3_ (fo fTypes (l.take (i + 1)) (put (uB m) s)))
      clear hst hbd hbd2
      go_wp2
      exact ⟨⟨i + 1, v3_, by omega, by simp, h9, T3⟩, by simp [intOf]; omega⟩
    · have him : i = m := by omega
      have x2 : wr.cell? ⟨p, 0, none⟩ = some (.slice a m c) := h2.out.cm hj.out
      have hfin := Lib.hid (show fo fTypes l (put (uB m) s) = fo fTypes (l.take i) (put (uB m) s) by rw [List.take_of_length_le (by rw [hl.out]; omega)])
      have hdd : (decide ((0 : Int) < (m : Int))) = decide (0 < m) := by simp
      go_wp2
      go_ret
      exact ⟨by simp, by rw [hfin.out]; exact ⟨v2, h2.out, t2.out⟩⟩
end Go.Proofs.YtanpjbbhhofkfaaDoor

namespace Go.Proofs.YtanpjbbhhofkfaaDoor
open Go.RowKit
set_option linter.unusedVariables false
set_option linter.unusedSimpArgs false

def fImports : ByteArray × ByteArray × Int → WS → WS := fun t s => put (uB t.2.2) (put [b1 0] (lg (strl t.2.1) (lg (strl t.1) s)))
def cImports : ByteArray × ByteArray × Int → Nat := fun t => 31 + t.1.size + t.2.1.size
theorem inImports {l : List (ByteArray × ByteArray × Int)} : ∀ t ∈ l, InR (fImports t) (cImports t) := fun t ht => ((InR.lg _).comp ((InR.lg _).comp ((InR.b 0).comp (InR.u _)))).mono (by show _ ≤ cImports t; unfold cImports; simp only [strl_length]; omega)
set_option maxRecDepth 100000 in
set_option maxHeartbeats 4000000 in
theorem sImports_any {N p : Nat} {w0 w : World} {mv : List Value} {v : Value} {s : WS} (h : WAt N p w mv v s) (hv : Vw w0 p v w) (l : List (ByteArray × ByteArray × Int)) (a : Option Addr) (c : Nat) (hj : mv[1]? = some (.slice a l.length c)) (hr : RowsIn ImportAt 3 w0 a l) (hs : s.n + 10 + cs cImports l ≤ 4611686018427387904) :
    Calls Tryd.prog 18 #[.pointer (some ⟨p, 0, none⟩)] w fun e w' => e = .returned (.bool (decide (0 < l.length))) ∧ WOut N p w mv v (fo fImports l (put (uB l.length) s)) w' := by
  have hin := Lib.hid (inImports (l := l))
  obtain ⟨m, hl⟩ : ∃ m, l.length = m := ⟨_, rfl⟩
  have hl63 := hr.1
  have hlow := h.low
  have hul := uB_len (m : Int)
  rw [hl] at hl63 hj ⊢
  have x0 : w.cell? ⟨p, 1, none⟩ = some (.slice a m c) := h.cm hj
  replace h := Lib.hid h
  replace hv := Lib.hid hv
  replace hr := Lib.hid hr
  replace hj := Lib.hid hj
  replace hs := Lib.hid hs
  replace hl := Lib.hid hl
  go_enter Tryd.func18, Tryd.ntmps18
  go_wp2_with fail
  refine (u_any h.out m (by have := hs.out; omega)).mono ?_
  rintro e w1 ⟨rfl, v1, h1, t1⟩
  replace h1 := Lib.hid h1
  replace t1 := Lib.hid t1
  clear x0
  have x1 : w1.cell? ⟨p, 1, none⟩ = some (.slice a m c) := h1.out.cm hj.out
  go_wp2_with fail
  go_loopw [19] (fun vi wr => ∃ (i : Nat) (v2 : Value), i ≤ m ∧ vi = .int .i64 i ∧ Hid (WAt N p wr mv v2 (fo fImports (l.take i) (put (uB m) s))) ∧ Hid (Tr p v v2 w wr)) (fun vi _ => m - (intOf vi).toNat)
  case atStart => exact ⟨0, v1, Nat.zero_le _, rfl, Lib.hid h1.out, t1⟩
  case round =>
    clear x1
    obtain ⟨i, v2, hle, rfl, h2, t2⟩ := hrel
    by_cases hlt : i < m
    · obtain ⟨t, ht⟩ : ∃ t, l[i]? = some t := ⟨_, List.getElem?_eq_getElem (by rw [hl.out]; exact hlt)⟩
      have hB := Lib.hid (hv.out.tr t2.out)
      obtain ⟨blk, o, rfl, hrow0⟩ := hr.out.row ht
      have hst := Lib.hid (fo_take (f := fImports) ht (put (uB m) s))
      have hbd := fo_bd (s := put (uB m) s) hin.out ht
      rw [put_n] at hbd
      have hbd2 := hs.out
      clear ht
      obtain ⟨s0, s1, v0⟩ := t
      obtain ⟨⟨c0, _⟩, ⟨c1, _⟩, c2⟩ := hrow0
      unfold IntCell at c2
      try simp only at c0 c1 c2
      simp only [cImports] at hbd
      have g0 : wr.cell? ⟨blk, o + i * 3, none⟩ = some (.string s0) := hB.out.keeps _ _ c0
      have g1 : wr.cell? ⟨blk, o + i * 3 + 1, none⟩ = some (.string s1) := hB.out.keeps _ _ c1
      have g2 : wr.cell? ⟨blk, o + i * 3 + 2, none⟩ = some (.int .i64 v0) := hB.out.keeps _ _ c2
      clear c0 c1 c2
      obtain ⟨q, hq⟩ : ∃ q, wr.heap.size = q := ⟨_, rfl⟩
      obtain ⟨wA, hwA⟩ : ∃ wA, wA = wr.alloc (.cells #[.string s0, .string s1, .int .i64 v0] 71) := ⟨_, rfl⟩
      have hbel : Below wr.heap.size wr wA := by rw [hwA]; exact (Below.refl _ _).alloc (Nat.le_refl _) _
      have hbx : Hid (Box wA q #[.string s0, .string s1, .int .i64 v0]) := Lib.hid (by rw [hwA, ← hq]; exact box_new wr _ _)
      have hqp := Lib.hid (show q ≠ p by have := h2.out.lt; omega)
      have hqv := Lib.hid (show v2.ownBlock ≠ some q from fun e => by have := (h2.out.own.lt q e).2; omega)
      have k0 := Lib.hid (h2.out.below hbel)
      have T0 := Lib.hid (t2.out.trans (Tr.of_below hbel))
      have z0 := Lib.hid (Tr.refl p v2 wA)
      have B0 := Lib.hid (hB.out.tr (Tr.of_below hbel))
      clear hbel
      obtain ⟨cc, wB, hcv, hbb, hbi, hsz⟩ := bytes_of_str wA s0
      have hgn := Lib.hid (show wA.heap.size ≠ p by have := k0.out.lt; omega)
      have hgv := k0.out.far s0.size cc
      have kx := Lib.hid (k0.out.below hbb)
      have Tx := Lib.hid (T0.out.trans (Tr.of_below hbb))
      have zx := Lib.hid (z0.out.trans (Tr.of_below hbb))
      have Bx := Lib.hid (B0.out.tr (Tr.of_below hbb))
      replace hbb := Lib.hid hbb
      replace hsz := Lib.hid hsz
      obtain ⟨Z, hZ⟩ : ∃ Z, wA.heap.size = Z := ⟨_, rfl⟩
      have hZq : Z = q + 1 := by rw [← hZ, hwA, ← hq]; simp
      subst hZq
      rw [hZ] at hcv hgn hgv hbi
      replace hgv := Lib.hid hgv
      replace hbi := Lib.hid hbi
      replace hZ := Lib.hid hZ
      rw [hwA] at hcv
      have p0 : wA.cell? ⟨q, 0, none⟩ = some (.string s0) := hbx.out 0 _ rfl
      rw [hwA] at p0
      go_wp2_with fail
      clear g0 g1 g2 hwA
      clear p0
      have hlgt : (put (strl s0) (put (uB (strl s0).length) (fo fImports (l.take i) (put (uB m) s)))) = (lg (strl s0) (fo fImports (l.take i) (put (uB m) s))) := rfl
      refine (long_any kx.out _ (strl s0) hbi.out (fun e => hgn.out (by cases e; rfl)) hgv.out (by (try simp only [put_n, puts_n, wEx, lg, List.length_cons, List.length_nil, strl_length]); omega)).mono ?_
      rw [hlgt]
      rintro e w1_ ⟨rfl, v1_, hh, tt⟩
      have k1 := Lib.hid hh
      have T1 := Lib.hid (Tx.out.trans tt)
      have z1 := Lib.hid (zx.out.trans tt)
      have B1 := Lib.hid (Bx.out.tr tt)
      clear hh tt hcv hgn hgv hbi kx Tx zx Bx hbb hsz hZ hlgt
      have U_1 := uB_len ((s0.size : Nat) : Int)
      obtain ⟨cc, wB, hcv, hbb, hbi, hsz⟩ := bytes_of_str w1_ s1
      have hgn := Lib.hid (show w1_.heap.size ≠ p by have := k1.out.lt; omega)
      have hgv := k1.out.far s1.size cc
      have kx := Lib.hid (k1.out.below hbb)
      have Tx := Lib.hid (T1.out.trans (Tr.of_below hbb))
      have zx := Lib.hid (z1.out.trans (Tr.of_below hbb))
      have Bx := Lib.hid (B1.out.tr (Tr.of_below hbb))
      replace hbb := Lib.hid hbb
      replace hsz := Lib.hid hsz
      obtain ⟨Z, hZ⟩ : ∃ Z, w1_.heap.size = Z := ⟨_, rfl⟩
      rw [hZ] at hcv hgn hgv hbi
      replace hgv := Lib.hid hgv
      replace hbi := Lib.hid hbi
      replace hZ := Lib.hid hZ
      have p1 : w1_.cell? ⟨q, 1, none⟩ = some (.string s1) := (z1.out.box hqp.out hqv.out hbx.out) 1 _ rfl
      go_wp2_with fail
      clear p1
      have hlgt : (put (strl s1) (put (uB (strl s1).length) (lg (strl s0) (fo fImports (l.take i) (put (uB m) s))))) = (lg (strl s1) (lg (strl s0) (fo fImports (l.take i) (put (uB m) s)))) := rfl
      refine (long_any kx.out _ (strl s1) hbi.out (fun e => hgn.out (by cases e; rfl)) hgv.out (by (try simp only [put_n, puts_n, wEx, lg, List.length_cons, List.length_nil, strl_length]); omega)).mono ?_
      rw [hlgt]
      rintro e w2_ ⟨rfl, v2_, hh, tt⟩
      have k2 := Lib.hid hh
      have T2 := Lib.hid (Tx.out.trans tt)
      have z2 := Lib.hid (zx.out.trans tt)
      have B2 := Lib.hid (Bx.out.tr tt)
      clear hh tt hcv hgn hgv hbi kx Tx zx Bx hbb hsz hZ hlgt
      have U_2 := uB_len ((s1.size : Nat) : Int)
      go_wp2_with fail
      refine (byte_any k2.out 0 (by (try simp only [put_n, puts_n, wEx, lg, List.length_cons, List.length_nil, strl_length]); omega)).mono ?_
      rintro e w3_ ⟨rfl, v3_, hh, tt⟩
      have k3 := Lib.hid hh
      have T3 := Lib.hid (T2.out.trans tt)
      have z3 := Lib.hid (z2.out.trans tt)
      have B3 := Lib.hid (B2.out.tr tt)
      clear hh tt
      have p2 : w3_.cell? ⟨q, 2, none⟩ = some (.int .i64 v0) := (z3.out.box hqp.out hqv.out hbx.out) 2 _ rfl
      go_wp2_with fail
      clear p2
      refine (u_any k3.out v0 (by (try simp only [put_n, puts_n, wEx, lg, List.length_cons, List.length_nil, strl_length]); omega)).mono ?_
      rintro e w4_ ⟨rfl, v4_, hh, tt⟩
      have k4 := Lib.hid hh
      have T4 := Lib.hid (T3.out.trans tt)
      have z4 := Lib.hid (z3.out.trans tt)
      have B4 := Lib.hid (B3.out.tr tt)
      clear hh tt
      have h9 := Lib.hid (by rw [hst.out]; exact k4.out : WAt N p w4_ mv v4_ (fo fImports (l.take (i + 1)) (put (uB m) s)))
      clear hst hbd hbd2
      go_wp2
      exact ⟨⟨i + 1, v4_, by omega, by simp, h9, T4⟩, by simp [intOf]; omega⟩
    · have him : i = m := by omega
      have x2 : wr.cell? ⟨p, 1, none⟩ = some (.slice a m c) := h2.out.cm hj.out
      have hfin := Lib.hid (show fo fImports l (put (uB m) s) = fo fImports (l.take i) (put (uB m) s) by rw [List.take_of_length_le (by rw [hl.out]; omega)])
      have hdd : (decide ((0 : Int) < (m : Int))) = decide (0 < m) := by simp
      go_wp2
      go_ret
      exact ⟨by simp, by rw [hfin.out]; exact ⟨v2, h2.out, t2.out⟩⟩
end Go.Proofs.YtanpjbbhhofkfaaDoor

namespace Go.Proofs.YtanpjbbhhofkfaaDoor
open Go.RowKit
set_option linter.unusedVariables false
set_option linter.unusedSimpArgs false

def fFuncs : Int × List Int × Il → WS → WS := fun t s => put (uB t.1) s
def cFuncs : Int × List Int × Il → Nat := fun t => 10
theorem inFuncs {l : List (Int × List Int × Il)} : ∀ t ∈ l, InR (fFuncs t) (cFuncs t) := fun t ht => InR.u _
set_option maxRecDepth 100000 in
set_option maxHeartbeats 4000000 in
theorem sFuncs_any {N p : Nat} {w0 w : World} {mv : List Value} {v : Value} {s : WS} (h : WAt N p w mv v s) (hv : Vw w0 p v w) (l : List (Int × List Int × Il)) (a : Option Addr) (c : Nat) (hj : mv[2]? = some (.slice a l.length c)) (hr : RowsIn FuncAt 3 w0 a l) (hs : s.n + 10 + cs cFuncs l ≤ 4611686018427387904) :
    Calls Tryd.prog 19 #[.pointer (some ⟨p, 0, none⟩)] w fun e w' => e = .returned (.bool (decide (0 < l.length))) ∧ WOut N p w mv v (fo fFuncs l (put (uB l.length) s)) w' := by
  have hin := Lib.hid (inFuncs (l := l))
  obtain ⟨m, hl⟩ : ∃ m, l.length = m := ⟨_, rfl⟩
  have hl63 := hr.1
  have hlow := h.low
  have hul := uB_len (m : Int)
  rw [hl] at hl63 hj ⊢
  have x0 : w.cell? ⟨p, 2, none⟩ = some (.slice a m c) := h.cm hj
  replace h := Lib.hid h
  replace hv := Lib.hid hv
  replace hr := Lib.hid hr
  replace hj := Lib.hid hj
  replace hs := Lib.hid hs
  replace hl := Lib.hid hl
  go_enter Tryd.func19, Tryd.ntmps19
  go_wp2_with fail
  refine (u_any h.out m (by have := hs.out; omega)).mono ?_
  rintro e w1 ⟨rfl, v1, h1, t1⟩
  replace h1 := Lib.hid h1
  replace t1 := Lib.hid t1
  clear x0
  have x1 : w1.cell? ⟨p, 2, none⟩ = some (.slice a m c) := h1.out.cm hj.out
  go_wp2_with fail
  go_loopw [19] (fun vi wr => ∃ (i : Nat) (v2 : Value), i ≤ m ∧ vi = .int .i64 i ∧ Hid (WAt N p wr mv v2 (fo fFuncs (l.take i) (put (uB m) s))) ∧ Hid (Tr p v v2 w wr)) (fun vi _ => m - (intOf vi).toNat)
  case atStart => exact ⟨0, v1, Nat.zero_le _, rfl, Lib.hid h1.out, t1⟩
  case round =>
    clear x1
    obtain ⟨i, v2, hle, rfl, h2, t2⟩ := hrel
    by_cases hlt : i < m
    · obtain ⟨t, ht⟩ : ∃ t, l[i]? = some t := ⟨_, List.getElem?_eq_getElem (by rw [hl.out]; exact hlt)⟩
      have hB := Lib.hid (hv.out.tr t2.out)
      obtain ⟨blk, o, rfl, hrow0⟩ := hr.out.row ht
      have hst := Lib.hid (fo_take (f := fFuncs) ht (put (uB m) s))
      have hbd := fo_bd (s := put (uB m) s) hin.out ht
      rw [put_n] at hbd
      have hbd2 := hs.out
      clear ht
      obtain ⟨ty, lo, bo⟩ := t
      obtain ⟨c0, ⟨u1, r1, c1, i1⟩, ⟨u2, r2, c2, l2, i2⟩⟩ := hrow0
      unfold IntCell at c0
      try simp only at c0 c1 c2
      replace i1 := Lib.hid i1
      replace l2 := Lib.hid l2
      replace i2 := Lib.hid i2
      simp only [cFuncs] at hbd
      have g0 : wr.cell? ⟨blk, o + i * 3, none⟩ = some (.int .i64 ty) := hB.out.keeps _ _ c0
      have g1 : wr.cell? ⟨blk, o + i * 3 + 1, none⟩ = some (.slice u1 lo.length r1) := hB.out.keeps _ _ c1
      have g2 : wr.cell? ⟨blk, o + i * 3 + 2, none⟩ = some (.slice u2 bo.len r2) := hB.out.keeps _ _ c2
      clear c0 c1 c2
      have L_lo := i1.out.1
      have L_bo := l2.out
      obtain ⟨q, hq⟩ : ∃ q, wr.heap.size = q := ⟨_, rfl⟩
      obtain ⟨wA, hwA⟩ : ∃ wA, wA = wr.alloc (.cells #[.int .i64 ty, .slice u1 lo.length r1, .slice u2 bo.len r2] 42) := ⟨_, rfl⟩
      have hbel : Below wr.heap.size wr wA := by rw [hwA]; exact (Below.refl _ _).alloc (Nat.le_refl _) _
      have hbx : Hid (Box wA q #[.int .i64 ty, .slice u1 lo.length r1, .slice u2 bo.len r2]) := Lib.hid (by rw [hwA, ← hq]; exact box_new wr _ _)
      have hqp := Lib.hid (show q ≠ p by have := h2.out.lt; omega)
      have hqv := Lib.hid (show v2.ownBlock ≠ some q from fun e => by have := (h2.out.own.lt q e).2; omega)
      have k0 := Lib.hid (h2.out.below hbel)
      have T0 := Lib.hid (t2.out.trans (Tr.of_below hbel))
      have z0 := Lib.hid (Tr.refl p v2 wA)
      have B0 := Lib.hid (hB.out.tr (Tr.of_below hbel))
      clear hbel
      have p0 : wA.cell? ⟨q, 0, none⟩ = some (.int .i64 ty) := hbx.out 0 _ rfl
      rw [hwA] at p0
      go_wp2_with fail
      rw [← hwA]
      clear g0 g1 g2 hwA
      clear p0
      refine (u_any k0.out ty (by (try simp only [put_n, puts_n, wEx, lg, List.length_cons, List.length_nil, strl_length]); omega)).mono ?_
      rintro e w1_ ⟨rfl, v1_, hh, tt⟩
      have k1 := Lib.hid hh
      have T1 := Lib.hid (T0.out.trans tt)
      have z1 := Lib.hid (z0.out.trans tt)
      have B1 := Lib.hid (B0.out.tr tt)
      clear hh tt
      have h9 := Lib.hid (by rw [hst.out]; exact k1.out : WAt N p w1_ mv v1_ (fo fFuncs (l.take (i + 1)) (put (uB m) s)))
      clear hst hbd hbd2
      go_wp2
      exact ⟨⟨i + 1, v1_, by omega, by simp, h9, T1⟩, by simp [intOf]; omega⟩
    · have him : i = m := by omega
      have x2 : wr.cell? ⟨p, 2, none⟩ = some (.slice a m c) := h2.out.cm hj.out
      have hfin := Lib.hid (show fo fFuncs l (put (uB m) s) = fo fFuncs (l.take i) (put (uB m) s) by rw [List.take_of_length_le (by rw [hl.out]; omega)])
      have hdd : (decide ((0 : Int) < (m : Int))) = decide (0 < m) := by simp
      go_wp2
      go_ret
      exact ⟨by simp, by rw [hfin.out]; exact ⟨v2, h2.out, t2.out⟩⟩
end Go.Proofs.YtanpjbbhhofkfaaDoor

namespace Go.Proofs.YtanpjbbhhofkfaaDoor
open Go.RowKit
set_option linter.unusedVariables false
set_option linter.unusedSimpArgs false

def fTables : Int × Int × Bool → WS → WS := fun t s => wLim t (put [b1 112] s)
def cTables : Int × Int × Bool → Nat := fun t => 22
theorem inTables {l : List (Int × Int × Bool)} : ∀ t ∈ l, InR (fTables t) (cTables t) := fun t ht => ((InR.b 112).comp (InR.lim _))
set_option maxRecDepth 100000 in
set_option maxHeartbeats 4000000 in
theorem sTables_any {N p : Nat} {w0 w : World} {mv : List Value} {v : Value} {s : WS} (h : WAt N p w mv v s) (hv : Vw w0 p v w) (l : List (Int × Int × Bool)) (a : Option Addr) (c : Nat) (hj : mv[3]? = some (.slice a l.length c)) (hr : RowsIn LimitsAt 3 w0 a l) (hs : s.n + 10 + cs cTables l ≤ 4611686018427387904) :
    Calls Tryd.prog 20 #[.pointer (some ⟨p, 0, none⟩)] w fun e w' => e = .returned (.bool (decide (0 < l.length))) ∧ WOut N p w mv v (fo fTables l (put (uB l.length) s)) w' := by
  have hin := Lib.hid (inTables (l := l))
  obtain ⟨m, hl⟩ : ∃ m, l.length = m := ⟨_, rfl⟩
  have hl63 := hr.1
  have hlow := h.low
  have hul := uB_len (m : Int)
  rw [hl] at hl63 hj ⊢
  have x0 : w.cell? ⟨p, 3, none⟩ = some (.slice a m c) := h.cm hj
  replace h := Lib.hid h
  replace hv := Lib.hid hv
  replace hr := Lib.hid hr
  replace hj := Lib.hid hj
  replace hs := Lib.hid hs
  replace hl := Lib.hid hl
  go_enter Tryd.func20, Tryd.ntmps20
  go_wp2_with fail
  refine (u_any h.out m (by have := hs.out; omega)).mono ?_
  rintro e w1 ⟨rfl, v1, h1, t1⟩
  replace h1 := Lib.hid h1
  replace t1 := Lib.hid t1
  clear x0
  have x1 : w1.cell? ⟨p, 3, none⟩ = some (.slice a m c) := h1.out.cm hj.out
  go_wp2_with fail
  go_loopw [19] (fun vi wr => ∃ (i : Nat) (v2 : Value), i ≤ m ∧ vi = .int .i64 i ∧ Hid (WAt N p wr mv v2 (fo fTables (l.take i) (put (uB m) s))) ∧ Hid (Tr p v v2 w wr)) (fun vi _ => m - (intOf vi).toNat)
  case atStart => exact ⟨0, v1, Nat.zero_le _, rfl, Lib.hid h1.out, t1⟩
  case round =>
    clear x1
    obtain ⟨i, v2, hle, rfl, h2, t2⟩ := hrel
    by_cases hlt : i < m
    · obtain ⟨t, ht⟩ : ∃ t, l[i]? = some t := ⟨_, List.getElem?_eq_getElem (by rw [hl.out]; exact hlt)⟩
      have hB := Lib.hid (hv.out.tr t2.out)
      obtain ⟨blk, o, rfl, hrow0⟩ := hr.out.row ht
      have hst := Lib.hid (fo_take (f := fTables) ht (put (uB m) s))
      have hbd := fo_bd (s := put (uB m) s) hin.out ht
      rw [put_n] at hbd
      have hbd2 := hs.out
      clear ht
      obtain ⟨v0, v1, fl⟩ := t
      obtain ⟨c0, c1, c2⟩ := hrow0
      unfold IntCell at c0 c1
      unfold BoolCell at c2
      try simp only at c0 c1 c2
      simp only [cTables] at hbd
      have g0 : wr.cell? ⟨blk, o + i * 3, none⟩ = some (.int .i64 v0) := hB.out.keeps _ _ c0
      have g1 : wr.cell? ⟨blk, o + i * 3 + 1, none⟩ = some (.int .i64 v1) := hB.out.keeps _ _ c1
      have g2 : wr.cell? ⟨blk, o + i * 3 + 2, none⟩ = some (.bool fl) := hB.out.keeps _ _ c2
      clear c0 c1 c2
      obtain ⟨q, hq⟩ : ∃ q, wr.heap.size = q := ⟨_, rfl⟩
      obtain ⟨wA, hwA⟩ : ∃ wA, wA = wr.alloc (.cells #[.int .i64 v0, .int .i64 v1, .bool fl] 73) := ⟨_, rfl⟩
      have hbel : Below wr.heap.size wr wA := by rw [hwA]; exact (Below.refl _ _).alloc (Nat.le_refl _) _
      have hbx : Hid (Box wA q #[.int .i64 v0, .int .i64 v1, .bool fl]) := Lib.hid (by rw [hwA, ← hq]; exact box_new wr _ _)
      have hqp := Lib.hid (show q ≠ p by have := h2.out.lt; omega)
      have hqv := Lib.hid (show v2.ownBlock ≠ some q from fun e => by have := (h2.out.own.lt q e).2; omega)
      have k0 := Lib.hid (h2.out.below hbel)
      have T0 := Lib.hid (t2.out.trans (Tr.of_below hbel))
      have z0 := Lib.hid (Tr.refl p v2 wA)
      have B0 := Lib.hid (hB.out.tr (Tr.of_below hbel))
      clear hbel
      go_wp2_with fail
      rw [← hwA]
      clear g0 g1 g2 hwA
      refine (byte_any k0.out 112 (by (try simp only [put_n, puts_n, wEx, lg, List.length_cons, List.length_nil, strl_length]); omega)).mono ?_
      rintro e w1_ ⟨rfl, v1_, hh, tt⟩
      have k1 := Lib.hid hh
      have T1 := Lib.hid (T0.out.trans tt)
      have z1 := Lib.hid (z0.out.trans tt)
      have B1 := Lib.hid (B0.out.tr tt)
      clear hh tt
      have p0 : w1_.cell? ⟨q, 0, none⟩ = some (.int .i64 v0) := (z1.out.box hqp.out hqv.out hbx.out) 0 _ rfl
      have p1 : w1_.cell? ⟨q, 1, none⟩ = some (.int .i64 v1) := (z1.out.box hqp.out hqv.out hbx.out) 1 _ rfl
      have p2 : w1_.cell? ⟨q, 2, none⟩ = some (.bool fl) := (z1.out.box hqp.out hqv.out hbx.out) 2 _ rfl
      go_wp2_with fail
      clear p0 p1 p2
      refine (wlimits_any k1.out v0 v1 fl (by (try simp only [put_n, puts_n, wEx, lg, List.length_cons, List.length_nil, strl_length]); omega)).mono ?_
      rintro e w2_ ⟨rfl, v2_, hh, tt⟩
      have k2 := Lib.hid hh
      have T2 := Lib.hid (T1.out.trans tt)
      have z2 := Lib.hid (z1.out.trans tt)
      have B2 := Lib.hid (B1.out.tr tt)
      clear hh tt
      have h9 := Lib.hid (by rw [hst.out]; exact k2.out : WAt N p w2_ mv v2_ (fo fTables (l.take (i + 1)) (put (uB m) s)))
      clear hst hbd hbd2
      go_wp2
      exact ⟨⟨i + 1, v2_, by omega, by simp, h9, T2⟩, by simp [intOf]; omega⟩
    · have him : i = m := by omega
      have x2 : wr.cell? ⟨p, 3, none⟩ = some (.slice a m c) := h2.out.cm hj.out
      have hfin := Lib.hid (show fo fTables l (put (uB m) s) = fo fTables (l.take i) (put (uB m) s) by rw [List.take_of_length_le (by rw [hl.out]; omega)])
      have hdd : (decide ((0 : Int) < (m : Int))) = decide (0 < m) := by simp
      go_wp2
      go_ret
      exact ⟨by simp, by rw [hfin.out]; exact ⟨v2, h2.out, t2.out⟩⟩
end Go.Proofs.YtanpjbbhhofkfaaDoor

namespace Go.Proofs.YtanpjbbhhofkfaaDoor
open Go.RowKit
set_option linter.unusedVariables false
set_option linter.unusedSimpArgs false

def fMems : Int × Int × Bool → WS → WS := fun t s => wLim t s
def cMems : Int × Int × Bool → Nat := fun t => 21
theorem inMems {l : List (Int × Int × Bool)} : ∀ t ∈ l, InR (fMems t) (cMems t) := fun t ht => InR.lim _
set_option maxRecDepth 100000 in
set_option maxHeartbeats 4000000 in
theorem sMems_any {N p : Nat} {w0 w : World} {mv : List Value} {v : Value} {s : WS} (h : WAt N p w mv v s) (hv : Vw w0 p v w) (l : List (Int × Int × Bool)) (a : Option Addr) (c : Nat) (hj : mv[4]? = some (.slice a l.length c)) (hr : RowsIn LimitsAt 3 w0 a l) (hs : s.n + 10 + cs cMems l ≤ 4611686018427387904) :
    Calls Tryd.prog 21 #[.pointer (some ⟨p, 0, none⟩)] w fun e w' => e = .returned (.bool (decide (0 < l.length))) ∧ WOut N p w mv v (fo fMems l (put (uB l.length) s)) w' := by
  have hin := Lib.hid (inMems (l := l))
  obtain ⟨m, hl⟩ : ∃ m, l.length = m := ⟨_, rfl⟩
  have hl63 := hr.1
  have hlow := h.low
  have hul := uB_len (m : Int)
  rw [hl] at hl63 hj ⊢
  have x0 : w.cell? ⟨p, 4, none⟩ = some (.slice a m c) := h.cm hj
  replace h := Lib.hid h
  replace hv := Lib.hid hv
  replace hr := Lib.hid hr
  replace hj := Lib.hid hj
  replace hs := Lib.hid hs
  replace hl := Lib.hid hl
  go_enter Tryd.func21, Tryd.ntmps21
  go_wp2_with fail
  refine (u_any h.out m (by have := hs.out; omega)).mono ?_
  rintro e w1 ⟨rfl, v1, h1, t1⟩
  replace h1 := Lib.hid h1
  replace t1 := Lib.hid t1
  clear x0
  have x1 : w1.cell? ⟨p, 4, none⟩ = some (.slice a m c) := h1.out.cm hj.out
  go_wp2_with fail
  go_loopw [19] (fun vi wr => ∃ (i : Nat) (v2 : Value), i ≤ m ∧ vi = .int .i64 i ∧ Hid (WAt N p wr mv v2 (fo fMems (l.take i) (put (uB m) s))) ∧ Hid (Tr p v v2 w wr)) (fun vi _ => m - (intOf vi).toNat)
  case atStart => exact ⟨0, v1, Nat.zero_le _, rfl, Lib.hid h1.out, t1⟩
  case round =>
    clear x1
    obtain ⟨i, v2, hle, rfl, h2, t2⟩ := hrel
    by_cases hlt : i < m
    · obtain ⟨t, ht⟩ : ∃ t, l[i]? = some t := ⟨_, List.getElem?_eq_getElem (by rw [hl.out]; exact hlt)⟩
      have hB := Lib.hid (hv.out.tr t2.out)
      obtain ⟨blk, o, rfl, hrow0⟩ := hr.out.row ht
      have hst := Lib.hid (fo_take (f := fMems) ht (put (uB m) s))
      have hbd := fo_bd (s := put (uB m) s) hin.out ht
      rw [put_n] at hbd
      have hbd2 := hs.out
      clear ht
      obtain ⟨v0, v1, fl⟩ := t
      obtain ⟨c0, c1, c2⟩ := hrow0
      unfold IntCell at c0 c1
      unfold BoolCell at c2
      try simp only at c0 c1 c2
      simp only [cMems] at hbd
      have g0 : wr.cell? ⟨blk, o + i * 3, none⟩ = some (.int .i64 v0) := hB.out.keeps _ _ c0
      have g1 : wr.cell? ⟨blk, o + i * 3 + 1, none⟩ = some (.int .i64 v1) := hB.out.keeps _ _ c1
      have g2 : wr.cell? ⟨blk, o + i * 3 + 2, none⟩ = some (.bool fl) := hB.out.keeps _ _ c2
      clear c0 c1 c2
      obtain ⟨q, hq⟩ : ∃ q, wr.heap.size = q := ⟨_, rfl⟩
      obtain ⟨wA, hwA⟩ : ∃ wA, wA = wr.alloc (.cells #[.int .i64 v0, .int .i64 v1, .bool fl] 73) := ⟨_, rfl⟩
      have hbel : Below wr.heap.size wr wA := by rw [hwA]; exact (Below.refl _ _).alloc (Nat.le_refl _) _
      have hbx : Hid (Box wA q #[.int .i64 v0, .int .i64 v1, .bool fl]) := Lib.hid (by rw [hwA, ← hq]; exact box_new wr _ _)
      have hqp := Lib.hid (show q ≠ p by have := h2.out.lt; omega)
      have hqv := Lib.hid (show v2.ownBlock ≠ some q from fun e => by have := (h2.out.own.lt q e).2; omega)
      have k0 := Lib.hid (h2.out.below hbel)
      have T0 := Lib.hid (t2.out.trans (Tr.of_below hbel))
      have z0 := Lib.hid (Tr.refl p v2 wA)
      have B0 := Lib.hid (hB.out.tr (Tr.of_below hbel))
      clear hbel
      have p0 : wA.cell? ⟨q, 0, none⟩ = some (.int .i64 v0) := hbx.out 0 _ rfl
      have p1 : wA.cell? ⟨q, 1, none⟩ = some (.int .i64 v1) := hbx.out 1 _ rfl
      have p2 : wA.cell? ⟨q, 2, none⟩ = some (.bool fl) := hbx.out 2 _ rfl
      rw [hwA] at p0 p1 p2
      go_wp2_with fail
      rw [← hwA]
      clear g0 g1 g2 hwA
      clear p0 p1 p2
      refine (wlimits_any k0.out v0 v1 fl (by (try simp only [put_n, puts_n, wEx, lg, List.length_cons, List.length_nil, strl_length]); omega)).mono ?_
      rintro e w1_ ⟨rfl, v1_, hh, tt⟩
      have k1 := Lib.hid hh
      have T1 := Lib.hid (T0.out.trans tt)
      have z1 := Lib.hid (z0.out.trans tt)
      have B1 := Lib.hid (B0.out.tr tt)
      clear hh tt
      have h9 := Lib.hid (by rw [hst.out]; exact k1.out : WAt N p w1_ mv v1_ (fo fMems (l.take (i + 1)) (put (uB m) s)))
      clear hst hbd hbd2
      go_wp2
      exact ⟨⟨i + 1, v1_, by omega, by simp, h9, T1⟩, by simp [intOf]; omega⟩
    · have him : i = m := by omega
      have x2 : wr.cell? ⟨p, 4, none⟩ = some (.slice a m c) := h2.out.cm hj.out
      have hfin := Lib.hid (show fo fMems l (put (uB m) s) = fo fMems (l.take i) (put (uB m) s) by rw [List.take_of_length_le (by rw [hl.out]; omega)])
      have hdd : (decide ((0 : Int) < (m : Int))) = decide (0 < m) := by simp
      go_wp2
      go_ret
      exact ⟨by simp, by rw [hfin.out]; exact ⟨v2, h2.out, t2.out⟩⟩
end Go.Proofs.YtanpjbbhhofkfaaDoor

namespace Go.Proofs.YtanpjbbhhofkfaaDoor
open Go.RowKit
set_option linter.unusedVariables false
set_option linter.unusedSimpArgs false

def fGlobals : Int × Bool × One → WS → WS := fun t s => wEx t.2.2.il (put [b1 (if t.2.1 = true then 1 else 0)] (put [b1 t.1] s))
def cGlobals : Int × Bool × One → Nat := fun t => 3 + cl t.2.2.il
theorem inGlobals {l : List (Int × Bool × One)} (hok : ∀ t ∈ l, nOk t.2.2.il) : ∀ t ∈ l, InR (fGlobals t) (cGlobals t) := fun t ht => ((InR.b _).comp ((InR.b _).comp (InR.ex _ (hok t ht)))).mono (by show _ ≤ cGlobals t; unfold cGlobals; omega)
set_option maxRecDepth 100000 in
set_option maxHeartbeats 4000000 in
theorem sGlobals_any {N p : Nat} {w0 w : World} {mv : List Value} {v : Value} {s : WS} (h : WAt N p w mv v s) (hv : Vw w0 p v w) (l : List (Int × Bool × One)) (a : Option Addr) (c : Nat) (hj : mv[5]? = some (.slice a l.length c)) (hr : RowsIn GlobalAt 9 w0 a l) (hok : ∀ t ∈ l, nOk t.2.2.il) (hs : s.n + 10 + cs cGlobals l ≤ 4611686018427387904) :
    Calls Tryd.prog 22 #[.pointer (some ⟨p, 0, none⟩)] w fun e w' => e = .returned (.bool (decide (0 < l.length))) ∧ WOut N p w mv v (fo fGlobals l (put (uB l.length) s)) w' := by
  have hin := Lib.hid (inGlobals (l := l) hok)
  have hk2 := Lib.hid hok
  clear hok
  obtain ⟨m, hl⟩ : ∃ m, l.length = m := ⟨_, rfl⟩
  have hl63 := hr.1
  have hlow := h.low
  have hul := uB_len (m : Int)
  rw [hl] at hl63 hj ⊢
  have x0 : w.cell? ⟨p, 5, none⟩ = some (.slice a m c) := h.cm hj
  replace h := Lib.hid h
  replace hv := Lib.hid hv
  replace hr := Lib.hid hr
  replace hj := Lib.hid hj
  replace hs := Lib.hid hs
  replace hl := Lib.hid hl
  go_enter Tryd.func22, Tryd.ntmps22
  go_wp2_with fail
  refine (u_any h.out m (by have := hs.out; omega)).mono ?_
  rintro e w1 ⟨rfl, v1, h1, t1⟩
  replace h1 := Lib.hid h1
  replace t1 := Lib.hid t1
  clear x0
  have x1 : w1.cell? ⟨p, 5, none⟩ = some (.slice a m c) := h1.out.cm hj.out
  go_wp2_with fail
  go_loopw [19] (fun vi wr => ∃ (i : Nat) (v2 : Value), i ≤ m ∧ vi = .int .i64 i ∧ Hid (WAt N p wr mv v2 (fo fGlobals (l.take i) (put (uB m) s))) ∧ Hid (Tr p v v2 w wr)) (fun vi _ => m - (intOf vi).toNat)
  case atStart => exact ⟨0, v1, Nat.zero_le _, rfl, Lib.hid h1.out, t1⟩
  case round =>
    clear x1
    obtain ⟨i, v2, hle, rfl, h2, t2⟩ := hrel
    by_cases hlt : i < m
    · obtain ⟨t, ht⟩ : ∃ t, l[i]? = some t := ⟨_, List.getElem?_eq_getElem (by rw [hl.out]; exact hlt)⟩
      have hB := Lib.hid (hv.out.tr t2.out)
      obtain ⟨blk, o, rfl, hrow0⟩ := hr.out.row ht
      have hst := Lib.hid (fo_take (f := fGlobals) ht (put (uB m) s))
      have hbd := fo_bd (s := put (uB m) s) hin.out ht
      rw [put_n] at hbd
      have hbd2 := hs.out
      have hnk := Lib.hid (hk2.out t (List.mem_of_getElem? ht))
      clear ht
      obtain ⟨ty, mu, ⟨op, x, y, n, ls, body, els⟩⟩ := t
      obtain ⟨c0, c1, ⟨⟨d0, d1, d2, d3⟩, ⟨u4, r4, d4, i4⟩, ⟨u5, r5, d5, l5, i5⟩, ⟨u6, r6, d6, l6, i6⟩, _⟩⟩ := hrow0
      unfold IntCell at c0
      unfold BoolCell at c1
      try simp only at c0 c1
      replace i4 := Lib.hid i4
      replace l5 := Lib.hid l5
      replace l6 := Lib.hid l6
      replace i5 := Lib.hid i5
      replace i6 := Lib.hid i6
      simp only [cGlobals] at hbd
      have g0 : wr.cell? ⟨blk, o + i * 9, none⟩ = some (.int .i64 ty) := hB.out.keeps _ _ c0
      have g1 : wr.cell? ⟨blk, o + i * 9 + 1, none⟩ = some (.bool mu) := hB.out.keeps _ _ c1
      have g2 : wr.cell? ⟨blk, o + i * 9 + 2, none⟩ = some (.int .i64 op) := hB.out.keeps _ _ d0
      have g3 : wr.cell? ⟨blk, o + i * 9 + 3, none⟩ = some (.int .i64 x) := hB.out.keeps _ _ d1
      have g4 : wr.cell? ⟨blk, o + i * 9 + 4, none⟩ = some (.int .i64 y) := hB.out.keeps _ _ d2
      have g5 : wr.cell? ⟨blk, o + i * 9 + 5, none⟩ = some (.int .i64 n) := hB.out.keeps _ _ d3
      have g6 : wr.cell? ⟨blk, o + i * 9 + 6, none⟩ = some (.slice u4 ls.length r4) := hB.out.keeps _ _ d4
      have g7 : wr.cell? ⟨blk, o + i * 9 + 7, none⟩ = some (.slice u5 body.len r5) := hB.out.keeps _ _ d5
      have g8 : wr.cell? ⟨blk, o + i * 9 + 8, none⟩ = some (.slice u6 els.len r6) := hB.out.keeps _ _ d6
      clear c0 c1 d0 d1 d2 d3 d4 d5 d6
      have L_ls := i4.out.1
      have L_body := l5.out
      have L_els := l6.out
      obtain ⟨q, hq⟩ : ∃ q, wr.heap.size = q := ⟨_, rfl⟩
      obtain ⟨wA, hwA⟩ : ∃ wA, wA = wr.alloc (.cells #[.int .i64 ty, .bool mu, .int .i64 op, .int .i64 x, .int .i64 y, .int .i64 n, .slice u4 ls.length r4, .slice u5 body.len r5, .slice u6 els.len r6] 59) := ⟨_, rfl⟩
      have hbel : Below wr.heap.size wr wA := by rw [hwA]; exact (Below.refl _ _).alloc (Nat.le_refl _) _
      have hbx : Hid (Box wA q #[.int .i64 ty, .bool mu, .int .i64 op, .int .i64 x, .int .i64 y, .int .i64 n, .slice u4 ls.length r4, .slice u5 body.len r5, .slice u6 els.len r6]) := Lib.hid (by rw [hwA, ← hq]; exact box_new wr _ _)
      have hqp := Lib.hid (show q ≠ p by have := h2.out.lt; omega)
      have hqv := Lib.hid (show v2.ownBlock ≠ some q from fun e => by have := (h2.out.own.lt q e).2; omega)
      have k0 := Lib.hid (h2.out.below hbel)
      have T0 := Lib.hid (t2.out.trans (Tr.of_below hbel))
      have z0 := Lib.hid (Tr.refl p v2 wA)
      have B0 := Lib.hid (hB.out.tr (Tr.of_below hbel))
      clear hbel
      have p0 : wA.cell? ⟨q, 0, none⟩ = some (.int .i64 ty) := hbx.out 0 _ rfl
      rw [hwA] at p0
      go_wp2_with fail
      rw [← hwA]
      clear g0 g1 g2 g3 g4 g5 g6 g7 g8 hwA
      clear p0
      refine (byte_any k0.out ty (by (try simp only [put_n, puts_n, wEx, lg, List.length_cons, List.length_nil, strl_length]); omega)).mono ?_
      rintro e w1_ ⟨rfl, v1_, hh, tt⟩
      have k1 := Lib.hid hh
      have T1 := Lib.hid (T0.out.trans tt)
      have z1 := Lib.hid (z0.out.trans tt)
      have B1 := Lib.hid (B0.out.tr tt)
      clear hh tt
      have hmu : ∃ z : Int, (if mu = true then (1 : Int) else 0) = z := ⟨_, rfl⟩
      have p1 : w1_.cell? ⟨q, 1, none⟩ = some (.bool mu) := (z1.out.box hqp.out hqv.out hbx.out) 1 _ rfl
      cases mu
      · go_wp2_with fail
        clear p1
        refine (byte_any k1.out 0 (by (try simp only [put_n, puts_n, wEx, lg, List.length_cons, List.length_nil, strl_length]); omega)).mono ?_
        rintro e w2_ ⟨rfl, v2_, hh, tt⟩
        have k2 := Lib.hid hh
        have T2 := Lib.hid (T1.out.trans tt)
        have z2 := Lib.hid (z1.out.trans tt)
        have B2 := Lib.hid (B1.out.tr tt)
        clear hh tt
        obtain ⟨wB, hwB⟩ : ∃ wB, wB = w2_.alloc (.cells #[.int .i64 op, .int .i64 x, .int .i64 y, .int .i64 n, .slice u4 ls.length r4, .slice u5 body.len r5, .slice u6 els.len r6] 53) := ⟨_, rfl⟩
        have hbb : Below w2_.heap.size w2_ wB := by rw [hwB]; exact (Below.refl _ _).alloc (Nat.le_refl _) _
        have hby : Hid (Box wB w2_.heap.size #[.int .i64 op, .int .i64 x, .int .i64 y, .int .i64 n, .slice u4 ls.length r4, .slice u5 body.len r5, .slice u6 els.len r6]) := Lib.hid (by rw [hwB]; exact box_new w2_ _ _)
        have hgp := Lib.hid (show w2_.heap.size ≠ p by have := k2.out.lt; omega)
        have hgv := Lib.hid (show v2_.ownBlock ≠ some w2_.heap.size from fun e => by have := (k2.out.own.lt _ e).2; omega)
        have kx := Lib.hid (k2.out.below hbb)
        have tx := Lib.hid (Tr.of_below (p := p) (v := v2_) hbb)
        clear hbb
        have p2 : w2_.cell? ⟨q, 2, none⟩ = some (.int .i64 op) := (z2.out.box hqp.out hqv.out hbx.out) 2 _ rfl
        have p3 : w2_.cell? ⟨q, 3, none⟩ = some (.int .i64 x) := (z2.out.box hqp.out hqv.out hbx.out) 3 _ rfl
        have p4 : w2_.cell? ⟨q, 4, none⟩ = some (.int .i64 y) := (z2.out.box hqp.out hqv.out hbx.out) 4 _ rfl
        have p5 : w2_.cell? ⟨q, 5, none⟩ = some (.int .i64 n) := (z2.out.box hqp.out hqv.out hbx.out) 5 _ rfl
        have p6 : w2_.cell? ⟨q, 6, none⟩ = some (.slice u4 ls.length r4) := (z2.out.box hqp.out hqv.out hbx.out) 6 _ rfl
        have p7 : w2_.cell? ⟨q, 7, none⟩ = some (.slice u5 body.len r5) := (z2.out.box hqp.out hqv.out hbx.out) 7 _ rfl
        have p8 : w2_.cell? ⟨q, 8, none⟩ = some (.slice u6 els.len r6) := (z2.out.box hqp.out hqv.out hbx.out) 8 _ rfl
        go_wp2_with fail
        clear p2 p3 p4 p5 p6 p7 p8
        rw [← hwB]
        clear hwB
        obtain ⟨V, hV, hvi⟩ := one_view (B2.out.tr tx.out) hby.out hgp.out hgv.out i4.out l5.out i5.out l6.out i6.out
        have hcl : cl (Il.cons op x y n ls body els .nil) = 40 + 10 * ls.length + cl body + cl els := rfl
        have hcle : cl (One.il ⟨op, x, y, n, ls, body, els⟩) = cl (Il.cons op x y n ls body els .nil) := rfl
        refine (expr_any (Il.cons op x y n ls body els .nil) V N p wB mv v2_ (put [b1 0] (put [b1 ty] (fo fGlobals (l.take i) (put (uB m) s)))) (some ⟨w2_.heap.size, 0, none⟩) 1 kx.out hV (by show 0 + 1 ≤ _; omega) hvi hnk.out (by (try simp only [put_n, puts_n, wEx, lg, List.length_cons, List.length_nil, strl_length]); omega)).mono ?_
        rintro e w3_ ⟨rfl, v3_, hh, tt⟩
        have k3 := Lib.hid hh
        have T3 := Lib.hid ((T2.out.trans tx.out).trans tt)
        have z3 := Lib.hid ((z2.out.trans tx.out).trans tt)
        have B3 := Lib.hid ((B2.out.tr tx.out).tr tt)
        clear hh tt hby hgp hgv kx tx V hV hvi hcl hcle
        have h9 := Lib.hid (by rw [hst.out]; exact k3.out : WAt N p w3_ mv v3_ (fo fGlobals (l.take (i + 1)) (put (uB m) s)))
        clear hst hbd hbd2
        go_wp2
        exact ⟨⟨i + 1, v3_, by omega, by simp, h9, T3⟩, by simp [intOf]; omega⟩
      · go_wp2_with fail
        clear p1
        refine (byte_any k1.out 1 (by (try simp only [put_n, puts_n, wEx, lg, List.length_cons, List.length_nil, strl_length]); omega)).mono ?_
        rintro e w2_ ⟨rfl, v2_, hh, tt⟩
        have k2 := Lib.hid hh
        have T2 := Lib.hid (T1.out.trans tt)
        have z2 := Lib.hid (z1.out.trans tt)
        have B2 := Lib.hid (B1.out.tr tt)
        clear hh tt
        obtain ⟨wB, hwB⟩ : ∃ wB, wB = w2_.alloc (.cells #[.int .i64 op, .int .i64 x, .int .i64 y, .int .i64 n, .slice u4 ls.length r4, .slice u5 body.len r5, .slice u6 els.len r6] 53) := ⟨_, rfl⟩
        have hbb : Below w2_.heap.size w2_ wB := by rw [hwB]; exact (Below.refl _ _).alloc (Nat.le_refl _) _
        have hby : Hid (Box wB w2_.heap.size #[.int .i64 op, .int .i64 x, .int .i64 y, .int .i64 n, .slice u4 ls.length r4, .slice u5 body.len r5, .slice u6 els.len r6]) := Lib.hid (by rw [hwB]; exact box_new w2_ _ _)
        have hgp := Lib.hid (show w2_.heap.size ≠ p by have := k2.out.lt; omega)
        have hgv := Lib.hid (show v2_.ownBlock ≠ some w2_.heap.size from fun e => by have := (k2.out.own.lt _ e).2; omega)
        have kx := Lib.hid (k2.out.below hbb)
        have tx := Lib.hid (Tr.of_below (p := p) (v := v2_) hbb)
        clear hbb
        have p2 : w2_.cell? ⟨q, 2, none⟩ = some (.int .i64 op) := (z2.out.box hqp.out hqv.out hbx.out) 2 _ rfl
        have p3 : w2_.cell? ⟨q, 3, none⟩ = some (.int .i64 x) := (z2.out.box hqp.out hqv.out hbx.out) 3 _ rfl
        have p4 : w2_.cell? ⟨q, 4, none⟩ = some (.int .i64 y) := (z2.out.box hqp.out hqv.out hbx.out) 4 _ rfl
        have p5 : w2_.cell? ⟨q, 5, none⟩ = some (.int .i64 n) := (z2.out.box hqp.out hqv.out hbx.out) 5 _ rfl
        have p6 : w2_.cell? ⟨q, 6, none⟩ = some (.slice u4 ls.length r4) := (z2.out.box hqp.out hqv.out hbx.out) 6 _ rfl
        have p7 : w2_.cell? ⟨q, 7, none⟩ = some (.slice u5 body.len r5) := (z2.out.box hqp.out hqv.out hbx.out) 7 _ rfl
        have p8 : w2_.cell? ⟨q, 8, none⟩ = some (.slice u6 els.len r6) := (z2.out.box hqp.out hqv.out hbx.out) 8 _ rfl
        go_wp2_with fail
        clear p2 p3 p4 p5 p6 p7 p8
        rw [← hwB]
        clear hwB
        obtain ⟨V, hV, hvi⟩ := one_view (B2.out.tr tx.out) hby.out hgp.out hgv.out i4.out l5.out i5.out l6.out i6.out
        have hcl : cl (Il.cons op x y n ls body els .nil) = 40 + 10 * ls.length + cl body + cl els := rfl
        have hcle : cl (One.il ⟨op, x, y, n, ls, body, els⟩) = cl (Il.cons op x y n ls body els .nil) := rfl
        refine (expr_any (Il.cons op x y n ls body els .nil) V N p wB mv v2_ (put [b1 1] (put [b1 ty] (fo fGlobals (l.take i) (put (uB m) s)))) (some ⟨w2_.heap.size, 0, none⟩) 1 kx.out hV (by show 0 + 1 ≤ _; omega) hvi hnk.out (by (try simp only [put_n, puts_n, wEx, lg, List.length_cons, List.length_nil, strl_length]); omega)).mono ?_
        rintro e w3_ ⟨rfl, v3_, hh, tt⟩
        have k3 := Lib.hid hh
        have T3 := Lib.hid ((T2.out.trans tx.out).trans tt)
        have z3 := Lib.hid ((z2.out.trans tx.out).trans tt)
        have B3 := Lib.hid ((B2.out.tr tx.out).tr tt)
        clear hh tt hby hgp hgv kx tx V hV hvi hcl hcle
        have h9 := Lib.hid (by rw [hst.out]; exact k3.out : WAt N p w3_ mv v3_ (fo fGlobals (l.take (i + 1)) (put (uB m) s)))
        clear hst hbd hbd2
        go_wp2
        exact ⟨⟨i + 1, v3_, by omega, by simp, h9, T3⟩, by simp [intOf]; omega⟩
    · have him : i = m := by omega
      have x2 : wr.cell? ⟨p, 5, none⟩ = some (.slice a m c) := h2.out.cm hj.out
      have hfin := Lib.hid (show fo fGlobals l (put (uB m) s) = fo fGlobals (l.take i) (put (uB m) s) by rw [List.take_of_length_le (by rw [hl.out]; omega)])
      have hdd : (decide ((0 : Int) < (m : Int))) = decide (0 < m) := by simp
      go_wp2
      go_ret
      exact ⟨by simp, by rw [hfin.out]; exact ⟨v2, h2.out, t2.out⟩⟩
end Go.Proofs.YtanpjbbhhofkfaaDoor

namespace Go.Proofs.YtanpjbbhhofkfaaDoor
open Go.RowKit
set_option linter.unusedVariables false
set_option linter.unusedSimpArgs false

def fExports : ByteArray × Int × Int → WS → WS := fun t s => put (uB t.2.2) (put [b1 t.2.1] (lg (strl t.1) s))
def cExports : ByteArray × Int × Int → Nat := fun t => 21 + t.1.size
theorem inExports {l : List (ByteArray × Int × Int)} : ∀ t ∈ l, InR (fExports t) (cExports t) := fun t ht => ((InR.lg _).comp ((InR.b _).comp (InR.u _))).mono (by show _ ≤ cExports t; unfold cExports; simp only [strl_length]; omega)
set_option maxRecDepth 100000 in
set_option maxHeartbeats 4000000 in
theorem sExports_any {N p : Nat} {w0 w : World} {mv : List Value} {v : Value} {s : WS} (h : WAt N p w mv v s) (hv : Vw w0 p v w) (l : List (ByteArray × Int × Int)) (a : Option Addr) (c : Nat) (hj : mv[6]? = some (.slice a l.length c)) (hr : RowsIn ExportAt 3 w0 a l) (hs : s.n + 10 + cs cExports l ≤ 4611686018427387904) :
    Calls Tryd.prog 23 #[.pointer (some ⟨p, 0, none⟩)] w fun e w' => e = .returned (.bool (decide (0 < l.length))) ∧ WOut N p w mv v (fo fExports l (put (uB l.length) s)) w' := by
  have hin := Lib.hid (inExports (l := l))
  obtain ⟨m, hl⟩ : ∃ m, l.length = m := ⟨_, rfl⟩
  have hl63 := hr.1
  have hlow := h.low
  have hul := uB_len (m : Int)
  rw [hl] at hl63 hj ⊢
  have x0 : w.cell? ⟨p, 6, none⟩ = some (.slice a m c) := h.cm hj
  replace h := Lib.hid h
  replace hv := Lib.hid hv
  replace hr := Lib.hid hr
  replace hj := Lib.hid hj
  replace hs := Lib.hid hs
  replace hl := Lib.hid hl
  go_enter Tryd.func23, Tryd.ntmps23
  go_wp2_with fail
  refine (u_any h.out m (by have := hs.out; omega)).mono ?_
  rintro e w1 ⟨rfl, v1, h1, t1⟩
  replace h1 := Lib.hid h1
  replace t1 := Lib.hid t1
  clear x0
  have x1 : w1.cell? ⟨p, 6, none⟩ = some (.slice a m c) := h1.out.cm hj.out
  go_wp2_with fail
  go_loopw [19] (fun vi wr => ∃ (i : Nat) (v2 : Value), i ≤ m ∧ vi = .int .i64 i ∧ Hid (WAt N p wr mv v2 (fo fExports (l.take i) (put (uB m) s))) ∧ Hid (Tr p v v2 w wr)) (fun vi _ => m - (intOf vi).toNat)
  case atStart => exact ⟨0, v1, Nat.zero_le _, rfl, Lib.hid h1.out, t1⟩
  case round =>
    clear x1
    obtain ⟨i, v2, hle, rfl, h2, t2⟩ := hrel
    by_cases hlt : i < m
    · obtain ⟨t, ht⟩ : ∃ t, l[i]? = some t := ⟨_, List.getElem?_eq_getElem (by rw [hl.out]; exact hlt)⟩
      have hB := Lib.hid (hv.out.tr t2.out)
      obtain ⟨blk, o, rfl, hrow0⟩ := hr.out.row ht
      have hst := Lib.hid (fo_take (f := fExports) ht (put (uB m) s))
      have hbd := fo_bd (s := put (uB m) s) hin.out ht
      rw [put_n] at hbd
      have hbd2 := hs.out
      clear ht
      obtain ⟨s0, v0, v1⟩ := t
      obtain ⟨⟨c0, _⟩, c1, c2⟩ := hrow0
      unfold IntCell at c1 c2
      try simp only at c0 c1 c2
      simp only [cExports] at hbd
      have g0 : wr.cell? ⟨blk, o + i * 3, none⟩ = some (.string s0) := hB.out.keeps _ _ c0
      have g1 : wr.cell? ⟨blk, o + i * 3 + 1, none⟩ = some (.int .i64 v0) := hB.out.keeps _ _ c1
      have g2 : wr.cell? ⟨blk, o + i * 3 + 2, none⟩ = some (.int .i64 v1) := hB.out.keeps _ _ c2
      clear c0 c1 c2
      obtain ⟨q, hq⟩ : ∃ q, wr.heap.size = q := ⟨_, rfl⟩
      obtain ⟨wA, hwA⟩ : ∃ wA, wA = wr.alloc (.cells #[.string s0, .int .i64 v0, .int .i64 v1] 76) := ⟨_, rfl⟩
      have hbel : Below wr.heap.size wr wA := by rw [hwA]; exact (Below.refl _ _).alloc (Nat.le_refl _) _
      have hbx : Hid (Box wA q #[.string s0, .int .i64 v0, .int .i64 v1]) := Lib.hid (by rw [hwA, ← hq]; exact box_new wr _ _)
      have hqp := Lib.hid (show q ≠ p by have := h2.out.lt; omega)
      have hqv := Lib.hid (show v2.ownBlock ≠ some q from fun e => by have := (h2.out.own.lt q e).2; omega)
      have k0 := Lib.hid (h2.out.below hbel)
      have T0 := Lib.hid (t2.out.trans (Tr.of_below hbel))
      have z0 := Lib.hid (Tr.refl p v2 wA)
      have B0 := Lib.hid (hB.out.tr (Tr.of_below hbel))
      clear hbel
      obtain ⟨cc, wB, hcv, hbb, hbi, hsz⟩ := bytes_of_str wA s0
      have hgn := Lib.hid (show wA.heap.size ≠ p by have := k0.out.lt; omega)
      have hgv := k0.out.far s0.size cc
      have kx := Lib.hid (k0.out.below hbb)
      have Tx := Lib.hid (T0.out.trans (Tr.of_below hbb))
      have zx := Lib.hid (z0.out.trans (Tr.of_below hbb))
      have Bx := Lib.hid (B0.out.tr (Tr.of_below hbb))
      replace hbb := Lib.hid hbb
      replace hsz := Lib.hid hsz
      obtain ⟨Z, hZ⟩ : ∃ Z, wA.heap.size = Z := ⟨_, rfl⟩
      have hZq : Z = q + 1 := by rw [← hZ, hwA, ← hq]; simp
      subst hZq
      rw [hZ] at hcv hgn hgv hbi
      replace hgv := Lib.hid hgv
      replace hbi := Lib.hid hbi
      replace hZ := Lib.hid hZ
      rw [hwA] at hcv
      have p0 : wA.cell? ⟨q, 0, none⟩ = some (.string s0) := hbx.out 0 _ rfl
      rw [hwA] at p0
      go_wp2_with fail
      clear g0 g1 g2 hwA
      clear p0
      have hlgt : (put (strl s0) (put (uB (strl s0).length) (fo fExports (l.take i) (put (uB m) s)))) = (lg (strl s0) (fo fExports (l.take i) (put (uB m) s))) := rfl
      refine (long_any kx.out _ (strl s0) hbi.out (fun e => hgn.out (by cases e; rfl)) hgv.out (by (try simp only [put_n, puts_n, wEx, lg, List.length_cons, List.length_nil, strl_length]); omega)).mono ?_
      rw [hlgt]
      rintro e w1_ ⟨rfl, v1_, hh, tt⟩
      have k1 := Lib.hid hh
      have T1 := Lib.hid (Tx.out.trans tt)
      have z1 := Lib.hid (zx.out.trans tt)
      have B1 := Lib.hid (Bx.out.tr tt)
      clear hh tt hcv hgn hgv hbi kx Tx zx Bx hbb hsz hZ hlgt
      have U_1 := uB_len ((s0.size : Nat) : Int)
      have p1 : w1_.cell? ⟨q, 1, none⟩ = some (.int .i64 v0) := (z1.out.box hqp.out hqv.out hbx.out) 1 _ rfl
      go_wp2_with fail
      clear p1
      refine (byte_any k1.out v0 (by (try simp only [put_n, puts_n, wEx, lg, List.length_cons, List.length_nil, strl_length]); omega)).mono ?_
      rintro e w2_ ⟨rfl, v2_, hh, tt⟩
      have k2 := Lib.hid hh
      have T2 := Lib.hid (T1.out.trans tt)
      have z2 := Lib.hid (z1.out.trans tt)
      have B2 := Lib.hid (B1.out.tr tt)
      clear hh tt
      have p2 : w2_.cell? ⟨q, 2, none⟩ = some (.int .i64 v1) := (z2.out.box hqp.out hqv.out hbx.out) 2 _ rfl
      go_wp2_with fail
      clear p2
      refine (u_any k2.out v1 (by (try simp only [put_n, puts_n, wEx, lg, List.length_cons, List.length_nil, strl_length]); omega)).mono ?_
      rintro e w3_ ⟨rfl, v3_, hh, tt⟩
      have k3 := Lib.hid hh
      have T3 := Lib.hid (T2.out.trans tt)
      have z3 := Lib.hid (z2.out.trans tt)
      have B3 := Lib.hid (B2.out.tr tt)
      clear hh tt
      have h9 := Lib.hid (by rw [hst.out]; exact k3.out : WAt N p w3_ mv v3_ (fo fExports (l.take (i + 1)) (put (uB m) s)))
      clear hst hbd hbd2
      go_wp2
      exact ⟨⟨i + 1, v3_, by omega, by simp, h9, T3⟩, by simp [intOf]; omega⟩
    · have him : i = m := by omega
      have x2 : wr.cell? ⟨p, 6, none⟩ = some (.slice a m c) := h2.out.cm hj.out
      have hfin := Lib.hid (show fo fExports l (put (uB m) s) = fo fExports (l.take i) (put (uB m) s) by rw [List.take_of_length_le (by rw [hl.out]; omega)])
      have hdd : (decide ((0 : Int) < (m : Int))) = decide (0 < m) := by simp
      go_wp2
      go_ret
      exact ⟨by simp, by rw [hfin.out]; exact ⟨v2, h2.out, t2.out⟩⟩
end Go.Proofs.YtanpjbbhhofkfaaDoor

namespace Go.Proofs.YtanpjbbhhofkfaaDoor
open Go.RowKit
set_option linter.unusedVariables false
set_option linter.unusedSimpArgs false

def fElems : One × List Int → WS → WS := fun t s => puts (numsC t.2) (wEx t.1.il (put [b1 0] s))
def cElems : One × List Int → Nat := fun t => 12 + 10 * t.2.length + cl t.1.il
theorem inElems {l : List (One × List Int)} (hok : ∀ t ∈ l, nOk t.1.il) : ∀ t ∈ l, InR (fElems t) (cElems t) := fun t ht => ((InR.b _).comp ((InR.ex _ (hok t ht)).comp (InR.puts _))).mono (by show _ ≤ cElems t; unfold cElems; have := numsC_tot t.2; omega)
set_option maxRecDepth 100000 in
set_option maxHeartbeats 4000000 in
theorem sElems_any {N p : Nat} {w0 w : World} {mv : List Value} {v : Value} {s : WS} (h : WAt N p w mv v s) (hv : Vw w0 p v w) (l : List (One × List Int)) (a : Option Addr) (c : Nat) (hj : mv[8]? = some (.slice a l.length c)) (hr : RowsIn ElemAt 8 w0 a l) (hok : ∀ t ∈ l, nOk t.1.il) (hs : s.n + 10 + cs cElems l ≤ 4611686018427387904) :
    Calls Tryd.prog 25 #[.pointer (some ⟨p, 0, none⟩)] w fun e w' => e = .returned (.bool (decide (0 < l.length))) ∧ WOut N p w mv v (fo fElems l (put (uB l.length) s)) w' := by
  have hin := Lib.hid (inElems (l := l) hok)
  have hk2 := Lib.hid hok
  clear hok
  obtain ⟨m, hl⟩ : ∃ m, l.length = m := ⟨_, rfl⟩
  have hl63 := hr.1
  have hlow := h.low
  have hul := uB_len (m : Int)
  rw [hl] at hl63 hj ⊢
  have x0 : w.cell? ⟨p, 8, none⟩ = some (.slice a m c) := h.cm hj
  replace h := Lib.hid h
  replace hv := Lib.hid hv
  replace hr := Lib.hid hr
  replace hj := Lib.hid hj
  replace hs := Lib.hid hs
  replace hl := Lib.hid hl
  go_enter Tryd.func25, Tryd.ntmps25
  go_wp2_with fail
  refine (u_any h.out m (by have := hs.out; omega)).mono ?_
  rintro e w1 ⟨rfl, v1, h1, t1⟩
  replace h1 := Lib.hid h1
  replace t1 := Lib.hid t1
  clear x0
  have x1 : w1.cell? ⟨p, 8, none⟩ = some (.slice a m c) := h1.out.cm hj.out
  go_wp2_with fail
  go_loopw [19] (fun vi wr => ∃ (i : Nat) (v2 : Value), i ≤ m ∧ vi = .int .i64 i ∧ Hid (WAt N p wr mv v2 (fo fElems (l.take i) (put (uB m) s))) ∧ Hid (Tr p v v2 w wr)) (fun vi _ => m - (intOf vi).toNat)
  case atStart => exact ⟨0, v1, Nat.zero_le _, rfl, Lib.hid h1.out, t1⟩
  case round =>
    clear x1
    obtain ⟨i, v2, hle, rfl, h2, t2⟩ := hrel
    by_cases hlt : i < m
    · obtain ⟨t, ht⟩ : ∃ t, l[i]? = some t := ⟨_, List.getElem?_eq_getElem (by rw [hl.out]; exact hlt)⟩
      have hB := Lib.hid (hv.out.tr t2.out)
      obtain ⟨blk, o, rfl, hrow0⟩ := hr.out.row ht
      have hst := Lib.hid (fo_take (f := fElems) ht (put (uB m) s))
      have hbd := fo_bd (s := put (uB m) s) hin.out ht
      rw [put_n] at hbd
      have hbd2 := hs.out
      have hnk := Lib.hid (hk2.out t (List.mem_of_getElem? ht))
      clear ht
      obtain ⟨⟨op, x, y, n, ls, body, els⟩, fs⟩ := t
      obtain ⟨⟨⟨d0, d1, d2, d3⟩, ⟨u4, r4, d4, i4⟩, ⟨u5, r5, d5, l5, i5⟩, ⟨u6, r6, d6, l6, i6⟩, _⟩, ⟨u7, r7, d7, i7⟩⟩ := hrow0
      try simp only at d7
      replace i4 := Lib.hid i4
      replace i7 := Lib.hid i7
      replace l5 := Lib.hid l5
      replace l6 := Lib.hid l6
      replace i5 := Lib.hid i5
      replace i6 := Lib.hid i6
      simp only [cElems] at hbd
      have g0 : wr.cell? ⟨blk, o + i * 8, none⟩ = some (.int .i64 op) := hB.out.keeps _ _ d0
      have g1 : wr.cell? ⟨blk, o + i * 8 + 1, none⟩ = some (.int .i64 x) := hB.out.keeps _ _ d1
      have g2 : wr.cell? ⟨blk, o + i * 8 + 2, none⟩ = some (.int .i64 y) := hB.out.keeps _ _ d2
      have g3 : wr.cell? ⟨blk, o + i * 8 + 3, none⟩ = some (.int .i64 n) := hB.out.keeps _ _ d3
      have g4 : wr.cell? ⟨blk, o + i * 8 + 4, none⟩ = some (.slice u4 ls.length r4) := hB.out.keeps _ _ d4
      have g5 : wr.cell? ⟨blk, o + i * 8 + 5, none⟩ = some (.slice u5 body.len r5) := hB.out.keeps _ _ d5
      have g6 : wr.cell? ⟨blk, o + i * 8 + 6, none⟩ = some (.slice u6 els.len r6) := hB.out.keeps _ _ d6
      have g7 : wr.cell? ⟨blk, o + i * 8 + 7, none⟩ = some (.slice u7 fs.length r7) := hB.out.keeps _ _ d7
      clear d0 d1 d2 d3 d4 d5 d6 d7
      have L_ls := i4.out.1
      have L_body := l5.out
      have L_els := l6.out
      have L_fs := i7.out.1
      obtain ⟨q, hq⟩ : ∃ q, wr.heap.size = q := ⟨_, rfl⟩
      obtain ⟨wA, hwA⟩ : ∃ wA, wA = wr.alloc (.cells #[.int .i64 op, .int .i64 x, .int .i64 y, .int .i64 n, .slice u4 ls.length r4, .slice u5 body.len r5, .slice u6 els.len r6, .slice u7 fs.length r7] 55) := ⟨_, rfl⟩
      have hbel : Below wr.heap.size wr wA := by rw [hwA]; exact (Below.refl _ _).alloc (Nat.le_refl _) _
      have hbx : Hid (Box wA q #[.int .i64 op, .int .i64 x, .int .i64 y, .int .i64 n, .slice u4 ls.length r4, .slice u5 body.len r5, .slice u6 els.len r6, .slice u7 fs.length r7]) := Lib.hid (by rw [hwA, ← hq]; exact box_new wr _ _)
      have hqp := Lib.hid (show q ≠ p by have := h2.out.lt; omega)
      have hqv := Lib.hid (show v2.ownBlock ≠ some q from fun e => by have := (h2.out.own.lt q e).2; omega)
      have k0 := Lib.hid (h2.out.below hbel)
      have T0 := Lib.hid (t2.out.trans (Tr.of_below hbel))
      have z0 := Lib.hid (Tr.refl p v2 wA)
      have B0 := Lib.hid (hB.out.tr (Tr.of_below hbel))
      clear hbel
      go_wp2_with fail
      rw [← hwA]
      clear g0 g1 g2 g3 g4 g5 g6 g7 hwA
      refine (byte_any k0.out 0 (by (try simp only [put_n, puts_n, wEx, lg, List.length_cons, List.length_nil, strl_length]); omega)).mono ?_
      rintro e w1_ ⟨rfl, v1_, hh, tt⟩
      have k1 := Lib.hid hh
      have T1 := Lib.hid (T0.out.trans tt)
      have z1 := Lib.hid (z0.out.trans tt)
      have B1 := Lib.hid (B0.out.tr tt)
      clear hh tt
      obtain ⟨wB, hwB⟩ : ∃ wB, wB = w1_.alloc (.cells #[.int .i64 op, .int .i64 x, .int .i64 y, .int .i64 n, .slice u4 ls.length r4, .slice u5 body.len r5, .slice u6 els.len r6] 53) := ⟨_, rfl⟩
      have hbb : Below w1_.heap.size w1_ wB := by rw [hwB]; exact (Below.refl _ _).alloc (Nat.le_refl _) _
      have hby : Hid (Box wB w1_.heap.size #[.int .i64 op, .int .i64 x, .int .i64 y, .int .i64 n, .slice u4 ls.length r4, .slice u5 body.len r5, .slice u6 els.len r6]) := Lib.hid (by rw [hwB]; exact box_new w1_ _ _)
      have hgp := Lib.hid (show w1_.heap.size ≠ p by have := k1.out.lt; omega)
      have hgv := Lib.hid (show v1_.ownBlock ≠ some w1_.heap.size from fun e => by have := (k1.out.own.lt _ e).2; omega)
      have kx := Lib.hid (k1.out.below hbb)
      have tx := Lib.hid (Tr.of_below (p := p) (v := v1_) hbb)
      clear hbb
      have p0 : w1_.cell? ⟨q, 0, none⟩ = some (.int .i64 op) := (z1.out.box hqp.out hqv.out hbx.out) 0 _ rfl
      have p1 : w1_.cell? ⟨q, 1, none⟩ = some (.int .i64 x) := (z1.out.box hqp.out hqv.out hbx.out) 1 _ rfl
      have p2 : w1_.cell? ⟨q, 2, none⟩ = some (.int .i64 y) := (z1.out.box hqp.out hqv.out hbx.out) 2 _ rfl
      have p3 : w1_.cell? ⟨q, 3, none⟩ = some (.int .i64 n) := (z1.out.box hqp.out hqv.out hbx.out) 3 _ rfl
      have p4 : w1_.cell? ⟨q, 4, none⟩ = some (.slice u4 ls.length r4) := (z1.out.box hqp.out hqv.out hbx.out) 4 _ rfl
      have p5 : w1_.cell? ⟨q, 5, none⟩ = some (.slice u5 body.len r5) := (z1.out.box hqp.out hqv.out hbx.out) 5 _ rfl
      have p6 : w1_.cell? ⟨q, 6, none⟩ = some (.slice u6 els.len r6) := (z1.out.box hqp.out hqv.out hbx.out) 6 _ rfl
      go_wp2_with fail
      clear p0 p1 p2 p3 p4 p5 p6
      rw [← hwB]
      clear hwB
      obtain ⟨V, hV, hvi⟩ := one_view (B1.out.tr tx.out) hby.out hgp.out hgv.out i4.out l5.out i5.out l6.out i6.out
      have hcl : cl (Il.cons op x y n ls body els .nil) = 40 + 10 * ls.length + cl body + cl els := rfl
      have hcle : cl (One.il ⟨op, x, y, n, ls, body, els⟩) = cl (Il.cons op x y n ls body els .nil) := rfl
      refine (expr_any (Il.cons op x y n ls body els .nil) V N p wB mv v1_ (put [b1 0] (fo fElems (l.take i) (put (uB m) s))) (some ⟨w1_.heap.size, 0, none⟩) 1 kx.out hV (by show 0 + 1 ≤ _; omega) hvi hnk.out (by (try simp only [put_n, puts_n, wEx, lg, List.length_cons, List.length_nil, strl_length]); omega)).mono ?_
      rintro e w2_ ⟨rfl, v2_, hh, tt⟩
      have k2 := Lib.hid hh
      have T2 := Lib.hid ((T1.out.trans tx.out).trans tt)
      have z2 := Lib.hid ((z1.out.trans tx.out).trans tt)
      have B2 := Lib.hid ((B1.out.tr tx.out).tr tt)
      clear hh tt hby hgp hgv kx tx V hV hvi hcl hcle
      have hwn : (wl (Il.cons op x y n ls body els .nil) (put [b1 0] (fo fElems (l.take i) (put (uB m) s)))).n ≤ (put [b1 0] (fo fElems (l.take i) (put (uB m) s))).n + cl (One.il ⟨op, x, y, n, ls, body, els⟩) := (wl_n _ hnk.out _).2
      simp only [put_n, List.length_cons, List.length_nil] at hwn
      have p7 : w2_.cell? ⟨q, 7, none⟩ = some (.slice u7 fs.length r7) := (z2.out.box hqp.out hqv.out hbx.out) 7 _ rfl
      go_wp2_with fail
      clear p7
      refine (numbers_any k2.out B2.out fs u7 r7 i7.out (by (try simp only [put_n, puts_n, wEx, lg, List.length_cons, List.length_nil, strl_length]); omega)).mono ?_
      rintro e w3_ ⟨rfl, v3_, hh, tt⟩
      have k3 := Lib.hid hh
      have T3 := Lib.hid (T2.out.trans tt)
      have z3 := Lib.hid (z2.out.trans tt)
      have B3 := Lib.hid (B2.out.tr tt)
      clear hh tt
      have h9 := Lib.hid (by rw [hst.out]; exact k3.out : WAt N p w3_ mv v3_ (fo fElems (l.take (i + 1)) (put (uB m) s)))
      clear hst hbd hbd2
      go_wp2
      exact ⟨⟨i + 1, v3_, by omega, by simp, h9, T3⟩, by simp [intOf]; omega⟩
    · have him : i = m := by omega
      have x2 : wr.cell? ⟨p, 8, none⟩ = some (.slice a m c) := h2.out.cm hj.out
      have hfin := Lib.hid (show fo fElems l (put (uB m) s) = fo fElems (l.take i) (put (uB m) s) by rw [List.take_of_length_le (by rw [hl.out]; omega)])
      have hdd : (decide ((0 : Int) < (m : Int))) = decide (0 < m) := by simp
      go_wp2
      go_ret
      exact ⟨by simp, by rw [hfin.out]; exact ⟨v2, h2.out, t2.out⟩⟩
end Go.Proofs.YtanpjbbhhofkfaaDoor

namespace Go.Proofs.YtanpjbbhhofkfaaDoor
open Go.RowKit
set_option linter.unusedVariables false
set_option linter.unusedSimpArgs false

def fDatas : One × ByteArray → WS → WS := fun t s => lg (strl t.2) (wEx t.1.il (put [b1 0] s))
def cDatas : One × ByteArray → Nat := fun t => 12 + t.2.size + cl t.1.il
theorem inDatas {l : List (One × ByteArray)} (hok : ∀ t ∈ l, nOk t.1.il) : ∀ t ∈ l, InR (fDatas t) (cDatas t) := fun t ht => ((InR.b _).comp ((InR.ex _ (hok t ht)).comp (InR.lg _))).mono (by show _ ≤ cDatas t; unfold cDatas; simp only [strl_length]; omega)
set_option maxRecDepth 100000 in
set_option maxHeartbeats 4000000 in
theorem sDatas_any {N p : Nat} {w0 w : World} {mv : List Value} {v : Value} {s : WS} (h : WAt N p w mv v s) (hv : Vw w0 p v w) (l : List (One × ByteArray)) (a : Option Addr) (c : Nat) (hj : mv[9]? = some (.slice a l.length c)) (hr : RowsIn DataAt 8 w0 a l) (hok : ∀ t ∈ l, nOk t.1.il) (hs : s.n + 10 + cs cDatas l ≤ 4611686018427387904) :
    Calls Tryd.prog 27 #[.pointer (some ⟨p, 0, none⟩)] w fun e w' => e = .returned (.bool (decide (0 < l.length))) ∧ WOut N p w mv v (fo fDatas l (put (uB l.length) s)) w' := by
  have hin := Lib.hid (inDatas (l := l) hok)
  have hk2 := Lib.hid hok
  clear hok
  obtain ⟨m, hl⟩ : ∃ m, l.length = m := ⟨_, rfl⟩
  have hl63 := hr.1
  have hlow := h.low
  have hul := uB_len (m : Int)
  rw [hl] at hl63 hj ⊢
  have x0 : w.cell? ⟨p, 9, none⟩ = some (.slice a m c) := h.cm hj
  replace h := Lib.hid h
  replace hv := Lib.hid hv
  replace hr := Lib.hid hr
  replace hj := Lib.hid hj
  replace hs := Lib.hid hs
  replace hl := Lib.hid hl
  go_enter Tryd.func27, Tryd.ntmps27
  go_wp2_with fail
  refine (u_any h.out m (by have := hs.out; omega)).mono ?_
  rintro e w1 ⟨rfl, v1, h1, t1⟩
  replace h1 := Lib.hid h1
  replace t1 := Lib.hid t1
  clear x0
  have x1 : w1.cell? ⟨p, 9, none⟩ = some (.slice a m c) := h1.out.cm hj.out
  go_wp2_with fail
  go_loopw [19] (fun vi wr => ∃ (i : Nat) (v2 : Value), i ≤ m ∧ vi = .int .i64 i ∧ Hid (WAt N p wr mv v2 (fo fDatas (l.take i) (put (uB m) s))) ∧ Hid (Tr p v v2 w wr)) (fun vi _ => m - (intOf vi).toNat)
  case atStart => exact ⟨0, v1, Nat.zero_le _, rfl, Lib.hid h1.out, t1⟩
  case round =>
    clear x1
    obtain ⟨i, v2, hle, rfl, h2, t2⟩ := hrel
    by_cases hlt : i < m
    · obtain ⟨t, ht⟩ : ∃ t, l[i]? = some t := ⟨_, List.getElem?_eq_getElem (by rw [hl.out]; exact hlt)⟩
      have hB := Lib.hid (hv.out.tr t2.out)
      obtain ⟨blk, o, rfl, hrow0⟩ := hr.out.row ht
      have hst := Lib.hid (fo_take (f := fDatas) ht (put (uB m) s))
      have hbd := fo_bd (s := put (uB m) s) hin.out ht
      rw [put_n] at hbd
      have hbd2 := hs.out
      have hnk := Lib.hid (hk2.out t (List.mem_of_getElem? ht))
      clear ht
      obtain ⟨⟨op, x, y, n, ls, body, els⟩, s0⟩ := t
      obtain ⟨⟨⟨d0, d1, d2, d3⟩, ⟨u4, r4, d4, i4⟩, ⟨u5, r5, d5, l5, i5⟩, ⟨u6, r6, d6, l6, i6⟩, _⟩, ⟨d7, _⟩⟩ := hrow0
      try simp only at d7
      replace i4 := Lib.hid i4
      replace l5 := Lib.hid l5
      replace l6 := Lib.hid l6
      replace i5 := Lib.hid i5
      replace i6 := Lib.hid i6
      simp only [cDatas] at hbd
      have g0 : wr.cell? ⟨blk, o + i * 8, none⟩ = some (.int .i64 op) := hB.out.keeps _ _ d0
      have g1 : wr.cell? ⟨blk, o + i * 8 + 1, none⟩ = some (.int .i64 x) := hB.out.keeps _ _ d1
      have g2 : wr.cell? ⟨blk, o + i * 8 + 2, none⟩ = some (.int .i64 y) := hB.out.keeps _ _ d2
      have g3 : wr.cell? ⟨blk, o + i * 8 + 3, none⟩ = some (.int .i64 n) := hB.out.keeps _ _ d3
      have g4 : wr.cell? ⟨blk, o + i * 8 + 4, none⟩ = some (.slice u4 ls.length r4) := hB.out.keeps _ _ d4
      have g5 : wr.cell? ⟨blk, o + i * 8 + 5, none⟩ = some (.slice u5 body.len r5) := hB.out.keeps _ _ d5
      have g6 : wr.cell? ⟨blk, o + i * 8 + 6, none⟩ = some (.slice u6 els.len r6) := hB.out.keeps _ _ d6
      have g7 : wr.cell? ⟨blk, o + i * 8 + 7, none⟩ = some (.string s0) := hB.out.keeps _ _ d7
      clear d0 d1 d2 d3 d4 d5 d6 d7
      have L_ls := i4.out.1
      have L_body := l5.out
      have L_els := l6.out
      obtain ⟨q, hq⟩ : ∃ q, wr.heap.size = q := ⟨_, rfl⟩
      obtain ⟨wA, hwA⟩ : ∃ wA, wA = wr.alloc (.cells #[.int .i64 op, .int .i64 x, .int .i64 y, .int .i64 n, .slice u4 ls.length r4, .slice u5 body.len r5, .slice u6 els.len r6, .string s0] 57) := ⟨_, rfl⟩
      have hbel : Below wr.heap.size wr wA := by rw [hwA]; exact (Below.refl _ _).alloc (Nat.le_refl _) _
      have hbx : Hid (Box wA q #[.int .i64 op, .int .i64 x, .int .i64 y, .int .i64 n, .slice u4 ls.length r4, .slice u5 body.len r5, .slice u6 els.len r6, .string s0]) := Lib.hid (by rw [hwA, ← hq]; exact box_new wr _ _)
      have hqp := Lib.hid (show q ≠ p by have := h2.out.lt; omega)
      have hqv := Lib.hid (show v2.ownBlock ≠ some q from fun e => by have := (h2.out.own.lt q e).2; omega)
      have k0 := Lib.hid (h2.out.below hbel)
      have T0 := Lib.hid (t2.out.trans (Tr.of_below hbel))
      have z0 := Lib.hid (Tr.refl p v2 wA)
      have B0 := Lib.hid (hB.out.tr (Tr.of_below hbel))
      clear hbel
      go_wp2_with fail
      rw [← hwA]
      clear g0 g1 g2 g3 g4 g5 g6 g7 hwA
      refine (byte_any k0.out 0 (by (try simp only [put_n, puts_n, wEx, lg, List.length_cons, List.length_nil, strl_length]); omega)).mono ?_
      rintro e w1_ ⟨rfl, v1_, hh, tt⟩
      have k1 := Lib.hid hh
      have T1 := Lib.hid (T0.out.trans tt)
      have z1 := Lib.hid (z0.out.trans tt)
      have B1 := Lib.hid (B0.out.tr tt)
      clear hh tt
      obtain ⟨wB, hwB⟩ : ∃ wB, wB = w1_.alloc (.cells #[.int .i64 op, .int .i64 x, .int .i64 y, .int .i64 n, .slice u4 ls.length r4, .slice u5 body.len r5, .slice u6 els.len r6] 53) := ⟨_, rfl⟩
      have hbb : Below w1_.heap.size w1_ wB := by rw [hwB]; exact (Below.refl _ _).alloc (Nat.le_refl _) _
      have hby : Hid (Box wB w1_.heap.size #[.int .i64 op, .int .i64 x, .int .i64 y, .int .i64 n, .slice u4 ls.length r4, .slice u5 body.len r5, .slice u6 els.len r6]) := Lib.hid (by rw [hwB]; exact box_new w1_ _ _)
      have hgp := Lib.hid (show w1_.heap.size ≠ p by have := k1.out.lt; omega)
      have hgv := Lib.hid (show v1_.ownBlock ≠ some w1_.heap.size from fun e => by have := (k1.out.own.lt _ e).2; omega)
      have kx := Lib.hid (k1.out.below hbb)
      have tx := Lib.hid (Tr.of_below (p := p) (v := v1_) hbb)
      clear hbb
      have p0 : w1_.cell? ⟨q, 0, none⟩ = some (.int .i64 op) := (z1.out.box hqp.out hqv.out hbx.out) 0 _ rfl
      have p1 : w1_.cell? ⟨q, 1, none⟩ = some (.int .i64 x) := (z1.out.box hqp.out hqv.out hbx.out) 1 _ rfl
      have p2 : w1_.cell? ⟨q, 2, none⟩ = some (.int .i64 y) := (z1.out.box hqp.out hqv.out hbx.out) 2 _ rfl
      have p3 : w1_.cell? ⟨q, 3, none⟩ = some (.int .i64 n) := (z1.out.box hqp.out hqv.out hbx.out) 3 _ rfl
      have p4 : w1_.cell? ⟨q, 4, none⟩ = some (.slice u4 ls.length r4) := (z1.out.box hqp.out hqv.out hbx.out) 4 _ rfl
      have p5 : w1_.cell? ⟨q, 5, none⟩ = some (.slice u5 body.len r5) := (z1.out.box hqp.out hqv.out hbx.out) 5 _ rfl
      have p6 : w1_.cell? ⟨q, 6, none⟩ = some (.slice u6 els.len r6) := (z1.out.box hqp.out hqv.out hbx.out) 6 _ rfl
      go_wp2_with fail
      clear p0 p1 p2 p3 p4 p5 p6
      rw [← hwB]
      clear hwB
      obtain ⟨V, hV, hvi⟩ := one_view (B1.out.tr tx.out) hby.out hgp.out hgv.out i4.out l5.out i5.out l6.out i6.out
      have hcl : cl (Il.cons op x y n ls body els .nil) = 40 + 10 * ls.length + cl body + cl els := rfl
      have hcle : cl (One.il ⟨op, x, y, n, ls, body, els⟩) = cl (Il.cons op x y n ls body els .nil) := rfl
      refine (expr_any (Il.cons op x y n ls body els .nil) V N p wB mv v1_ (put [b1 0] (fo fDatas (l.take i) (put (uB m) s))) (some ⟨w1_.heap.size, 0, none⟩) 1 kx.out hV (by show 0 + 1 ≤ _; omega) hvi hnk.out (by (try simp only [put_n, puts_n, wEx, lg, List.length_cons, List.length_nil, strl_length]); omega)).mono ?_
      rintro e w2_ ⟨rfl, v2_, hh, tt⟩
      have k2 := Lib.hid hh
      have T2 := Lib.hid ((T1.out.trans tx.out).trans tt)
      have z2 := Lib.hid ((z1.out.trans tx.out).trans tt)
      have B2 := Lib.hid ((B1.out.tr tx.out).tr tt)
      clear hh tt hby hgp hgv kx tx V hV hvi hcl hcle
      have hwn : (wl (Il.cons op x y n ls body els .nil) (put [b1 0] (fo fDatas (l.take i) (put (uB m) s)))).n ≤ (put [b1 0] (fo fDatas (l.take i) (put (uB m) s))).n + cl (One.il ⟨op, x, y, n, ls, body, els⟩) := (wl_n _ hnk.out _).2
      simp only [put_n, List.length_cons, List.length_nil] at hwn
      obtain ⟨cc, wB, hcv, hbb, hbi, hsz⟩ := bytes_of_str w2_ s0
      have hgn := Lib.hid (show w2_.heap.size ≠ p by have := k2.out.lt; omega)
      have hgv := k2.out.far s0.size cc
      have kx := Lib.hid (k2.out.below hbb)
      have Tx := Lib.hid (T2.out.trans (Tr.of_below hbb))
      have zx := Lib.hid (z2.out.trans (Tr.of_below hbb))
      have Bx := Lib.hid (B2.out.tr (Tr.of_below hbb))
      replace hbb := Lib.hid hbb
      replace hsz := Lib.hid hsz
      obtain ⟨Z, hZ⟩ : ∃ Z, w2_.heap.size = Z := ⟨_, rfl⟩
      rw [hZ] at hcv hgn hgv hbi
      replace hgv := Lib.hid hgv
      replace hbi := Lib.hid hbi
      replace hZ := Lib.hid hZ
      have p7 : w2_.cell? ⟨q, 7, none⟩ = some (.string s0) := (z2.out.box hqp.out hqv.out hbx.out) 7 _ rfl
      go_wp2_with fail
      clear p7
      have hlgt : (put (strl s0) (put (uB (strl s0).length) (put [b1 11] (wl (Il.cons op x y n ls body els .nil) (put [b1 0] (fo fDatas (l.take i) (put (uB m) s))))))) = (lg (strl s0) (put [b1 11] (wl (Il.cons op x y n ls body els .nil) (put [b1 0] (fo fDatas (l.take i) (put (uB m) s)))))) := rfl
      refine (long_any kx.out _ (strl s0) hbi.out (fun e => hgn.out (by cases e; rfl)) hgv.out (by (try simp only [put_n, puts_n, wEx, lg, List.length_cons, List.length_nil, strl_length]); omega)).mono ?_
      rw [hlgt]
      rintro e w3_ ⟨rfl, v3_, hh, tt⟩
      have k3 := Lib.hid hh
      have T3 := Lib.hid (Tx.out.trans tt)
      have z3 := Lib.hid (zx.out.trans tt)
      have B3 := Lib.hid (Bx.out.tr tt)
      clear hh tt hcv hgn hgv hbi kx Tx zx Bx hbb hsz hZ hlgt
      have U_3 := uB_len ((s0.size : Nat) : Int)
      have h9 := Lib.hid (by rw [hst.out]; exact k3.out : WAt N p w3_ mv v3_ (fo fDatas (l.take (i + 1)) (put (uB m) s)))
      clear hst hbd hbd2
      go_wp2
      exact ⟨⟨i + 1, v3_, by omega, by simp, h9, T3⟩, by simp [intOf]; omega⟩
    · have him : i = m := by omega
      have x2 : wr.cell? ⟨p, 9, none⟩ = some (.slice a m c) := h2.out.cm hj.out
      have hfin := Lib.hid (show fo fDatas l (put (uB m) s) = fo fDatas (l.take i) (put (uB m) s) by rw [List.take_of_length_le (by rw [hl.out]; omega)])
      have hdd : (decide ((0 : Int) < (m : Int))) = decide (0 < m) := by simp
      go_wp2
      go_ret
      exact ⟨by simp, by rw [hfin.out]; exact ⟨v2, h2.out, t2.out⟩⟩
end Go.Proofs.YtanpjbbhhofkfaaDoor
