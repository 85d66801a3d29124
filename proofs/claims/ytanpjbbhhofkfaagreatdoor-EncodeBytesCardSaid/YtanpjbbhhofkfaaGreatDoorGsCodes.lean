/- GsCodes -/
import Derived.Test.YtanpjbbhhofkfaaGreatDoorGh
import Derived.Test.YtanpjbbhhofkfaaGreatDoorGk
import Derived.StillTailTactics
import Derived.Deep.Cut
import Derived.Outline
namespace Go.Proofs.YtanpjbbhhofkfaaGreatDoor
open Go.RowKit
set_option linter.unusedVariables false
set_option linter.unusedSimpArgs false
set_option maxRecDepth 100000
set_option maxHeartbeats 4000000
def fCodes : Int × List Int × Il → WS → WS := fun t s => ap (wCode t.2.1 t.2.2) s
def cCodes : Int × List Int × Il → Nat := fun t => 2 * cCode t.2.1 t.2.2 + 10
theorem inCodes {l : List (Int × List Int × Il)} (hok : ∀ t ∈ l, nOk t.2.2) : ∀ t ∈ l, InR (fCodes t) (cCodes t) := fun t ht => (InR.code t.2.1 t.2.2 (hok t ht)).ap (InL.code t.2.1 t.2.2)
theorem Tr.own_ne {p q : Nat} {v v' : Value} {w w' : World} (t : Tr p v v' w w') (hq : q < w.heap.size) (hv : v.ownBlock ≠ some q) : v'.ownBlock ≠ some q := by
 rcases t.own with e | e
 · rw [e]; exact hv
 · exact fun e2 => by have := e q e2; omega
theorem sCodes_any {N p : Nat} {w0 w : World} {mv : List Value} {v : Value} {s : WS} (h : WAt N p w mv v s) (hv : Vw w0 p v w) (l : List (Int × List Int × Il)) (a : Option Addr) (c : Nat) (hj : mv[2]? = some (.slice a l.length c)) (hr : RowsIn FuncAt 3 w0 a l) (hok : ∀ t ∈ l, nOk t.2.2) (hlo : ∀ t ∈ l, t.2.1.length ≤ 65536) (hs : s.n + 10 + cs cCodes l ≤ 4611686018427387904) :
 Calls Tryz.prog 24 #[.pointer (some ⟨p, 0, none⟩)] w fun e w' => e = .returned (.bool (decide (0 < l.length))) ∧ WOut N p w mv v (fo fCodes l (put (uB l.length) s)) w' := by
 have hin := zh (inCodes hok); have hk2 := zh hok; have hlo2 := zh hlo; clear hok hlo; have hmix : Tryz.prog.follows .mixedOrders = true := (by kernel_rfl)
 obtain ⟨m, hl⟩ : ∃ m, l.length = m := ⟨_, rfl⟩
 have hl63 := hr.1; have hlow := h.low; have hul := uB_len (m : Int); rw [hl] at hl63 hj ⊢; obtain ⟨q, hq⟩ : ∃ q, w.heap.size = q := ⟨_, rfl⟩
 obtain ⟨wA, hwA⟩ : ∃ wA, wA = w.alloc (.cells #[.pointer (some ⟨p, 0, none⟩)] 62) := ⟨_, rfl⟩
 have hbel : Below w.heap.size w wA := (by rw [hwA]; exact (Below.refl _ _).alloc (Nat.le_refl _) _)
 have hqs : q < wA.drew.heap.size := (by rw [hwA, ← hq]; simp)
 have hbx : Box wA q #[.pointer (some ⟨p, 0, none⟩)] := (by rw [hwA, ← hq]; exact box_new w _ _)
 have hqp := zh (show q ≠ p by have := h.lt; omega); have hqv := zh (show v.ownBlock ≠ some q from fun e => by have := (h.own.lt q e).2; omega); have h0 := h.below hbel; have t0 := zh ((Tr.of_below (p := p) (v := v) hbel).drew); have hv0 := zh (hv.tr (Tr.of_below hbel).drew); have x0 : wA.cell? ⟨p, 2, none⟩ = some (.slice a m c) := h0.cm hj; have y0 : wA.cell? ⟨q, 0, none⟩ = some (.pointer (some ⟨p, 0, none⟩)) := hbx 0 _ rfl; have h0' := zh h0.drew; replace hbx := zh hbx; replace hr := zh hr; replace hj := zh hj; replace hs := zh hs; replace hl := zh hl; replace hqs := zh hqs; clear h hv h0 hbel; go_enter Tryz.func24, Tryz.ntmps24; rw [hwA] at x0 y0; go_wp2_with fail; rw [← hwA] at x0 y0 ⊢; have xd : ({ heap := wA.heap, tape := wA.tape, drawn := wA.drawn + 1, os := wA.os, output := wA.output } : World).cell? ⟨p, 2, none⟩ = some (.slice a m c) := x0; have yd : ({ heap := wA.heap, tape := wA.tape, drawn := wA.drawn + 1, os := wA.os, output := wA.output } : World).cell? ⟨q, 0, none⟩ = some (.pointer (some ⟨p, 0, none⟩)) := y0; clear hwA
 go_still_tail 7, (by kernel_rfl)
 change wpList _ _ _ _ _ wA.drew; clear xd yd; go_wp2_with fail; refine (u_any h0'.out m (by have := hs.out; omega)).mono ?_; rintro e w1 ⟨rfl, v1, h1, t1⟩; have yb : wA.drew.cell? ⟨q, 0, none⟩ = some (.pointer (some ⟨p, 0, none⟩)) := y0; replace yb := zh yb; replace h1 := zh h1; replace t1 := zh t1; clear x0 y0; have x1 : w1.cell? ⟨p, 2, none⟩ = some (.slice a m c) := h1.out.cm hj.out; have y1 : w1.cell? ⟨q, 0, none⟩ = some (.pointer (some ⟨p, 0, none⟩)) := t1.out.cell hqp.out hqv.out yb.out; go_wp2_with fail; go_loopw [19] (fun vi wr => ∃ (i : Nat) (v2 : Value), i ≤ m ∧ vi = .int .i64 i ∧ Hid (WAt N p wr mv v2 (fo fCodes (l.take i) (put (uB m) s))) ∧ Hid (Tr p v v2 wA.drew wr)) (fun vi _ => m - (intOf vi).toNat)
 case atStart => exact ⟨0, v1, Nat.zero_le _, rfl, zh h1.out, t1⟩
 case round =>
  clear x1 y1; obtain ⟨i, v2, hle, rfl, h2, t2⟩ := hrel
  by_cases hlt : i < m
  · obtain ⟨t, ht⟩ : ∃ t, l[i]? = some t := ⟨_, List.getElem?_eq_getElem (by rw [hl.out]; exact hlt)⟩
    have hB := zh (hv0.out.tr t2.out); have hqv2 := zh (t2.out.own_ne hqs.out hqv.out); obtain ⟨blk, o, rfl, hrow0⟩ := hr.out.row ht; have hst := zh (fo_take (f := fCodes) ht (put (uB m) s)); have hbd := fo_bd (s := put (uB m) s) hin.out ht; rw [put_n] at hbd; have hbd2 := hs.out; have hnk := zh (hk2.out t (List.mem_of_getElem? ht)); have hlm := hlo2.out t (List.mem_of_getElem? ht); clear ht; obtain ⟨ty, lo, bo⟩ := t; obtain ⟨c0, ⟨u1, r1, c1, i1⟩, ⟨u2, r2, c2, l2, i2⟩⟩ := hrow0; unfold IntCell at c0
    try simp only at c0 c1 c2 hnk hlm
    replace i1 := zh i1; replace l2 := zh l2; replace i2 := zh i2; simp only [cCodes] at hbd; have g0 : wr.cell? ⟨blk, o + i * 3, none⟩ = some (.int .i64 ty) := hB.out.keeps _ _ c0; have g1 : wr.cell? ⟨blk, o + i * 3 + 1, none⟩ = some (.slice u1 lo.length r1) := hB.out.keeps _ _ c1; have g2 : wr.cell? ⟨blk, o + i * 3 + 2, none⟩ = some (.slice u2 bo.len r2) := hB.out.keeps _ _ c2; clear c0 c1 c2; have L_lo := i1.out.1; have L_bo := l2.out; obtain ⟨f4, hf4⟩ : ∃ f4, wr.heap.size = f4 := ⟨_, rfl⟩
    obtain ⟨wB, hwB⟩ : ∃ wB, wB = wr.alloc (.cells #[.int .i64 ty, .slice u1 lo.length r1, .slice u2 bo.len r2] 53) := ⟨_, rfl⟩
    have hbel : Below wr.heap.size wr wB := (by rw [hwB]; exact (Below.refl _ _).alloc (Nat.le_refl _) _)
    have hbx4 : Box wB f4 #[.int .i64 ty, .slice u1 lo.length r1, .slice u2 bo.len r2] := (by rw [hwB, ← hf4]; exact box_new wr _ _)
    have hfp := zh (show f4 ≠ p by have := h2.out.lt; omega); have hfv := zh (show v2.ownBlock ≠ some f4 from fun e => by have := (h2.out.own.lt f4 e).2; omega); have k0 := zh (h2.out.below hbel); have T0 := zh (t2.out.trans (Tr.of_below hbel)); have B0 := zh (hB.out.tr (Tr.of_below hbel)); have y2 : wB.cell? ⟨q, 0, none⟩ = some (.pointer (some ⟨p, 0, none⟩)) := keep_below hbel _ _ (t2.out.cell hqp.out hqv.out yb.out); have y3 : wB.cell? ⟨q, 0, none⟩ = some (.pointer (some ⟨p, 0, none⟩)) := y2; replace y3 := zh y3; replace hbx4 := zh hbx4; clear hbel; have hic := (InR.code lo bo hnk.out) ⟨[], (fo fCodes (l.take i) (put (uB m) s)).n⟩
    have hil := (InL.code lo bo) ⟨[], (fo fCodes (l.take i) (put (uB m) s)).n⟩
    simp only [List.length_nil] at hic hil; obtain ⟨S2, hS2⟩ : ∃ S2, wCode lo bo ⟨[], (fo fCodes (l.take i) (put (uB m) s)).n⟩ = S2 := ⟨_, rfl⟩
    rw [hS2] at hic hil; have hst2 : fo fCodes (l.take (i + 1)) (put (uB m) s) = lg S2.l ⟨(fo fCodes (l.take i) (put (uB m) s)).l, S2.n⟩ := (by rw [hst.out, ← hS2]; rfl)
    clear hst; have hS2' := zh hS2; clear hS2; obtain ⟨S1, hS1⟩ : ∃ S1, fo fCodes (l.take i) (put (uB m) s) = S1 := ⟨_, rfl⟩
    rw [hS1] at hst2 hic hil hS2' k0 hbd h2; have hS1' := zh hS1; replace hst2 := zh hst2; clear hS1; have hz1 := zh (show S1.n + cCode lo bo ≤ 4611686018427387904 by omega); have hz2 := zh (show S2.n + 10 + S2.l.length ≤ 4611686018427387904 by omega); clear hic hil hbd hbd2 y2
    have hc3 := zh (fun (w' : World) (hb' : Below wB.heap.size wB w') => (apart_any (k0.out.below hb') (B0.out.tr (Tr.of_below hb')) q f4 ty lo bo u1 r1 u2 r2 (keep_below hb' _ _ y3.out) (fun j u hj => keep_below hb' _ _ (hbx4.out j u hj)) hqp.out hfp.out i1.out hlm l2.out i2.out hnk.out hz1.out).mono
     (R' := fun e w'' => ∃ v, e = .returned v ∧ (WAt N p w'' mv v2 ⟨S1.l, S2.n⟩ ∧ Tr p v2 v2 wB w'' ∧ BIn w'' v S2.l ∧ v.ownBlock ≠ some p ∧ ∀ g, v.ownBlock = some g → v2.ownBlock ≠ some g)) (by
      rintro e w'' ⟨v, rfl, h3, t3, b3, n3, m3⟩; rw [hS2'.out] at h3 b3
      exact ⟨v, rfl, h3, (Tr.of_below hb').trans t3, b3, n3, fun g e e2 => by
       have := m3 g e; have := (k0.out.own.lt g e2).2; have := hb'.size; omega⟩))
    have hc4 := zh (fun (v : Value) (w' : World) (k3 : WAt N p w' mv v2 ⟨S1.l, S2.n⟩ ∧ Tr p v2 v2 wB w' ∧ BIn w' v S2.l ∧ v.ownBlock ≠ some p ∧ ∀ g, v.ownBlock = some g → v2.ownBlock ≠ some g) => (long_any k3.1 v S2.l k3.2.2.1 k3.2.2.2.1 k3.2.2.2.2 hz2.out).mono
     (R' := fun e w'' => e = .returned (.tuple #[]) ∧ (∃ v4, WAt N p w'' mv v4 (lg S2.l ⟨S1.l, S2.n⟩) ∧ Tr p v2 v4 wB w'')) (by
      rintro e w'' ⟨rfl, v4, h4, t4⟩; exact ⟨rfl, v4, h4, k3.2.1.trans t4⟩))
    go_upto_region 5 with fail
    rw [← hwB]; clear g0 g1 g2 hwB; refine wpk_then ?_; intro K hK
    go_cut [] from 23 to 27 (fun wx => ∃ v4, Hid (WAt N p wx mv v4 (lg S2.l ⟨S1.l, S2.n⟩)) ∧ Hid (Tr p v2 v4 wB wx))
    case first => refine wp_fv _ 36 rfl (region_codes hmix (p := p) (c1 := q) (f4 := f4) rfl rfl y3.out (fun v w k3 => k3.2.1.cell hqp.out hqv2.out y3.out) hc3.out hc4.out ?_); rintro f w' ⟨v4, h4, t4⟩; replace h4 := zh h4; replace t4 := zh t4; go_wp2_with fail; go_meet; exact ⟨v4, h4, t4⟩
    case rest =>
    obtain ⟨v4, h4, t4⟩ := hcut; refine (hK _ _).2 ?_; clear hK; have h9 := h4.out; rw [← hst2.out] at h9; replace h9 := zh h9; have t9 := zh (T0.out.trans t4.out); clear hc3 hc4; go_wp2; exact ⟨⟨i + 1, v4, by omega, by simp, h9, t9⟩, by simp [intOf]; omega⟩
  · have him : i = m := (by omega)
    have x2 : wr.cell? ⟨p, 2, none⟩ = some (.slice a m c) := h2.out.cm hj.out; have y2 : wr.cell? ⟨q, 0, none⟩ = some (.pointer (some ⟨p, 0, none⟩)) := t2.out.cell hqp.out hqv.out yb.out; have hfin := zh (show fo fCodes l (put (uB m) s) = fo fCodes (l.take i) (put (uB m) s) by rw [List.take_of_length_le (by rw [hl.out]; omega)]); have hdd : (decide ((0 : Int) < (m : Int))) = decide (0 < m) := (by simp)
    go_wp2; go_ret; exact ⟨by simp, by rw [hfin.out]; exact ⟨v2, h2.out, t0.out.trans t2.out⟩⟩
end Go.Proofs.YtanpjbbhhofkfaaGreatDoor
