/- padded: a number in five bytes. -/
import Derived.Test.YtkbfjkbokifgkaaGreatDoorCz
import Derived.Test.YtkbfjkbokifgkaaGreatDoorHp
import Derived.Laws.OwnMore
import Derived.Test.YtkbfjkbokifgkaaGreatDoorCs
namespace Go.Proofs.YtkbfjkbokifgkaaGreatDoor
open Go.RowKit
set_option linter.unusedVariables false
set_option linter.unusedSimpArgs false
set_option maxRecDepth 100000 in
theorem padded_any (n : Nat) (hn : n < 4294967296) (w : World) : Calls Tryz.prog 20 #[.int .i64 n] w fun e w' => e = .returned (.string (mks (padB n))) ∧ Below w.heap.size w w' := by
 have e0 := or_128 n; have e1 := or_128 (n / 128); have e2 := or_128 (n / 16384); have e3 := or_128 (n / 2097152); have e4 : ((n / 268435456 : Nat) : Int) = ((UInt8.ofNat (n / 268435456)).toNat : Int) := u8_small (show n / 268435456 < 256 by omega); have d1 : ((n / 128 : Nat) : Int) = (n : Int) / 128 := rfl; have d2 : ((n / 16384 : Nat) : Int) = (n : Int) / 16384 := rfl; have d3 : ((n / 2097152 : Nat) : Int) = (n : Int) / 2097152 := rfl; have d4 : ((n / 268435456 : Nat) : Int) = (n : Int) / 268435456 := rfl; rw [d1] at e1; rw [d2] at e2; rw [d3] at e3; rw [d4] at e4; have hB : Below w.heap.size w (w.alloc (.cells #[Value.int IntKind.u8 (bits BinOp.or IntKind.u8 (↑n % 256) 128), Value.int IntKind.u8 (bits BinOp.or IntKind.u8 (↑n / 128 % 256) 128), Value.int IntKind.u8 (bits BinOp.or IntKind.u8 (↑n / 16384 % 256) 128), Value.int IntKind.u8 (bits BinOp.or IntKind.u8 (↑n / 2097152 % 256) 128), Value.int IntKind.u8 (↑n / 268435456)] 5)) := (Below.refl _ _).alloc (Nat.le_refl _) _
 have hcv : (convert 54 9 (.slice (some ⟨w.heap.size, 0, none⟩) 5 5)).run Tryz.prog (w.alloc (.cells #[Value.int IntKind.u8 (bits BinOp.or IntKind.u8 (↑n % 256) 128), Value.int IntKind.u8 (bits BinOp.or IntKind.u8 (↑n / 128 % 256) 128), Value.int IntKind.u8 (bits BinOp.or IntKind.u8 (↑n / 16384 % 256) 128), Value.int IntKind.u8 (bits BinOp.or IntKind.u8 (↑n / 2097152 % 256) 128), Value.int IntKind.u8 (↑n / 268435456)] 5)) = .ok (.string (mks (padB n))) (w.alloc (.cells #[Value.int IntKind.u8 (bits BinOp.or IntKind.u8 (↑n % 256) 128), Value.int IntKind.u8 (bits BinOp.or IntKind.u8 (↑n / 128 % 256) 128), Value.int IntKind.u8 (bits BinOp.or IntKind.u8 (↑n / 16384 % 256) 128), Value.int IntKind.u8 (bits BinOp.or IntKind.u8 (↑n / 2097152 % 256) 128), Value.int IntKind.u8 (↑n / 268435456)] 5)) := by
  have hr := World.ownsRow_lit (base := w.heap.size) (e := 5) (size := 1) w #[Value.int IntKind.u8 (bits BinOp.or IntKind.u8 (↑n % 256) 128), Value.int IntKind.u8 (bits BinOp.or IntKind.u8 (↑n / 128 % 256) 128), Value.int IntKind.u8 (bits BinOp.or IntKind.u8 (↑n / 16384 % 256) 128), Value.int IntKind.u8 (bits BinOp.or IntKind.u8 (↑n / 2097152 % 256) 128), Value.int IntKind.u8 (↑n / 268435456)] 5 (Nat.le_refl _) (by unfold maxLen; omega) rfl; refine conv_own (l := padB n) (n := 5) (base := w.heap.size) ?_
  have hc : cb (padB n) = [Value.int IntKind.u8 (bits BinOp.or IntKind.u8 (↑n % 256) 128), Value.int IntKind.u8 (bits BinOp.or IntKind.u8 (↑n / 128 % 256) 128), Value.int IntKind.u8 (bits BinOp.or IntKind.u8 (↑n / 16384 % 256) 128), Value.int IntKind.u8 (bits BinOp.or IntKind.u8 (↑n / 2097152 % 256) 128), Value.int IntKind.u8 (↑n / 268435456)] := by rw [e0, e1, e2, e3, e4]; rfl
  rw [hc]; exact hr
 replace e0 := zh e0; replace e1 := zh e1; replace e2 := zh e2; replace e3 := zh e3; replace e4 := zh e4; replace hB := zh hB; clear d1 d2 d3 d4; go_enter Tryz.func20, Tryz.ntmps20; go_wp2_with fail; go_ret; exact ⟨rfl, hB.out⟩
end Go.Proofs.YtkbfjkbokifgkaaGreatDoor
namespace Go.Proofs.YtkbfjkbokifgkaaGreatDoor
open Go.RowKit
set_option linter.unusedVariables false
set_option linter.unusedSimpArgs false
theorem mks_append (a b : List UInt8) : mks (a ++ b) = mks a ++ mks b := by rw [← mks_strl (mks a ++ mks b), strl_append, strl_mks, strl_mks]
theorem pad_round {m : Md} {p r : List Ck} {c : Ck} (h : Cks m (p ++ c :: r)) (hl : (xMd m).length ≤ 20000) {S0 : ByteArray} (hst : strl S0 = xMd m) :
 ∃ a, a = 8 + (p.flatMap Ck.b).length ∧ a + 1 + c.lb.length + c.c.length = 8 + ((p ++ [c]).flatMap Ck.b).length ∧ a + 1 + c.lb.length + c.c.length ≤ S0.size ∧ c.c.length < 4294967296 ∧ (mks (headB ++ (p.map Ck.pad).flatMap Ck.b)).size ≤ 200000 ∧
  (∀ n k, grp 5 (from_ S0 (a + 1)) = some (n, k) → n = c.c.length ∧ k = c.lb.length) ∧ (∃ n k, grp 5 (from_ S0 (a + 1)) = some (n, k) ∧ n < 4294967296) ∧
  mks (headB ++ (p.map Ck.pad).flatMap Ck.b) ++ (S0.extract a (a + 1) ++ mks (padB c.c.length) ++ S0.extract (a + 1 + c.lb.length) (a + 1 + c.lb.length + c.c.length)) = mks (headB ++ ((p ++ [c]).map Ck.pad).flatMap Ck.b) := by
 have h8 : headB.length = 8 := rfl
 have hL : (xMd m).length = 8 + (p.flatMap Ck.b).length + (c.b.length + (r.flatMap Ck.b).length) := by rw [h.eq, List.length_append, List.flatMap_append, List.length_append, List.flatMap_cons, List.length_append, h8]; omega
 have hsz : S0.size = (xMd m).length := (by rw [← strl_length, hst])
 have hck := ck_len c; have hlb : LbOk c := cks_lb _ 0 md0 (h.ok []) c (List.mem_append_right _ List.mem_cons_self)
 have hS : StAt (xMd m) (8 + (p.flatMap Ck.b).length) c.b := by have := StAt.of (x := headB ++ p.flatMap Ck.b) (b := c.b) (y := r.flatMap Ck.b); rw [List.length_append, h8] at this; rw [h.eq, List.flatMap_append, List.flatMap_cons]; simpa [List.append_assoc] using this
 have hu := gU_lb hlb hS (by omega); rw [← hst] at hu; rw [strl_length, gU_from] at hu; have hb := hS; unfold Ck.b at hb; obtain ⟨s1, s2⟩ := hb.app; obtain ⟨s3, s4⟩ := s2.app; have hp := pad_len p; have hm := cks_many p; refine ⟨_, rfl, ?_, by omega, hlb.2, ?_, ?_, ?_, ?_⟩
 · rw [List.flatMap_append, List.length_append, List.flatMap_cons, List.flatMap_nil, List.append_nil]; omega
 · rw [mks_size, List.length_append, h8]; omega
 · intro n k hg; rw [hg] at hu; simp only at hu; split at hu
   · injection hu with hu
     injection hu with h1 h2
     omega
   · cases hu
 · cases hg : grp 5 (from_ S0 (8 + (p.flatMap Ck.b).length + 1)) with
   | none => rw [hg] at hu; cases hu
   | some q =>
     obtain ⟨n, k⟩ := q; rw [hg] at hu; simp only at hu; split at hu
     · rename_i hn; exact ⟨n, k, rfl, hn⟩
     · cases hu
 · have e1 : S0.extract (8 + (p.flatMap Ck.b).length) (8 + (p.flatMap Ck.b).length + 1) = mks [b1 (c.id : Int)] := by rw [← mks_strl (S0.extract _ _), strl_ext, hst]; have s1' : ((xMd m).drop (8 + (p.flatMap Ck.b).length)).take 1 = [b1 (c.id : Int)] := s1; rw [List.drop_take, Nat.add_sub_cancel_left, s1']
   have e2 : S0.extract (8 + (p.flatMap Ck.b).length + 1 + c.lb.length) (8 + (p.flatMap Ck.b).length + 1 + c.lb.length + c.c.length) = mks c.c := by rw [← mks_strl (S0.extract _ _), strl_ext, hst]; have s4' : ((xMd m).drop (8 + (p.flatMap Ck.b).length + 1 + c.lb.length)).take c.c.length = c.c := s4; rw [List.drop_take, Nat.add_sub_cancel_left, s4']
   rw [e1, e2, ← mks_append, ← mks_append, ← mks_append, List.map_append, List.flatMap_append, List.map_cons, List.map_nil, List.flatMap_cons, List.flatMap_nil, List.append_nil]; congr 1
theorem out_eq {lo s : Nat} {f f0 : Nat → Value} (h : Out lo s f f0) : f = ovv f0 f lo s := by
 funext t; unfold ovv; split
 · rfl
 · exact h.at_ t (by omega)
def PX (wr : World) (v1 v2 v3 v4 : ByteArray) : Nat → Value → World → Prop
 | 0, _, w' => w' = wr.drew
 | 1, v, w' => v = .string v1 ∧ Below wr.heap.size wr w'
 | 2, v, w' => v = .string v2 ∧ Below wr.heap.size wr w'
 | 3, v, w' => v = .string v3 ∧ Below wr.heap.size wr w'
 | _, v, w' => v = .string v4 ∧ Below wr.heap.size wr w'
set_option maxRecDepth 100000 in
set_option maxHeartbeats 4000000 in
theorem padw_any (m : Md) (hN : NOk m) (a0 : Option Addr) (k0 : Nat) (a1 : Option Addr) (k1 : Nat) (a2 : Option Addr) (k2 : Nat) (a3 : Option Addr) (k3 : Nat) (a4 : Option Addr) (k4 : Nat) (a5 : Option Addr) (k5 : Nat) (a6 : Option Addr) (k6 : Nat) (a7 : Option Addr) (k7 : Nat) (a8 : Option Addr) (k8 : Nat) (a9 : Option Addr) (k9 : Nat) (w : World) (h : MdAt w m a0 k0 a1 k1 a2 k2 a3 k3 a4 k4 a5 k5 a6 k6 a7 k7 a8 k8 a9 k9) (hT : TabU w) :
 Calls Tryz.prog 5 #[mdV m a0 k0 a1 k1 a2 k2 a3 k3 a4 k4 a5 k5 a6 k6 a7 k7 a8 k8 a9 k9] w fun e w' => e = .returned (.bool true) ∧ Below w.heap.size w w' := by
 have mx : Tryz.prog.follows .mixedOrders = true := (by kernel_rfl)
 have hBa : Below w.heap.size w (w.alloc (.cells #[.slice a0 m.types.length k0, .slice a1 m.imports.length k1, .slice a2 m.funcs.length k2, .slice a3 m.tables.length k3, .slice a4 m.mems.length k4, .slice a5 m.globals.length k5, .slice a6 m.exports.length k6, .slice a7 m.start.length k7, .slice a8 m.elems.length k8, .slice a9 m.datas.length k9] 33)) := (Below.refl _ _).alloc (Nat.le_refl _) _; have hKa : Bk (w.alloc (.cells #[.slice a0 m.types.length k0, .slice a1 m.imports.length k1, .slice a2 m.funcs.length k2, .slice a3 m.tables.length k3, .slice a4 m.mems.length k4, .slice a5 m.globals.length k5, .slice a6 m.exports.length k6, .slice a7 m.start.length k7, .slice a8 m.elems.length k8, .slice a9 m.datas.length k9] 33)) w.heap.size [.slice a0 m.types.length k0, .slice a1 m.imports.length k1, .slice a2 m.funcs.length k2, .slice a3 m.tables.length k3, .slice a4 m.mems.length k4, .slice a5 m.globals.length k5, .slice a6 m.exports.length k6, .slice a7 m.start.length k7, .slice a8 m.elems.length k8, .slice a9 m.datas.length k9] 33 := Bk.new w [.slice a0 m.types.length k0, .slice a1 m.imports.length k1, .slice a2 m.funcs.length k2, .slice a3 m.tables.length k3, .slice a4 m.mems.length k4, .slice a5 m.globals.length k5, .slice a6 m.exports.length k6, .slice a7 m.start.length k7, .slice a8 m.elems.length k8, .slice a9 m.datas.length k9] 33; obtain ⟨w1, hw1⟩ : ∃ w1, w1 = w.alloc (.cells #[.slice a0 m.types.length k0, .slice a1 m.imports.length k1, .slice a2 m.funcs.length k2, .slice a3 m.tables.length k3, .slice a4 m.mems.length k4, .slice a5 m.globals.length k5, .slice a6 m.exports.length k6, .slice a7 m.start.length k7, .slice a8 m.elems.length k8, .slice a9 m.datas.length k9] 33) := ⟨_, rfl⟩
 rw [← hw1] at hBa hKa; have HM1 := zh (h.keep (keep_below hBa)); have HT1 := zh (hT.below hBa); have hB1 := zh hBa; have hK1 := zh hKa; clear hBa hKa h hT; replace hN := zh hN; replace mx := zh mx; unfold mdV; go_enter Tryz.func5, Tryz.ntmps5
 go_upto_region 1 with (fail)
 rw [← hw1]; clear hw1; have x0 := hK1.out.cell (j := 0) rfl; have x1 := hK1.out.cell (j := 1) rfl; have x2 := hK1.out.cell (j := 2) rfl; have x3 := hK1.out.cell (j := 3) rfl; have x4 := hK1.out.cell (j := 4) rfl; have x5 := hK1.out.cell (j := 5) rfl; have x6 := hK1.out.cell (j := 6) rfl; have x7 := hK1.out.cell (j := 7) rfl; have x8 := hK1.out.cell (j := 8) rfl; have x9 := hK1.out.cell (j := 9) rfl; go_wp2_with fail; refine (large_any m a0 k0 a1 k1 a2 k2 a3 k3 a4 k4 a5 k5 a6 k6 a7 k7 a8 k8 a9 k9 w1 HM1.out).mono ?_; rintro e w2 ⟨L, rfl, hS, hb2⟩; replace hS := zh hS; clear x0 x1 x2 x3 x4 x5 x6 x7 x8 x9; have hB2 := zh (hB1.out.trans (hb2.mono hB1.out.size)); have HM2 := zh (HM1.out.keep (keep_below hb2)); have HT2 := zh (HT1.out.below hb2); have hK2 := zh (hK1.out.below hb2); clear hb2 HM1 hB1 HT1 hK1; cases L
 · have hS1 := zh (hS.out rfl); clear hS; have x0 := hK2.out.cell (j := 0) rfl; have x1 := hK2.out.cell (j := 1) rfl; have x2 := hK2.out.cell (j := 2) rfl; have x3 := hK2.out.cell (j := 3) rfl; have x4 := hK2.out.cell (j := 4) rfl; have x5 := hK2.out.cell (j := 5) rfl; have x6 := hK2.out.cell (j := 6) rfl; have x7 := hK2.out.cell (j := 7) rfl; have x8 := hK2.out.cell (j := 8) rfl; have x9 := hK2.out.cell (j := 9) rfl; go_wp2_with fail; refine (renc_any m a0 k0 a1 k1 a2 k2 a3 k3 a4 k4 a5 k5 a6 k6 a7 k7 a8 k8 a9 k9 w2 HM2.out (fun t ht => (hS1.out.datas t ht).1) (fit_of hN.out)).mono ?_; rintro e w3 ⟨rfl, hb3⟩; clear x0 x1 x2 x3 x4 x5 x6 x7 x8 x9; have hB3 := zh (hB2.out.trans (hb3.mono hB2.out.size)); have HM3 := zh (HM2.out.keep (keep_below hb3)); have HT3 := zh (HT2.out.below hb3); have hK3 := zh (hK2.out.below hb3); clear hb3 HM2 hB2 HT2 hK2; obtain ⟨E, hE⟩ : ∃ E, encE m = E := ⟨_, rfl⟩
   obtain ⟨S0, hS0⟩ : ∃ S0, mks (encB m) = S0 := ⟨_, rfl⟩
   rw [hE, hS0]
   by_cases hE0 : E = 0
   · subst hE0; obtain ⟨hcv, hlx, hex⟩ := encE_ok hE; rw [hex] at hS0; have hsz : S0.size = (xMd m).length := (by rw [← hS0, mks_size])
     have hst : strl S0 = xMd m := (by rw [← hS0, strl_mks])
     clear hE hex hS0
     by_cases h2 : (xMd m).length ≤ 20000
     · have h2' : ¬ (20000 : Int) < (S0.size : Int) := (by omega)
       have hck := zh (cks_md hcv (nm_of hN.out) hlx); clear hcv hlx; obtain ⟨cks, hcks⟩ : ∃ cks, cks = cksOf m 0 (scs m) := ⟨_, rfl⟩
       rw [← hcks] at hck; clear hcks; have hL0 : S0.size = 8 + (cks.flatMap Ck.b).length := (by rw [hsz, hck.out.eq, List.length_append]; rfl)
       have h8 : (8 : Int) ≤ (S0.size : Int) := (by omega)
       have h26 : S0.size ≤ 262144 := (by omega)
       have ht0 : S0.extract 0 8 = mks (headB ++ (([] : List Ck).map Ck.pad).flatMap Ck.b) := by rw [← mks_strl (S0.extract 0 8), strl_ext, hst, hck.out.eq, List.drop_zero, List.take_append_of_le_length (by show 8 ≤ 8; omega)]; rfl
       replace hst := zh hst; replace hsz := zh hsz; replace h2 := zh h2; replace hL0 := zh hL0; replace h26 := zh h26; replace ht0 := zh ht0; go_wp2_with fail; rw [ht0.out]; clear ht0 h8; go_loopw [5, 6] (fun v5 v6 wr => ∃ (p q : List Ck) (a : Nat), cks = p ++ q ∧ Hid (a = 8 + (p.flatMap Ck.b).length) ∧ v6 = .int .i64 (a : Int) ∧ v5 = .string (mks (headB ++ (p.map Ck.pad).flatMap Ck.b)) ∧ Hid (Below w3.heap.size w3 wr)) (fun v5 v6 _ => S0.size - (intOf v6).toNat)
       case atStart => exact ⟨[], cks, 8, rfl, zh rfl, rfl, rfl, zh (Below.refl _ _)⟩
       case' round =>
        obtain ⟨p, q, a, hpq, ha, rfl, rfl, hbr⟩ := hrel; have haL : Hid (a + (q.flatMap Ck.b).length = S0.size) := zh (by rw [hL0.out, ha.out, hpq, List.flatMap_append, List.length_append]; omega); cases q with
        | nil => ?_
        | cons c r => ?_
       case round.cons =>
        rw [hpq] at hck; obtain ⟨a', ha', hr1, hr2, hr3, hr4, hr5, hr6, hr7⟩ := pad_round hck.out h2.out hst.out; rw [← ha.out] at ha'; obtain rfl : a = a' := ha'.symm; have hlt : (a : Int) < (S0.size : Int) := (by omega)
        have hwa : IntKind.i64.wrap ((a : Int) + 1) = ((a + 1 : Nat) : Int) := (wid64 _ (by omega) (by have := h26.out; omega)).trans (by omega); replace hr5 := zh hr5; replace hr6 := zh hr6; replace hr7 := zh hr7; replace hr1 := zh hr1; go_wp2_with fail; refine (rU_any S0 h26.out (a + 1) (by omega) wr).mono ?_; rintro e w4 ⟨hR, rfl⟩
        rcases hR with ⟨n, k, hg, hn, rfl⟩ | ⟨hbad, rfl⟩
        case inr => exfalso; obtain ⟨n, k, hg, hn⟩ := hr6.out; exact absurd hn (by simpa using hbad n k hg)
        obtain ⟨rfl, rfl⟩ := hr5.out n k hg; clear hr5 hr6 hg
        go_upto_region 12 with (fail)
        obtain ⟨nn, hnn⟩ : ∃ nn, c.c.length = nn := ⟨_, rfl⟩
        obtain ⟨b, hb⟩ : ∃ b, a + 1 + c.lb.length = b := ⟨_, rfl⟩
        have hbI : (a : Int) + 1 + (c.lb.length : Int) = (b : Int) := (by omega)
        rw [hbI, hnn]; replace hr7 := hr7.out; replace hr1 := hr1.out; rw [hb, hnn] at hr1 hr2 hr7; rw [hnn] at hr3; have hba : a < b := (by omega)
        clear hbI hb hnn hn; obtain ⟨T0, hT0⟩ : ∃ T0, mks (headB ++ (p.map Ck.pad).flatMap Ck.b) = T0 := ⟨_, rfl⟩
        obtain ⟨T1, hT1⟩ : ∃ T1, mks (headB ++ ((p ++ [c]).map Ck.pad).flatMap Ck.b) = T1 := ⟨_, rfl⟩
        rw [hT0] at hr4 hr7 ⊢; rw [hT1] at hr7; replace hT1 := zh hT1; clear hT0; have hbz : b ≤ S0.size := (by omega)
        have q0 : (S0.extract a (a + 1)).size ≤ 262144 := (by rw [ByteArray.size_extract]; have := h26.out; omega)
        have q1 : (mks (padB nn)).size = 5 := rfl; have q2 : (S0.extract b (b + nn)).size ≤ 262144 := (by rw [ByteArray.size_extract]; have := h26.out; omega)
        have q3 : (S0.extract a (a + 1) ++ mks (padB nn)).size ≤ 262149 := (by rw [ByteArray.size_append]; omega)
        have q4 : (S0.extract a (a + 1) ++ mks (padB nn) ++ S0.extract b (b + nn)).size ≤ 524293 := (by rw [ByteArray.size_append]; omega)
        have i1 : ((a + 1 : Nat) : Int) ≤ (S0.size : Int) := (by omega)
        have i2 : ((b + nn : Nat) : Int) ≤ (S0.size : Int) := (by omega)
        have i3 : ¬ ((a + 1 : Nat) : Int) < (a : Int) := (by omega)
        have i4 : ¬ ((b + nn : Nat) : Int) < (b : Int) := (by omega)
        have i5 : ¬ (a : Int) < 0 := (by omega)
        have i6 : ¬ (b : Int) < 0 := (by omega)
        have wb : IntKind.i64.wrap ((b : Int) + (nn : Int)) = ((b + nn : Nat) : Int) := (wid64 _ (by omega) (by have := h26.out; omega)).trans (by omega); have u1 : ∀ w, (Instr.slice 9 (.string S0) (some (.int .i64 (a : Int))) (some (.int .i64 ((a : Int) + 1))) none).run Tryz.prog w = .ok (.string (S0.extract a (a + 1))) w := fun w => run_slice_string w 9 S0 .i64 .i64 (a : Int) ((a : Int) + 1) Tryz.underlying9 (by omega) (by omega) (by omega); have u2 : ∀ w, (Instr.slice 9 (.string S0) (some (.int .i64 (b : Int))) (some (.int .i64 ((b : Int) + (nn : Int)))) none).run Tryz.prog w = .ok (.string (S0.extract b (b + nn))) w := fun w => run_slice_string w 9 S0 .i64 .i64 (b : Int) ((b : Int) + (nn : Int)) Tryz.underlying9 (by omega) (by omega) (by omega); replace hr1 := zh hr1; have wn : IntKind.i64.wrap (nn : Int) = (nn : Int) := wid64 _ (by omega) (by omega); refine wpv_then ?_; intro K hK
        go_cut [5] from 44 to 62 (fun sv wx => sv = .string T1 ∧ Hid (Below w4.heap.size w4 wx))
        case first =>
         refine wp_fv _ 82 rfl (region_steps mx.out 82 44 19 4 [.string T0, .string S0, .int .i64 a, .int .i64 a, .int .i64 ((a + 1 : Nat) : Int), .string (S0.extract a (a + 1)), .int .u64 nn, .int .i64 nn, undef, undef, .string S0, .int .i64 b, .int .i64 b, .int .u64 nn, .int .i64 nn, .int .i64 ((b + nn : Nat) : Int), .string (S0.extract b (b + nn)), undef, undef] [8, 9, 17, 18, 19] rfl (by kernel_rfl) (by kernel_rfl) (by kernel_rfl) rfl (by kernel_rfl) (PX w4 (mks (padB nn)) (S0.extract a (a + 1) ++ mks (padB nn)) (S0.extract a (a + 1) ++ mks (padB nn) ++ S0.extract b (b + nn)) T1) rfl ?_)
         iterate 19 ((first | refine .quiet rfl rfl ?_ ?_ | refine .chain rfl rfl ?_ ?_); rotate_left)
         refine .last rfl rfl ?_
         any_goals
          intro k' v' f w' hX ho hv K' hK'; clear hX; simp [NeedsC, Region.binds] at hv; have e3 : f 3 = .string S0 := ho.at_ 3 (by decide); have e5 : f 5 = .string T0 := ho.at_ 5 (by decide); have e6 : f 6 = .int .i64 a := ho.at_ 6 (by decide); have e7 : f 7 = .int .u64 nn := ho.at_ 7 (by decide); have e8 : f 8 = .int .i64 b := ho.at_ 8 (by decide); clear ho; go_simp; (try simp (disch := decide) only [fv_t, hv, e3, e5, e6, e7, e8]); (try go_simp); (try simp only [wb, wn, hwa, u1, u2, if_pos i1, if_pos i2, if_neg i3, if_neg i4, if_neg i5, if_neg i6]); (try go_simp); first | exact hK' _ _ ⟨fv_set _ _, rfl⟩ | trace_state
         · intro v' f w' hX hpv ho hv K' hK'; obtain ⟨rfl, hB⟩ := hX; have z0 : f 62 = .string T1 := hpv; go_simp; (try simp (disch := decide) only [fv_t, z0]); (try go_simp); refine hK' _ _ ?_; rw [show Fv 82 f = Fv 82 (ovv _ f 44 19) from congrArg _ (out_eq ho)]; clear hpv ho hv z0; go_wp2_with fail; go_meet; exact ⟨rfl, zh hB⟩
         · intro v' f w' hX hpv ho hv K' hK'; obtain rfl : w' = w4.drew := hX; simp [NeedsC, Region.binds] at hv; go_simp; (try simp (disch := decide) only [fv_t, hv]); (try go_simp)
           go_at_call 20
           refine (padded_any nn hr3 _).mono ?_; rintro e w5 ⟨rfl, hB⟩; go_simp; exact hK' _ _ ⟨_, fv_set _ _, rfl, ((Below.refl _ _).drew).trans hB⟩
         all_goals
          intro v' f w' hX hpv ho hv K' hK'; obtain ⟨rfl, hB⟩ := hX; simp [NeedsC, Region.binds] at hv; simp only [Prev, Nat.reduceAdd] at hpv; go_simp; (try simp (disch := decide) only [fv_t, hv, hpv]); (try go_simp); rw [if_neg (by simp only [ByteArray.size_append] at *; omega)]; (try go_simp)
          first
           | exact hK' _ _ ⟨_, fv_set _ _, rfl, hB⟩
           | (rw [hr7]; exact hK' _ _ ⟨_, fv_set _ _, rfl, hB⟩)
           | trace_state
        case' rest =>
         obtain ⟨rfl, hbx⟩ := hcut
        refine (hK _ _).2 ?_; clear hK u1 u2 q0 q1 q2 q3 q4 i1 i2 i3 i4 i5 i6 hwa hr4 hr7; have hbb := zh (hbr.out.trans (hbx.out.mono hbr.out.size)); have wb2 : IntKind.i64.wrap ((b : Int) + (nn : Int)) = (b : Int) + (nn : Int) := (by rw [wb]; omega)
        clear hbx hbr wb; go_wp2_with fail
        go_roundw
        case rel =>
         (repeat apply Exists.intro)
         exact ⟨⟨p ++ [c], r, b + nn, by rw [hpq]; simp, zh hr1.out, rfl, by rw [hT1.out], hbb⟩, rfl⟩
        case measure => simp [intOf]; omega
       case round.nil =>
        have haz : ¬ (a : Int) < (S0.size : Int) := (by have := haL.out; simp at this; omega)
        rw [List.append_nil] at hpq; subst hpq; have hgT : gModule (strl (mks (headB ++ (cks.map Ck.pad).flatMap Ck.b))) = .ok m := padded_plain hck.out h2.out; obtain ⟨T, hTT⟩ : ∃ T, mks (headB ++ (cks.map Ck.pad).flatMap Ck.b) = T := ⟨_, rfl⟩
        rw [hTT] at hgT ⊢; clear hTT haL ha hck; replace hgT := zh hgT; have hb4 := hbr.out; clear hbr; have hB4 := zh (hB3.out.trans (hb4.mono hB3.out.size)); have HM4 := zh (HM3.out.keep (keep_below hb4)); have HT4 := zh (HT3.out.below hb4); have hK4 := zh (hK3.out.below hb4); clear hb4 HM3 hB3 HT3 hK3; go_wp2_with fail; refine (dec_any (s := T) HT4.out).mono ?_; rintro e w5 ⟨hb5, hV⟩; obtain ⟨v, rfl⟩ := decs_ret (decS_of hV); obtain ⟨b0, b1, b2, b3, b4, b5, b6, b7, b8, b9, r0, r1, r2, r3, r4, r5, r6, r7, r8, r9, rfl, hM⟩ := rd_of (decS_of hV) (.inl ⟨hgT.out, rfl⟩); clear hV hgT; unfold mdV; have hA : Below w5.heap.size w5 (w5.alloc (.cells #[.slice b0 m.types.length r0, .slice b1 m.imports.length r1, .slice b2 m.funcs.length r2, .slice b3 m.tables.length r3, .slice b4 m.mems.length r4, .slice b5 m.globals.length r5, .slice b6 m.exports.length r6, .slice b7 m.start.length r7, .slice b8 m.elems.length r8, .slice b9 m.datas.length r9] 33)) := (Below.refl _ _).alloc (Nat.le_refl _) _; have hMS := zh (hM.keep (keep_below hA)); have hKp := zh (Bk.new w5 [.slice b0 m.types.length r0, .slice b1 m.imports.length r1, .slice b2 m.funcs.length r2, .slice b3 m.tables.length r3, .slice b4 m.mems.length r4, .slice b5 m.globals.length r5, .slice b6 m.exports.length r6, .slice b7 m.start.length r7, .slice b8 m.elems.length r8, .slice b9 m.datas.length r9] 33); clear hM; have hb6 := hb5.trans (hA.mono hb5.size); clear hb5 hA; have hB6 := zh (hB4.out.trans (hb6.mono hB4.out.size))
        have HM6 := zh (HM4.out.keep (keep_below hb6)); have HT6 := zh (HT4.out.below hb6); have hK6 := zh (hK4.out.below hb6); clear hb6 HM4 hB4 HT4 hK4
        go_upto_region 15 with (fail)
        obtain ⟨w6, hw6⟩ : ∃ w6, w6 = w5.alloc (.cells #[.slice b0 m.types.length r0, .slice b1 m.imports.length r1, .slice b2 m.funcs.length r2, .slice b3 m.tables.length r3, .slice b4 m.mems.length r4, .slice b5 m.globals.length r5, .slice b6 m.exports.length r6, .slice b7 m.start.length r7, .slice b8 m.elems.length r8, .slice b9 m.datas.length r9] 33) := ⟨_, rfl⟩
        rw [← hw6] at hMS HM6 HT6 hB6 hK6 ⊢; rw [show w5.alloc (.cells [.slice b0 m.types.length r0, .slice b1 m.imports.length r1, .slice b2 m.funcs.length r2, .slice b3 m.tables.length r3, .slice b4 m.mems.length r4, .slice b5 m.globals.length r5, .slice b6 m.exports.length r6, .slice b7 m.start.length r7, .slice b8 m.elems.length r8, .slice b9 m.datas.length r9].toArray 33) = w6 from hw6.symm] at hKp; obtain ⟨x, hx⟩ : ∃ x, w5.heap.size = x := ⟨_, rfl⟩
        rw [hx] at hKp ⊢; clear hw6 hx; have x0 := hK6.out.cell (j := 0) rfl; have x1 := hK6.out.cell (j := 1) rfl; have x2 := hK6.out.cell (j := 2) rfl; have x3 := hK6.out.cell (j := 3) rfl; have x4 := hK6.out.cell (j := 4) rfl; have x5 := hK6.out.cell (j := 5) rfl; have x6 := hK6.out.cell (j := 6) rfl; have x7 := hK6.out.cell (j := 7) rfl; have x8 := hK6.out.cell (j := 8) rfl; have x9 := hK6.out.cell (j := 9) rfl; have z0 := hKp.out.cell (j := 0) rfl; have z1 := hKp.out.cell (j := 1) rfl; have z2 := hKp.out.cell (j := 2) rfl; have z3 := hKp.out.cell (j := 3) rfl; have z4 := hKp.out.cell (j := 4) rfl; have z5 := hKp.out.cell (j := 5) rfl; have z6 := hKp.out.cell (j := 6) rfl; have z7 := hKp.out.cell (j := 7) rfl; have z8 := hKp.out.cell (j := 8) rfl; have z9 := hKp.out.cell (j := 9) rfl; go_wp2_with fail; refine (same_true m a0 k0 a1 k1 a2 k2 a3 k3 a4 k4 a5 k5 a6 k6 a7 k7 a8 k8 a9 k9 b0 r0 b1 r1 b2 r2 b3 r3 b4 r4 b5 r5 b6 r6 b7 r7 b8 r8 b9 r9 _ HM6.out.s hMS.out).mono ?_; rintro e w7 ⟨rfl, hb7⟩; clear x0 x1 x2 x3 x4 x5 x6 x7 x8 x9; clear z0 z1 z2 z3 z4 z5 z6 z7 z8 z9; have hB7 := zh (hB6.out.trans (hb7.mono hB6.out.size)); have HM7 := zh (HM6.out.keep (keep_below hb7)); have HT7 := zh (HT6.out.below hb7); have hK7 := zh (hK6.out.below hb7); clear hb7 HM6 hB6 HT6 hK6; go_wp2_with fail; refine (wakes_any HT7.out).mono ?_; rintro e wz ⟨rfl, hbz⟩; have hBz := zh (hB7.out.trans (hbz.mono hB7.out.size)); clear hbz; go_wp2_with fail; go_ret; exact ⟨rfl, hBz.out⟩
     · have h2' : (20000 : Int) < (S0.size : Int) := (by omega)
       clear hcv hlx hsz hst hS1; go_wp2_with fail; refine (wakes_any HT3.out).mono ?_; rintro e wz ⟨rfl, hbz⟩; have hBz := zh (hB3.out.trans (hbz.mono hB3.out.size)); clear hbz; go_wp2_with fail; go_ret; exact ⟨rfl, hBz.out⟩
   · have hz : (E != 0) = true := (by simpa using hE0)
     clear hE hS0; go_wp2_with fail; refine (wakes_any HT3.out).mono ?_; rintro e wz ⟨rfl, hbz⟩; have hBz := zh (hB3.out.trans (hbz.mono hB3.out.size)); clear hbz; go_wp2_with fail; go_ret; exact ⟨rfl, hBz.out⟩
 · go_wp2_with fail; refine (wakes_any HT2.out).mono ?_; rintro e wz ⟨rfl, hbz⟩; have hBz := zh (hB2.out.trans (hbz.mono hB2.out.size)); clear hbz; go_wp2_with fail; go_ret; exact ⟨rfl, hBz.out⟩
end Go.Proofs.YtkbfjkbokifgkaaGreatDoor
namespace Go.Proofs.YtkbfjkbokifgkaaGreatDoor
open Go.ChangeShapes Go.WideShapes Go.ChangeAt Go.RowKit
set_option linter.unusedVariables false
set_option maxRecDepth 100000
theorem padded_walk {H : Type} {enc : TypeId × Value → H} (W : World) (base : Nat) (hT : TabU W)
 (v0 : Value) (d0 : DataW H) (p0 : List MemPlace) (o0 : Value.okWide Tryz.prog W .any base 33 v0) (h0 : DataW.Trod enc Tryz.prog W 0 (fun _ => true) true 33 v0 d0 p0) :
 Calls Tryz.prog 5 #[v0] W fun e W' => e = .returned (.bool true) ∧ Below W.heap.size W W' := by
 obtain ⟨m, a0, k0, a1, k1, a2, k2, a3, k3, a4, k4, a5, k5, a6, k6, a7, k7, a8, k8, a9, k9, rfl, h, n1, n2, n3, n4⟩ := open_module o0 h0; exact padw_any m ⟨n1, n2, n3, n4⟩ a0 k0 a1 k1 a2 k2 a3 k3 a4 k4 a5 k5 a6 k6 a7 k7 a8 k8 a9 k9 W h hT
end Go.Proofs.YtkbfjkbokifgkaaGreatDoor
