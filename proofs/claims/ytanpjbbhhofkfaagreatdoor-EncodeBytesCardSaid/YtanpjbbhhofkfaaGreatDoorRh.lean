/- Rh -/
import Derived.Test.YtanpjbbhhofkfaaGreatDoorOa
import Derived.Test.YtanpjbbhhofkfaaGreatDoorRg
namespace Go.Proofs.YtanpjbbhhofkfaaGreatDoor
open Go.RowKit
set_option linter.unusedVariables false
set_option linter.unusedSimpArgs false
set_option maxRecDepth 100000
set_option maxHeartbeats 4000000
theorem cntF_neg : ∀ fs, cntF fs (-1) = -1
 | [] => rfl
 | f :: r => by
   show (if cnt f.2.2 (-1) < 0 then cnt f.2.2 (-1) else cntF r (cnt f.2.2 (-1))) = -1
   rw [cnt_neg]; rfl
theorem cntF_step (f : Int × List Int × Il) (r : List (Int × List Int × Il)) (L : Int) (h : -1 ≤ cnt f.2.2 L) : cntF (f :: r) L = cntF r (cnt f.2.2 L) := by
 show (if cnt f.2.2 L < 0 then cnt f.2.2 L else cntF r (cnt f.2.2 L)) = _
 by_cases h0 : cnt f.2.2 L < 0
 · rw [if_pos h0, show cnt f.2.2 L = -1 by omega, cntF_neg]
 · rw [if_neg h0]
theorem rcountM_any (m : Md) (a0 : Option Addr) (k0 : Nat) (a1 : Option Addr) (k1 : Nat) (a2 : Option Addr) (k2 : Nat) (a3 : Option Addr) (k3 : Nat) (a4 : Option Addr) (k4 : Nat) (a5 : Option Addr) (k5 : Nat) (a6 : Option Addr) (k6 : Nat) (a7 : Option Addr) (k7 : Nat) (a8 : Option Addr) (k8 : Nat) (a9 : Option Addr) (k9 : Nat) (w : World) (h : MdAt w m a0 k0 a1 k1 a2 k2 a3 k3 a4 k4 a5 k5 a6 k6 a7 k7 a8 k8 a9 k9) :
 Calls Tryz.prog 49 #[mdV m a0 k0 a1 k1 a2 k2 a3 k3 a4 k4 a5 k5 a6 k6 a7 k7 a8 k8 a9 k9] w fun e w' => e = .returned (.int .i64 (65536 - cntF m.funcs 65536)) ∧ Below w.heap.size w w' := by
 have HM := zh (h.keep (keep_below ((Below.refl w.heap.size w).alloc (Nat.le_refl _) (.cells (mdA m a0 k0 a1 k1 a2 k2 a3 k3 a4 k4 a5 k5 a6 k6 a7 k7 a8 k8 a9 k9) 32)))); have n2 := h.funcs.1; have hB0 : Hid (Below w.heap.size w (w.alloc (.cells (mdA m a0 k0 a1 k1 a2 k2 a3 k3 a4 k4 a5 k5 a6 k6 a7 k7 a8 k8 a9 k9) 32))) := zh ((Below.refl _ _).alloc (Nat.le_refl _) _); obtain ⟨X, hX⟩ : ∃ X, cntF m.funcs 65536 = X := ⟨_, rfl⟩
 rw [hX]; have hX0 : Hid (X = cntF (m.funcs.drop 0) 65536) := zh hX.symm; clear hX; clear h; unfold mdV; go_enter Tryz.func49, Tryz.ntmps49; go_wp2_with fail; obtain ⟨w0, hw0⟩ : ∃ w0, w0 = (w.alloc (.cells (mdA m a0 k0 a1 k1 a2 k2 a3 k3 a4 k4 a5 k5 a6 k6 a7 k7 a8 k8 a9 k9) 32)) := ⟨_, rfl⟩
 rw [← hw0]; rw [← hw0] at HM hB0; have hs0 : w.heap.size ≤ w0.heap.size := hB0.out.size; have y2 : Hid (w0.cell? ⟨w.heap.size, 2, none⟩ = some (.slice a2 m.funcs.length k2)) := zh (by rw [hw0]; exact World.cell?_alloc_at _ _ _ _ rfl); have hb : Hid (Below w0.heap.size w0 w0) := zh (Below.refl _ _); clear hw0; go_loopw [3, 4] (fun vn vi wr => ∃ (i : Nat) (n L : Int), i ≤ m.funcs.length ∧ vi = .int .i64 i ∧ vn = .int .i64 n ∧ n + L = 65536 ∧ -1 ≤ L ∧ L ≤ 65536 ∧ Hid (X = cntF (m.funcs.drop i) L) ∧ Hid (Below w0.heap.size w0 wr)) (fun _ vi _ => m.funcs.length - (intOf vi).toNat)
 case atStart => exact ⟨0, 0, 65536, Nat.zero_le _, rfl, rfl, by omega, by omega, by omega, hX0, hb⟩
 case round =>
  clear hX0 hb; obtain ⟨i, n, L, hi, rfl, rfl, hnL, hL0, hL1, hc, hb⟩ := hrel; have x2 : wr.cell? ⟨w.heap.size, 2, none⟩ = some (.slice a2 m.funcs.length k2) := keep_below hb.out _ _ y2.out
  by_cases hneg : L = -1
  · have hv : X = -1 := (by rw [hc.out, hneg, cntF_neg])
    have hn7 : n = 65537 := (by omega)
    subst hn7; clear hc
    by_cases hiN : i < m.funcs.length
    · go_wp2; go_ret; exact ⟨by rw [hv]; rfl, hB0.out.trans (hb.out.mono hs0)⟩
    · go_wp2; go_ret; exact ⟨by rw [hv]; rfl, hB0.out.trans (hb.out.mono hs0)⟩
  by_cases hlt : i < m.funcs.length
  · obtain ⟨f, hf⟩ : ∃ f, m.funcs[i]? = some f := ⟨_, List.getElem?_eq_getElem hlt⟩
    obtain ⟨b, o, e, hrow⟩ := (HM.out.funcs.keep fun _ _ _ => FuncAt.keep (keep_below hb.out)).row hf; subst e; obtain ⟨c0, ⟨a1', k1', c1, _⟩, ⟨a2', k2', c2, l2, i2⟩⟩ := hrow; have hd := drop_at hf; have hbd := cnt_bd f.2.2 L (by omega); have hc2 : Hid (X = cntF (m.funcs.drop (i + 1)) (cnt f.2.2 L)) := zh (by rw [hc.out, hd]; exact cntF_step f _ L hbd.1); have hcb := zh (rcount_any f.2.2 a2' k2' wr n L l2 i2 hnL hL0 hL1); clear hd hc hf i2 c0 c1
    generalize hY : cnt f.2.2 L = Y at *
    clear hY; go_wp2_with fail; refine hcb.out.mono ?_; rintro e w2 ⟨rfl, mm, hmm⟩; have hb2 : Hid (Below w0.heap.size w0 w2) := zh (by rw [hmm]; exact below_drewN hb.out mm); clear hmm; go_wp2; exact ⟨⟨i + 1, 65536 - Y, Y, by omega, by simp, rfl, by omega, by omega, by omega, hc2, hb2⟩, by simp [intOf]; omega⟩
  · have hiN : i = m.funcs.length := (by omega)
    have hv : 65536 - X = min n 65537 := (by rw [hc.out, hiN, List.drop_length]; show 65536 - L = _; omega)
    clear hc; go_wp2; go_ret; exact ⟨by rw [hv]; rfl, hB0.out.trans (hb.out.mono hs0)⟩
def labF (t : Int × List Int × Il) : Bool := lab t.2.2
def flatF (t : Int × List Int × Il) : Bool := flatB t.2.2 0
theorem flatM_F (m : Md) : flatM m = m.funcs.all flatF := rfl
theorem all_and {α : Type} (f g h : α → Bool) (hf : ∀ x, f x = (g x && h x)) : ∀ l : List α, l.all f = (l.all g && l.all h)
 | [] => rfl
 | a :: l => by
   rw [List.all_cons, List.all_cons, List.all_cons, all_and f g h hf l, hf]; cases g a <;> cases h a <;> cases l.all g <;> cases l.all h <;> rfl
theorem few_eq (m : Md) : fewB m = (manyOk m && (decide (65536 - cntF m.funcs 65536 ≤ 65536) && m.funcs.all labF)) := by
 have h5 : few5 m = (mo4 m && m.funcs.all labF) := all_and funFew locFew labF (fun t => rfl) m.funcs
 show ((lens m).all le4 && (decide ((m.start.length : Int) ≤ 1) && (m.types.all typFew && (m.elems.all elmFew && (dataFit m.datas 262144 && (decide (65536 - cntF m.funcs 65536 ≤ 65536) && few5 m)))))) =
  (((lens m).all le4 && (decide ((m.start.length : Int) ≤ 1) && (m.types.all typFew && (m.elems.all elmFew && (dataFit m.datas 262144 && mo4 m))))) && (decide (65536 - cntF m.funcs 65536 ≤ 65536) && m.funcs.all labF))
 rw [h5]; cases (lens m).all le4 <;> cases decide ((m.start.length : Int) ≤ 1) <;> cases m.types.all typFew <;> cases m.elems.all elmFew <;> cases dataFit m.datas 262144 <;> cases mo4 m <;> cases decide (65536 - cntF m.funcs 65536 ≤ 65536) <;> cases m.funcs.all labF <;> rfl
theorem shape_eq (m : Md) : rshapeB m = shapedB m := by
 have hi : m.imports.all impR = m.imports.all impS := by
  congr 1; funext t
  show (idx1 t.2.2 && (nameB t.1 && nameB t.2.1)) = (nameB t.1 && (nameB t.2.1 && idx1 t.2.2))
  cases idx1 t.2.2 <;> cases nameB t.1 <;> cases nameB t.2.1 <;> rfl
 show (m.types.all typS && (m.imports.all impR && (m.funcs.all funS && (m.globals.all gloS && (m.exports.all expS && (m.elems.all elmS && (m.datas.all datS && (m.tables.all lim1 && (m.mems.all lim1 && m.start.all idx1))))))))) =
  (m.types.all typS && (m.imports.all impS && (m.tables.all lim1 && (m.mems.all lim1 && (m.globals.all gloS && (m.exports.all expS && (m.start.all idx1 && (m.elems.all elmS && (m.datas.all datS && m.funcs.all funS)))))))))
 rw [hi]; cases m.types.all typS <;> cases m.imports.all impS <;> cases m.funcs.all funS <;> cases m.globals.all gloS <;> cases m.exports.all expS <;> cases m.elems.all elmS <;> cases m.datas.all datS <;> cases m.tables.all lim1 <;> cases m.mems.all lim1 <;> cases m.start.all idx1 <;> rfl
theorem ck_many {m : Md} (h : manyOk m = false) : checkV m = 3 := by unfold checkV; rw [few_eq, h]; rfl
theorem ck_count {m : Md} (h : ¬ 65536 - cntF m.funcs 65536 ≤ 65536) : checkV m = 3 := by unfold checkV; rw [few_eq, decide_eq_false h, Bool.false_and, Bool.and_false]; rfl
theorem ck_lab {m : Md} (h : m.funcs.all labF = false) : checkV m = 3 := by unfold checkV; rw [few_eq, h, Bool.and_false, Bool.and_false]; rfl
theorem ck_few {m : Md} (h1 : manyOk m = true) (h2 : 65536 - cntF m.funcs 65536 ≤ 65536) (h3 : m.funcs.all labF = true) : checkV m = if m.funcs.all flatF = false then 4 else if rshapeB m = false then 30 else 0 := by unfold checkV; rw [few_eq, h1, decide_eq_true h2, h3, flatM_F, shape_eq]; rfl
theorem rcheck_any (m : Md) (a0 : Option Addr) (k0 : Nat) (a1 : Option Addr) (k1 : Nat) (a2 : Option Addr) (k2 : Nat) (a3 : Option Addr) (k3 : Nat) (a4 : Option Addr) (k4 : Nat) (a5 : Option Addr) (k5 : Nat) (a6 : Option Addr) (k6 : Nat) (a7 : Option Addr) (k7 : Nat) (a8 : Option Addr) (k8 : Nat) (a9 : Option Addr) (k9 : Nat) (w : World) (h : MdAt w m a0 k0 a1 k1 a2 k2 a3 k3 a4 k4 a5 k5 a6 k6 a7 k7 a8 k8 a9 k9) (hds : ∀ t ∈ m.datas, t.2.size ≤ 300000) :
 Calls Tryz.prog 29 #[mdV m a0 k0 a1 k1 a2 k2 a3 k3 a4 k4 a5 k5 a6 k6 a7 k7 a8 k8 a9 k9] w fun e w' => e = .returned (.int .i64 (checkV m)) ∧ Below w.heap.size w w' := by
 have HM := zh (h.keep (keep_below ((Below.refl w.heap.size w).alloc (Nat.le_refl _) (.cells (mdA m a0 k0 a1 k1 a2 k2 a3 k3 a4 k4 a5 k5 a6 k6 a7 k7 a8 k8 a9 k9) 32)))); have n0 := h.types.1; have n1 := h.imports.1; have n2 := h.funcs.1; have n3 := h.tables.1; have n4 := h.mems.1; have n5 := h.globals.1; have n6 := h.exports.1; have n7 := h.start.1; have n8 := h.elems.1; have n9 := h.datas.1; have hB0 : Hid (Below w.heap.size w (w.alloc (.cells (mdA m a0 k0 a1 k1 a2 k2 a3 k3 a4 k4 a5 k5 a6 k6 a7 k7 a8 k8 a9 k9) 32))) := zh ((Below.refl _ _).alloc (Nat.le_refl _) _); clear h; unfold mdV; go_enter Tryz.func29, Tryz.ntmps29
 go_upto_region 1 with fail
 obtain ⟨w0, hw0⟩ : ∃ w0, w0 = (w.alloc (.cells (mdA m a0 k0 a1 k1 a2 k2 a3 k3 a4 k4 a5 k5 a6 k6 a7 k7 a8 k8 a9 k9) 32)) := ⟨_, rfl⟩
 rw [← hw0]; rw [← hw0] at HM hB0; have hs0 : w.heap.size ≤ w0.heap.size := hB0.out.size; have y0 : Hid (w0.cell? ⟨w.heap.size, 0, none⟩ = some (.slice a0 m.types.length k0)) := zh (by rw [hw0]; exact World.cell?_alloc_at _ _ _ _ rfl); have y1 : Hid (w0.cell? ⟨w.heap.size, 1, none⟩ = some (.slice a1 m.imports.length k1)) := zh (by rw [hw0]; exact World.cell?_alloc_at _ _ _ _ rfl); have y2 : Hid (w0.cell? ⟨w.heap.size, 2, none⟩ = some (.slice a2 m.funcs.length k2)) := zh (by rw [hw0]; exact World.cell?_alloc_at _ _ _ _ rfl); have y3 : Hid (w0.cell? ⟨w.heap.size, 3, none⟩ = some (.slice a3 m.tables.length k3)) := zh (by rw [hw0]; exact World.cell?_alloc_at _ _ _ _ rfl); have y4 : Hid (w0.cell? ⟨w.heap.size, 4, none⟩ = some (.slice a4 m.mems.length k4)) := zh (by rw [hw0]; exact World.cell?_alloc_at _ _ _ _ rfl); have y5 : Hid (w0.cell? ⟨w.heap.size, 5, none⟩ = some (.slice a5 m.globals.length k5)) := zh (by rw [hw0]; exact World.cell?_alloc_at _ _ _ _ rfl); have y6 : Hid (w0.cell? ⟨w.heap.size, 6, none⟩ = some (.slice a6 m.exports.length k6)) := zh (by rw [hw0]; exact World.cell?_alloc_at _ _ _ _ rfl); have y7 : Hid (w0.cell? ⟨w.heap.size, 7, none⟩ = some (.slice a7 m.start.length k7)) := zh (by rw [hw0]; exact World.cell?_alloc_at _ _ _ _ rfl); have y8 : Hid (w0.cell? ⟨w.heap.size, 8, none⟩ = some (.slice a8 m.elems.length k8)) := zh (by rw [hw0]; exact World.cell?_alloc_at _ _ _ _ rfl); have y9 : Hid (w0.cell? ⟨w.heap.size, 9, none⟩ = some (.slice a9 m.datas.length k9)) := zh (by rw [hw0]; exact World.cell?_alloc_at _ _ _ _ rfl)
 have hb : Hid (Below w0.heap.size w0 w0) := zh (Below.refl _ _); clear hw0; have x0 : w0.cell? ⟨w.heap.size, 0, none⟩ = some (.slice a0 m.types.length k0) := keep_below hb.out _ _ y0.out; have x1 : w0.cell? ⟨w.heap.size, 1, none⟩ = some (.slice a1 m.imports.length k1) := keep_below hb.out _ _ y1.out; have x2 : w0.cell? ⟨w.heap.size, 2, none⟩ = some (.slice a2 m.funcs.length k2) := keep_below hb.out _ _ y2.out; have x3 : w0.cell? ⟨w.heap.size, 3, none⟩ = some (.slice a3 m.tables.length k3) := keep_below hb.out _ _ y3.out; have x4 : w0.cell? ⟨w.heap.size, 4, none⟩ = some (.slice a4 m.mems.length k4) := keep_below hb.out _ _ y4.out; have x5 : w0.cell? ⟨w.heap.size, 5, none⟩ = some (.slice a5 m.globals.length k5) := keep_below hb.out _ _ y5.out; have x6 : w0.cell? ⟨w.heap.size, 6, none⟩ = some (.slice a6 m.exports.length k6) := keep_below hb.out _ _ y6.out; have x7 : w0.cell? ⟨w.heap.size, 7, none⟩ = some (.slice a7 m.start.length k7) := keep_below hb.out _ _ y7.out; have x8 : w0.cell? ⟨w.heap.size, 8, none⟩ = some (.slice a8 m.elems.length k8) := keep_below hb.out _ _ y8.out; have x9 : w0.cell? ⟨w.heap.size, 9, none⟩ = some (.slice a9 m.datas.length k9) := keep_below hb.out _ _ y9.out; go_wp2_with fail; refine (many_any m a0 k0 a1 k1 a2 k2 a3 k3 a4 k4 a5 k5 a6 k6 a7 k7 a8 k8 a9 k9 _ HM.out hds).mono ?_; rintro e w2 ⟨rfl, b2⟩; have hb := zh (hb.out.trans (b2.mono hb.out.size)); clear b2; clear x0 x1 x2 x3 x4 x5 x6 x7 x8 x9; cases hmo : manyOk m
 · have S' := zh (ck_many hmo); have x0 : w2.cell? ⟨w.heap.size, 0, none⟩ = some (.slice a0 m.types.length k0) := keep_below hb.out _ _ y0.out; have x1 : w2.cell? ⟨w.heap.size, 1, none⟩ = some (.slice a1 m.imports.length k1) := keep_below hb.out _ _ y1.out; have x2 : w2.cell? ⟨w.heap.size, 2, none⟩ = some (.slice a2 m.funcs.length k2) := keep_below hb.out _ _ y2.out; have x3 : w2.cell? ⟨w.heap.size, 3, none⟩ = some (.slice a3 m.tables.length k3) := keep_below hb.out _ _ y3.out; have x4 : w2.cell? ⟨w.heap.size, 4, none⟩ = some (.slice a4 m.mems.length k4) := keep_below hb.out _ _ y4.out; have x5 : w2.cell? ⟨w.heap.size, 5, none⟩ = some (.slice a5 m.globals.length k5) := keep_below hb.out _ _ y5.out; have x6 : w2.cell? ⟨w.heap.size, 6, none⟩ = some (.slice a6 m.exports.length k6) := keep_below hb.out _ _ y6.out; have x7 : w2.cell? ⟨w.heap.size, 7, none⟩ = some (.slice a7 m.start.length k7) := keep_below hb.out _ _ y7.out; have x8 : w2.cell? ⟨w.heap.size, 8, none⟩ = some (.slice a8 m.elems.length k8) := keep_below hb.out _ _ y8.out; have x9 : w2.cell? ⟨w.heap.size, 9, none⟩ = some (.slice a9 m.datas.length k9) := keep_below hb.out _ _ y9.out; go_wp2; go_ret; exact ⟨by rw [S'.out]; rfl, hB0.out.trans (hb.out.mono hs0)⟩
 · have x0 : w2.cell? ⟨w.heap.size, 0, none⟩ = some (.slice a0 m.types.length k0) := keep_below hb.out _ _ y0.out; have x1 : w2.cell? ⟨w.heap.size, 1, none⟩ = some (.slice a1 m.imports.length k1) := keep_below hb.out _ _ y1.out; have x2 : w2.cell? ⟨w.heap.size, 2, none⟩ = some (.slice a2 m.funcs.length k2) := keep_below hb.out _ _ y2.out; have x3 : w2.cell? ⟨w.heap.size, 3, none⟩ = some (.slice a3 m.tables.length k3) := keep_below hb.out _ _ y3.out; have x4 : w2.cell? ⟨w.heap.size, 4, none⟩ = some (.slice a4 m.mems.length k4) := keep_below hb.out _ _ y4.out; have x5 : w2.cell? ⟨w.heap.size, 5, none⟩ = some (.slice a5 m.globals.length k5) := keep_below hb.out _ _ y5.out; have x6 : w2.cell? ⟨w.heap.size, 6, none⟩ = some (.slice a6 m.exports.length k6) := keep_below hb.out _ _ y6.out; have x7 : w2.cell? ⟨w.heap.size, 7, none⟩ = some (.slice a7 m.start.length k7) := keep_below hb.out _ _ y7.out; have x8 : w2.cell? ⟨w.heap.size, 8, none⟩ = some (.slice a8 m.elems.length k8) := keep_below hb.out _ _ y8.out; have x9 : w2.cell? ⟨w.heap.size, 9, none⟩ = some (.slice a9 m.datas.length k9) := keep_below hb.out _ _ y9.out; go_wp2_with fail; refine (rcountM_any m a0 k0 a1 k1 a2 k2 a3 k3 a4 k4 a5 k5 a6 k6 a7 k7 a8 k8 a9 k9 _ (HM.out.keep (keep_below hb.out))).mono ?_; rintro e w3 ⟨rfl, b3⟩; have hb' := zh (hb.out.trans (b3.mono hb.out.size)); clear b3 hb; have hb := hb'; clear hb'; clear x0 x1 x2 x3 x4 x5 x6 x7 x8 x9
   by_cases hco : 65536 - cntF m.funcs 65536 ≤ 65536
   · have qco : decide ((65536 : Int) < 65536 - cntF m.funcs 65536) = false := decide_eq_false (by omega); go_wp2_with fail; clear qco; go_loopw [3] (fun vi wr => ∃ i : Nat, i ≤ m.funcs.length ∧ vi = .int .i64 i ∧ Hid ((m.funcs.take i).all labF = true) ∧ Hid (Below w0.heap.size w0 wr)) (fun vi _ => m.funcs.length - (intOf vi).toNat)
     case atStart => exact ⟨0, Nat.zero_le _, rfl, zh rfl, hb⟩
     case round =>
      clear hb; obtain ⟨i, hi, rfl, ha, hb⟩ := hrel
      by_cases hlt : i < m.funcs.length
      · obtain ⟨t, ht⟩ : ∃ t, m.funcs[i]? = some t := ⟨_, List.getElem?_eq_getElem hlt⟩
        obtain ⟨b, o, e, hrow⟩ := (HM.out.funcs.keep fun _ _ _ => FuncAt.keep (keep_below hb.out)).row ht; have x2 : wr.cell? ⟨w.heap.size, 2, none⟩ = some (.slice a2 m.funcs.length k2) := keep_below hb.out _ _ y2.out; subst e; have hn := zh (all_row ht ha.out); have hk0 := zh (Below.refl wr.heap.size wr); clear ht ha; obtain ⟨ty, lo, bo⟩ := t; obtain ⟨c0, _, ⟨q2, r2, c2, l2, i2⟩⟩ := hrow; simp only at c2 i2 l2; have i2 := zh i2; clear c0; have hz : Hid (labF (ty, lo, bo) = lab bo) := zh rfl; go_wp2_with fail; refine (labels_any bo q2 r2 _ l2 (i2.out.below hk0.out)).mono ?_; rintro e w' ⟨rfl, rfl⟩; cases hX : lab bo
        · have hn2 := zh (hn.out.2 (by rw [hz.out, hX])); have S' := zh ((fun (h : m.funcs.all labF = false) => ck_lab h) hn2.out); clear hX; go_wp2; go_ret; exact ⟨by rw [S'.out]; rfl, hB0.out.trans (hb.out.mono hs0)⟩
        · have hz := zh (hz.out.trans (show _ = true from by rw [hX])); clear hX; have hfb := zh hb.out; go_wp2
          go_roundw
          case rel => exact ⟨i + 1, by omega, by simp, zh (hn.out.1 hz.out), hfb⟩
          case measure => simp [intOf]; omega
      · have hiN : i = m.funcs.length := (by omega)
        subst hiN; have ha2 : m.funcs.all labF = true := (by have := ha.out; rwa [List.take_length] at this)
        have S2 := zh ((fun (h : m.funcs.all labF = true) => ck_few hmo hco h) ha2); clear ha ha2 hi hlt; have x2 : wr.cell? ⟨w.heap.size, 2, none⟩ = some (.slice a2 m.funcs.length k2) := keep_below hb.out _ _ y2.out; clear x2; have x2 : wr.cell? ⟨w.heap.size, 2, none⟩ = some (.slice a2 m.funcs.length k2) := keep_below hb.out _ _ y2.out; go_wp2_with fail; go_loopw [4] (fun vi wr => ∃ i : Nat, i ≤ m.funcs.length ∧ vi = .int .i64 i ∧ Hid ((m.funcs.take i).all flatF = true) ∧ Hid (Below w0.heap.size w0 wr)) (fun vi _ => m.funcs.length - (intOf vi).toNat)
        case atStart => exact ⟨0, Nat.zero_le _, rfl, zh rfl, hb⟩
        case round =>
         clear hb; obtain ⟨i, hi, rfl, ha, hb⟩ := hrel
         by_cases hlt : i < m.funcs.length
         · obtain ⟨t, ht⟩ : ∃ t, m.funcs[i]? = some t := ⟨_, List.getElem?_eq_getElem hlt⟩
           obtain ⟨b, o, e, hrow⟩ := (HM.out.funcs.keep fun _ _ _ => FuncAt.keep (keep_below hb.out)).row ht; have x2 : wr.cell? ⟨w.heap.size, 2, none⟩ = some (.slice a2 m.funcs.length k2) := keep_below hb.out _ _ y2.out; subst e; have hn := zh (all_row ht ha.out); have hk0 := zh (Below.refl wr.heap.size wr); clear ht ha; obtain ⟨ty, lo, bo⟩ := t; obtain ⟨c0, _, ⟨q2, r2, c2, l2, i2⟩⟩ := hrow; simp only at c2 i2 l2; have i2 := zh i2; clear c0; have hz : Hid (flatF (ty, lo, bo) = flatB bo 0) := zh rfl; go_wp2_with fail; refine (deep_any bo q2 r2 _ 0 l2 (i2.out.below hk0.out) (by omega) (by omega)).mono ?_; rintro e w' ⟨rfl, rfl⟩; cases hX : flatB bo 0
           · have hn2 := zh (hn.out.2 (by rw [hz.out, hX])); have S' := zh ((fun (h : m.funcs.all flatF = false) => (S2.out.trans (if_pos h))) hn2.out); clear hX; go_wp2; go_ret; exact ⟨by rw [S'.out]; rfl, hB0.out.trans (hb.out.mono hs0)⟩
           · have hz := zh (hz.out.trans (show _ = true from by rw [hX])); clear hX; have hfb := zh hb.out; go_wp2
             go_roundw
             case rel => exact ⟨i + 1, by omega, by simp, zh (hn.out.1 hz.out), hfb⟩
             case measure => simp [intOf]; omega
         · have hiN : i = m.funcs.length := (by omega)
           subst hiN; have ha2 : m.funcs.all flatF = true := (by have := ha.out; rwa [List.take_length] at this)
           have S3 := zh ((fun (h : m.funcs.all flatF = true) => (S2.out.trans (if_neg (by rw [h]; decide)))) ha2); clear ha ha2 hi hlt; have x2 : wr.cell? ⟨w.heap.size, 2, none⟩ = some (.slice a2 m.funcs.length k2) := keep_below hb.out _ _ y2.out; have x0 : wr.cell? ⟨w.heap.size, 0, none⟩ = some (.slice a0 m.types.length k0) := keep_below hb.out _ _ y0.out; have x1 : wr.cell? ⟨w.heap.size, 1, none⟩ = some (.slice a1 m.imports.length k1) := keep_below hb.out _ _ y1.out; have x2 : wr.cell? ⟨w.heap.size, 2, none⟩ = some (.slice a2 m.funcs.length k2) := keep_below hb.out _ _ y2.out; have x3 : wr.cell? ⟨w.heap.size, 3, none⟩ = some (.slice a3 m.tables.length k3) := keep_below hb.out _ _ y3.out; have x4 : wr.cell? ⟨w.heap.size, 4, none⟩ = some (.slice a4 m.mems.length k4) := keep_below hb.out _ _ y4.out; have x5 : wr.cell? ⟨w.heap.size, 5, none⟩ = some (.slice a5 m.globals.length k5) := keep_below hb.out _ _ y5.out; have x6 : wr.cell? ⟨w.heap.size, 6, none⟩ = some (.slice a6 m.exports.length k6) := keep_below hb.out _ _ y6.out; have x7 : wr.cell? ⟨w.heap.size, 7, none⟩ = some (.slice a7 m.start.length k7) := keep_below hb.out _ _ y7.out; have x8 : wr.cell? ⟨w.heap.size, 8, none⟩ = some (.slice a8 m.elems.length k8) := keep_below hb.out _ _ y8.out; have x9 : wr.cell? ⟨w.heap.size, 9, none⟩ = some (.slice a9 m.datas.length k9) := keep_below hb.out _ _ y9.out; go_wp2_with fail; refine (shape_any m a0 k0 a1 k1 a2 k2 a3 k3 a4 k4 a5 k5 a6 k6 a7 k7 a8 k8 a9 k9 _ (HM.out.keep (keep_below hb.out))).mono ?_
           rintro e v1 ⟨rfl, bb⟩; have hB1 := zh (hb.out.trans (bb.mono hb.out.size)); clear bb; cases hX : rshapeB m
           · have S' : Hid (checkV m = 30) := zh (by rw [S3.out, hX]; rfl); go_wp2; go_ret; exact ⟨by rw [S'.out]; rfl, hB0.out.trans (hB1.out.mono hs0)⟩
           · have S' : Hid (checkV m = 0) := zh (by rw [S3.out, hX]; rfl); go_wp2; go_ret; exact ⟨by rw [S'.out]; rfl, hB0.out.trans (hB1.out.mono hs0)⟩
   · have S' := zh (ck_count hco); have qco : decide ((65536 : Int) < 65536 - cntF m.funcs 65536) = true := decide_eq_true (by omega); go_wp2; go_ret; exact ⟨by rw [S'.out]; rfl, hB0.out.trans (hb.out.mono hs0)⟩
end Go.Proofs.YtanpjbbhhofkfaaGreatDoor
