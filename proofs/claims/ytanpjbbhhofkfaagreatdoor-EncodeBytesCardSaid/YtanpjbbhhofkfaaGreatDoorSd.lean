/- Sd -/
import Derived.Test.YtanpjbbhhofkfaaGreatDoorDv
import Derived.Test.YtanpjbbhhofkfaaGreatDoorSe
import Derived.Deep.Cut
import Derived.Deep.CutRange
import Derived.Laws.Strings
namespace Go.Proofs.YtanpjbbhhofkfaaGreatDoor
open Go.RowKit
set_option linter.unusedVariables false
set_option linter.unusedSimpArgs false
set_option maxRecDepth 100000
set_option maxHeartbeats 4000000
def sm8 (m m' : Md) : Bool := (m.datas.zip m'.datas).all datQ
def sm7 (m m' : Md) : Bool := (m.elems.zip m'.elems).all elmQ && sm8 m m'
def sm6 (m m' : Md) : Bool := (m.exports.zip m'.exports).all expQ && sm7 m m'
def sm5 (m m' : Md) : Bool := (m.globals.zip m'.globals).all gloQ && sm6 m m'
def sm4 (m m' : Md) : Bool := (m.mems.zip m'.mems).all limQ && sm5 m m'
def sm3 (m m' : Md) : Bool := (m.tables.zip m'.tables).all limQ && sm4 m m'
def sm2 (m m' : Md) : Bool := (m.funcs.zip m'.funcs).all funQ && sm3 m m'
def sm1 (m m' : Md) : Bool := (m.imports.zip m'.imports).all impQ && sm2 m m'
def sm0 (m m' : Md) : Bool := (m.types.zip m'.types).all typQ && sm1 m m'
def mdSame (m m' : Md) : Bool := sizesB m m' && sm0 m m'
theorem wpv_then {P : Program} {Q : Exit → Act → World → Prop} {c : Code} {a : Act} {w : World} (h : ∀ K : Act → World → Prop, (∀ a w, K a w ↔ Q .normal a w) → c.wp P (Exit.then K Q) a w) : c.wp P Q a w := by refine wp_mono (h (Q .normal) fun _ _ => Iff.rfl) ?_; intro e a' w' hq; cases e <;> exact hq
theorem sizes_open {m m' : Md} (h : sizesB m m' = true) : m.types.length = m'.types.length ∧ m.imports.length = m'.imports.length ∧ m.funcs.length = m'.funcs.length ∧ m.tables.length = m'.tables.length ∧ m.mems.length = m'.mems.length ∧ m.globals.length = m'.globals.length ∧ m.exports.length = m'.exports.length ∧ m.start = m'.start ∧ m.elems.length = m'.elems.length ∧ m.datas.length = m'.datas.length := by unfold sizesB at h; simpa only [Bool.and_eq_true, decide_eq_true_eq] using h
theorem rsame_any (m m' : Md) (a0 : Option Addr) (k0 : Nat) (a1 : Option Addr) (k1 : Nat) (a2 : Option Addr) (k2 : Nat) (a3 : Option Addr) (k3 : Nat) (a4 : Option Addr) (k4 : Nat) (a5 : Option Addr) (k5 : Nat) (a6 : Option Addr) (k6 : Nat) (a7 : Option Addr) (k7 : Nat) (a8 : Option Addr) (k8 : Nat) (a9 : Option Addr) (k9 : Nat) (b0 : Option Addr) (j0 : Nat) (b1 : Option Addr) (j1 : Nat) (b2 : Option Addr) (j2 : Nat) (b3 : Option Addr) (j3 : Nat) (b4 : Option Addr) (j4 : Nat) (b5 : Option Addr) (j5 : Nat) (b6 : Option Addr) (j6 : Nat) (b7 : Option Addr) (j7 : Nat) (b8 : Option Addr) (j8 : Nat) (b9 : Option Addr) (j9 : Nat) (w : World) (h : MdAt w m a0 k0 a1 k1 a2 k2 a3 k3 a4 k4 a5 k5 a6 k6 a7 k7 a8 k8 a9 k9) (h' : MdAt w m' b0 j0 b1 j1 b2 j2 b3 j3 b4 j4 b5 j5 b6 j6 b7 j7 b8 j8 b9 j9) :
 Calls Tryz.prog 10 #[mdV m a0 k0 a1 k1 a2 k2 a3 k3 a4 k4 a5 k5 a6 k6 a7 k7 a8 k8 a9 k9, mdV m' b0 j0 b1 j1 b2 j2 b3 j3 b4 j4 b5 j5 b6 j6 b7 j7 b8 j8 b9 j9] w fun e w' => e = .returned (.bool (mdSame m m')) ∧ Below w.heap.size w w' := by
 have hB0 : Below w.heap.size w ((w.alloc (.cells (mdA m a0 k0 a1 k1 a2 k2 a3 k3 a4 k4 a5 k5 a6 k6 a7 k7 a8 k8 a9 k9) 32)).alloc (.cells (mdA m' b0 j0 b1 j1 b2 j2 b3 j3 b4 j4 b5 j5 b6 j6 b7 j7 b8 j8 b9 j9) 32)) := ((Below.refl _ _).alloc (Nat.le_refl _) _).alloc (by simp) _; have HM := zh (h.keep (keep_below hB0)); have HN := zh (h'.keep (keep_below hB0)); replace hB0 := zh hB0; have n0 := h.types.1; have p0 := h'.types.1; have n1 := h.imports.1; have p1 := h'.imports.1; have n2 := h.funcs.1; have p2 := h'.funcs.1; have n3 := h.tables.1; have p3 := h'.tables.1; have n4 := h.mems.1; have p4 := h'.mems.1; have n5 := h.globals.1; have p5 := h'.globals.1; have n6 := h.exports.1; have p6 := h'.exports.1; have n7 := h.start.1; have p7 := h'.start.1; have n8 := h.elems.1; have p8 := h'.elems.1; have n9 := h.datas.1; have p9 := h'.datas.1; clear h h'; have hmix : Tryz.prog.follows .mixedOrders = true := (by kernel_rfl)
 unfold mdV; go_enter Tryz.func10, Tryz.ntmps10
 go_upto_region 1 with fail
 obtain ⟨w0, hw0⟩ : ∃ w0, w0 = ((w.alloc (.cells (mdA m a0 k0 a1 k1 a2 k2 a3 k3 a4 k4 a5 k5 a6 k6 a7 k7 a8 k8 a9 k9) 32)).alloc (.cells (mdA m' b0 j0 b1 j1 b2 j2 b3 j3 b4 j4 b5 j5 b6 j6 b7 j7 b8 j8 b9 j9) 32)) := ⟨_, rfl⟩
 rw [← hw0]; rw [← hw0] at HM HN hB0; have hs0 : w.heap.size ≤ w0.heap.size := hB0.out.size; have bx : Hid (Box w0 w.heap.size (mdA m a0 k0 a1 k1 a2 k2 a3 k3 a4 k4 a5 k5 a6 k6 a7 k7 a8 k8 a9 k9)) := zh (by rw [hw0]; exact (box_new w _ _).keep (keeps_new _ _)); have by' : Hid (Box w0 (w.heap.size + 1) (mdA m' b0 j0 b1 j1 b2 j2 b3 j3 b4 j4 b5 j5 b6 j6 b7 j7 b8 j8 b9 j9)) := zh (by rw [hw0]; exact box_new2 w _ _ _)
 clear hw0; have x0 : w0.cell? ⟨w.heap.size, 0, none⟩ = some (.slice a0 m.types.length k0) := bx.out 0 _ rfl; have z0 : w0.cell? ⟨w.heap.size + 1, 0, none⟩ = some (.slice b0 m'.types.length j0) := by'.out 0 _ rfl
 have x1 : w0.cell? ⟨w.heap.size, 1, none⟩ = some (.slice a1 m.imports.length k1) := bx.out 1 _ rfl; have z1 : w0.cell? ⟨w.heap.size + 1, 1, none⟩ = some (.slice b1 m'.imports.length j1) := by'.out 1 _ rfl
 have x2 : w0.cell? ⟨w.heap.size, 2, none⟩ = some (.slice a2 m.funcs.length k2) := bx.out 2 _ rfl; have z2 : w0.cell? ⟨w.heap.size + 1, 2, none⟩ = some (.slice b2 m'.funcs.length j2) := by'.out 2 _ rfl
 have x3 : w0.cell? ⟨w.heap.size, 3, none⟩ = some (.slice a3 m.tables.length k3) := bx.out 3 _ rfl; have z3 : w0.cell? ⟨w.heap.size + 1, 3, none⟩ = some (.slice b3 m'.tables.length j3) := by'.out 3 _ rfl
 have x4 : w0.cell? ⟨w.heap.size, 4, none⟩ = some (.slice a4 m.mems.length k4) := bx.out 4 _ rfl; have z4 : w0.cell? ⟨w.heap.size + 1, 4, none⟩ = some (.slice b4 m'.mems.length j4) := by'.out 4 _ rfl
 have x5 : w0.cell? ⟨w.heap.size, 5, none⟩ = some (.slice a5 m.globals.length k5) := bx.out 5 _ rfl; have z5 : w0.cell? ⟨w.heap.size + 1, 5, none⟩ = some (.slice b5 m'.globals.length j5) := by'.out 5 _ rfl
 have x6 : w0.cell? ⟨w.heap.size, 6, none⟩ = some (.slice a6 m.exports.length k6) := bx.out 6 _ rfl; have z6 : w0.cell? ⟨w.heap.size + 1, 6, none⟩ = some (.slice b6 m'.exports.length j6) := by'.out 6 _ rfl
 have x7 : w0.cell? ⟨w.heap.size, 7, none⟩ = some (.slice a7 m.start.length k7) := bx.out 7 _ rfl; have z7 : w0.cell? ⟨w.heap.size + 1, 7, none⟩ = some (.slice b7 m'.start.length j7) := by'.out 7 _ rfl
 have x8 : w0.cell? ⟨w.heap.size, 8, none⟩ = some (.slice a8 m.elems.length k8) := bx.out 8 _ rfl; have z8 : w0.cell? ⟨w.heap.size + 1, 8, none⟩ = some (.slice b8 m'.elems.length j8) := by'.out 8 _ rfl
 have x9 : w0.cell? ⟨w.heap.size, 9, none⟩ = some (.slice a9 m.datas.length k9) := bx.out 9 _ rfl; have z9 : w0.cell? ⟨w.heap.size + 1, 9, none⟩ = some (.slice b9 m'.datas.length j9) := by'.out 9 _ rfl
 go_wp2_with fail; refine (sizes_any m m' a0 k0 a1 k1 a2 k2 a3 k3 a4 k4 a5 k5 a6 k6 a7 k7 a8 k8 a9 k9 b0 j0 b1 j1 b2 j2 b3 j3 b4 j4 b5 j5 b6 j6 b7 j7 b8 j8 b9 j9 _ HM.out HN.out).mono ?_; rintro e wr ⟨rfl, hb⟩; replace hb := zh hb; clear x0 z0 x1 z1 x2 z2 x3 z3 x4 z4 x5 z5 x6 z6 x7 z7 x8 z8 x9 z9; cases hS : sizesB m m'
 · have hv : mdSame m m' = false := (by unfold mdSame; rw [hS]; rfl)
   go_wp2; go_ret; exact ⟨by rw [hv]; rfl, hB0.out.trans (hb.out.mono hs0)⟩
 · have S0 : Hid (mdSame m m' = sm0 m m') := zh (by unfold mdSame; rw [hS]; rfl); obtain ⟨h0, h1, h2, h3, h4, h5, h6, h7, h8, h9⟩ := sizes_open hS; clear hS; replace h0 := zh h0; replace h1 := zh h1; replace h2 := zh h2; replace h3 := zh h3; replace h4 := zh h4; replace h5 := zh h5; replace h6 := zh h6; replace h7 := zh h7; replace h8 := zh h8; replace h9 := zh h9; have qq := hb; have x0 : wr.cell? ⟨w.heap.size, 0, none⟩ = some (.slice a0 m.types.length k0) := keep_below hb.out _ _ (bx.out 0 _ rfl); have z0 : wr.cell? ⟨w.heap.size + 1, 0, none⟩ = some (.slice b0 m'.types.length j0) := keep_below hb.out _ _ (by'.out 0 _ rfl); go_wp2_with fail; go_loopw [5] (fun vi wr => ∃ i : Nat, i ≤ m.types.length ∧ vi = .int .i64 i ∧ Hid (((m.types.zip m'.types).take i).all typQ = true) ∧ Hid (Below w0.heap.size w0 wr)) (fun vi _ => m.types.length - (intOf vi).toNat)
   case atStart => exact ⟨0, Nat.zero_le _, rfl, zh rfl, hb⟩
   case round =>
    clear hb; obtain ⟨i, hi, rfl, ha, hb⟩ := hrel
    by_cases hlt : i < m.types.length
    · obtain ⟨t, ht⟩ : ∃ t, m.types[i]? = some t := ⟨_, List.getElem?_eq_getElem hlt⟩
      obtain ⟨t', ht'⟩ : ∃ t, m'.types[i]? = some t := ⟨_, List.getElem?_eq_getElem (by rw [← h0.out]; exact hlt)⟩
      have hlt' : i < m'.types.length := (by rw [← h0.out]; exact hlt)
      obtain ⟨b, o, e, hrow⟩ := (HM.out.types.keep fun _ _ _ => TypeAt.keep (keep_below hb.out)).row ht; obtain ⟨b', o', e', hrow'⟩ := (HN.out.types.keep fun _ _ _ => TypeAt.keep (keep_below hb.out)).row ht'; have x0 : wr.cell? ⟨w.heap.size, 0, none⟩ = some (.slice a0 m.types.length k0) := keep_below hb.out _ _ (bx.out 0 _ rfl); have z0 : wr.cell? ⟨w.heap.size + 1, 0, none⟩ = some (.slice b0 m'.types.length j0) := keep_below hb.out _ _ (by'.out 0 _ rfl); subst e e'; have hn := zh (all_row (zip_at ht ht') ha.out); clear ht ht' ha; obtain ⟨ps, rs⟩ := t; obtain ⟨ps', rs'⟩ := t'; obtain ⟨⟨u0, r0, c0, i0⟩, ⟨u1, r1, c1, i1⟩⟩ := hrow; obtain ⟨⟨u0', r0', c0', i0'⟩, ⟨u1', r1', c1', i1'⟩⟩ := hrow'; simp only at c0 c1 i0 i1 c0' c1' i0' i1'; obtain ⟨q1, eq1⟩ : ∃ c, decide (ps = ps') = c := ⟨_, rfl⟩
      obtain ⟨q2, eq2⟩ : ∃ c, decide (rs = rs') = c := ⟨_, rfl⟩
      go_upto_region 6 with fail
      refine wpv_then ?_; intro K hK
      go_cut [54] from 25 to 53 (fun sv wx => sv = cond q1 (.bool (!q2)) (.bool true) ∧ Hid (Below wr.heap.size wr wx))
      case first => refine wp_fv _ 303 rfl (reg6 hmix rfl rfl rfl x0 z0 hlt hlt' n0 p0 c0 c0' c1 c1' i0 i0' i1 i1' eq1 eq2 ?_); intro w' f hbw hf; go_wp2_with fail; go_meet; exact ⟨hf, zh hbw⟩
      case rest =>
       obtain ⟨rfl, hbw⟩ := hcut; refine (hK _ _).2 ?_; clear hK; have hB := zh (hb.out.trans (hbw.out.mono hb.out.size)); cases q1
       · have S' := zh (S0.out.trans (show sm0 m m' = false from by unfold sm0; rw [hn.out.2 (by show (decide (ps = ps') && decide (rs = rs')) = _; rw [eq1, eq2]; rfl)]; rfl)); go_wp2; go_ret; exact ⟨by rw [S'.out]; rfl, hB0.out.trans (hB.out.mono hs0)⟩
       · cases q2
         · have S' := zh (S0.out.trans (show sm0 m m' = false from by unfold sm0; rw [hn.out.2 (by show (decide (ps = ps') && decide (rs = rs')) = _; rw [eq1, eq2]; rfl)]; rfl)); go_wp2; go_ret; exact ⟨by rw [S'.out]; rfl, hB0.out.trans (hB.out.mono hs0)⟩
         · have hfb := zh hB.out; go_wp2
           go_roundw
           case rel => exact ⟨i + 1, by omega, by simp, zh (hn.out.1 (by show (decide (ps = ps') && decide (rs = rs')) = _; rw [eq1, eq2]; rfl)), hfb⟩
           case measure => simp [intOf]; omega
    · have hiN : i = m.types.length := (by omega)
      subst hiN; have ha2 : (m.types.zip m'.types).all typQ = true := (by have := ha.out; rwa [zip_end h0.out] at this)
      have S1 := zh (S0.out.trans (show sm0 m m' = sm1 m m' from by unfold sm0; rw [ha2]; rfl)); clear ha ha2 hi hlt; have x0 : wr.cell? ⟨w.heap.size, 0, none⟩ = some (.slice a0 m.types.length k0) := keep_below hb.out _ _ (bx.out 0 _ rfl); have z0 : wr.cell? ⟨w.heap.size + 1, 0, none⟩ = some (.slice b0 m'.types.length j0) := keep_below hb.out _ _ (by'.out 0 _ rfl); go_wp2_with fail; go_loopw [6] (fun vi wr => ∃ i : Nat, i ≤ m.imports.length ∧ vi = .int .i64 i ∧ Hid (((m.imports.zip m'.imports).take i).all impQ = true) ∧ Hid (Below w0.heap.size w0 wr)) (fun vi _ => m.imports.length - (intOf vi).toNat)
      case atStart => exact ⟨0, Nat.zero_le _, rfl, zh rfl, hb⟩
      case round =>
       clear hb; obtain ⟨i, hi, rfl, ha, hb⟩ := hrel
       by_cases hlt : i < m.imports.length
       · obtain ⟨t, ht⟩ : ∃ t, m.imports[i]? = some t := ⟨_, List.getElem?_eq_getElem hlt⟩
         obtain ⟨t', ht'⟩ : ∃ t, m'.imports[i]? = some t := ⟨_, List.getElem?_eq_getElem (by rw [← h1.out]; exact hlt)⟩
         have hlt' : i < m'.imports.length := (by rw [← h1.out]; exact hlt)
         obtain ⟨b, o, e, hrow⟩ := (HM.out.imports.keep fun _ _ _ => ImportAt.keep (keep_below hb.out)).row ht; obtain ⟨b', o', e', hrow'⟩ := (HN.out.imports.keep fun _ _ _ => ImportAt.keep (keep_below hb.out)).row ht'; have x1 : wr.cell? ⟨w.heap.size, 1, none⟩ = some (.slice a1 m.imports.length k1) := keep_below hb.out _ _ (bx.out 1 _ rfl); have z1 : wr.cell? ⟨w.heap.size + 1, 1, none⟩ = some (.slice b1 m'.imports.length j1) := keep_below hb.out _ _ (by'.out 1 _ rfl); subst e e'; have hn := zh (all_row (zip_at ht ht') ha.out); clear ht ht' ha; obtain ⟨s0, s1, v0⟩ := t; obtain ⟨s0', s1', v0'⟩ := t'; obtain ⟨⟨c0, _⟩, ⟨c1, _⟩, c2⟩ := hrow; obtain ⟨⟨c0', _⟩, ⟨c1', _⟩, c2'⟩ := hrow'; unfold IntCell at c2 c2'; simp only at c0 c1 c2 c0' c1' c2'; obtain ⟨q1, eq1⟩ : ∃ c, decide ((s0, s1, v0) = (s0', s1', v0')) = c := ⟨_, rfl⟩
         have zq1 : Hid (cond q1 (s0.toList = s0'.toList ∧ s1.toList = s1'.toList ∧ v0 = v0') (¬ (s0.toList = s0'.toList ∧ s1.toList = s1'.toList ∧ v0 = v0'))) := zh (by
          have hiff : (s0.toList = s0'.toList ∧ s1.toList = s1'.toList ∧ v0 = v0') ↔ (s0, s1, v0) = (s0', s1', v0') := (by simp only [Prod.mk.injEq, str_eq])
          rw [← eq1]
          by_cases h : (s0, s1, v0) = (s0', s1', v0')
          · rw [decide_eq_true h]; exact hiff.2 h
          · rw [decide_eq_false h]; exact fun e => h (hiff.1 e))
         go_upto_region 11 with fail
         refine wpv_then ?_; intro K hK
         go_cut [72] from 62 to 71 (fun sv wx => sv = cond q1 (.bool false) (.bool true) ∧ Hid (Below wr.heap.size wr wx))
         case first => refine wp_fv _ 303 rfl (reg11 hmix rfl rfl rfl x1 z1 hlt hlt' n1 p1 c0 c0' c1 c1' c2 c2' zq1 ?_); intro w' f hbw hf; go_wp2_with fail; go_meet; exact ⟨hf, zh hbw⟩
         case rest =>
          obtain ⟨rfl, hbw⟩ := hcut; refine (hK _ _).2 ?_; clear hK; have hB := zh (hb.out.trans (hbw.out.mono hb.out.size)); cases q1
          · have S' := zh (S1.out.trans (show sm1 m m' = false from by unfold sm1; rw [hn.out.2 (by show decide ((s0, s1, v0) = (s0', s1', v0')) = _; rw [eq1])]; rfl)); go_wp2; go_ret; exact ⟨by rw [S'.out]; rfl, hB0.out.trans (hB.out.mono hs0)⟩
          · have hfb := zh hB.out; go_wp2
            go_roundw
            case rel => exact ⟨i + 1, by omega, by simp, zh (hn.out.1 (by show decide ((s0, s1, v0) = (s0', s1', v0')) = _; rw [eq1])), hfb⟩
            case measure => simp [intOf]; omega
       · have hiN : i = m.imports.length := (by omega)
         subst hiN; have ha2 : (m.imports.zip m'.imports).all impQ = true := (by have := ha.out; rwa [zip_end h1.out] at this)
         have S2 := zh (S1.out.trans (show sm1 m m' = sm2 m m' from by unfold sm1; rw [ha2]; rfl)); clear ha ha2 hi hlt; have x1 : wr.cell? ⟨w.heap.size, 1, none⟩ = some (.slice a1 m.imports.length k1) := keep_below hb.out _ _ (bx.out 1 _ rfl); have z1 : wr.cell? ⟨w.heap.size + 1, 1, none⟩ = some (.slice b1 m'.imports.length j1) := keep_below hb.out _ _ (by'.out 1 _ rfl); go_wp2_with fail; go_loopw [7] (fun vi wr => ∃ i : Nat, i ≤ m.funcs.length ∧ vi = .int .i64 i ∧ Hid (((m.funcs.zip m'.funcs).take i).all funQ = true) ∧ Hid (Below w0.heap.size w0 wr)) (fun vi _ => m.funcs.length - (intOf vi).toNat)
         case atStart => exact ⟨0, Nat.zero_le _, rfl, zh rfl, hb⟩
         case round =>
          clear hb; obtain ⟨i, hi, rfl, ha, hb⟩ := hrel
          by_cases hlt : i < m.funcs.length
          · obtain ⟨t, ht⟩ : ∃ t, m.funcs[i]? = some t := ⟨_, List.getElem?_eq_getElem hlt⟩
            obtain ⟨t', ht'⟩ : ∃ t, m'.funcs[i]? = some t := ⟨_, List.getElem?_eq_getElem (by rw [← h2.out]; exact hlt)⟩
            have hlt' : i < m'.funcs.length := (by rw [← h2.out]; exact hlt)
            obtain ⟨b, o, e, hrow⟩ := (HM.out.funcs.keep fun _ _ _ => FuncAt.keep (keep_below hb.out)).row ht; obtain ⟨b', o', e', hrow'⟩ := (HN.out.funcs.keep fun _ _ _ => FuncAt.keep (keep_below hb.out)).row ht'; have x2 : wr.cell? ⟨w.heap.size, 2, none⟩ = some (.slice a2 m.funcs.length k2) := keep_below hb.out _ _ (bx.out 2 _ rfl); have z2 : wr.cell? ⟨w.heap.size + 1, 2, none⟩ = some (.slice b2 m'.funcs.length j2) := keep_below hb.out _ _ (by'.out 2 _ rfl); subst e e'; have hn := zh (all_row (zip_at ht ht') ha.out); clear ht ht' ha; obtain ⟨ty, lo, bo⟩ := t; obtain ⟨ty', lo', bo'⟩ := t'; obtain ⟨c0, ⟨u1, r1, c1, i1⟩, ⟨u2, r2, c2, l2, i2⟩⟩ := hrow; obtain ⟨c0', ⟨u1', r1', c1', i1'⟩, ⟨u2', r2', c2', l2', i2'⟩⟩ := hrow'; unfold IntCell at c0 c0'; simp only at c0 c1 c2 i1 l2 i2 c0' c1' c2' i1' l2' i2'; obtain ⟨q1, eq1⟩ : ∃ c, decide (ty = ty') = c := ⟨_, rfl⟩
            have zq1 : (ty != ty') = !q1 := (by rw [← eq1]; by_cases h : ty = ty' <;> simp [h])
            obtain ⟨q2, eq2⟩ : ∃ c, decide (lo = lo') = c := ⟨_, rfl⟩
            obtain ⟨q3, eq3⟩ : ∃ c, ilEq bo bo' = c := ⟨_, rfl⟩
            go_upto_region 16 with fail
            refine wpv_then ?_; intro K hK
            go_cut [124] from 80 to 123 (fun sv wx => sv = cond q1 (cond q2 (.bool (!q3)) (.bool true)) (.bool true) ∧ Hid (Below wr.heap.size wr wx))
            case first => refine wp_fv _ 303 rfl (reg16 hmix rfl rfl rfl x2 z2 hlt hlt' n2 p2 c0 c0' c1 c1' c2 c2' i1 i1' l2 l2' i2 i2' zq1 eq2 eq3 ?_); intro w' f hbw hf; go_wp2_with fail; go_meet; exact ⟨hf, zh hbw⟩
            case rest =>
             obtain ⟨rfl, hbw⟩ := hcut; refine (hK _ _).2 ?_; clear hK; have hB := zh (hb.out.trans (hbw.out.mono hb.out.size)); cases q1
             · have S' := zh (S2.out.trans (show sm2 m m' = false from by unfold sm2; rw [hn.out.2 (by show (decide (ty = ty') && (decide (lo = lo') && ilEq bo bo')) = _; rw [eq1, eq2, eq3]; rfl)]; rfl)); go_wp2; go_ret; exact ⟨by rw [S'.out]; rfl, hB0.out.trans (hB.out.mono hs0)⟩
             · cases q2
               · have S' := zh (S2.out.trans (show sm2 m m' = false from by unfold sm2; rw [hn.out.2 (by show (decide (ty = ty') && (decide (lo = lo') && ilEq bo bo')) = _; rw [eq1, eq2, eq3]; rfl)]; rfl)); go_wp2; go_ret; exact ⟨by rw [S'.out]; rfl, hB0.out.trans (hB.out.mono hs0)⟩
               · cases q3
                 · have S' := zh (S2.out.trans (show sm2 m m' = false from by unfold sm2; rw [hn.out.2 (by show (decide (ty = ty') && (decide (lo = lo') && ilEq bo bo')) = _; rw [eq1, eq2, eq3]; rfl)]; rfl)); go_wp2; go_ret; exact ⟨by rw [S'.out]; rfl, hB0.out.trans (hB.out.mono hs0)⟩
                 · have hfb := zh hB.out; go_wp2
                   go_roundw
                   case rel => exact ⟨i + 1, by omega, by simp, zh (hn.out.1 (by show (decide (ty = ty') && (decide (lo = lo') && ilEq bo bo')) = _; rw [eq1, eq2, eq3]; rfl)), hfb⟩
                   case measure => simp [intOf]; omega
          · have hiN : i = m.funcs.length := (by omega)
            subst hiN; have ha2 : (m.funcs.zip m'.funcs).all funQ = true := (by have := ha.out; rwa [zip_end h2.out] at this)
            have S3 := zh (S2.out.trans (show sm2 m m' = sm3 m m' from by unfold sm2; rw [ha2]; rfl)); clear ha ha2 hi hlt; have x2 : wr.cell? ⟨w.heap.size, 2, none⟩ = some (.slice a2 m.funcs.length k2) := keep_below hb.out _ _ (bx.out 2 _ rfl); have z2 : wr.cell? ⟨w.heap.size + 1, 2, none⟩ = some (.slice b2 m'.funcs.length j2) := keep_below hb.out _ _ (by'.out 2 _ rfl); go_wp2_with fail; go_loopw [8] (fun vi wr => ∃ i : Nat, i ≤ m.tables.length ∧ vi = .int .i64 i ∧ Hid (((m.tables.zip m'.tables).take i).all limQ = true) ∧ Hid (Below w0.heap.size w0 wr)) (fun vi _ => m.tables.length - (intOf vi).toNat)
            case atStart => exact ⟨0, Nat.zero_le _, rfl, zh rfl, hb⟩
            case round =>
             clear hb; obtain ⟨i, hi, rfl, ha, hb⟩ := hrel
             by_cases hlt : i < m.tables.length
             · obtain ⟨t, ht⟩ : ∃ t, m.tables[i]? = some t := ⟨_, List.getElem?_eq_getElem hlt⟩
               obtain ⟨t', ht'⟩ : ∃ t, m'.tables[i]? = some t := ⟨_, List.getElem?_eq_getElem (by rw [← h3.out]; exact hlt)⟩
               have hlt' : i < m'.tables.length := (by rw [← h3.out]; exact hlt)
               obtain ⟨b, o, e, hrow⟩ := (HM.out.tables.keep fun _ _ _ => LimitsAt.keep (keep_below hb.out)).row ht; obtain ⟨b', o', e', hrow'⟩ := (HN.out.tables.keep fun _ _ _ => LimitsAt.keep (keep_below hb.out)).row ht'; have x3 : wr.cell? ⟨w.heap.size, 3, none⟩ = some (.slice a3 m.tables.length k3) := keep_below hb.out _ _ (bx.out 3 _ rfl); have z3 : wr.cell? ⟨w.heap.size + 1, 3, none⟩ = some (.slice b3 m'.tables.length j3) := keep_below hb.out _ _ (by'.out 3 _ rfl); subst e e'; have hn := zh (all_row (zip_at ht ht') ha.out); clear ht ht' ha; obtain ⟨v0, v1, k0⟩ := t; obtain ⟨v0', v1', k0'⟩ := t'; obtain ⟨c0, c1, c2⟩ := hrow; obtain ⟨c0', c1', c2'⟩ := hrow'; unfold IntCell at c0 c1 c0' c1'; unfold BoolCell at c2 c2'; simp only at c0 c1 c2 c0' c1' c2'; obtain ⟨q1, eq1⟩ : ∃ c, decide ((v0, v1, k0) = (v0', v1', k0')) = c := ⟨_, rfl⟩
               have zq1 : Hid (cond q1 (v0 = v0' ∧ v1 = v1' ∧ k0 = k0') (¬ (v0 = v0' ∧ v1 = v1' ∧ k0 = k0'))) := zh (by
                have hiff : (v0 = v0' ∧ v1 = v1' ∧ k0 = k0') ↔ (v0, v1, k0) = (v0', v1', k0') := (by simp only [Prod.mk.injEq, str_eq])
                rw [← eq1]
                by_cases h : (v0, v1, k0) = (v0', v1', k0')
                · rw [decide_eq_true h]; exact hiff.2 h
                · rw [decide_eq_false h]; exact fun e => h (hiff.1 e))
               go_upto_region 21 with fail
               refine wpv_then ?_; intro K hK
               go_cut [142] from 132 to 141 (fun sv wx => sv = cond q1 (.bool false) (.bool true) ∧ Hid (Below wr.heap.size wr wx))
               case first => refine wp_fv _ 303 rfl (reg21 hmix rfl rfl rfl x3 z3 hlt hlt' n3 p3 c0 c0' c1 c1' c2 c2' zq1 ?_); intro w' f hbw hf; go_wp2_with fail; go_meet; exact ⟨hf, zh hbw⟩
               case rest =>
                obtain ⟨rfl, hbw⟩ := hcut; refine (hK _ _).2 ?_; clear hK; have hB := zh (hb.out.trans (hbw.out.mono hb.out.size)); cases q1
                · have S' := zh (S3.out.trans (show sm3 m m' = false from by unfold sm3; rw [hn.out.2 (by show decide ((v0, v1, k0) = (v0', v1', k0')) = _; rw [eq1])]; rfl)); go_wp2; go_ret; exact ⟨by rw [S'.out]; rfl, hB0.out.trans (hB.out.mono hs0)⟩
                · have hfb := zh hB.out; go_wp2
                  go_roundw
                  case rel => exact ⟨i + 1, by omega, by simp, zh (hn.out.1 (by show decide ((v0, v1, k0) = (v0', v1', k0')) = _; rw [eq1])), hfb⟩
                  case measure => simp [intOf]; omega
             · have hiN : i = m.tables.length := (by omega)
               subst hiN; have ha2 : (m.tables.zip m'.tables).all limQ = true := (by have := ha.out; rwa [zip_end h3.out] at this)
               have S4 := zh (S3.out.trans (show sm3 m m' = sm4 m m' from by unfold sm3; rw [ha2]; rfl)); clear ha ha2 hi hlt; have x3 : wr.cell? ⟨w.heap.size, 3, none⟩ = some (.slice a3 m.tables.length k3) := keep_below hb.out _ _ (bx.out 3 _ rfl); have z3 : wr.cell? ⟨w.heap.size + 1, 3, none⟩ = some (.slice b3 m'.tables.length j3) := keep_below hb.out _ _ (by'.out 3 _ rfl); go_wp2_with fail; go_loopw [9] (fun vi wr => ∃ i : Nat, i ≤ m.mems.length ∧ vi = .int .i64 i ∧ Hid (((m.mems.zip m'.mems).take i).all limQ = true) ∧ Hid (Below w0.heap.size w0 wr)) (fun vi _ => m.mems.length - (intOf vi).toNat)
               case atStart => exact ⟨0, Nat.zero_le _, rfl, zh rfl, hb⟩
               case round =>
                clear hb; obtain ⟨i, hi, rfl, ha, hb⟩ := hrel
                by_cases hlt : i < m.mems.length
                · obtain ⟨t, ht⟩ : ∃ t, m.mems[i]? = some t := ⟨_, List.getElem?_eq_getElem hlt⟩
                  obtain ⟨t', ht'⟩ : ∃ t, m'.mems[i]? = some t := ⟨_, List.getElem?_eq_getElem (by rw [← h4.out]; exact hlt)⟩
                  have hlt' : i < m'.mems.length := (by rw [← h4.out]; exact hlt)
                  obtain ⟨b, o, e, hrow⟩ := (HM.out.mems.keep fun _ _ _ => LimitsAt.keep (keep_below hb.out)).row ht; obtain ⟨b', o', e', hrow'⟩ := (HN.out.mems.keep fun _ _ _ => LimitsAt.keep (keep_below hb.out)).row ht'; have x4 : wr.cell? ⟨w.heap.size, 4, none⟩ = some (.slice a4 m.mems.length k4) := keep_below hb.out _ _ (bx.out 4 _ rfl); have z4 : wr.cell? ⟨w.heap.size + 1, 4, none⟩ = some (.slice b4 m'.mems.length j4) := keep_below hb.out _ _ (by'.out 4 _ rfl); subst e e'; have hn := zh (all_row (zip_at ht ht') ha.out); clear ht ht' ha; obtain ⟨v0, v1, k0⟩ := t; obtain ⟨v0', v1', k0'⟩ := t'; obtain ⟨c0, c1, c2⟩ := hrow; obtain ⟨c0', c1', c2'⟩ := hrow'; unfold IntCell at c0 c1 c0' c1'; unfold BoolCell at c2 c2'; simp only at c0 c1 c2 c0' c1' c2'; obtain ⟨q1, eq1⟩ : ∃ c, decide ((v0, v1, k0) = (v0', v1', k0')) = c := ⟨_, rfl⟩
                  have zq1 : Hid (cond q1 (v0 = v0' ∧ v1 = v1' ∧ k0 = k0') (¬ (v0 = v0' ∧ v1 = v1' ∧ k0 = k0'))) := zh (by
                   have hiff : (v0 = v0' ∧ v1 = v1' ∧ k0 = k0') ↔ (v0, v1, k0) = (v0', v1', k0') := (by simp only [Prod.mk.injEq, str_eq])
                   rw [← eq1]
                   by_cases h : (v0, v1, k0) = (v0', v1', k0')
                   · rw [decide_eq_true h]; exact hiff.2 h
                   · rw [decide_eq_false h]; exact fun e => h (hiff.1 e))
                  go_upto_region 26 with fail
                  refine wpv_then ?_; intro K hK
                  go_cut [160] from 150 to 159 (fun sv wx => sv = cond q1 (.bool false) (.bool true) ∧ Hid (Below wr.heap.size wr wx))
                  case first => refine wp_fv _ 303 rfl (reg26 hmix rfl rfl rfl x4 z4 hlt hlt' n4 p4 c0 c0' c1 c1' c2 c2' zq1 ?_); intro w' f hbw hf; go_wp2_with fail; go_meet; exact ⟨hf, zh hbw⟩
                  case rest =>
                   obtain ⟨rfl, hbw⟩ := hcut; refine (hK _ _).2 ?_; clear hK; have hB := zh (hb.out.trans (hbw.out.mono hb.out.size)); cases q1
                   · have S' := zh (S4.out.trans (show sm4 m m' = false from by unfold sm4; rw [hn.out.2 (by show decide ((v0, v1, k0) = (v0', v1', k0')) = _; rw [eq1])]; rfl)); go_wp2; go_ret; exact ⟨by rw [S'.out]; rfl, hB0.out.trans (hB.out.mono hs0)⟩
                   · have hfb := zh hB.out; go_wp2
                     go_roundw
                     case rel => exact ⟨i + 1, by omega, by simp, zh (hn.out.1 (by show decide ((v0, v1, k0) = (v0', v1', k0')) = _; rw [eq1])), hfb⟩
                     case measure => simp [intOf]; omega
                · have hiN : i = m.mems.length := (by omega)
                  subst hiN; have ha2 : (m.mems.zip m'.mems).all limQ = true := (by have := ha.out; rwa [zip_end h4.out] at this)
                  have S5 := zh (S4.out.trans (show sm4 m m' = sm5 m m' from by unfold sm4; rw [ha2]; rfl)); clear ha ha2 hi hlt; have x4 : wr.cell? ⟨w.heap.size, 4, none⟩ = some (.slice a4 m.mems.length k4) := keep_below hb.out _ _ (bx.out 4 _ rfl); have z4 : wr.cell? ⟨w.heap.size + 1, 4, none⟩ = some (.slice b4 m'.mems.length j4) := keep_below hb.out _ _ (by'.out 4 _ rfl); go_wp2_with fail; go_loopw [10] (fun vi wr => ∃ i : Nat, i ≤ m.globals.length ∧ vi = .int .i64 i ∧ Hid (((m.globals.zip m'.globals).take i).all gloQ = true) ∧ Hid (Below w0.heap.size w0 wr)) (fun vi _ => m.globals.length - (intOf vi).toNat)
                  case atStart => exact ⟨0, Nat.zero_le _, rfl, zh rfl, hb⟩
                  case round =>
                   clear hb; obtain ⟨i, hi, rfl, ha, hb⟩ := hrel
                   by_cases hlt : i < m.globals.length
                   · obtain ⟨t, ht⟩ : ∃ t, m.globals[i]? = some t := ⟨_, List.getElem?_eq_getElem hlt⟩
                     obtain ⟨t', ht'⟩ : ∃ t, m'.globals[i]? = some t := ⟨_, List.getElem?_eq_getElem (by rw [← h5.out]; exact hlt)⟩
                     have hlt' : i < m'.globals.length := (by rw [← h5.out]; exact hlt)
                     obtain ⟨b, o, e, hrow⟩ := (HM.out.globals.keep fun _ _ _ => GlobalAt.keep (keep_below hb.out)).row ht; obtain ⟨b', o', e', hrow'⟩ := (HN.out.globals.keep fun _ _ _ => GlobalAt.keep (keep_below hb.out)).row ht'; have x5 : wr.cell? ⟨w.heap.size, 5, none⟩ = some (.slice a5 m.globals.length k5) := keep_below hb.out _ _ (bx.out 5 _ rfl); have z5 : wr.cell? ⟨w.heap.size + 1, 5, none⟩ = some (.slice b5 m'.globals.length j5) := keep_below hb.out _ _ (by'.out 5 _ rfl); subst e e'; have hn := zh (all_row (zip_at ht ht') ha.out); clear ht ht' ha; obtain ⟨ty, mu, ⟨op, x1, y, n, ls, body, els⟩⟩ := t; obtain ⟨ty', mu', ⟨op', x1', y', n', ls', body', els'⟩⟩ := t'; obtain ⟨c0, c1, ⟨⟨d0, d1, d2, d3⟩, ⟨u4, r4, d4, i4⟩, ⟨u5, r5, d5, l5, i5⟩, ⟨u6, r6, d6, l6, i6⟩, _⟩⟩ := hrow; obtain ⟨c0', c1', ⟨⟨d0', d1', d2', d3'⟩, ⟨u4', r4', d4', i4'⟩, ⟨u5', r5', d5', l5', i5'⟩, ⟨u6', r6', d6', l6', i6'⟩, _⟩⟩ := hrow'; unfold IntCell at c0 c0'; unfold BoolCell at c1 c1'; simp only at c0 c1 c0' c1'; have o1 : OneIs wr ⟨op, x1, y, n, ls, body, els⟩ u4 r4 u5 r5 u6 r6 := ⟨i4, l5, inv0 i5, l6, inv0 i6⟩
                     have o2 : OneIs wr ⟨op', x1', y', n', ls', body', els'⟩ u4' r4' u5' r5' u6' r6' := ⟨i4', l5', inv0 i5', l6', inv0 i6'⟩
                     obtain ⟨q1, eq1⟩ : ∃ c, decide (ty = ty') = c := ⟨_, rfl⟩
                     have zq1 : (ty != ty') = !q1 := (by rw [← eq1]; by_cases h : ty = ty' <;> simp [h])
                     obtain ⟨q2, eq2⟩ : ∃ c, decide (mu = mu') = c := ⟨_, rfl⟩
                     have zq2 : (mu == mu') = q2 := (by rw [← eq2]; by_cases h : mu = mu' <;> simp [h])
                     obtain ⟨q3, eq3⟩ : ∃ c, ilEq (.cons op x1 y n ls body els .nil) (.cons op' x1' y' n' ls' body' els' .nil) = c := ⟨_, rfl⟩
                     go_upto_region 31 with fail
                     refine wpv_then ?_; intro K hK
                     go_cut [211] from 168 to 210 (fun sv wx => sv = cond q1 (cond q2 (.bool (!q3)) (.bool true)) (.bool true) ∧ Hid (Below wr.heap.size wr wx))
                     case first => refine wp_fv _ 303 rfl (reg31 hmix rfl rfl rfl x5 z5 hlt hlt' n5 p5 c0 c0' c1 c1' d0 d0' d1 d1' d2 d2' d3 d3' d4 d4' d5 d5' d6 d6' o1 o2 zq1 zq2 eq3 ?_); intro w' f hbw hf; go_wp2_with fail; go_meet; exact ⟨hf, zh hbw⟩
                     case rest =>
                      obtain ⟨rfl, hbw⟩ := hcut; refine (hK _ _).2 ?_; clear hK; have hB := zh (hb.out.trans (hbw.out.mono hb.out.size)); cases q1
                      · have S' := zh (S5.out.trans (show sm5 m m' = false from by unfold sm5; rw [hn.out.2 (by show (decide (ty = ty') && (decide (mu = mu') && ilEq (.cons op x1 y n ls body els .nil) (.cons op' x1' y' n' ls' body' els' .nil))) = _; rw [eq1, eq2, eq3]; rfl)]; rfl)); go_wp2; go_ret; exact ⟨by rw [S'.out]; rfl, hB0.out.trans (hB.out.mono hs0)⟩
                      · cases q2
                        · have S' := zh (S5.out.trans (show sm5 m m' = false from by unfold sm5; rw [hn.out.2 (by show (decide (ty = ty') && (decide (mu = mu') && ilEq (.cons op x1 y n ls body els .nil) (.cons op' x1' y' n' ls' body' els' .nil))) = _; rw [eq1, eq2, eq3]; rfl)]; rfl)); go_wp2; go_ret; exact ⟨by rw [S'.out]; rfl, hB0.out.trans (hB.out.mono hs0)⟩
                        · cases q3
                          · have S' := zh (S5.out.trans (show sm5 m m' = false from by unfold sm5; rw [hn.out.2 (by show (decide (ty = ty') && (decide (mu = mu') && ilEq (.cons op x1 y n ls body els .nil) (.cons op' x1' y' n' ls' body' els' .nil))) = _; rw [eq1, eq2, eq3]; rfl)]; rfl)); go_wp2; go_ret; exact ⟨by rw [S'.out]; rfl, hB0.out.trans (hB.out.mono hs0)⟩
                          · have hfb := zh hB.out; go_wp2
                            go_roundw
                            case rel => exact ⟨i + 1, by omega, by simp, zh (hn.out.1 (by show (decide (ty = ty') && (decide (mu = mu') && ilEq (.cons op x1 y n ls body els .nil) (.cons op' x1' y' n' ls' body' els' .nil))) = _; rw [eq1, eq2, eq3]; rfl)), hfb⟩
                            case measure => simp [intOf]; omega
                   · have hiN : i = m.globals.length := (by omega)
                     subst hiN; have ha2 : (m.globals.zip m'.globals).all gloQ = true := (by have := ha.out; rwa [zip_end h5.out] at this)
                     have S6 := zh (S5.out.trans (show sm5 m m' = sm6 m m' from by unfold sm5; rw [ha2]; rfl)); clear ha ha2 hi hlt; have x5 : wr.cell? ⟨w.heap.size, 5, none⟩ = some (.slice a5 m.globals.length k5) := keep_below hb.out _ _ (bx.out 5 _ rfl); have z5 : wr.cell? ⟨w.heap.size + 1, 5, none⟩ = some (.slice b5 m'.globals.length j5) := keep_below hb.out _ _ (by'.out 5 _ rfl); go_wp2_with fail; go_loopw [11] (fun vi wr => ∃ i : Nat, i ≤ m.exports.length ∧ vi = .int .i64 i ∧ Hid (((m.exports.zip m'.exports).take i).all expQ = true) ∧ Hid (Below w0.heap.size w0 wr)) (fun vi _ => m.exports.length - (intOf vi).toNat)
                     case atStart => exact ⟨0, Nat.zero_le _, rfl, zh rfl, hb⟩
                     case round =>
                      clear hb; obtain ⟨i, hi, rfl, ha, hb⟩ := hrel
                      by_cases hlt : i < m.exports.length
                      · obtain ⟨t, ht⟩ : ∃ t, m.exports[i]? = some t := ⟨_, List.getElem?_eq_getElem hlt⟩
                        obtain ⟨t', ht'⟩ : ∃ t, m'.exports[i]? = some t := ⟨_, List.getElem?_eq_getElem (by rw [← h6.out]; exact hlt)⟩
                        have hlt' : i < m'.exports.length := (by rw [← h6.out]; exact hlt)
                        obtain ⟨b, o, e, hrow⟩ := (HM.out.exports.keep fun _ _ _ => ExportAt.keep (keep_below hb.out)).row ht; obtain ⟨b', o', e', hrow'⟩ := (HN.out.exports.keep fun _ _ _ => ExportAt.keep (keep_below hb.out)).row ht'; have x6 : wr.cell? ⟨w.heap.size, 6, none⟩ = some (.slice a6 m.exports.length k6) := keep_below hb.out _ _ (bx.out 6 _ rfl); have z6 : wr.cell? ⟨w.heap.size + 1, 6, none⟩ = some (.slice b6 m'.exports.length j6) := keep_below hb.out _ _ (by'.out 6 _ rfl); subst e e'; have hn := zh (all_row (zip_at ht ht') ha.out); clear ht ht' ha; obtain ⟨s0, v0, v1⟩ := t; obtain ⟨s0', v0', v1'⟩ := t'; obtain ⟨⟨c0, _⟩, c1, c2⟩ := hrow; obtain ⟨⟨c0', _⟩, c1', c2'⟩ := hrow'; unfold IntCell at c1 c2 c1' c2'; simp only at c0 c1 c2 c0' c1' c2'; obtain ⟨q1, eq1⟩ : ∃ c, decide ((s0, v0, v1) = (s0', v0', v1')) = c := ⟨_, rfl⟩
                        have zq1 : Hid (cond q1 (s0.toList = s0'.toList ∧ v0 = v0' ∧ v1 = v1') (¬ (s0.toList = s0'.toList ∧ v0 = v0' ∧ v1 = v1'))) := zh (by
                         have hiff : (s0.toList = s0'.toList ∧ v0 = v0' ∧ v1 = v1') ↔ (s0, v0, v1) = (s0', v0', v1') := (by simp only [Prod.mk.injEq, str_eq])
                         rw [← eq1]
                         by_cases h : (s0, v0, v1) = (s0', v0', v1')
                         · rw [decide_eq_true h]; exact hiff.2 h
                         · rw [decide_eq_false h]; exact fun e => h (hiff.1 e))
                        go_upto_region 36 with fail
                        refine wpv_then ?_; intro K hK
                        go_cut [229] from 219 to 228 (fun sv wx => sv = cond q1 (.bool false) (.bool true) ∧ Hid (Below wr.heap.size wr wx))
                        case first => refine wp_fv _ 303 rfl (reg36 hmix rfl rfl rfl x6 z6 hlt hlt' n6 p6 c0 c0' c1 c1' c2 c2' zq1 ?_); intro w' f hbw hf; go_wp2_with fail; go_meet; exact ⟨hf, zh hbw⟩
                        case rest =>
                         obtain ⟨rfl, hbw⟩ := hcut; refine (hK _ _).2 ?_; clear hK; have hB := zh (hb.out.trans (hbw.out.mono hb.out.size)); cases q1
                         · have S' := zh (S6.out.trans (show sm6 m m' = false from by unfold sm6; rw [hn.out.2 (by show decide ((s0, v0, v1) = (s0', v0', v1')) = _; rw [eq1])]; rfl)); go_wp2; go_ret; exact ⟨by rw [S'.out]; rfl, hB0.out.trans (hB.out.mono hs0)⟩
                         · have hfb := zh hB.out; go_wp2
                           go_roundw
                           case rel => exact ⟨i + 1, by omega, by simp, zh (hn.out.1 (by show decide ((s0, v0, v1) = (s0', v0', v1')) = _; rw [eq1])), hfb⟩
                           case measure => simp [intOf]; omega
                      · have hiN : i = m.exports.length := (by omega)
                        subst hiN; have ha2 : (m.exports.zip m'.exports).all expQ = true := (by have := ha.out; rwa [zip_end h6.out] at this)
                        have S7 := zh (S6.out.trans (show sm6 m m' = sm7 m m' from by unfold sm6; rw [ha2]; rfl)); clear ha ha2 hi hlt; have x6 : wr.cell? ⟨w.heap.size, 6, none⟩ = some (.slice a6 m.exports.length k6) := keep_below hb.out _ _ (bx.out 6 _ rfl); have z6 : wr.cell? ⟨w.heap.size + 1, 6, none⟩ = some (.slice b6 m'.exports.length j6) := keep_below hb.out _ _ (by'.out 6 _ rfl); go_wp2_with fail; go_loopw [12] (fun vi wr => ∃ i : Nat, i ≤ m.elems.length ∧ vi = .int .i64 i ∧ Hid (((m.elems.zip m'.elems).take i).all elmQ = true) ∧ Hid (Below w0.heap.size w0 wr)) (fun vi _ => m.elems.length - (intOf vi).toNat)
                        case atStart => exact ⟨0, Nat.zero_le _, rfl, zh rfl, hb⟩
                        case round =>
                         clear hb; obtain ⟨i, hi, rfl, ha, hb⟩ := hrel
                         by_cases hlt : i < m.elems.length
                         · obtain ⟨t, ht⟩ : ∃ t, m.elems[i]? = some t := ⟨_, List.getElem?_eq_getElem hlt⟩
                           obtain ⟨t', ht'⟩ : ∃ t, m'.elems[i]? = some t := ⟨_, List.getElem?_eq_getElem (by rw [← h8.out]; exact hlt)⟩
                           have hlt' : i < m'.elems.length := (by rw [← h8.out]; exact hlt)
                           obtain ⟨b, o, e, hrow⟩ := (HM.out.elems.keep fun _ _ _ => ElemAt.keep (keep_below hb.out)).row ht; obtain ⟨b', o', e', hrow'⟩ := (HN.out.elems.keep fun _ _ _ => ElemAt.keep (keep_below hb.out)).row ht'; have x8 : wr.cell? ⟨w.heap.size, 8, none⟩ = some (.slice a8 m.elems.length k8) := keep_below hb.out _ _ (bx.out 8 _ rfl); have z8 : wr.cell? ⟨w.heap.size + 1, 8, none⟩ = some (.slice b8 m'.elems.length j8) := keep_below hb.out _ _ (by'.out 8 _ rfl); subst e e'; have hn := zh (all_row (zip_at ht ht') ha.out); clear ht ht' ha; obtain ⟨⟨op, x1, y, n, ls, body, els⟩, fs⟩ := t; obtain ⟨⟨op', x1', y', n', ls', body', els'⟩, fs'⟩ := t'; obtain ⟨⟨⟨d0, d1, d2, d3⟩, ⟨u4, r4, d4, i4⟩, ⟨u5, r5, d5, l5, i5⟩, ⟨u6, r6, d6, l6, i6⟩, _⟩, ⟨u7, r7, c7, i7⟩⟩ := hrow; obtain ⟨⟨⟨d0', d1', d2', d3'⟩, ⟨u4', r4', d4', i4'⟩, ⟨u5', r5', d5', l5', i5'⟩, ⟨u6', r6', d6', l6', i6'⟩, _⟩, ⟨u7', r7', c7', i7'⟩⟩ := hrow'; simp only at c7 i7 c7' i7'; have o1 : OneIs wr ⟨op, x1, y, n, ls, body, els⟩ u4 r4 u5 r5 u6 r6 := ⟨i4, l5, inv0 i5, l6, inv0 i6⟩
                           have o2 : OneIs wr ⟨op', x1', y', n', ls', body', els'⟩ u4' r4' u5' r5' u6' r6' := ⟨i4', l5', inv0 i5', l6', inv0 i6'⟩
                           obtain ⟨q1, eq1⟩ : ∃ c, ilEq (.cons op x1 y n ls body els .nil) (.cons op' x1' y' n' ls' body' els' .nil) = c := ⟨_, rfl⟩
                           obtain ⟨q2, eq2⟩ : ∃ c, decide (fs = fs') = c := ⟨_, rfl⟩
                           go_upto_region 41 with fail
                           refine wpv_then ?_; intro K hK
                           go_cut [266] from 237 to 265 (fun sv wx => sv = cond q1 (.bool (!q2)) (.bool true) ∧ Hid (Below wr.heap.size wr wx))
                           case first => refine wp_fv _ 303 rfl (reg41 hmix rfl rfl rfl x8 z8 hlt hlt' n8 p8 d0 d0' d1 d1' d2 d2' d3 d3' d4 d4' d5 d5' d6 d6' c7 c7' o1 o2 i7 i7' eq1 eq2 ?_); intro w' f hbw hf; go_wp2_with fail; go_meet; exact ⟨hf, zh hbw⟩
                           case rest =>
                            obtain ⟨rfl, hbw⟩ := hcut; refine (hK _ _).2 ?_; clear hK; have hB := zh (hb.out.trans (hbw.out.mono hb.out.size)); cases q1
                            · have S' := zh (S7.out.trans (show sm7 m m' = false from by unfold sm7; rw [hn.out.2 (by show (ilEq (.cons op x1 y n ls body els .nil) (.cons op' x1' y' n' ls' body' els' .nil) && decide (fs = fs')) = _; rw [eq1, eq2]; rfl)]; rfl)); go_wp2; go_ret; exact ⟨by rw [S'.out]; rfl, hB0.out.trans (hB.out.mono hs0)⟩
                            · cases q2
                              · have S' := zh (S7.out.trans (show sm7 m m' = false from by unfold sm7; rw [hn.out.2 (by show (ilEq (.cons op x1 y n ls body els .nil) (.cons op' x1' y' n' ls' body' els' .nil) && decide (fs = fs')) = _; rw [eq1, eq2]; rfl)]; rfl)); go_wp2; go_ret; exact ⟨by rw [S'.out]; rfl, hB0.out.trans (hB.out.mono hs0)⟩
                              · have hfb := zh hB.out; go_wp2
                                go_roundw
                                case rel => exact ⟨i + 1, by omega, by simp, zh (hn.out.1 (by show (ilEq (.cons op x1 y n ls body els .nil) (.cons op' x1' y' n' ls' body' els' .nil) && decide (fs = fs')) = _; rw [eq1, eq2]; rfl)), hfb⟩
                                case measure => simp [intOf]; omega
                         · have hiN : i = m.elems.length := (by omega)
                           subst hiN; have ha2 : (m.elems.zip m'.elems).all elmQ = true := (by have := ha.out; rwa [zip_end h8.out] at this)
                           have S8 := zh (S7.out.trans (show sm7 m m' = sm8 m m' from by unfold sm7; rw [ha2]; rfl)); clear ha ha2 hi hlt; have x8 : wr.cell? ⟨w.heap.size, 8, none⟩ = some (.slice a8 m.elems.length k8) := keep_below hb.out _ _ (bx.out 8 _ rfl); have z8 : wr.cell? ⟨w.heap.size + 1, 8, none⟩ = some (.slice b8 m'.elems.length j8) := keep_below hb.out _ _ (by'.out 8 _ rfl); go_wp2_with fail; go_loopw [13] (fun vi wr => ∃ i : Nat, i ≤ m.datas.length ∧ vi = .int .i64 i ∧ Hid (((m.datas.zip m'.datas).take i).all datQ = true) ∧ Hid (Below w0.heap.size w0 wr)) (fun vi _ => m.datas.length - (intOf vi).toNat)
                           case atStart => exact ⟨0, Nat.zero_le _, rfl, zh rfl, hb⟩
                           case round =>
                            clear hb; obtain ⟨i, hi, rfl, ha, hb⟩ := hrel
                            by_cases hlt : i < m.datas.length
                            · obtain ⟨t, ht⟩ : ∃ t, m.datas[i]? = some t := ⟨_, List.getElem?_eq_getElem hlt⟩
                              obtain ⟨t', ht'⟩ : ∃ t, m'.datas[i]? = some t := ⟨_, List.getElem?_eq_getElem (by rw [← h9.out]; exact hlt)⟩
                              have hlt' : i < m'.datas.length := (by rw [← h9.out]; exact hlt)
                              obtain ⟨b, o, e, hrow⟩ := (HM.out.datas.keep fun _ _ _ => DataAt.keep (keep_below hb.out)).row ht; obtain ⟨b', o', e', hrow'⟩ := (HN.out.datas.keep fun _ _ _ => DataAt.keep (keep_below hb.out)).row ht'; have x9 : wr.cell? ⟨w.heap.size, 9, none⟩ = some (.slice a9 m.datas.length k9) := keep_below hb.out _ _ (bx.out 9 _ rfl); have z9 : wr.cell? ⟨w.heap.size + 1, 9, none⟩ = some (.slice b9 m'.datas.length j9) := keep_below hb.out _ _ (by'.out 9 _ rfl); subst e e'; have hn := zh (all_row (zip_at ht ht') ha.out); clear ht ht' ha; obtain ⟨⟨op, x1, y, n, ls, body, els⟩, s0⟩ := t; obtain ⟨⟨op', x1', y', n', ls', body', els'⟩, s0'⟩ := t'; obtain ⟨⟨⟨d0, d1, d2, d3⟩, ⟨u4, r4, d4, i4⟩, ⟨u5, r5, d5, l5, i5⟩, ⟨u6, r6, d6, l6, i6⟩, _⟩, ⟨c7, _⟩⟩ := hrow; obtain ⟨⟨⟨d0', d1', d2', d3'⟩, ⟨u4', r4', d4', i4'⟩, ⟨u5', r5', d5', l5', i5'⟩, ⟨u6', r6', d6', l6', i6'⟩, _⟩, ⟨c7', _⟩⟩ := hrow'; simp only at c7 c7'; have o1 : OneIs wr ⟨op, x1, y, n, ls, body, els⟩ u4 r4 u5 r5 u6 r6 := ⟨i4, l5, inv0 i5, l6, inv0 i6⟩
                              have o2 : OneIs wr ⟨op', x1', y', n', ls', body', els'⟩ u4' r4' u5' r5' u6' r6' := ⟨i4', l5', inv0 i5', l6', inv0 i6'⟩
                              obtain ⟨q1, eq1⟩ : ∃ c, decide (s0 = s0') = c := ⟨_, rfl⟩
                              have zq1 : (s0.toList == s0'.toList) = q1 := by
                               rw [← eq1]
                               by_cases h : s0 = s0'
                               · rw [h]; simp
                               · rw [decide_eq_false h, beq_eq_false_iff_ne]; exact fun e => h ((str_eq _ _).1 e)
                              obtain ⟨q2, eq2⟩ : ∃ c, ilEq (.cons op x1 y n ls body els .nil) (.cons op' x1' y' n' ls' body' els' .nil) = c := ⟨_, rfl⟩
                              go_upto_region 46 with fail
                              refine wpv_then ?_; intro K hK
                              go_cut [302] from 274 to 301 (fun sv wx => sv = cond q1 (.bool (!q2)) (.bool true) ∧ Hid (Below wr.heap.size wr wx))
                              case first => refine wp_fv _ 303 rfl (reg46 hmix rfl rfl rfl x9 z9 hlt hlt' n9 p9 d0 d0' d1 d1' d2 d2' d3 d3' d4 d4' d5 d5' d6 d6' c7 c7' o1 o2 zq1 eq2 ?_); intro w' f hbw hf; go_wp2_with fail; go_meet; exact ⟨hf, zh hbw⟩
                              case rest =>
                               obtain ⟨rfl, hbw⟩ := hcut; refine (hK _ _).2 ?_; clear hK; have hB := zh (hb.out.trans (hbw.out.mono hb.out.size)); cases q1
                               · have S' := zh (S8.out.trans (show sm8 m m' = false from by unfold sm8; rw [hn.out.2 (by show (decide (s0 = s0') && ilEq (.cons op x1 y n ls body els .nil) (.cons op' x1' y' n' ls' body' els' .nil)) = _; rw [eq1, eq2]; rfl)])); go_wp2; go_ret; exact ⟨by rw [S'.out]; rfl, hB0.out.trans (hB.out.mono hs0)⟩
                               · cases q2
                                 · have S' := zh (S8.out.trans (show sm8 m m' = false from by unfold sm8; rw [hn.out.2 (by show (decide (s0 = s0') && ilEq (.cons op x1 y n ls body els .nil) (.cons op' x1' y' n' ls' body' els' .nil)) = _; rw [eq1, eq2]; rfl)])); go_wp2; go_ret; exact ⟨by rw [S'.out]; rfl, hB0.out.trans (hB.out.mono hs0)⟩
                                 · have hfb := zh hB.out; go_wp2
                                   go_roundw
                                   case rel => exact ⟨i + 1, by omega, by simp, zh (hn.out.1 (by show (decide (s0 = s0') && ilEq (.cons op x1 y n ls body els .nil) (.cons op' x1' y' n' ls' body' els' .nil)) = _; rw [eq1, eq2]; rfl)), hfb⟩
                                   case measure => simp [intOf]; omega
                            · have hiN : i = m.datas.length := (by omega)
                              subst hiN; have ha2 : (m.datas.zip m'.datas).all datQ = true := (by have := ha.out; rwa [zip_end h9.out] at this)
                              have S9 := zh (S8.out.trans (show sm8 m m' = true from by unfold sm8; rw [ha2])); clear ha ha2 hi hlt; have x9 : wr.cell? ⟨w.heap.size, 9, none⟩ = some (.slice a9 m.datas.length k9) := keep_below hb.out _ _ (bx.out 9 _ rfl); have z9 : wr.cell? ⟨w.heap.size + 1, 9, none⟩ = some (.slice b9 m'.datas.length j9) := keep_below hb.out _ _ (by'.out 9 _ rfl); go_wp2_with fail; have hv := S9; go_wp2; go_ret; exact ⟨by rw [S9.out]; rfl, hB0.out.trans (hb.out.mono hs0)⟩

end Go.Proofs.YtanpjbbhhofkfaaGreatDoor
