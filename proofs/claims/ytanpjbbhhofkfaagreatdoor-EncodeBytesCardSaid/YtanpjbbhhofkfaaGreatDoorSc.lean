/- Sc -/
import Derived.Test.YtanpjbbhhofkfaaGreatDoorMh
import Derived.Test.YtanpjbbhhofkfaaGreatDoorOa
import Derived.Test.YtanpjbbhhofkfaaGreatDoorSa
namespace Go.Proofs.YtanpjbbhhofkfaaGreatDoor
open Go.RowKit
set_option linter.unusedVariables false
set_option linter.unusedSimpArgs false
set_option maxRecDepth 100000
set_option maxHeartbeats 40000000
theorem instr_any (op x y n : Int) (ls : List Int) (body els : Il) (a4 : Option Addr) (k4 : Nat) (a5 : Option Addr) (k5 : Nat) (a6 : Option Addr) (k6 : Nat)
 (op' x' y' n' : Int) (ls' : List Int) (body' els' : Il) (a4' : Option Addr) (k4' : Nat) (a5' : Option Addr) (k5' : Nat) (a6' : Option Addr) (k6' : Nat) (w : World)
 (h : OneIs w ⟨op, x, y, n, ls, body, els⟩ a4 k4 a5 k5 a6 k6) (h' : OneIs w ⟨op', x', y', n', ls', body', els'⟩ a4' k4' a5' k5' a6' k6') :
 Calls Tryz.prog 35 #[.agg #[.int .i64 op, .int .i64 x, .int .i64 y, .int .i64 n, .slice a4 ls.length k4, .slice a5 body.len k5, .slice a6 els.len k6], .agg #[.int .i64 op', .int .i64 x', .int .i64 y', .int .i64 n', .slice a4' ls'.length k4', .slice a5' body'.len k5', .slice a6' els'.len k6']] w
  fun e w' => e = .returned (.bool (ilEq (.cons op x y n ls body els .nil) (.cons op' x' y' n' ls' body' els' .nil))) ∧ Below w.heap.size w w' := by
 have L1 : ls.length ≤ 9223372036854775807 := h.i4.1; have L1' : ls'.length ≤ 9223372036854775807 := h'.i4.1; have L2 : body.len ≤ 9223372036854775807 := h.l5; have L2' : body'.len ≤ 9223372036854775807 := h'.l5; have L3 : els.len ≤ 9223372036854775807 := h.l6; have L3' : els'.len ≤ 9223372036854775807 := h'.l6; obtain ⟨A, hA⟩ : ∃ A, A = Obj.cells #[.int .i64 op, .int .i64 x, .int .i64 y, .int .i64 n, .slice a4 ls.length k4, .slice a5 body.len k5, .slice a6 els.len k6] 46 := ⟨_, rfl⟩
 obtain ⟨B, hB⟩ : ∃ B, B = Obj.cells #[.int .i64 op', .int .i64 x', .int .i64 y', .int .i64 n', .slice a4' ls'.length k4', .slice a5' body'.len k5', .slice a6' els'.len k6'] 46 := ⟨_, rfl⟩
 have f2 : Keeps w ((w.alloc A).alloc B) := (keeps_alloc _ _).trans (keeps_alloc _ _); have f3 : Keeps w (((w.alloc A).alloc B).alloc A) := f2.trans (keeps_alloc _ _)
 have g1 : IlIn (((w.alloc A).alloc B).alloc A) (some ⟨((w.alloc A).alloc B).heap.size, 0, none⟩) 0 (.cons op x y n ls body els .nil) := by have := (h.keep f2).new; rw [hA] at this ⊢; exact this
 have g2 : IlIn ((((w.alloc A).alloc B).alloc A).alloc B) (some ⟨(((w.alloc A).alloc B).alloc A).heap.size, 0, none⟩) 0 (.cons op' x' y' n' ls' body' els' .nil) := by have := (h'.keep f3).new; rw [hB] at this ⊢; exact this
 have g1' := g1.keep (keeps_alloc _ B); have hbel : Below w.heap.size w ((((w.alloc A).alloc B).alloc A).alloc B) := ((((Below.refl _ _).alloc (Nat.le_refl _) _).alloc (by simp) _).alloc (by simp; omega) _).alloc (by simp; omega) _; have e1 : ((w.alloc A).alloc B).heap.size = w.heap.size + 1 + 1 := (by simp)
 have e2 : (((w.alloc A).alloc B).alloc A).heap.size = w.heap.size + 1 + 1 + 1 := (by simp)
 rw [e1] at g1'; rw [e2] at g2; have hcall := zh (instrs_any (.cons op x y n ls body els .nil) (.cons op' x' y' n' ls' body' els' .nil) _ _ 1 1 _ (by show 0 + 1 ≤ _; omega) (by show 0 + 1 ≤ _; omega) g1' g2); have hbel := zh hbel; clear g1 g2 g1' f2 f3 h h' e1 e2; subst hA; subst hB; go_enter Tryz.func35, Tryz.ntmps35; go_wp2_with fail; refine hcall.out.mono ?_; rintro e w2 ⟨rfl, b2⟩; have hfin := hbel.out.trans (b2.mono hbel.out.size); clear b2; go_wp2; go_ret; exact ⟨rfl, hfin⟩
def sizesB (m m' : Md) : Bool := (decide (m.types.length = m'.types.length) && (decide (m.imports.length = m'.imports.length) && (decide (m.funcs.length = m'.funcs.length) && (decide (m.tables.length = m'.tables.length) && (decide (m.mems.length = m'.mems.length) && (decide (m.globals.length = m'.globals.length) && (decide (m.exports.length = m'.exports.length) && (decide (m.start = m'.start) && (decide (m.elems.length = m'.elems.length) && decide (m.datas.length = m'.datas.length))))))))))
theorem sizes_any (m m' : Md) (a0 : Option Addr) (k0 : Nat) (a1 : Option Addr) (k1 : Nat) (a2 : Option Addr) (k2 : Nat) (a3 : Option Addr) (k3 : Nat) (a4 : Option Addr) (k4 : Nat) (a5 : Option Addr) (k5 : Nat) (a6 : Option Addr) (k6 : Nat) (a7 : Option Addr) (k7 : Nat) (a8 : Option Addr) (k8 : Nat) (a9 : Option Addr) (k9 : Nat) (b0 : Option Addr) (j0 : Nat) (b1 : Option Addr) (j1 : Nat) (b2 : Option Addr) (j2 : Nat) (b3 : Option Addr) (j3 : Nat) (b4 : Option Addr) (j4 : Nat) (b5 : Option Addr) (j5 : Nat) (b6 : Option Addr) (j6 : Nat) (b7 : Option Addr) (j7 : Nat) (b8 : Option Addr) (j8 : Nat) (b9 : Option Addr) (j9 : Nat) (w : World) (h : MdAt w m a0 k0 a1 k1 a2 k2 a3 k3 a4 k4 a5 k5 a6 k6 a7 k7 a8 k8 a9 k9) (h' : MdAt w m' b0 j0 b1 j1 b2 j2 b3 j3 b4 j4 b5 j5 b6 j6 b7 j7 b8 j8 b9 j9) :
 Calls Tryz.prog 32 #[mdV m a0 k0 a1 k1 a2 k2 a3 k3 a4 k4 a5 k5 a6 k6 a7 k7 a8 k8 a9 k9, mdV m' b0 j0 b1 j1 b2 j2 b3 j3 b4 j4 b5 j5 b6 j6 b7 j7 b8 j8 b9 j9] w fun e w' => e = .returned (.bool (sizesB m m')) ∧ Below w.heap.size w w' := by
 have hbel := zh (((Below.refl w.heap.size w).alloc (Nat.le_refl _) (.cells (mdA m a0 k0 a1 k1 a2 k2 a3 k3 a4 k4 a5 k5 a6 k6 a7 k7 a8 k8 a9 k9) 32)).alloc (by simp) (.cells (mdA m' b0 j0 b1 j1 b2 j2 b3 j3 b4 j4 b5 j5 b6 j6 b7 j7 b8 j8 b9 j9) 32)); have hs1 := zh (h.start.keep (keep_below hbel.out)); have hs2 := zh (h'.start.keep (keep_below hbel.out)); have n0 := h.types.1; have p0 := h'.types.1; have n1 := h.imports.1; have p1 := h'.imports.1; have n2 := h.funcs.1; have p2 := h'.funcs.1; have n3 := h.tables.1; have p3 := h'.tables.1; have n4 := h.mems.1; have p4 := h'.mems.1; have n5 := h.globals.1; have p5 := h'.globals.1; have n6 := h.exports.1; have p6 := h'.exports.1; have n7 := h.start.1; have p7 := h'.start.1; have n8 := h.elems.1; have p8 := h'.elems.1; have n9 := h.datas.1; have p9 := h'.datas.1; have S0 : Hid (sizesB m m' = (decide (m.types.length = m'.types.length) && (decide (m.imports.length = m'.imports.length) && (decide (m.funcs.length = m'.funcs.length) && (decide (m.tables.length = m'.tables.length) && (decide (m.mems.length = m'.mems.length) && (decide (m.globals.length = m'.globals.length) && (decide (m.exports.length = m'.exports.length) && (decide (m.start = m'.start) && (decide (m.elems.length = m'.elems.length) && decide (m.datas.length = m'.datas.length))))))))))) := zh rfl
 clear h h'; unfold mdV; go_enter Tryz.func32, Tryz.ntmps32
 by_cases h0 : m.types.length = m'.types.length
 · have T0 : Hid (sizesB m m' = (decide (m.imports.length = m'.imports.length) && (decide (m.funcs.length = m'.funcs.length) && (decide (m.tables.length = m'.tables.length) && (decide (m.mems.length = m'.mems.length) && (decide (m.globals.length = m'.globals.length) && (decide (m.exports.length = m'.exports.length) && (decide (m.start = m'.start) && (decide (m.elems.length = m'.elems.length) && decide (m.datas.length = m'.datas.length)))))))))) := zh (by rw [S0.out, decide_eq_true h0]; rfl); have z0 : ((m.types.length : Int) == (m'.types.length : Int)) = true := (by simp [h0])
   clear h0
   by_cases h1 : m.imports.length = m'.imports.length
   · have T1 : Hid (sizesB m m' = (decide (m.funcs.length = m'.funcs.length) && (decide (m.tables.length = m'.tables.length) && (decide (m.mems.length = m'.mems.length) && (decide (m.globals.length = m'.globals.length) && (decide (m.exports.length = m'.exports.length) && (decide (m.start = m'.start) && (decide (m.elems.length = m'.elems.length) && decide (m.datas.length = m'.datas.length))))))))) := zh (by rw [T0.out, decide_eq_true h1]; rfl); have z1 : ((m.imports.length : Int) == (m'.imports.length : Int)) = true := (by simp [h1])
     clear h1
     by_cases h2 : m.funcs.length = m'.funcs.length
     · have T2 : Hid (sizesB m m' = (decide (m.tables.length = m'.tables.length) && (decide (m.mems.length = m'.mems.length) && (decide (m.globals.length = m'.globals.length) && (decide (m.exports.length = m'.exports.length) && (decide (m.start = m'.start) && (decide (m.elems.length = m'.elems.length) && decide (m.datas.length = m'.datas.length)))))))) := zh (by rw [T1.out, decide_eq_true h2]; rfl); have z2 : ((m.funcs.length : Int) == (m'.funcs.length : Int)) = true := (by simp [h2])
       clear h2
       by_cases h3 : m.tables.length = m'.tables.length
       · have T3 : Hid (sizesB m m' = (decide (m.mems.length = m'.mems.length) && (decide (m.globals.length = m'.globals.length) && (decide (m.exports.length = m'.exports.length) && (decide (m.start = m'.start) && (decide (m.elems.length = m'.elems.length) && decide (m.datas.length = m'.datas.length))))))) := zh (by rw [T2.out, decide_eq_true h3]; rfl); have z3 : ((m.tables.length : Int) == (m'.tables.length : Int)) = true := (by simp [h3])
         clear h3
         by_cases h4 : m.mems.length = m'.mems.length
         · have T4 : Hid (sizesB m m' = (decide (m.globals.length = m'.globals.length) && (decide (m.exports.length = m'.exports.length) && (decide (m.start = m'.start) && (decide (m.elems.length = m'.elems.length) && decide (m.datas.length = m'.datas.length)))))) := zh (by rw [T3.out, decide_eq_true h4]; rfl); have z4 : ((m.mems.length : Int) == (m'.mems.length : Int)) = true := (by simp [h4])
           clear h4
           by_cases h5 : m.globals.length = m'.globals.length
           · have T5 : Hid (sizesB m m' = (decide (m.exports.length = m'.exports.length) && (decide (m.start = m'.start) && (decide (m.elems.length = m'.elems.length) && decide (m.datas.length = m'.datas.length))))) := zh (by rw [T4.out, decide_eq_true h5]; rfl); have z5 : ((m.globals.length : Int) == (m'.globals.length : Int)) = true := (by simp [h5])
             clear h5
             by_cases h6 : m.exports.length = m'.exports.length
             · have T6 : Hid (sizesB m m' = (decide (m.start = m'.start) && (decide (m.elems.length = m'.elems.length) && decide (m.datas.length = m'.datas.length)))) := zh (by rw [T5.out, decide_eq_true h6]; rfl); have z6 : ((m.exports.length : Int) == (m'.exports.length : Int)) = true := (by simp [h6])
               clear h6; go_wp2_with fail; refine (keepSame_any m.start m'.start a7 b7 k7 j7 _ hs1.out hs2.out).mono ?_; rintro e w2 ⟨rfl, mm, rfl⟩
               by_cases h7 : m.start = m'.start
               · have T7 : Hid (sizesB m m' = (decide (m.elems.length = m'.elems.length) && decide (m.datas.length = m'.datas.length))) := zh (by rw [T6.out, decide_eq_true h7]; rfl); rw [decide_eq_true h7]; clear h7
                 by_cases h8 : m.elems.length = m'.elems.length
                 · have T8 : Hid (sizesB m m' = decide (m.datas.length = m'.datas.length)) := zh (by rw [T7.out, decide_eq_true h8]; rfl); have z8 : ((m.elems.length : Int) == (m'.elems.length : Int)) = true := (by simp [h8])
                   clear h8
                   by_cases h9 : m.datas.length = m'.datas.length
                   · have T9 : Hid (sizesB m m' = true) := zh (by rw [T8.out, decide_eq_true h9]); have z9 : ((m.datas.length : Int) == (m'.datas.length : Int)) = true := (by simp [h9])
                     clear h9; go_wp2; go_ret; exact ⟨by rw [T9.out]; rfl, below_drewN hbel.out mm⟩
                   · have T9 : Hid (sizesB m m' = false) := zh (by rw [T8.out, decide_eq_false h9]); have z9 : ((m.datas.length : Int) == (m'.datas.length : Int)) = false := (by simp; omega)
                     go_wp2; go_ret; exact ⟨by rw [T9.out]; rfl, below_drewN hbel.out mm⟩
                 · have T8 : Hid (sizesB m m' = false) := zh (by rw [T7.out, decide_eq_false h8]; rfl); have z8 : ((m.elems.length : Int) == (m'.elems.length : Int)) = false := (by simp; omega)
                   go_wp2; go_ret; exact ⟨by rw [T8.out]; rfl, below_drewN hbel.out mm⟩
               · have T7 : Hid (sizesB m m' = false) := zh (by rw [T6.out, decide_eq_false h7]; rfl); rw [decide_eq_false h7]; go_wp2; go_ret; exact ⟨by rw [T7.out]; rfl, below_drewN hbel.out mm⟩
             · have T6 : Hid (sizesB m m' = false) := zh (by rw [T5.out, decide_eq_false h6]; rfl); have z6 : ((m.exports.length : Int) == (m'.exports.length : Int)) = false := (by simp; omega)
               go_wp2; go_ret; exact ⟨by rw [T6.out]; rfl, hbel.out⟩
           · have T5 : Hid (sizesB m m' = false) := zh (by rw [T4.out, decide_eq_false h5]; rfl); have z5 : ((m.globals.length : Int) == (m'.globals.length : Int)) = false := (by simp; omega)
             go_wp2; go_ret; exact ⟨by rw [T5.out]; rfl, hbel.out⟩
         · have T4 : Hid (sizesB m m' = false) := zh (by rw [T3.out, decide_eq_false h4]; rfl); have z4 : ((m.mems.length : Int) == (m'.mems.length : Int)) = false := (by simp; omega)
           go_wp2; go_ret; exact ⟨by rw [T4.out]; rfl, hbel.out⟩
       · have T3 : Hid (sizesB m m' = false) := zh (by rw [T2.out, decide_eq_false h3]; rfl); have z3 : ((m.tables.length : Int) == (m'.tables.length : Int)) = false := (by simp; omega)
         go_wp2; go_ret; exact ⟨by rw [T3.out]; rfl, hbel.out⟩
     · have T2 : Hid (sizesB m m' = false) := zh (by rw [T1.out, decide_eq_false h2]; rfl); have z2 : ((m.funcs.length : Int) == (m'.funcs.length : Int)) = false := (by simp; omega)
       go_wp2; go_ret; exact ⟨by rw [T2.out]; rfl, hbel.out⟩
   · have T1 : Hid (sizesB m m' = false) := zh (by rw [T0.out, decide_eq_false h1]; rfl); have z1 : ((m.imports.length : Int) == (m'.imports.length : Int)) = false := (by simp; omega)
     go_wp2; go_ret; exact ⟨by rw [T1.out]; rfl, hbel.out⟩
 · have T0 : Hid (sizesB m m' = false) := zh (by rw [S0.out, decide_eq_false h0]; rfl); have z0 : ((m.types.length : Int) == (m'.types.length : Int)) = false := (by simp; omega)
   go_wp2; go_ret; exact ⟨by rw [T0.out]; rfl, hbel.out⟩
end Go.Proofs.YtanpjbbhhofkfaaGreatDoor
