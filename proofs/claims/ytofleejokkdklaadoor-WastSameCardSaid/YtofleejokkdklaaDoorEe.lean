/- The program's Same. -/
import Derived.Test.YtofleejokkdklaaDoorEd
import Derived.Test.YtofleejokkdklaaDoorMg
namespace Go.Proofs.YtofleejokkdklaaDoor
open Go.RowKit
set_option linter.unusedVariables false
set_option linter.unusedSimpArgs false

def pm9 (m m' : Md) : Bool := eqB datQ m.datas m'.datas
def pm8 (m m' : Md) : Bool := eqB elmQ m.elems m'.elems && pm9 m m'
def pm7 (m m' : Md) : Bool := decide (m.start = m'.start) && pm8 m m'
def pm6 (m m' : Md) : Bool := eqB expQ m.exports m'.exports && pm7 m m'
def pm5 (m m' : Md) : Bool := eqB gloQ m.globals m'.globals && pm6 m m'
def pm4 (m m' : Md) : Bool := eqB limQ m.mems m'.mems && pm5 m m'
def pm3 (m m' : Md) : Bool := eqB limQ m.tables m'.tables && pm4 m m'
def pm2 (m m' : Md) : Bool := eqB funQ m.funcs m'.funcs && pm3 m m'
def pm1 (m m' : Md) : Bool := eqB impQ m.imports m'.imports && pm2 m m'
def pm0 (m m' : Md) : Bool := eqB typQ m.types m'.types && pm1 m m'
set_option maxRecDepth 100000 in
set_option maxHeartbeats 4000000 in
theorem pSame_any (m m' : Md) (a0 : Option Addr) (k0 : Nat) (a1 : Option Addr) (k1 : Nat) (a2 : Option Addr) (k2 : Nat) (a3 : Option Addr) (k3 : Nat) (a4 : Option Addr) (k4 : Nat) (a5 : Option Addr) (k5 : Nat) (a6 : Option Addr) (k6 : Nat) (a7 : Option Addr) (k7 : Nat) (a8 : Option Addr) (k8 : Nat) (a9 : Option Addr) (k9 : Nat) (b0 : Option Addr) (j0 : Nat) (b1 : Option Addr) (j1 : Nat) (b2 : Option Addr) (j2 : Nat) (b3 : Option Addr) (j3 : Nat) (b4 : Option Addr) (j4 : Nat) (b5 : Option Addr) (j5 : Nat) (b6 : Option Addr) (j6 : Nat) (b7 : Option Addr) (j7 : Nat) (b8 : Option Addr) (j8 : Nat) (b9 : Option Addr) (j9 : Nat) (w : World) (h : MdAt w m a0 k0 a1 k1 a2 k2 a3 k3 a4 k4 a5 k5 a6 k6 a7 k7 a8 k8 a9 k9) (h' : MdAt w m' b0 j0 b1 j1 b2 j2 b3 j3 b4 j4 b5 j5 b6 j6 b7 j7 b8 j8 b9 j9) :
    Calls Tryd.prog 20 #[mdV m a0 k0 a1 k1 a2 k2 a3 k3 a4 k4 a5 k5 a6 k6 a7 k7 a8 k8 a9 k9, mdV m' b0 j0 b1 j1 b2 j2 b3 j3 b4 j4 b5 j5 b6 j6 b7 j7 b8 j8 b9 j9] w fun e w' => e = .returned (.bool (pm0 m m')) ∧ Below w.heap.size w w' := by
  have hB0 : Below w.heap.size w ((w.alloc (.cells #[.slice a0 m.types.length k0, .slice a1 m.imports.length k1, .slice a2 m.funcs.length k2, .slice a3 m.tables.length k3, .slice a4 m.mems.length k4, .slice a5 m.globals.length k5, .slice a6 m.exports.length k6, .slice a7 m.start.length k7, .slice a8 m.elems.length k8, .slice a9 m.datas.length k9] 36)).alloc (.cells #[.slice b0 m'.types.length j0, .slice b1 m'.imports.length j1, .slice b2 m'.funcs.length j2, .slice b3 m'.tables.length j3, .slice b4 m'.mems.length j4, .slice b5 m'.globals.length j5, .slice b6 m'.exports.length j6, .slice b7 m'.start.length j7, .slice b8 m'.elems.length j8, .slice b9 m'.datas.length j9] 36)) := ((Below.refl _ _).alloc (Nat.le_refl _) _).alloc (by simp) _
  have HM := Lib.hid (h.keep (keep_below hB0))
  have HN := Lib.hid (h'.keep (keep_below hB0))
  replace hB0 := Lib.hid hB0
  have n0 := h.types.1
  have p0 := h'.types.1
  have n1 := h.imports.1
  have p1 := h'.imports.1
  have n2 := h.funcs.1
  have p2 := h'.funcs.1
  have n3 := h.tables.1
  have p3 := h'.tables.1
  have n4 := h.mems.1
  have p4 := h'.mems.1
  have n5 := h.globals.1
  have p5 := h'.globals.1
  have n6 := h.exports.1
  have p6 := h'.exports.1
  have n7 := h.start.1
  have p7 := h'.start.1
  have n8 := h.elems.1
  have p8 := h'.elems.1
  have n9 := h.datas.1
  have p9 := h'.datas.1
  clear h h'
  unfold mdV
  go_enter Tryd.func20, Tryd.ntmps20
  obtain ⟨w0, hw0⟩ : ∃ w0, w0 = ((w.alloc (.cells #[.slice a0 m.types.length k0, .slice a1 m.imports.length k1, .slice a2 m.funcs.length k2, .slice a3 m.tables.length k3, .slice a4 m.mems.length k4, .slice a5 m.globals.length k5, .slice a6 m.exports.length k6, .slice a7 m.start.length k7, .slice a8 m.elems.length k8, .slice a9 m.datas.length k9] 36)).alloc (.cells #[.slice b0 m'.types.length j0, .slice b1 m'.imports.length j1, .slice b2 m'.funcs.length j2, .slice b3 m'.tables.length j3, .slice b4 m'.mems.length j4, .slice b5 m'.globals.length j5, .slice b6 m'.exports.length j6, .slice b7 m'.start.length j7, .slice b8 m'.elems.length j8, .slice b9 m'.datas.length j9] 36)) := ⟨_, rfl⟩
  have bx : Box w0 w.heap.size #[.slice a0 m.types.length k0, .slice a1 m.imports.length k1, .slice a2 m.funcs.length k2, .slice a3 m.tables.length k3, .slice a4 m.mems.length k4, .slice a5 m.globals.length k5, .slice a6 m.exports.length k6, .slice a7 m.start.length k7, .slice a8 m.elems.length k8, .slice a9 m.datas.length k9] := by rw [hw0]; exact (box_new w _ _).keep (keeps_new _ _)
  have bz : Box w0 (w.heap.size + 1) #[.slice b0 m'.types.length j0, .slice b1 m'.imports.length j1, .slice b2 m'.funcs.length j2, .slice b3 m'.tables.length j3, .slice b4 m'.mems.length j4, .slice b5 m'.globals.length j5, .slice b6 m'.exports.length j6, .slice b7 m'.start.length j7, .slice b8 m'.elems.length j8, .slice b9 m'.datas.length j9] := by rw [hw0]; exact box_new2 w _ _ _
  have e0 : ((w.alloc (.cells #[.slice a0 m.types.length k0, .slice a1 m.imports.length k1, .slice a2 m.funcs.length k2, .slice a3 m.tables.length k3, .slice a4 m.mems.length k4, .slice a5 m.globals.length k5, .slice a6 m.exports.length k6, .slice a7 m.start.length k7, .slice a8 m.elems.length k8, .slice a9 m.datas.length k9] 36)).alloc (.cells #[.slice b0 m'.types.length j0, .slice b1 m'.imports.length j1, .slice b2 m'.funcs.length j2, .slice b3 m'.tables.length j3, .slice b4 m'.mems.length j4, .slice b5 m'.globals.length j5, .slice b6 m'.exports.length j6, .slice b7 m'.start.length j7, .slice b8 m'.elems.length j8, .slice b9 m'.datas.length j9] 36)).cell? ⟨w.heap.size, 0, none⟩ = some (.slice a0 m.types.length k0) := by rw [← hw0]; exact bx 0 _ rfl
  have f0 : ((w.alloc (.cells #[.slice a0 m.types.length k0, .slice a1 m.imports.length k1, .slice a2 m.funcs.length k2, .slice a3 m.tables.length k3, .slice a4 m.mems.length k4, .slice a5 m.globals.length k5, .slice a6 m.exports.length k6, .slice a7 m.start.length k7, .slice a8 m.elems.length k8, .slice a9 m.datas.length k9] 36)).alloc (.cells #[.slice b0 m'.types.length j0, .slice b1 m'.imports.length j1, .slice b2 m'.funcs.length j2, .slice b3 m'.tables.length j3, .slice b4 m'.mems.length j4, .slice b5 m'.globals.length j5, .slice b6 m'.exports.length j6, .slice b7 m'.start.length j7, .slice b8 m'.elems.length j8, .slice b9 m'.datas.length j9] 36)).cell? ⟨w.heap.size + 1, 0, none⟩ = some (.slice b0 m'.types.length j0) := by rw [← hw0]; exact bz 0 _ rfl
  replace bx := Lib.hid bx
  replace bz := Lib.hid bz
  replace hw0 := Lib.hid hw0
  go_wp2_with fail
  rw [← hw0.out]
  rw [← hw0.out] at HM HN hB0
  clear e0 f0 hw0
  have hb0 : Hid (Below w0.heap.size w0 w0) := Lib.hid (Below.refl _ _)
  refine (eqF_types m.types m'.types a0 b0 k0 j0 _ (HM.out.types.keep fun _ _ _ h => h.keep (keep_below hb0.out)) (HN.out.types.keep fun _ _ _ h => h.keep (keep_below hb0.out))).mono ?_
  rintro e w1 ⟨rfl, tt⟩
  have hb1 := Lib.hid (hb0.out.trans (tt.mono hb0.out.size))
  clear tt
  cases hq : eqB typQ m.types m'.types
  · have hv : pm0 m m' = false := by unfold pm0; rw [hq]; rfl
    replace hv := Lib.hid hv
    clear hq
    go_wp2
    go_ret
    exact ⟨by rw [hv.out]; rfl, hB0.out.trans (hb1.out.mono hB0.out.size)⟩
  have S1 : Hid (pm0 m m' = pm1 m m') := Lib.hid (by unfold pm0; rw [hq]; rfl)
  clear hq
  have x1 : w1.cell? ⟨w.heap.size, 1, none⟩ = some (.slice a1 m.imports.length k1) := keep_below hb1.out _ _ (bx.out 1 _ rfl)
  have z1 : w1.cell? ⟨w.heap.size + 1, 1, none⟩ = some (.slice b1 m'.imports.length j1) := keep_below hb1.out _ _ (bz.out 1 _ rfl)
  go_wp2_with fail
  refine (equalImports_any m.imports m'.imports a1 b1 k1 j1 _ (HM.out.imports.keep fun _ _ _ h => h.keep (keep_below hb1.out)) (HN.out.imports.keep fun _ _ _ h => h.keep (keep_below hb1.out))).mono ?_
  rintro e w2 ⟨rfl, mm, hmm⟩
  have tt : Below w1.heap.size w1 w2 := by rw [hmm]; exact below_drewN (Below.refl _ _) mm
  clear hmm
  have hb2 := Lib.hid (hb1.out.trans (tt.mono hb1.out.size))
  clear tt
  clear x1 z1
  cases hq : eqB impQ m.imports m'.imports
  · have hv : pm0 m m' = false := S1.out.trans (by unfold pm1; rw [hq]; rfl)
    replace hv := Lib.hid hv
    clear hq
    go_wp2
    go_ret
    exact ⟨by rw [hv.out]; rfl, hB0.out.trans (hb2.out.mono hB0.out.size)⟩
  have S2 : Hid (pm0 m m' = pm2 m m') := Lib.hid (S1.out.trans (by unfold pm1; rw [hq]; rfl))
  clear hq
  have x2 : w2.cell? ⟨w.heap.size, 2, none⟩ = some (.slice a2 m.funcs.length k2) := keep_below hb2.out _ _ (bx.out 2 _ rfl)
  have z2 : w2.cell? ⟨w.heap.size + 1, 2, none⟩ = some (.slice b2 m'.funcs.length j2) := keep_below hb2.out _ _ (bz.out 2 _ rfl)
  go_wp2_with fail
  refine (eqF_funcs m.funcs m'.funcs a2 b2 k2 j2 _ (HM.out.funcs.keep fun _ _ _ h => h.keep (keep_below hb2.out)) (HN.out.funcs.keep fun _ _ _ h => h.keep (keep_below hb2.out))).mono ?_
  rintro e w3 ⟨rfl, tt⟩
  have hb3 := Lib.hid (hb2.out.trans (tt.mono hb2.out.size))
  clear tt
  clear x2 z2
  cases hq : eqB funQ m.funcs m'.funcs
  · have hv : pm0 m m' = false := S2.out.trans (by unfold pm2; rw [hq]; rfl)
    replace hv := Lib.hid hv
    clear hq
    go_wp2
    go_ret
    exact ⟨by rw [hv.out]; rfl, hB0.out.trans (hb3.out.mono hB0.out.size)⟩
  have S3 : Hid (pm0 m m' = pm3 m m') := Lib.hid (S2.out.trans (by unfold pm2; rw [hq]; rfl))
  clear hq
  have x3 : w3.cell? ⟨w.heap.size, 3, none⟩ = some (.slice a3 m.tables.length k3) := keep_below hb3.out _ _ (bx.out 3 _ rfl)
  have z3 : w3.cell? ⟨w.heap.size + 1, 3, none⟩ = some (.slice b3 m'.tables.length j3) := keep_below hb3.out _ _ (bz.out 3 _ rfl)
  go_wp2_with fail
  refine (equalLimits_any m.tables m'.tables a3 b3 k3 j3 _ (HM.out.tables.keep fun _ _ _ h => h.keep (keep_below hb3.out)) (HN.out.tables.keep fun _ _ _ h => h.keep (keep_below hb3.out))).mono ?_
  rintro e w4 ⟨rfl, mm, hmm⟩
  have tt : Below w3.heap.size w3 w4 := by rw [hmm]; exact below_drewN (Below.refl _ _) mm
  clear hmm
  have hb4 := Lib.hid (hb3.out.trans (tt.mono hb3.out.size))
  clear tt
  clear x3 z3
  cases hq : eqB limQ m.tables m'.tables
  · have hv : pm0 m m' = false := S3.out.trans (by unfold pm3; rw [hq]; rfl)
    replace hv := Lib.hid hv
    clear hq
    go_wp2
    go_ret
    exact ⟨by rw [hv.out]; rfl, hB0.out.trans (hb4.out.mono hB0.out.size)⟩
  have S4 : Hid (pm0 m m' = pm4 m m') := Lib.hid (S3.out.trans (by unfold pm3; rw [hq]; rfl))
  clear hq
  have x4 : w4.cell? ⟨w.heap.size, 4, none⟩ = some (.slice a4 m.mems.length k4) := keep_below hb4.out _ _ (bx.out 4 _ rfl)
  have z4 : w4.cell? ⟨w.heap.size + 1, 4, none⟩ = some (.slice b4 m'.mems.length j4) := keep_below hb4.out _ _ (bz.out 4 _ rfl)
  go_wp2_with fail
  refine (equalLimits_any m.mems m'.mems a4 b4 k4 j4 _ (HM.out.mems.keep fun _ _ _ h => h.keep (keep_below hb4.out)) (HN.out.mems.keep fun _ _ _ h => h.keep (keep_below hb4.out))).mono ?_
  rintro e w5 ⟨rfl, mm, hmm⟩
  have tt : Below w4.heap.size w4 w5 := by rw [hmm]; exact below_drewN (Below.refl _ _) mm
  clear hmm
  have hb5 := Lib.hid (hb4.out.trans (tt.mono hb4.out.size))
  clear tt
  clear x4 z4
  cases hq : eqB limQ m.mems m'.mems
  · have hv : pm0 m m' = false := S4.out.trans (by unfold pm4; rw [hq]; rfl)
    replace hv := Lib.hid hv
    clear hq
    go_wp2
    go_ret
    exact ⟨by rw [hv.out]; rfl, hB0.out.trans (hb5.out.mono hB0.out.size)⟩
  have S5 : Hid (pm0 m m' = pm5 m m') := Lib.hid (S4.out.trans (by unfold pm4; rw [hq]; rfl))
  clear hq
  have x5 : w5.cell? ⟨w.heap.size, 5, none⟩ = some (.slice a5 m.globals.length k5) := keep_below hb5.out _ _ (bx.out 5 _ rfl)
  have z5 : w5.cell? ⟨w.heap.size + 1, 5, none⟩ = some (.slice b5 m'.globals.length j5) := keep_below hb5.out _ _ (bz.out 5 _ rfl)
  go_wp2_with fail
  refine (eqF_globals m.globals m'.globals a5 b5 k5 j5 _ (HM.out.globals.keep fun _ _ _ h => h.keep (keep_below hb5.out)) (HN.out.globals.keep fun _ _ _ h => h.keep (keep_below hb5.out))).mono ?_
  rintro e w6 ⟨rfl, tt⟩
  have hb6 := Lib.hid (hb5.out.trans (tt.mono hb5.out.size))
  clear tt
  clear x5 z5
  cases hq : eqB gloQ m.globals m'.globals
  · have hv : pm0 m m' = false := S5.out.trans (by unfold pm5; rw [hq]; rfl)
    replace hv := Lib.hid hv
    clear hq
    go_wp2
    go_ret
    exact ⟨by rw [hv.out]; rfl, hB0.out.trans (hb6.out.mono hB0.out.size)⟩
  have S6 : Hid (pm0 m m' = pm6 m m') := Lib.hid (S5.out.trans (by unfold pm5; rw [hq]; rfl))
  clear hq
  have x6 : w6.cell? ⟨w.heap.size, 6, none⟩ = some (.slice a6 m.exports.length k6) := keep_below hb6.out _ _ (bx.out 6 _ rfl)
  have z6 : w6.cell? ⟨w.heap.size + 1, 6, none⟩ = some (.slice b6 m'.exports.length j6) := keep_below hb6.out _ _ (bz.out 6 _ rfl)
  go_wp2_with fail
  refine (equalExports_any m.exports m'.exports a6 b6 k6 j6 _ (HM.out.exports.keep fun _ _ _ h => h.keep (keep_below hb6.out)) (HN.out.exports.keep fun _ _ _ h => h.keep (keep_below hb6.out))).mono ?_
  rintro e w7 ⟨rfl, mm, hmm⟩
  have tt : Below w6.heap.size w6 w7 := by rw [hmm]; exact below_drewN (Below.refl _ _) mm
  clear hmm
  have hb7 := Lib.hid (hb6.out.trans (tt.mono hb6.out.size))
  clear tt
  clear x6 z6
  cases hq : eqB expQ m.exports m'.exports
  · have hv : pm0 m m' = false := S6.out.trans (by unfold pm6; rw [hq]; rfl)
    replace hv := Lib.hid hv
    clear hq
    go_wp2
    go_ret
    exact ⟨by rw [hv.out]; rfl, hB0.out.trans (hb7.out.mono hB0.out.size)⟩
  have S7 : Hid (pm0 m m' = pm7 m m') := Lib.hid (S6.out.trans (by unfold pm6; rw [hq]; rfl))
  clear hq
  have x7 : w7.cell? ⟨w.heap.size, 7, none⟩ = some (.slice a7 m.start.length k7) := keep_below hb7.out _ _ (bx.out 7 _ rfl)
  have z7 : w7.cell? ⟨w.heap.size + 1, 7, none⟩ = some (.slice b7 m'.start.length j7) := keep_below hb7.out _ _ (bz.out 7 _ rfl)
  go_wp2_with fail
  refine (equalInts_any m.start m'.start a7 b7 k7 j7 _ (HM.out.start.keep (keep_below hb7.out)) (HN.out.start.keep (keep_below hb7.out))).mono ?_
  rintro e w8 ⟨rfl, mm, hmm⟩
  have tt : Below w7.heap.size w7 w8 := by rw [hmm]; exact below_drewN (Below.refl _ _) mm
  clear hmm
  have hb8 := Lib.hid (hb7.out.trans (tt.mono hb7.out.size))
  clear tt
  clear x7 z7
  cases hq : decide (m.start = m'.start)
  · have hv : pm0 m m' = false := S7.out.trans (by unfold pm7; rw [hq]; rfl)
    replace hv := Lib.hid hv
    clear hq
    go_wp2
    go_ret
    exact ⟨by rw [hv.out]; rfl, hB0.out.trans (hb8.out.mono hB0.out.size)⟩
  have S8 : Hid (pm0 m m' = pm8 m m') := Lib.hid (S7.out.trans (by unfold pm7; rw [hq]; rfl))
  clear hq
  have x8 : w8.cell? ⟨w.heap.size, 8, none⟩ = some (.slice a8 m.elems.length k8) := keep_below hb8.out _ _ (bx.out 8 _ rfl)
  have z8 : w8.cell? ⟨w.heap.size + 1, 8, none⟩ = some (.slice b8 m'.elems.length j8) := keep_below hb8.out _ _ (bz.out 8 _ rfl)
  go_wp2_with fail
  refine (eqF_elems m.elems m'.elems a8 b8 k8 j8 _ (HM.out.elems.keep fun _ _ _ h => h.keep (keep_below hb8.out)) (HN.out.elems.keep fun _ _ _ h => h.keep (keep_below hb8.out))).mono ?_
  rintro e w9 ⟨rfl, tt⟩
  have hb9 := Lib.hid (hb8.out.trans (tt.mono hb8.out.size))
  clear tt
  clear x8 z8
  cases hq : eqB elmQ m.elems m'.elems
  · have hv : pm0 m m' = false := S8.out.trans (by unfold pm8; rw [hq]; rfl)
    replace hv := Lib.hid hv
    clear hq
    go_wp2
    go_ret
    exact ⟨by rw [hv.out]; rfl, hB0.out.trans (hb9.out.mono hB0.out.size)⟩
  have S9 : Hid (pm0 m m' = pm9 m m') := Lib.hid (S8.out.trans (by unfold pm8; rw [hq]; rfl))
  clear hq
  have x9 : w9.cell? ⟨w.heap.size, 9, none⟩ = some (.slice a9 m.datas.length k9) := keep_below hb9.out _ _ (bx.out 9 _ rfl)
  have z9 : w9.cell? ⟨w.heap.size + 1, 9, none⟩ = some (.slice b9 m'.datas.length j9) := keep_below hb9.out _ _ (bz.out 9 _ rfl)
  go_wp2_with fail
  refine (eqF_datas m.datas m'.datas a9 b9 k9 j9 _ (HM.out.datas.keep fun _ _ _ h => h.keep (keep_below hb9.out)) (HN.out.datas.keep fun _ _ _ h => h.keep (keep_below hb9.out))).mono ?_
  rintro e w10 ⟨rfl, tt⟩
  have hb10 := Lib.hid (hb9.out.trans (tt.mono hb9.out.size))
  clear tt
  clear x9 z9
  have hv : pm0 m m' = eqB datQ m.datas m'.datas := S9.out
  replace hv := Lib.hid hv
  go_wp2
  go_ret
  exact ⟨by rw [hv.out]; rfl, hB0.out.trans (hb10.out.mono hB0.out.size)⟩
end Go.Proofs.YtofleejokkdklaaDoor
