/- WastSame over what was given: its walk. -/
import Derived.Test.YtofleejokkdklaaDoorEf
import Derived.Test.YtofleejokkdklaaDoorWa
import Derived.Test.YtofleejokkdklaaDoorLd
import Derived.Test.YtofleejokkdklaaDoorOp
import Derived.SizedLaws
namespace Go.Proofs.YtofleejokkdklaaDoor
open Go.RowKit
set_option linter.unusedVariables false
set_option linter.unusedSimpArgs false

set_option maxRecDepth 100000 in
set_option maxHeartbeats 4000000 in
theorem same_any (m m' : Md) (a0 : Option Addr) (k0 : Nat) (a1 : Option Addr) (k1 : Nat) (a2 : Option Addr) (k2 : Nat) (a3 : Option Addr) (k3 : Nat) (a4 : Option Addr) (k4 : Nat) (a5 : Option Addr) (k5 : Nat) (a6 : Option Addr) (k6 : Nat) (a7 : Option Addr) (k7 : Nat) (a8 : Option Addr) (k8 : Nat) (a9 : Option Addr) (k9 : Nat) (b0 : Option Addr) (q0 : Nat) (b1 : Option Addr) (q1 : Nat) (b2 : Option Addr) (q2 : Nat) (b3 : Option Addr) (q3 : Nat) (b4 : Option Addr) (q4 : Nat) (b5 : Option Addr) (q5 : Nat) (b6 : Option Addr) (q6 : Nat) (b7 : Option Addr) (q7 : Nat) (b8 : Option Addr) (q8 : Nat) (b9 : Option Addr) (q9 : Nat) (w : World) (h : MdAt w m a0 k0 a1 k1 a2 k2 a3 k3 a4 k4 a5 k5 a6 k6 a7 k7 a8 k8 a9 k9) (h' : MdAt w m' b0 q0 b1 q1 b2 q2 b3 q3 b4 q4 b5 q5 b6 q6 b7 q7 b8 q8 b9 q9) (hT : TabU w) :
    Calls Tryd.prog 7 #[mdV m a0 k0 a1 k1 a2 k2 a3 k3 a4 k4 a5 k5 a6 k6 a7 k7 a8 k8 a9 k9, mdV m' b0 q0 b1 q1 b2 q2 b3 q3 b4 q4 b5 q5 b6 q6 b7 q7 b8 q8 b9 q9] w fun e w' => e = .returned (.bool true) ∧ Below w.heap.size w w' := by
  have hmix : Tryd.prog.follows .mixedOrders = true := by kernel_rfl
  have hB0 : Below w.heap.size w ((w.alloc (.cells #[.slice a0 m.types.length k0, .slice a1 m.imports.length k1, .slice a2 m.funcs.length k2, .slice a3 m.tables.length k3, .slice a4 m.mems.length k4, .slice a5 m.globals.length k5, .slice a6 m.exports.length k6, .slice a7 m.start.length k7, .slice a8 m.elems.length k8, .slice a9 m.datas.length k9] 36)).alloc (.cells #[.slice b0 m'.types.length q0, .slice b1 m'.imports.length q1, .slice b2 m'.funcs.length q2, .slice b3 m'.tables.length q3, .slice b4 m'.mems.length q4, .slice b5 m'.globals.length q5, .slice b6 m'.exports.length q6, .slice b7 m'.start.length q7, .slice b8 m'.elems.length q8, .slice b9 m'.datas.length q9] 36)) := ((Below.refl _ _).alloc (Nat.le_refl _) _).alloc (by simp) _
  have HM := Lib.hid (h.keep (keep_below hB0))
  have HN := Lib.hid (h'.keep (keep_below hB0))
  have HT := Lib.hid (hT.below hB0)
  replace hB0 := Lib.hid hB0
  clear h h' hT
  unfold mdV
  go_enter Tryd.func7, Tryd.ntmps7
  go_upto_region 1 with fail
  obtain ⟨w0, hw0⟩ : ∃ w0, w0 = ((w.alloc (.cells #[.slice a0 m.types.length k0, .slice a1 m.imports.length k1, .slice a2 m.funcs.length k2, .slice a3 m.tables.length k3, .slice a4 m.mems.length k4, .slice a5 m.globals.length k5, .slice a6 m.exports.length k6, .slice a7 m.start.length k7, .slice a8 m.elems.length k8, .slice a9 m.datas.length k9] 36)).alloc (.cells #[.slice b0 m'.types.length q0, .slice b1 m'.imports.length q1, .slice b2 m'.funcs.length q2, .slice b3 m'.tables.length q3, .slice b4 m'.mems.length q4, .slice b5 m'.globals.length q5, .slice b6 m'.exports.length q6, .slice b7 m'.start.length q7, .slice b8 m'.elems.length q8, .slice b9 m'.datas.length q9] 36)) := ⟨_, rfl⟩
  have bx : Box w0 w.heap.size #[.slice a0 m.types.length k0, .slice a1 m.imports.length k1, .slice a2 m.funcs.length k2, .slice a3 m.tables.length k3, .slice a4 m.mems.length k4, .slice a5 m.globals.length k5, .slice a6 m.exports.length k6, .slice a7 m.start.length k7, .slice a8 m.elems.length k8, .slice a9 m.datas.length k9] := by rw [hw0]; exact (box_new w _ _).keep (keeps_new _ _)
  have bz : Box w0 (w.heap.size + 1) #[.slice b0 m'.types.length q0, .slice b1 m'.imports.length q1, .slice b2 m'.funcs.length q2, .slice b3 m'.tables.length q3, .slice b4 m'.mems.length q4, .slice b5 m'.globals.length q5, .slice b6 m'.exports.length q6, .slice b7 m'.start.length q7, .slice b8 m'.elems.length q8, .slice b9 m'.datas.length q9] := by rw [hw0]; exact box_new2 w _ _ _
  replace bx := Lib.hid bx
  replace bz := Lib.hid bz
  rw [← hw0]
  rw [← hw0] at HM HN hB0 HT
  clear hw0
  have x0 : w0.cell? ⟨w.heap.size, 0, none⟩ = some (.slice a0 m.types.length k0) := bx.out 0 _ rfl
  have x1 : w0.cell? ⟨w.heap.size, 1, none⟩ = some (.slice a1 m.imports.length k1) := bx.out 1 _ rfl
  have x2 : w0.cell? ⟨w.heap.size, 2, none⟩ = some (.slice a2 m.funcs.length k2) := bx.out 2 _ rfl
  have x3 : w0.cell? ⟨w.heap.size, 3, none⟩ = some (.slice a3 m.tables.length k3) := bx.out 3 _ rfl
  have x4 : w0.cell? ⟨w.heap.size, 4, none⟩ = some (.slice a4 m.mems.length k4) := bx.out 4 _ rfl
  have x5 : w0.cell? ⟨w.heap.size, 5, none⟩ = some (.slice a5 m.globals.length k5) := bx.out 5 _ rfl
  have x6 : w0.cell? ⟨w.heap.size, 6, none⟩ = some (.slice a6 m.exports.length k6) := bx.out 6 _ rfl
  have x7 : w0.cell? ⟨w.heap.size, 7, none⟩ = some (.slice a7 m.start.length k7) := bx.out 7 _ rfl
  have x8 : w0.cell? ⟨w.heap.size, 8, none⟩ = some (.slice a8 m.elems.length k8) := bx.out 8 _ rfl
  have x9 : w0.cell? ⟨w.heap.size, 9, none⟩ = some (.slice a9 m.datas.length k9) := bx.out 9 _ rfl
  go_wp2_with fail
  refine (large_any m a0 k0 a1 k1 a2 k2 a3 k3 a4 k4 a5 k5 a6 k6 a7 k7 a8 k8 a9 k9 w0 HM.out).mono ?_
  rintro e w1 ⟨L, rfl, hS, hb1⟩
  replace hb1 := Lib.hid hb1
  replace hS := Lib.hid hS
  have hB1 := Lib.hid (hB0.out.trans (hb1.out.mono hB0.out.size))
  have HM1 := Lib.hid (HM.out.keep (keep_below hb1.out))
  have HN1 := Lib.hid (HN.out.keep (keep_below hb1.out))
  have HT1 := Lib.hid (HT.out.below hb1.out)
  clear x0 x1 x2 x3 x4 x5 x6 x7 x8 x9
  cases L
  · have z0 : w1.cell? ⟨w.heap.size + 1, 0, none⟩ = some (.slice b0 m'.types.length q0) := keep_below hb1.out _ _ (bz.out 0 _ rfl)
    have z1 : w1.cell? ⟨w.heap.size + 1, 1, none⟩ = some (.slice b1 m'.imports.length q1) := keep_below hb1.out _ _ (bz.out 1 _ rfl)
    have z2 : w1.cell? ⟨w.heap.size + 1, 2, none⟩ = some (.slice b2 m'.funcs.length q2) := keep_below hb1.out _ _ (bz.out 2 _ rfl)
    have z3 : w1.cell? ⟨w.heap.size + 1, 3, none⟩ = some (.slice b3 m'.tables.length q3) := keep_below hb1.out _ _ (bz.out 3 _ rfl)
    have z4 : w1.cell? ⟨w.heap.size + 1, 4, none⟩ = some (.slice b4 m'.mems.length q4) := keep_below hb1.out _ _ (bz.out 4 _ rfl)
    have z5 : w1.cell? ⟨w.heap.size + 1, 5, none⟩ = some (.slice b5 m'.globals.length q5) := keep_below hb1.out _ _ (bz.out 5 _ rfl)
    have z6 : w1.cell? ⟨w.heap.size + 1, 6, none⟩ = some (.slice b6 m'.exports.length q6) := keep_below hb1.out _ _ (bz.out 6 _ rfl)
    have z7 : w1.cell? ⟨w.heap.size + 1, 7, none⟩ = some (.slice b7 m'.start.length q7) := keep_below hb1.out _ _ (bz.out 7 _ rfl)
    have z8 : w1.cell? ⟨w.heap.size + 1, 8, none⟩ = some (.slice b8 m'.elems.length q8) := keep_below hb1.out _ _ (bz.out 8 _ rfl)
    have z9 : w1.cell? ⟨w.heap.size + 1, 9, none⟩ = some (.slice b9 m'.datas.length q9) := keep_below hb1.out _ _ (bz.out 9 _ rfl)
    have hS1 := Lib.hid (hS.out rfl)
    go_wp2_with fail
    refine (large_any m' b0 q0 b1 q1 b2 q2 b3 q3 b4 q4 b5 q5 b6 q6 b7 q7 b8 q8 b9 q9 w1 HN1.out).mono ?_
    rintro e w2 ⟨L, rfl, hS', hb2⟩
    replace hb2 := Lib.hid hb2
    replace hS' := Lib.hid hS'
    have hB2 := Lib.hid (hB1.out.trans (hb2.out.mono hB1.out.size))
    have HM2 := Lib.hid (HM1.out.keep (keep_below hb2.out))
    have HN2 := Lib.hid (HN1.out.keep (keep_below hb2.out))
    have HT2 := Lib.hid (HT1.out.below hb2.out)
    have bx2 := Lib.hid (bx.out.keep (keep_below (hb1.out.trans (hb2.out.mono hb1.out.size))))
    have bz2 := Lib.hid (bz.out.keep (keep_below (hb1.out.trans (hb2.out.mono hb1.out.size))))
    clear z0 z1 z2 z3 z4 z5 z6 z7 z8 z9
    cases L
    · have hS2 := Lib.hid (hS'.out rfl)
      go_upto_region 3 with fail
      refine wpv_then ?_
      intro K hK
      go_cut [4] from 5 to 31 (fun v wx => v = .bool true ∧ Hid (Below w2.heap.size w2 wx))
      case first =>
        refine wp_fv _ 31 rfl (reg7 (g := mdSame m m') hmix rfl rfl bx2 bz2 HM2 HN2 hS1 hS2 HT2 (Lib.hid (pm_self m)) (Lib.hid (pm_same m m')) (Lib.hid rfl) ?_)
        intro w' f hb hf
        go_wp2_with fail
        go_meet
        exact ⟨hf, Lib.hid hb⟩
      case rest =>
        obtain ⟨rfl, hb⟩ := hcut
        refine (hK _ _).2 ?_
        clear hK
        go_wp2
        go_ret
        exact ⟨rfl, hB2.out.trans (hb.out.mono hB2.out.size)⟩
    · go_wp2_with fail
      refine (wakes_any _ HT2.out).mono ?_
      rintro e w3 ⟨rfl, hb3⟩
      have hB3 := Lib.hid (hB2.out.trans (hb3.mono hB2.out.size))
      go_wp2
      go_ret
      exact ⟨rfl, hB3.out⟩
  · go_wp2_with fail
    refine (wakes_any _ HT1.out).mono ?_
    rintro e w3 ⟨rfl, hb3⟩
    have hB3 := Lib.hid (hB1.out.trans (hb3.mono hB1.out.size))
    go_wp2
    go_ret
    exact ⟨rfl, hB3.out⟩
end Go.Proofs.YtofleejokkdklaaDoor

namespace Go.Proofs.YtofleejokkdklaaDoor
open Go.ChangeShapes Go.WideShapes Go.ChangeAt Go.RowKit
set_option linter.unusedVariables false

set_option maxRecDepth 100000 in
theorem same_walk {H : Type} {enc : TypeId × Value → H} (W : World) (base : Nat) (hT : TabU W)
    (v0 : Value) (d0 : DataW H) (p0 : List MemPlace) (o0 : Value.okWide Tryd.prog W .any base 36 v0) (h0 : DataW.Trod enc Tryd.prog W 0 (fun _ => true) true 36 v0 d0 p0)
    (v1 : Value) (d1 : DataW H) (p1 : List MemPlace) (o1 : Value.okWide Tryd.prog W .any base 36 v1) (h1 : DataW.Trod enc Tryd.prog W 0 (fun _ => true) true 36 v1 d1 p1) :
    Calls Tryd.prog 7 #[v0, v1] W fun e W' => e = .returned (.bool true) ∧ Below W.heap.size W W' := by
  obtain ⟨m, a0, k0, a1, k1, a2, k2, a3, k3, a4, k4, a5, k5, a6, k6, a7, k7, a8, k8, a9, k9, rfl, h⟩ := open_module o0 h0
  obtain ⟨m', b0, q0, b1, q1, b2, q2, b3, q3, b4, q4, b5, q5, b6, q6, b7, q7, b8, q8, b9, q9, rfl, h'⟩ := open_module o1 h1
  exact same_any m m' a0 k0 a1 k1 a2 k2 a3 k3 a4 k4 a5 k5 a6 k6 a7 k7 a8 k8 a9 k9 b0 q0 b1 q1 b2 q2 b3 q3 b4 q4 b5 q5 b6 q6 b7 q7 b8 q8 b9 q9 W h h' hT
end Go.Proofs.YtofleejokkdklaaDoor
