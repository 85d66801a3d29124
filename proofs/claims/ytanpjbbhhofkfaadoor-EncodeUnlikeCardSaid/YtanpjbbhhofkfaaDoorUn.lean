/- EncodeUnlike: the walk. -/
import Derived.Test.YtanpjbbhhofkfaaDoorCn
import Derived.Test.YtanpjbbhhofkfaaDoorIq
import Derived.Test.YtanpjbbhhofkfaaDoorGn
import Derived.Test.YtanpjbbhhofkfaaDoorWa
import Derived.Test.YtanpjbbhhofkfaaDoorLd
import Derived.Test.YtanpjbbhhofkfaaDoorOp
import Derived.SizedLaws
namespace Go.Proofs.YtanpjbbhhofkfaaDoor
open Go.RowKit
set_option linter.unusedVariables false
set_option linter.unusedSimpArgs false

theorem mks_list (l : List UInt8) : (mks l).toList = l := by
  have := strl_mks l
  unfold strl at this
  rw [ByteArray.toList_eq]
  exact this
set_option maxRecDepth 100000 in
set_option maxHeartbeats 4000000 in
theorem unlike_any (m m' : Md) (hN : NOk m) (hN' : NOk m') (a0 : Option Addr) (k0 : Nat) (a1 : Option Addr) (k1 : Nat) (a2 : Option Addr) (k2 : Nat) (a3 : Option Addr) (k3 : Nat) (a4 : Option Addr) (k4 : Nat) (a5 : Option Addr) (k5 : Nat) (a6 : Option Addr) (k6 : Nat) (a7 : Option Addr) (k7 : Nat) (a8 : Option Addr) (k8 : Nat) (a9 : Option Addr) (k9 : Nat) (b0 : Option Addr) (q0 : Nat) (b1 : Option Addr) (q1 : Nat) (b2 : Option Addr) (q2 : Nat) (b3 : Option Addr) (q3 : Nat) (b4 : Option Addr) (q4 : Nat) (b5 : Option Addr) (q5 : Nat) (b6 : Option Addr) (q6 : Nat) (b7 : Option Addr) (q7 : Nat) (b8 : Option Addr) (q8 : Nat) (b9 : Option Addr) (q9 : Nat) (w : World) (h : MdAt w m a0 k0 a1 k1 a2 k2 a3 k3 a4 k4 a5 k5 a6 k6 a7 k7 a8 k8 a9 k9) (h' : MdAt w m' b0 q0 b1 q1 b2 q2 b3 q3 b4 q4 b5 q5 b6 q6 b7 q7 b8 q8 b9 q9) (hT : TabU w) :
    Calls Tryd.prog 3 #[mdV m a0 k0 a1 k1 a2 k2 a3 k3 a4 k4 a5 k5 a6 k6 a7 k7 a8 k8 a9 k9, mdV m' b0 q0 b1 q1 b2 q2 b3 q3 b4 q4 b5 q5 b6 q6 b7 q7 b8 q8 b9 q9] w fun e w' => e = .returned (.bool true) ∧ Below w.heap.size w w' := by
  have hB0' : Below w.heap.size w ((w.alloc (.cells #[.slice a0 m.types.length k0, .slice a1 m.imports.length k1, .slice a2 m.funcs.length k2, .slice a3 m.tables.length k3, .slice a4 m.mems.length k4, .slice a5 m.globals.length k5, .slice a6 m.exports.length k6, .slice a7 m.start.length k7, .slice a8 m.elems.length k8, .slice a9 m.datas.length k9] 32)).alloc (.cells #[.slice b0 m'.types.length q0, .slice b1 m'.imports.length q1, .slice b2 m'.funcs.length q2, .slice b3 m'.tables.length q3, .slice b4 m'.mems.length q4, .slice b5 m'.globals.length q5, .slice b6 m'.exports.length q6, .slice b7 m'.start.length q7, .slice b8 m'.elems.length q8, .slice b9 m'.datas.length q9] 32)) := ((Below.refl _ _).alloc (Nat.le_refl _) _).alloc (by simp) _
  have HM0 := Lib.hid (h.keep (keep_below hB0'))
  have HN0 := Lib.hid (h'.keep (keep_below hB0'))
  have HT0 := Lib.hid (hT.below hB0')
  have hB0 := Lib.hid hB0'
  replace hN := Lib.hid hN
  replace hN' := Lib.hid hN'
  clear h h' hT hB0'
  unfold mdV
  go_enter Tryd.func3, Tryd.ntmps3
  go_upto_region 1 with fail
  obtain ⟨w0, hw0⟩ : ∃ w0, w0 = ((w.alloc (.cells #[.slice a0 m.types.length k0, .slice a1 m.imports.length k1, .slice a2 m.funcs.length k2, .slice a3 m.tables.length k3, .slice a4 m.mems.length k4, .slice a5 m.globals.length k5, .slice a6 m.exports.length k6, .slice a7 m.start.length k7, .slice a8 m.elems.length k8, .slice a9 m.datas.length k9] 32)).alloc (.cells #[.slice b0 m'.types.length q0, .slice b1 m'.imports.length q1, .slice b2 m'.funcs.length q2, .slice b3 m'.tables.length q3, .slice b4 m'.mems.length q4, .slice b5 m'.globals.length q5, .slice b6 m'.exports.length q6, .slice b7 m'.start.length q7, .slice b8 m'.elems.length q8, .slice b9 m'.datas.length q9] 32)) := ⟨_, rfl⟩
  have bx0 : Box w0 w.heap.size #[.slice a0 m.types.length k0, .slice a1 m.imports.length k1, .slice a2 m.funcs.length k2, .slice a3 m.tables.length k3, .slice a4 m.mems.length k4, .slice a5 m.globals.length k5, .slice a6 m.exports.length k6, .slice a7 m.start.length k7, .slice a8 m.elems.length k8, .slice a9 m.datas.length k9] := by rw [hw0]; exact (box_new w _ _).keep (keeps_new _ _)
  have bz0 : Box w0 (w.heap.size + 1) #[.slice b0 m'.types.length q0, .slice b1 m'.imports.length q1, .slice b2 m'.funcs.length q2, .slice b3 m'.tables.length q3, .slice b4 m'.mems.length q4, .slice b5 m'.globals.length q5, .slice b6 m'.exports.length q6, .slice b7 m'.start.length q7, .slice b8 m'.elems.length q8, .slice b9 m'.datas.length q9] := by rw [hw0]; exact box_new2 w _ _ _
  replace bx0 := Lib.hid bx0
  replace bz0 := Lib.hid bz0
  rw [← hw0]
  rw [← hw0] at HM0 HN0 hB0 HT0
  clear hw0
  have x0 : w0.cell? ⟨w.heap.size, 0, none⟩ = some (.slice a0 m.types.length k0) := bx0.out 0 _ rfl
  have x1 : w0.cell? ⟨w.heap.size, 1, none⟩ = some (.slice a1 m.imports.length k1) := bx0.out 1 _ rfl
  have x2 : w0.cell? ⟨w.heap.size, 2, none⟩ = some (.slice a2 m.funcs.length k2) := bx0.out 2 _ rfl
  have x3 : w0.cell? ⟨w.heap.size, 3, none⟩ = some (.slice a3 m.tables.length k3) := bx0.out 3 _ rfl
  have x4 : w0.cell? ⟨w.heap.size, 4, none⟩ = some (.slice a4 m.mems.length k4) := bx0.out 4 _ rfl
  have x5 : w0.cell? ⟨w.heap.size, 5, none⟩ = some (.slice a5 m.globals.length k5) := bx0.out 5 _ rfl
  have x6 : w0.cell? ⟨w.heap.size, 6, none⟩ = some (.slice a6 m.exports.length k6) := bx0.out 6 _ rfl
  have x7 : w0.cell? ⟨w.heap.size, 7, none⟩ = some (.slice a7 m.start.length k7) := bx0.out 7 _ rfl
  have x8 : w0.cell? ⟨w.heap.size, 8, none⟩ = some (.slice a8 m.elems.length k8) := bx0.out 8 _ rfl
  have x9 : w0.cell? ⟨w.heap.size, 9, none⟩ = some (.slice a9 m.datas.length k9) := bx0.out 9 _ rfl
  go_wp2_with fail
  refine (large_any m a0 k0 a1 k1 a2 k2 a3 k3 a4 k4 a5 k5 a6 k6 a7 k7 a8 k8 a9 k9 w0 HM0.out).mono ?_
  rintro e w1 ⟨L, rfl, hS, hb1⟩
  replace hS := Lib.hid hS
  have hB1 := Lib.hid (hB0.out.trans (hb1.mono hB0.out.size))
  have HM1 := Lib.hid (HM0.out.keep (keep_below hb1))
  have HN1 := Lib.hid (HN0.out.keep (keep_below hb1))
  have HT1 := Lib.hid (HT0.out.below hb1)
  have bx1 := Lib.hid (bx0.out.keep (keep_below hb1))
  have bz1 := Lib.hid (bz0.out.keep (keep_below hb1))
  clear hb1 x0 x1 x2 x3 x4 x5 x6 x7 x8 x9
  cases L
  · have z0 : w1.cell? ⟨w.heap.size + 1, 0, none⟩ = some (.slice b0 m'.types.length q0) := bz1.out 0 _ rfl
    have z1 : w1.cell? ⟨w.heap.size + 1, 1, none⟩ = some (.slice b1 m'.imports.length q1) := bz1.out 1 _ rfl
    have z2 : w1.cell? ⟨w.heap.size + 1, 2, none⟩ = some (.slice b2 m'.funcs.length q2) := bz1.out 2 _ rfl
    have z3 : w1.cell? ⟨w.heap.size + 1, 3, none⟩ = some (.slice b3 m'.tables.length q3) := bz1.out 3 _ rfl
    have z4 : w1.cell? ⟨w.heap.size + 1, 4, none⟩ = some (.slice b4 m'.mems.length q4) := bz1.out 4 _ rfl
    have z5 : w1.cell? ⟨w.heap.size + 1, 5, none⟩ = some (.slice b5 m'.globals.length q5) := bz1.out 5 _ rfl
    have z6 : w1.cell? ⟨w.heap.size + 1, 6, none⟩ = some (.slice b6 m'.exports.length q6) := bz1.out 6 _ rfl
    have z7 : w1.cell? ⟨w.heap.size + 1, 7, none⟩ = some (.slice b7 m'.start.length q7) := bz1.out 7 _ rfl
    have z8 : w1.cell? ⟨w.heap.size + 1, 8, none⟩ = some (.slice b8 m'.elems.length q8) := bz1.out 8 _ rfl
    have z9 : w1.cell? ⟨w.heap.size + 1, 9, none⟩ = some (.slice b9 m'.datas.length q9) := bz1.out 9 _ rfl
    have hS1 := Lib.hid (hS.out rfl)
    go_wp2_with fail
    refine (large_any m' b0 q0 b1 q1 b2 q2 b3 q3 b4 q4 b5 q5 b6 q6 b7 q7 b8 q8 b9 q9 w1 HN1.out).mono ?_
    rintro e w2 ⟨L, rfl, hS', hb2⟩
    replace hS' := Lib.hid hS'
    have hB2 := Lib.hid (hB1.out.trans (hb2.mono hB1.out.size))
    have HM2 := Lib.hid (HM1.out.keep (keep_below hb2))
    have HN2 := Lib.hid (HN1.out.keep (keep_below hb2))
    have HT2 := Lib.hid (HT1.out.below hb2)
    have bx2 := Lib.hid (bx1.out.keep (keep_below hb2))
    have bz2 := Lib.hid (bz1.out.keep (keep_below hb2))
    clear hb2 z0 z1 z2 z3 z4 z5 z6 z7 z8 z9
    cases L
    · have hS2 := Lib.hid (hS'.out rfl)
      have x0 : w2.cell? ⟨w.heap.size, 0, none⟩ = some (.slice a0 m.types.length k0) := bx2.out 0 _ rfl
      have x1 : w2.cell? ⟨w.heap.size, 1, none⟩ = some (.slice a1 m.imports.length k1) := bx2.out 1 _ rfl
      have x2 : w2.cell? ⟨w.heap.size, 2, none⟩ = some (.slice a2 m.funcs.length k2) := bx2.out 2 _ rfl
      have x3 : w2.cell? ⟨w.heap.size, 3, none⟩ = some (.slice a3 m.tables.length k3) := bx2.out 3 _ rfl
      have x4 : w2.cell? ⟨w.heap.size, 4, none⟩ = some (.slice a4 m.mems.length k4) := bx2.out 4 _ rfl
      have x5 : w2.cell? ⟨w.heap.size, 5, none⟩ = some (.slice a5 m.globals.length k5) := bx2.out 5 _ rfl
      have x6 : w2.cell? ⟨w.heap.size, 6, none⟩ = some (.slice a6 m.exports.length k6) := bx2.out 6 _ rfl
      have x7 : w2.cell? ⟨w.heap.size, 7, none⟩ = some (.slice a7 m.start.length k7) := bx2.out 7 _ rfl
      have x8 : w2.cell? ⟨w.heap.size, 8, none⟩ = some (.slice a8 m.elems.length k8) := bx2.out 8 _ rfl
      have x9 : w2.cell? ⟨w.heap.size, 9, none⟩ = some (.slice a9 m.datas.length k9) := bx2.out 9 _ rfl
      go_wp2_with fail
      refine (copy_any m hS1.out w2 HM2.out).mono ?_
      rintro e w3 ⟨d0, r0, d1, r1, d2, r2, d3, r3, d4, r4, d5, r5, d6, r6, d7, r7, d8, r8, d9, r9, rfl, hC, hb3⟩
      replace hC := Lib.hid hC
      have hB3 := Lib.hid (hB2.out.trans (hb3.mono hB2.out.size))
      have HM3 := Lib.hid (HM2.out.keep (keep_below hb3))
      have HN3 := Lib.hid (HN2.out.keep (keep_below hb3))
      have HT3 := Lib.hid (HT2.out.below hb3)
      have bx3 := Lib.hid (bx2.out.keep (keep_below hb3))
      have bz3 := Lib.hid (bz2.out.keep (keep_below hb3))
      clear hb3 x0 x1 x2 x3 x4 x5 x6 x7 x8 x9
      unfold mdV
      go_wp2_with fail
      refine (enc_any m d0 r0 d1 r1 d2 r2 d3 r3 d4 r4 d5 r5 d6 r6 d7 r7 d8 r8 d9 r9 w3 hC.out HT3.out (fit_of hN.out)).mono ?_
      rintro e w4 ⟨rfl, hb4⟩
      clear hC
      have hB4 := Lib.hid (hB3.out.trans (hb4.mono hB3.out.size))
      have HM4 := Lib.hid (HM3.out.keep (keep_below hb4))
      have HN4 := Lib.hid (HN3.out.keep (keep_below hb4))
      have HT4 := Lib.hid (HT3.out.below hb4)
      have bx4 := Lib.hid (bx3.out.keep (keep_below hb4))
      have bz4 := Lib.hid (bz3.out.keep (keep_below hb4))
      clear hb4
      have z0 : w4.cell? ⟨w.heap.size + 1, 0, none⟩ = some (.slice b0 m'.types.length q0) := bz4.out 0 _ rfl
      have z1 : w4.cell? ⟨w.heap.size + 1, 1, none⟩ = some (.slice b1 m'.imports.length q1) := bz4.out 1 _ rfl
      have z2 : w4.cell? ⟨w.heap.size + 1, 2, none⟩ = some (.slice b2 m'.funcs.length q2) := bz4.out 2 _ rfl
      have z3 : w4.cell? ⟨w.heap.size + 1, 3, none⟩ = some (.slice b3 m'.tables.length q3) := bz4.out 3 _ rfl
      have z4 : w4.cell? ⟨w.heap.size + 1, 4, none⟩ = some (.slice b4 m'.mems.length q4) := bz4.out 4 _ rfl
      have z5 : w4.cell? ⟨w.heap.size + 1, 5, none⟩ = some (.slice b5 m'.globals.length q5) := bz4.out 5 _ rfl
      have z6 : w4.cell? ⟨w.heap.size + 1, 6, none⟩ = some (.slice b6 m'.exports.length q6) := bz4.out 6 _ rfl
      have z7 : w4.cell? ⟨w.heap.size + 1, 7, none⟩ = some (.slice b7 m'.start.length q7) := bz4.out 7 _ rfl
      have z8 : w4.cell? ⟨w.heap.size + 1, 8, none⟩ = some (.slice b8 m'.elems.length q8) := bz4.out 8 _ rfl
      have z9 : w4.cell? ⟨w.heap.size + 1, 9, none⟩ = some (.slice b9 m'.datas.length q9) := bz4.out 9 _ rfl
      go_wp2_with fail
      refine (copy_any m' hS2.out w4 HN4.out).mono ?_
      rintro e w5 ⟨f0, t0, f1, t1, f2, t2, f3, t3, f4, t4, f5, t5, f6, t6, f7, t7, f8, t8, f9, t9, rfl, hC, hb5⟩
      replace hC := Lib.hid hC
      have hB5 := Lib.hid (hB4.out.trans (hb5.mono hB4.out.size))
      have HM5 := Lib.hid (HM4.out.keep (keep_below hb5))
      have HN5 := Lib.hid (HN4.out.keep (keep_below hb5))
      have HT5 := Lib.hid (HT4.out.below hb5)
      have bx5 := Lib.hid (bx4.out.keep (keep_below hb5))
      have bz5 := Lib.hid (bz4.out.keep (keep_below hb5))
      clear hb5 z0 z1 z2 z3 z4 z5 z6 z7 z8 z9
      unfold mdV
      go_wp2_with fail
      refine (enc_any m' f0 t0 f1 t1 f2 t2 f3 t3 f4 t4 f5 t5 f6 t6 f7 t7 f8 t8 f9 t9 w5 hC.out HT5.out (fit_of hN'.out)).mono ?_
      rintro e w6 ⟨rfl, hb6⟩
      clear hC
      have hB6 := Lib.hid (hB5.out.trans (hb6.mono hB5.out.size))
      have HM6 := Lib.hid (HM5.out.keep (keep_below hb6))
      have HN6 := Lib.hid (HN5.out.keep (keep_below hb6))
      have HT6 := Lib.hid (HT5.out.below hb6)
      have bx6 := Lib.hid (bx5.out.keep (keep_below hb6))
      have bz6 := Lib.hid (bz5.out.keep (keep_below hb6))
      clear hb6
      have law := unlike_law (a := m) (b := m')
      have bad1 := unlike_bad (m := m)
      have bad2 := unlike_bad (m := m')
      obtain ⟨e1, he1⟩ : ∃ e, encE m = e := ⟨_, rfl⟩
      obtain ⟨e2, he2⟩ : ∃ e, encE m' = e := ⟨_, rfl⟩
      obtain ⟨B1, hB1'⟩ : ∃ e, encB m = e := ⟨_, rfl⟩
      obtain ⟨B2, hB2'⟩ : ∃ e, encB m' = e := ⟨_, rfl⟩
      rw [he1, he2, hB1', hB2'] at law
      rw [he1, hB1'] at bad1
      rw [he2, hB2'] at bad2
      rw [he1, he2, hB1', hB2']
      clear he1 he2 hB1' hB2'
      replace law := Lib.hid law
      replace bad1 := Lib.hid bad1
      replace bad2 := Lib.hid bad2
      by_cases h1 : e1 = 0
      · subst h1
        by_cases h2 : e2 = 0
        · subst h2
          obtain ⟨sm, hsm⟩ : ∃ sm, mdSame m m' = sm := ⟨_, rfl⟩
          have hlaw := law.out rfl rfl
          rw [hsm] at hlaw
          replace hlaw := Lib.hid hlaw
          replace hsm := Lib.hid hsm
          have x0 : w6.cell? ⟨w.heap.size, 0, none⟩ = some (.slice a0 m.types.length k0) := bx6.out 0 _ rfl
          have x1 : w6.cell? ⟨w.heap.size, 1, none⟩ = some (.slice a1 m.imports.length k1) := bx6.out 1 _ rfl
          have x2 : w6.cell? ⟨w.heap.size, 2, none⟩ = some (.slice a2 m.funcs.length k2) := bx6.out 2 _ rfl
          have x3 : w6.cell? ⟨w.heap.size, 3, none⟩ = some (.slice a3 m.tables.length k3) := bx6.out 3 _ rfl
          have x4 : w6.cell? ⟨w.heap.size, 4, none⟩ = some (.slice a4 m.mems.length k4) := bx6.out 4 _ rfl
          have x5 : w6.cell? ⟨w.heap.size, 5, none⟩ = some (.slice a5 m.globals.length k5) := bx6.out 5 _ rfl
          have x6 : w6.cell? ⟨w.heap.size, 6, none⟩ = some (.slice a6 m.exports.length k6) := bx6.out 6 _ rfl
          have x7 : w6.cell? ⟨w.heap.size, 7, none⟩ = some (.slice a7 m.start.length k7) := bx6.out 7 _ rfl
          have x8 : w6.cell? ⟨w.heap.size, 8, none⟩ = some (.slice a8 m.elems.length k8) := bx6.out 8 _ rfl
          have x9 : w6.cell? ⟨w.heap.size, 9, none⟩ = some (.slice a9 m.datas.length k9) := bx6.out 9 _ rfl
          have z0 : w6.cell? ⟨w.heap.size + 1, 0, none⟩ = some (.slice b0 m'.types.length q0) := bz6.out 0 _ rfl
          have z1 : w6.cell? ⟨w.heap.size + 1, 1, none⟩ = some (.slice b1 m'.imports.length q1) := bz6.out 1 _ rfl
          have z2 : w6.cell? ⟨w.heap.size + 1, 2, none⟩ = some (.slice b2 m'.funcs.length q2) := bz6.out 2 _ rfl
          have z3 : w6.cell? ⟨w.heap.size + 1, 3, none⟩ = some (.slice b3 m'.tables.length q3) := bz6.out 3 _ rfl
          have z4 : w6.cell? ⟨w.heap.size + 1, 4, none⟩ = some (.slice b4 m'.mems.length q4) := bz6.out 4 _ rfl
          have z5 : w6.cell? ⟨w.heap.size + 1, 5, none⟩ = some (.slice b5 m'.globals.length q5) := bz6.out 5 _ rfl
          have z6 : w6.cell? ⟨w.heap.size + 1, 6, none⟩ = some (.slice b6 m'.exports.length q6) := bz6.out 6 _ rfl
          have z7 : w6.cell? ⟨w.heap.size + 1, 7, none⟩ = some (.slice b7 m'.start.length q7) := bz6.out 7 _ rfl
          have z8 : w6.cell? ⟨w.heap.size + 1, 8, none⟩ = some (.slice b8 m'.elems.length q8) := bz6.out 8 _ rfl
          have z9 : w6.cell? ⟨w.heap.size + 1, 9, none⟩ = some (.slice b9 m'.datas.length q9) := bz6.out 9 _ rfl
          go_wp2_with fail
          refine (rsame_any m m' a0 k0 a1 k1 a2 k2 a3 k3 a4 k4 a5 k5 a6 k6 a7 k7 a8 k8 a9 k9 b0 q0 b1 q1 b2 q2 b3 q3 b4 q4 b5 q5 b6 q6 b7 q7 b8 q8 b9 q9 w6 HM6.out HN6.out).mono ?_
          rintro e w7 ⟨rfl, hb7⟩
          rw [hsm.out]
          have hB7 := Lib.hid (hB6.out.trans (hb7.mono hB6.out.size))
          have HM7 := Lib.hid (HM6.out.keep (keep_below hb7))
          have HN7 := Lib.hid (HN6.out.keep (keep_below hb7))
          have HT7 := Lib.hid (HT6.out.below hb7)
          have bx7 := Lib.hid (bx6.out.keep (keep_below hb7))
          have bz7 := Lib.hid (bz6.out.keep (keep_below hb7))
          clear hb7 x0 x1 x2 x3 x4 x5 x6 x7 x8 x9 z0 z1 z2 z3 z4 z5 z6 z7 z8 z9
          cases sm
          · have hne : ¬ (mks B1).toList = (mks B2).toList := fun e => by
              rw [mks_list, mks_list] at e
              have := hlaw.out.1 e
              cases this
            go_wp2_with fail
            refine (wakes_any _ HT7.out).mono ?_
            rintro e wz ⟨rfl, hbz⟩
            have hBz := Lib.hid (hB7.out.trans (hbz.mono hB7.out.size))
            clear hbz
            go_wp2
            go_ret
            exact ⟨by simp [hne], hBz.out⟩
          · have hee : B1 = B2 := hlaw.out.2 rfl
            subst hee
            go_wp2_with fail
            refine (wakes_any _ HT7.out).mono ?_
            rintro e wz ⟨rfl, hbz⟩
            have hBz := Lib.hid (hB7.out.trans (hbz.mono hB7.out.size))
            clear hbz
            go_wp2
            go_ret
            exact ⟨rfl, hBz.out⟩
        · have n2 : (e2 == 0) = false := by simp [h2]
          have m2 : (e2 != 0) = true := by simp [h2]
          have hb2' := bad2.out h2
          subst hb2'
          have hmk : (mks []).toList = [] := mks_list []
          go_wp2_with fail
          refine (wakes_any _ HT6.out).mono ?_
          rintro e wz ⟨rfl, hbz⟩
          have hBz := Lib.hid (hB6.out.trans (hbz.mono hB6.out.size))
          clear hbz
          go_wp2
          go_ret
          exact ⟨rfl, hBz.out⟩
      · have n1 : (e1 == 0) = false := by simp [h1]
        have m1 : (e1 != 0) = true := by simp [h1]
        have hb1' := bad1.out h1
        subst hb1'
        have hmk : (mks []).toList = [] := mks_list []
        by_cases h2 : e2 = 0
        · subst h2
          go_wp2_with fail
          refine (wakes_any _ HT6.out).mono ?_
          rintro e wz ⟨rfl, hbz⟩
          have hBz := Lib.hid (hB6.out.trans (hbz.mono hB6.out.size))
          clear hbz
          go_wp2
          go_ret
          exact ⟨rfl, hBz.out⟩
        · have n2 : (e2 == 0) = false := by simp [h2]
          have m2 : (e2 != 0) = true := by simp [h2]
          have hb2' := bad2.out h2
          subst hb2'
          go_wp2_with fail
          refine (wakes_any _ HT6.out).mono ?_
          rintro e wz ⟨rfl, hbz⟩
          have hBz := Lib.hid (hB6.out.trans (hbz.mono hB6.out.size))
          clear hbz
          go_wp2
          go_ret
          exact ⟨rfl, hBz.out⟩
    · go_wp2_with fail
      refine (wakes_any _ HT2.out).mono ?_
      rintro e wz ⟨rfl, hbz⟩
      have hBz := Lib.hid (hB2.out.trans (hbz.mono hB2.out.size))
      clear hbz
      go_wp2
      go_ret
      exact ⟨rfl, hBz.out⟩
  · go_wp2_with fail
    refine (wakes_any _ HT1.out).mono ?_
    rintro e wz ⟨rfl, hbz⟩
    have hBz := Lib.hid (hB1.out.trans (hbz.mono hB1.out.size))
    clear hbz
    go_wp2
    go_ret
    exact ⟨rfl, hBz.out⟩
end Go.Proofs.YtanpjbbhhofkfaaDoor

namespace Go.Proofs.YtanpjbbhhofkfaaDoor
open Go.ChangeShapes Go.WideShapes Go.ChangeAt Go.RowKit
set_option linter.unusedVariables false

set_option maxRecDepth 100000 in
theorem unlike_walk {H : Type} {enc : TypeId × Value → H} (W : World) (base : Nat) (hT : TabU W)
    (v0 : Value) (d0 : DataW H) (p0 : List MemPlace) (o0 : Value.okWide Tryd.prog W .any base 32 v0) (h0 : DataW.Trod enc Tryd.prog W 0 (fun _ => true) true 32 v0 d0 p0)
    (v1 : Value) (d1 : DataW H) (p1 : List MemPlace) (o1 : Value.okWide Tryd.prog W .any base 32 v1) (h1 : DataW.Trod enc Tryd.prog W 0 (fun _ => true) true 32 v1 d1 p1) :
    Calls Tryd.prog 3 #[v0, v1] W fun e W' => e = .returned (.bool true) ∧ Below W.heap.size W W' := by
  obtain ⟨m, a0, k0, a1, k1, a2, k2, a3, k3, a4, k4, a5, k5, a6, k6, a7, k7, a8, k8, a9, k9, rfl, h, n1, n2, n3, n4⟩ := open_module o0 h0
  obtain ⟨m', b0, q0, b1, q1, b2, q2, b3, q3, b4, q4, b5, q5, b6, q6, b7, q7, b8, q8, b9, q9, rfl, h', n1', n2', n3', n4'⟩ := open_module o1 h1
  exact unlike_any m m' ⟨n1, n2, n3, n4⟩ ⟨n1', n2', n3', n4'⟩ a0 k0 a1 k1 a2 k2 a3 k3 a4 k4 a5 k5 a6 k6 a7 k7 a8 k8 a9 k9 b0 q0 b1 q1 b2 q2 b3 q3 b4 q4 b5 q5 b6 q6 b7 q7 b8 q8 b9 q9 W h h' hT
end Go.Proofs.YtanpjbbhhofkfaaDoor
