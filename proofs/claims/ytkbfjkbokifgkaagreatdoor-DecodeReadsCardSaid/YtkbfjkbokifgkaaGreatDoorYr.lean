/- The statement DecodeReads: what any bytes are as a module, or the first that is wrong. -/
import Derived.Test.YtkbfjkbokifgkaaGreatDoorSs
namespace Go.Proofs.YtkbfjkbokifgkaaGreatDoor
open Go.RowKit
set_option linter.unusedVariables false
set_option linter.unusedSimpArgs false
set_option maxRecDepth 100000 in
set_option maxHeartbeats 8000000 in
theorem reads_any {w : World} {s : ByteArray} (hT : TabU w) : Calls Tryz.prog 3 #[.string s] w fun e w' => e = .returned (.bool true) ∧ Below w.heap.size w w' := by
  by_cases hb : 20000 < s.size
  · have hle : (20000 : Int) < (s.size : Int) := by omega
    have hwk := Lib.hid (wakes_any hT)
    go_enter Tryz.func3, Tryz.ntmps3
    go_wp2_with fail
    refine hwk.out.mono ?_
    rintro e w1 ⟨rfl, hb1⟩
    go_wp2_with fail
    go_ret
    exact ⟨rfl, hb1⟩
  · have hle : ¬ (20000 : Int) < (s.size : Int) := by omega
    have hdc := Lib.hid (dec_any (s := s) hT)
    replace hT := Lib.hid hT
    go_enter Tryz.func3, Tryz.ntmps3
    go_wp2_with fail
    refine hdc.out.mono ?_
    rintro e w1 ⟨hb1, hV⟩
    obtain ⟨m, n, a0, a1, a2, a3, a4, a5, a6, a7, a8, a9, k0, k1, k2, k3, k4, k5, k6, k7, k8, k9, hg, rfl, hM⟩ := decS_of hV
    unfold mdV
    have hA : Below w1.heap.size w1 (w1.alloc (.cells #[.slice a0 m.types.length k0, .slice a1 m.imports.length k1, .slice a2 m.funcs.length k2, .slice a3 m.tables.length k3, .slice a4 m.mems.length k4, .slice a5 m.globals.length k5, .slice a6 m.exports.length k6, .slice a7 m.start.length k7, .slice a8 m.elems.length k8, .slice a9 m.datas.length k9] 33)) := (Below.refl _ _).alloc (Nat.le_refl _) _
    have hb2 := hb1.trans (hA.mono hb1.size)
    have hM2 := hM.keep (keep_below hA)
    have hK2 := Bk.new w1 [.slice a0 m.types.length k0, .slice a1 m.imports.length k1, .slice a2 m.funcs.length k2, .slice a3 m.tables.length k3, .slice a4 m.mems.length k4, .slice a5 m.globals.length k5, .slice a6 m.exports.length k6, .slice a7 m.start.length k7, .slice a8 m.elems.length k8, .slice a9 m.datas.length k9] 33
    clear hA hM hb1 hV hdc
    replace hg := Lib.hid hg
    replace hb2 := Lib.hid hb2
    replace hM2 := Lib.hid hM2
    replace hK2 := Lib.hid hK2
    go_upto_region 4 with (fail)
    obtain ⟨x, hx⟩ : ∃ x, x = w1.heap.size := ⟨_, rfl⟩
    obtain ⟨w2, hw2⟩ : ∃ w2, w2 = w1.alloc (.cells #[.slice a0 m.types.length k0, .slice a1 m.imports.length k1, .slice a2 m.funcs.length k2, .slice a3 m.tables.length k3, .slice a4 m.mems.length k4, .slice a5 m.globals.length k5, .slice a6 m.exports.length k6, .slice a7 m.start.length k7, .slice a8 m.elems.length k8, .slice a9 m.datas.length k9] 33) := ⟨_, rfl⟩
    rw [← hw2, ← hx]
    rw [← hw2] at hb2 hM2
    rw [← hx, show (w1.alloc (.cells [.slice a0 m.types.length k0, .slice a1 m.imports.length k1, .slice a2 m.funcs.length k2, .slice a3 m.tables.length k3, .slice a4 m.mems.length k4, .slice a5 m.globals.length k5, .slice a6 m.exports.length k6, .slice a7 m.start.length k7, .slice a8 m.elems.length k8, .slice a9 m.datas.length k9].toArray 33)) = w2 from hw2.symm] at hK2
    clear hx hw2
    go_wp2_with fail
    refine (qdecode_any (w := w2) (s := s)).mono ?_
    rintro e w3 ⟨hb3, hV⟩
    obtain ⟨m', n', b0, b1, b2, b3, b4, b5, b6, b7, b8, b9, j0, j1, j2, j3, j4, j5, j6, j7, j8, j9, hg', rfl, hN⟩ := decS_of hV
    obtain ⟨rfl, rfl⟩ := dec_same hg.out hg'
    unfold mdV
    have hA : Below w3.heap.size w3 (w3.alloc (.cells #[.slice b0 m'.types.length j0, .slice b1 m'.imports.length j1, .slice b2 m'.funcs.length j2, .slice b3 m'.tables.length j3, .slice b4 m'.mems.length j4, .slice b5 m'.globals.length j5, .slice b6 m'.exports.length j6, .slice b7 m'.start.length j7, .slice b8 m'.elems.length j8, .slice b9 m'.datas.length j9] 33)) := (Below.refl _ _).alloc (Nat.le_refl _) _
    have hb4 := hb3.trans (hA.mono hb3.size)
    have hM4 := Lib.hid (hM2.out.keep (keep_below hb4))
    have hN4 := Lib.hid (hN.keep (keep_below hA))
    have hK4 := hK2.out.below hb4
    have hL4 := Bk.new w3 [.slice b0 m'.types.length j0, .slice b1 m'.imports.length j1, .slice b2 m'.funcs.length j2, .slice b3 m'.tables.length j3, .slice b4 m'.mems.length j4, .slice b5 m'.globals.length j5, .slice b6 m'.exports.length j6, .slice b7 m'.start.length j7, .slice b8 m'.elems.length j8, .slice b9 m'.datas.length j9] 33
    have hb5 := Lib.hid (hb2.out.trans (hb4.mono hb2.out.size))
    clear hA hM2 hN hb4 hb2 hK2 hV hg hg' hb3
    replace hL4 := Lib.hid hL4
    replace hK4 := Lib.hid hK4
    go_upto_region 5 with (fail)
    obtain ⟨y, hy⟩ : ∃ y, y = w3.heap.size := ⟨_, rfl⟩
    obtain ⟨w4, hw4⟩ : ∃ w4, w4 = w3.alloc (.cells #[.slice b0 m'.types.length j0, .slice b1 m'.imports.length j1, .slice b2 m'.funcs.length j2, .slice b3 m'.tables.length j3, .slice b4 m'.mems.length j4, .slice b5 m'.globals.length j5, .slice b6 m'.exports.length j6, .slice b7 m'.start.length j7, .slice b8 m'.elems.length j8, .slice b9 m'.datas.length j9] 33) := ⟨_, rfl⟩
    rw [← hw4, ← hy]
    rw [← hw4] at hb5 hM4 hN4 hK4
    rw [← hy, show (w3.alloc (.cells [.slice b0 m'.types.length j0, .slice b1 m'.imports.length j1, .slice b2 m'.funcs.length j2, .slice b3 m'.tables.length j3, .slice b4 m'.mems.length j4, .slice b5 m'.globals.length j5, .slice b6 m'.exports.length j6, .slice b7 m'.start.length j7, .slice b8 m'.elems.length j8, .slice b9 m'.datas.length j9].toArray 33)) = w4 from hw4.symm] at hL4
    clear hy hw4
    have x0 := hK4.out.cell (j := 0) rfl
    have z0 := hL4.out.cell (j := 0) rfl
    have x1 := hK4.out.cell (j := 1) rfl
    have z1 := hL4.out.cell (j := 1) rfl
    have x2 := hK4.out.cell (j := 2) rfl
    have z2 := hL4.out.cell (j := 2) rfl
    have x3 := hK4.out.cell (j := 3) rfl
    have z3 := hL4.out.cell (j := 3) rfl
    have x4 := hK4.out.cell (j := 4) rfl
    have z4 := hL4.out.cell (j := 4) rfl
    have x5 := hK4.out.cell (j := 5) rfl
    have z5 := hL4.out.cell (j := 5) rfl
    have x6 := hK4.out.cell (j := 6) rfl
    have z6 := hL4.out.cell (j := 6) rfl
    have x7 := hK4.out.cell (j := 7) rfl
    have z7 := hL4.out.cell (j := 7) rfl
    have x8 := hK4.out.cell (j := 8) rfl
    have z8 := hL4.out.cell (j := 8) rfl
    have x9 := hK4.out.cell (j := 9) rfl
    have z9 := hL4.out.cell (j := 9) rfl
    have hnn : (n' == n') = true := beq_self_eq_true n'
    go_wp2_with fail
    refine (same_true m' a0 k0 a1 k1 a2 k2 a3 k3 a4 k4 a5 k5 a6 k6 a7 k7 a8 k8 a9 k9 b0 j0 b1 j1 b2 j2 b3 j3 b4 j4 b5 j5 b6 j6 b7 j7 b8 j8 b9 j9 _ hM4.out hN4.out).mono ?_
    rintro e w5 ⟨rfl, hb6⟩
    clear x0 z0 x1 z1 x2 z2 x3 z3 x4 z4 x5 z5 x6 z6 x7 z7 x8 z8 x9 z9
    have hT5 := hT.out.below (hb5.out.trans (hb6.mono hb5.out.size))
    have hb7 := Lib.hid (hb5.out.trans (hb6.mono hb5.out.size))
    go_wp2_with fail
    refine (wakes_any hT5).mono ?_
    rintro e w6 ⟨rfl, hb8⟩
    have hb9 := hb7.out.trans (hb8.mono hb7.out.size)
    go_wp2_with fail
    go_ret
    exact ⟨rfl, hb9⟩
end Go.Proofs.YtkbfjkbokifgkaaGreatDoor

namespace Go.Proofs.YtkbfjkbokifgkaaGreatDoor
open Go.ChangeShapes Go.WideShapes Go.ChangeAt Go.RowKit Go.ChangeMaps
set_option maxRecDepth 100000 in
theorem reads_walk {H : Type} {enc : TypeId × Value → H} (W : World) (base : Nat) (hT : TabU W)
    (v0 : Value) (d0 : DataW H) (p0 : List MemPlace) (o0 : Value.okWide Tryz.prog W .any base 9 v0) (h0 : DataW.Trod enc Tryz.prog W 0 (fun _ => true) true 9 v0 d0 p0) :
    Calls Tryz.prog 3 #[v0] W fun e W' => e = .returned (.bool true) ∧ Below W.heap.size W W' := by
  obtain ⟨s, rfl, rfl, rfl, ws⟩ := open_string Tryz.underlying9 o0 h0
  exact reads_any hT
end Go.Proofs.YtkbfjkbokifgkaaGreatDoor
