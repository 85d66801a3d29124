/- EncodeBytes: the walk. -/
import Derived.Test.YtanpjbbhhofkfaaGreatDoorCn
import Derived.Test.YtanpjbbhhofkfaaGreatDoorSd
import Derived.Test.YtanpjbbhhofkfaaGreatDoorHg
import Derived.Test.YtanpjbbhhofkfaaGreatDoorHt
import Derived.Test.YtanpjbbhhofkfaaGreatDoorLd
import Derived.Test.YtanpjbbhhofkfaaGreatDoorOp
import Derived.SizedLaws
namespace Go.Proofs.YtanpjbbhhofkfaaGreatDoor
open Go.RowKit
set_option linter.unusedVariables false
set_option linter.unusedSimpArgs false
set_option maxRecDepth 100000
set_option maxHeartbeats 4000000

theorem zip_self {α : Type} {f : α × α → Bool} (h : ∀ x, f (x, x) = true) : ∀ l : List α, (l.zip l).all f = true
  | [] => rfl
  | x :: l => by rw [List.zip_cons_cons, List.all_cons, h x, zip_self h l]; rfl
theorem mdSame_self (m : Md) : mdSame m m = true := by
  unfold mdSame sm0 sm1 sm2 sm3 sm4 sm5 sm6 sm7 sm8 sizesB
  rw [zip_self (f := typQ) (fun x => by simp [typQ]), zip_self (f := impQ) (fun x => by simp [impQ]), zip_self (f := funQ) (fun x => by simp [funQ, ilEq_self]), zip_self (f := limQ) (fun x => by simp [limQ]), zip_self (f := limQ) (fun x => by simp [limQ]), zip_self (f := gloQ) (fun x => by simp [gloQ, ilEq_self]), zip_self (f := expQ) (fun x => by simp [expQ]), zip_self (f := elmQ) (fun x => by simp [elmQ, ilEq_self]), zip_self (f := datQ) (fun x => by simp [datQ, ilEq_self])]
  simp
theorem ebytes_any (m : Md) (hN : NOk m) (a0 : Option Addr) (k0 : Nat) (a1 : Option Addr) (k1 : Nat) (a2 : Option Addr) (k2 : Nat) (a3 : Option Addr) (k3 : Nat) (a4 : Option Addr) (k4 : Nat) (a5 : Option Addr) (k5 : Nat) (a6 : Option Addr) (k6 : Nat) (a7 : Option Addr) (k7 : Nat) (a8 : Option Addr) (k8 : Nat) (a9 : Option Addr) (k9 : Nat) (w : World) (h : MdAt w m a0 k0 a1 k1 a2 k2 a3 k3 a4 k4 a5 k5 a6 k6 a7 k7 a8 k8 a9 k9) (hT : TabU w) :
    Calls Tryz.prog 3 #[mdV m a0 k0 a1 k1 a2 k2 a3 k3 a4 k4 a5 k5 a6 k6 a7 k7 a8 k8 a9 k9] w fun e w' => e = .returned (.bool true) ∧ Below w.heap.size w w' := by
  have hB0 : Below w.heap.size w (w.alloc (.cells #[.slice a0 m.types.length k0, .slice a1 m.imports.length k1, .slice a2 m.funcs.length k2, .slice a3 m.tables.length k3, .slice a4 m.mems.length k4, .slice a5 m.globals.length k5, .slice a6 m.exports.length k6, .slice a7 m.start.length k7, .slice a8 m.elems.length k8, .slice a9 m.datas.length k9] 32)) := (Below.refl _ _).alloc (Nat.le_refl _) _
  have HM0 := zh (h.keep (keep_below hB0))
  have HT0 := zh (hT.below hB0)
  have bx0 : Hid (Box (w.alloc (.cells #[.slice a0 m.types.length k0, .slice a1 m.imports.length k1, .slice a2 m.funcs.length k2, .slice a3 m.tables.length k3, .slice a4 m.mems.length k4, .slice a5 m.globals.length k5, .slice a6 m.exports.length k6, .slice a7 m.start.length k7, .slice a8 m.elems.length k8, .slice a9 m.datas.length k9] 32)) w.heap.size #[.slice a0 m.types.length k0, .slice a1 m.imports.length k1, .slice a2 m.funcs.length k2, .slice a3 m.tables.length k3, .slice a4 m.mems.length k4, .slice a5 m.globals.length k5, .slice a6 m.exports.length k6, .slice a7 m.start.length k7, .slice a8 m.elems.length k8, .slice a9 m.datas.length k9]) := zh (box_new w _ _)
  replace hB0 := zh hB0
  replace hN := zh hN
  clear h hT
  unfold mdV
  go_enter Tryz.func3, Tryz.ntmps3
  go_wp2_with fail
  obtain ⟨w0, hw0⟩ : ∃ w0, w0 = w.alloc (.cells #[.slice a0 m.types.length k0, .slice a1 m.imports.length k1, .slice a2 m.funcs.length k2, .slice a3 m.tables.length k3, .slice a4 m.mems.length k4, .slice a5 m.globals.length k5, .slice a6 m.exports.length k6, .slice a7 m.start.length k7, .slice a8 m.elems.length k8, .slice a9 m.datas.length k9] 32) := ⟨_, rfl⟩
  rw [← hw0] at HM0 HT0 bx0 hB0 ⊢
  clear hw0
  refine (large_any m a0 k0 a1 k1 a2 k2 a3 k3 a4 k4 a5 k5 a6 k6 a7 k7 a8 k8 a9 k9 w0 HM0.out).mono ?_
  rintro e w1 ⟨L, rfl, hS, hb1⟩
  replace hS := zh hS
  have hB1 := zh (hB0.out.trans (hb1.mono hB0.out.size))
  have HM1 := zh (HM0.out.keep (keep_below hb1))
  have HT1 := zh (HT0.out.below hb1)
  have bx1 := zh (bx0.out.keep (keep_below hb1))
  clear hb1
  cases L
  · have hS1 := zh (hS.out rfl)
    have x0 : w1.cell? ⟨w.heap.size, 0, none⟩ = some (.slice a0 m.types.length k0) := bx1.out 0 _ rfl
    have x1 : w1.cell? ⟨w.heap.size, 1, none⟩ = some (.slice a1 m.imports.length k1) := bx1.out 1 _ rfl
    have x2 : w1.cell? ⟨w.heap.size, 2, none⟩ = some (.slice a2 m.funcs.length k2) := bx1.out 2 _ rfl
    have x3 : w1.cell? ⟨w.heap.size, 3, none⟩ = some (.slice a3 m.tables.length k3) := bx1.out 3 _ rfl
    have x4 : w1.cell? ⟨w.heap.size, 4, none⟩ = some (.slice a4 m.mems.length k4) := bx1.out 4 _ rfl
    have x5 : w1.cell? ⟨w.heap.size, 5, none⟩ = some (.slice a5 m.globals.length k5) := bx1.out 5 _ rfl
    have x6 : w1.cell? ⟨w.heap.size, 6, none⟩ = some (.slice a6 m.exports.length k6) := bx1.out 6 _ rfl
    have x7 : w1.cell? ⟨w.heap.size, 7, none⟩ = some (.slice a7 m.start.length k7) := bx1.out 7 _ rfl
    have x8 : w1.cell? ⟨w.heap.size, 8, none⟩ = some (.slice a8 m.elems.length k8) := bx1.out 8 _ rfl
    have x9 : w1.cell? ⟨w.heap.size, 9, none⟩ = some (.slice a9 m.datas.length k9) := bx1.out 9 _ rfl
    go_wp2_with fail
    refine (copy_any m hS1.out w1 HM1.out).mono ?_
    rintro e w2 ⟨d0, r0, d1, r1, d2, r2, d3, r3, d4, r4, d5, r5, d6, r6, d7, r7, d8, r8, d9, r9, rfl, hC, hb2⟩
    have HC2 := zh hC
    clear hC
    have hB2 := zh (hB1.out.trans (hb2.mono hB1.out.size))
    have HM2 := zh (HM1.out.keep (keep_below hb2))
    have HT2 := zh (HT1.out.below hb2)
    have bx2 := zh (bx1.out.keep (keep_below hb2))
    clear hb2 x0 x1 x2 x3 x4 x5 x6 x7 x8 x9
    unfold mdV
    obtain ⟨w3, hw3⟩ : ∃ w3, w3 = w2.alloc (.cells #[.slice d0 m.types.length r0, .slice d1 m.imports.length r1, .slice d2 m.funcs.length r2, .slice d3 m.tables.length r3, .slice d4 m.mems.length r4, .slice d5 m.globals.length r5, .slice d6 m.exports.length r6, .slice d7 m.start.length r7, .slice d8 m.elems.length r8, .slice d9 m.datas.length r9] 32) := ⟨_, rfl⟩
    have hb3 : Below w2.heap.size w2 w3 := by rw [hw3]; exact (Below.refl _ _).alloc (Nat.le_refl _) _
    have by3 : Box w3 w2.heap.size #[.slice d0 m.types.length r0, .slice d1 m.imports.length r1, .slice d2 m.funcs.length r2, .slice d3 m.tables.length r3, .slice d4 m.mems.length r4, .slice d5 m.globals.length r5, .slice d6 m.exports.length r6, .slice d7 m.start.length r7, .slice d8 m.elems.length r8, .slice d9 m.datas.length r9] := by rw [hw3]; exact box_new w2 _ _
    replace by3 := zh by3
    have hB3 := zh (hB2.out.trans (hb3.mono hB2.out.size))
    have HM3 := zh (HM2.out.keep (keep_below hb3))
    have HT3 := zh (HT2.out.below hb3)
    have bx3 := zh (bx2.out.keep (keep_below hb3))
    have HC3 := zh (HC2.out.keep (keep_below hb3))
    clear hb3
    go_wp2_with fail
    rw [← hw3]
    clear hw3
    refine (enc_any m d0 r0 d1 r1 d2 r2 d3 r3 d4 r4 d5 r5 d6 r6 d7 r7 d8 r8 d9 r9 w3 HC3.out HT3.out (fit_of hN.out)).mono ?_
    rintro e w4 ⟨rfl, hb4⟩
    have hB4 := zh (hB3.out.trans (hb4.mono hB3.out.size))
    have HM4 := zh (HM3.out.keep (keep_below hb4))
    have HT4 := zh (HT3.out.below hb4)
    have bx4 := zh (bx3.out.keep (keep_below hb4))
    have HC4 := zh (HC3.out.keep (keep_below hb4))
    have by4 := zh (by3.out.keep (keep_below hb4))
    clear hb4
    have x0 : w4.cell? ⟨w.heap.size, 0, none⟩ = some (.slice a0 m.types.length k0) := bx4.out 0 _ rfl
    have x1 : w4.cell? ⟨w.heap.size, 1, none⟩ = some (.slice a1 m.imports.length k1) := bx4.out 1 _ rfl
    have x2 : w4.cell? ⟨w.heap.size, 2, none⟩ = some (.slice a2 m.funcs.length k2) := bx4.out 2 _ rfl
    have x3 : w4.cell? ⟨w.heap.size, 3, none⟩ = some (.slice a3 m.tables.length k3) := bx4.out 3 _ rfl
    have x4 : w4.cell? ⟨w.heap.size, 4, none⟩ = some (.slice a4 m.mems.length k4) := bx4.out 4 _ rfl
    have x5 : w4.cell? ⟨w.heap.size, 5, none⟩ = some (.slice a5 m.globals.length k5) := bx4.out 5 _ rfl
    have x6 : w4.cell? ⟨w.heap.size, 6, none⟩ = some (.slice a6 m.exports.length k6) := bx4.out 6 _ rfl
    have x7 : w4.cell? ⟨w.heap.size, 7, none⟩ = some (.slice a7 m.start.length k7) := bx4.out 7 _ rfl
    have x8 : w4.cell? ⟨w.heap.size, 8, none⟩ = some (.slice a8 m.elems.length k8) := bx4.out 8 _ rfl
    have x9 : w4.cell? ⟨w.heap.size, 9, none⟩ = some (.slice a9 m.datas.length k9) := bx4.out 9 _ rfl
    go_wp2_with fail
    refine (renc_any m a0 k0 a1 k1 a2 k2 a3 k3 a4 k4 a5 k5 a6 k6 a7 k7 a8 k8 a9 k9 w4 HM4.out (fun t ht => (hS1.out.datas t ht).1) (fit_of hN.out)).mono ?_
    rintro e w5 ⟨rfl, hb5⟩
    have hB5 := zh (hB4.out.trans (hb5.mono hB4.out.size))
    have HM5 := zh (HM4.out.keep (keep_below hb5))
    have HT5 := zh (HT4.out.below hb5)
    have bx5 := zh (bx4.out.keep (keep_below hb5))
    have HC5 := zh (HC4.out.keep (keep_below hb5))
    have by5 := zh (by4.out.keep (keep_below hb5))
    clear hb5 x0 x1 x2 x3 x4 x5 x6 x7 x8 x9
    obtain ⟨E, hE⟩ : ∃ E, encE m = E := ⟨_, rfl⟩
    obtain ⟨B, hB⟩ : ∃ B, encB m = B := ⟨_, rfl⟩
    rw [hE, hB]
    clear hE hB
    have x0 : w5.cell? ⟨w.heap.size, 0, none⟩ = some (.slice a0 m.types.length k0) := bx5.out 0 _ rfl
    have x1 : w5.cell? ⟨w.heap.size, 1, none⟩ = some (.slice a1 m.imports.length k1) := bx5.out 1 _ rfl
    have x2 : w5.cell? ⟨w.heap.size, 2, none⟩ = some (.slice a2 m.funcs.length k2) := bx5.out 2 _ rfl
    have x3 : w5.cell? ⟨w.heap.size, 3, none⟩ = some (.slice a3 m.tables.length k3) := bx5.out 3 _ rfl
    have x4 : w5.cell? ⟨w.heap.size, 4, none⟩ = some (.slice a4 m.mems.length k4) := bx5.out 4 _ rfl
    have x5 : w5.cell? ⟨w.heap.size, 5, none⟩ = some (.slice a5 m.globals.length k5) := bx5.out 5 _ rfl
    have x6 : w5.cell? ⟨w.heap.size, 6, none⟩ = some (.slice a6 m.exports.length k6) := bx5.out 6 _ rfl
    have x7 : w5.cell? ⟨w.heap.size, 7, none⟩ = some (.slice a7 m.start.length k7) := bx5.out 7 _ rfl
    have x8 : w5.cell? ⟨w.heap.size, 8, none⟩ = some (.slice a8 m.elems.length k8) := bx5.out 8 _ rfl
    have x9 : w5.cell? ⟨w.heap.size, 9, none⟩ = some (.slice a9 m.datas.length k9) := bx5.out 9 _ rfl
    have z0 : w5.cell? ⟨w2.heap.size, 0, none⟩ = some (.slice d0 m.types.length r0) := by5.out 0 _ rfl
    have z1 : w5.cell? ⟨w2.heap.size, 1, none⟩ = some (.slice d1 m.imports.length r1) := by5.out 1 _ rfl
    have z2 : w5.cell? ⟨w2.heap.size, 2, none⟩ = some (.slice d2 m.funcs.length r2) := by5.out 2 _ rfl
    have z3 : w5.cell? ⟨w2.heap.size, 3, none⟩ = some (.slice d3 m.tables.length r3) := by5.out 3 _ rfl
    have z4 : w5.cell? ⟨w2.heap.size, 4, none⟩ = some (.slice d4 m.mems.length r4) := by5.out 4 _ rfl
    have z5 : w5.cell? ⟨w2.heap.size, 5, none⟩ = some (.slice d5 m.globals.length r5) := by5.out 5 _ rfl
    have z6 : w5.cell? ⟨w2.heap.size, 6, none⟩ = some (.slice d6 m.exports.length r6) := by5.out 6 _ rfl
    have z7 : w5.cell? ⟨w2.heap.size, 7, none⟩ = some (.slice d7 m.start.length r7) := by5.out 7 _ rfl
    have z8 : w5.cell? ⟨w2.heap.size, 8, none⟩ = some (.slice d8 m.elems.length r8) := by5.out 8 _ rfl
    have z9 : w5.cell? ⟨w2.heap.size, 9, none⟩ = some (.slice d9 m.datas.length r9) := by5.out 9 _ rfl
    go_wp2_with fail
    refine (rsame_any m m d0 r0 d1 r1 d2 r2 d3 r3 d4 r4 d5 r5 d6 r6 d7 r7 d8 r8 d9 r9 a0 k0 a1 k1 a2 k2 a3 k3 a4 k4 a5 k5 a6 k6 a7 k7 a8 k8 a9 k9 w5 HC5.out HM5.out).mono ?_
    rintro e w6 ⟨rfl, hb6⟩
    rw [mdSame_self]
    have hB6 := zh (hB5.out.trans (hb6.mono hB5.out.size))
    have HM6 := zh (HM5.out.keep (keep_below hb6))
    have HT6 := zh (HT5.out.below hb6)
    have bx6 := zh (bx5.out.keep (keep_below hb6))
    clear hb6 x0 x1 x2 x3 x4 x5 x6 x7 x8 x9 z0 z1 z2 z3 z4 z5 z6 z7 z8 z9
    go_wp2_with fail
    refine (wakes_any _ HT6.out).mono ?_
    rintro e wz ⟨rfl, hbz⟩
    have hBz := zh (hB6.out.trans (hbz.mono hB6.out.size))
    clear hbz
    go_wp2
    go_ret
    exact ⟨by first | rfl | simp, hBz.out⟩
  · go_wp2_with fail
    refine (wakes_any _ HT1.out).mono ?_
    rintro e wz ⟨rfl, hbz⟩
    have hBz := zh (hB1.out.trans (hbz.mono hB1.out.size))
    clear hbz
    go_wp2
    go_ret
    exact ⟨rfl, hBz.out⟩
end Go.Proofs.YtanpjbbhhofkfaaGreatDoor

namespace Go.Proofs.YtanpjbbhhofkfaaGreatDoor
open Go.ChangeShapes Go.WideShapes Go.ChangeAt Go.RowKit
set_option linter.unusedVariables false
set_option maxRecDepth 100000
theorem bytes_walk {H : Type} {enc : TypeId × Value → H} (W : World) (base : Nat) (hT : TabU W)
    (v0 : Value) (d0 : DataW H) (p0 : List MemPlace) (o0 : Value.okWide Tryz.prog W .any base 32 v0) (h0 : DataW.Trod enc Tryz.prog W 0 (fun _ => true) true 32 v0 d0 p0) :
    Calls Tryz.prog 3 #[v0] W fun e W' => e = .returned (.bool true) ∧ Below W.heap.size W W' := by
  obtain ⟨m, a0, k0, a1, k1, a2, k2, a3, k3, a4, k4, a5, k5, a6, k6, a7, k7, a8, k8, a9, k9, rfl, h, n1, n2, n3, n4⟩ := open_module o0 h0
  exact ebytes_any m ⟨n1, n2, n3, n4⟩ a0 k0 a1 k1 a2 k2 a3 k3 a4 k4 a5 k5 a6 k6 a7 k7 a8 k8 a9 k9 W h hT
end Go.Proofs.YtanpjbbhhofkfaaGreatDoor
