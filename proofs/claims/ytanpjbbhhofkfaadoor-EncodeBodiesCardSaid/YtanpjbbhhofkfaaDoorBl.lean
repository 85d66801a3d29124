/- EncodeBodies: the walk. -/
import Derived.Test.YtanpjbbhhofkfaaDoorBr
import Derived.Test.YtanpjbbhhofkfaaDoorBq
import Derived.Test.YtanpjbbhhofkfaaDoorCa
import Derived.Test.YtanpjbbhhofkfaaDoorOp
import Derived.Test.YtanpjbbhhofkfaaDoorLd
namespace Go.Proofs.YtanpjbbhhofkfaaDoor
open Go.RowKit
set_option linter.unusedVariables false
set_option linter.unusedSimpArgs false

theorem copies12_any (l : Il) (ao : Option Addr) (c : Nat) (w : World) (h1 : l.len ≤ 1600) (h2 : Sml l) (h3 : IlIn w ao 0 l) :
    Calls Tryd.prog 12 #[.slice ao l.len c] w fun e w' => ∃ ao' c', e = .returned (.slice ao' l.len c') ∧ SlR (fun b => w.heap.size ≤ b) w' ao' l ∧ Below w.heap.size w w' := by
  have hc := Lib.hid (copies_any l ao c w h1 h2 h3)
  clear h1 h2 h3
  go_enter Tryd.func12, Tryd.ntmps12
  go_wp2_with fail
  refine hc.out.mono ?_
  rintro e w1 ⟨a1, c1, rfl, hs, hb⟩
  replace hs := Lib.hid hs
  replace hb := Lib.hid hb
  go_wp2
  go_ret
  exact ⟨_, _, rfl, hs.out, hb.out⟩
set_option maxRecDepth 100000 in
set_option maxHeartbeats 4000000 in
theorem bodies_law (l : Il) (ao : Option Addr) (c : Nat) (w : World) (hl : l.len ≤ 9223372036854775807) (hi : IlIn w ao 0 l) (ok : nOk l) (hT : TabU w) :
    Calls Tryd.prog 4 #[.slice ao l.len c] w fun e w' => e = .returned (.bool true) ∧ Below w.heap.size w w' := by
  obtain ⟨wA, hwA⟩ : ∃ wA, wA = w.alloc (.cells #[.int .i64 0, .slice none 0 0, .slice ao l.len c] 42) := ⟨_, rfl⟩
  have hbel : Below w.heap.size w wA := by rw [hwA]; exact (Below.refl _ _).alloc (Nat.le_refl _) _
  have hM := mB_at l ao c w hl hi
  rw [← hwA] at hM
  replace hM := Lib.hid hM
  have HI := Lib.hid (hi.below hbel)
  have HU := Lib.hid (hT.below hbel)
  replace hbel := Lib.hid hbel
  replace ok := Lib.hid ok
  clear hT hi
  go_enter Tryd.func4, Tryd.ntmps4
  go_wp2_with fail
  rw [← hwA]
  clear hwA
  refine (large_any (mB l) _ _ _ _ _ _ _ _ _ _ _ _ _ _ _ _ _ _ _ _ wA hM.out).mono ?_
  rintro e w1 ⟨L, rfl, hS, hb1⟩
  replace hS := Lib.hid hS
  have hB1 := Lib.hid (hbel.out.trans (hb1.mono hbel.out.size))
  have HI1 := Lib.hid (HI.out.below hb1)
  have HU1 := Lib.hid (HU.out.below hb1)
  clear hb1
  cases L
  · have hP : funP ((0, [], l) : Int × List Int × Il) := (hS.out rfl).funcs _ (List.mem_singleton.2 rfl)
    have hP1 : l.len ≤ 1600 := hP.2.1
    have hP2 := Lib.hid hP.2.2.1
    clear hP
    go_wp2_with fail
    refine (copies12_any l ao c w1 hP1 hP2.out HI1.out).mono ?_
    rintro e w2 ⟨a2, c2, rfl, hs2, hb2⟩
    have hi2 := Lib.hid hs2.il
    have hB2 := Lib.hid (hB1.out.trans (hb2.mono hB1.out.size))
    have HI2 := Lib.hid (HI1.out.below hb2)
    have HU2 := Lib.hid (HU1.out.below hb2)
    clear hs2 hb2
    go_wp2_with fail
    refine (body_any l a2 c2 w2 hl hi2.out ok.out HU2.out).mono ?_
    rintro e w3 ⟨rfl, hb3⟩
    have hB3 := Lib.hid (hB2.out.trans (hb3.mono hB2.out.size))
    have HI3 := Lib.hid (HI2.out.below hb3)
    have HU3 := Lib.hid (HU2.out.below hb3)
    clear hb3
    go_wp2_with fail
    refine (rbody_any l ao c w3 hl HI3.out ok.out).mono ?_
    rintro e w4 ⟨rfl, hb4⟩
    have hB4 := Lib.hid (hB3.out.trans (hb4.mono hB3.out.size))
    have HU4 := Lib.hid (HU3.out.below hb4)
    clear hb4
    obtain ⟨E, hE⟩ : ∃ E, bE l = E := ⟨_, rfl⟩
    obtain ⟨B, hB⟩ : ∃ B, bB l = B := ⟨_, rfl⟩
    rw [hE, hB]
    clear hE hB
    go_wp2_with fail
    refine (wakes_any w4 HU4.out).mono ?_
    rintro e w5 ⟨rfl, hb5⟩
    have hB5 := Lib.hid (hB4.out.trans (hb5.mono hB4.out.size))
    clear hb5
    go_wp2
    go_ret
    exact ⟨by simp, hB5.out⟩
  · go_wp2_with fail
    refine (wakes_any w1 HU1.out).mono ?_
    rintro e w5 ⟨rfl, hb5⟩
    have hB5 := Lib.hid (hB1.out.trans (hb5.mono hB1.out.size))
    clear hb5
    go_wp2
    go_ret
    exact ⟨rfl, hB5.out⟩
end Go.Proofs.YtanpjbbhhofkfaaDoor

namespace Go.Proofs.YtanpjbbhhofkfaaDoor
open Go.ChangeShapes Go.WideShapes Go.ChangeAt Go.RowKit
set_option linter.unusedVariables false
set_option maxRecDepth 100000 in
theorem bodies_walk {H : Type} {enc : TypeId × Value → H} (W : World) (base : Nat) (hT : TabU W)
    (v0 : Value) (d0 : DataW H) (p0 : List MemPlace) (o0 : Value.okWide Tryd.prog W .any base 40 v0) (h0 : DataW.Trod enc Tryd.prog W 0 (fun _ => true) true 40 v0 d0 p0) :
    Calls Tryd.prog 4 #[v0] W fun e W' => e = .returned (.bool true) ∧ Below W.heap.size W W' := by
  obtain ⟨ao, l, c, rfl, hl, hi⟩ := open_instrs o0 h0
  exact bodies_law l ao c W hl.1 hi hl.2 hT
end Go.Proofs.YtanpjbbhhofkfaaDoor
