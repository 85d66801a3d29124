/- DecodeWithin. -/
import Derived.Test.YtkbfjkbokifgkaaDoorRw
import Derived.Test.YtkbfjkbokifgkaaDoorWa
import Derived.Test.YtkbfjkbokifgkaaDoorGd
import Derived.Test.YtkbfjkbokifgkaaDoorFc
import Derived.Test.YtkbfjkbokifgkaaDoorQf
namespace Go.Proofs.YtkbfjkbokifgkaaDoor
open Go.ChangeShapes Go.WideShapes Go.ChangeAt Go.RowKit Go.ChangeMaps
set_option linter.unusedVariables false
set_option linter.unusedSimpArgs false

theorem strl_app (a b : ByteArray) : strl (a ++ b) = strl a ++ strl b := by
  unfold strl
  rw [ByteArray.data_append, Array.toList_append]
/-- Body's two answers. -/
theorem body_two (l : Il) : (bE l ≠ 0 ∧ bB l = []) ∨ (bE l = 0 ∧ checkV (mB l) = 0 ∧ bB l = xEx l ∧ (xEx l).length ≤ 262144) := by
  by_cases hc : checkV (mB l) = 0
  · by_cases hl : (xEx l).length ≤ 262144
    · obtain ⟨h1, h2⟩ := body_ok hc hl
      exact .inr ⟨h1, hc, h2, hl⟩
    · obtain ⟨h1, h2⟩ := body_bad hc (by omega)
      exact .inl ⟨by rw [h1]; decide, h2⟩
  · obtain ⟨h1, h2⟩ := body_not rfl hc
    exact .inl ⟨by rw [h1]; exact hc, h2⟩
set_option maxRecDepth 100000 in
set_option maxHeartbeats 8000000 in
theorem within_law (l : Il) (ao : Option Addr) (c : Nat) (x y : ByteArray) (w : World) (hl : l.len ≤ 9223372036854775807) (hi : IlIn w ao 0 l) (ok : nOk l) (hT : TabU w) :
    Calls Tryd.prog 5 #[.slice ao l.len c, .string x, .string y] w fun e w' => e = .returned (.bool true) ∧ Below w.heap.size w w' := by
  obtain ⟨wA, hwA⟩ : ∃ wA, wA = w.alloc (.cells #[.int .i64 0, .slice none 0 0, .slice ao l.len c] 48) := ⟨_, rfl⟩
  have hbel : Below w.heap.size w wA := by rw [hwA]; exact (Below.refl _ _).alloc (Nat.le_refl _) _
  have hM := mB_at l ao c w hl hi
  rw [← hwA] at hM
  replace hM := Lib.hid hM
  have HI := Lib.hid (hi.below hbel)
  have HU := Lib.hid (hT.below hbel)
  replace hbel := Lib.hid hbel
  replace ok := Lib.hid ok
  clear hT hi
  go_enter Tryd.func5, Tryd.ntmps5
  go_wp2_with fail
  rw [← hwA]
  clear hwA
  refine (large_any (mB l) _ _ _ _ _ _ _ _ _ _ _ _ _ _ _ _ _ _ _ _ wA hM.out).mono ?_
  rintro e w1 ⟨L, rfl, hS, hb1⟩
  replace hS := Lib.hid hS
  have hB1 := Lib.hid (hbel.out.trans (hb1.mono hbel.out.size))
  have HI1 := Lib.hid (HI.out.below hb1)
  have HU1 := Lib.hid (HU.out.below hb1)
  clear hb1
  have hcase : L = true ∨ (L = false ∧ (1000 : Int) < (x.size : Int)) ∨ (L = false ∧ ¬ (1000 : Int) < (x.size : Int) ∧ (1000 : Int) < (y.size : Int)) ∨ (L = false ∧ ¬ (1000 : Int) < (x.size : Int) ∧ ¬ (1000 : Int) < (y.size : Int)) := by
    cases L
    · right
      by_cases h1 : (1000 : Int) < (x.size : Int)
      · exact .inl ⟨rfl, h1⟩
      · by_cases h2 : (1000 : Int) < (y.size : Int)
        · exact .inr (.inl ⟨rfl, h1, h2⟩)
        · exact .inr (.inr ⟨rfl, h1, h2⟩)
    · exact .inl rfl
  have hend : ∀ (w5 : World), Below w1.heap.size w1 w5 → Below w.heap.size w w5 := fun w5 h => hB1.out.trans (h.mono hB1.out.size)
  replace hend := Lib.hid hend
  rcases hcase with rfl | ⟨rfl, h1⟩ | ⟨rfl, h1, h2⟩ | ⟨rfl, h1, h2⟩
  iterate 3
    · go_wp2_with fail
      refine (wakes_any HU1.out).mono ?_
      rintro e w5 ⟨rfl, hb5⟩
      have hB5 := Lib.hid (hend.out _ hb5)
      clear hb5
      go_wp2_with fail
      go_ret
      exact ⟨rfl, hB5.out⟩
  have hP : funP ((0, [], l) : Int × List Int × Il) := (hS.out rfl).funcs _ (List.mem_singleton.2 rfl)
  have hP1 : l.len ≤ 1600 := hP.2.1
  have hP2 := Lib.hid hP.2.2.1
  have hwt : wt l ≤ 1500 := hP.2.2.2
  clear hP
  go_wp2_with fail
  refine (copies12_any l ao c w1 hP1 hP2.out HI1.out).mono ?_
  rintro e w2 ⟨a2, c2, rfl, hs2, hb2⟩
  have hi2 := Lib.hid hs2.il
  have hB2 := Lib.hid (hB1.out.trans (hb2.mono hB1.out.size))
  have HI2 := Lib.hid (HI1.out.below hb2)
  have HU2 := Lib.hid (HU1.out.below hb2)
  clear hs2 hb2
  go_wp2_with fail
  refine (body_any l a2 c2 w2 hl hi2.out ok.out HU2.out).mono ?_
  rintro e w3 ⟨rfl, hb3⟩
  have hB3 := Lib.hid (hB2.out.trans (hb3.mono hB2.out.size))
  have HI3 := Lib.hid (HI2.out.below hb3)
  have HU3 := Lib.hid (HU2.out.below hb3)
  clear hb3
  have hbt := body_two l
  obtain ⟨E, hE⟩ : ∃ E, bE l = E := ⟨_, rfl⟩
  obtain ⟨B, hB⟩ : ∃ B, bB l = B := ⟨_, rfl⟩
  rw [hE, hB] at hbt ⊢
  clear hE hB
  have hsz : (mks B).size = B.length := by
    show (B.toArray).size = _
    simp
  rcases hbt with ⟨hE0, rfl⟩ | ⟨rfl, hck, rfl, hlen⟩
  · have q1 : (E != 0) = true := by simp [hE0]
    have q2 : (E == 0) = false := beq_eq_false_iff_ne.2 hE0
    have q3 : mks [] = ⟨#[]⟩ := rfl
    rw [q3]
    replace q3 := Lib.hid q3
    go_wp2_with fail
    refine (wakes_any HU3.out).mono ?_
    rintro e w5 ⟨rfl, hb5⟩
    have hB5 := Lib.hid (hB3.out.trans (hb5.mono hB3.out.size))
    clear hb5
    go_wp2_with fail
    go_ret
    exact ⟨rfl, hB5.out⟩
  · by_cases hbig : 20000 < (xEx l).length
    · have q4 : (20000 : Int) < ((mks (xEx l)).size : Int) := by rw [hsz]; omega
      go_wp2_with fail
      refine (wakes_any HU3.out).mono ?_
      rintro e w5 ⟨rfl, hb5⟩
      have hB5 := Lib.hid (hB3.out.trans (hb5.mono hB3.out.size))
      clear hb5
      go_wp2_with fail
      go_ret
      exact ⟨rfl, hB5.out⟩
    · have q4 : ¬ (20000 : Int) < ((mks (xEx l)).size : Int) := by rw [hsz]; omega
      have hrd : gExpr (strl (x ++ mks (xEx l) ++ y)) ((x.size : Nat) : Int) = .ok (l, x.size + (xEx l).length) := by
        rw [strl_app, strl_app, strl_mks]
        have := rd_expr ok.out ((check_mB (by omega)).1 hck) (by omega) (strl x) (strl y) (by
          rw [List.length_append, List.length_append, strl_length, strl_length]
          omega)
        rw [strl_length] at this
        exact this
      have hXs : (mks (xEx l)).size = (xEx l).length := hsz
      obtain ⟨X, hX⟩ : ∃ X, X = mks (xEx l) := ⟨_, rfl⟩
      rw [← hX] at hrd hXs q4 ⊢
      have hXn : X.size ≤ 20000 := by omega
      have hwd : IntKind.i64.wrap ((x.size : Int) + (X.size : Int)) = ((x.size + X.size : Nat) : Int) := (wid64 _ (by omega) (by omega)).trans (by omega)
      have hen : ((x.size + (xEx l).length : Nat) : Int) = ((x.size + X.size : Nat) : Int) := by rw [hXs]
      replace hrd := Lib.hid hrd
      replace hen := Lib.hid hen
      replace hXs := Lib.hid hXs
      clear hX hck hlen hbig hsz
      go_wp2_with fail
      refine (expr_any _ _ w3).mono ?_
      rintro e w4 ⟨hb4, hV⟩
      rcases hV with ⟨il, n', a4, c4, hg', rfl, hl4, hil4⟩ | ⟨n', hn0, hg', rfl⟩
      rotate_left
      · rw [hrd.out] at hg'; cases hg'
      rw [hrd.out] at hg'
      cases hg'
      rw [hen.out]
      replace hil4 := Lib.hid hil4
      have hB4 := Lib.hid (hB3.out.trans (hb4.mono hB3.out.size))
      have HI4 := Lib.hid (HI3.out.below hb4)
      have HU4 := Lib.hid (HU3.out.below hb4)
      clear hb4
      have q5 : (((x.size + X.size : Nat) : Int) == ((x.size + X.size : Nat) : Int)) = true := beq_self_eq_true _
      go_wp2_with fail
      refine (instrs_any l l a4 ao c4 c w4 hl4 hl hil4.out HI4.out).mono ?_
      rintro e w5 ⟨rfl, hb5⟩
      have hB5 := Lib.hid (hB4.out.trans (hb5.mono hB4.out.size))
      have HU5 := Lib.hid (HU4.out.below hb5)
      clear hb5
      rw [ilEq_self]
      go_wp2_with fail
      refine (wakes_any HU5.out).mono ?_
      rintro e w6 ⟨rfl, hb6⟩
      have hB6 := Lib.hid (hB5.out.trans (hb6.mono hB5.out.size))
      clear hb6
      go_wp2_with fail
      go_ret
      exact ⟨rfl, hB6.out⟩
set_option maxRecDepth 100000 in
theorem within_walk {H : Type} {enc : TypeId × Value → H} (W : World) (base : Nat) (hT : TabU W)
    (v0 : Value) (d0 : DataW H) (p0 : List MemPlace) (o0 : Value.okWide Tryd.prog W .any base 40 v0) (h0 : DataW.Trod enc Tryd.prog W 0 (fun _ => true) true 40 v0 d0 p0)
    (v1 : Value) (d1 : DataW H) (p1 : List MemPlace) (o1 : Value.okWide Tryd.prog W .any base 9 v1) (h1 : DataW.Trod enc Tryd.prog W 0 (fun _ => true) true 9 v1 d1 p1)
    (v2 : Value) (d2 : DataW H) (p2 : List MemPlace) (o2 : Value.okWide Tryd.prog W .any base 9 v2) (h2 : DataW.Trod enc Tryd.prog W 0 (fun _ => true) true 9 v2 d2 p2) :
    Calls Tryd.prog 5 #[v0, v1, v2] W fun e W' => e = .returned (.bool true) ∧ Below W.heap.size W W' := by
  obtain ⟨ao, l, c, rfl, hl, hi⟩ := open_instrs o0 h0
  obtain ⟨x, rfl, rfl, rfl, wx⟩ := open_string Tryd.underlying9 o1 h1
  obtain ⟨y, rfl, rfl, rfl, wy⟩ := open_string Tryd.underlying9 o2 h2
  exact within_law l ao c x y W hl.1 hi hl.2 hT
end Go.Proofs.YtkbfjkbokifgkaaDoor
