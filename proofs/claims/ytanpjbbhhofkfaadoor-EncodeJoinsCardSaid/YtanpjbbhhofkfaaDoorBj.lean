/- EncodeJoins: what it makes, and the walk. -/
import Derived.Test.YtanpjbbhhofkfaaDoorBo
import Derived.Test.YtanpjbbhhofkfaaDoorBq
import Derived.Test.YtanpjbbhhofkfaaDoorCa
import Derived.Test.YtanpjbbhhofkfaaDoorOp
import Derived.Test.YtanpjbbhhofkfaaDoorLd
import Derived.Maps.AppendAt
namespace Go.Proofs.YtanpjbbhhofkfaaDoor
open Go.RowKit
set_option linter.unusedVariables false
set_option linter.unusedSimpArgs false

theorem ilOf_app (s : List ERec) : ∀ r : List ERec, ilOf (r ++ s) .nil = (ilOf r .nil).app (ilOf s .nil)
  | [] => rfl
  | t :: r => by
    rw [List.cons_append, ilOf, ilOf, Il.app, ilOf_app s r]
theorem eV_one (t : ERec) : ∀ u ∈ eV t, u.oneCell' = true := by
  intro u hu
  simp only [eV, List.mem_cons, List.not_mem_nil, or_false] at hu
  rcases hu with rfl | rfl | rfl | rfl | rfl | rfl | rfl <;> rfl
theorem len_nil3 : ∀ {l : Il}, l.len = 0 → l = .nil
  | .nil, _ => rfl
  | .cons .., h => by simp [Il.len] at h
/-- A row of instructions, appended to another one, both the call's own. -/
theorem join_run (w : World) (base b2 n m : Nat) (v1 v2 : Value) (l1 l2 : Il) (h1 : OwnIl base w v1 n l1) (h2 : OwnIl b2 w v2 m l2) (hb : base ≤ b2) (hb2 : b2 ≤ w.heap.size) (hv : ∀ g, v1.ownBlock = some g → g < b2) (hn : n ≤ 1600) (hm : m ≤ 1600) :
    ∃ v' w', (Builtin.append_ #[40, 40] 40 #[v1, v2]).run Tryd.prog w = .ok v' w' ∧ (∃ a c, v' = .slice a (l1.app l2).len c ∧ IlIn w' a 0 (l1.app l2)) ∧ w.grownBy w' v1.ownBlock := by
  obtain ⟨r, e1, k1, o1, f1⟩ := h1
  obtain ⟨s, e2, k2, o2, f2⟩ := h2
  obtain ⟨ie, hie, hze, hse, hbe⟩ := info_parts info45
  have hlen : (l1.app l2).len = n + m := by
    rw [e1, e2, ← ilOf_app, ilOf_len, List.length_append, k1, k2]
    simp [Il.len]
  have key : ∃ v' w', (Builtin.append_ #[40, 40] 40 #[v1, v2]).run Tryd.prog w = .ok v' w' ∧ w'.ownsRow base 53 7 v' (n + m) (r.flatMap eV ++ s.flatMap eV) ∧ w.grownBy w' v1.ownBlock ∧ (v'.ownBlock = v1.ownBlock ∨ v'.ownBlock = some w.heap.size) := by
    rcases o2.2 with ⟨rfl, hm0⟩ | ⟨g, cap, cur, rfl, hg, hgb, hnc, _⟩
    · have hs0 : s = [] := List.eq_nil_of_length_eq_zero (by omega)
      subst hs0
      subst hm0
      refine ⟨v1, w, ?_, by simpa using o1, World.grownBy.refl w _, .inl rfl⟩
      rcases o1.2 with ⟨rfl, rfl⟩ | ⟨g, cap, cur, rfl, _, _, hnc, _⟩
      · simp [Builtin.append_, run_underlying Tryd.underlying40, sizeOf, typeInfo, hie, Builtin.lenOf, Builtin.firstCells]
      · simp [Builtin.append_, run_underlying Tryd.underlying40, sizeOf, typeInfo, hie, Builtin.lenOf, Builtin.firstCells, hnc, storeCells]
    · obtain ⟨v', w', hr, q1, q2, _, q3⟩ := run_append_own_at (P := Tryd.prog) w base 40 40 53 ie _ 7 104 Tryd.underlying40 hie hze hse hbe rfl (by omega) v1 n _ o1 ⟨g, 0, none⟩ m cap (s.flatMap eV) o2.1 (o2.cells (g := g) rfl)
        (fun u hu => by obtain ⟨t, _, ht⟩ := List.mem_flatMap.1 hu; exact eV_one t u ht) (by unfold maxLen; omega) (by omega) (by omega)
      exact ⟨v', w', hr, q1, q2, q3⟩
  obtain ⟨v', w', hr, q1, q2, q3⟩ := key
  refine ⟨v', w', hr, ?_, q2⟩
  obtain ⟨a, c, rfl⟩ := own_slice q1
  refine ⟨a, c, by rw [hlen], ?_⟩
  rcases q1.2 with ⟨ha, h0⟩ | ⟨g, cap, cur, ha, hg, hgb, _⟩
  · left
    have : (l1.app l2).len = 0 := by rw [hlen]; exact h0
    exact len_nil3 this
  · obtain ⟨rfl, rfl⟩ : a = some ⟨g, 0, none⟩ ∧ c = cap := by
      injection ha with x1 _ x2
      exact ⟨x1, x2⟩
    right
    refine ⟨g, 0, rfl, ?_⟩
    have hcells := q1.cells (g := g) rfl
    have hq3 : v1.ownBlock = some g ∨ w.heap.size ≤ g := by
      rcases q3 with h | h
      · exact .inl h.symm
      · right
        have : g = w.heap.size := Option.some.inj h
        omega
    have hk := KeepsR.grown2 (B := base) q2 hq3
    have hrow := row_il (R := fun b => base ≤ b ∧ some b ≠ some g) (w := w') (g := g) (r ++ s) 0 (fun j u hj => by
      have := hcells j u (by rw [← List.flatMap_append]; exact hj)
      have e : (⟨g, 0, none⟩ : Addr).add j = ⟨g, 0 + j, none⟩ := by unfold Addr.add; split <;> simp_all
      rwa [e] at this) (fun t ht => by
      rcases List.mem_append.1 ht with h | h
      · exact (f1 t h).keep hk
      · refine (f2 t h).keep (hk.imp fun k x1 x2 => ⟨by omega, fun e => ?_⟩)
        have := hv k e.symm
        omega)
    rw [e1, e2, ← ilOf_app, Nat.zero_mul, Nat.add_zero]
    exact IlR.at _ _ _ hrow
theorem wpList_join (w : World) {ops : Array Oper} {rest : List Oper} {o : Oper} {a : Act} {Q : Exit → Act → World → Prop} (hgd : o.guard = none) (s x : Operand)
    (ho : o.op = .call { callee := .builtin .append, args := #[s, x], argTypes := #[40, 40] }) (hty : o.type = 40) (v1 v2 : Value) (hs : a.eval s = v1) (hx : a.eval x = v2) (v' : Value) (w' : World)
    (hr : (Builtin.append_ #[40, 40] 40 #[v1, v2]).run Tryd.prog w = .ok v' w') (h : wpList Tryd.prog ops Q rest (a.put o.dst v') w') : wpList Tryd.prog ops Q (o :: rest) a w := by
  refine wpList_plain hgd fun K hK => ?_
  unfold Oper.wp execOp
  simp only [ho, hty, resolve, invoke, builtin, Sem.run_bind, Sem.run_pure, Result.andThen_ok, List.map_toArray, List.map_cons, List.map_nil, hs, hx, hr]
  exact hK _ _ h
theorem bB_len (l : Il) : (bB l).length ≤ 262144 := by
  unfold bB
  by_cases hc : checkV (mB l) = 0
  · rw [if_pos hc]
    by_cases hl : (xEx l).length ≤ 262144
    · rw [if_pos hl]
      exact hl
    · rw [if_neg hl]
      simp
  · rw [if_neg hc]
    simp
theorem mks_list (l : List UInt8) : (mks l).toList = l := by
  have := strl_mks l
  unfold strl at this
  rw [ByteArray.toList_eq]
  exact this
theorem join_str {B1 B2 B3 : List UInt8} {k : Nat} (hk : k = B1.length - 1) (h : B3 = B1.take (B1.length - 1) ++ B2) : (mks B3).toList = ((mks B1).extract 0 k ++ mks B2).toList := by
  subst h hk
  congr 1
  apply ByteArray.ext
  simp [mks, List.dropLast_eq_take]
theorem OwnIl.below {base : Nat} {w w' : World} {v : Value} {n : Nat} {l : Il} (h : OwnIl base w v n l) (hb : Below w.heap.size w w') (hs : base ≤ w.heap.size) : OwnIl base w' v n l := by
  obtain ⟨ts, e, k, o, f⟩ := h
  exact ⟨ts, e, k, own_below o hb, fun t ht => (f t ht).keep (KeepsR.below hb)⟩
theorem copies12_any (l : Il) (ao : Option Addr) (c : Nat) (w : World) (h1 : l.len ≤ 1600) (h2 : Sml l) (h3 : IlIn w ao 0 l) :
    Calls Tryd.prog 12 #[.slice ao l.len c] w fun e w' => ∃ ao' c', e = .returned (.slice ao' l.len c') ∧ SlR (fun b => w.heap.size ≤ b) w' ao' l ∧ Below w.heap.size w w' := by
  have hc := Lib.hid (copies_any l ao c w h1 h2 h3)
  clear h1 h2 h3
  go_enter Tryd.func12, Tryd.ntmps12
  go_wp2_with fail
  refine hc.out.mono ?_
  rintro e w1 ⟨a1, c1, rfl, hs, hb⟩
  replace hs := Lib.hid hs
  replace hb := Lib.hid hb
  go_wp2
  go_ret
  exact ⟨_, _, rfl, hs.out, hb.out⟩
theorem copies12_own (l : Il) (ao : Option Addr) (c : Nat) (w : World) (h1 : l.len ≤ 1600) (h2 : Sml l) (h3 : IlIn w ao 0 l) :
    Calls Tryd.prog 12 #[.slice ao l.len c] w fun e w' => ∃ ao' c', e = .returned (.slice ao' l.len c') ∧ SlR (fun b => w.heap.size ≤ b) w' ao' l ∧ Below w.heap.size w w' ∧ OwnIl w.heap.size w' (.slice ao' l.len c') l.len l := by
  have hc := Lib.hid (copies_own l ao c w h1 h2 h3)
  clear h1 h2 h3
  go_enter Tryd.func12, Tryd.ntmps12
  go_wp2_with fail
  refine hc.out.mono ?_
  rintro e w1 ⟨a1, c1, rfl, hs, hb, ho⟩
  replace hs := Lib.hid hs
  replace hb := Lib.hid hb
  replace ho := Lib.hid ho
  go_wp2
  go_ret
  exact ⟨_, _, rfl, hs.out, hb.out, ho.out⟩
set_option maxRecDepth 100000 in
set_option maxHeartbeats 4000000 in
theorem joins_any (l : Il) (ao : Option Addr) (c : Nat) (l2 : Il) (ao2 : Option Addr) (c2 : Nat) (w : World) (hl : l.len ≤ 9223372036854775807) (hi : IlIn w ao 0 l) (ok : nOk l) (hl2 : l2.len ≤ 9223372036854775807) (hi2 : IlIn w ao2 0 l2) (ok2 : nOk l2) (hT : TabU w) :
    Calls Tryd.prog 5 #[.slice ao l.len c, .slice ao2 l2.len c2] w fun e w' => e = .returned (.bool true) ∧ Below w.heap.size w w' := by
  obtain ⟨wA, hwA⟩ : ∃ wA, wA = w.alloc (.cells #[.int .i64 0, .slice none 0 0, .slice ao l.len c] 42) := ⟨_, rfl⟩
  have hbel : Below w.heap.size w wA := by rw [hwA]; exact (Below.refl _ _).alloc (Nat.le_refl _) _
  have hM := mB_at l ao c w hl hi
  rw [← hwA] at hM
  replace hM := Lib.hid hM
  have HI := Lib.hid (hi.below hbel)
  have HJ := Lib.hid (hi2.below hbel)
  have HU := Lib.hid (hT.below hbel)
  replace hbel := Lib.hid hbel
  replace ok := Lib.hid ok
  replace ok2 := Lib.hid ok2
  clear hT hi hi2
  go_enter Tryd.func5, Tryd.ntmps5
  go_wp2_with fail
  rw [← hwA]
  clear hwA
  refine (large_any (mB l) _ _ _ _ _ _ _ _ _ _ _ _ _ _ _ _ _ _ _ _ wA hM.out).mono ?_
  rintro e w1 ⟨L, rfl, hS, hb1⟩
  replace hS := Lib.hid hS
  have hB1 := Lib.hid (hbel.out.trans (hb1.mono hbel.out.size))
  have HI1 := Lib.hid (HI.out.below hb1)
  have HJ1 := Lib.hid (HJ.out.below hb1)
  have HU1 := Lib.hid (HU.out.below hb1)
  clear hb1
  cases L
  · have hP : funP ((0, [], l) : Int × List Int × Il) := (hS.out rfl).funcs _ (List.mem_singleton.2 rfl)
    have hP1 : l.len ≤ 1600 := hP.2.1
    have hP2 := Lib.hid hP.2.2.1
    have hP3 := Lib.hid hP.2.2.2
    clear hP
    obtain ⟨wC, hwC⟩ : ∃ wC, wC = w1.alloc (.cells #[.int .i64 0, .slice none 0 0, .slice ao2 l2.len c2] 42) := ⟨_, rfl⟩
    have hbel2 : Below w1.heap.size w1 wC := by rw [hwC]; exact (Below.refl _ _).alloc (Nat.le_refl _) _
    have hN := mB_at l2 ao2 c2 w1 hl2 HJ1.out
    rw [← hwC] at hN
    replace hN := Lib.hid hN
    have HI2 := Lib.hid (HI1.out.below hbel2)
    have HJ2 := Lib.hid (HJ1.out.below hbel2)
    have HU2 := Lib.hid (HU1.out.below hbel2)
    have hB2 := Lib.hid (hB1.out.trans (hbel2.mono hB1.out.size))
    clear hbel2
    go_wp2_with fail
    rw [← hwC]
    clear hwC
    refine (large_any (mB l2) _ _ _ _ _ _ _ _ _ _ _ _ _ _ _ _ _ _ _ _ wC hN.out).mono ?_
    rintro e w3 ⟨L, rfl, hS2, hb3⟩
    replace hS2 := Lib.hid hS2
    have hB3 := Lib.hid (hB2.out.trans (hb3.mono hB2.out.size))
    have HI3 := Lib.hid (HI2.out.below hb3)
    have HJ3 := Lib.hid (HJ2.out.below hb3)
    have HU3 := Lib.hid (HU2.out.below hb3)
    clear hb3
    cases L
    · have hQ : funP ((0, [], l2) : Int × List Int × Il) := (hS2.out rfl).funcs _ (List.mem_singleton.2 rfl)
      have hQ1 : l2.len ≤ 1600 := hQ.2.1
      have hQ2 := Lib.hid hQ.2.2.1
      have hQ3 := Lib.hid hQ.2.2.2
      clear hQ
      go_wp2_with fail
      refine (copies12_any l ao c w3 hP1 hP2.out HI3.out).mono ?_
      rintro e w4 ⟨a4, c4, rfl, hs4, hb4⟩
      have hi4 := Lib.hid hs4.il
      have hB4 := Lib.hid (hB3.out.trans (hb4.mono hB3.out.size))
      have HI4 := Lib.hid (HI3.out.below hb4)
      have HJ4 := Lib.hid (HJ3.out.below hb4)
      have HU4 := Lib.hid (HU3.out.below hb4)
      clear hs4 hb4
      go_wp2_with fail
      refine (body_any l a4 c4 w4 hl hi4.out ok.out HU4.out).mono ?_
      rintro e w5 ⟨rfl, hb5⟩
      have hB5 := Lib.hid (hB4.out.trans (hb5.mono hB4.out.size))
      have HI5 := Lib.hid (HI4.out.below hb5)
      have HJ5 := Lib.hid (HJ4.out.below hb5)
      have HU5 := Lib.hid (HU4.out.below hb5)
      clear hb5
      go_wp2_with fail
      refine (copies12_any l2 ao2 c2 w5 hQ1 hQ2.out HJ5.out).mono ?_
      rintro e w6 ⟨a6, c6, rfl, hs6, hb6⟩
      have hi6 := Lib.hid hs6.il
      have hB6 := Lib.hid (hB5.out.trans (hb6.mono hB5.out.size))
      have HI6 := Lib.hid (HI5.out.below hb6)
      have HJ6 := Lib.hid (HJ5.out.below hb6)
      have HU6 := Lib.hid (HU5.out.below hb6)
      clear hs6 hb6
      go_wp2_with fail
      refine (body_any l2 a6 c6 w6 hl2 hi6.out ok2.out HU6.out).mono ?_
      rintro e w7 ⟨rfl, hb7⟩
      have hB7 := Lib.hid (hB6.out.trans (hb7.mono hB6.out.size))
      have HI7 := Lib.hid (HI6.out.below hb7)
      have HJ7 := Lib.hid (HJ6.out.below hb7)
      have HU7 := Lib.hid (HU6.out.below hb7)
      clear hb7
      go_wp2_with fail
      refine (copies12_own l ao c w7 hP1 hP2.out HI7.out).mono ?_
      rintro e w8 ⟨a8, c8, rfl, hs8, hb8, ho8⟩
      have hB8 := Lib.hid (hB7.out.trans (hb8.mono hB7.out.size))
      have HJ8 := Lib.hid (HJ7.out.below hb8)
      have HU8 := Lib.hid (HU7.out.below hb8)
      have hs78 := hb8.size
      replace ho8 := Lib.hid ho8
      have hb78 := Lib.hid hb8
      clear hs8 hb8
      go_wp2_with fail
      refine (copies12_own l2 ao2 c2 w8 hQ1 hQ2.out HJ8.out).mono ?_
      rintro e w9 ⟨a9, c9, rfl, hs9, hb9, ho9⟩
      have hB9 := Lib.hid (hB8.out.trans (hb9.mono hB8.out.size))
      have HU9 := Lib.hid (HU8.out.below hb9)
      have hs89 := hb9.size
      obtain ⟨vJ, wJ, hrun, ⟨aJ, cJ, rfl, hiJ⟩, hg⟩ := join_run w9 w7.heap.size w8.heap.size l.len l2.len _ _ l l2 (ho8.out.below hb9 hs78) ho9 hs78 hs89 (fun g e => by obtain ⟨ts, _, _, h, _⟩ := ho8.out; exact (h.lt g e).2) hP1 hQ1
      have hBJ : Below w7.heap.size w7 wJ := (hb78.out.trans (hb9.mono hs78)).grown hg (by omega) (fun k e => by obtain ⟨ts, _, _, h, _⟩ := ho8.out; exact (h.lt k e).1)
      have HUJ := Lib.hid (HU7.out.below hBJ)
      have hBJ2 := Lib.hid (hB7.out.trans (hBJ.mono hB7.out.size))
      replace hrun := Lib.hid hrun
      replace hiJ := Lib.hid hiJ
      have hlJ : (l.app l2).len ≤ 9223372036854775807 := by rw [app_len]; omega
      have okJ := Lib.hid (app_nOk ok.out ok2.out)
      clear hs9 hg ho9 hb9 hBJ
      go_wp2_with (at_builtin; refine wpList_join _ rfl _ _ rfl rfl _ _ (by rfl) (by rfl) _ _ hrun.out ?_)
      refine (body_any (l.app l2) aJ cJ wJ hlJ hiJ.out okJ.out HUJ.out).mono ?_
      rintro e wK ⟨rfl, hbK⟩
      have hBK := Lib.hid (hBJ2.out.trans (hbK.mono hBJ2.out.size))
      have HUK := Lib.hid (HUJ.out.below hbK)
      clear hbK
      have J := joins_law ok.out ok2.out hP3.out hQ3.out
      obtain ⟨e1, he1⟩ : ∃ e, bE l = e := ⟨_, rfl⟩
      obtain ⟨e2, he2⟩ : ∃ e, bE l2 = e := ⟨_, rfl⟩
      obtain ⟨e3, he3⟩ : ∃ e, bE (l.app l2) = e := ⟨_, rfl⟩
      obtain ⟨B1, hB1'⟩ : ∃ e, bB l = e := ⟨_, rfl⟩
      obtain ⟨B2, hB2'⟩ : ∃ e, bB l2 = e := ⟨_, rfl⟩
      obtain ⟨B3, hB3'⟩ : ∃ e, bB (l.app l2) = e := ⟨_, rfl⟩
      rw [he1, he2, he3, hB1', hB2', hB3'] at J
      rw [he1, he2, he3, hB1', hB2', hB3']
      have hz1 : (mks B1).size ≤ 262144 := by rw [← hB1']; exact bB_len l
      have hz2 : (mks B2).size ≤ 262144 := by rw [← hB2']; exact bB_len l2
      clear he1 he2 he3 hB1' hB2' hB3'
      replace J := Lib.hid J
      have hwk := Lib.hid (wakes_any wK HUK.out)
      have hfin := Lib.hid (fun w' (hb : Below wK.heap.size wK w') => hBK.out.trans (hb.mono hBK.out.size))
      clear hM hP2 hP3 hN hQ2 hQ3 hi4 hi6 ho8 hrun hiJ okJ HI HJ HU HI1 HJ1 HU1 HI2 HJ2 HU2 HI3 HJ3 HU3 HI4 HJ4 HU4 HI5 HJ5 HU5 HI6 HJ6 HU6 HI7 HJ7 HU7 HJ8 HU8 HU9 HUJ HUK
      by_cases h0 : e1 = 0 ∧ e2 = 0
      · obtain ⟨j1, j2, j3⟩ := J.out.1 h0
        obtain ⟨rfl, rfl⟩ := h0
        subst j1
        have hB1s : 0 < (mks B1).size := j2
        have hj := fun k hk => Lib.hid (join_str (k := k) hk j3)
        clear j3
        go_wp2_with fail
        · refine hwk.out.mono ?_
          rintro e wL ⟨rfl, hbL⟩
          replace hbL := Lib.hid (hfin.out wL hbL)
          clear hj
          go_wp2
          go_ret
          exact ⟨rfl, hbL.out⟩
        · rename_i hbad
          exact absurd (hj _ (by show _ = (mks B1).size - 1; omega)).out hbad
      · obtain ⟨j1, j2⟩ := J.out.2 h0
        have n3 : (e3 == 0) = false := by simp [j1]
        have m3 : (e3 != 0) = true := by simp [j1]
        subst j2
        have hmk : (mks []).toList = [] := mks_list []
        by_cases h1 : e1 = 0
        · subst h1
          have h2 : ¬ e2 = 0 := fun e => h0 ⟨rfl, e⟩
          have n2 : (e2 == 0) = false := by simp [h2]
          have m2 : (e2 != 0) = true := by simp [h2]
          clear h0
          go_wp2_with fail
          refine hwk.out.mono ?_
          rintro e wL ⟨rfl, hbL⟩
          replace hbL := Lib.hid (hfin.out wL hbL)
          go_wp2
          go_ret
          exact ⟨rfl, hbL.out⟩
        · have n1 : (e1 == 0) = false := by simp [h1]
          have m1 : (e1 != 0) = true := by simp [h1]
          clear h0
          go_wp2_with fail
          refine hwk.out.mono ?_
          rintro e wL ⟨rfl, hbL⟩
          replace hbL := Lib.hid (hfin.out wL hbL)
          go_wp2
          go_ret
          exact ⟨rfl, hbL.out⟩
    · go_wp2_with fail
      refine (wakes_any w3 HU3.out).mono ?_
      rintro e w5 ⟨rfl, hb5⟩
      have hB5 := Lib.hid (hB3.out.trans (hb5.mono hB3.out.size))
      clear hb5
      go_wp2
      go_ret
      exact ⟨rfl, hB5.out⟩
  · go_wp2_with fail
    refine (wakes_any w1 HU1.out).mono ?_
    rintro e w5 ⟨rfl, hb5⟩
    have hB5 := Lib.hid (hB1.out.trans (hb5.mono hB1.out.size))
    clear hb5
    go_wp2
    go_ret
    exact ⟨rfl, hB5.out⟩
end Go.Proofs.YtanpjbbhhofkfaaDoor

namespace Go.Proofs.YtanpjbbhhofkfaaDoor
open Go.ChangeShapes Go.WideShapes Go.ChangeAt Go.RowKit
set_option linter.unusedVariables false
set_option maxRecDepth 100000 in
theorem joins_walk {H : Type} {enc : TypeId × Value → H} (W : World) (base : Nat) (hT : TabU W)
    (v0 : Value) (d0 : DataW H) (p0 : List MemPlace) (o0 : Value.okWide Tryd.prog W .any base 40 v0) (h0 : DataW.Trod enc Tryd.prog W 0 (fun _ => true) true 40 v0 d0 p0)
    (v1 : Value) (d1 : DataW H) (p1 : List MemPlace) (o1 : Value.okWide Tryd.prog W .any base 40 v1) (h1 : DataW.Trod enc Tryd.prog W 0 (fun _ => true) true 40 v1 d1 p1) :
    Calls Tryd.prog 5 #[v0, v1] W fun e W' => e = .returned (.bool true) ∧ Below W.heap.size W W' := by
  obtain ⟨ao, l, c, rfl, hl, hi⟩ := open_instrs o0 h0
  obtain ⟨ao2, l2, c2, rfl, hl2, hi2⟩ := open_instrs o1 h1
  exact joins_any l ao c l2 ao2 c2 W hl.1 hi hl.2 hl2.1 hi2 hl2.2 hT
end Go.Proofs.YtanpjbbhhofkfaaDoor
