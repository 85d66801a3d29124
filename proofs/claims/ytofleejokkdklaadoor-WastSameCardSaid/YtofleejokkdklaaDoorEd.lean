/- The library's EqualFunc over rows, with what the program gives it. -/
import Derived.Test.YtofleejokkdklaaDoorEb
import Derived.Test.YtofleejokkdklaaDoorEc
namespace Go.Proofs.YtofleejokkdklaaDoor
open Go.RowKit
set_option linter.unusedVariables false
set_option linter.unusedSimpArgs false

set_option maxRecDepth 100000 in
set_option maxHeartbeats 2000000 in
theorem clo_types (ps rs : List Int) (u0 u1 : Option Addr) (r0 r1 : Nat) (ps' rs' : List Int) (u0' u1' : Option Addr) (r0' r1' : Nat) (w : World)
    (i0 : IntsIn w u0 ps) (i1 : IntsIn w u1 rs) (i0' : IntsIn w u0' ps') (i1' : IntsIn w u1' rs') :
    Calls Tryd.prog 44 #[.agg #[.slice u0 ps.length r0, .slice u1 rs.length r1], .agg #[.slice u0' ps'.length r0', .slice u1' rs'.length r1']] w fun e w' => e = .returned (.bool (typQ ((ps, rs), (ps', rs')))) ∧ Below w.heap.size w w' := by
  have Lps := i0.1
  have Lps' := i0'.1
  have Lrs := i1.1
  have Lrs' := i1'.1
  obtain ⟨w0, hw0⟩ : ∃ w0, w0 = (w.alloc (.cells #[.slice u0 ps.length r0, .slice u1 rs.length r1] 47)).alloc (.cells #[.slice u0' ps'.length r0', .slice u1' rs'.length r1'] 47) := ⟨_, rfl⟩
  have hB0 : Below w.heap.size w w0 := by rw [hw0]; exact ((Below.refl _ _).alloc (Nat.le_refl _) _).alloc (by simp) _
  have hb1 : Box w0 w.heap.size #[.slice u0 ps.length r0, .slice u1 rs.length r1] := by rw [hw0]; exact (box_new w _ _).keep (keeps_new _ _)
  have hb2 : Box w0 (w.heap.size + 1) #[.slice u0' ps'.length r0', .slice u1' rs'.length r1'] := by rw [hw0]; exact box_new2 w _ _ _
  replace i0 := Lib.hid (i0.keep (keep_below hB0))
  replace i0' := Lib.hid (i0'.keep (keep_below hB0))
  replace i1 := Lib.hid (i1.keep (keep_below hB0))
  replace i1' := Lib.hid (i1'.keep (keep_below hB0))
  replace hB0 := Lib.hid hB0
  replace hb1 := Lib.hid hb1
  replace hb2 := Lib.hid hb2
  go_enter Tryd.func44, Tryd.ntmps44
  go_upto_region 1 with fail
  rw [← hw0]
  clear hw0
  have p0 : w0.cell? ⟨w.heap.size, 0, none⟩ = some (.slice u0 ps.length r0) := hb1.out 0 _ rfl
  have q0 : w0.cell? ⟨w.heap.size + 1, 0, none⟩ = some (.slice u0' ps'.length r0') := hb2.out 0 _ rfl
  go_wp2_with fail
  refine (equalInts_any ps ps' u0 u0' r0 r0' _ i0.out i0'.out).mono ?_
  rintro e w1 ⟨rfl, mm, hmm⟩
  have t1 := Lib.hid (show Below w0.heap.size w0 w1 by rw [hmm]; exact below_drewN (Below.refl _ _) mm)
  clear hmm
  have tb1 := Lib.hid (t1.out)
  have hB1 := Lib.hid (hB0.out.trans (tb1.out.mono hB0.out.size))
  clear p0 q0
  cases hq0 : decide (ps = ps')
  · have hv : typQ ((ps, rs), (ps', rs')) = false := by
      show (decide (ps = ps') && decide (rs = rs')) = false
      rw [hq0]
      first | rfl | simp
    go_wp2
    go_ret
    exact ⟨by rw [hv]; rfl, hB1.out⟩
  have p1 : w1.cell? ⟨w.heap.size, 1, none⟩ = some (.slice u1 rs.length r1) := keep_below tb1.out _ _ (hb1.out 1 _ rfl)
  have q1 : w1.cell? ⟨w.heap.size + 1, 1, none⟩ = some (.slice u1' rs'.length r1') := keep_below tb1.out _ _ (hb2.out 1 _ rfl)
  go_wp2_with fail
  refine (equalInts_any rs rs' u1 u1' r1 r1' _ (i1.out.keep (keep_below tb1.out)) (i1'.out.keep (keep_below tb1.out))).mono ?_
  rintro e w2 ⟨rfl, mm, hmm⟩
  have t2 := Lib.hid (show Below w1.heap.size w1 w2 by rw [hmm]; exact below_drewN (Below.refl _ _) mm)
  clear hmm
  have tb2 := Lib.hid (tb1.out.trans (t2.out.mono tb1.out.size))
  have hB2 := Lib.hid (hB0.out.trans (tb2.out.mono hB0.out.size))
  clear p1 q1
  have hv : Hid (typQ ((ps, rs), (ps', rs')) = decide (rs = rs')) := Lib.hid (by
    show (decide (ps = ps') && decide (rs = rs')) = _
    rw [hq0]
    first | rfl | simp)
  go_wp2
  go_ret
  exact ⟨by rw [hv.out]; rfl, hB2.out⟩
set_option maxRecDepth 100000 in
set_option maxHeartbeats 2000000 in
theorem eqF_types (l l' : List (List Int × List Int)) (ao ao' : Option Addr) (c c' : Nat) (w : World) (h : RowsIn TypeAt 2 w ao l) (h' : RowsIn TypeAt 2 w ao' l') :
    Calls Tryd.prog 43 #[.slice ao l.length c, .slice ao' l'.length c', .func (.func 44) #[] #[]] w fun e w' => e = .returned (.bool (eqB typQ l l')) ∧ Below w.heap.size w w' := by
  obtain ⟨N, hN⟩ : ∃ N, l.length = N := ⟨_, rfl⟩
  obtain ⟨N', hN'⟩ : ∃ N, l'.length = N := ⟨_, rfl⟩
  have hl := h.1
  have hl' := h'.1
  have HI := Lib.hid h
  have HI' := Lib.hid h'
  clear h h'
  rw [hN] at hl ⊢
  rw [hN'] at hl' ⊢
  go_enter Tryd.func43, Tryd.ntmps43
  by_cases hne : N = N'
  · subst hne
    have hll := Lib.hid (hN.trans hN'.symm)
    go_wp2_with fail
    go_loopw [17] (fun vi wr => ∃ i : Nat, i ≤ N ∧ vi = .int .i64 i ∧ Hid (Below w.heap.size w wr) ∧ Hid (((l.zip l').take i).all typQ = true)) (fun vi _ => N - (intOf vi).toNat)
    case atStart => exact ⟨0, Nat.zero_le _, rfl, Lib.hid (Below.refl _ _), Lib.hid rfl⟩
    case round =>
      obtain ⟨i, hi, rfl, hb, ha⟩ := hrel
      by_cases hlt : i < N
      · obtain ⟨xx, hx⟩ : ∃ x, l[i]? = some x := ⟨_, List.getElem?_eq_getElem (by omega)⟩
        obtain ⟨yy, hy⟩ : ∃ x, l'[i]? = some x := ⟨_, List.getElem?_eq_getElem (by omega)⟩
        obtain ⟨b, o, rfl, hrow⟩ := (HI.out.keep fun _ _ _ h => h.keep (keep_below hb.out)).row hx
        obtain ⟨b', o', rfl, hrow'⟩ := (HI'.out.keep fun _ _ _ h => h.keep (keep_below hb.out)).row hy
        have hn := Lib.hid (eqB_step hx hy hll.out ha.out)
        clear hx hy ha
        obtain ⟨ps, rs⟩ := xx
        obtain ⟨ps', rs'⟩ := yy
        obtain ⟨⟨u0, r0, c0, i0⟩, ⟨u1, r1, c1, i1⟩⟩ := hrow
        obtain ⟨⟨u0', r0', c0', i0'⟩, ⟨u1', r1', c1', i1'⟩⟩ := hrow'
        try simp only at c0 c1 c0' c1'
        try simp only at i0 i0'
        try simp only at i1 i1'
        have g0 := World.new_ne wr _ c0
        have g0' := World.new_ne wr _ c0'
        replace c0 : wr.cell? ⟨b, o + i * 2, none⟩ = some (.slice u0 ps.length r0) := c0
        replace c1 : wr.cell? ⟨b, o + i * 2 + 1, none⟩ = some (.slice u1 rs.length r1) := c1
        have e0 : (wr.alloc (.cells #[.slice u0 ps.length r0, .slice u1 rs.length r1] 47)).cell? ⟨b', o' + i * 2, none⟩ = some (.slice u0' ps'.length r0') := keep_below ((Below.refl _ _).alloc (Nat.le_refl _) _) _ _ c0'
        have e1 : (wr.alloc (.cells #[.slice u0 ps.length r0, .slice u1 rs.length r1] 47)).cell? ⟨b', o' + i * 2 + 1, none⟩ = some (.slice u1' rs'.length r1') := keep_below ((Below.refl _ _).alloc (Nat.le_refl _) _) _ _ c1'
        clear c0' c1'
        have hal : ∀ v v', Hid (Below wr.heap.size wr ((wr.alloc v).alloc v')) := fun v v' => Lib.hid (((Below.refl _ _).alloc (Nat.le_refl _) _).alloc (by simp) _)
        go_wp2_with fail
        refine (clo_types ps rs u0 u1 r0 r1 ps' rs' u0' u1' r0' r1' _ (i0.keep (keep_below (hal _ _).out)) (i1.keep (keep_below (hal _ _).out)) (i0'.keep (keep_below (hal _ _).out)) (i1'.keep (keep_below (hal _ _).out))).mono ?_
        rintro e w2 ⟨rfl, b2⟩
        have hbx := Lib.hid ((hal (.cells #[.slice u0 ps.length r0, .slice u1 rs.length r1] 47) (.cells #[.slice u0' ps'.length r0', .slice u1' rs'.length r1'] 47)).out.trans (b2.mono (hal _ _).out.size))
        have hB := Lib.hid (hb.out.trans (hbx.out.mono hb.out.size))
        clear b2 hal g0 g0' c0 c1 e0 e1
        cases hX : typQ ((ps, rs), (ps', rs'))
        · have hv : eqB typQ l l' = false := hn.out.2 hX
          clear hn
          go_wp2
          go_ret
          exact ⟨by rw [hv]; rfl, hB.out⟩
        · have hv := Lib.hid (hn.out.1 hX)
          clear hn
          go_wp2
          exact ⟨⟨i + 1, by omega, by simp, hB, hv⟩, by simp [intOf]; omega⟩
      · have hiN : i = N := by omega
        have hv : eqB typQ l l' = true := eqB_end hll.out (by rw [hN, ← hiN]; exact ha.out)
        clear ha
        go_wp2
        go_ret
        exact ⟨by rw [hv]; rfl, hb.out⟩
  · have hv : eqB typQ l l' = false := eqB_len (fun e => hne (by rw [← hN, ← hN', e]))
    have q : ((N : Int) != (N' : Int)) = true := by simp; omega
    go_wp2
    go_ret
    exact ⟨by rw [hv]; rfl, Below.refl _ _⟩
set_option maxRecDepth 100000 in
set_option maxHeartbeats 2000000 in
theorem clo_funcs (ty : Int) (lo : List Int) (bo : Il) (u1 u2 : Option Addr) (r1 r2 : Nat) (ty' : Int) (lo' : List Int) (bo' : Il) (u1' u2' : Option Addr) (r1' r2' : Nat) (w : World)
    (i1 : IntsIn w u1 lo) (l2 : bo.len ≤ 9223372036854775807) (i2 : IlIn w u2 0 bo) (i1' : IntsIn w u1' lo') (l2' : bo'.len ≤ 9223372036854775807) (i2' : IlIn w u2' 0 bo') :
    Calls Tryd.prog 48 #[.agg #[.int .i64 ty, .slice u1 lo.length r1, .slice u2 bo.len r2], .agg #[.int .i64 ty', .slice u1' lo'.length r1', .slice u2' bo'.len r2']] w fun e w' => e = .returned (.bool (funQ ((ty, lo, bo), (ty', lo', bo')))) ∧ Below w.heap.size w w' := by
  have Llo := i1.1
  have Llo' := i1'.1
  obtain ⟨w0, hw0⟩ : ∃ w0, w0 = (w.alloc (.cells #[.int .i64 ty, .slice u1 lo.length r1, .slice u2 bo.len r2] 49)).alloc (.cells #[.int .i64 ty', .slice u1' lo'.length r1', .slice u2' bo'.len r2'] 49) := ⟨_, rfl⟩
  have hB0 : Below w.heap.size w w0 := by rw [hw0]; exact ((Below.refl _ _).alloc (Nat.le_refl _) _).alloc (by simp) _
  have hb1 : Box w0 w.heap.size #[.int .i64 ty, .slice u1 lo.length r1, .slice u2 bo.len r2] := by rw [hw0]; exact (box_new w _ _).keep (keeps_new _ _)
  have hb2 : Box w0 (w.heap.size + 1) #[.int .i64 ty', .slice u1' lo'.length r1', .slice u2' bo'.len r2'] := by rw [hw0]; exact box_new2 w _ _ _
  replace i1 := Lib.hid (i1.keep (keep_below hB0))
  replace i1' := Lib.hid (i1'.keep (keep_below hB0))
  replace i2 := Lib.hid (i2.keep (keep_below hB0))
  replace i2' := Lib.hid (i2'.keep (keep_below hB0))
  replace hB0 := Lib.hid hB0
  replace hb1 := Lib.hid hb1
  replace hb2 := Lib.hid hb2
  go_enter Tryd.func48, Tryd.ntmps48
  go_upto_region 1 with fail
  rw [← hw0]
  clear hw0
  have p0 : w0.cell? ⟨w.heap.size, 0, none⟩ = some (.int .i64 ty) := hb1.out 0 _ rfl
  have q0 : w0.cell? ⟨w.heap.size + 1, 0, none⟩ = some (.int .i64 ty') := hb2.out 0 _ rfl
  cases z0 : ty == ty'
  · have hq0 : decide (ty = ty') = false := by rw [beq_eq_false_iff_ne] at z0; exact decide_eq_false z0
    have hv : funQ ((ty, lo, bo), (ty', lo', bo')) = false := by
      show (decide (ty = ty') && (decide (lo = lo') && ilEq bo bo')) = false
      rw [hq0]
      first | rfl | simp
    go_wp2
    go_ret
    exact ⟨by rw [hv]; rfl, hB0.out⟩
  have hq0 : decide (ty = ty') = true := by rw [beq_iff_eq] at z0; exact decide_eq_true z0
  have p1 : w0.cell? ⟨w.heap.size, 1, none⟩ = some (.slice u1 lo.length r1) := hb1.out 1 _ rfl
  have q1 : w0.cell? ⟨w.heap.size + 1, 1, none⟩ = some (.slice u1' lo'.length r1') := hb2.out 1 _ rfl
  go_wp2_with fail
  refine (equalInts_any lo lo' u1 u1' r1 r1' _ i1.out i1'.out).mono ?_
  rintro e w2 ⟨rfl, mm, hmm⟩
  have t2 := Lib.hid (show Below w0.heap.size w0 w2 by rw [hmm]; exact below_drewN (Below.refl _ _) mm)
  clear hmm
  have tb2 := Lib.hid (t2.out)
  have hB2 := Lib.hid (hB0.out.trans (tb2.out.mono hB0.out.size))
  clear p0 q0 p1 q1
  cases hq1 : decide (lo = lo')
  · have hv : funQ ((ty, lo, bo), (ty', lo', bo')) = false := by
      show (decide (ty = ty') && (decide (lo = lo') && ilEq bo bo')) = false
      rw [hq0, hq1]
      first | rfl | simp
    go_wp2
    go_ret
    exact ⟨by rw [hv]; rfl, hB2.out⟩
  have p2 : w2.cell? ⟨w.heap.size, 2, none⟩ = some (.slice u2 bo.len r2) := keep_below tb2.out _ _ (hb1.out 2 _ rfl)
  have q2 : w2.cell? ⟨w.heap.size + 1, 2, none⟩ = some (.slice u2' bo'.len r2') := keep_below tb2.out _ _ (hb2.out 2 _ rfl)
  go_wp2_with fail
  refine (sameAll_any bo bo' u2 u2' r2 r2' _ l2 l2' (i2.out.keep (keep_below tb2.out)) (i2'.out.keep (keep_below tb2.out))).mono ?_
  rintro e w3 ⟨rfl, tt⟩
  have t3 := Lib.hid tt
  clear tt
  have tb3 := Lib.hid (tb2.out.trans (t3.out.mono tb2.out.size))
  have hB3 := Lib.hid (hB0.out.trans (tb3.out.mono hB0.out.size))
  clear p2 q2
  have hv : Hid (funQ ((ty, lo, bo), (ty', lo', bo')) = ilEq bo bo') := Lib.hid (by
    show (decide (ty = ty') && (decide (lo = lo') && ilEq bo bo')) = _
    rw [hq0, hq1]
    first | rfl | simp)
  go_wp2
  go_ret
  exact ⟨by rw [hv.out]; rfl, hB3.out⟩
set_option maxRecDepth 100000 in
set_option maxHeartbeats 2000000 in
theorem eqF_funcs (l l' : List (Int × List Int × Il)) (ao ao' : Option Addr) (c c' : Nat) (w : World) (h : RowsIn FuncAt 3 w ao l) (h' : RowsIn FuncAt 3 w ao' l') :
    Calls Tryd.prog 47 #[.slice ao l.length c, .slice ao' l'.length c', .func (.func 48) #[] #[]] w fun e w' => e = .returned (.bool (eqB funQ l l')) ∧ Below w.heap.size w w' := by
  obtain ⟨N, hN⟩ : ∃ N, l.length = N := ⟨_, rfl⟩
  obtain ⟨N', hN'⟩ : ∃ N, l'.length = N := ⟨_, rfl⟩
  have hl := h.1
  have hl' := h'.1
  have HI := Lib.hid h
  have HI' := Lib.hid h'
  clear h h'
  rw [hN] at hl ⊢
  rw [hN'] at hl' ⊢
  go_enter Tryd.func47, Tryd.ntmps47
  by_cases hne : N = N'
  · subst hne
    have hll := Lib.hid (hN.trans hN'.symm)
    go_wp2_with fail
    go_loopw [17] (fun vi wr => ∃ i : Nat, i ≤ N ∧ vi = .int .i64 i ∧ Hid (Below w.heap.size w wr) ∧ Hid (((l.zip l').take i).all funQ = true)) (fun vi _ => N - (intOf vi).toNat)
    case atStart => exact ⟨0, Nat.zero_le _, rfl, Lib.hid (Below.refl _ _), Lib.hid rfl⟩
    case round =>
      obtain ⟨i, hi, rfl, hb, ha⟩ := hrel
      by_cases hlt : i < N
      · obtain ⟨xx, hx⟩ : ∃ x, l[i]? = some x := ⟨_, List.getElem?_eq_getElem (by omega)⟩
        obtain ⟨yy, hy⟩ : ∃ x, l'[i]? = some x := ⟨_, List.getElem?_eq_getElem (by omega)⟩
        obtain ⟨b, o, rfl, hrow⟩ := (HI.out.keep fun _ _ _ h => h.keep (keep_below hb.out)).row hx
        obtain ⟨b', o', rfl, hrow'⟩ := (HI'.out.keep fun _ _ _ h => h.keep (keep_below hb.out)).row hy
        have hn := Lib.hid (eqB_step hx hy hll.out ha.out)
        clear hx hy ha
        obtain ⟨ty, lo, bo⟩ := xx
        obtain ⟨ty', lo', bo'⟩ := yy
        obtain ⟨c0, ⟨u1, r1, c1, i1⟩, ⟨u2, r2, c2, l2, i2⟩⟩ := hrow
        obtain ⟨c0', ⟨u1', r1', c1', i1'⟩, ⟨u2', r2', c2', l2', i2'⟩⟩ := hrow'
        unfold IntCell at c0 c0'
        try simp only at c0 c1 c2 c0' c1' c2'
        try simp only at i1 i1'
        try simp only at l2 l2' i2 i2'
        have g0 := World.new_ne wr _ c0
        have g0' := World.new_ne wr _ c0'
        replace c0 : wr.cell? ⟨b, o + i * 3, none⟩ = some (.int .i64 ty) := c0
        replace c1 : wr.cell? ⟨b, o + i * 3 + 1, none⟩ = some (.slice u1 lo.length r1) := c1
        replace c2 : wr.cell? ⟨b, o + i * 3 + 2, none⟩ = some (.slice u2 bo.len r2) := c2
        have e0 : (wr.alloc (.cells #[.int .i64 ty, .slice u1 lo.length r1, .slice u2 bo.len r2] 49)).cell? ⟨b', o' + i * 3, none⟩ = some (.int .i64 ty') := keep_below ((Below.refl _ _).alloc (Nat.le_refl _) _) _ _ c0'
        have e1 : (wr.alloc (.cells #[.int .i64 ty, .slice u1 lo.length r1, .slice u2 bo.len r2] 49)).cell? ⟨b', o' + i * 3 + 1, none⟩ = some (.slice u1' lo'.length r1') := keep_below ((Below.refl _ _).alloc (Nat.le_refl _) _) _ _ c1'
        have e2 : (wr.alloc (.cells #[.int .i64 ty, .slice u1 lo.length r1, .slice u2 bo.len r2] 49)).cell? ⟨b', o' + i * 3 + 2, none⟩ = some (.slice u2' bo'.len r2') := keep_below ((Below.refl _ _).alloc (Nat.le_refl _) _) _ _ c2'
        clear c0' c1' c2'
        have hal : ∀ v v', Hid (Below wr.heap.size wr ((wr.alloc v).alloc v')) := fun v v' => Lib.hid (((Below.refl _ _).alloc (Nat.le_refl _) _).alloc (by simp) _)
        go_wp2_with fail
        refine (clo_funcs ty lo bo u1 u2 r1 r2 ty' lo' bo' u1' u2' r1' r2' _ (i1.keep (keep_below (hal _ _).out)) l2 (i2.keep (keep_below (hal _ _).out)) (i1'.keep (keep_below (hal _ _).out)) l2' (i2'.keep (keep_below (hal _ _).out))).mono ?_
        rintro e w2 ⟨rfl, b2⟩
        have hbx := Lib.hid ((hal (.cells #[.int .i64 ty, .slice u1 lo.length r1, .slice u2 bo.len r2] 49) (.cells #[.int .i64 ty', .slice u1' lo'.length r1', .slice u2' bo'.len r2'] 49)).out.trans (b2.mono (hal _ _).out.size))
        have hB := Lib.hid (hb.out.trans (hbx.out.mono hb.out.size))
        clear b2 hal g0 g0' c0 c1 c2 e0 e1 e2
        cases hX : funQ ((ty, lo, bo), (ty', lo', bo'))
        · have hv : eqB funQ l l' = false := hn.out.2 hX
          clear hn
          go_wp2
          go_ret
          exact ⟨by rw [hv]; rfl, hB.out⟩
        · have hv := Lib.hid (hn.out.1 hX)
          clear hn
          go_wp2
          exact ⟨⟨i + 1, by omega, by simp, hB, hv⟩, by simp [intOf]; omega⟩
      · have hiN : i = N := by omega
        have hv : eqB funQ l l' = true := eqB_end hll.out (by rw [hN, ← hiN]; exact ha.out)
        clear ha
        go_wp2
        go_ret
        exact ⟨by rw [hv]; rfl, hb.out⟩
  · have hv : eqB funQ l l' = false := eqB_len (fun e => hne (by rw [← hN, ← hN', e]))
    have q : ((N : Int) != (N' : Int)) = true := by simp; omega
    go_wp2
    go_ret
    exact ⟨by rw [hv]; rfl, Below.refl _ _⟩
set_option maxRecDepth 100000 in
set_option maxHeartbeats 2000000 in
theorem clo_globals (ty : Int) (mu : Bool) (op x y n : Int) (ls : List Int) (body els : Il) (u4 u5 u6 : Option Addr) (r4 r5 r6 : Nat) (ty' : Int) (mu' : Bool) (op' x' y' n' : Int) (ls' : List Int) (body' els' : Il) (u4' u5' u6' : Option Addr) (r4' r5' r6' : Nat) (w : World)
    (o : OneIs w ⟨op, x, y, n, ls, body, els⟩ u4 r4 u5 r5 u6 r6) (o' : OneIs w ⟨op', x', y', n', ls', body', els'⟩ u4' r4' u5' r5' u6' r6') :
    Calls Tryd.prog 52 #[.agg #[.int .i64 ty, .bool mu, .int .i64 op, .int .i64 x, .int .i64 y, .int .i64 n, .slice u4 ls.length r4, .slice u5 body.len r5, .slice u6 els.len r6], .agg #[.int .i64 ty', .bool mu', .int .i64 op', .int .i64 x', .int .i64 y', .int .i64 n', .slice u4' ls'.length r4', .slice u5' body'.len r5', .slice u6' els'.len r6']] w fun e w' => e = .returned (.bool (gloQ ((ty, mu, (⟨op, x, y, n, ls, body, els⟩ : One)), (ty', mu', (⟨op', x', y', n', ls', body', els'⟩ : One))))) ∧ Below w.heap.size w w' := by
  have L1 : ls.length ≤ 9223372036854775807 := o.i4.1
  have L1' : ls'.length ≤ 9223372036854775807 := o'.i4.1
  have L2 : body.len ≤ 9223372036854775807 := o.l5
  have L2' : body'.len ≤ 9223372036854775807 := o'.l5
  have L3 : els.len ≤ 9223372036854775807 := o.l6
  have L3' : els'.len ≤ 9223372036854775807 := o'.l6
  obtain ⟨w0, hw0⟩ : ∃ w0, w0 = (w.alloc (.cells #[.int .i64 ty, .bool mu, .int .i64 op, .int .i64 x, .int .i64 y, .int .i64 n, .slice u4 ls.length r4, .slice u5 body.len r5, .slice u6 els.len r6] 62)).alloc (.cells #[.int .i64 ty', .bool mu', .int .i64 op', .int .i64 x', .int .i64 y', .int .i64 n', .slice u4' ls'.length r4', .slice u5' body'.len r5', .slice u6' els'.len r6'] 62) := ⟨_, rfl⟩
  have hB0 : Below w.heap.size w w0 := by rw [hw0]; exact ((Below.refl _ _).alloc (Nat.le_refl _) _).alloc (by simp) _
  have hb1 : Box w0 w.heap.size #[.int .i64 ty, .bool mu, .int .i64 op, .int .i64 x, .int .i64 y, .int .i64 n, .slice u4 ls.length r4, .slice u5 body.len r5, .slice u6 els.len r6] := by rw [hw0]; exact (box_new w _ _).keep (keeps_new _ _)
  have hb2 : Box w0 (w.heap.size + 1) #[.int .i64 ty', .bool mu', .int .i64 op', .int .i64 x', .int .i64 y', .int .i64 n', .slice u4' ls'.length r4', .slice u5' body'.len r5', .slice u6' els'.len r6'] := by rw [hw0]; exact box_new2 w _ _ _
  replace o := Lib.hid (o.keep (keep_below hB0))
  replace o' := Lib.hid (o'.keep (keep_below hB0))
  replace hB0 := Lib.hid hB0
  replace hb1 := Lib.hid hb1
  replace hb2 := Lib.hid hb2
  go_enter Tryd.func52, Tryd.ntmps52
  go_upto_region 1 with fail
  rw [← hw0]
  clear hw0
  have p0 : w0.cell? ⟨w.heap.size, 0, none⟩ = some (.int .i64 ty) := hb1.out 0 _ rfl
  have q0 : w0.cell? ⟨w.heap.size + 1, 0, none⟩ = some (.int .i64 ty') := hb2.out 0 _ rfl
  cases z0 : ty == ty'
  · have hq0 : decide (ty = ty') = false := by rw [beq_eq_false_iff_ne] at z0; exact decide_eq_false z0
    have hv : gloQ ((ty, mu, (⟨op, x, y, n, ls, body, els⟩ : One)), (ty', mu', (⟨op', x', y', n', ls', body', els'⟩ : One))) = false := by
      show (decide (ty = ty') && (decide (mu = mu') && ilEq (Il.cons op x y n ls body els .nil) (Il.cons op' x' y' n' ls' body' els' .nil))) = false
      rw [hq0]
      first | rfl | simp
    go_wp2
    go_ret
    exact ⟨by rw [hv]; rfl, hB0.out⟩
  have hq0 : decide (ty = ty') = true := by rw [beq_iff_eq] at z0; exact decide_eq_true z0
  have p1 : w0.cell? ⟨w.heap.size, 1, none⟩ = some (.bool mu) := hb1.out 1 _ rfl
  have q1 : w0.cell? ⟨w.heap.size + 1, 1, none⟩ = some (.bool mu') := hb2.out 1 _ rfl
  cases z1 : mu == mu'
  · have hq1 : decide (mu = mu') = false := by rw [beq_eq_false_iff_ne] at z1; exact decide_eq_false z1
    have hv : gloQ ((ty, mu, (⟨op, x, y, n, ls, body, els⟩ : One)), (ty', mu', (⟨op', x', y', n', ls', body', els'⟩ : One))) = false := by
      show (decide (ty = ty') && (decide (mu = mu') && ilEq (Il.cons op x y n ls body els .nil) (Il.cons op' x' y' n' ls' body' els' .nil))) = false
      rw [hq0, hq1]
      first | rfl | simp
    go_wp2
    go_ret
    exact ⟨by rw [hv]; rfl, hB0.out⟩
  have hq1 : decide (mu = mu') = true := by rw [beq_iff_eq] at z1; exact decide_eq_true z1
  have p2 : w0.cell? ⟨w.heap.size, 2, none⟩ = some (.int .i64 op) := hb1.out 2 _ rfl
  have q2 : w0.cell? ⟨w.heap.size + 1, 2, none⟩ = some (.int .i64 op') := hb2.out 2 _ rfl
  have p3 : w0.cell? ⟨w.heap.size, 3, none⟩ = some (.int .i64 x) := hb1.out 3 _ rfl
  have q3 : w0.cell? ⟨w.heap.size + 1, 3, none⟩ = some (.int .i64 x') := hb2.out 3 _ rfl
  have p4 : w0.cell? ⟨w.heap.size, 4, none⟩ = some (.int .i64 y) := hb1.out 4 _ rfl
  have q4 : w0.cell? ⟨w.heap.size + 1, 4, none⟩ = some (.int .i64 y') := hb2.out 4 _ rfl
  have p5 : w0.cell? ⟨w.heap.size, 5, none⟩ = some (.int .i64 n) := hb1.out 5 _ rfl
  have q5 : w0.cell? ⟨w.heap.size + 1, 5, none⟩ = some (.int .i64 n') := hb2.out 5 _ rfl
  have p6 : w0.cell? ⟨w.heap.size, 6, none⟩ = some (.slice u4 ls.length r4) := hb1.out 6 _ rfl
  have q6 : w0.cell? ⟨w.heap.size + 1, 6, none⟩ = some (.slice u4' ls'.length r4') := hb2.out 6 _ rfl
  have p7 : w0.cell? ⟨w.heap.size, 7, none⟩ = some (.slice u5 body.len r5) := hb1.out 7 _ rfl
  have q7 : w0.cell? ⟨w.heap.size + 1, 7, none⟩ = some (.slice u5' body'.len r5') := hb2.out 7 _ rfl
  have p8 : w0.cell? ⟨w.heap.size, 8, none⟩ = some (.slice u6 els.len r6) := hb1.out 8 _ rfl
  have q8 : w0.cell? ⟨w.heap.size + 1, 8, none⟩ = some (.slice u6' els'.len r6') := hb2.out 8 _ rfl
  go_wp2_with fail
  refine (psame_any op x y n ls body els u4 r4 u5 r5 u6 r6 op' x' y' n' ls' body' els' u4' r4' u5' r5' u6' r6' _ o.out o'.out).mono ?_
  rintro e w3 ⟨rfl, tt⟩
  have t3 := Lib.hid tt
  clear tt
  have tb3 := Lib.hid (t3.out)
  have hB3 := Lib.hid (hB0.out.trans (tb3.out.mono hB0.out.size))
  clear p0 q0 p1 q1 p2 q2 p3 q3 p4 q4 p5 q5 p6 q6 p7 q7 p8 q8
  have hv : Hid (gloQ ((ty, mu, (⟨op, x, y, n, ls, body, els⟩ : One)), (ty', mu', (⟨op', x', y', n', ls', body', els'⟩ : One))) = ilEq (Il.cons op x y n ls body els .nil) (Il.cons op' x' y' n' ls' body' els' .nil)) := Lib.hid (by
    show (decide (ty = ty') && (decide (mu = mu') && ilEq (Il.cons op x y n ls body els .nil) (Il.cons op' x' y' n' ls' body' els' .nil))) = _
    rw [hq0, hq1]
    first | rfl | simp)
  go_wp2
  go_ret
  exact ⟨by rw [hv.out]; rfl, hB3.out⟩
set_option maxRecDepth 100000 in
set_option maxHeartbeats 2000000 in
theorem eqF_globals (l l' : List (Int × Bool × One)) (ao ao' : Option Addr) (c c' : Nat) (w : World) (h : RowsIn GlobalAt 9 w ao l) (h' : RowsIn GlobalAt 9 w ao' l') :
    Calls Tryd.prog 51 #[.slice ao l.length c, .slice ao' l'.length c', .func (.func 52) #[] #[]] w fun e w' => e = .returned (.bool (eqB gloQ l l')) ∧ Below w.heap.size w w' := by
  obtain ⟨N, hN⟩ : ∃ N, l.length = N := ⟨_, rfl⟩
  obtain ⟨N', hN'⟩ : ∃ N, l'.length = N := ⟨_, rfl⟩
  have hl := h.1
  have hl' := h'.1
  have HI := Lib.hid h
  have HI' := Lib.hid h'
  clear h h'
  rw [hN] at hl ⊢
  rw [hN'] at hl' ⊢
  go_enter Tryd.func51, Tryd.ntmps51
  by_cases hne : N = N'
  · subst hne
    have hll := Lib.hid (hN.trans hN'.symm)
    go_wp2_with fail
    go_loopw [17] (fun vi wr => ∃ i : Nat, i ≤ N ∧ vi = .int .i64 i ∧ Hid (Below w.heap.size w wr) ∧ Hid (((l.zip l').take i).all gloQ = true)) (fun vi _ => N - (intOf vi).toNat)
    case atStart => exact ⟨0, Nat.zero_le _, rfl, Lib.hid (Below.refl _ _), Lib.hid rfl⟩
    case round =>
      obtain ⟨i, hi, rfl, hb, ha⟩ := hrel
      by_cases hlt : i < N
      · obtain ⟨xx, hx⟩ : ∃ x, l[i]? = some x := ⟨_, List.getElem?_eq_getElem (by omega)⟩
        obtain ⟨yy, hy⟩ : ∃ x, l'[i]? = some x := ⟨_, List.getElem?_eq_getElem (by omega)⟩
        obtain ⟨b, o, rfl, hrow⟩ := (HI.out.keep fun _ _ _ h => h.keep (keep_below hb.out)).row hx
        obtain ⟨b', o', rfl, hrow'⟩ := (HI'.out.keep fun _ _ _ h => h.keep (keep_below hb.out)).row hy
        have hn := Lib.hid (eqB_step hx hy hll.out ha.out)
        clear hx hy ha
        obtain ⟨ty, mu, ⟨op, x, y, n, ls, body, els⟩⟩ := xx
        obtain ⟨ty', mu', ⟨op', x', y', n', ls', body', els'⟩⟩ := yy
        obtain ⟨c0, c1, ⟨⟨d0, d1, d2, d3⟩, ⟨u4, r4, d4, i4⟩, ⟨u5, r5, d5, l5, i5⟩, ⟨u6, r6, d6, l6, i6⟩, _⟩⟩ := hrow
        obtain ⟨c0', c1', ⟨⟨d0', d1', d2', d3'⟩, ⟨u4', r4', d4', i4'⟩, ⟨u5', r5', d5', l5', i5'⟩, ⟨u6', r6', d6', l6', i6'⟩, _⟩⟩ := hrow'
        unfold IntCell at c0 c0'
        unfold BoolCell at c1 c1'
        try simp only at c0 c1 c0' c1'
        have o1 := Lib.hid (OneIs.il1 i4 l5 (inv0 i5) l6 (inv0 i6) : OneIs wr ⟨op, x, y, n, ls, body, els⟩ u4 r4 u5 r5 u6 r6)
        have o2 := Lib.hid (OneIs.il1 i4' l5' (inv0 i5') l6' (inv0 i6') : OneIs wr ⟨op', x', y', n', ls', body', els'⟩ u4' r4' u5' r5' u6' r6')
        clear i4 l5 i5 l6 i6 i4' l5' i5' l6' i6'
        have g0 := World.new_ne wr _ c0
        have g0' := World.new_ne wr _ c0'
        replace c0 : wr.cell? ⟨b, o + i * 9, none⟩ = some (.int .i64 ty) := c0
        replace c1 : wr.cell? ⟨b, o + i * 9 + 1, none⟩ = some (.bool mu) := c1
        replace d0 : wr.cell? ⟨b, o + i * 9 + 2, none⟩ = some (.int .i64 op) := d0
        replace d1 : wr.cell? ⟨b, o + i * 9 + 3, none⟩ = some (.int .i64 x) := d1
        replace d2 : wr.cell? ⟨b, o + i * 9 + 4, none⟩ = some (.int .i64 y) := d2
        replace d3 : wr.cell? ⟨b, o + i * 9 + 5, none⟩ = some (.int .i64 n) := d3
        replace d4 : wr.cell? ⟨b, o + i * 9 + 6, none⟩ = some (.slice u4 ls.length r4) := d4
        replace d5 : wr.cell? ⟨b, o + i * 9 + 7, none⟩ = some (.slice u5 body.len r5) := d5
        replace d6 : wr.cell? ⟨b, o + i * 9 + 8, none⟩ = some (.slice u6 els.len r6) := d6
        have e0 : (wr.alloc (.cells #[.int .i64 ty, .bool mu, .int .i64 op, .int .i64 x, .int .i64 y, .int .i64 n, .slice u4 ls.length r4, .slice u5 body.len r5, .slice u6 els.len r6] 62)).cell? ⟨b', o' + i * 9, none⟩ = some (.int .i64 ty') := keep_below ((Below.refl _ _).alloc (Nat.le_refl _) _) _ _ c0'
        have e1 : (wr.alloc (.cells #[.int .i64 ty, .bool mu, .int .i64 op, .int .i64 x, .int .i64 y, .int .i64 n, .slice u4 ls.length r4, .slice u5 body.len r5, .slice u6 els.len r6] 62)).cell? ⟨b', o' + i * 9 + 1, none⟩ = some (.bool mu') := keep_below ((Below.refl _ _).alloc (Nat.le_refl _) _) _ _ c1'
        have e2 : (wr.alloc (.cells #[.int .i64 ty, .bool mu, .int .i64 op, .int .i64 x, .int .i64 y, .int .i64 n, .slice u4 ls.length r4, .slice u5 body.len r5, .slice u6 els.len r6] 62)).cell? ⟨b', o' + i * 9 + 2, none⟩ = some (.int .i64 op') := keep_below ((Below.refl _ _).alloc (Nat.le_refl _) _) _ _ d0'
        have e3 : (wr.alloc (.cells #[.int .i64 ty, .bool mu, .int .i64 op, .int .i64 x, .int .i64 y, .int .i64 n, .slice u4 ls.length r4, .slice u5 body.len r5, .slice u6 els.len r6] 62)).cell? ⟨b', o' + i * 9 + 3, none⟩ = some (.int .i64 x') := keep_below ((Below.refl _ _).alloc (Nat.le_refl _) _) _ _ d1'
        have e4 : (wr.alloc (.cells #[.int .i64 ty, .bool mu, .int .i64 op, .int .i64 x, .int .i64 y, .int .i64 n, .slice u4 ls.length r4, .slice u5 body.len r5, .slice u6 els.len r6] 62)).cell? ⟨b', o' + i * 9 + 4, none⟩ = some (.int .i64 y') := keep_below ((Below.refl _ _).alloc (Nat.le_refl _) _) _ _ d2'
        have e5 : (wr.alloc (.cells #[.int .i64 ty, .bool mu, .int .i64 op, .int .i64 x, .int .i64 y, .int .i64 n, .slice u4 ls.length r4, .slice u5 body.len r5, .slice u6 els.len r6] 62)).cell? ⟨b', o' + i * 9 + 5, none⟩ = some (.int .i64 n') := keep_below ((Below.refl _ _).alloc (Nat.le_refl _) _) _ _ d3'
        have e6 : (wr.alloc (.cells #[.int .i64 ty, .bool mu, .int .i64 op, .int .i64 x, .int .i64 y, .int .i64 n, .slice u4 ls.length r4, .slice u5 body.len r5, .slice u6 els.len r6] 62)).cell? ⟨b', o' + i * 9 + 6, none⟩ = some (.slice u4' ls'.length r4') := keep_below ((Below.refl _ _).alloc (Nat.le_refl _) _) _ _ d4'
        have e7 : (wr.alloc (.cells #[.int .i64 ty, .bool mu, .int .i64 op, .int .i64 x, .int .i64 y, .int .i64 n, .slice u4 ls.length r4, .slice u5 body.len r5, .slice u6 els.len r6] 62)).cell? ⟨b', o' + i * 9 + 7, none⟩ = some (.slice u5' body'.len r5') := keep_below ((Below.refl _ _).alloc (Nat.le_refl _) _) _ _ d5'
        have e8 : (wr.alloc (.cells #[.int .i64 ty, .bool mu, .int .i64 op, .int .i64 x, .int .i64 y, .int .i64 n, .slice u4 ls.length r4, .slice u5 body.len r5, .slice u6 els.len r6] 62)).cell? ⟨b', o' + i * 9 + 8, none⟩ = some (.slice u6' els'.len r6') := keep_below ((Below.refl _ _).alloc (Nat.le_refl _) _) _ _ d6'
        clear c0' c1' d0' d1' d2' d3' d4' d5' d6'
        have hal : ∀ v v', Hid (Below wr.heap.size wr ((wr.alloc v).alloc v')) := fun v v' => Lib.hid (((Below.refl _ _).alloc (Nat.le_refl _) _).alloc (by simp) _)
        go_wp2_with fail
        refine (clo_globals ty mu op x y n ls body els u4 u5 u6 r4 r5 r6 ty' mu' op' x' y' n' ls' body' els' u4' u5' u6' r4' r5' r6' _ (o1.out.keep (keep_below (hal _ _).out)) (o2.out.keep (keep_below (hal _ _).out))).mono ?_
        rintro e w2 ⟨rfl, b2⟩
        have hbx := Lib.hid ((hal (.cells #[.int .i64 ty, .bool mu, .int .i64 op, .int .i64 x, .int .i64 y, .int .i64 n, .slice u4 ls.length r4, .slice u5 body.len r5, .slice u6 els.len r6] 62) (.cells #[.int .i64 ty', .bool mu', .int .i64 op', .int .i64 x', .int .i64 y', .int .i64 n', .slice u4' ls'.length r4', .slice u5' body'.len r5', .slice u6' els'.len r6'] 62)).out.trans (b2.mono (hal _ _).out.size))
        have hB := Lib.hid (hb.out.trans (hbx.out.mono hb.out.size))
        clear b2 hal g0 g0' c0 c1 d0 d1 d2 d3 d4 d5 d6 e0 e1 e2 e3 e4 e5 e6 e7 e8
        cases hX : gloQ ((ty, mu, (⟨op, x, y, n, ls, body, els⟩ : One)), (ty', mu', (⟨op', x', y', n', ls', body', els'⟩ : One)))
        · have hv : eqB gloQ l l' = false := hn.out.2 hX
          clear hn
          go_wp2
          go_ret
          exact ⟨by rw [hv]; rfl, hB.out⟩
        · have hv := Lib.hid (hn.out.1 hX)
          clear hn
          go_wp2
          exact ⟨⟨i + 1, by omega, by simp, hB, hv⟩, by simp [intOf]; omega⟩
      · have hiN : i = N := by omega
        have hv : eqB gloQ l l' = true := eqB_end hll.out (by rw [hN, ← hiN]; exact ha.out)
        clear ha
        go_wp2
        go_ret
        exact ⟨by rw [hv]; rfl, hb.out⟩
  · have hv : eqB gloQ l l' = false := eqB_len (fun e => hne (by rw [← hN, ← hN', e]))
    have q : ((N : Int) != (N' : Int)) = true := by simp; omega
    go_wp2
    go_ret
    exact ⟨by rw [hv]; rfl, Below.refl _ _⟩
set_option maxRecDepth 100000 in
set_option maxHeartbeats 2000000 in
theorem clo_elems (op x y n : Int) (ls : List Int) (body els : Il) (fs : List Int) (u4 u5 u6 u7 : Option Addr) (r4 r5 r6 r7 : Nat) (op' x' y' n' : Int) (ls' : List Int) (body' els' : Il) (fs' : List Int) (u4' u5' u6' u7' : Option Addr) (r4' r5' r6' r7' : Nat) (w : World)
    (o : OneIs w ⟨op, x, y, n, ls, body, els⟩ u4 r4 u5 r5 u6 r6) (i7 : IntsIn w u7 fs) (o' : OneIs w ⟨op', x', y', n', ls', body', els'⟩ u4' r4' u5' r5' u6' r6') (i7' : IntsIn w u7' fs') :
    Calls Tryd.prog 56 #[.agg #[.int .i64 op, .int .i64 x, .int .i64 y, .int .i64 n, .slice u4 ls.length r4, .slice u5 body.len r5, .slice u6 els.len r6, .slice u7 fs.length r7], .agg #[.int .i64 op', .int .i64 x', .int .i64 y', .int .i64 n', .slice u4' ls'.length r4', .slice u5' body'.len r5', .slice u6' els'.len r6', .slice u7' fs'.length r7']] w fun e w' => e = .returned (.bool (elmQ (((⟨op, x, y, n, ls, body, els⟩ : One), fs), ((⟨op', x', y', n', ls', body', els'⟩ : One), fs')))) ∧ Below w.heap.size w w' := by
  have L1 : ls.length ≤ 9223372036854775807 := o.i4.1
  have L1' : ls'.length ≤ 9223372036854775807 := o'.i4.1
  have L2 : body.len ≤ 9223372036854775807 := o.l5
  have L2' : body'.len ≤ 9223372036854775807 := o'.l5
  have L3 : els.len ≤ 9223372036854775807 := o.l6
  have L3' : els'.len ≤ 9223372036854775807 := o'.l6
  have Lfs := i7.1
  have Lfs' := i7'.1
  obtain ⟨w0, hw0⟩ : ∃ w0, w0 = (w.alloc (.cells #[.int .i64 op, .int .i64 x, .int .i64 y, .int .i64 n, .slice u4 ls.length r4, .slice u5 body.len r5, .slice u6 els.len r6, .slice u7 fs.length r7] 58)).alloc (.cells #[.int .i64 op', .int .i64 x', .int .i64 y', .int .i64 n', .slice u4' ls'.length r4', .slice u5' body'.len r5', .slice u6' els'.len r6', .slice u7' fs'.length r7'] 58) := ⟨_, rfl⟩
  have hB0 : Below w.heap.size w w0 := by rw [hw0]; exact ((Below.refl _ _).alloc (Nat.le_refl _) _).alloc (by simp) _
  have hb1 : Box w0 w.heap.size #[.int .i64 op, .int .i64 x, .int .i64 y, .int .i64 n, .slice u4 ls.length r4, .slice u5 body.len r5, .slice u6 els.len r6, .slice u7 fs.length r7] := by rw [hw0]; exact (box_new w _ _).keep (keeps_new _ _)
  have hb2 : Box w0 (w.heap.size + 1) #[.int .i64 op', .int .i64 x', .int .i64 y', .int .i64 n', .slice u4' ls'.length r4', .slice u5' body'.len r5', .slice u6' els'.len r6', .slice u7' fs'.length r7'] := by rw [hw0]; exact box_new2 w _ _ _
  replace o := Lib.hid (o.keep (keep_below hB0))
  replace o' := Lib.hid (o'.keep (keep_below hB0))
  replace i7 := Lib.hid (i7.keep (keep_below hB0))
  replace i7' := Lib.hid (i7'.keep (keep_below hB0))
  replace hB0 := Lib.hid hB0
  replace hb1 := Lib.hid hb1
  replace hb2 := Lib.hid hb2
  go_enter Tryd.func56, Tryd.ntmps56
  go_upto_region 1 with fail
  rw [← hw0]
  clear hw0
  have p0 : w0.cell? ⟨w.heap.size, 0, none⟩ = some (.int .i64 op) := hb1.out 0 _ rfl
  have q0 : w0.cell? ⟨w.heap.size + 1, 0, none⟩ = some (.int .i64 op') := hb2.out 0 _ rfl
  have p1 : w0.cell? ⟨w.heap.size, 1, none⟩ = some (.int .i64 x) := hb1.out 1 _ rfl
  have q1 : w0.cell? ⟨w.heap.size + 1, 1, none⟩ = some (.int .i64 x') := hb2.out 1 _ rfl
  have p2 : w0.cell? ⟨w.heap.size, 2, none⟩ = some (.int .i64 y) := hb1.out 2 _ rfl
  have q2 : w0.cell? ⟨w.heap.size + 1, 2, none⟩ = some (.int .i64 y') := hb2.out 2 _ rfl
  have p3 : w0.cell? ⟨w.heap.size, 3, none⟩ = some (.int .i64 n) := hb1.out 3 _ rfl
  have q3 : w0.cell? ⟨w.heap.size + 1, 3, none⟩ = some (.int .i64 n') := hb2.out 3 _ rfl
  have p4 : w0.cell? ⟨w.heap.size, 4, none⟩ = some (.slice u4 ls.length r4) := hb1.out 4 _ rfl
  have q4 : w0.cell? ⟨w.heap.size + 1, 4, none⟩ = some (.slice u4' ls'.length r4') := hb2.out 4 _ rfl
  have p5 : w0.cell? ⟨w.heap.size, 5, none⟩ = some (.slice u5 body.len r5) := hb1.out 5 _ rfl
  have q5 : w0.cell? ⟨w.heap.size + 1, 5, none⟩ = some (.slice u5' body'.len r5') := hb2.out 5 _ rfl
  have p6 : w0.cell? ⟨w.heap.size, 6, none⟩ = some (.slice u6 els.len r6) := hb1.out 6 _ rfl
  have q6 : w0.cell? ⟨w.heap.size + 1, 6, none⟩ = some (.slice u6' els'.len r6') := hb2.out 6 _ rfl
  go_wp2_with fail
  refine (psame_any op x y n ls body els u4 r4 u5 r5 u6 r6 op' x' y' n' ls' body' els' u4' r4' u5' r5' u6' r6' _ o.out o'.out).mono ?_
  rintro e w1 ⟨rfl, tt⟩
  have t1 := Lib.hid tt
  clear tt
  have tb1 := Lib.hid (t1.out)
  have hB1 := Lib.hid (hB0.out.trans (tb1.out.mono hB0.out.size))
  clear p0 q0 p1 q1 p2 q2 p3 q3 p4 q4 p5 q5 p6 q6
  cases hq0 : ilEq (Il.cons op x y n ls body els .nil) (Il.cons op' x' y' n' ls' body' els' .nil)
  · have hv : elmQ (((⟨op, x, y, n, ls, body, els⟩ : One), fs), ((⟨op', x', y', n', ls', body', els'⟩ : One), fs')) = false := by
      show (ilEq (Il.cons op x y n ls body els .nil) (Il.cons op' x' y' n' ls' body' els' .nil) && decide (fs = fs')) = false
      rw [hq0]
      first | rfl | simp
    go_wp2
    go_ret
    exact ⟨by rw [hv]; rfl, hB1.out⟩
  have p7 : w1.cell? ⟨w.heap.size, 7, none⟩ = some (.slice u7 fs.length r7) := keep_below tb1.out _ _ (hb1.out 7 _ rfl)
  have q7 : w1.cell? ⟨w.heap.size + 1, 7, none⟩ = some (.slice u7' fs'.length r7') := keep_below tb1.out _ _ (hb2.out 7 _ rfl)
  go_wp2_with fail
  refine (equalInts_any fs fs' u7 u7' r7 r7' _ (i7.out.keep (keep_below tb1.out)) (i7'.out.keep (keep_below tb1.out))).mono ?_
  rintro e w2 ⟨rfl, mm, hmm⟩
  have t2 := Lib.hid (show Below w1.heap.size w1 w2 by rw [hmm]; exact below_drewN (Below.refl _ _) mm)
  clear hmm
  have tb2 := Lib.hid (tb1.out.trans (t2.out.mono tb1.out.size))
  have hB2 := Lib.hid (hB0.out.trans (tb2.out.mono hB0.out.size))
  clear p7 q7
  have hv : Hid (elmQ (((⟨op, x, y, n, ls, body, els⟩ : One), fs), ((⟨op', x', y', n', ls', body', els'⟩ : One), fs')) = decide (fs = fs')) := Lib.hid (by
    show (ilEq (Il.cons op x y n ls body els .nil) (Il.cons op' x' y' n' ls' body' els' .nil) && decide (fs = fs')) = _
    rw [hq0]
    first | rfl | simp)
  go_wp2
  go_ret
  exact ⟨by rw [hv.out]; rfl, hB2.out⟩
set_option maxRecDepth 100000 in
set_option maxHeartbeats 2000000 in
theorem eqF_elems (l l' : List (One × List Int)) (ao ao' : Option Addr) (c c' : Nat) (w : World) (h : RowsIn ElemAt 8 w ao l) (h' : RowsIn ElemAt 8 w ao' l') :
    Calls Tryd.prog 55 #[.slice ao l.length c, .slice ao' l'.length c', .func (.func 56) #[] #[]] w fun e w' => e = .returned (.bool (eqB elmQ l l')) ∧ Below w.heap.size w w' := by
  obtain ⟨N, hN⟩ : ∃ N, l.length = N := ⟨_, rfl⟩
  obtain ⟨N', hN'⟩ : ∃ N, l'.length = N := ⟨_, rfl⟩
  have hl := h.1
  have hl' := h'.1
  have HI := Lib.hid h
  have HI' := Lib.hid h'
  clear h h'
  rw [hN] at hl ⊢
  rw [hN'] at hl' ⊢
  go_enter Tryd.func55, Tryd.ntmps55
  by_cases hne : N = N'
  · subst hne
    have hll := Lib.hid (hN.trans hN'.symm)
    go_wp2_with fail
    go_loopw [17] (fun vi wr => ∃ i : Nat, i ≤ N ∧ vi = .int .i64 i ∧ Hid (Below w.heap.size w wr) ∧ Hid (((l.zip l').take i).all elmQ = true)) (fun vi _ => N - (intOf vi).toNat)
    case atStart => exact ⟨0, Nat.zero_le _, rfl, Lib.hid (Below.refl _ _), Lib.hid rfl⟩
    case round =>
      obtain ⟨i, hi, rfl, hb, ha⟩ := hrel
      by_cases hlt : i < N
      · obtain ⟨xx, hx⟩ : ∃ x, l[i]? = some x := ⟨_, List.getElem?_eq_getElem (by omega)⟩
        obtain ⟨yy, hy⟩ : ∃ x, l'[i]? = some x := ⟨_, List.getElem?_eq_getElem (by omega)⟩
        obtain ⟨b, o, rfl, hrow⟩ := (HI.out.keep fun _ _ _ h => h.keep (keep_below hb.out)).row hx
        obtain ⟨b', o', rfl, hrow'⟩ := (HI'.out.keep fun _ _ _ h => h.keep (keep_below hb.out)).row hy
        have hn := Lib.hid (eqB_step hx hy hll.out ha.out)
        clear hx hy ha
        obtain ⟨⟨op, x, y, n, ls, body, els⟩, fs⟩ := xx
        obtain ⟨⟨op', x', y', n', ls', body', els'⟩, fs'⟩ := yy
        obtain ⟨⟨⟨d0, d1, d2, d3⟩, ⟨u4, r4, d4, i4⟩, ⟨u5, r5, d5, l5, i5⟩, ⟨u6, r6, d6, l6, i6⟩, _⟩, ⟨u7, r7, d7, i7⟩⟩ := hrow
        obtain ⟨⟨⟨d0', d1', d2', d3'⟩, ⟨u4', r4', d4', i4'⟩, ⟨u5', r5', d5', l5', i5'⟩, ⟨u6', r6', d6', l6', i6'⟩, _⟩, ⟨u7', r7', d7', i7'⟩⟩ := hrow'
        try simp only at d7 d7'
        try simp only at i7 i7'
        have o1 := Lib.hid (OneIs.il1 i4 l5 (inv0 i5) l6 (inv0 i6) : OneIs wr ⟨op, x, y, n, ls, body, els⟩ u4 r4 u5 r5 u6 r6)
        have o2 := Lib.hid (OneIs.il1 i4' l5' (inv0 i5') l6' (inv0 i6') : OneIs wr ⟨op', x', y', n', ls', body', els'⟩ u4' r4' u5' r5' u6' r6')
        clear i4 l5 i5 l6 i6 i4' l5' i5' l6' i6'
        have g0 := World.new_ne wr _ d0
        have g0' := World.new_ne wr _ d0'
        replace d0 : wr.cell? ⟨b, o + i * 8, none⟩ = some (.int .i64 op) := d0
        replace d1 : wr.cell? ⟨b, o + i * 8 + 1, none⟩ = some (.int .i64 x) := d1
        replace d2 : wr.cell? ⟨b, o + i * 8 + 2, none⟩ = some (.int .i64 y) := d2
        replace d3 : wr.cell? ⟨b, o + i * 8 + 3, none⟩ = some (.int .i64 n) := d3
        replace d4 : wr.cell? ⟨b, o + i * 8 + 4, none⟩ = some (.slice u4 ls.length r4) := d4
        replace d5 : wr.cell? ⟨b, o + i * 8 + 5, none⟩ = some (.slice u5 body.len r5) := d5
        replace d6 : wr.cell? ⟨b, o + i * 8 + 6, none⟩ = some (.slice u6 els.len r6) := d6
        replace d7 : wr.cell? ⟨b, o + i * 8 + 7, none⟩ = some (.slice u7 fs.length r7) := d7
        have e0 : (wr.alloc (.cells #[.int .i64 op, .int .i64 x, .int .i64 y, .int .i64 n, .slice u4 ls.length r4, .slice u5 body.len r5, .slice u6 els.len r6, .slice u7 fs.length r7] 58)).cell? ⟨b', o' + i * 8, none⟩ = some (.int .i64 op') := keep_below ((Below.refl _ _).alloc (Nat.le_refl _) _) _ _ d0'
        have e1 : (wr.alloc (.cells #[.int .i64 op, .int .i64 x, .int .i64 y, .int .i64 n, .slice u4 ls.length r4, .slice u5 body.len r5, .slice u6 els.len r6, .slice u7 fs.length r7] 58)).cell? ⟨b', o' + i * 8 + 1, none⟩ = some (.int .i64 x') := keep_below ((Below.refl _ _).alloc (Nat.le_refl _) _) _ _ d1'
        have e2 : (wr.alloc (.cells #[.int .i64 op, .int .i64 x, .int .i64 y, .int .i64 n, .slice u4 ls.length r4, .slice u5 body.len r5, .slice u6 els.len r6, .slice u7 fs.length r7] 58)).cell? ⟨b', o' + i * 8 + 2, none⟩ = some (.int .i64 y') := keep_below ((Below.refl _ _).alloc (Nat.le_refl _) _) _ _ d2'
        have e3 : (wr.alloc (.cells #[.int .i64 op, .int .i64 x, .int .i64 y, .int .i64 n, .slice u4 ls.length r4, .slice u5 body.len r5, .slice u6 els.len r6, .slice u7 fs.length r7] 58)).cell? ⟨b', o' + i * 8 + 3, none⟩ = some (.int .i64 n') := keep_below ((Below.refl _ _).alloc (Nat.le_refl _) _) _ _ d3'
        have e4 : (wr.alloc (.cells #[.int .i64 op, .int .i64 x, .int .i64 y, .int .i64 n, .slice u4 ls.length r4, .slice u5 body.len r5, .slice u6 els.len r6, .slice u7 fs.length r7] 58)).cell? ⟨b', o' + i * 8 + 4, none⟩ = some (.slice u4' ls'.length r4') := keep_below ((Below.refl _ _).alloc (Nat.le_refl _) _) _ _ d4'
        have e5 : (wr.alloc (.cells #[.int .i64 op, .int .i64 x, .int .i64 y, .int .i64 n, .slice u4 ls.length r4, .slice u5 body.len r5, .slice u6 els.len r6, .slice u7 fs.length r7] 58)).cell? ⟨b', o' + i * 8 + 5, none⟩ = some (.slice u5' body'.len r5') := keep_below ((Below.refl _ _).alloc (Nat.le_refl _) _) _ _ d5'
        have e6 : (wr.alloc (.cells #[.int .i64 op, .int .i64 x, .int .i64 y, .int .i64 n, .slice u4 ls.length r4, .slice u5 body.len r5, .slice u6 els.len r6, .slice u7 fs.length r7] 58)).cell? ⟨b', o' + i * 8 + 6, none⟩ = some (.slice u6' els'.len r6') := keep_below ((Below.refl _ _).alloc (Nat.le_refl _) _) _ _ d6'
        have e7 : (wr.alloc (.cells #[.int .i64 op, .int .i64 x, .int .i64 y, .int .i64 n, .slice u4 ls.length r4, .slice u5 body.len r5, .slice u6 els.len r6, .slice u7 fs.length r7] 58)).cell? ⟨b', o' + i * 8 + 7, none⟩ = some (.slice u7' fs'.length r7') := keep_below ((Below.refl _ _).alloc (Nat.le_refl _) _) _ _ d7'
        clear d0' d1' d2' d3' d4' d5' d6' d7'
        have hal : ∀ v v', Hid (Below wr.heap.size wr ((wr.alloc v).alloc v')) := fun v v' => Lib.hid (((Below.refl _ _).alloc (Nat.le_refl _) _).alloc (by simp) _)
        go_wp2_with fail
        refine (clo_elems op x y n ls body els fs u4 u5 u6 u7 r4 r5 r6 r7 op' x' y' n' ls' body' els' fs' u4' u5' u6' u7' r4' r5' r6' r7' _ (o1.out.keep (keep_below (hal _ _).out)) (i7.keep (keep_below (hal _ _).out)) (o2.out.keep (keep_below (hal _ _).out)) (i7'.keep (keep_below (hal _ _).out))).mono ?_
        rintro e w2 ⟨rfl, b2⟩
        have hbx := Lib.hid ((hal (.cells #[.int .i64 op, .int .i64 x, .int .i64 y, .int .i64 n, .slice u4 ls.length r4, .slice u5 body.len r5, .slice u6 els.len r6, .slice u7 fs.length r7] 58) (.cells #[.int .i64 op', .int .i64 x', .int .i64 y', .int .i64 n', .slice u4' ls'.length r4', .slice u5' body'.len r5', .slice u6' els'.len r6', .slice u7' fs'.length r7'] 58)).out.trans (b2.mono (hal _ _).out.size))
        have hB := Lib.hid (hb.out.trans (hbx.out.mono hb.out.size))
        clear b2 hal g0 g0' d0 d1 d2 d3 d4 d5 d6 d7 e0 e1 e2 e3 e4 e5 e6 e7
        cases hX : elmQ (((⟨op, x, y, n, ls, body, els⟩ : One), fs), ((⟨op', x', y', n', ls', body', els'⟩ : One), fs'))
        · have hv : eqB elmQ l l' = false := hn.out.2 hX
          clear hn
          go_wp2
          go_ret
          exact ⟨by rw [hv]; rfl, hB.out⟩
        · have hv := Lib.hid (hn.out.1 hX)
          clear hn
          go_wp2
          exact ⟨⟨i + 1, by omega, by simp, hB, hv⟩, by simp [intOf]; omega⟩
      · have hiN : i = N := by omega
        have hv : eqB elmQ l l' = true := eqB_end hll.out (by rw [hN, ← hiN]; exact ha.out)
        clear ha
        go_wp2
        go_ret
        exact ⟨by rw [hv]; rfl, hb.out⟩
  · have hv : eqB elmQ l l' = false := eqB_len (fun e => hne (by rw [← hN, ← hN', e]))
    have q : ((N : Int) != (N' : Int)) = true := by simp; omega
    go_wp2
    go_ret
    exact ⟨by rw [hv]; rfl, Below.refl _ _⟩
set_option maxRecDepth 100000 in
set_option maxHeartbeats 2000000 in
theorem clo_datas (op x y n : Int) (ls : List Int) (body els : Il) (s0 : ByteArray) (u4 u5 u6 : Option Addr) (r4 r5 r6 : Nat) (op' x' y' n' : Int) (ls' : List Int) (body' els' : Il) (s0' : ByteArray) (u4' u5' u6' : Option Addr) (r4' r5' r6' : Nat) (w : World)
    (o : OneIs w ⟨op, x, y, n, ls, body, els⟩ u4 r4 u5 r5 u6 r6) (o' : OneIs w ⟨op', x', y', n', ls', body', els'⟩ u4' r4' u5' r5' u6' r6') :
    Calls Tryd.prog 58 #[.agg #[.int .i64 op, .int .i64 x, .int .i64 y, .int .i64 n, .slice u4 ls.length r4, .slice u5 body.len r5, .slice u6 els.len r6, .string s0], .agg #[.int .i64 op', .int .i64 x', .int .i64 y', .int .i64 n', .slice u4' ls'.length r4', .slice u5' body'.len r5', .slice u6' els'.len r6', .string s0']] w fun e w' => e = .returned (.bool (datQ (((⟨op, x, y, n, ls, body, els⟩ : One), s0), ((⟨op', x', y', n', ls', body', els'⟩ : One), s0')))) ∧ Below w.heap.size w w' := by
  have L1 : ls.length ≤ 9223372036854775807 := o.i4.1
  have L1' : ls'.length ≤ 9223372036854775807 := o'.i4.1
  have L2 : body.len ≤ 9223372036854775807 := o.l5
  have L2' : body'.len ≤ 9223372036854775807 := o'.l5
  have L3 : els.len ≤ 9223372036854775807 := o.l6
  have L3' : els'.len ≤ 9223372036854775807 := o'.l6
  obtain ⟨w0, hw0⟩ : ∃ w0, w0 = (w.alloc (.cells #[.int .i64 op, .int .i64 x, .int .i64 y, .int .i64 n, .slice u4 ls.length r4, .slice u5 body.len r5, .slice u6 els.len r6, .string s0] 60)).alloc (.cells #[.int .i64 op', .int .i64 x', .int .i64 y', .int .i64 n', .slice u4' ls'.length r4', .slice u5' body'.len r5', .slice u6' els'.len r6', .string s0'] 60) := ⟨_, rfl⟩
  have hB0 : Below w.heap.size w w0 := by rw [hw0]; exact ((Below.refl _ _).alloc (Nat.le_refl _) _).alloc (by simp) _
  have hb1 : Box w0 w.heap.size #[.int .i64 op, .int .i64 x, .int .i64 y, .int .i64 n, .slice u4 ls.length r4, .slice u5 body.len r5, .slice u6 els.len r6, .string s0] := by rw [hw0]; exact (box_new w _ _).keep (keeps_new _ _)
  have hb2 : Box w0 (w.heap.size + 1) #[.int .i64 op', .int .i64 x', .int .i64 y', .int .i64 n', .slice u4' ls'.length r4', .slice u5' body'.len r5', .slice u6' els'.len r6', .string s0'] := by rw [hw0]; exact box_new2 w _ _ _
  replace o := Lib.hid (o.keep (keep_below hB0))
  replace o' := Lib.hid (o'.keep (keep_below hB0))
  replace hB0 := Lib.hid hB0
  replace hb1 := Lib.hid hb1
  replace hb2 := Lib.hid hb2
  go_enter Tryd.func58, Tryd.ntmps58
  go_upto_region 1 with fail
  rw [← hw0]
  clear hw0
  have p0 : w0.cell? ⟨w.heap.size, 0, none⟩ = some (.int .i64 op) := hb1.out 0 _ rfl
  have q0 : w0.cell? ⟨w.heap.size + 1, 0, none⟩ = some (.int .i64 op') := hb2.out 0 _ rfl
  have p1 : w0.cell? ⟨w.heap.size, 1, none⟩ = some (.int .i64 x) := hb1.out 1 _ rfl
  have q1 : w0.cell? ⟨w.heap.size + 1, 1, none⟩ = some (.int .i64 x') := hb2.out 1 _ rfl
  have p2 : w0.cell? ⟨w.heap.size, 2, none⟩ = some (.int .i64 y) := hb1.out 2 _ rfl
  have q2 : w0.cell? ⟨w.heap.size + 1, 2, none⟩ = some (.int .i64 y') := hb2.out 2 _ rfl
  have p3 : w0.cell? ⟨w.heap.size, 3, none⟩ = some (.int .i64 n) := hb1.out 3 _ rfl
  have q3 : w0.cell? ⟨w.heap.size + 1, 3, none⟩ = some (.int .i64 n') := hb2.out 3 _ rfl
  have p4 : w0.cell? ⟨w.heap.size, 4, none⟩ = some (.slice u4 ls.length r4) := hb1.out 4 _ rfl
  have q4 : w0.cell? ⟨w.heap.size + 1, 4, none⟩ = some (.slice u4' ls'.length r4') := hb2.out 4 _ rfl
  have p5 : w0.cell? ⟨w.heap.size, 5, none⟩ = some (.slice u5 body.len r5) := hb1.out 5 _ rfl
  have q5 : w0.cell? ⟨w.heap.size + 1, 5, none⟩ = some (.slice u5' body'.len r5') := hb2.out 5 _ rfl
  have p6 : w0.cell? ⟨w.heap.size, 6, none⟩ = some (.slice u6 els.len r6) := hb1.out 6 _ rfl
  have q6 : w0.cell? ⟨w.heap.size + 1, 6, none⟩ = some (.slice u6' els'.len r6') := hb2.out 6 _ rfl
  go_wp2_with fail
  refine (psame_any op x y n ls body els u4 r4 u5 r5 u6 r6 op' x' y' n' ls' body' els' u4' r4' u5' r5' u6' r6' _ o.out o'.out).mono ?_
  rintro e w1 ⟨rfl, tt⟩
  have t1 := Lib.hid tt
  clear tt
  have tb1 := Lib.hid (t1.out)
  have hB1 := Lib.hid (hB0.out.trans (tb1.out.mono hB0.out.size))
  clear p0 q0 p1 q1 p2 q2 p3 q3 p4 q4 p5 q5 p6 q6
  cases hq0 : ilEq (Il.cons op x y n ls body els .nil) (Il.cons op' x' y' n' ls' body' els' .nil)
  · have hv : datQ (((⟨op, x, y, n, ls, body, els⟩ : One), s0), ((⟨op', x', y', n', ls', body', els'⟩ : One), s0')) = false := by
      show (decide (s0 = s0') && ilEq (Il.cons op x y n ls body els .nil) (Il.cons op' x' y' n' ls' body' els' .nil)) = false
      rw [hq0]
      first | rfl | simp
    go_wp2
    go_ret
    exact ⟨by rw [hv]; rfl, hB1.out⟩
  have p7 : w1.cell? ⟨w.heap.size, 7, none⟩ = some (.string s0) := keep_below tb1.out _ _ (hb1.out 7 _ rfl)
  have q7 : w1.cell? ⟨w.heap.size + 1, 7, none⟩ = some (.string s0') := keep_below tb1.out _ _ (hb2.out 7 _ rfl)
  have hst := str_eq s0 s0'
  cases z1 : s0.toList == s0'.toList
  · have hq1 : decide (s0 = s0') = false := by rw [beq_eq_false_iff_ne] at z1; exact decide_eq_false (fun e => z1 (hst.2 e))
    clear hst
    have hv : datQ (((⟨op, x, y, n, ls, body, els⟩ : One), s0), ((⟨op', x', y', n', ls', body', els'⟩ : One), s0')) = false := by
      show (decide (s0 = s0') && ilEq (Il.cons op x y n ls body els .nil) (Il.cons op' x' y' n' ls' body' els' .nil)) = false
      rw [hq0, hq1]
      first | rfl | simp
    go_wp2
    go_ret
    exact ⟨by rw [hv]; rfl, hB1.out⟩
  have hq1 : decide (s0 = s0') = true := by rw [beq_iff_eq] at z1; exact decide_eq_true (hst.1 z1)
  clear hst
  have hv : datQ (((⟨op, x, y, n, ls, body, els⟩ : One), s0), ((⟨op', x', y', n', ls', body', els'⟩ : One), s0')) = true := by
    show (decide (s0 = s0') && ilEq (Il.cons op x y n ls body els .nil) (Il.cons op' x' y' n' ls' body' els' .nil)) = true
    rw [hq0, hq1]
    rfl
  go_wp2
  go_ret
  exact ⟨by rw [hv]; rfl, hB1.out⟩
set_option maxRecDepth 100000 in
set_option maxHeartbeats 2000000 in
theorem eqF_datas (l l' : List (One × ByteArray)) (ao ao' : Option Addr) (c c' : Nat) (w : World) (h : RowsIn DataAt 8 w ao l) (h' : RowsIn DataAt 8 w ao' l') :
    Calls Tryd.prog 57 #[.slice ao l.length c, .slice ao' l'.length c', .func (.func 58) #[] #[]] w fun e w' => e = .returned (.bool (eqB datQ l l')) ∧ Below w.heap.size w w' := by
  obtain ⟨N, hN⟩ : ∃ N, l.length = N := ⟨_, rfl⟩
  obtain ⟨N', hN'⟩ : ∃ N, l'.length = N := ⟨_, rfl⟩
  have hl := h.1
  have hl' := h'.1
  have HI := Lib.hid h
  have HI' := Lib.hid h'
  clear h h'
  rw [hN] at hl ⊢
  rw [hN'] at hl' ⊢
  go_enter Tryd.func57, Tryd.ntmps57
  by_cases hne : N = N'
  · subst hne
    have hll := Lib.hid (hN.trans hN'.symm)
    go_wp2_with fail
    go_loopw [17] (fun vi wr => ∃ i : Nat, i ≤ N ∧ vi = .int .i64 i ∧ Hid (Below w.heap.size w wr) ∧ Hid (((l.zip l').take i).all datQ = true)) (fun vi _ => N - (intOf vi).toNat)
    case atStart => exact ⟨0, Nat.zero_le _, rfl, Lib.hid (Below.refl _ _), Lib.hid rfl⟩
    case round =>
      obtain ⟨i, hi, rfl, hb, ha⟩ := hrel
      by_cases hlt : i < N
      · obtain ⟨xx, hx⟩ : ∃ x, l[i]? = some x := ⟨_, List.getElem?_eq_getElem (by omega)⟩
        obtain ⟨yy, hy⟩ : ∃ x, l'[i]? = some x := ⟨_, List.getElem?_eq_getElem (by omega)⟩
        obtain ⟨b, o, rfl, hrow⟩ := (HI.out.keep fun _ _ _ h => h.keep (keep_below hb.out)).row hx
        obtain ⟨b', o', rfl, hrow'⟩ := (HI'.out.keep fun _ _ _ h => h.keep (keep_below hb.out)).row hy
        have hn := Lib.hid (eqB_step hx hy hll.out ha.out)
        clear hx hy ha
        obtain ⟨⟨op, x, y, n, ls, body, els⟩, s0⟩ := xx
        obtain ⟨⟨op', x', y', n', ls', body', els'⟩, s0'⟩ := yy
        obtain ⟨⟨⟨d0, d1, d2, d3⟩, ⟨u4, r4, d4, i4⟩, ⟨u5, r5, d5, l5, i5⟩, ⟨u6, r6, d6, l6, i6⟩, _⟩, ⟨d7, _⟩⟩ := hrow
        obtain ⟨⟨⟨d0', d1', d2', d3'⟩, ⟨u4', r4', d4', i4'⟩, ⟨u5', r5', d5', l5', i5'⟩, ⟨u6', r6', d6', l6', i6'⟩, _⟩, ⟨d7', _⟩⟩ := hrow'
        try simp only at d7 d7'
        have o1 := Lib.hid (OneIs.il1 i4 l5 (inv0 i5) l6 (inv0 i6) : OneIs wr ⟨op, x, y, n, ls, body, els⟩ u4 r4 u5 r5 u6 r6)
        have o2 := Lib.hid (OneIs.il1 i4' l5' (inv0 i5') l6' (inv0 i6') : OneIs wr ⟨op', x', y', n', ls', body', els'⟩ u4' r4' u5' r5' u6' r6')
        clear i4 l5 i5 l6 i6 i4' l5' i5' l6' i6'
        have g0 := World.new_ne wr _ d0
        have g0' := World.new_ne wr _ d0'
        replace d0 : wr.cell? ⟨b, o + i * 8, none⟩ = some (.int .i64 op) := d0
        replace d1 : wr.cell? ⟨b, o + i * 8 + 1, none⟩ = some (.int .i64 x) := d1
        replace d2 : wr.cell? ⟨b, o + i * 8 + 2, none⟩ = some (.int .i64 y) := d2
        replace d3 : wr.cell? ⟨b, o + i * 8 + 3, none⟩ = some (.int .i64 n) := d3
        replace d4 : wr.cell? ⟨b, o + i * 8 + 4, none⟩ = some (.slice u4 ls.length r4) := d4
        replace d5 : wr.cell? ⟨b, o + i * 8 + 5, none⟩ = some (.slice u5 body.len r5) := d5
        replace d6 : wr.cell? ⟨b, o + i * 8 + 6, none⟩ = some (.slice u6 els.len r6) := d6
        replace d7 : wr.cell? ⟨b, o + i * 8 + 7, none⟩ = some (.string s0) := d7
        have e0 : (wr.alloc (.cells #[.int .i64 op, .int .i64 x, .int .i64 y, .int .i64 n, .slice u4 ls.length r4, .slice u5 body.len r5, .slice u6 els.len r6, .string s0] 60)).cell? ⟨b', o' + i * 8, none⟩ = some (.int .i64 op') := keep_below ((Below.refl _ _).alloc (Nat.le_refl _) _) _ _ d0'
        have e1 : (wr.alloc (.cells #[.int .i64 op, .int .i64 x, .int .i64 y, .int .i64 n, .slice u4 ls.length r4, .slice u5 body.len r5, .slice u6 els.len r6, .string s0] 60)).cell? ⟨b', o' + i * 8 + 1, none⟩ = some (.int .i64 x') := keep_below ((Below.refl _ _).alloc (Nat.le_refl _) _) _ _ d1'
        have e2 : (wr.alloc (.cells #[.int .i64 op, .int .i64 x, .int .i64 y, .int .i64 n, .slice u4 ls.length r4, .slice u5 body.len r5, .slice u6 els.len r6, .string s0] 60)).cell? ⟨b', o' + i * 8 + 2, none⟩ = some (.int .i64 y') := keep_below ((Below.refl _ _).alloc (Nat.le_refl _) _) _ _ d2'
        have e3 : (wr.alloc (.cells #[.int .i64 op, .int .i64 x, .int .i64 y, .int .i64 n, .slice u4 ls.length r4, .slice u5 body.len r5, .slice u6 els.len r6, .string s0] 60)).cell? ⟨b', o' + i * 8 + 3, none⟩ = some (.int .i64 n') := keep_below ((Below.refl _ _).alloc (Nat.le_refl _) _) _ _ d3'
        have e4 : (wr.alloc (.cells #[.int .i64 op, .int .i64 x, .int .i64 y, .int .i64 n, .slice u4 ls.length r4, .slice u5 body.len r5, .slice u6 els.len r6, .string s0] 60)).cell? ⟨b', o' + i * 8 + 4, none⟩ = some (.slice u4' ls'.length r4') := keep_below ((Below.refl _ _).alloc (Nat.le_refl _) _) _ _ d4'
        have e5 : (wr.alloc (.cells #[.int .i64 op, .int .i64 x, .int .i64 y, .int .i64 n, .slice u4 ls.length r4, .slice u5 body.len r5, .slice u6 els.len r6, .string s0] 60)).cell? ⟨b', o' + i * 8 + 5, none⟩ = some (.slice u5' body'.len r5') := keep_below ((Below.refl _ _).alloc (Nat.le_refl _) _) _ _ d5'
        have e6 : (wr.alloc (.cells #[.int .i64 op, .int .i64 x, .int .i64 y, .int .i64 n, .slice u4 ls.length r4, .slice u5 body.len r5, .slice u6 els.len r6, .string s0] 60)).cell? ⟨b', o' + i * 8 + 6, none⟩ = some (.slice u6' els'.len r6') := keep_below ((Below.refl _ _).alloc (Nat.le_refl _) _) _ _ d6'
        have e7 : (wr.alloc (.cells #[.int .i64 op, .int .i64 x, .int .i64 y, .int .i64 n, .slice u4 ls.length r4, .slice u5 body.len r5, .slice u6 els.len r6, .string s0] 60)).cell? ⟨b', o' + i * 8 + 7, none⟩ = some (.string s0') := keep_below ((Below.refl _ _).alloc (Nat.le_refl _) _) _ _ d7'
        clear d0' d1' d2' d3' d4' d5' d6' d7'
        have hal : ∀ v v', Hid (Below wr.heap.size wr ((wr.alloc v).alloc v')) := fun v v' => Lib.hid (((Below.refl _ _).alloc (Nat.le_refl _) _).alloc (by simp) _)
        go_wp2_with fail
        refine (clo_datas op x y n ls body els s0 u4 u5 u6 r4 r5 r6 op' x' y' n' ls' body' els' s0' u4' u5' u6' r4' r5' r6' _ (o1.out.keep (keep_below (hal _ _).out)) (o2.out.keep (keep_below (hal _ _).out))).mono ?_
        rintro e w2 ⟨rfl, b2⟩
        have hbx := Lib.hid ((hal (.cells #[.int .i64 op, .int .i64 x, .int .i64 y, .int .i64 n, .slice u4 ls.length r4, .slice u5 body.len r5, .slice u6 els.len r6, .string s0] 60) (.cells #[.int .i64 op', .int .i64 x', .int .i64 y', .int .i64 n', .slice u4' ls'.length r4', .slice u5' body'.len r5', .slice u6' els'.len r6', .string s0'] 60)).out.trans (b2.mono (hal _ _).out.size))
        have hB := Lib.hid (hb.out.trans (hbx.out.mono hb.out.size))
        clear b2 hal g0 g0' d0 d1 d2 d3 d4 d5 d6 d7 e0 e1 e2 e3 e4 e5 e6 e7
        cases hX : datQ (((⟨op, x, y, n, ls, body, els⟩ : One), s0), ((⟨op', x', y', n', ls', body', els'⟩ : One), s0'))
        · have hv : eqB datQ l l' = false := hn.out.2 hX
          clear hn
          go_wp2
          go_ret
          exact ⟨by rw [hv]; rfl, hB.out⟩
        · have hv := Lib.hid (hn.out.1 hX)
          clear hn
          go_wp2
          exact ⟨⟨i + 1, by omega, by simp, hB, hv⟩, by simp [intOf]; omega⟩
      · have hiN : i = N := by omega
        have hv : eqB datQ l l' = true := eqB_end hll.out (by rw [hN, ← hiN]; exact ha.out)
        clear ha
        go_wp2
        go_ret
        exact ⟨by rw [hv]; rfl, hb.out⟩
  · have hv : eqB datQ l l' = false := eqB_len (fun e => hne (by rw [← hN, ← hN', e]))
    have q : ((N : Int) != (N' : Int)) = true := by simp; omega
    go_wp2
    go_ret
    exact ⟨by rw [hv]; rfl, Below.refl _ _⟩
end Go.Proofs.YtofleejokkdklaaDoor
