/- ValidDead: the walk. -/
import Derived.Test.YtacohbllbjgdgaaDoorWx
import Derived.Test.YtacohbllbjgdgaaDoorWm
import Derived.Test.YtacohbllbjgdgaaDoorDd
import Derived.Lib.MinMax
namespace Go.Proofs.YtacohbllbjgdgaaDoor
open Go.RowKit
set_option linter.unusedVariables false
set_option linter.unusedSimpArgs false

theorem add_cell (g j : Nat) : (⟨g, 0, none⟩ : Addr).add j = ⟨g, j, none⟩ := by unfold Addr.add; split <;> simp_all
def BoolAt (w : World) (b o : Nat) (c : Bool) : Prop := w.cell? ⟨b, o, none⟩ = some (.bool c)
/-- The instructions as rows. -/
def tsD : List Bool → Nat → List (Int × Int × Int)
  | [], _ => []
  | true :: r, i => (26, 0, 0) :: tsD r (i + 1)
  | false :: r, i => (65, 0, (i : Int)) :: tsD r (i + 1)
def tE (t : Int × Int × Int) : ERec := cE t.1 t.2.1 t.2.2
theorem tsD_il : ∀ (ds : List Bool) (i : Nat), ilOf ((tsD ds i).map tE) .nil = dIl ds i
  | [], _ => rfl
  | true :: r, i => by
    show Il.cons 26 0 0 0 [] .nil .nil (ilOf ((tsD r (i + 1)).map tE) .nil) = _
    rw [tsD_il r (i + 1)]
    rfl
  | false :: r, i => by
    show Il.cons 65 0 0 (i : Int) [] .nil .nil (ilOf ((tsD r (i + 1)).map tE) .nil) = _
    rw [tsD_il r (i + 1)]
    rfl
theorem tsD_len : ∀ (ds : List Bool) (i : Nat), (tsD ds i).length = ds.length
  | [], _ => rfl
  | true :: r, i => by show (tsD r (i + 1)).length + 1 = _; rw [tsD_len r (i + 1)]; rfl
  | false :: r, i => by show (tsD r (i + 1)).length + 1 = _; rw [tsD_len r (i + 1)]; rfl
theorem tsD_snoc (b : Bool) : ∀ (ds : List Bool) (i : Nat), tsD (ds ++ [b]) i = tsD ds i ++ [if b then (26, 0, 0) else (65, 0, ((i + ds.length : Nat) : Int))]
  | [], i => by cases b <;> rfl
  | c :: r, i => by
    have h := tsD_snoc b r (i + 1)
    have e : i + 1 + r.length = i + (c :: r).length := by simp; omega
    rw [e] at h
    cases c
    · show (65, 0, (i : Int)) :: tsD (r ++ [b]) (i + 1) = _
      rw [h]
      rfl
    · show (26, 0, 0) :: tsD (r ++ [b]) (i + 1) = _
      rw [h]
      rfl
/-- The row of what was made, behind so many of the inputs. -/
def rowD (ds : List Bool) (i : Nat) : List ERec := tE (0, 0, 0) :: (tsD (ds.take i) 0).map tE
theorem rowD_succ {ds : List Bool} {i : Nat} {b : Bool} (h : ds[i]? = some b) : rowD ds (i + 1) = rowD ds i ++ [tE (if b then (26, 0, 0) else (65, 0, (i : Int)))] := by
  have hi := (List.getElem?_eq_some_iff.1 h).1
  unfold rowD
  rw [List.take_add_one, h]
  show tE (0, 0, 0) :: (tsD (ds.take i ++ [b]) 0).map tE = _
  rw [tsD_snoc, List.length_take, show 0 + min i ds.length = i by omega, List.map_append]
  rfl
theorem rowD_len {ds : List Bool} {i : Nat} (h : i ≤ ds.length) : (rowD ds i).length = i + 1 := by
  unfold rowD
  rw [List.length_cons, List.length_map, tsD_len, List.length_take]
  omega
theorem rowD_il (ds : List Bool) (i : Nat) : ilOf (rowD ds i) .nil = dAll (ds.take i) := by
  show Il.cons 0 0 0 0 [] .nil .nil (ilOf ((tsD (ds.take i) 0).map tE) .nil) = _
  rw [tsD_il]
  rfl
theorem rowD_ok (w : World) (ds : List Bool) (i : Nat) : ∀ t ∈ rowD ds i, EOk (fun _ => True) w t := by
  have : ∀ t ∈ rowD ds i, ∃ q, t = tE q := by
    intro t ht
    unfold rowD at ht
    rcases List.mem_cons.1 ht with rfl | ht
    · exact ⟨_, rfl⟩
    · obtain ⟨q, _, rfl⟩ := List.mem_map.1 ht
      exact ⟨q, rfl⟩
  intro t ht
  obtain ⟨q, rfl⟩ := this t ht
  exact cE_ok _ _ _ _ _
theorem dead_left {ds : List Bool} {i : Nat} {b : Bool} (h : ds[i]? = some b) : dLeft (ds.take (i + 1)) 0 = (if b then dLeft (ds.take i) 0 - 1 else dLeft (ds.take i) 0 + 1) := dLeft_take_succ ds 0 b i h
theorem dLeft_le : ∀ (ds : List Bool) (k : Nat), dLeft ds k ≤ k + ds.length
  | [], k => Nat.le_refl _
  | true :: r, k => by have := dLeft_le r (k - 1); show dLeft r (k - 1) ≤ _; simp; omega
  | false :: r, k => by have := dLeft_le r (k + 1); show dLeft r (k + 1) ≤ _; simp; omega
theorem dead_md {W : World} {q g cap : Nat} {D : List Bool} {rs : List Int} {ra : Option Addr} {rc : Nat} (c0 : W.cell? ⟨q, 0, none⟩ = some (.slice none 0 0)) (c1 : W.cell? ⟨q, 1, none⟩ = some (.slice ra rs.length rc)) (hr : IntsIn W ra rs)
    (d0 : W.cell? ⟨q + 1, 0, none⟩ = some (.int .i64 0)) (d1 : W.cell? ⟨q + 1, 1, none⟩ = some (.slice none 0 0)) (d2 : W.cell? ⟨q + 1, 2, none⟩ = some (.slice (some ⟨g, 0, none⟩) (dAll D).len cap)) (hl : (dAll D).len ≤ 9223372036854775807) (hi : IlIn W (some ⟨g, 0, none⟩) 0 (dAll D)) :
    MdA W (dMd rs D) ⟨some ⟨q, 0, none⟩, 1, none, 0, some ⟨q + 1, 0, none⟩, 1, none, 0, none, 0, none, 0, none, 0, none, 0, none, 0, none, 0⟩ :=
  md_TF (rows_one ⟨⟨none, 0, c0, ints_nil _⟩, ⟨ra, rc, c1, hr⟩⟩) (rows_one ⟨d0, ⟨none, 0, d1, ints_nil _⟩, ⟨_, cap, d2, hl, hi⟩⟩)
theorem dIl_len : ∀ (ds : List Bool) (i : Nat), (dIl ds i).len = ds.length
  | [], _ => rfl
  | true :: r, i => by show (dIl r (i + 1)).len + 1 = _; rw [dIl_len r (i + 1)]; rfl
  | false :: r, i => by show (dIl r (i + 1)).len + 1 = _; rw [dIl_len r (i + 1)]; rfl
set_option maxRecDepth 100000 in
set_option maxHeartbeats 8000000 in
theorem dead_any {w : World} {ds : List Bool} {ao : Option Addr} {c : Nat} {t : Int} (h : RowsIn BoolAt 1 w ao ds) (hT : TabU w) :
    Calls Tryd.prog 3 #[.int .i64 t, .slice ao ds.length c] w fun e w' => e = .returned (.bool true) ∧ Below w.heap.size w w' := by
  obtain ⟨N, hN⟩ : ∃ N, ds.length = N := ⟨_, rfl⟩
  have hNm := h.1
  rw [hN] at hNm ⊢
  obtain ⟨w1, hw1⟩ : ∃ w1, w1 = w.alloc (.cells #[.int .i64 0, .int .i64 0, .int .i64 0, .int .i64 0, .slice none 0 0, .slice none 0 0, .slice none 0 0] 26) := ⟨_, rfl⟩
  obtain ⟨B, hB⟩ : ∃ B, B = w.heap.size := ⟨_, rfl⟩
  have hb1 : Hid (Below w.heap.size w w1) := Lib.hid (by rw [hw1]; exact Below.of_alloc _ _)
  have hown1 : Hid (w1.ownsRow B 26 7 (.slice (some ⟨B, 0, none⟩) 1 1) 1 ((rowD ds 0).flatMap eV)) := Lib.hid ⟨by simp [rowD, tsD, eV], .inr ⟨B, 1, #[.int .i64 0, .int .i64 0, .int .i64 0, .int .i64 0, .slice none 0 0, .slice none 0 0, .slice none 0 0], rfl, Nat.le_refl _, by rw [hw1, hB]; exact heap_alloc_new _ _, Nat.le_refl _, by unfold maxLen; omega, rfl, rfl⟩⟩
  obtain ⟨ie, hie, hze, hse, hbe⟩ := info_parts info45
  replace hB := Lib.hid hB
  replace h := Lib.hid h
  replace hT := Lib.hid hT
  go_enter Tryd.func3, Tryd.ntmps3
  go_upto_region 2 with (fail)
  rw [← hw1, ← hB.out]
  clear hw1
  go_wp2_with fail
  go_loopw [5, 6, 7] (fun vl vn vi wr => ∃ i : Nat, vi = .int .i64 i ∧ i ≤ N ∧ i ≤ 200 ∧ vn = .int .i64 (dLeft (ds.take i) 0 : Nat) ∧ Hid (Below w.heap.size w wr) ∧ Hid (wr.ownsRow B 26 7 vl (i + 1) ((rowD ds i).flatMap eV))) (fun _ _ vi _ => N - (intOf vi).toNat)
  case atStart => exact ⟨0, rfl, by omega, by omega, rfl, hb1, hown1⟩
  case round =>
    clear hown1 hb1
    obtain ⟨i, rfl, hi, hi2, rfl, hb, hown⟩ := hrel
    obtain ⟨n, hn⟩ : ∃ n, dLeft (ds.take i) 0 = n := ⟨_, rfl⟩
    have hnl : n ≤ 200 := by have := dLeft_le (ds.take i) 0; rw [List.length_take] at this; omega
    rw [hn]
    by_cases hlt : i < N ∧ i < 200
    · obtain ⟨b, hbi⟩ : ∃ b, ds[i]? = some b := ⟨_, List.getElem?_eq_getElem (by omega)⟩
      obtain ⟨bb, oo, rfl, hcell⟩ : ∃ bb oo, ao = some ⟨bb, oo, none⟩ ∧ w.cell? ⟨bb, oo + i, none⟩ = some (.bool b) := by
        rcases h.out.2 with h0 | ⟨bb, oo, e, hr⟩
        · rw [h0] at hbi; cases hbi
        · refine ⟨bb, oo, e, ?_⟩
          have := hr i b hbi
          rw [Nat.mul_one] at this
          exact this
      have hc := keep_below hb.out _ _ hcell
      have h1 : (i : Int) < (N : Int) := by omega
      have h2 : (i : Int) < 200 := by omega
      have hrow := rowD_succ hbi
      have hleft := dead_left hbi
      rw [hn] at hleft
      have hlw := hb.out.size
      replace hbi := Lib.hid hbi
      replace hN := Lib.hid hN
      cases b
      case' false =>
        obtain ⟨E, hE⟩ : ∃ E, E = tE (65, 0, (i : Int)) := ⟨_, rfl⟩
        replace hleft : dLeft (ds.take (i + 1)) 0 = n + 1 := hleft
      case' true =>
        obtain ⟨E, hE⟩ : ∃ E, E = tE (26, 0, 0) := ⟨_, rfl⟩
        replace hleft : dLeft (ds.take (i + 1)) 0 = n - 1 := hleft
        have hmax : max (0 : Int) ((n : Int) - 1) = ((n - 1 : Nat) : Int) := by omega
      all_goals
        replace hrow : rowD ds (i + 1) = rowD ds i ++ [E] := by rw [hE]; exact hrow
        replace hrow := Lib.hid hrow
        replace hleft := Lib.hid hleft
        replace hn := Lib.hid hn
        have hev : Hid (eV E = eV E) := Lib.hid rfl
        rw [hE] at hev
        replace hE := Lib.hid hE
      case' false =>
        go_wp2_with (first | (
          at_builtin
          refine wpList_append_lies _ rfl _ _ _ rfl B 26 ie _ 7 104 Tryd.underlying24 hie hze hse hbe rfl (by omega) u5 (i + 1) ((rowD ds i).flatMap eV) (by rfl) (hown.out.alloc _)
            ⟨wr.heap.size, 0, none⟩ 1 1 [.int .i64 65, .int .i64 0, .int .i64 0, .int .i64 (i : Int), .slice none 0 0, .slice none 0 0, .slice none 0 0] (by rfl) (by rfl)
            (World.news_of_block (cs := #[.int .i64 65, .int .i64 0, .int .i64 0, .int .i64 (i : Int), .slice none 0 0, .slice none 0 0, .slice none 0 0]) (t := 26) (fr := (0, 0)) (heap_alloc_new _ _)) (by intro u hu; simp only [List.mem_cons, List.mem_nil_iff, or_false] at hu; rcases hu with rfl | rfl | rfl | rfl | rfl | rfl | rfl <;> rfl)
            (by omega) (by unfold maxLen; omega) (by omega) (by have := hB.out; simp; omega) (wr.heap.size + 1) (by simp) ?_
          intro g cap w1 hown1 hgrow hat hlt1))
      case' true =>
        go_wp2_with (first | (
          at_builtin
          refine wpList_append_lies _ rfl _ _ _ rfl B 26 ie _ 7 104 Tryd.underlying24 hie hze hse hbe rfl (by omega) u5 (i + 1) ((rowD ds i).flatMap eV) (by rfl) (hown.out.alloc _)
            ⟨wr.heap.size, 0, none⟩ 1 1 [.int .i64 26, .int .i64 0, .int .i64 0, .int .i64 0, .slice none 0 0, .slice none 0 0, .slice none 0 0] (by rfl) (by rfl)
            (World.news_of_block (cs := #[.int .i64 26, .int .i64 0, .int .i64 0, .int .i64 0, .slice none 0 0, .slice none 0 0, .slice none 0 0]) (t := 26) (fr := (0, 0)) (heap_alloc_new _ _)) (by intro u hu; simp only [List.mem_cons, List.mem_nil_iff, or_false] at hu; rcases hu with rfl | rfl | rfl | rfl | rfl | rfl | rfl <;> rfl)
            (by omega) (by unfold maxLen; omega) (by omega) (by have := hB.out; simp; omega) (wr.heap.size + 1) (by simp) ?_
          intro g cap w1 hown1 hgrow hat hlt1))
      case' true =>
        have hal : Below wr.heap.size wr (wr.alloc (.cells #[.int .i64 26, .int .i64 0, .int .i64 0, .int .i64 0, .slice none 0 0, .slice none 0 0, .slice none 0 0] 26)) := Below.of_alloc _ _
      case' false =>
        have hal : Below wr.heap.size wr (wr.alloc (.cells #[.int .i64 65, .int .i64 0, .int .i64 0, .int .i64 (i : Int), .slice none 0 0, .slice none 0 0, .slice none 0 0] 26)) := Below.of_alloc _ _
      all_goals
        have hbf : Hid (Below w.heap.size w w1) := Lib.hid ((hb.out.trans (hal.mono hlw)).grown hgrow (by have := hal.size; omega) (fun k e => by have := (hown.out.lt k e).1; have := hB.out; omega))
        have hown2 : Hid (w1.ownsRow B 26 7 (.slice (some ⟨g, 0, none⟩) (i + 1 + 1) cap) (i + 1 + 1) ((rowD ds (i + 1)).flatMap eV)) := Lib.hid (by rw [hrow.out, List.flatMap_append, hE.out]; exact hown1)
        clear hown1 hgrow hat hlt1 hal hown hb hc hcell hev
        go_wp2
        exact ⟨⟨i + 1, by simp, by omega, by omega, by rw [hleft.out]; (try simp), hbf, hown2⟩, by simp [intOf]; omega⟩
    · obtain ⟨D, hD⟩ : ∃ D, D = ds.take i := ⟨_, rfl⟩
      have hDs : ds.take 200 = D := by
        rw [hD]
        by_cases h3 : i = 200
        · rw [h3]
        · rw [List.take_of_length_le (by omega), List.take_of_length_le (by omega)]
      have hDl : D.length ≤ 200 := by rw [hD, List.length_take]; omega
      have hv : ∃ g cap, u5 = .slice (some ⟨g, 0, none⟩) (dAll D).len cap ∧ IlIn wr (some ⟨g, 0, none⟩) 0 (dAll D) := by
        have hln : (dAll D).len = i + 1 := by rw [hD, ← rowD_il, ilOf_len, rowD_len (by omega)]; rfl
        rcases hown.out.2 with ⟨_, h2⟩ | ⟨g, cap, cur, h1, h2, h3, _⟩
        · omega
        · refine ⟨g, cap, by rw [h1, hln], .inr ⟨g, 0, rfl, ?_⟩⟩
          rw [hD, ← rowD_il]
          refine IlR.at (R := fun _ => True) _ _ _ (row_il (rowD ds i) 0 (fun j u hj => ?_) (rowD_ok _ _ _))
          have := hown.out.cells (g := g) (by rw [h1]; rfl) j u hj
          rw [add_cell] at this
          rw [Nat.zero_add]
          exact this
      obtain ⟨g, cap, rfl, hil⟩ := hv
      have hex : ¬ (i : Int) < (N : Int) ∨ ((i : Int) < (N : Int) ∧ ¬ (i : Int) < 200) := by omega
      obtain ⟨K, hK⟩ : ∃ K, K = modN t 3 := ⟨_, rfl⟩
      have hK3 := modN_lt t (n := 3) (by decide)
      have hmod : Hid (∀ w, Calls Tryd.prog 4 #[.int .i64 t, .int .i64 3] w fun e w' => e = .returned (.int .i64 (K : Int)) ∧ w' = w) := Lib.hid (by rw [hK]; exact fun w => mod_any t 3 (by decide) (by decide) w)
      rw [← hK] at hK3
      replace hK := Lib.hid hK
      replace hDs := Lib.hid hDs
      replace hD := Lib.hid hD
      replace hDl := Lib.hid hDl
      replace hil := Lib.hid hil
      replace hn := Lib.hid hn
      replace hN := Lib.hid hN
      clear hown
      rcases hex with h1 | ⟨h1, h2⟩
      all_goals
        obtain ⟨W, hW⟩ : ∃ W, W = ((wr.alloc (.cells #[.slice none 0 0, .slice none 0 0] 28)).alloc (.cells #[.int .i64 0, .slice none 0 0, .slice (some ⟨g, 0, none⟩) (dAll D).len cap] 31)).alloc (.cells #[.slice (some ⟨wr.heap.size, 0, none⟩) 1 1, .slice none 0 0, .slice (some ⟨wr.heap.size + 1, 0, none⟩) 1 1, .slice none 0 0, .slice none 0 0, .slice none 0 0, .slice none 0 0, .slice none 0 0, .slice none 0 0, .slice none 0 0] 40) := ⟨_, rfl⟩
        obtain ⟨q, hq⟩ : ∃ q, q = wr.heap.size := ⟨_, rfl⟩
        have hbW : Below q wr W := by rw [hW, hq]; exact (((Below.refl _ _).alloc (Nat.le_refl _) _).alloc (by simp) _).alloc (by simp; omega) _
        have hs1 := size_of hq.symm (.cells #[.slice none 0 0, .slice none 0 0] 28)
        have hs2 := size_of hs1 (.cells #[.int .i64 0, .slice none 0 0, .slice (some ⟨g, 0, none⟩) (dAll D).len cap] 31)
        rw [← hq] at hW
        have k2 := new_at hs2 (.cells #[.slice (some ⟨q, 0, none⟩) 1 1, .slice none 0 0, .slice (some ⟨q + 1, 0, none⟩) 1 1, .slice none 0 0, .slice none 0 0, .slice none 0 0, .slice none 0 0, .slice none 0 0, .slice none 0 0, .slice none 0 0] 40)
        have k1 := old_at hs2 (by omega) (o := .cells #[.slice (some ⟨q, 0, none⟩) 1 1, .slice none 0 0, .slice (some ⟨q + 1, 0, none⟩) 1 1, .slice none 0 0, .slice none 0 0, .slice none 0 0, .slice none 0 0, .slice none 0 0, .slice none 0 0, .slice none 0 0] 40) (new_at hs1 (.cells #[.int .i64 0, .slice none 0 0, .slice (some ⟨g, 0, none⟩) (dAll D).len cap] 31))
        have k0 := old_at hs2 (by omega) (o := .cells #[.slice (some ⟨q, 0, none⟩) 1 1, .slice none 0 0, .slice (some ⟨q + 1, 0, none⟩) 1 1, .slice none 0 0, .slice none 0 0, .slice none 0 0, .slice none 0 0, .slice none 0 0, .slice none 0 0, .slice none 0 0] 40) (old_at hs1 (by omega) (o := .cells #[.int .i64 0, .slice none 0 0, .slice (some ⟨g, 0, none⟩) (dAll D).len cap] 31) (new_at hq.symm (.cells #[.slice none 0 0, .slice none 0 0] 28)))
        rw [← hW] at k0 k1 k2
        go_upto_region 13 with (fail)
        rw [← hq, ← hW]
        have c0 : W.cell? ⟨q, 0, none⟩ = some (.slice none 0 0) := by rw [cell_of_row W _ _ _ _ _ k0]; rfl
        have c1 : W.cell? ⟨q, 1, none⟩ = some (.slice none 0 0) := by rw [cell_of_row W _ _ _ _ _ k0]; rfl
        have d0 : W.cell? ⟨q + 1, 0, none⟩ = some (.int .i64 0) := by rw [cell_of_row W _ _ _ _ _ k1]; rfl
        have d1 : W.cell? ⟨q + 1, 1, none⟩ = some (.slice none 0 0) := by rw [cell_of_row W _ _ _ _ _ k1]; rfl
        have d2 : W.cell? ⟨q + 1, 2, none⟩ = some (.slice (some ⟨g, 0, none⟩) (dAll D).len cap) := by rw [cell_of_row W _ _ _ _ _ k1]; rfl
        have e0 : W.cell? ⟨q + 1 + 1, 0, none⟩ = some (.slice (some ⟨q, 0, none⟩) 1 1) := by rw [cell_of_row W _ _ _ _ _ k2]; rfl
        have ez : ∀ j v, (#[.slice (some ⟨q, 0, none⟩) 1 1, .slice none 0 0, .slice (some ⟨q + 1, 0, none⟩) 1 1, .slice none 0 0, .slice none 0 0, .slice none 0 0, .slice none 0 0, .slice none 0 0, .slice none 0 0, .slice none 0 0] : Array Value)[j]? = some v → W.cell? ⟨q + 1 + 1, j, none⟩ = some v := fun j v e => by rw [cell_of_row W _ _ _ _ _ k2]; exact e
        have fz : W.frozen? ⟨q, 1, none⟩ = false := frozen_of_row W q 1 _ _ k0
        have hkW : Hid (∀ p v, wr.cell? p = some v → W.cell? p = some v) := Lib.hid (keep_below (hbW.mono (show wr.heap.size ≤ q by omega) |>.mono (Nat.le_refl _)))
        have hiW := hil.out.keep hkW.out
        have hlen : (dAll D).len ≤ 9223372036854775807 := by have := hDl.out; show (dIl D 0).len + 1 ≤ _; rw [dIl_len]; omega
        have hsW : W.heap.size = q + 1 + 1 + 1 := by rw [hW]; exact size_of hs2 _
        have hbw : Hid (Below w.heap.size w W) := Lib.hid (hb.out.trans (hbW.mono (by have := hb.out.size; omega)))
        have hlw : w.heap.size ≤ q := by have := hb.out.size; omega
        clear k0 k1 k2 hW hbW hs1 hs2 hb
        replace hsW := Lib.hid hsW
        replace hiW := Lib.hid hiW
        replace hlen := Lib.hid hlen
        replace hq := Lib.hid hq
        replace hi := Lib.hid hi
        replace hi2 := Lib.hid hi2
        go_wp2_with fail
        refine (hmod.out _).mono ?_
        rintro e wm ⟨rfl, rfl⟩
        clear hmod
        have hcs : (K = 0 ∧ n = 0) ∨ (K = 0 ∧ 0 < n) ∨ (K = 1 ∧ n ≤ 1) ∨ (K = 1 ∧ 1 < n) ∨ (K = 2 ∧ n = 0) ∨ (K = 2 ∧ 0 < n) := by omega
        obtain ⟨F, hF⟩ : ∃ F, F = dBad (if K = 0 then [] else if K = 1 then [127] else [126]) n := ⟨_, rfl⟩
        have hbW2 : ∀ x : Int, Below w.heap.size w ((wm.alloc (.cells #[.int .i64 x] 3)).setCell ⟨q, 1, none⟩ (.slice (some ⟨wm.heap.size, 0, none⟩) 1 1)) := fun x => (hbw.out.alloc (hbw.out.size) _).setCell (p := ⟨q, 1, none⟩) hlw _
        have key : ∀ x : Int, (((wm.alloc (.cells #[.int .i64 x] 3)).setCell ⟨q, 1, none⟩ (.slice (some ⟨wm.heap.size, 0, none⟩) 1 1)).cell? ⟨q, 1, none⟩ = some (.slice (some ⟨wm.heap.size, 0, none⟩) 1 1)) ∧
            (∀ b j v, (b ≠ q ∨ j ≠ 1) → wm.cell? ⟨b, j, none⟩ = some v → ((wm.alloc (.cells #[.int .i64 x] 3)).setCell ⟨q, 1, none⟩ (.slice (some ⟨wm.heap.size, 0, none⟩) 1 1)).cell? ⟨b, j, none⟩ = some v) ∧
            ((wm.alloc (.cells #[.int .i64 x] 3)).setCell ⟨q, 1, none⟩ (.slice (some ⟨wm.heap.size, 0, none⟩) 1 1)).cell? ⟨wm.heap.size, 0, none⟩ = some (.int .i64 x) := fun x => by
          have kb := keep_below (Below.of_alloc wm (.cells #[.int .i64 x] 3))
          refine ⟨so_same (kb _ _ c1), fun b j v hne hv => so_other (kb _ _ hv) ?_, so_other ?_ (.inl (by show q ≠ wm.heap.size; rw [hsW.out]; omega))⟩
          · rcases hne with h | h
            · exact .inl (fun e => h e.symm)
            · exact .inr (fun e => h e.symm)
          · have this : (wm.alloc (.cells #[.int .i64 x] 3)).cell? ⟨wm.heap.size, 0, none⟩ = some (.int .i64 x) := (World.cell?_alloc_at _ _ _ 0 rfl).trans rfl
            exact this
        have hwh : ∀ rs, rs = [] ∨ rs = [127] ∨ rs = [126] → (whereV (dMd rs D)).2 = dBad rs n := fun rs hr => by rw [dMd_where D rs hr hDl.out, hD.out, hn.out]
        clear hF F
        replace hcs := Lib.hid hcs
        obtain ⟨rs, hrs⟩ : ∃ rs : List Int, rs = if K = 0 then [] else if K = 1 then [127] else [126] := ⟨_, rfl⟩
        have hz : ∀ x : Int, Hid (∀ j v, (#[.slice (some ⟨q, 0, none⟩) 1 1, .slice none 0 0, .slice (some ⟨q + 1, 0, none⟩) 1 1, .slice none 0 0, .slice none 0 0, .slice none 0 0, .slice none 0 0, .slice none 0 0, .slice none 0 0, .slice none 0 0] : Array Value)[j]? = some v → ((wm.alloc (.cells #[.int .i64 x] 3)).setCell ⟨q, 1, none⟩ (.slice (some ⟨wm.heap.size, 0, none⟩) 1 1)).cell? ⟨q + 1 + 1, j, none⟩ = some v) := fun x => Lib.hid fun j v e => (key x).2.1 _ _ _ (.inl (by omega)) (ez j v e)
        have hmx : ∀ x : Int, Hid (MdA ((wm.alloc (.cells #[.int .i64 x] 3)).setCell ⟨q, 1, none⟩ (.slice (some ⟨wm.heap.size, 0, none⟩) 1 1)) (dMd [x] D) ⟨some ⟨q, 0, none⟩, 1, none, 0, some ⟨q + 1, 0, none⟩, 1, none, 0, none, 0, none, 0, none, 0, none, 0, none, 0, none, 0⟩) := fun x => Lib.hid (by
          obtain ⟨k1, k2, k3⟩ := key x
          refine dead_md (ra := some ⟨wm.heap.size, 0, none⟩) (rc := 1) (k2 _ _ _ (.inr (by decide)) c0) k1 ⟨by simp, .inr ⟨_, 0, rfl, fun i y hy => ?_⟩⟩ (k2 _ _ _ (.inl (by omega)) d0) (k2 _ _ _ (.inl (by omega)) d1) (k2 _ _ _ (.inl (by omega)) d2) hlen.out ?_
          · rcases i with _ | i
            · cases hy; exact k3
            · simp at hy
          · refine hil.out.keep fun p v hp => ?_
            have hlt := World.block_lt_of_cell? _ _ hp
            obtain ⟨pb, po, ps⟩ := p
            have h2 : wm.cell? ⟨pb, po, ps⟩ = some v := hkW.out _ _ hp
            have hps : ps = none := by simpa using World.cell?_spot hp
            subst hps
            exact k2 _ _ _ (.inl (by have := hq.out; show pb ≠ q; simp at hlt; omega)) h2)
        replace hwh := Lib.hid hwh
        replace hbW2 := Lib.hid hbW2
        replace key := Lib.hid key
        have kb := fun x : Int => keep_below (Below.of_alloc wm (.cells #[.int .i64 x] 3))
        have c1a := kb 127 _ _ c1
        have c1b := kb 126 _ _ c1
        have fza : (wm.alloc (.cells #[.int .i64 127] 3)).frozen? ⟨q, 1, none⟩ = false := ((Below.of_alloc wm _).frozen (p := ⟨q, 1, none⟩) (by rw [hsW.out]; show q < _; omega)).trans fz
        have fzb : (wm.alloc (.cells #[.int .i64 126] 3)).frozen? ⟨q, 1, none⟩ = false := ((Below.of_alloc wm _).frozen (p := ⟨q, 1, none⟩) (by rw [hsW.out]; show q < _; omega)).trans fz
        have hM0 : Hid (MdA wm (dMd [] D) ⟨some ⟨q, 0, none⟩, 1, none, 0, some ⟨q + 1, 0, none⟩, 1, none, 0, none, 0, none, 0, none, 0, none, 0, none, 0, none, 0⟩) := Lib.hid (dead_md (rs := []) c0 c1 (ints_nil _) d0 d1 d2 hlen.out hiW.out)
        have hz0 : Hid (∀ j v, (#[.slice (some ⟨q, 0, none⟩) 1 1, .slice none 0 0, .slice (some ⟨q + 1, 0, none⟩) 1 1, .slice none 0 0, .slice none 0 0, .slice none 0 0, .slice none 0 0, .slice none 0 0, .slice none 0 0, .slice none 0 0] : Array Value)[j]? = some v → wm.cell? ⟨q + 1 + 1, j, none⟩ = some v) := Lib.hid ez
        clear kb ez
        rcases hcs.out with ⟨rfl, h5⟩ | ⟨rfl, h5⟩ | ⟨rfl, h5⟩ | ⟨rfl, h5⟩ | ⟨rfl, h5⟩ | ⟨rfl, h5⟩
        all_goals
          try have h6 : ¬ (n : Int) > 0 := by omega
          try have h6 : (n : Int) > 0 := by omega
          try have h7 : ¬ (n : Int) > 1 := by omega
          try have h7 : (n : Int) > 1 := by omega
          replace h5 := Lib.hid h5
          go_upto_region 24 with (fail)
        iterate 2
          obtain ⟨W2, hW2⟩ : ∃ W2, W2 = wm := ⟨_, rfl⟩
          have hM := hM0
          have hbe := hbw
          have hbx := hz0
          have hva := hwh.out [] (.inl rfl)
          rotate_left
        iterate 2
          obtain ⟨W2, hW2⟩ : ∃ W2, W2 = (wm.alloc (.cells #[.int .i64 127] 3)).setCell ⟨q, 1, none⟩ (.slice (some ⟨wm.heap.size, 0, none⟩) 1 1) := ⟨_, rfl⟩
          have hM := hmx 127
          have hbe := Lib.hid (hbW2.out 127)
          have hbx := hz 127
          have hva := hwh.out [127] (.inr (.inl rfl))
          rotate_left
        iterate 2
          obtain ⟨W2, hW2⟩ : ∃ W2, W2 = (wm.alloc (.cells #[.int .i64 126] 3)).setCell ⟨q, 1, none⟩ (.slice (some ⟨wm.heap.size, 0, none⟩) 1 1) := ⟨_, rfl⟩
          have hM := hmx 126
          have hbe := Lib.hid (hbW2.out 126)
          have hbx := hz 126
          have hva := hwh.out [126] (.inr (.inr rfl))
          rotate_left
        all_goals
          rw [← hW2] at hM hbe hbx ⊢
          clear hW2 hM0 hz0 hmx hz hbW2 hwh key c1a c1b fza fzb c0 c1 d0 d1 d2 e0
          have x0 := hbx.out 0 _ rfl
          have x1 := hbx.out 1 _ rfl
          have x2 := hbx.out 2 _ rfl
          have x3 := hbx.out 3 _ rfl
          have x4 := hbx.out 4 _ rfl
          have x5 := hbx.out 5 _ rfl
          have x6 := hbx.out 6 _ rfl
          have x7 := hbx.out 7 _ rfl
          have x8 := hbx.out 8 _ rfl
          have x9 := hbx.out 9 _ rfl
          have hvv := validate_any hM.out (hT.out.below hbe.out)
          rw [hva] at hvv
          unfold dBad at hvv
          first
            | rw [if_neg (by decide), if_pos h5.out] at hvv
            | rw [if_pos rfl, if_pos h5.out] at hvv
            | rw [if_neg (by decide), if_neg (by have := h5.out; omega)] at hvv
            | rw [if_pos rfl, if_neg (by have := h5.out; omega)] at hvv
          replace hvv := Lib.hid hvv
          clear hva hbx
          go_wp2_with fail
          refine hvv.out.mono ?_
          rintro e w5 ⟨rfl, b5⟩
          have hb5 := Lib.hid (hbe.out.trans (b5.mono hbe.out.size))
          clear b5 hvv x0 x1 x2 x3 x4 x5 x6 x7 x8 x9
          have hwk := Lib.hid (vwakes_any (hT.out.below hb5.out))
          go_wp2_with fail
          refine hwk.out.mono ?_
          rintro e w6 ⟨rfl, b6⟩
          have hb6 := Lib.hid (hb5.out.trans (b6.mono hb5.out.size))
          clear b6
          go_wp2_with fail
          go_ret
          exact ⟨rfl, hb6.out⟩
end Go.Proofs.YtacohbllbjgdgaaDoor
