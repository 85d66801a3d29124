/- The checker: exports, and the start. -/
import Derived.Test.YtacohbllbjgdgaaDoorXx
import Derived.Test.YtacohbllbjgdgaaDoorWm
namespace Go.Proofs.YtacohbllbjgdgaaDoor
open Go.RowKit Go.Maps
set_option linter.unusedVariables false
set_option linter.unusedSimpArgs false

/-- How many there are of a kind, as the program lays it. -/
def haveP (m : Md) : Obj := .cells #[.int .i64 ((funcT m).length : Int), .int .i64 m.tables.length, .int .i64 m.mems.length, .int .i64 m.globals.length] 68
theorem haveP_c {w : World} {m : Md} {b : Nat} (h : w.heap[b]? = some (haveP m)) {k : Nat} (hk : k < 4) : w.cell? ⟨b, k, none⟩ = some (.int .i64 (manyV m (k : Int))) := by
  unfold haveP at h
  have h4 : k = 0 ∨ k = 1 ∨ k = 2 ∨ k = 3 := by omega
  rcases h4 with rfl | rfl | rfl | rfl
  all_goals rw [cell_of_row w b _ _ _ _ h]; rfl
theorem putone {D : DataW Unit} {l : List UInt8} {c v : Int} (hm : IsMap D) (k : (D.put (.string l) (.lit (.int .i64 v))).atKey (.string l) (.lit (.int .i64 0)) = .lit (.int .i64 c)) : c = v := by
  rw [atKey_put_same hm (by simp [WideAt.IsKeyLit])] at k
  simpa using k.symm
theorem box63' {w w' : World} {Mb : Nat} {s : ByteArray} {k i : Int} (g : (w.alloc (.cells #[.string s, .int .i64 k, .int .i64 i] 70)).grownBy w' (some Mb)) (hM : Mb < w.heap.size) :
    w'.cell? ⟨w.heap.size, 0, none⟩ = some (.string s) ∧ w'.cell? ⟨w.heap.size, 1, none⟩ = some (.int .i64 k) ∧ w'.cell? ⟨w.heap.size, 2, none⟩ = some (.int .i64 i) := by
  have hh := (g.block w.heap.size (by simp) (fun e => by simp at e; omega)).trans (heap_alloc_new w _)
  exact ⟨by rw [cell_of_row _ _ 0 _ _ _ hh]; rfl, by rw [cell_of_row _ _ 1 _ _ _ hh]; rfl, by rw [cell_of_row _ _ 2 _ _ _ hh]; rfl⟩
section
variable {w w' : World} {c : Nat} {m : Md} {a0 : Option Addr} {k0 : Nat} {a1 : Option Addr} {k1 : Nat} {a2 : Option Addr} {k2 : Nat} {a3 : Option Addr} {k3 : Nat} {a4 : Option Addr} {k4 : Nat} {a5 : Option Addr} {k5 : Nat}
    {a6 : Option Addr} {k6 : Nat} {a7 : Option Addr} {k7 : Nat} {a8 : Option Addr} {k8 : Nat} {a9 : Option Addr} {k9 : Nat} {fa : Option Addr} {fk : Nat}
set_option maxRecDepth 100000 in
set_option maxHeartbeats 8000000 in
theorem exports_any (h : ChkAt w c m (funcT m) a0 k0 a1 k1 a2 k2 a3 k3 a4 k4 a5 k5 a6 k6 a7 k7 a8 k8 a9 k9 fa fk) (hex : m.exports.length ≤ 1099511627776) (hkd : ∀ x ∈ m.exports, 0 ≤ x.2.1 ∧ x.2.1 ≤ 3) (hst : ∀ n ∈ m.start, 0 ≤ n) :
    Calls Tryd.prog 13 #[.pointer (some ⟨c, 0, none⟩)] w (endN w (exportsV m)) := by
  generalize hX : exportsV m = X
  have hX1 : Hid (X = fst2 (expGo m m.exports []) (firstL (eStart m) m.start)) := Lib.hid hX.symm
  clear hX
  obtain ⟨y0, y1, y2, y3, y4, y5, y6, y7, y8, y9, y10, _⟩ := h.cc
  have l6 := h.md.exports.1
  have l7 := h.md.start.1
  have lf := h.fr.1
  have hmm := @run_makeMap Tryd.prog
  have hcl := lt_of_block h.b
  obtain ⟨S, hS⟩ : ∃ S, S = w.heap.size := ⟨_, rfl⟩
  obtain ⟨w1, hw1⟩ : ∃ w1, w1 = w.alloc (.map #[] 0) := ⟨_, rfl⟩
  have hs1 : w1.heap.size = S + 1 := by rw [hw1, hS]; simp
  have hM1 : MapOf w1 S 0 [] := by rw [hw1, hS]; exact mapOf_new w
  have hb1 : Below w.heap.size w w1 := by rw [hw1]; exact Below.of_alloc w _
  go_enter Tryd.func13, Tryd.ntmps13
  go_upto_region 1 with (fail)
  rw [← hw1]
  rw [← hS]
  have hch1 := h.step hb1
  clear hw1 y0 y1 y2 y3 y4 y5 y6 y7 y8 y9 y10 hmm
  obtain ⟨y0, y1, y2, y3, y4, y5, y6, y7, y8, y9, y10, _⟩ := hch1.cc
  go_wp2_with fail
  have y10z : (w1.alloc (.cells #[.int .i64 0, .int .i64 0, .int .i64 0, .int .i64 0] 68)).cell? ⟨c, 10, none⟩ = some (.slice fa (funcT m).length fk) := keep_below (Below.of_alloc w1 _) _ _ y10
  have y10d : (w1.alloc (.cells #[.int .i64 0, .int .i64 0, .int .i64 0, .int .i64 0] 68)).drew.cell? ⟨c, 10, none⟩ = some (.slice fa (funcT m).length fk) := y10z
  have y3z : (w1.alloc (.cells #[.int .i64 0, .int .i64 0, .int .i64 0, .int .i64 0] 68)).cell? ⟨c, 3, none⟩ = some (.slice a3 m.tables.length k3) := keep_below (Below.of_alloc w1 _) _ _ y3
  have y3d : (w1.alloc (.cells #[.int .i64 0, .int .i64 0, .int .i64 0, .int .i64 0] 68)).drew.cell? ⟨c, 3, none⟩ = some (.slice a3 m.tables.length k3) := y3z
  have y4z : (w1.alloc (.cells #[.int .i64 0, .int .i64 0, .int .i64 0, .int .i64 0] 68)).cell? ⟨c, 4, none⟩ = some (.slice a4 m.mems.length k4) := keep_below (Below.of_alloc w1 _) _ _ y4
  have y4d : (w1.alloc (.cells #[.int .i64 0, .int .i64 0, .int .i64 0, .int .i64 0] 68)).drew.cell? ⟨c, 4, none⟩ = some (.slice a4 m.mems.length k4) := y4z
  have y5z : (w1.alloc (.cells #[.int .i64 0, .int .i64 0, .int .i64 0, .int .i64 0] 68)).cell? ⟨c, 5, none⟩ = some (.slice a5 m.globals.length k5) := keep_below (Below.of_alloc w1 _) _ _ y5
  have y5d : (w1.alloc (.cells #[.int .i64 0, .int .i64 0, .int .i64 0, .int .i64 0] 68)).drew.cell? ⟨c, 5, none⟩ = some (.slice a5 m.globals.length k5) := y5z
  replace hs1 := Lib.hid hs1
  clear y0 y1 y2 y6 y7 y8 y9
  have hFL : ∃ FL : Nat, FL = (funcT m).length := ⟨_, rfl⟩
  go_cut [3] from 9 to 32 (fun v3 wx => ∃ b', v3 = .pointer (some ⟨b', 0, none⟩) ∧ Hid (w1.heap.size ≤ b') ∧ Hid (wx.heap[b']? = some (haveP m)) ∧ Hid (Below w1.heap.size w1 wx))
  case first =>
    go_region
    all_goals go_wp2_with fail
    all_goals go_meet
    all_goals exact ⟨_, rfl, Lib.hid (Nat.le_refl _), Lib.hid (by unfold haveP; exact heap_alloc_new _ _), Lib.hid (by first | exact (Below.of_alloc w1 _).trans ((below_drawn (w := w1.alloc _) 1).mono (by simp)) | exact (below_drawn (w := w1) 1).trans ((Below.of_alloc w1.drew _).mono (by simp)))⟩
  case rest =>
    obtain ⟨Hb, rfl, hHb, hhv, hbw⟩ := hcut
    have hE0 : Hid (Below w.heap.size w wc ∧ wc.heap[Hb]? = some (haveP m) ∧ MapOf wc S 0 []) := Lib.hid ⟨hb1.trans (hbw.out.mono hb1.size), hhv.out, hM1.step hbw.out⟩
    have hSH : Hid (S ≠ Hb ∧ w.heap.size ≤ S) := Lib.hid ⟨by have := hHb.out; have := hs1.out; omega, by omega⟩
    obtain ⟨y0, y1, y2, y3, y4, y5, y6, y7, y8, y9, y10, _⟩ := (hch1.step hbw.out).cc
    clear hhv hbw hM1 hb1 hch1 hHb hs1 hFL y3z y3d y4z y4d y5z y5d y10z y10d
    replace hS := Lib.hid hS
    replace h := Lib.hid h
    go_wp2_with fail
    go_loopw [39] (fun vi wr => ∃ (i n : Nat) (seen : List ByteArray), vi = .int .i64 i ∧ i ≤ m.exports.length ∧ n = i ∧ Hid (expGo m m.exports [] = expGo m (m.exports.drop i) seen) ∧ Hid (Below w.heap.size w wr ∧ wr.heap[Hb]? = some (haveP m) ∧ MapOf wr S n seen)) (fun vi _ => m.exports.length - (intOf vi).toNat)
    case atStart => exact ⟨0, 0, [], rfl, Nat.zero_le _, rfl, Lib.hid rfl, hE0⟩
    case round =>
      clear hE0 y0 y1 y2 y3 y4 y5 y6 y7 y8 y9 y10
      obtain ⟨i, n, seen, rfl, hi, hni, hf, hE⟩ := hrel
      obtain ⟨hbw, hhv, D, hown, hDl⟩ := hE.out
      have hch := h.out.step hbw
      by_cases hlt : i < m.exports.length
      · obtain ⟨x, hx⟩ : ∃ x, m.exports[i]? = some x := ⟨_, List.getElem?_eq_getElem hlt⟩
        have hd : m.exports.drop i = x :: m.exports.drop (i + 1) := by rw [List.drop_eq_getElem_cons hlt, (List.getElem?_eq_some_iff.1 hx).2]
        have hf1 := hf.out
        rw [hd, expGo_step] at hf1
        obtain ⟨b, o, hab, ⟨r1, r163⟩, r2, r3⟩ := hch.md.exports.row hx
        replace r1 : wr.cell? ⟨b, o + i * 3, none⟩ = some (.string x.1) := r1
        replace r2 : wr.cell? ⟨b, o + i * 3 + 1, none⟩ = some (.int .i64 x.2.1) := r2
        replace r3 : wr.cell? ⟨b, o + i * 3 + 2, none⟩ = some (.int .i64 x.2.2) := r3
        rw [hab]
        replace hab := Lib.hid hab
        have hk := hkd x (List.mem_of_getElem? hx)
        have i0 : (0 : Int) ≤ (i : Int) := by omega
        have hkey : keyOf Tryd.prog 9 (.string x.1) = some (.string x.1.data.toList) := Go.WideMaps.keyOf_string_mk Tryd.underlying9 r163
        have hDx := hDl x.1.data.toList
        replace hDl := Lib.hid hDl
        clear hf hd
        replace hx := Lib.hid hx
        replace hlt := Lib.hid hlt
        have ilt : (i : Int) < (m.exports.length : Int) := by have := hlt.out; omega
        have hal : ∀ o, Hid (Below w.heap.size w (wr.alloc o)) := fun o => Lib.hid (hbw.trans ((Below.of_alloc wr o).mono hbw.size))
        have hS2 := hSH.out.2
        have hgr : ∀ (wz w5 : World), Below w.heap.size w wz → wz.grownBy w5 (some S) → Below w.heap.size w w5 := fun _ _ b g => b.trans (gb_below g b.size (fun q hq => by cases hq; exact hS2))
        replace hgr := Lib.hid hgr
        by_cases hs : metN seen x.1.data.toList = 1
        · rw [if_pos hs] at hf1
          rw [hs] at hDx
          have e4 : Hid (X = 63) := Lib.hid (by rw [hX1.out, hf1]; rfl)
          clear hf1 hs
          replace hDx := Lib.hid hDx
          go_wp2_with (first
            | (at_lookup; refine wpList_lookup_own_int _ rfl _ _ 67 rfl 9 3 .i64 law92 Tryd.underlying67 Tryd.underlying3 (zero3 _) S n D rfl (hown.alloc _) _ _ rfl hkey ?_; intro c1 hat hwc; obtain rfl : c1 = 1 := atone hDx.out hat)
            | (at_mapUpdate; refine wpList_mapUpdate_own _ rfl _ _ _ 67 rfl 9 3 law92 Tryd.underlying67 _ S n D rfl (hown.alloc _) (by unfold maxLen; omega) _ _ _ rfl rfl hkey _ [] (plainElem_int Tryd.underlying3 (by decide)) ?_; intro w5 hown5 hgrow5; have hb5 := Lib.hid (hgr.out _ _ (hal _).out hgrow5); obtain ⟨u0, u1, u2⟩ := box63' hgrow5 hown.lt)
            | (at_lookup; refine wpList_lookup_own_int _ rfl _ _ 67 rfl 9 3 .i64 law92 Tryd.underlying67 Tryd.underlying3 (zero3 _) S (n + 1) _ rfl hown5 _ _ rfl hkey ?_; intro c2 hat hwc2; obtain rfl := putone hown.isMap hat)
            | fail)
          refine (vwant_no 63 _).mono ?_
          rintro e w' ⟨rfl, rfl⟩
          go_wp2
          exact ⟨rfl, .inr (by rw [e4.out]; exact ⟨by decide, rfl⟩), hb5.out⟩
        · have hs0 : metN seen x.1.data.toList = 0 := by
            unfold metN at hs ⊢
            by_cases q : x.1.data.toList ∈ seen.map (fun s => s.data.toList)
            · rw [if_pos q] at hs; exact absurd rfl hs
            · rw [if_neg q]
          rw [if_neg hs] at hf1
          rw [hs0] at hDx
          replace hDx := Lib.hid hDx
          obtain ⟨k, hkk⟩ : ∃ k : Nat, x.2.1 = k := ⟨x.2.1.toNat, by omega⟩
          have hk4 : k < 4 := by omega
          rw [hkk] at r2 hf1
          clear hs hs0 hk
          replace hkk := Lib.hid hkk
          have q0 : (0 : Int) ≤ (k : Int) := by omega
          have q4 : (k : Int) < 4 := by omega
          go_wp2_with (first
            | (at_lookup; refine wpList_lookup_own_int _ rfl _ _ 67 rfl 9 3 .i64 law92 Tryd.underlying67 Tryd.underlying3 (zero3 _) S n D rfl (hown.alloc _) _ _ rfl hkey ?_; intro c1 hat hwc; obtain rfl : c1 = 0 := atone hDx.out hat)
            | (at_mapUpdate; refine wpList_mapUpdate_own _ rfl _ _ _ 67 rfl 9 3 law92 Tryd.underlying67 _ S n D rfl (hown.alloc _) (by unfold maxLen; omega) _ _ _ rfl rfl hkey _ [] (plainElem_int Tryd.underlying3 (by decide)) ?_; intro w5 hown5 hgrow5; have hb5 := Lib.hid (hgr.out _ _ (hal _).out hgrow5); have hM5 : Hid (MapOf w5 S (n + 1) (x.1 :: seen)) := Lib.hid ⟨_, hown5, met_put hDl.out hown.isMap x.1⟩; have hv5 : Hid (w5.heap[Hb]? = some (haveP m)) := Lib.hid ((hgrow5.block Hb (by have := lt_of_block hhv; simp; omega) (fun e => hSH.out.1 (by simpa using e.symm))).trans (((Below.of_alloc wr _).block Hb (lt_of_block hhv)).trans hhv)); obtain ⟨u0, u1, u2⟩ := box63' hgrow5 hown.lt)
            | (at_lookup; refine wpList_lookup_own_int _ rfl _ _ 67 rfl 9 3 .i64 law92 Tryd.underlying67 Tryd.underlying3 (zero3 _) S (n + 1) _ rfl hown5 _ _ rfl hkey ?_; intro c2 hat hwc2; obtain rfl := putone hown.isMap hat)
            | fail)
          refine (vwant_yes 63 _).mono ?_
          rintro e w' ⟨rfl, rfl⟩
          have hkc := haveP_c hv5.out hk4
          clear hown5 hgrow5 hat hwc2
          go_wp2_with fail
          refine wp_region_still_tail 6 (by kernel_rfl) (by kernel_rfl) ?_
          simp only [List.take_succ_cons, List.take_zero, List.drop_succ_cons, List.drop_zero]
          repeat still_step
          refine wpStill_nil ?_
          change wpList _ _ _ _ _ w5.drew
          have hE6 : Hid (Below w.heap.size w w5.drew ∧ w5.drew.heap[Hb]? = some (haveP m) ∧ MapOf w5.drew S (n + 1) (x.1 :: seen)) := Lib.hid ⟨hb5.out.trans (below_drawn (w := w5) 1 |>.mono hb5.out.size), hv5.out, hM5.out.step (below_drawn (w := w5) 1)⟩
          clear hkc u0 u1 u2
          by_cases hc : x.2.2 < manyV m (k : Int)
          · rw [if_pos hc] at hf1
            have hH := fun w => Lib.hid (has_yes hc w)
            replace hf1 := Lib.hid hf1
            generalize manyV m (k : Int) = V at hH ⊢
            clear hc
            go_wp2_with fail
            refine (hH _).out.mono ?_
            rintro e w' ⟨rfl, rfl⟩
            go_wp2
            go_roundw
            case rel => exact ⟨i + 1, n + 1, x.1 :: seen, by simp, by have := hlt.out; omega, by omega, hf1, hE6⟩
            case measure => simp [intOf]; have := hlt.out; omega
          · rw [if_neg hc] at hf1
            have e4 : Hid (X = 61) := Lib.hid (by rw [hX1.out, hf1]; rfl)
            have hH := fun w => Lib.hid (has_no hc w)
            generalize manyV m (k : Int) = V at hH ⊢
            clear hc hf1
            go_wp2_with fail
            refine (hH _).out.mono ?_
            rintro e w' ⟨rfl, rfl⟩
            go_wp2
            exact ⟨rfl, .inr (by rw [e4.out]; exact ⟨by decide, rfl⟩), hE6.out.1⟩
      · obtain rfl : i = m.exports.length := by omega
        have e1 : Hid (X = firstL (eStart m) (m.start.drop 0)) := Lib.hid (by
          have := hf.out
          rw [List.drop_length] at this
          rw [hX1.out, this]
          rfl)
        have hb0 : Hid (Below w.heap.size w wr) := Lib.hid hbw
        obtain ⟨y0, y1, y2, y3, y4, y5, y6, y7, y8, y9, y10, _⟩ := hch.cc
        clear hf hlt hX1 hE hown hDl hhv hbw
        go_wp2_with fail
        go_loopw [68] (fun vi wr => ∃ i : Nat, vi = .int .i64 i ∧ i ≤ m.start.length ∧ Hid (X = firstL (eStart m) (m.start.drop i)) ∧ Hid (Below w.heap.size w wr)) (fun vi _ => m.start.length - (intOf vi).toNat)
        case atStart => exact ⟨0, rfl, Nat.zero_le _, e1, hb0⟩
        case round =>
          clear hb0 e1 y0 y1 y2 y3 y4 y5 y6 y7 y8 y9 y10 hch
          obtain ⟨i, rfl, hi, hf, hbw⟩ := hrel
          have hch := h.out.step hbw.out
          obtain ⟨y0, y1, y2, y3, y4, y5, y6, y7, y8, y9, y10, _⟩ := hch.cc
          by_cases hlt : i < m.start.length
          · obtain ⟨x, hx⟩ : ∃ x, m.start[i]? = some x := ⟨_, List.getElem?_eq_getElem hlt⟩
            obtain ⟨b, o, hab, hcx⟩ := hch.md.start.at hx
            have hx0 := hst x (List.mem_of_getElem? hx)
            have hf1 := hf.out.trans (firstL_drop hx)
            have i0 : (0 : Int) ≤ (i : Int) := by omega
            have ilt : (i : Int) < (m.start.length : Int) := by omega
            rw [hab]
            replace hab := Lib.hid hab
            replace hlt := Lib.hid hlt
            have good : eStart m x = 0 → Hid (X = firstL (eStart m) (m.start.drop (i + 1))) := fun q => Lib.hid (by rw [q, if_pos rfl] at hf1; exact hf1)
            have bad : ∀ k, k ≠ 0 → eStart m x = k → Hid (X = k) := fun k hk q => Lib.hid (by rw [q, if_neg hk] at hf1; exact hf1)
            clear hf hf1 hx
            by_cases hc : x < ((funcT m).length : Int)
            · obtain ⟨j, rfl⟩ : ∃ j : Nat, x = j := ⟨x.toNat, by omega⟩
              obtain ⟨t, ht⟩ : ∃ t, (funcT m)[j]? = some t := ⟨_, List.getElem?_eq_getElem (by omega)⟩
              have hg : (funcT m).getD ((j : Int).toNat) ([], []) = t := by rw [Int.toNat_natCast, List.getD_eq_getElem?_getD, ht]; rfl
              have est : eStart m (j : Int) = if t.1.length = 0 ∧ t.2.length = 0 then 0 else 60 := by unfold eStart; rw [if_pos hc, hg]
              rw [est] at good bad
              obtain ⟨b3, o3, hfa, ⟨pa, pc, g0, _⟩, ⟨ra, rc, g1, _⟩⟩ := hch.fr.row ht
              rw [hfa] at y10
              replace hfa := Lib.hid hfa
              have hH := fun w => Lib.hid (has_yes hc w)
              replace ht := Lib.hid ht
              have j0 : (0 : Int) ≤ (j : Int) := by omega
              clear est hg hch
              have hcase : (t.1.length = 0 ∧ t.2.length = 0) ∨ (¬ t.1.length = 0) ∨ (t.1.length = 0 ∧ ¬ t.2.length = 0) := by omega
              generalize t.1.length = L1 at g0 good bad hcase
              generalize t.2.length = L2 at g1 good bad hcase
              rcases hcase with ⟨rfl, rfl⟩ | hn | ⟨rfl, hn⟩
              · have e4 := good (if_pos ⟨rfl, rfl⟩)
                clear good bad
                go_wp2_with fail
                refine (hH _).out.mono ?_
                rintro e w' ⟨rfl, rfl⟩
                go_wp2_with fail
                refine (vwant_yes 60 _).mono ?_
                rintro e w' ⟨rfl, rfl⟩
                go_wp2
                go_roundw
                case rel => exact ⟨i + 1, by simp, by have := hlt.out; omega, e4, hbw⟩
                case measure => simp [intOf]; have := hlt.out; omega
              · have e4 := bad 60 (by decide) (if_neg (fun q => hn q.1))
                have hb1 : ((L1 : Int) == 0) = false := by simp [hn]
                clear good bad hn
                go_wp2_with fail
                refine (hH _).out.mono ?_
                rintro e w' ⟨rfl, rfl⟩
                go_wp2_with fail
                refine (vwant_no 60 _).mono ?_
                rintro e w' ⟨rfl, rfl⟩
                go_wp2
                exact ⟨rfl, .inr (by rw [e4.out]; exact ⟨by decide, rfl⟩), hbw.out⟩
              · have e4 := bad 60 (by decide) (if_neg (fun q => hn q.2))
                have hb1 : ((L2 : Int) == 0) = false := by simp [hn]
                clear good bad hn
                go_wp2_with fail
                refine (hH _).out.mono ?_
                rintro e w' ⟨rfl, rfl⟩
                go_wp2_with fail
                refine (vwant_no 60 _).mono ?_
                rintro e w' ⟨rfl, rfl⟩
                go_wp2
                exact ⟨rfl, .inr (by rw [e4.out]; exact ⟨by decide, rfl⟩), hbw.out⟩
            · have e4 := bad 61 (by decide) (by unfold eStart; rw [if_neg hc])
              have hH := fun w => Lib.hid (has_no hc w)
              clear good bad hc hch
              go_wp2_with fail
              refine (hH _).out.mono ?_
              rintro e w' ⟨rfl, rfl⟩
              go_wp2
              exact ⟨rfl, .inr (by rw [e4.out]; exact ⟨by decide, rfl⟩), hbw.out⟩
          · obtain rfl : i = m.start.length := by omega
            have e4 : X = 0 := by
              have := hf.out
              rw [List.drop_length] at this
              exact this
            clear hf hlt hch
            replace e4 := Lib.hid e4
            go_wp2
            go_end0
            exact ⟨.inl ⟨e4.out, rfl⟩, hbw.out⟩
end

end Go.Proofs.YtacohbllbjgdgaaDoor
