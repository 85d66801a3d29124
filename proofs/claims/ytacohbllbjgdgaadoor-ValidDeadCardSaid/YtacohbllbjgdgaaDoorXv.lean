/- The checker: its fillings. -/
import Derived.Test.YtacohbllbjgdgaaDoorXu
namespace Go.Proofs.YtacohbllbjgdgaaDoor
open Go.RowKit
set_option linter.unusedVariables false
set_option linter.unusedSimpArgs false
section
variable {w w' : World} {c : Nat} {m : Md} {fs : List (List Int × List Int)} {a0 : Option Addr} {k0 : Nat} {a1 : Option Addr} {k1 : Nat} {a2 : Option Addr} {k2 : Nat} {a3 : Option Addr} {k3 : Nat} {a4 : Option Addr} {k4 : Nat} {a5 : Option Addr} {k5 : Nat}
    {a6 : Option Addr} {k6 : Nat} {a7 : Option Addr} {k7 : Nat} {a8 : Option Addr} {k8 : Nat} {a9 : Option Addr} {k9 : Nat} {fa : Option Addr} {fk : Nat}
theorem offset_ok {op : Int} (h : eOff op = 0) (a y n : Int) (v4 v5 v6 : Value) (w : World) : Calls Tryd.prog 23 #[insV op a y n v4 v5 v6] w fun e w' => e = .returned (.tuple #[]) ∧ Below w.heap.size w w' :=
  (offset_any op a y n v4 v5 v6 w).mono fun e w' q => ⟨by rcases q.1 with ⟨_, e⟩ | ⟨e, _⟩; exact e; exact absurd h e, q.2⟩
theorem offset_er {op : Int} (h : eOff op ≠ 0) (a y n : Int) (v4 v5 v6 : Value) (w : World) : Calls Tryd.prog 23 #[insV op a y n v4 v5 v6] w fun e w' => e = .panicked (faultV (eOff op)) ∧ Below w.heap.size w w' :=
  (offset_any op a y n v4 v5 v6 w).mono fun e w' q => ⟨by rcases q.1 with ⟨e, _⟩ | ⟨_, e⟩; exact absurd e h; exact e, q.2⟩
set_option maxRecDepth 100000 in
set_option maxHeartbeats 16000000 in
theorem fills_any (h : ChkAt w c m fs a0 k0 a1 k1 a2 k2 a3 k3 a4 k4 a5 k5 a6 k6 a7 k7 a8 k8 a9 k9 fa fk) : Calls Tryd.prog 14 #[.pointer (some ⟨c, 0, none⟩)] w (endN w (fillsV m fs.length)) := by
  have hX0 : fillsV m fs.length = fst2 (firstL (eEl m.tables.length fs.length) m.elems) (firstL (eDa m.mems.length) m.datas) := rfl
  generalize fillsV m fs.length = X at hX0 ⊢
  replace hX0 := Lib.hid hX0
  have hb0 : Hid (Below w.heap.size w w) := Lib.hid (Below.refl _ _)
  obtain ⟨y0, y1, y2, y3, y4, y5, y6, y7, y8, y9, y10, _⟩ := h.cc
  have l8 := h.md.elems.1
  have l9 := h.md.datas.1
  replace h := Lib.hid h
  go_enter Tryd.func14, Tryd.ntmps14
  go_wp2_with fail
  go_loopw [15] (fun vi wr => ∃ i : Nat, vi = .int .i64 i ∧ i ≤ m.elems.length ∧ Hid (firstL (eEl m.tables.length fs.length) m.elems = firstL (eEl m.tables.length fs.length) (m.elems.drop i)) ∧ Hid (Below w.heap.size w wr)) (fun vi _ => m.elems.length - (intOf vi).toNat)
  case atStart => exact ⟨0, rfl, Nat.zero_le _, Lib.hid rfl, hb0⟩
  case round =>
    clear hb0 y0 y1 y2 y3 y4 y5 y6 y7 y8 y9 y10
    obtain ⟨i, rfl, hi, hf, hb0⟩ := hrel
    have hc := h.out.step hb0.out
    obtain ⟨y0, y1, y2, y3, y4, y5, y6, y7, y8, y9, y10, _⟩ := hc.cc
    by_cases hlt : i < m.elems.length
    · obtain ⟨x, hx⟩ : ∃ x, m.elems[i]? = some x := ⟨_, List.getElem?_eq_getElem hlt⟩
      obtain ⟨b, o, rfl, ⟨⟨g0, g1, g2, g3⟩, ⟨ga4, gk4, g4, _⟩, ⟨ga5, gk5, g5, _⟩, ⟨ga6, gk6, g6, _⟩, _⟩, ⟨ga7, gk7, g7, hxi⟩⟩ := hc.md.elems.row hx
      have hf1 := hf.out.trans (firstL_drop hx)
      clear hf hc
      have hal : ∀ o, Below w.heap.size w (wr.alloc o) := fun o => hb0.out.trans ((Below.of_alloc wr o).mono hb0.out.size)
      have hal1 : ∀ o, Below wr.heap.size wr (wr.alloc o) := fun o => Below.of_alloc wr o
      have yz3 : ∀ o, (wr.alloc o).cell? ⟨c, 3, none⟩ = some (.slice a3 m.tables.length k3) := fun o => keep_below (hal1 o) _ _ y3
      have hlx := hxi.1
      replace hx := Lib.hid hx
      replace hxi := Lib.hid hxi
      by_cases ht : 0 < m.tables.length
      · have hHT := fun w => Lib.hid (has_yes (show (0 : Int) < (m.tables.length : Int) by omega) w)
        have eh : eHas 0 m.tables.length = 0 := if_pos (show (0 : Int) < (m.tables.length : Int) by omega)
        by_cases ho : eOff x.1.op = 0
        · have hoc := fun a y n v4 v5 v6 w => Lib.hid (offset_ok ho a y n v4 v5 v6 w)
          have ex : eEl m.tables.length fs.length x = firstL (fun n => eHas n fs.length) x.2 := by unfold eEl; rw [eh, ho]; rfl
          rw [ex] at hf1
          replace hf1 := Lib.hid hf1
          clear ht eh ho ex
          go_wp2_with fail
          refine (hHT _).out.mono ?_
          rintro e w' ⟨rfl, rfl⟩
          go_wp2_with fail
          refine (hoc _ _ _ _ _ _ _).out.mono ?_
          rintro e w2 ⟨rfl, bb2⟩
          have z7 : w2.cell? ⟨wr.heap.size, 7, none⟩ = some (.slice ga7 x.2.length gk7) := keep_below bb2 _ _ (World.cell?_alloc_at _ _ _ 7 (by simp))
          have hb2 := Lib.hid ((hal _).trans (bb2.mono (hal _).size))
          have hxi2 := Lib.hid ((hxi.out.below (hal1 _)).below bb2)
          clear bb2 y0 y1 y2 y3 y4 y5 y6 y7 y8 y9 y10 g0 g1 g2 g3 g4 g5 g6 g7
          clear yz3
          go_wp2_with fail
          go_loopw [33] (fun vj wj => ∃ j : Nat, vj = .int .i64 j ∧ j ≤ x.2.length ∧ Hid (firstL (fun n => eHas n fs.length) x.2 = firstL (fun n => eHas n fs.length) (x.2.drop j)) ∧ Hid (Below w.heap.size w wj) ∧ Hid (IntsIn wj ga7 x.2)) (fun vj _ => x.2.length - (intOf vj).toNat)
          case atStart => exact ⟨0, rfl, Nat.zero_le _, Lib.hid rfl, hb2, hxi2⟩
          case round =>
            clear hb2 hxi2 z7
            obtain ⟨j, rfl, hj, hg, hb2, hxi2⟩ := hrel
            have hc2 := h.out.step hb2.out
            obtain ⟨y0, y1, y2, y3, y4, y5, y6, y7, y8, y9, y10, _⟩ := hc2.cc
            by_cases hjt : j < x.2.length
            · obtain ⟨v, hv⟩ : ∃ v, x.2[j]? = some v := ⟨_, List.getElem?_eq_getElem hjt⟩
              obtain ⟨b9, o9, rfl, c9⟩ := hxi2.out.at hv
              have hg1 := hg.out.trans (firstL_drop hv)
              replace hv := Lib.hid hv
              clear hg hc2
              by_cases hlt2 : v < (fs.length : Int)
              · rw [show eHas v fs.length = 0 from if_pos hlt2, if_pos rfl] at hg1
                replace hg1 := Lib.hid hg1
                have hHY := fun w => Lib.hid (has_yes hlt2 w)
                go_wp2_with fail
                refine (hHY _).out.mono ?_
                rintro e w' ⟨rfl, rfl⟩
                go_wp2
                go_roundw
                case rel => exact ⟨j + 1, by simp, by omega, hg1, hb2, hxi2⟩
                case measure => simp [intOf]; omega
              · rw [show eHas v fs.length = 61 from if_neg hlt2, if_neg (by decide)] at hg1
                have e3 : X = 61 := by rw [hX0.out, hf1.out, hg1]; rfl
                replace e3 := Lib.hid e3
                have hHN := fun w => Lib.hid (has_no hlt2 w)
                clear hg1
                go_wp2_with fail
                refine (hHN _).out.mono ?_
                rintro e w' ⟨rfl, rfl⟩
                go_wp2
                exact ⟨rfl, .inr (by rw [e3.out]; exact ⟨by decide, rfl⟩), hb2.out⟩
            · obtain rfl : j = x.2.length := by omega
              rw [List.drop_length] at hg
              have hf2 : firstL (eEl m.tables.length fs.length) m.elems = firstL (eEl m.tables.length fs.length) (m.elems.drop (i + 1)) := by
                rw [hf1.out, hg.out]; exact if_pos rfl
              replace hf2 := Lib.hid hf2
              clear hf1 hg hc2
              go_wp2
              go_roundw
              case rel => exact ⟨i + 1, by simp, by omega, hf2, hb2⟩
              case measure => simp [intOf]; omega
        · have ex : eEl m.tables.length fs.length x = eOff x.1.op := by
            show fst2 (eHas 0 m.tables.length) (fst2 (eOff x.1.op) _) = _
            rw [eh]
            exact if_neg ho
          rw [ex, if_neg ho] at hf1
          have e2 : X = eOff x.1.op := by rw [hX0.out, hf1]; exact if_neg ho
          have hoe := fun a y n v4 v5 v6 w => Lib.hid (offset_er ho a y n v4 v5 v6 w)
          replace e2 := Lib.hid e2
          replace ho := Lib.hid ho
          clear hf1 ex eh ht
          go_wp2_with fail
          refine (hHT _).out.mono ?_
          rintro e w' ⟨rfl, rfl⟩
          go_wp2_with fail
          refine (hoe _ _ _ _ _ _ _).out.mono ?_
          rintro e w2 ⟨rfl, bb2⟩
          go_wp2
          exact ⟨rfl, .inr (by rw [e2.out]; exact ⟨ho.out, rfl⟩), (hal _).trans (bb2.mono (hal _).size)⟩
      · have eh : eHas 0 m.tables.length = 61 := if_neg (show ¬ (0 : Int) < (m.tables.length : Int) by omega)
        have hHN := fun w => Lib.hid (has_no (show ¬ (0 : Int) < (m.tables.length : Int) by omega) w)
        have ex : eEl m.tables.length fs.length x = 61 := by
          show fst2 (eHas 0 m.tables.length) _ = 61
          rw [eh]
          rfl
        rw [ex, if_neg (by decide)] at hf1
        have e2 : X = 61 := by rw [hX0.out, hf1]; rfl
        replace e2 := Lib.hid e2
        clear hf1 ex eh ht
        go_wp2_with fail
        refine (hHN _).out.mono ?_
        rintro e w' ⟨rfl, rfl⟩
        go_wp2
        exact ⟨rfl, .inr (by rw [e2.out]; exact ⟨by decide, rfl⟩), hal _⟩
    · obtain rfl : i = m.elems.length := by omega
      rw [List.drop_length] at hf
      have hX1 : X = firstL (eDa m.mems.length) m.datas := by rw [hX0.out, hf.out]; rfl
      replace hX1 := Lib.hid hX1
      clear hf hX0 hc
      go_wp2_with fail
      go_loopw [52] (fun vi wr => ∃ i : Nat, vi = .int .i64 i ∧ i ≤ m.datas.length ∧ Hid (firstL (eDa m.mems.length) m.datas = firstL (eDa m.mems.length) (m.datas.drop i)) ∧ Hid (Below w.heap.size w wr)) (fun vi _ => m.datas.length - (intOf vi).toNat)
      case atStart => exact ⟨0, rfl, Nat.zero_le _, Lib.hid rfl, hb0⟩
      case round =>
        clear hb0 y0 y1 y2 y3 y4 y5 y6 y7 y8 y9 y10
        obtain ⟨i, rfl, hi, hf, hb0⟩ := hrel
        have hc := h.out.step hb0.out
        obtain ⟨y0, y1, y2, y3, y4, y5, y6, y7, y8, y9, y10, _⟩ := hc.cc
        by_cases hlt : i < m.datas.length
        · obtain ⟨x, hx⟩ : ∃ x, m.datas[i]? = some x := ⟨_, List.getElem?_eq_getElem hlt⟩
          obtain ⟨b, o, rfl, ⟨⟨g0, g1, g2, g3⟩, ⟨ga4, gk4, g4, _⟩, ⟨ga5, gk5, g5, _⟩, ⟨ga6, gk6, g6, _⟩, _⟩, ⟨g7, _⟩⟩ := hc.md.datas.row hx
          have hf1 := hf.out.trans (firstL_drop hx)
          clear hf hc
          have hal : ∀ o, Below w.heap.size w (wr.alloc o) := fun o => hb0.out.trans ((Below.of_alloc wr o).mono hb0.out.size)
          have hal1 : ∀ o, Below wr.heap.size wr (wr.alloc o) := fun o => Below.of_alloc wr o
          have yz4 : ∀ o, (wr.alloc o).cell? ⟨c, 4, none⟩ = some (.slice a4 m.mems.length k4) := fun o => keep_below (hal1 o) _ _ y4
          replace hx := Lib.hid hx
          by_cases ht : 0 < m.mems.length
          · have hHT := fun w => Lib.hid (has_yes (show (0 : Int) < (m.mems.length : Int) by omega) w)
            have eh : eHas 0 m.mems.length = 0 := if_pos (show (0 : Int) < (m.mems.length : Int) by omega)
            have ex0 : eDa m.mems.length x = eOff x.1.op := by
              show fst2 (eHas 0 m.mems.length) _ = _
              rw [eh]
              rfl
            by_cases ho : eOff x.1.op = 0
            · have hoc := fun a y n v4 v5 v6 w => Lib.hid (offset_ok ho a y n v4 v5 v6 w)
              rw [ex0, if_pos ho] at hf1
              replace hf1 := Lib.hid hf1
              clear ht eh ho ex0
              go_wp2_with fail
              refine (hHT _).out.mono ?_
              rintro e w' ⟨rfl, rfl⟩
              go_wp2_with fail
              refine (hoc _ _ _ _ _ _ _).out.mono ?_
              rintro e w2 ⟨rfl, bb2⟩
              have hb2 := Lib.hid ((hal _).trans (bb2.mono (hal _).size))
              clear bb2 y0 y1 y2 y3 y4 y5 y6 y7 y8 y9 y10 g0 g1 g2 g3 g4 g5 g6 g7 yz4
              go_wp2
              go_roundw
              case rel => exact ⟨i + 1, by simp, by omega, hf1, hb2⟩
              case measure => simp [intOf]; omega
            · have ex : eDa m.mems.length x = eOff x.1.op := ex0
              rw [ex, if_neg ho] at hf1
              have e2 : X = eOff x.1.op := by rw [hX1.out, hf1]
              have hoe := fun a y n v4 v5 v6 w => Lib.hid (offset_er ho a y n v4 v5 v6 w)
              replace e2 := Lib.hid e2
              replace ho := Lib.hid ho
              clear hf1 ex eh ht ex0
              go_wp2_with fail
              refine (hHT _).out.mono ?_
              rintro e w' ⟨rfl, rfl⟩
              go_wp2_with fail
              refine (hoe _ _ _ _ _ _ _).out.mono ?_
              rintro e w2 ⟨rfl, bb2⟩
              go_wp2
              exact ⟨rfl, .inr (by rw [e2.out]; exact ⟨ho.out, rfl⟩), (hal _).trans (bb2.mono (hal _).size)⟩
          · have eh : eHas 0 m.mems.length = 61 := if_neg (show ¬ (0 : Int) < (m.mems.length : Int) by omega)
            have hHN := fun w => Lib.hid (has_no (show ¬ (0 : Int) < (m.mems.length : Int) by omega) w)
            have ex : eDa m.mems.length x = 61 := by
              show fst2 (eHas 0 m.mems.length) _ = 61
              rw [eh]
              rfl
            rw [ex, if_neg (by decide)] at hf1
            have e2 : X = 61 := by rw [hX1.out, hf1]
            replace e2 := Lib.hid e2
            clear hf1 ex eh ht
            go_wp2_with fail
            refine (hHN _).out.mono ?_
            rintro e w' ⟨rfl, rfl⟩
            go_wp2
            exact ⟨rfl, .inr (by rw [e2.out]; exact ⟨by decide, rfl⟩), hal _⟩
        · obtain rfl : i = m.datas.length := by omega
          rw [List.drop_length] at hf
          have e2 : X = 0 := by rw [hX1.out, hf.out]; rfl
          replace e2 := Lib.hid e2
          clear hc
          go_wp2
          go_end0
          exact ⟨.inl ⟨e2.out, rfl⟩, hb0.out⟩
end

end Go.Proofs.YtacohbllbjgdgaaDoor
