/- The checker: types, and those of functions. -/
import Derived.Test.YtacohbllbjgdgaaDoorXw
namespace Go.Proofs.YtacohbllbjgdgaaDoor
open Go.RowKit
set_option linter.unusedVariables false
set_option linter.unusedSimpArgs false

def tyN (m : Md) (n : Int) : List Int × List Int := m.types.getD n.toNat ([], [])
def fsAt (m : Md) (i : Nat) : List (List Int × List Int) := ((idxL m).take i).map (tyN m)
theorem fsAt_all (m : Md) : fsAt m (idxL m).length = funcT m := by unfold fsAt; rw [List.take_length]; rfl
theorem fsAt_step {m : Md} {i : Nat} {n : Int} (h : (idxL m)[i]? = some n) : fsAt m (i + 1) = fsAt m i ++ [tyN m n] := by
  unfold fsAt
  rw [List.take_add_one, h, List.map_append]
  rfl
theorem fsAt_len {m : Md} {i : Nat} (h : i ≤ (idxL m).length) : (fsAt m i).length = i := by unfold fsAt; rw [List.length_map, List.length_take]; omega
def eI (m : Md) (n : Int) : Int := eHas n m.types.length
def eTy1 (t : List Int × List Int) : Int := if t.2.length ≤ 1 then 0 else 60
/-- While the types are put together. -/
def Tq (c q : Nat) (A : MA) (m : Md) (w0 w : World) (fs : List (List Int × List Int)) : Prop := ∃ fv, Ck (q + 1) c A m w0 w fv fs ∧ w.heap[q]? = some (.cells #[.pointer (some ⟨c, 0, none⟩)] 51 (0, 0))
theorem Tq.step {c q : Nat} {A : MA} {m : Md} {w0 w w' : World} {fs : List (List Int × List Int)} (h : Tq c q A m w0 w fs) (b : Below w.heap.size w w') : Tq c q A m w0 w' fs := by
  obtain ⟨fv, h1, h2⟩ := h
  exact ⟨fv, h1.step b, (b.block q (lt_of_block h2)).trans h2⟩
def endY (c : Nat) (A : MA) (m : Md) (w0 : World) (X : Int) (e : Ending) (w' : World) : Prop :=
  (X = 0 ∧ e = .returned (.tuple #[]) ∧ (∃ N fv, Ck N c A m w0 w' fv (funcT m)) ∨ X ≠ 0 ∧ e = .panicked (faultV X)) ∧ Below w0.heap.size w0 w'
section
variable {c : Nat} {A : MA} {m : Md} {w0 w w' : World}
set_option maxRecDepth 100000 in
set_option maxHeartbeats 8000000 in
theorem types_any (hb : w.heap[c]? = some (.cells #[(A.v m).v0, (A.v m).v1, (A.v m).v2, (A.v m).v3, (A.v m).v4, (A.v m).v5, (A.v m).v6, (A.v m).v7, (A.v m).v8, (A.v m).v9, .slice none 0 0] 53 (0, 0))) (hw : Below w0.heap.size w0 w) (hA : MdA w0 m A) (hc0 : w0.heap.size ≤ c)
    (hok : ∀ n ∈ idxL m, 0 ≤ n) (hsz : m.imports.length + m.funcs.length ≤ 1099511627775) :
    Calls Tryd.prog 11 #[.pointer (some ⟨c, 0, none⟩)] w (endY c A m w0 (fst2 (typesV m) (idxV m))) := by
  generalize hX : fst2 (typesV m) (idxV m) = X
  have hX1 : Hid (X = fst2 (firstL eTy1 m.types) (firstL (eI m) (idxL m))) := Lib.hid hX.symm
  clear hX
  have l0 := hA.types.1
  have l1 := hA.imports.1
  have l2 := hA.funcs.1
  have hcl := lt_of_block hb
  have ha := Below.of_alloc w (.cells #[.pointer (some ⟨c, 0, none⟩)] 51)
  have hT0 : Tq c w.heap.size A m w0 (w.alloc (.cells #[.pointer (some ⟨c, 0, none⟩)] 51)) (fsAt m 0) :=
    ⟨.slice none 0 0, ⟨(ha.block c hcl).trans hb, ⟨[], by unfold fsAt; exact World.ownsRow_nil _ _ _ _, ⟨rfl, fun i t ht => by simp [fsAt] at ht⟩⟩, hw.trans (ha.mono hw.size), hA, by omega, hc0, by simp⟩, heap_alloc_new w _⟩
  obtain ⟨w1, hw1⟩ : ∃ w1, w1 = w.alloc (.cells #[.pointer (some ⟨c, 0, none⟩)] 51) := ⟨_, rfl⟩
  obtain ⟨q, hq⟩ : ∃ q, q = w.heap.size := ⟨_, rfl⟩
  rw [← hw1, ← hq] at hT0
  have hqc : q ≠ c := by omega
  go_enter Tryd.func11, Tryd.ntmps11
  go_upto_region 1 with (fail)
  rw [← hw1]
  rw [← hq]
  clear hw1 hq ha hcl hb hw
  have hTc : ∀ wr fs, Tq c q A m w0 wr fs → wr.cell? ⟨q, 0, none⟩ = some (.pointer (some ⟨c, 0, none⟩)) ∧ wr.cell? ⟨c, 0, none⟩ = some (.slice A.a0 m.types.length A.k0) ∧ wr.cell? ⟨c, 1, none⟩ = some (.slice A.a1 m.imports.length A.k1) ∧ wr.cell? ⟨c, 2, none⟩ = some (.slice A.a2 m.funcs.length A.k2) := fun wr fs h => by
    obtain ⟨fv, h1, h2⟩ := h
    obtain ⟨y0, y1, y2, _, _⟩ := h1.c
    exact ⟨by rw [cell_of_row _ q 0 _ _ _ h2]; rfl, y0, y1, y2⟩
  have hTb : ∀ wr fs, Tq c q A m w0 wr fs → Below w0.heap.size w0 wr := fun wr fs h => by
    obtain ⟨fv, h1, h2⟩ := h
    exact h1.bw
  replace hTb := Lib.hid hTb
  obtain ⟨q0, y0, y1, y2⟩ := hTc _ _ hT0
  replace hTc := Lib.hid hTc
  replace hT0 := Lib.hid hT0
  go_wp2_with fail
  go_loopw [15] (fun vi wr => ∃ i : Nat, vi = .int .i64 i ∧ i ≤ m.types.length ∧ Hid (firstL eTy1 m.types = firstL eTy1 (m.types.drop i)) ∧ Hid (Tq c q A m w0 wr (fsAt m 0))) (fun vi _ => m.types.length - (intOf vi).toNat)
  case atStart => exact ⟨0, rfl, Nat.zero_le _, Lib.hid rfl, hT0⟩
  case round =>
    clear hT0 q0 y0 y1 y2
    obtain ⟨i, rfl, hi, hf, hT⟩ := hrel
    by_cases hlt : i < m.types.length
    · obtain ⟨x, hx⟩ : ∃ x, m.types[i]? = some x := ⟨_, List.getElem?_eq_getElem hlt⟩
      obtain ⟨b, o, hab, ⟨pa, pc, r1, _⟩, ⟨ra, rc, r2, _⟩⟩ := hA.types.row hx
      have kb := keep_below (hTb.out _ _ hT.out)
      replace r1 : wr.cell? ⟨b, o + i * 2, none⟩ = some (.slice pa x.1.length pc) := kb _ _ r1
      replace r2 : wr.cell? ⟨b, o + i * 2 + 1, none⟩ = some (.slice ra x.2.length rc) := kb _ _ r2
      rw [hab]
      replace hab := Lib.hid hab
      have hf1 := hf.out.trans (firstL_drop hx)
      have i0 : (0 : Int) ≤ (i : Int) := by omega
      have hal : ∀ o, Hid (Tq c q A m w0 (wr.alloc o) (fsAt m 0)) := fun o => Lib.hid (hT.out.step (Below.of_alloc wr o))
      clear hf hx kb
      replace hlt := Lib.hid hlt
      have ilt : (i : Int) < (m.types.length : Int) := by have := hlt.out; omega
      by_cases hc : x.2.length ≤ 1
      · have e : eTy1 x = 0 := by unfold eTy1; rw [if_pos hc]
        rw [e, if_pos rfl] at hf1
        replace hf1 := Lib.hid hf1
        have n1 : (x.2.length : Int) ≤ 1 := by omega
        have n2 : decide ((x.2.length : Int) ≤ 1) = true := decide_eq_true n1
        clear hc e
        go_wp2_with fail
        refine (vwant_yes 60 _).mono ?_
        rintro e w' ⟨rfl, rfl⟩
        go_wp2
        go_roundw
        case rel => exact ⟨i + 1, by simp, by have := hlt.out; omega, hf1, hal _⟩
        case measure => simp [intOf]; have := hlt.out; omega
      · have e : eTy1 x = 60 := by unfold eTy1; rw [if_neg hc]
        rw [e, if_neg (by decide)] at hf1
        have e2 : X = 60 := by rw [hX1.out, hf1]; rfl
        have n1 : ¬ (x.2.length : Int) ≤ 1 := by omega
        have n2 : decide ((x.2.length : Int) ≤ 1) = false := decide_eq_false n1
        clear hc e hf1
        replace e2 := Lib.hid e2
        go_wp2_with fail
        refine (vwant_no 60 _).mono ?_
        rintro e w' ⟨rfl, rfl⟩
        go_wp2
        exact ⟨rfl, .inr (by rw [e2.out]; exact ⟨by decide, rfl⟩), hTb.out _ _ (hal _).out⟩
    · obtain rfl : i = m.types.length := by omega
      have e1 : Hid (X = firstL (eI m) ((idxL m).drop 0)) := Lib.hid (by
        have := hf.out
        rw [List.drop_length] at this
        rw [hX1.out, this]
        rfl)
      clear hf hlt hX1
      obtain ⟨q0, y0, y1, y2⟩ := hTc.out _ _ hT.out
      go_wp2_with fail
      go_loopw [32] (fun vi wr => ∃ i : Nat, vi = .int .i64 i ∧ i ≤ m.imports.length ∧ Hid (X = firstL (eI m) ((idxL m).drop (i))) ∧ Hid (Tq c q A m w0 wr (fsAt m (i)))) (fun vi _ => m.imports.length - (intOf vi).toNat)
      case atStart => exact ⟨0, rfl, Nat.zero_le _, e1, hT⟩
      case round =>
        clear hT q0 y0 y1 y2 e1
        obtain ⟨i, rfl, hi, hf, hT⟩ := hrel
        by_cases hlt : i < m.imports.length
        · obtain ⟨x, hx⟩ : ∃ x, m.imports[i]? = some x := ⟨_, List.getElem?_eq_getElem hlt⟩
          have hin : (idxL m)[i]? = some x.2.2 := idx_imp hx
          have hn0 := hok _ (List.mem_of_getElem? hin)
          have hf1 := hf.out.trans (firstL_drop hin)
          have hst := fsAt_step hin
          have hil := (List.getElem?_eq_some_iff.1 hin).1
          have hfl := fsAt_len (m := m) (i := i) (by omega)
          rw [idx_len] at hil
          obtain ⟨b, o, hab, ⟨r1, _⟩, ⟨r2, _⟩, r3⟩ := hA.imports.row hx
          have kb := keep_below (hTb.out _ _ hT.out)
          replace r1 : wr.cell? ⟨b, o + i * 3, none⟩ = some (.string x.1) := kb _ _ r1
          replace r2 : wr.cell? ⟨b, o + i * 3 + 1, none⟩ = some (.string x.2.1) := kb _ _ r2
          replace r3 : wr.cell? ⟨b, o + i * 3 + 2, none⟩ = some (.int .i64 x.2.2) := kb _ _ r3
          rw [hab]
          replace hab := Lib.hid hab
          have i0 : (0 : Int) ≤ (i : Int) := by omega
          have hTo := fun o => hT.out.step (Below.of_alloc wr o)
          have hca : ∀ o, Hid (Calls Tryd.prog 21 #[.int .i64 x.2.2, .pointer (some ⟨q, 0, none⟩)] (wr.alloc o) fun e w' =>
              match m.types[x.2.2.toNat]? with
              | some t => e = .returned (.tuple #[]) ∧ ∃ fv', Ck (q + 1) c A m w0 w' fv' (fsAt m (i) ++ [t]) ∧ w'.heap[q]? = some (.cells #[.pointer (some ⟨c, 0, none⟩)] 51 (0, 0))
              | none => e = .panicked (faultV 61) ∧ Below (wr.alloc o).heap.size (wr.alloc o) w') := fun o => by
            obtain ⟨fv, h1, h2⟩ := hTo o
            exact Lib.hid (typeOf_any h1 h2 hqc (Nat.lt_succ_self _) _ hn0 (by omega))
          replace hTo := Lib.hid hTo
          clear hf hx kb
          replace hin := Lib.hid hin
          replace hlt := Lib.hid hlt
          have ilt : (i : Int) < (m.imports.length : Int) := by have := hlt.out; omega
          cases ht : m.types[x.2.2.toNat]? with
          | none =>
            rw [ht] at hca
            have e : eI m x.2.2 = 61 := by
              unfold eI eHas
              have := List.getElem?_eq_none_iff.1 ht
              rw [if_neg (by omega)]
            rw [e, if_neg (by decide)] at hf1
            replace hf1 := Lib.hid hf1
            replace ht := Lib.hid ht
            clear e hst hT
            go_wp2_with fail
            refine (hca _).out.mono ?_
            rintro e w' ⟨rfl, b2⟩
            go_wp2
            exact ⟨rfl, .inr (by rw [hf1.out]; exact ⟨by decide, rfl⟩), hTb.out _ _ ((hTo.out _).step b2)⟩
          | some t =>
            rw [ht] at hca
            have e : eI m x.2.2 = 0 := by
              unfold eI eHas
              have := (List.getElem?_eq_some_iff.1 ht).1
              rw [if_pos (by omega)]
            have ht2 : tyN m x.2.2 = t := by
              unfold tyN
              rw [List.getD_eq_getElem?_getD, ht]
              rfl
            rw [ht2] at hst
            rw [e, if_pos rfl] at hf1
            replace hf1 := Lib.hid hf1
            replace hst := Lib.hid hst
            replace ht := Lib.hid ht
            clear e ht2 hT
            go_wp2_with fail
            refine (hca _).out.mono ?_
            rintro e w' ⟨rfl, fv', h5, h6⟩
            have hT5 : Hid (Tq c q A m w0 w' (fsAt m (i + 1))) := Lib.hid ⟨fv', by rw [hst.out]; exact h5, h6⟩
            clear h5 h6
            go_wp2
            go_roundw
            case rel => exact ⟨i + 1, by simp, by have := hlt.out; omega, hf1, hT5⟩
            case measure => simp [intOf]; have := hlt.out; omega
        · obtain rfl : i = m.imports.length := by omega
          have e2 : Hid (X = firstL (eI m) ((idxL m).drop (m.imports.length + 0))) := hf
          obtain ⟨q0, y0, y1, y2⟩ := hTc.out _ _ hT.out
          clear hf hlt
          go_wp2_with fail
          go_loopw [47] (fun vi wr => ∃ i : Nat, vi = .int .i64 i ∧ i ≤ m.funcs.length ∧ Hid (X = firstL (eI m) ((idxL m).drop (m.imports.length + i))) ∧ Hid (Tq c q A m w0 wr (fsAt m (m.imports.length + i)))) (fun vi _ => m.funcs.length - (intOf vi).toNat)
          case atStart => exact ⟨0, rfl, Nat.zero_le _, e2, hT⟩
          case round =>
            clear hT q0 y0 y1 y2 e2
            obtain ⟨i, rfl, hi, hf, hT⟩ := hrel
            by_cases hlt : i < m.funcs.length
            · obtain ⟨x, hx⟩ : ∃ x, m.funcs[i]? = some x := ⟨_, List.getElem?_eq_getElem hlt⟩
              have hin : (idxL m)[m.imports.length + i]? = some x.1 := idx_fun hx
              have hn0 := hok _ (List.mem_of_getElem? hin)
              have hf1 := hf.out.trans (firstL_drop hin)
              have hst := fsAt_step hin
              have hil := (List.getElem?_eq_some_iff.1 hin).1
              have hfl := fsAt_len (m := m) (i := m.imports.length + i) (by omega)
              rw [idx_len] at hil
              obtain ⟨b, o, hab, r1, ⟨la, lk, r2, _⟩, ⟨ba, bk, r3, _, _⟩⟩ := hA.funcs.row hx
              have kb := keep_below (hTb.out _ _ hT.out)
              replace r1 : wr.cell? ⟨b, o + i * 3, none⟩ = some (.int .i64 x.1) := kb _ _ r1
              replace r2 : wr.cell? ⟨b, o + i * 3 + 1, none⟩ = some (.slice la x.2.1.length lk) := kb _ _ r2
              replace r3 : wr.cell? ⟨b, o + i * 3 + 2, none⟩ = some (.slice ba x.2.2.len bk) := kb _ _ r3
              rw [hab]
              replace hab := Lib.hid hab
              have i0 : (0 : Int) ≤ (i : Int) := by omega
              have hTo := fun o => hT.out.step (Below.of_alloc wr o)
              have hca : ∀ o, Hid (Calls Tryd.prog 21 #[.int .i64 x.1, .pointer (some ⟨q, 0, none⟩)] (wr.alloc o) fun e w' =>
                  match m.types[x.1.toNat]? with
                  | some t => e = .returned (.tuple #[]) ∧ ∃ fv', Ck (q + 1) c A m w0 w' fv' (fsAt m (m.imports.length + i) ++ [t]) ∧ w'.heap[q]? = some (.cells #[.pointer (some ⟨c, 0, none⟩)] 51 (0, 0))
                  | none => e = .panicked (faultV 61) ∧ Below (wr.alloc o).heap.size (wr.alloc o) w') := fun o => by
                obtain ⟨fv, h1, h2⟩ := hTo o
                exact Lib.hid (typeOf_any h1 h2 hqc (Nat.lt_succ_self _) _ hn0 (by omega))
              replace hTo := Lib.hid hTo
              clear hf hx kb
              replace hin := Lib.hid hin
              replace hlt := Lib.hid hlt
              have ilt : (i : Int) < (m.funcs.length : Int) := by have := hlt.out; omega
              cases ht : m.types[x.1.toNat]? with
              | none =>
                rw [ht] at hca
                have e : eI m x.1 = 61 := by
                  unfold eI eHas
                  have := List.getElem?_eq_none_iff.1 ht
                  rw [if_neg (by omega)]
                rw [e, if_neg (by decide)] at hf1
                replace hf1 := Lib.hid hf1
                replace ht := Lib.hid ht
                clear e hst hT
                go_wp2_with fail
                refine (hca _).out.mono ?_
                rintro e w' ⟨rfl, b2⟩
                go_wp2
                exact ⟨rfl, .inr (by rw [hf1.out]; exact ⟨by decide, rfl⟩), hTb.out _ _ ((hTo.out _).step b2)⟩
              | some t =>
                rw [ht] at hca
                have e : eI m x.1 = 0 := by
                  unfold eI eHas
                  have := (List.getElem?_eq_some_iff.1 ht).1
                  rw [if_pos (by omega)]
                have ht2 : tyN m x.1 = t := by
                  unfold tyN
                  rw [List.getD_eq_getElem?_getD, ht]
                  rfl
                rw [ht2] at hst
                rw [e, if_pos rfl] at hf1
                replace hf1 := Lib.hid hf1
                replace hst := Lib.hid hst
                replace ht := Lib.hid ht
                clear e ht2 hT
                go_wp2_with fail
                refine (hca _).out.mono ?_
                rintro e w' ⟨rfl, fv', h5, h6⟩
                have hT5 : Hid (Tq c q A m w0 w' (fsAt m (m.imports.length + i + 1))) := Lib.hid ⟨fv', by rw [hst.out]; exact h5, h6⟩
                clear h5 h6
                go_wp2
                go_roundw
                case rel => exact ⟨i + 1, by simp, by have := hlt.out; omega, hf1, hT5⟩
                case measure => simp [intOf]; have := hlt.out; omega
            · obtain rfl : i = m.funcs.length := by omega
              have hil : m.imports.length + m.funcs.length = (idxL m).length := (idx_len m).symm
              rw [hil] at hf hT
              have e4 : X = 0 := by
                have := hf.out
                rw [List.drop_length] at this
                exact this
              rw [fsAt_all] at hT
              obtain ⟨fv, h1, h2⟩ := hT.out
              clear hf hlt hT
              replace e4 := Lib.hid e4
              replace h1 := Lib.hid h1
              go_wp2
              go_end0
              exact ⟨.inl ⟨e4.out, rfl, _, fv, h1.out⟩, h1.out.bw⟩
end

end Go.Proofs.YtacohbllbjgdgaaDoor
