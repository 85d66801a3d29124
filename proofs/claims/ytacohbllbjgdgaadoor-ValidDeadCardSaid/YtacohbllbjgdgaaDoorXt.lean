/- The checker: tables, memories and globals. -/
import Derived.Test.YtacohbllbjgdgaaDoorXs
namespace Go.Proofs.YtacohbllbjgdgaaDoor
open Go.RowKit
set_option linter.unusedVariables false
set_option linter.unusedSimpArgs false

/-- The first that is wrong; 0: nothing. -/
def firstL {α : Type} (f : α → Int) : List α → Int
  | [] => 0
  | x :: r => if f x = 0 then firstL f r else f x
def fst2 (a b : Int) : Int := if a = 0 then b else a
def eTab (t : Int × Int × Bool) : Int := if t.2.2 = true ∧ t.2.1 < t.1 then 60 else 0
def eMem (t : Int × Int × Bool) : Int := if (t.2.2 = true ∧ t.2.1 < t.1) ∨ 65536 < t.1 ∨ 65536 < t.2.1 then 60 else 0
def eGlo (g : Int × Bool × One) : Int := if g.2.2.op = 35 then 62 else if (g.2.2.op = 65 ∧ g.1 = 127) ∨ (g.2.2.op = 66 ∧ g.1 = 126) then 0 else 60
def eMany (n : Nat) : Int := if n ≤ 1 then 0 else 3
def partsV (m : Md) : Int := fst2 (eMany m.tables.length) (fst2 (firstL eTab m.tables) (fst2 (eMany m.mems.length) (fst2 (firstL eMem m.mems) (firstL eGlo m.globals))))
def endN (w : World) (x : Int) (e : Ending) (w' : World) : Prop := (x = 0 ∧ e = .returned (.tuple #[]) ∨ x ≠ 0 ∧ e = .panicked (faultV x)) ∧ Below w.heap.size w w'
theorem firstL_drop {α : Type} {f : α → Int} {l : List α} {i : Nat} {x : α} (hx : l[i]? = some x) : firstL f (l.drop i) = if f x = 0 then firstL f (l.drop (i + 1)) else f x := by
  have hl := List.getElem?_eq_some_iff.1 hx
  rw [List.drop_eq_getElem_cons hl.1, hl.2]
  rfl
section
variable {w w' : World} {c : Nat} {m : Md} {fs : List (List Int × List Int)} {a0 : Option Addr} {k0 : Nat} {a1 : Option Addr} {k1 : Nat} {a2 : Option Addr} {k2 : Nat} {a3 : Option Addr} {k3 : Nat} {a4 : Option Addr} {k4 : Nat} {a5 : Option Addr} {k5 : Nat}
    {a6 : Option Addr} {k6 : Nat} {a7 : Option Addr} {k7 : Nat} {a8 : Option Addr} {k8 : Nat} {a9 : Option Addr} {k9 : Nat} {fa : Option Addr} {fk : Nat}
set_option maxRecDepth 100000 in
set_option maxHeartbeats 16000000 in
theorem parts_any (h : ChkAt w c m fs a0 k0 a1 k1 a2 k2 a3 k3 a4 k4 a5 k5 a6 k6 a7 k7 a8 k8 a9 k9 fa fk) : Calls Tryd.prog 12 #[.pointer (some ⟨c, 0, none⟩)] w (endN w (partsV m)) := by
  generalize hX : partsV m = X
  replace hX := Lib.hid hX
  have hb0 : Hid (Below w.heap.size w w) := Lib.hid (Below.refl _ _)
  obtain ⟨y0, y1, y2, y3, y4, y5, y6, y7, y8, y9, y10, _⟩ := h.cc
  have l3 := h.md.tables.1
  have l4 := h.md.mems.1
  have l5 := h.md.globals.1
  replace h := Lib.hid h
  have hX1 : X = fst2 (eMany m.tables.length) (fst2 (firstL eTab m.tables) (fst2 (eMany m.mems.length) (fst2 (firstL eMem m.mems) (firstL eGlo m.globals)))) := hX.out.symm
  replace hX1 := Lib.hid hX1
  clear hX
  by_cases ht : m.tables.length ≤ 1
  · have e1 : Hid (X = fst2 (firstL eTab m.tables) (fst2 (eMany m.mems.length) (fst2 (firstL eMem m.mems) (firstL eGlo m.globals)))) := Lib.hid (by rw [hX1.out, show eMany m.tables.length = 0 by unfold eMany; rw [if_pos ht]]; rfl)
    have i1 : (m.tables.length : Int) ≤ 1 := by omega
    have i2 : decide ((m.tables.length : Int) ≤ 1) = true := decide_eq_true i1
    clear ht
    go_enter Tryd.func12, Tryd.ntmps12
    go_wp2_with fail
    refine (vwant_yes 3 _).mono ?_
    rintro e w' ⟨rfl, rfl⟩
    clear i1 i2
    go_wp2_with fail
    go_loopw [22] (fun vi wr => ∃ i : Nat, vi = .int .i64 i ∧ i ≤ m.tables.length ∧ Hid (firstL eTab m.tables = firstL eTab (m.tables.drop i)) ∧ Hid (Below w.heap.size w wr)) (fun vi _ => m.tables.length - (intOf vi).toNat)
    case atStart => exact ⟨0, rfl, Nat.zero_le _, Lib.hid rfl, hb0⟩
    case round =>
      clear hb0
      obtain ⟨i, rfl, hi, hf, hb0⟩ := hrel
      have hc := h.out.step hb0.out
      by_cases hlt : i < m.tables.length
      · obtain ⟨x, hx⟩ : ∃ x, m.tables[i]? = some x := ⟨_, List.getElem?_eq_getElem hlt⟩
        obtain ⟨b, o, rfl, r1, r2, r3⟩ := hc.md.tables.row hx
        replace r1 : wr.cell? ⟨b, o + i * 3, none⟩ = some (.int .i64 x.1) := r1
        replace r2 : wr.cell? ⟨b, o + i * 3 + 1, none⟩ = some (.int .i64 x.2.1) := r2
        replace r3 : wr.cell? ⟨b, o + i * 3 + 2, none⟩ = some (.bool x.2.2) := r3
        have hf1 := hf.out.trans (firstL_drop hx)
        clear hf hc
        have hal : ∀ o, Below w.heap.size w (wr.alloc o) := fun o => hb0.out.trans ((Below.of_alloc wr o).mono hb0.out.size)
        replace hx := Lib.hid hx
        by_cases he : eTab x = 0
        · rw [if_pos he] at hf1
          replace hf1 := Lib.hid hf1
          have hcase : x.2.2 = false ∨ (x.2.2 = true ∧ x.1 ≤ x.2.1) := by
            unfold eTab at he
            cases hq : x.2.2 with
            | false => exact .inl rfl
            | true =>
              refine .inr ⟨rfl, ?_⟩
              by_cases hh : x.2.1 < x.1
              · rw [if_pos ⟨hq, hh⟩] at he; omega
              · omega
          clear he
          rcases hcase with hq | ⟨hq, hle⟩
          all_goals (
            rw [hq] at r3
            go_wp2_with fail
            refine (vwant_yes 60 _).mono ?_
            rintro e w' ⟨rfl, rfl⟩
            go_wp2
            go_roundw
            case rel => exact ⟨i + 1, by simp, by omega, hf1, Lib.hid (hal _)⟩
            case measure => simp [intOf]; omega)
        · rw [if_neg he] at hf1
          have hcase : x.2.2 = true ∧ x.2.1 < x.1 ∧ eTab x = 60 := by
            unfold eTab at he ⊢
            by_cases hh : x.2.2 = true ∧ x.2.1 < x.1
            · exact ⟨hh.1, hh.2, if_pos hh⟩
            · rw [if_neg hh] at he; exact absurd rfl he
          obtain ⟨hq, hle, h60⟩ := hcase
          rw [h60] at hf1
          have e2 : X = 60 := by rw [e1.out, hf1]; rfl
          replace e2 := Lib.hid e2
          have hnl : ¬ x.1 ≤ x.2.1 := by omega
          clear he hf1 e1 h60
          rw [hq] at r3
          go_wp2_with fail
          refine (vwant_no 60 _).mono ?_
          rintro e w' ⟨rfl, rfl⟩
          go_wp2
          exact ⟨rfl, .inr (by rw [e2.out]; exact ⟨by decide, rfl⟩), hal _⟩
      · obtain rfl : i = m.tables.length := by omega
        rw [List.drop_length] at hf
        have e1' : X = fst2 (eMany m.mems.length) (fst2 (firstL eMem m.mems) (firstL eGlo m.globals)) := by rw [e1.out, hf.out]; rfl
        clear e1 hf
        obtain ⟨y0, y1, y2, y3, y4, y5, y6, y7, y8, y9, y10, _⟩ := hc.cc
        replace e1' := Lib.hid e1'
        by_cases ht : m.mems.length ≤ 1
        · have e1 : Hid (X = fst2 (firstL eMem m.mems) (firstL eGlo m.globals)) := Lib.hid (by rw [e1'.out, show eMany m.mems.length = 0 by unfold eMany; rw [if_pos ht]]; rfl)
          have i1 : (m.mems.length : Int) ≤ 1 := by omega
          have i2 : decide ((m.mems.length : Int) ≤ 1) = true := decide_eq_true i1
          clear ht
          go_wp2_with fail
          refine (vwant_yes 3 _).mono ?_
          rintro e w' ⟨rfl, rfl⟩
          clear i1 i2
          go_wp2_with fail
          go_loopw [52] (fun vi wr => ∃ i : Nat, vi = .int .i64 i ∧ i ≤ m.mems.length ∧ Hid (firstL eMem m.mems = firstL eMem (m.mems.drop i)) ∧ Hid (Below w.heap.size w wr)) (fun vi _ => m.mems.length - (intOf vi).toNat)
          case atStart => exact ⟨0, rfl, Nat.zero_le _, Lib.hid rfl, hb0⟩
          case round =>
            clear hb0
            obtain ⟨i, rfl, hi, hf, hb0⟩ := hrel
            have hc := h.out.step hb0.out
            by_cases hlt : i < m.mems.length
            · obtain ⟨x, hx⟩ : ∃ x, m.mems[i]? = some x := ⟨_, List.getElem?_eq_getElem hlt⟩
              obtain ⟨b, o, rfl, r1, r2, r3⟩ := hc.md.mems.row hx
              replace r1 : wr.cell? ⟨b, o + i * 3, none⟩ = some (.int .i64 x.1) := r1
              replace r2 : wr.cell? ⟨b, o + i * 3 + 1, none⟩ = some (.int .i64 x.2.1) := r2
              replace r3 : wr.cell? ⟨b, o + i * 3 + 2, none⟩ = some (.bool x.2.2) := r3
              have hf1 := hf.out.trans (firstL_drop hx)
              clear hf hc
              have hal : ∀ o, Below w.heap.size w (wr.alloc o) := fun o => hb0.out.trans ((Below.of_alloc wr o).mono hb0.out.size)
              replace hx := Lib.hid hx
              by_cases he : eMem x = 0
              · rw [if_pos he] at hf1
                replace hf1 := Lib.hid hf1
                have hcase : (x.2.2 = false ∨ (x.2.2 = true ∧ x.1 ≤ x.2.1)) ∧ x.1 ≤ 65536 ∧ x.2.1 ≤ 65536 := by
                  unfold eMem at he
                  by_cases hh : (x.2.2 = true ∧ x.2.1 < x.1) ∨ 65536 < x.1 ∨ 65536 < x.2.1
                  · rw [if_pos hh] at he; omega
                  · refine ⟨?_, by omega, by omega⟩
                    cases hq : x.2.2 with
                    | false => exact .inl rfl
                    | true =>
                      refine .inr ⟨rfl, ?_⟩
                      by_cases hle : x.2.1 < x.1
                      · exact absurd (.inl ⟨hq, hle⟩) hh
                      · omega
                clear he
                obtain ⟨hcase, m1, m2⟩ := hcase
                rcases hcase with hq | ⟨hq, hle⟩
                all_goals (
                  rw [hq] at r3
                  go_wp2_with fail
                  refine (vwant_yes 60 _).mono ?_
                  rintro e w' ⟨rfl, rfl⟩
                  go_wp2
                  go_roundw
                  case rel => exact ⟨i + 1, by simp, by omega, hf1, Lib.hid (hal _)⟩
                  case measure => simp [intOf]; omega)
              · rw [if_neg he] at hf1
                have hcase : eMem x = 60 ∧ ((x.2.2 = true ∧ x.2.1 < x.1) ∨ ((x.2.2 = false ∨ (x.2.2 = true ∧ x.1 ≤ x.2.1)) ∧ 65536 < x.1) ∨ ((x.2.2 = false ∨ (x.2.2 = true ∧ x.1 ≤ x.2.1)) ∧ x.1 ≤ 65536 ∧ 65536 < x.2.1)) := by
                  unfold eMem at he ⊢
                  by_cases hh : (x.2.2 = true ∧ x.2.1 < x.1) ∨ 65536 < x.1 ∨ 65536 < x.2.1
                  · refine ⟨if_pos hh, ?_⟩
                    cases hq : x.2.2 with
                    | false => rw [hq] at hh; simp at hh ⊢; omega
                    | true => rw [hq] at hh; simp at hh ⊢; omega
                  · rw [if_neg hh] at he; exact absurd rfl he
                obtain ⟨h60, hcase⟩ := hcase
                rw [h60] at hf1
                have e2 : X = 60 := by rw [e1.out, hf1]; rfl
                replace e2 := Lib.hid e2
                clear he hf1 e1 h60
                rcases hcase with ⟨hq, hle⟩ | ⟨hq | ⟨hq, hle⟩, m1⟩ | ⟨hq | ⟨hq, hle⟩, m1, m2⟩
                · have hnl : ¬ x.1 ≤ x.2.1 := by omega
                  rw [hq] at r3
                  go_wp2_with fail
                  refine (vwant_no 60 _).mono ?_
                  rintro e w' ⟨rfl, rfl⟩
                  go_wp2
                  exact ⟨rfl, .inr (by rw [e2.out]; exact ⟨by decide, rfl⟩), hal _⟩
                · have hnl : ¬ x.1 ≤ 65536 := by omega
                  rw [hq] at r3
                  go_wp2_with fail
                  refine (vwant_no 60 _).mono ?_
                  rintro e w' ⟨rfl, rfl⟩
                  go_wp2
                  exact ⟨rfl, .inr (by rw [e2.out]; exact ⟨by decide, rfl⟩), hal _⟩
                · have hnl : ¬ x.1 ≤ 65536 := by omega
                  rw [hq] at r3
                  go_wp2_with fail
                  refine (vwant_no 60 _).mono ?_
                  rintro e w' ⟨rfl, rfl⟩
                  go_wp2
                  exact ⟨rfl, .inr (by rw [e2.out]; exact ⟨by decide, rfl⟩), hal _⟩
                · have hnl : ¬ x.2.1 ≤ 65536 := by omega
                  rw [hq] at r3
                  go_wp2_with fail
                  refine (vwant_no 60 _).mono ?_
                  rintro e w' ⟨rfl, rfl⟩
                  go_wp2
                  exact ⟨rfl, .inr (by rw [e2.out]; exact ⟨by decide, rfl⟩), hal _⟩
                · have hnl : ¬ x.2.1 ≤ 65536 := by omega
                  rw [hq] at r3
                  go_wp2_with fail
                  refine (vwant_no 60 _).mono ?_
                  rintro e w' ⟨rfl, rfl⟩
                  go_wp2
                  exact ⟨rfl, .inr (by rw [e2.out]; exact ⟨by decide, rfl⟩), hal _⟩
            · obtain rfl : i = m.mems.length := by omega
              rw [List.drop_length] at hf
              have e1' : X = firstL eGlo m.globals := by rw [e1.out, hf.out]; rfl
              clear e1 hf
              obtain ⟨y0, y1, y2, y3, y4, y5, y6, y7, y8, y9, y10, _⟩ := hc.cc
              have e1 := Lib.hid e1'
              clear e1' hc
              go_wp2_with fail
              go_loopw [84] (fun vi wr => ∃ i : Nat, vi = .int .i64 i ∧ i ≤ m.globals.length ∧ Hid (firstL eGlo m.globals = firstL eGlo (m.globals.drop i)) ∧ Hid (Below w.heap.size w wr)) (fun vi _ => m.globals.length - (intOf vi).toNat)
              case atStart => exact ⟨0, rfl, Nat.zero_le _, Lib.hid rfl, hb0⟩
              case round =>
                clear hb0
                obtain ⟨i, rfl, hi, hf, hb0⟩ := hrel
                have hc := h.out.step hb0.out
                by_cases hlt : i < m.globals.length
                · obtain ⟨x, hx⟩ : ∃ x, m.globals[i]? = some x := ⟨_, List.getElem?_eq_getElem hlt⟩
                  obtain ⟨b, o, rfl, r1, r2, r3⟩ := hc.md.globals.row hx
                  replace r1 : wr.cell? ⟨b, o + i * 9, none⟩ = some (.int .i64 x.1) := r1
                  replace r2 : wr.cell? ⟨b, o + i * 9 + 1, none⟩ = some (.bool x.2.1) := r2
                  obtain ⟨⟨g0, g1, g2, g3⟩, ⟨ga4, gk4, g4, _⟩, ⟨ga5, gk5, g5, _⟩, ⟨ga6, gk6, g6, _⟩, _⟩ := r3
                  have hf1 := hf.out.trans (firstL_drop hx)
                  clear hf hc
                  have hal : ∀ o, Below w.heap.size w (wr.alloc o) := fun o => hb0.out.trans ((Below.of_alloc wr o).mono hb0.out.size)
                  replace hx := Lib.hid hx
                  by_cases he : eGlo x = 0
                  · rw [if_pos he] at hf1
                    replace hf1 := Lib.hid hf1
                    have hcase : ¬ x.2.2.op = 35 ∧ ((x.2.2.op = 65 ∧ x.1 = 127) ∨ (x.2.2.op = 66 ∧ x.1 = 126)) := by
                      unfold eGlo at he
                      by_cases h35 : x.2.2.op = 35
                      · rw [if_pos h35] at he; omega
                      · rw [if_neg h35] at he
                        by_cases hh : (x.2.2.op = 65 ∧ x.1 = 127) ∨ (x.2.2.op = 66 ∧ x.1 = 126)
                        · exact ⟨h35, hh⟩
                        · rw [if_neg hh] at he; omega
                    clear he
                    obtain ⟨h35, hcase⟩ := hcase
                    rcases hcase with ⟨hq, hq2⟩ | ⟨hq, hq2⟩
                    all_goals (
                      rw [hq] at g0
                      rw [hq2] at r1
                      clear h35 hq hq2
                      go_wp2_with fail
                      refine (vwant_yes 62 _).mono ?_
                      rintro e w' ⟨rfl, rfl⟩
                      go_wp2_with fail
                      refine (vwant_yes 60 _).mono ?_
                      rintro e w' ⟨rfl, rfl⟩
                      go_wp2
                      go_roundw
                      case rel => exact ⟨i + 1, by simp, by omega, hf1, Lib.hid (hal _)⟩
                      case measure => simp [intOf]; omega)
                  · rw [if_neg he] at hf1
                    by_cases h35 : x.2.2.op = 35
                    · have h62 : eGlo x = 62 := by unfold eGlo; rw [if_pos h35]
                      rw [h62] at hf1
                      have e2 : X = 62 := by rw [e1.out, hf1]
                      replace e2 := Lib.hid e2
                      rw [h35] at g0
                      clear he hf1 e1 h62 h35
                      go_wp2_with fail
                      refine (vwant_no 62 _).mono ?_
                      rintro e w' ⟨rfl, rfl⟩
                      go_wp2
                      exact ⟨rfl, .inr (by rw [e2.out]; exact ⟨by decide, rfl⟩), hal _⟩
                    · have hcase : eGlo x = 60 ∧ ¬ ((x.2.2.op = 65 ∧ x.1 = 127) ∨ (x.2.2.op = 66 ∧ x.1 = 126)) := by
                        unfold eGlo at he ⊢
                        rw [if_neg h35] at he ⊢
                        by_cases hh : (x.2.2.op = 65 ∧ x.1 = 127) ∨ (x.2.2.op = 66 ∧ x.1 = 126)
                        · rw [if_pos hh] at he; exact absurd rfl he
                        · exact ⟨if_neg hh, hh⟩
                      obtain ⟨h60, hh⟩ := hcase
                      rw [h60] at hf1
                      have e2 : X = 60 := by rw [e1.out, hf1]
                      replace e2 := Lib.hid e2
                      have b35 : (x.2.2.op != 35) = true := by simp [h35]
                      clear he hf1 e1 h60
                      have hc4 : ((x.2.2.op == 65) = true ∧ (x.1 == 127) = false ∧ (x.2.2.op == 66) = false) ∨ ((x.2.2.op == 65) = false ∧ (x.2.2.op == 66) = true ∧ (x.1 == 126) = false) ∨ ((x.2.2.op == 65) = false ∧ (x.2.2.op == 66) = false) := by
                        simp
                        omega
                      clear hh h35
                      rcases hc4 with ⟨q1, q2, q3⟩ | ⟨q1, q2, q3⟩ | ⟨q1, q2⟩
                      all_goals (
                        go_wp2_with fail
                        refine (vwant_yes 62 _).mono ?_
                        rintro e w' ⟨rfl, rfl⟩
                        go_wp2_with fail
                        refine (vwant_no 60 _).mono ?_
                        rintro e w' ⟨rfl, rfl⟩
                        go_wp2
                        exact ⟨rfl, .inr (by rw [e2.out]; exact ⟨by decide, rfl⟩), hal _⟩)
                · obtain rfl : i = m.globals.length := by omega
                  rw [List.drop_length] at hf
                  have e2 : X = 0 := by rw [e1.out, hf.out]; rfl
                  replace e2 := Lib.hid e2
                  go_wp2
                  go_end0
                  exact ⟨.inl ⟨e2.out, rfl⟩, hb0.out⟩
        · have e1 : X = 3 := by rw [e1'.out, show eMany m.mems.length = 3 by unfold eMany; rw [if_neg ht]]; rfl
          replace e1 := Lib.hid e1
          have i1 : ¬ (m.mems.length : Int) ≤ 1 := by omega
          clear ht
          go_wp2_with fail
          refine (vwant_no 3 _).mono ?_
          rintro e w' ⟨rfl, rfl⟩
          go_wp2
          exact ⟨rfl, .inr (by rw [e1.out]; exact ⟨by decide, rfl⟩), hb0.out⟩
  · have e1 : X = 3 := by rw [hX1.out, show eMany m.tables.length = 3 by unfold eMany; rw [if_neg ht]]; rfl
    replace e1 := Lib.hid e1
    have i1 : ¬ (m.tables.length : Int) ≤ 1 := by omega
    clear ht
    go_enter Tryd.func12, Tryd.ntmps12
    go_wp2_with fail
    refine (vwant_no 3 _).mono ?_
    rintro e w' ⟨rfl, rfl⟩
    go_wp2
    exact ⟨rfl, .inr (by rw [e1.out]; exact ⟨by decide, rfl⟩), hb0.out⟩
end

end Go.Proofs.YtacohbllbjgdgaaDoor
