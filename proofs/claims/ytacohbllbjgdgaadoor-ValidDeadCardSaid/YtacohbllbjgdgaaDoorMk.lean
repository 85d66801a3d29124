/- The contract of few. -/
import Derived.Test.YtacohbllbjgdgaaDoorMj
namespace Go.Proofs.YtacohbllbjgdgaaDoor
open Go.RowKit
set_option linter.unusedVariables false

def le4 (n : Int) : Bool := decide (n ≤ 4096)
def lens (m : Md) : List Int := [(m.types.length : Int), m.imports.length, m.funcs.length, m.tables.length, m.mems.length, m.globals.length, m.exports.length, m.elems.length, m.datas.length]
def dataFit : List (One × ByteArray) → Int → Bool
  | [], _ => true
  | d :: r, left => decide ((d.2.size : Int) ≤ left) && dataFit r (left - d.2.size)
def typFew (t : List Int × List Int) : Bool := decide ((t.1.length : Int) ≤ 4096) && decide ((t.2.length : Int) ≤ 4096)
def elmFew (t : One × List Int) : Bool := decide ((t.2.length : Int) ≤ 4096)
def funFew (t : Int × List Int × Il) : Bool := decide ((t.2.1.length : Int) ≤ 256) && lab t.2.2
def few5 (m : Md) : Bool := m.funcs.all funFew
def few4 (m : Md) : Bool := decide (65536 - cntF m.funcs 65536 ≤ 65536) && few5 m
def few3 (m : Md) : Bool := dataFit m.datas 262144 && few4 m
def few2 (m : Md) : Bool := m.elems.all elmFew && few3 m
def few1 (m : Md) : Bool := m.types.all typFew && few2 m
def few0 (m : Md) : Bool := decide ((m.start.length : Int) ≤ 1) && few1 m
/-- Is there too much of nothing? -/
def fewB (m : Md) : Bool := (lens m).all le4 && few0 m

set_option maxRecDepth 100000 in
set_option maxHeartbeats 8000000 in
theorem few_any (m : Md) (a0 : Option Addr) (k0 : Nat) (a1 : Option Addr) (k1 : Nat) (a2 : Option Addr) (k2 : Nat) (a3 : Option Addr) (k3 : Nat) (a4 : Option Addr) (k4 : Nat) (a5 : Option Addr) (k5 : Nat) (a6 : Option Addr) (k6 : Nat) (a7 : Option Addr) (k7 : Nat) (a8 : Option Addr) (k8 : Nat) (a9 : Option Addr) (k9 : Nat) (w : World) (h : MdAt w m a0 k0 a1 k1 a2 k2 a3 k3 a4 k4 a5 k5 a6 k6 a7 k7 a8 k8 a9 k9) :
    Calls Tryd.prog 17 #[mdV m a0 k0 a1 k1 a2 k2 a3 k3 a4 k4 a5 k5 a6 k6 a7 k7 a8 k8 a9 k9] w fun e w' => e = endE (fewB m) 3 ∧ Below w.heap.size w w' := by
  have HM := Lib.hid (h.keep (keep_below ((Below.refl w.heap.size w).alloc (Nat.le_refl _) (.cells #[.slice a0 m.types.length k0, .slice a1 m.imports.length k1, .slice a2 m.funcs.length k2, .slice a3 m.tables.length k3, .slice a4 m.mems.length k4, .slice a5 m.globals.length k5, .slice a6 m.exports.length k6, .slice a7 m.start.length k7, .slice a8 m.elems.length k8, .slice a9 m.datas.length k9] 40))))
  have n0 := h.types.1
  have n1 := h.imports.1
  have n2 := h.funcs.1
  have n3 := h.tables.1
  have n4 := h.mems.1
  have n5 := h.globals.1
  have n6 := h.exports.1
  have n7 := h.start.1
  have n8 := h.elems.1
  have n9 := h.datas.1
  have hB0 : Hid (Below w.heap.size w (w.alloc (.cells #[.slice a0 m.types.length k0, .slice a1 m.imports.length k1, .slice a2 m.funcs.length k2, .slice a3 m.tables.length k3, .slice a4 m.mems.length k4, .slice a5 m.globals.length k5, .slice a6 m.exports.length k6, .slice a7 m.start.length k7, .slice a8 m.elems.length k8, .slice a9 m.datas.length k9] 40))) := Lib.hid ((Below.refl _ _).alloc (Nat.le_refl _) _)
  have hS : Hid (fewB m = ((lens m).all le4 && few0 m)) := Lib.hid rfl
  clear h
  unfold mdV
  go_enter Tryd.func17, Tryd.ntmps17
  go_wp2_with fail
  obtain ⟨w0, hw0⟩ : ∃ w0, w0 = (w.alloc (.cells #[.slice a0 m.types.length k0, .slice a1 m.imports.length k1, .slice a2 m.funcs.length k2, .slice a3 m.tables.length k3, .slice a4 m.mems.length k4, .slice a5 m.globals.length k5, .slice a6 m.exports.length k6, .slice a7 m.start.length k7, .slice a8 m.elems.length k8, .slice a9 m.datas.length k9] 40)) := ⟨_, rfl⟩
  rw [← hw0]
  rw [← hw0] at HM hB0
  have hs0 : w.heap.size ≤ w0.heap.size := hB0.out.size
  have hs1 : w0.heap.size = w.heap.size + 1 := by rw [hw0]; simp
  have y0 : Hid (w0.cell? ⟨w.heap.size, 0, none⟩ = some (.slice a0 m.types.length k0)) := Lib.hid (by rw [hw0]; exact World.cell?_alloc_at _ _ _ _ rfl)
  have y1 : Hid (w0.cell? ⟨w.heap.size, 1, none⟩ = some (.slice a1 m.imports.length k1)) := Lib.hid (by rw [hw0]; exact World.cell?_alloc_at _ _ _ _ rfl)
  have y2 : Hid (w0.cell? ⟨w.heap.size, 2, none⟩ = some (.slice a2 m.funcs.length k2)) := Lib.hid (by rw [hw0]; exact World.cell?_alloc_at _ _ _ _ rfl)
  have y3 : Hid (w0.cell? ⟨w.heap.size, 3, none⟩ = some (.slice a3 m.tables.length k3)) := Lib.hid (by rw [hw0]; exact World.cell?_alloc_at _ _ _ _ rfl)
  have y4 : Hid (w0.cell? ⟨w.heap.size, 4, none⟩ = some (.slice a4 m.mems.length k4)) := Lib.hid (by rw [hw0]; exact World.cell?_alloc_at _ _ _ _ rfl)
  have y5 : Hid (w0.cell? ⟨w.heap.size, 5, none⟩ = some (.slice a5 m.globals.length k5)) := Lib.hid (by rw [hw0]; exact World.cell?_alloc_at _ _ _ _ rfl)
  have y6 : Hid (w0.cell? ⟨w.heap.size, 6, none⟩ = some (.slice a6 m.exports.length k6)) := Lib.hid (by rw [hw0]; exact World.cell?_alloc_at _ _ _ _ rfl)
  have y7 : Hid (w0.cell? ⟨w.heap.size, 7, none⟩ = some (.slice a7 m.start.length k7)) := Lib.hid (by rw [hw0]; exact World.cell?_alloc_at _ _ _ _ rfl)
  have y8 : Hid (w0.cell? ⟨w.heap.size, 8, none⟩ = some (.slice a8 m.elems.length k8)) := Lib.hid (by rw [hw0]; exact World.cell?_alloc_at _ _ _ _ rfl)
  have y9 : Hid (w0.cell? ⟨w.heap.size, 9, none⟩ = some (.slice a9 m.datas.length k9)) := Lib.hid (by rw [hw0]; exact World.cell?_alloc_at _ _ _ _ rfl)
  obtain ⟨wq, hwq⟩ : ∃ wq, wq = w0.alloc (.cells #[.int .i64 m.types.length, .int .i64 m.imports.length, .int .i64 m.funcs.length, .int .i64 m.tables.length, .int .i64 m.mems.length, .int .i64 m.globals.length, .int .i64 m.exports.length, .int .i64 m.elems.length, .int .i64 m.datas.length] 3) := ⟨_, rfl⟩
  have HI : Hid (IntsIn wq (some ⟨w.heap.size + 1, 0, none⟩) (lens m)) := Lib.hid (by rw [hwq, ← hs1]; have := ints_new w0 (lens m) (by simp [lens]); simpa [lens] using this)
  have hbq : Hid (Below w0.heap.size w0 wq) := Lib.hid (by rw [hwq]; exact (Below.refl _ _).alloc (Nat.le_refl _) _)
  rw [← hwq]
  clear hwq hw0 hs1
  have hl9 : (lens m).length = 9 := rfl
  go_loop [43] (fun vi => ∃ i : Nat, i ≤ 9 ∧ vi = .int .i64 i ∧ Hid (((lens m).take i).all le4 = true)) (fun vi => 9 - (intOf vi).toNat)
  case atStart => exact ⟨0, Nat.zero_le _, rfl, Lib.hid rfl⟩
  case round =>
    obtain ⟨i, hi, rfl, ha⟩ := hrel
    by_cases hlt : i < 9
    · obtain ⟨x, hx⟩ : ∃ x, (lens m)[i]? = some x := ⟨_, List.getElem?_eq_getElem (by rw [hl9]; exact hlt)⟩
      obtain ⟨b, o, e, hcell⟩ := HI.out.cell hx
      cases e
      rw [Nat.zero_add] at hcell
      have hn := Lib.hid (all_drop hx ha.out)
      clear hx
      by_cases h1 : x ≤ 4096
      · have hn2 := Lib.hid (hn.out.1 (decide_eq_true h1))
        go_wp2_with fail
        refine (cnt1_yes x _ h1).mono ?_
        rintro e w' ⟨rfl, rfl⟩
        go_wp2
        go_round
        case rel => exact ⟨i + 1, by omega, by simp, hn2⟩
        case measure => simp [intOf]; omega
      · have hn2 := Lib.hid (hn.out.2 (decide_eq_false h1))
        go_wp2_with fail
        refine (cnt1_no x _ (by omega)).mono ?_
        rintro e w' ⟨rfl, rfl⟩
        go_wp2
        exact ⟨rfl, by rw [hS.out, hn2.out]; rfl, hB0.out.trans (hbq.out.mono hs0)⟩
    · obtain rfl : i = 9 := by omega
      have ha2 : (lens m).all le4 = true := by have := ha.out; rwa [List.take_of_length_le (by rw [hl9]; decide)] at this
      have hS1 : Hid (fewB m = (decide ((m.start.length : Int) ≤ 1) && few1 m)) := Lib.hid (by rw [hS.out, ha2]; rfl)
      clear ha ha2 hi hlt hS HI
      have x7 : wq.cell? ⟨w.heap.size, 7, none⟩ = some (.slice a7 m.start.length k7) := keep_below hbq.out _ _ y7.out
      have x0 : wq.cell? ⟨w.heap.size, 0, none⟩ = some (.slice a0 m.types.length k0) := keep_below hbq.out _ _ y0.out
      by_cases h1 : (m.start.length : Int) ≤ 1
      · have d1 : decide ((m.start.length : Int) ≤ 1) = true := decide_eq_true h1
        have S1 : Hid (fewB m = (m.types.all typFew && few2 m)) := Lib.hid (by rw [hS1.out, d1]; rfl)
        clear hS1
        go_wp2_with fail
        refine (want_yes 3 _).mono ?_
        rintro e w' ⟨rfl, rfl⟩
        go_wp2_with fail
        go_loopw [59] (fun vi wr => ∃ i : Nat, i ≤ m.types.length ∧ vi = .int .i64 i ∧ Hid ((m.types.take i).all typFew = true) ∧ Hid (Below w0.heap.size w0 wr)) (fun vi _ => m.types.length - (intOf vi).toNat)
        case atStart => exact ⟨0, Nat.zero_le _, rfl, Lib.hid rfl, hbq⟩
        case round =>
          obtain ⟨i, hi, rfl, ha, hb⟩ := hrel
          by_cases hlt : i < m.types.length
          · obtain ⟨t, ht⟩ : ∃ t, m.types[i]? = some t := ⟨_, List.getElem?_eq_getElem hlt⟩
            obtain ⟨b, o, e, hrow⟩ := (HM.out.types.keep fun _ _ _ => TypeAt.keep (keep_below hb.out)).row ht
            cases e
            have hn := Lib.hid (all_row ht ha.out)
            have hal := fun o => (Below.refl wr.heap.size wr).alloc (Nat.le_refl _) o
            clear ht ha
            obtain ⟨ps, rs⟩ := t
            obtain ⟨⟨q0, r0, c0, i0⟩, ⟨q1, r1, c1, i1⟩⟩ := hrow
            simp only at c0 c1 i0 i1
            have n0' := i0.1
            have n1' := i1.1
            have hb2 : ∀ o, Below w0.heap.size w0 (wr.alloc o) := fun o => hb.out.trans ((hal o).mono hb.out.size)
            have hz : Hid (typFew (ps, rs) = (decide ((ps.length : Int) ≤ 4096) && decide ((rs.length : Int) ≤ 4096))) := Lib.hid rfl
            by_cases h1 : (ps.length : Int) ≤ 4096
            · have d1 : decide ((ps.length : Int) ≤ 4096) = true := decide_eq_true h1
              by_cases h2 : (rs.length : Int) ≤ 4096
              · have d2 : decide ((rs.length : Int) ≤ 4096) = true := decide_eq_true h2
                have hn2 := Lib.hid (hn.out.1 (by rw [hz.out, d1, d2]; rfl))
                go_wp2_with fail
                refine (cnt1_yes _ _ h1).mono ?_
                rintro e w' ⟨rfl, rfl⟩
                go_wp2_with fail
                refine (cnt1_yes _ _ h2).mono ?_
                rintro e w' ⟨rfl, rfl⟩
                go_wp2
                go_roundw
                case rel => exact ⟨i + 1, by omega, by simp, hn2, Lib.hid (hb2 _)⟩
                case measure => simp [intOf]; omega
              · have d2 : decide ((rs.length : Int) ≤ 4096) = false := decide_eq_false h2
                have hn2 := Lib.hid (hn.out.2 (by rw [hz.out, d1, d2]; rfl))
                go_wp2_with fail
                refine (cnt1_yes _ _ h1).mono ?_
                rintro e w' ⟨rfl, rfl⟩
                go_wp2_with fail
                refine (cnt1_no (rs.length : Int) _ (by omega)).mono ?_
                rintro e w' ⟨rfl, rfl⟩
                go_wp2
                exact ⟨rfl, by rw [S1.out, hn2.out]; rfl, hB0.out.trans ((hb2 _).mono hs0)⟩
            · have d1 : decide ((ps.length : Int) ≤ 4096) = false := decide_eq_false h1
              have hn2 := Lib.hid (hn.out.2 (by rw [hz.out, d1]; rfl))
              go_wp2_with fail
              refine (cnt1_no (ps.length : Int) _ (by omega)).mono ?_
              rintro e w' ⟨rfl, rfl⟩
              go_wp2
              exact ⟨rfl, by rw [S1.out, hn2.out]; rfl, hB0.out.trans ((hb2 _).mono hs0)⟩
          · have hiN : i = m.types.length := by omega
            subst hiN
            have ha2 : m.types.all typFew = true := by have := ha.out; rwa [List.take_length] at this
            have S2 : Hid (fewB m = (m.elems.all elmFew && few3 m)) := Lib.hid (by rw [S1.out, ha2]; rfl)
            clear ha ha2 hi hlt
            have x8 : wr.cell? ⟨w.heap.size, 8, none⟩ = some (.slice a8 m.elems.length k8) := keep_below hb.out _ _ y8.out
            go_wp2_with fail
            go_loopw [77] (fun vi wr => ∃ i : Nat, i ≤ m.elems.length ∧ vi = .int .i64 i ∧ Hid ((m.elems.take i).all elmFew = true) ∧ Hid (Below w0.heap.size w0 wr)) (fun vi _ => m.elems.length - (intOf vi).toNat)
            case atStart => exact ⟨0, Nat.zero_le _, rfl, Lib.hid rfl, hb⟩
            case round =>
              obtain ⟨i, hi, rfl, ha, hb⟩ := hrel
              by_cases hlt : i < m.elems.length
              · obtain ⟨t, ht⟩ : ∃ t, m.elems[i]? = some t := ⟨_, List.getElem?_eq_getElem hlt⟩
                obtain ⟨b, o, e, hrow⟩ := (HM.out.elems.keep fun _ _ _ => ElemAt.keep (keep_below hb.out)).row ht
                cases e
                have hn := Lib.hid (all_row ht ha.out)
                have hal := fun o => (Below.refl wr.heap.size wr).alloc (Nat.le_refl _) o
                clear ht ha
                obtain ⟨⟨op, ix, iy, iz, ls, body, els⟩, fl⟩ := t
                obtain ⟨⟨⟨c0, c1, c2, c3⟩, ⟨q4, r4, c4, _⟩, ⟨q5, r5, c5, _, _⟩, ⟨q6, r6, c6, _, _⟩, _⟩, ⟨q7, r7, c7, i7⟩⟩ := hrow
                simp only at c7 i7
                have n7' := i7.1
                have hb2 : ∀ o, Below w0.heap.size w0 (wr.alloc o) := fun o => hb.out.trans ((hal o).mono hb.out.size)
                by_cases h1 : (fl.length : Int) ≤ 4096
                · have hn2 := Lib.hid (hn.out.1 (decide_eq_true h1))
                  go_wp2_with fail
                  refine (cnt1_yes _ _ h1).mono ?_
                  rintro e w' ⟨rfl, rfl⟩
                  go_wp2
                  go_roundw
                  case rel => exact ⟨i + 1, by omega, by simp, hn2, Lib.hid (hb2 _)⟩
                  case measure => simp [intOf]; omega
                · have hn2 := Lib.hid (hn.out.2 (decide_eq_false h1))
                  go_wp2_with fail
                  refine (cnt1_no (fl.length : Int) _ (by omega)).mono ?_
                  rintro e w' ⟨rfl, rfl⟩
                  go_wp2
                  exact ⟨rfl, by rw [S2.out, hn2.out]; rfl, hB0.out.trans ((hb2 _).mono hs0)⟩
              · have hiN : i = m.elems.length := by omega
                subst hiN
                have ha2 : m.elems.all elmFew = true := by have := ha.out; rwa [List.take_length] at this
                have S3 : Hid (fewB m = (dataFit m.datas 262144 && few4 m)) := Lib.hid (by rw [S2.out, ha2]; rfl)
                clear ha ha2 hi hlt
                have x9 : wr.cell? ⟨w.heap.size, 9, none⟩ = some (.slice a9 m.datas.length k9) := keep_below hb.out _ _ y9.out
                go_wp2_with fail
                go_loopw [9, 90] (fun vl vi wr => ∃ (i : Nat) (Q : Int), i ≤ m.datas.length ∧ vi = .int .i64 i ∧ vl = .int .i64 Q ∧ 0 ≤ Q ∧ Q ≤ 262144 ∧ Hid (dataFit m.datas 262144 = dataFit (m.datas.drop i) Q) ∧ Hid (Below w0.heap.size w0 wr)) (fun _ vi _ => m.datas.length - (intOf vi).toNat)
                case atStart => exact ⟨0, 262144, Nat.zero_le _, rfl, rfl, by omega, by omega, Lib.hid rfl, hb⟩
                case round =>
                  clear hb
                  obtain ⟨i, Q, hi, rfl, rfl, hQ0, hQ1, ha, hb⟩ := hrel
                  by_cases hlt : i < m.datas.length
                  · obtain ⟨t, ht⟩ : ∃ t, m.datas[i]? = some t := ⟨_, List.getElem?_eq_getElem hlt⟩
                    obtain ⟨b, o, e, hrow⟩ := (HM.out.datas.keep fun _ _ _ => DataAt.keep (keep_below hb.out)).row ht
                    cases e
                    have hd := drop_at ht
                    have hal := fun o => (Below.refl wr.heap.size wr).alloc (Nat.le_refl _) o
                    obtain ⟨⟨op, ix, iy, iz, ls, body, els⟩, sb⟩ := t
                    have ha2 : Hid (dataFit m.datas 262144 = (decide ((sb.size : Int) ≤ Q) && dataFit (m.datas.drop (i + 1)) (Q - sb.size))) := Lib.hid (by rw [ha.out, hd]; rfl)
                    clear hd ha ht
                    obtain ⟨⟨⟨c0, c1, c2, c3⟩, ⟨q4, r4, c4, _⟩, ⟨q5, r5, c5, _, _⟩, ⟨q6, r6, c6, _, _⟩, _⟩, c7, hsz⟩ := hrow
                    simp only at c7 hsz
                    have hb2 : ∀ o, Below w0.heap.size w0 (wr.alloc o) := fun o => hb.out.trans ((hal o).mono hb.out.size)
                    by_cases h1 : (sb.size : Int) ≤ Q
                    · have d1 : decide ((sb.size : Int) ≤ Q) = true := decide_eq_true h1
                      rw [d1, Bool.true_and] at ha2
                      go_wp2_with fail
                      refine (want_yes 3 _).mono ?_
                      rintro e w' ⟨rfl, rfl⟩
                      go_wp2
                      go_roundw
                      case rel => exact ⟨i + 1, Q - sb.size, by omega, by simp, by simp, by omega, by omega, ha2, Lib.hid (hb2 _)⟩
                      case measure => simp [intOf]; omega
                    · have d1 : decide ((sb.size : Int) ≤ Q) = false := decide_eq_false h1
                      rw [d1, Bool.false_and] at ha2
                      go_wp2_with fail
                      refine (want_no 3 _).mono ?_
                      rintro e w' ⟨rfl, rfl⟩
                      go_wp2
                      exact ⟨rfl, by rw [S3.out, ha2.out]; rfl, hB0.out.trans ((hb2 _).mono hs0)⟩
                  · have hiN : i = m.datas.length := by omega
                    subst hiN
                    have ha2 : dataFit m.datas 262144 = true := by have := ha.out; rw [List.drop_length] at this; exact this
                    have S4 : Hid (fewB m = few4 m) := Lib.hid (by rw [S3.out, ha2]; rfl)
                    clear ha ha2 hi hlt
                    have x0 : wr.cell? ⟨w.heap.size, 0, none⟩ = some (.slice a0 m.types.length k0) := keep_below hb.out _ _ y0.out
                    have x1 : wr.cell? ⟨w.heap.size, 1, none⟩ = some (.slice a1 m.imports.length k1) := keep_below hb.out _ _ y1.out
                    have x2 : wr.cell? ⟨w.heap.size, 2, none⟩ = some (.slice a2 m.funcs.length k2) := keep_below hb.out _ _ y2.out
                    have x3 : wr.cell? ⟨w.heap.size, 3, none⟩ = some (.slice a3 m.tables.length k3) := keep_below hb.out _ _ y3.out
                    have x4 : wr.cell? ⟨w.heap.size, 4, none⟩ = some (.slice a4 m.mems.length k4) := keep_below hb.out _ _ y4.out
                    have x5 : wr.cell? ⟨w.heap.size, 5, none⟩ = some (.slice a5 m.globals.length k5) := keep_below hb.out _ _ y5.out
                    have x6 : wr.cell? ⟨w.heap.size, 6, none⟩ = some (.slice a6 m.exports.length k6) := keep_below hb.out _ _ y6.out
                    have x7 : wr.cell? ⟨w.heap.size, 7, none⟩ = some (.slice a7 m.start.length k7) := keep_below hb.out _ _ y7.out
                    have x8 : wr.cell? ⟨w.heap.size, 8, none⟩ = some (.slice a8 m.elems.length k8) := keep_below hb.out _ _ y8.out
                    have x9 : wr.cell? ⟨w.heap.size, 9, none⟩ = some (.slice a9 m.datas.length k9) := keep_below hb.out _ _ y9.out
                    have hC := fun (wq : World) h => Lib.hid (count_core m (.slice a0 m.types.length k0) (.slice a1 m.imports.length k1) (.slice a3 m.tables.length k3) (.slice a4 m.mems.length k4) (.slice a5 m.globals.length k5) (.slice a6 m.exports.length k6) (.slice a7 m.start.length k7) (.slice a8 m.elems.length k8) (.slice a9 m.datas.length k9) a2 k2 wq h)
                    go_wp2_with fail
                    refine (hC _ (HM.out.funcs.keep fun _ _ _ => FuncAt.keep (keep_below hb.out))).out.mono ?_
                    rintro e w3 ⟨rfl, b3⟩
                    have hb3 := Lib.hid (hb.out.trans (b3.mono hb.out.size))
                    clear b3 hC hb x0 x1 x2 x3 x4 x5 x6 x7 x8 x9
                    have hb := hb3
                    have x2 : w3.cell? ⟨w.heap.size, 2, none⟩ = some (.slice a2 m.funcs.length k2) := keep_below hb.out _ _ y2.out
                    by_cases hc : 65536 - cntF m.funcs 65536 ≤ 65536
                    · have d1 : decide (65536 - cntF m.funcs 65536 ≤ 65536) = true := decide_eq_true hc
                      have S5 : Hid (fewB m = m.funcs.all funFew) := Lib.hid (by rw [S4.out]; unfold few4 few5; rw [d1]; rfl)
                      generalize 65536 - cntF m.funcs 65536 = cc at *
                      go_wp2_with fail
                      refine (want_yes 3 _).mono ?_
                      rintro e w' ⟨rfl, rfl⟩
                      go_wp2_with fail
                      go_loopw [113] (fun vi wr => ∃ i : Nat, i ≤ m.funcs.length ∧ vi = .int .i64 i ∧ Hid ((m.funcs.take i).all funFew = true) ∧ Hid (Below w0.heap.size w0 wr)) (fun vi _ => m.funcs.length - (intOf vi).toNat)
                      case atStart => exact ⟨0, Nat.zero_le _, rfl, Lib.hid rfl, hb⟩
                      case round =>
                        obtain ⟨i, hi, rfl, ha, hb⟩ := hrel
                        by_cases hlt : i < m.funcs.length
                        · obtain ⟨t, ht⟩ : ∃ t, m.funcs[i]? = some t := ⟨_, List.getElem?_eq_getElem hlt⟩
                          obtain ⟨b, o, e, hrow⟩ := (HM.out.funcs.keep fun _ _ _ => FuncAt.keep (keep_below hb.out)).row ht
                          cases e
                          have hn := Lib.hid (all_row ht ha.out)
                          have hal := fun o => (Below.refl wr.heap.size wr).alloc (Nat.le_refl _) o
                          clear ht ha
                          obtain ⟨ty, lo, bo⟩ := t
                          obtain ⟨c0, ⟨q1, r1, c1, i1⟩, ⟨q2, r2, c2, l2, i2⟩⟩ := hrow
                          unfold IntCell at c0
                          have n1' := i1.1
                          have hi2 := Lib.hid i2
                          clear i1 i2
                          have hb2 : ∀ o, Below w0.heap.size w0 (wr.alloc o) := fun o => hb.out.trans ((hal o).mono hb.out.size)
                          have hcb := fun w h0 => Lib.hid (labelled_any bo q2 r2 w l2 h0)
                          have hz : Hid (funFew (ty, lo, bo) = (decide ((lo.length : Int) ≤ 256) && lab bo)) := Lib.hid rfl
                          simp only at c1 c2
                          by_cases h1 : (lo.length : Int) ≤ 256
                          · have d1 : decide ((lo.length : Int) ≤ 256) = true := decide_eq_true h1
                            rw [d1, Bool.true_and] at hz
                            go_wp2_with fail
                            refine (want_yes 3 _).mono ?_
                            rintro e w' ⟨rfl, rfl⟩
                            go_wp2_with fail
                            refine (hcb _ (hi2.out.below (hal _))).out.mono ?_
                            rintro e w3 ⟨rfl, b3⟩
                            have hb3 := Lib.hid ((hb2 _).trans (b3.mono (hb2 _).size))
                            clear b3 hcb
                            cases hX : lab bo
                            · have hn2 := Lib.hid (hn.out.2 (by rw [hz.out, hX]))
                              rw [endE_no]
                              clear hX
                              go_wp2
                              exact ⟨rfl, by rw [S5.out, hn2.out]; rfl, hB0.out.trans (hb3.out.mono hs0)⟩
                            · have hn2 := Lib.hid (hn.out.1 (by rw [hz.out, hX]))
                              rw [endE_yes]
                              clear hX
                              go_wp2
                              go_roundw
                              case rel => exact ⟨i + 1, by omega, by simp, hn2, Lib.hid hb3.out⟩
                              case measure => simp [intOf]; omega
                          · have d1 : decide ((lo.length : Int) ≤ 256) = false := decide_eq_false h1
                            have hn2 := Lib.hid (hn.out.2 (by rw [hz.out, d1]; rfl))
                            go_wp2_with fail
                            refine (want_no 3 _).mono ?_
                            rintro e w' ⟨rfl, rfl⟩
                            go_wp2
                            exact ⟨rfl, by rw [S5.out, hn2.out]; rfl, hB0.out.trans ((hb2 _).mono hs0)⟩
                        · have hiN : i = m.funcs.length := by omega
                          subst hiN
                          have ha2 : m.funcs.all funFew = true := by have := ha.out; rwa [List.take_length] at this
                          have S6 : Hid (fewB m = true) := Lib.hid (by rw [S5.out]; exact ha2)
                          clear ha ha2 hi hlt
                          go_wp2
                          go_end0
                          exact ⟨by rw [S6.out]; rfl, hB0.out.trans (hb.out.mono hs0)⟩
                    · have d1 : decide (65536 - cntF m.funcs 65536 ≤ 65536) = false := decide_eq_false hc
                      have S5 : Hid (fewB m = false) := Lib.hid (by rw [S4.out]; unfold few4; rw [d1]; rfl)
                      generalize 65536 - cntF m.funcs 65536 = cc at *
                      go_wp2_with fail
                      refine (want_no 3 _).mono ?_
                      rintro e w' ⟨rfl, rfl⟩
                      go_wp2
                      exact ⟨rfl, by rw [S5.out]; rfl, hB0.out.trans (hb.out.mono hs0)⟩
      · have d1 : decide ((m.start.length : Int) ≤ 1) = false := decide_eq_false h1
        have S1 : Hid (fewB m = false) := Lib.hid (by rw [hS1.out, d1]; rfl)
        clear hS1
        go_wp2_with fail
        refine (want_no 3 _).mono ?_
        rintro e w' ⟨rfl, rfl⟩
        go_wp2
        exact ⟨rfl, by rw [S1.out]; rfl, hB0.out.trans (hbq.out.mono hs0)⟩
end Go.Proofs.YtacohbllbjgdgaaDoor
