/- The contract of few. -/
import Derived.Test.YtkbfjkbokifgkaaDoorMj
import Derived.Test.YtkbfjkbokifgkaaDoorVa
import Derived.Test.YtkbfjkbokifgkaaDoorRe
import Derived.Defers
import Derived.Recover
import Derived.Laws.Pointers
namespace Go.Proofs.YtkbfjkbokifgkaaDoor
open Go.RowKit
set_option linter.unusedVariables false

def le4 (n : Int) : Bool := decide (n ≤ 4096)
def lens (m : Md) : List Int := [(m.types.length : Int), m.imports.length, m.funcs.length, m.tables.length, m.mems.length, m.globals.length, m.exports.length, m.elems.length, m.datas.length]
def dataFit : List (One × ByteArray) → Int → Bool
  | [], _ => true
  | d :: r, left => decide ((d.2.size : Int) ≤ left) && dataFit r (left - d.2.size)
def typFew (t : List Int × List Int) : Bool := decide ((t.1.length : Int) ≤ 4096) && decide ((t.2.length : Int) ≤ 4096)
def elmFew (t : One × List Int) : Bool := decide ((t.2.length : Int) ≤ 4096)
def funFew (t : Int × List Int × Il) : Bool := decide ((t.2.1.length : Int) ≤ 256) && lab t.2.2
def few5 (m : Md) : Bool := m.funcs.all funFew
def few4 (m : Md) : Bool := decide (65536 - cntF m.funcs 65536 ≤ 65536) && few5 m
def few3 (m : Md) : Bool := dataFit m.datas 262144 && few4 m
def few2 (m : Md) : Bool := m.elems.all elmFew && few3 m
def few1 (m : Md) : Bool := m.types.all typFew && few2 m
def few0 (m : Md) : Bool := decide ((m.start.length : Int) ≤ 1) && few1 m
/-- Is there too much of nothing? -/
def fewB (m : Md) : Bool := (lens m).all le4 && few0 m

set_option maxRecDepth 100000 in
set_option maxHeartbeats 8000000 in
theorem few_any (m : Md) (a0 : Option Addr) (k0 : Nat) (a1 : Option Addr) (k1 : Nat) (a2 : Option Addr) (k2 : Nat) (a3 : Option Addr) (k3 : Nat) (a4 : Option Addr) (k4 : Nat) (a5 : Option Addr) (k5 : Nat) (a6 : Option Addr) (k6 : Nat) (a7 : Option Addr) (k7 : Nat) (a8 : Option Addr) (k8 : Nat) (a9 : Option Addr) (k9 : Nat) (w : World) (h : MdAt w m a0 k0 a1 k1 a2 k2 a3 k3 a4 k4 a5 k5 a6 k6 a7 k7 a8 k8 a9 k9) :
    Calls Tryd.prog 54 #[mdV m a0 k0 a1 k1 a2 k2 a3 k3 a4 k4 a5 k5 a6 k6 a7 k7 a8 k8 a9 k9] w fun e w' => e = endE (fewB m) 3 ∧ Below w.heap.size w w' := by
  have HM := Lib.hid (h.keep (keep_below ((Below.refl w.heap.size w).alloc (Nat.le_refl _) (.cells #[.slice a0 m.types.length k0, .slice a1 m.imports.length k1, .slice a2 m.funcs.length k2, .slice a3 m.tables.length k3, .slice a4 m.mems.length k4, .slice a5 m.globals.length k5, .slice a6 m.exports.length k6, .slice a7 m.start.length k7, .slice a8 m.elems.length k8, .slice a9 m.datas.length k9] 33))))
  have n0 := h.types.1
  have n1 := h.imports.1
  have n2 := h.funcs.1
  have n3 := h.tables.1
  have n4 := h.mems.1
  have n5 := h.globals.1
  have n6 := h.exports.1
  have n7 := h.start.1
  have n8 := h.elems.1
  have n9 := h.datas.1
  have hB0 : Hid (Below w.heap.size w (w.alloc (.cells #[.slice a0 m.types.length k0, .slice a1 m.imports.length k1, .slice a2 m.funcs.length k2, .slice a3 m.tables.length k3, .slice a4 m.mems.length k4, .slice a5 m.globals.length k5, .slice a6 m.exports.length k6, .slice a7 m.start.length k7, .slice a8 m.elems.length k8, .slice a9 m.datas.length k9] 33))) := Lib.hid ((Below.refl _ _).alloc (Nat.le_refl _) _)
  have hS : Hid (fewB m = ((lens m).all le4 && few0 m)) := Lib.hid rfl
  clear h
  unfold mdV
  go_enter Tryd.func54, Tryd.ntmps54
  go_wp2_with fail
  obtain ⟨w0, hw0⟩ : ∃ w0, w0 = (w.alloc (.cells #[.slice a0 m.types.length k0, .slice a1 m.imports.length k1, .slice a2 m.funcs.length k2, .slice a3 m.tables.length k3, .slice a4 m.mems.length k4, .slice a5 m.globals.length k5, .slice a6 m.exports.length k6, .slice a7 m.start.length k7, .slice a8 m.elems.length k8, .slice a9 m.datas.length k9] 33)) := ⟨_, rfl⟩
  rw [← hw0]
  rw [← hw0] at HM hB0
  have hs0 : w.heap.size ≤ w0.heap.size := hB0.out.size
  have hs1 : w0.heap.size = w.heap.size + 1 := by rw [hw0]; simp
  have y0 : Hid (w0.cell? ⟨w.heap.size, 0, none⟩ = some (.slice a0 m.types.length k0)) := Lib.hid (by rw [hw0]; exact World.cell?_alloc_at _ _ _ _ rfl)
  have y1 : Hid (w0.cell? ⟨w.heap.size, 1, none⟩ = some (.slice a1 m.imports.length k1)) := Lib.hid (by rw [hw0]; exact World.cell?_alloc_at _ _ _ _ rfl)
  have y2 : Hid (w0.cell? ⟨w.heap.size, 2, none⟩ = some (.slice a2 m.funcs.length k2)) := Lib.hid (by rw [hw0]; exact World.cell?_alloc_at _ _ _ _ rfl)
  have y3 : Hid (w0.cell? ⟨w.heap.size, 3, none⟩ = some (.slice a3 m.tables.length k3)) := Lib.hid (by rw [hw0]; exact World.cell?_alloc_at _ _ _ _ rfl)
  have y4 : Hid (w0.cell? ⟨w.heap.size, 4, none⟩ = some (.slice a4 m.mems.length k4)) := Lib.hid (by rw [hw0]; exact World.cell?_alloc_at _ _ _ _ rfl)
  have y5 : Hid (w0.cell? ⟨w.heap.size, 5, none⟩ = some (.slice a5 m.globals.length k5)) := Lib.hid (by rw [hw0]; exact World.cell?_alloc_at _ _ _ _ rfl)
  have y6 : Hid (w0.cell? ⟨w.heap.size, 6, none⟩ = some (.slice a6 m.exports.length k6)) := Lib.hid (by rw [hw0]; exact World.cell?_alloc_at _ _ _ _ rfl)
  have y7 : Hid (w0.cell? ⟨w.heap.size, 7, none⟩ = some (.slice a7 m.start.length k7)) := Lib.hid (by rw [hw0]; exact World.cell?_alloc_at _ _ _ _ rfl)
  have y8 : Hid (w0.cell? ⟨w.heap.size, 8, none⟩ = some (.slice a8 m.elems.length k8)) := Lib.hid (by rw [hw0]; exact World.cell?_alloc_at _ _ _ _ rfl)
  have y9 : Hid (w0.cell? ⟨w.heap.size, 9, none⟩ = some (.slice a9 m.datas.length k9)) := Lib.hid (by rw [hw0]; exact World.cell?_alloc_at _ _ _ _ rfl)
  obtain ⟨wq, hwq⟩ : ∃ wq, wq = w0.alloc (.cells #[.int .i64 m.types.length, .int .i64 m.imports.length, .int .i64 m.funcs.length, .int .i64 m.tables.length, .int .i64 m.mems.length, .int .i64 m.globals.length, .int .i64 m.exports.length, .int .i64 m.elems.length, .int .i64 m.datas.length] 3) := ⟨_, rfl⟩
  have HI : Hid (IntsIn wq (some ⟨w.heap.size + 1, 0, none⟩) (lens m)) := Lib.hid (by rw [hwq, ← hs1]; have := ints_new w0 (lens m) (by simp [lens]); simpa [lens] using this)
  have hbq : Hid (Below w0.heap.size w0 wq) := Lib.hid (by rw [hwq]; exact (Below.refl _ _).alloc (Nat.le_refl _) _)
  rw [← hwq]
  clear hwq hw0 hs1
  have hl9 : (lens m).length = 9 := rfl
  go_loop [43] (fun vi => ∃ i : Nat, i ≤ 9 ∧ vi = .int .i64 i ∧ Hid (((lens m).take i).all le4 = true)) (fun vi => 9 - (intOf vi).toNat)
  case atStart => exact ⟨0, Nat.zero_le _, rfl, Lib.hid rfl⟩
  case round =>
    obtain ⟨i, hi, rfl, ha⟩ := hrel
    by_cases hlt : i < 9
    · obtain ⟨x, hx⟩ : ∃ x, (lens m)[i]? = some x := ⟨_, List.getElem?_eq_getElem (by rw [hl9]; exact hlt)⟩
      obtain ⟨b, o, e, hcell⟩ := HI.out.cell hx
      cases e
      rw [Nat.zero_add] at hcell
      have hn := Lib.hid (all_drop hx ha.out)
      clear hx
      by_cases h1 : x ≤ 4096
      · have hn2 := Lib.hid (hn.out.1 (decide_eq_true h1))
        go_wp2_with fail
        refine (cnt1_yes x _ h1).mono ?_
        rintro e w' ⟨rfl, rfl⟩
        go_wp2
        go_round
        case rel => exact ⟨i + 1, by omega, by simp, hn2⟩
        case measure => simp [intOf]; omega
      · have hn2 := Lib.hid (hn.out.2 (decide_eq_false h1))
        go_wp2_with fail
        refine (cnt1_no x _ (by omega)).mono ?_
        rintro e w' ⟨rfl, rfl⟩
        go_wp2
        exact ⟨rfl, by rw [hS.out, hn2.out]; rfl, hB0.out.trans (hbq.out.mono hs0)⟩
    · obtain rfl : i = 9 := by omega
      have ha2 : (lens m).all le4 = true := by have := ha.out; rwa [List.take_of_length_le (by rw [hl9]; decide)] at this
      have hS1 : Hid (fewB m = (decide ((m.start.length : Int) ≤ 1) && few1 m)) := Lib.hid (by rw [hS.out, ha2]; rfl)
      clear ha ha2 hi hlt hS HI
      have x7 : wq.cell? ⟨w.heap.size, 7, none⟩ = some (.slice a7 m.start.length k7) := keep_below hbq.out _ _ y7.out
      have x0 : wq.cell? ⟨w.heap.size, 0, none⟩ = some (.slice a0 m.types.length k0) := keep_below hbq.out _ _ y0.out
      by_cases h1 : (m.start.length : Int) ≤ 1
      · have d1 : decide ((m.start.length : Int) ≤ 1) = true := decide_eq_true h1
        have S1 : Hid (fewB m = (m.types.all typFew && few2 m)) := Lib.hid (by rw [hS1.out, d1]; rfl)
        clear hS1
        go_wp2_with fail
        refine (want_yes 3 _).mono ?_
        rintro e w' ⟨rfl, rfl⟩
        go_wp2_with fail
        go_loopw [59] (fun vi wr => ∃ i : Nat, i ≤ m.types.length ∧ vi = .int .i64 i ∧ Hid ((m.types.take i).all typFew = true) ∧ Hid (Below w0.heap.size w0 wr)) (fun vi _ => m.types.length - (intOf vi).toNat)
        case atStart => exact ⟨0, Nat.zero_le _, rfl, Lib.hid rfl, hbq⟩
        case round =>
          obtain ⟨i, hi, rfl, ha, hb⟩ := hrel
          by_cases hlt : i < m.types.length
          · obtain ⟨t, ht⟩ : ∃ t, m.types[i]? = some t := ⟨_, List.getElem?_eq_getElem hlt⟩
            obtain ⟨b, o, e, hrow⟩ := (HM.out.types.keep fun _ _ _ => TypeAt.keep (keep_below hb.out)).row ht
            cases e
            have hn := Lib.hid (all_row ht ha.out)
            have hal := fun o => (Below.refl wr.heap.size wr).alloc (Nat.le_refl _) o
            clear ht ha
            obtain ⟨ps, rs⟩ := t
            obtain ⟨⟨q0, r0, c0, i0⟩, ⟨q1, r1, c1, i1⟩⟩ := hrow
            simp only at c0 c1 i0 i1
            have n0' := i0.1
            have n1' := i1.1
            have hb2 : ∀ o, Below w0.heap.size w0 (wr.alloc o) := fun o => hb.out.trans ((hal o).mono hb.out.size)
            have hz : Hid (typFew (ps, rs) = (decide ((ps.length : Int) ≤ 4096) && decide ((rs.length : Int) ≤ 4096))) := Lib.hid rfl
            by_cases h1 : (ps.length : Int) ≤ 4096
            · have d1 : decide ((ps.length : Int) ≤ 4096) = true := decide_eq_true h1
              by_cases h2 : (rs.length : Int) ≤ 4096
              · have d2 : decide ((rs.length : Int) ≤ 4096) = true := decide_eq_true h2
                have hn2 := Lib.hid (hn.out.1 (by rw [hz.out, d1, d2]; rfl))
                go_wp2_with fail
                refine (cnt1_yes _ _ h1).mono ?_
                rintro e w' ⟨rfl, rfl⟩
                go_wp2_with fail
                refine (cnt1_yes _ _ h2).mono ?_
                rintro e w' ⟨rfl, rfl⟩
                go_wp2
                go_roundw
                case rel => exact ⟨i + 1, by omega, by simp, hn2, Lib.hid (hb2 _)⟩
                case measure => simp [intOf]; omega
              · have d2 : decide ((rs.length : Int) ≤ 4096) = false := decide_eq_false h2
                have hn2 := Lib.hid (hn.out.2 (by rw [hz.out, d1, d2]; rfl))
                go_wp2_with fail
                refine (cnt1_yes _ _ h1).mono ?_
                rintro e w' ⟨rfl, rfl⟩
                go_wp2_with fail
                refine (cnt1_no (rs.length : Int) _ (by omega)).mono ?_
                rintro e w' ⟨rfl, rfl⟩
                go_wp2
                exact ⟨rfl, by rw [S1.out, hn2.out]; rfl, hB0.out.trans ((hb2 _).mono hs0)⟩
            · have d1 : decide ((ps.length : Int) ≤ 4096) = false := decide_eq_false h1
              have hn2 := Lib.hid (hn.out.2 (by rw [hz.out, d1]; rfl))
              go_wp2_with fail
              refine (cnt1_no (ps.length : Int) _ (by omega)).mono ?_
              rintro e w' ⟨rfl, rfl⟩
              go_wp2
              exact ⟨rfl, by rw [S1.out, hn2.out]; rfl, hB0.out.trans ((hb2 _).mono hs0)⟩
          · have hiN : i = m.types.length := by omega
            subst hiN
            have ha2 : m.types.all typFew = true := by have := ha.out; rwa [List.take_length] at this
            have S2 : Hid (fewB m = (m.elems.all elmFew && few3 m)) := Lib.hid (by rw [S1.out, ha2]; rfl)
            clear ha ha2 hi hlt
            have x8 : wr.cell? ⟨w.heap.size, 8, none⟩ = some (.slice a8 m.elems.length k8) := keep_below hb.out _ _ y8.out
            go_wp2_with fail
            go_loopw [77] (fun vi wr => ∃ i : Nat, i ≤ m.elems.length ∧ vi = .int .i64 i ∧ Hid ((m.elems.take i).all elmFew = true) ∧ Hid (Below w0.heap.size w0 wr)) (fun vi _ => m.elems.length - (intOf vi).toNat)
            case atStart => exact ⟨0, Nat.zero_le _, rfl, Lib.hid rfl, hb⟩
            case round =>
              obtain ⟨i, hi, rfl, ha, hb⟩ := hrel
              by_cases hlt : i < m.elems.length
              · obtain ⟨t, ht⟩ : ∃ t, m.elems[i]? = some t := ⟨_, List.getElem?_eq_getElem hlt⟩
                obtain ⟨b, o, e, hrow⟩ := (HM.out.elems.keep fun _ _ _ => ElemAt.keep (keep_below hb.out)).row ht
                cases e
                have hn := Lib.hid (all_row ht ha.out)
                have hal := fun o => (Below.refl wr.heap.size wr).alloc (Nat.le_refl _) o
                clear ht ha
                obtain ⟨⟨op, ix, iy, iz, ls, body, els⟩, fl⟩ := t
                obtain ⟨⟨⟨c0, c1, c2, c3⟩, ⟨q4, r4, c4, _⟩, ⟨q5, r5, c5, _, _⟩, ⟨q6, r6, c6, _, _⟩, _⟩, ⟨q7, r7, c7, i7⟩⟩ := hrow
                simp only at c7 i7
                have n7' := i7.1
                have hb2 : ∀ o, Below w0.heap.size w0 (wr.alloc o) := fun o => hb.out.trans ((hal o).mono hb.out.size)
                by_cases h1 : (fl.length : Int) ≤ 4096
                · have hn2 := Lib.hid (hn.out.1 (decide_eq_true h1))
                  go_wp2_with fail
                  refine (cnt1_yes _ _ h1).mono ?_
                  rintro e w' ⟨rfl, rfl⟩
                  go_wp2
                  go_roundw
                  case rel => exact ⟨i + 1, by omega, by simp, hn2, Lib.hid (hb2 _)⟩
                  case measure => simp [intOf]; omega
                · have hn2 := Lib.hid (hn.out.2 (decide_eq_false h1))
                  go_wp2_with fail
                  refine (cnt1_no (fl.length : Int) _ (by omega)).mono ?_
                  rintro e w' ⟨rfl, rfl⟩
                  go_wp2
                  exact ⟨rfl, by rw [S2.out, hn2.out]; rfl, hB0.out.trans ((hb2 _).mono hs0)⟩
              · have hiN : i = m.elems.length := by omega
                subst hiN
                have ha2 : m.elems.all elmFew = true := by have := ha.out; rwa [List.take_length] at this
                have S3 : Hid (fewB m = (dataFit m.datas 262144 && few4 m)) := Lib.hid (by rw [S2.out, ha2]; rfl)
                clear ha ha2 hi hlt
                have x9 : wr.cell? ⟨w.heap.size, 9, none⟩ = some (.slice a9 m.datas.length k9) := keep_below hb.out _ _ y9.out
                go_wp2_with fail
                go_loopw [9, 90] (fun vl vi wr => ∃ (i : Nat) (Q : Int), i ≤ m.datas.length ∧ vi = .int .i64 i ∧ vl = .int .i64 Q ∧ 0 ≤ Q ∧ Q ≤ 262144 ∧ Hid (dataFit m.datas 262144 = dataFit (m.datas.drop i) Q) ∧ Hid (Below w0.heap.size w0 wr)) (fun _ vi _ => m.datas.length - (intOf vi).toNat)
                case atStart => exact ⟨0, 262144, Nat.zero_le _, rfl, rfl, by omega, by omega, Lib.hid rfl, hb⟩
                case round =>
                  clear hb
                  obtain ⟨i, Q, hi, rfl, rfl, hQ0, hQ1, ha, hb⟩ := hrel
                  by_cases hlt : i < m.datas.length
                  · obtain ⟨t, ht⟩ : ∃ t, m.datas[i]? = some t := ⟨_, List.getElem?_eq_getElem hlt⟩
                    obtain ⟨b, o, e, hrow⟩ := (HM.out.datas.keep fun _ _ _ => DataAt.keep (keep_below hb.out)).row ht
                    cases e
                    have hd := drop_at ht
                    have hal := fun o => (Below.refl wr.heap.size wr).alloc (Nat.le_refl _) o
                    obtain ⟨⟨op, ix, iy, iz, ls, body, els⟩, sb⟩ := t
                    have ha2 : Hid (dataFit m.datas 262144 = (decide ((sb.size : Int) ≤ Q) && dataFit (m.datas.drop (i + 1)) (Q - sb.size))) := Lib.hid (by rw [ha.out, hd]; rfl)
                    clear hd ha ht
                    obtain ⟨⟨⟨c0, c1, c2, c3⟩, ⟨q4, r4, c4, _⟩, ⟨q5, r5, c5, _, _⟩, ⟨q6, r6, c6, _, _⟩, _⟩, c7, hsz⟩ := hrow
                    simp only at c7 hsz
                    have hb2 : ∀ o, Below w0.heap.size w0 (wr.alloc o) := fun o => hb.out.trans ((hal o).mono hb.out.size)
                    by_cases h1 : (sb.size : Int) ≤ Q
                    · have d1 : decide ((sb.size : Int) ≤ Q) = true := decide_eq_true h1
                      rw [d1, Bool.true_and] at ha2
                      go_wp2_with fail
                      refine (want_yes 3 _).mono ?_
                      rintro e w' ⟨rfl, rfl⟩
                      go_wp2
                      go_roundw
                      case rel => exact ⟨i + 1, Q - sb.size, by omega, by simp, by simp, by omega, by omega, ha2, Lib.hid (hb2 _)⟩
                      case measure => simp [intOf]; omega
                    · have d1 : decide ((sb.size : Int) ≤ Q) = false := decide_eq_false h1
                      rw [d1, Bool.false_and] at ha2
                      go_wp2_with fail
                      refine (want_no 3 _).mono ?_
                      rintro e w' ⟨rfl, rfl⟩
                      go_wp2
                      exact ⟨rfl, by rw [S3.out, ha2.out]; rfl, hB0.out.trans ((hb2 _).mono hs0)⟩
                  · have hiN : i = m.datas.length := by omega
                    subst hiN
                    have ha2 : dataFit m.datas 262144 = true := by have := ha.out; rw [List.drop_length] at this; exact this
                    have S4 : Hid (fewB m = few4 m) := Lib.hid (by rw [S3.out, ha2]; rfl)
                    clear ha ha2 hi hlt
                    have x0 : wr.cell? ⟨w.heap.size, 0, none⟩ = some (.slice a0 m.types.length k0) := keep_below hb.out _ _ y0.out
                    have x1 : wr.cell? ⟨w.heap.size, 1, none⟩ = some (.slice a1 m.imports.length k1) := keep_below hb.out _ _ y1.out
                    have x2 : wr.cell? ⟨w.heap.size, 2, none⟩ = some (.slice a2 m.funcs.length k2) := keep_below hb.out _ _ y2.out
                    have x3 : wr.cell? ⟨w.heap.size, 3, none⟩ = some (.slice a3 m.tables.length k3) := keep_below hb.out _ _ y3.out
                    have x4 : wr.cell? ⟨w.heap.size, 4, none⟩ = some (.slice a4 m.mems.length k4) := keep_below hb.out _ _ y4.out
                    have x5 : wr.cell? ⟨w.heap.size, 5, none⟩ = some (.slice a5 m.globals.length k5) := keep_below hb.out _ _ y5.out
                    have x6 : wr.cell? ⟨w.heap.size, 6, none⟩ = some (.slice a6 m.exports.length k6) := keep_below hb.out _ _ y6.out
                    have x7 : wr.cell? ⟨w.heap.size, 7, none⟩ = some (.slice a7 m.start.length k7) := keep_below hb.out _ _ y7.out
                    have x8 : wr.cell? ⟨w.heap.size, 8, none⟩ = some (.slice a8 m.elems.length k8) := keep_below hb.out _ _ y8.out
                    have x9 : wr.cell? ⟨w.heap.size, 9, none⟩ = some (.slice a9 m.datas.length k9) := keep_below hb.out _ _ y9.out
                    have hC := fun (wq : World) h => Lib.hid (count_core m (.slice a0 m.types.length k0) (.slice a1 m.imports.length k1) (.slice a3 m.tables.length k3) (.slice a4 m.mems.length k4) (.slice a5 m.globals.length k5) (.slice a6 m.exports.length k6) (.slice a7 m.start.length k7) (.slice a8 m.elems.length k8) (.slice a9 m.datas.length k9) a2 k2 wq h)
                    go_wp2_with fail
                    refine (hC _ (HM.out.funcs.keep fun _ _ _ => FuncAt.keep (keep_below hb.out))).out.mono ?_
                    rintro e w3 ⟨rfl, b3⟩
                    have hb3 := Lib.hid (hb.out.trans (b3.mono hb.out.size))
                    clear b3 hC hb x0 x1 x2 x3 x4 x5 x6 x7 x8 x9
                    have hb := hb3
                    have x2 : w3.cell? ⟨w.heap.size, 2, none⟩ = some (.slice a2 m.funcs.length k2) := keep_below hb.out _ _ y2.out
                    by_cases hc : 65536 - cntF m.funcs 65536 ≤ 65536
                    · have d1 : decide (65536 - cntF m.funcs 65536 ≤ 65536) = true := decide_eq_true hc
                      have S5 : Hid (fewB m = m.funcs.all funFew) := Lib.hid (by rw [S4.out]; unfold few4 few5; rw [d1]; rfl)
                      generalize 65536 - cntF m.funcs 65536 = cc at *
                      go_wp2_with fail
                      refine (want_yes 3 _).mono ?_
                      rintro e w' ⟨rfl, rfl⟩
                      go_wp2_with fail
                      go_loopw [113] (fun vi wr => ∃ i : Nat, i ≤ m.funcs.length ∧ vi = .int .i64 i ∧ Hid ((m.funcs.take i).all funFew = true) ∧ Hid (Below w0.heap.size w0 wr)) (fun vi _ => m.funcs.length - (intOf vi).toNat)
                      case atStart => exact ⟨0, Nat.zero_le _, rfl, Lib.hid rfl, hb⟩
                      case round =>
                        obtain ⟨i, hi, rfl, ha, hb⟩ := hrel
                        by_cases hlt : i < m.funcs.length
                        · obtain ⟨t, ht⟩ : ∃ t, m.funcs[i]? = some t := ⟨_, List.getElem?_eq_getElem hlt⟩
                          obtain ⟨b, o, e, hrow⟩ := (HM.out.funcs.keep fun _ _ _ => FuncAt.keep (keep_below hb.out)).row ht
                          cases e
                          have hn := Lib.hid (all_row ht ha.out)
                          have hal := fun o => (Below.refl wr.heap.size wr).alloc (Nat.le_refl _) o
                          clear ht ha
                          obtain ⟨ty, lo, bo⟩ := t
                          obtain ⟨c0, ⟨q1, r1, c1, i1⟩, ⟨q2, r2, c2, l2, i2⟩⟩ := hrow
                          unfold IntCell at c0
                          have n1' := i1.1
                          have hi2 := Lib.hid i2
                          clear i1 i2
                          have hb2 : ∀ o, Below w0.heap.size w0 (wr.alloc o) := fun o => hb.out.trans ((hal o).mono hb.out.size)
                          have hcb := fun w h0 => Lib.hid (labelled_any bo q2 r2 w l2 h0)
                          have hz : Hid (funFew (ty, lo, bo) = (decide ((lo.length : Int) ≤ 256) && lab bo)) := Lib.hid rfl
                          simp only at c1 c2
                          by_cases h1 : (lo.length : Int) ≤ 256
                          · have d1 : decide ((lo.length : Int) ≤ 256) = true := decide_eq_true h1
                            rw [d1, Bool.true_and] at hz
                            go_wp2_with fail
                            refine (want_yes 3 _).mono ?_
                            rintro e w' ⟨rfl, rfl⟩
                            go_wp2_with fail
                            refine (hcb _ (hi2.out.below (hal _))).out.mono ?_
                            rintro e w3 ⟨rfl, b3⟩
                            have hb3 := Lib.hid ((hb2 _).trans (b3.mono (hb2 _).size))
                            clear b3 hcb
                            cases hX : lab bo
                            · have hn2 := Lib.hid (hn.out.2 (by rw [hz.out, hX]))
                              rw [endE_no]
                              clear hX
                              go_wp2
                              exact ⟨rfl, by rw [S5.out, hn2.out]; rfl, hB0.out.trans (hb3.out.mono hs0)⟩
                            · have hn2 := Lib.hid (hn.out.1 (by rw [hz.out, hX]))
                              rw [endE_yes]
                              clear hX
                              go_wp2
                              go_roundw
                              case rel => exact ⟨i + 1, by omega, by simp, hn2, Lib.hid hb3.out⟩
                              case measure => simp [intOf]; omega
                          · have d1 : decide ((lo.length : Int) ≤ 256) = false := decide_eq_false h1
                            have hn2 := Lib.hid (hn.out.2 (by rw [hz.out, d1]; rfl))
                            go_wp2_with fail
                            refine (want_no 3 _).mono ?_
                            rintro e w' ⟨rfl, rfl⟩
                            go_wp2
                            exact ⟨rfl, by rw [S5.out, hn2.out]; rfl, hB0.out.trans ((hb2 _).mono hs0)⟩
                        · have hiN : i = m.funcs.length := by omega
                          subst hiN
                          have ha2 : m.funcs.all funFew = true := by have := ha.out; rwa [List.take_length] at this
                          have S6 : Hid (fewB m = true) := Lib.hid (by rw [S5.out]; exact ha2)
                          clear ha ha2 hi hlt
                          go_wp2
                          go_end0
                          exact ⟨by rw [S6.out]; rfl, hB0.out.trans (hb.out.mono hs0)⟩
                    · have d1 : decide (65536 - cntF m.funcs 65536 ≤ 65536) = false := decide_eq_false hc
                      have S5 : Hid (fewB m = false) := Lib.hid (by rw [S4.out]; unfold few4; rw [d1]; rfl)
                      generalize 65536 - cntF m.funcs 65536 = cc at *
                      go_wp2_with fail
                      refine (want_no 3 _).mono ?_
                      rintro e w' ⟨rfl, rfl⟩
                      go_wp2
                      exact ⟨rfl, by rw [S5.out]; rfl, hB0.out.trans (hb.out.mono hs0)⟩
      · have d1 : decide ((m.start.length : Int) ≤ 1) = false := decide_eq_false h1
        have S1 : Hid (fewB m = false) := Lib.hid (by rw [hS1.out, d1]; rfl)
        clear hS1
        go_wp2_with fail
        refine (want_no 3 _).mono ?_
        rintro e w' ⟨rfl, rfl⟩
        go_wp2
        exact ⟨rfl, by rw [S1.out]; rfl, hB0.out.trans (hbq.out.mono hs0)⟩
end Go.Proofs.YtkbfjkbokifgkaaDoor

namespace Go.Proofs.YtkbfjkbokifgkaaDoor
open Go.RowKit
set_option linter.unusedVariables false

def typS (t : List Int × List Int) : Bool := t.1.all typ1 && t.2.all typ1
def impS (t : ByteArray × ByteArray × Int) : Bool := nameB t.1 && (nameB t.2.1 && idx1 t.2.2)
def gloS (t : Int × Bool × One) : Bool := typ1 t.1 && beg1 t.2.2
def expS (t : ByteArray × Int × Int) : Bool := nameB t.1 && ((decide (0 ≤ t.2.1) && decide (t.2.1 ≤ 3)) && idx1 t.2.2)
def elmS (t : One × List Int) : Bool := beg1 t.1 && t.2.all idx1
def datS (t : One × ByteArray) : Bool := beg1 t.1
def funS (t : Int × List Int × Il) : Bool := idx1 t.1 && (t.2.1.all typ1 && formB t.2.2)
def sh9 (m : Md) : Bool := m.funcs.all funS
def sh8 (m : Md) : Bool := m.datas.all datS && sh9 m
def sh7 (m : Md) : Bool := m.elems.all elmS && sh8 m
def sh6 (m : Md) : Bool := m.start.all idx1 && sh7 m
def sh5 (m : Md) : Bool := m.exports.all expS && sh6 m
def sh4 (m : Md) : Bool := m.globals.all gloS && sh5 m
def sh3 (m : Md) : Bool := m.mems.all lim1 && sh4 m
def sh2 (m : Md) : Bool := m.tables.all lim1 && sh3 m
def sh1 (m : Md) : Bool := m.imports.all impS && sh2 m
/-- Is everything as it should be? -/
def shapedB (m : Md) : Bool := m.types.all typS && sh1 m
theorem ints_new2 (w : World) (cs : Array Value) (t : TypeId) (xs : List Int) (hl : xs.length ≤ 9223372036854775807) : IntsIn ((w.alloc (.cells cs t)).alloc (.cells (xs.map fun x : Int => Value.int .i64 x).toArray 3)) (some ⟨w.heap.size + 1, 0, none⟩) xs := by
  have := ints_new (w.alloc (.cells cs t)) xs hl
  simpa using this
theorem all_1 (f : Int → Bool) (x : Int) : [x].all f = f x := by simp
theorem index1_any (x : Int) (w : World) (ao : Option Addr) (h : IntsIn w ao [x]) : Calls Tryd.prog 102 #[.slice ao 1 1] w fun e w' => e = endE (idx1 x) 30 ∧ w = w' := by
  have := index_any [x] ao 1 w h
  rw [all_1] at this
  exact this
theorem typed1_any (x : Int) (w : World) (ao : Option Addr) (h : IntsIn w ao [x]) : Calls Tryd.prog 101 #[.slice ao 1 1] w fun e w' => e = endE (typ1 x) 30 ∧ w = w' := by
  have := typed_any [x] ao 1 w h
  rw [all_1] at this
  exact this

set_option maxRecDepth 100000 in
set_option maxHeartbeats 1500000 in
theorem shaped_any (m : Md) (a0 : Option Addr) (k0 : Nat) (a1 : Option Addr) (k1 : Nat) (a2 : Option Addr) (k2 : Nat) (a3 : Option Addr) (k3 : Nat) (a4 : Option Addr) (k4 : Nat) (a5 : Option Addr) (k5 : Nat) (a6 : Option Addr) (k6 : Nat) (a7 : Option Addr) (k7 : Nat) (a8 : Option Addr) (k8 : Nat) (a9 : Option Addr) (k9 : Nat) (w : World) (h : MdAt w m a0 k0 a1 k1 a2 k2 a3 k3 a4 k4 a5 k5 a6 k6 a7 k7 a8 k8 a9 k9) (hT : TabU w) :
    Calls Tryd.prog 56 #[mdV m a0 k0 a1 k1 a2 k2 a3 k3 a4 k4 a5 k5 a6 k6 a7 k7 a8 k8 a9 k9] w fun e w' => e = endE (shapedB m) 30 ∧ Below w.heap.size w w' := by
  have HM := Lib.hid (h.keep (keep_below ((Below.refl w.heap.size w).alloc (Nat.le_refl _) (.cells #[.slice a0 m.types.length k0, .slice a1 m.imports.length k1, .slice a2 m.funcs.length k2, .slice a3 m.tables.length k3, .slice a4 m.mems.length k4, .slice a5 m.globals.length k5, .slice a6 m.exports.length k6, .slice a7 m.start.length k7, .slice a8 m.elems.length k8, .slice a9 m.datas.length k9] 33))))
  have HU := Lib.hid (hT.below ((Below.refl w.heap.size w).alloc (Nat.le_refl _) (.cells #[.slice a0 m.types.length k0, .slice a1 m.imports.length k1, .slice a2 m.funcs.length k2, .slice a3 m.tables.length k3, .slice a4 m.mems.length k4, .slice a5 m.globals.length k5, .slice a6 m.exports.length k6, .slice a7 m.start.length k7, .slice a8 m.elems.length k8, .slice a9 m.datas.length k9] 33)))
  have n0 := h.types.1
  have n1 := h.imports.1
  have n2 := h.funcs.1
  have n3 := h.tables.1
  have n4 := h.mems.1
  have n5 := h.globals.1
  have n6 := h.exports.1
  have n7 := h.start.1
  have n8 := h.elems.1
  have n9 := h.datas.1
  have hB0 : Hid (Below w.heap.size w (w.alloc (.cells #[.slice a0 m.types.length k0, .slice a1 m.imports.length k1, .slice a2 m.funcs.length k2, .slice a3 m.tables.length k3, .slice a4 m.mems.length k4, .slice a5 m.globals.length k5, .slice a6 m.exports.length k6, .slice a7 m.start.length k7, .slice a8 m.elems.length k8, .slice a9 m.datas.length k9] 33))) := Lib.hid ((Below.refl _ _).alloc (Nat.le_refl _) _)
  have S0 : Hid (shapedB m = (m.types.all typS && sh1 m)) := Lib.hid rfl
  clear h hT
  unfold mdV
  go_enter Tryd.func56, Tryd.ntmps56
  go_wp2_with fail
  obtain ⟨w0, hw0⟩ : ∃ w0, w0 = (w.alloc (.cells #[.slice a0 m.types.length k0, .slice a1 m.imports.length k1, .slice a2 m.funcs.length k2, .slice a3 m.tables.length k3, .slice a4 m.mems.length k4, .slice a5 m.globals.length k5, .slice a6 m.exports.length k6, .slice a7 m.start.length k7, .slice a8 m.elems.length k8, .slice a9 m.datas.length k9] 33)) := ⟨_, rfl⟩
  rw [← hw0]
  rw [← hw0] at HM HU hB0
  have hs0 : w.heap.size ≤ w0.heap.size := hB0.out.size
  have y0 : Hid (w0.cell? ⟨w.heap.size, 0, none⟩ = some (.slice a0 m.types.length k0)) := Lib.hid (by rw [hw0]; exact World.cell?_alloc_at _ _ _ _ rfl)
  have y1 : Hid (w0.cell? ⟨w.heap.size, 1, none⟩ = some (.slice a1 m.imports.length k1)) := Lib.hid (by rw [hw0]; exact World.cell?_alloc_at _ _ _ _ rfl)
  have y2 : Hid (w0.cell? ⟨w.heap.size, 2, none⟩ = some (.slice a2 m.funcs.length k2)) := Lib.hid (by rw [hw0]; exact World.cell?_alloc_at _ _ _ _ rfl)
  have y3 : Hid (w0.cell? ⟨w.heap.size, 3, none⟩ = some (.slice a3 m.tables.length k3)) := Lib.hid (by rw [hw0]; exact World.cell?_alloc_at _ _ _ _ rfl)
  have y4 : Hid (w0.cell? ⟨w.heap.size, 4, none⟩ = some (.slice a4 m.mems.length k4)) := Lib.hid (by rw [hw0]; exact World.cell?_alloc_at _ _ _ _ rfl)
  have y5 : Hid (w0.cell? ⟨w.heap.size, 5, none⟩ = some (.slice a5 m.globals.length k5)) := Lib.hid (by rw [hw0]; exact World.cell?_alloc_at _ _ _ _ rfl)
  have y6 : Hid (w0.cell? ⟨w.heap.size, 6, none⟩ = some (.slice a6 m.exports.length k6)) := Lib.hid (by rw [hw0]; exact World.cell?_alloc_at _ _ _ _ rfl)
  have y7 : Hid (w0.cell? ⟨w.heap.size, 7, none⟩ = some (.slice a7 m.start.length k7)) := Lib.hid (by rw [hw0]; exact World.cell?_alloc_at _ _ _ _ rfl)
  have y8 : Hid (w0.cell? ⟨w.heap.size, 8, none⟩ = some (.slice a8 m.elems.length k8)) := Lib.hid (by rw [hw0]; exact World.cell?_alloc_at _ _ _ _ rfl)
  have y9 : Hid (w0.cell? ⟨w.heap.size, 9, none⟩ = some (.slice a9 m.datas.length k9)) := Lib.hid (by rw [hw0]; exact World.cell?_alloc_at _ _ _ _ rfl)
  have hb : Hid (Below w0.heap.size w0 w0) := Lib.hid (Below.refl _ _)
  clear hw0
  go_loopw [20] (fun vi wr => ∃ i : Nat, i ≤ m.types.length ∧ vi = .int .i64 i ∧ Hid ((m.types.take i).all typS = true) ∧ Hid (Below w0.heap.size w0 wr)) (fun vi _ => m.types.length - (intOf vi).toNat)
  case atStart => exact ⟨0, Nat.zero_le _, rfl, Lib.hid rfl, hb⟩
  case round =>
    clear hb
    obtain ⟨i, hi, rfl, ha, hb⟩ := hrel
    by_cases hlt : i < m.types.length
    · obtain ⟨t, ht⟩ : ∃ t, m.types[i]? = some t := ⟨_, List.getElem?_eq_getElem hlt⟩
      obtain ⟨b, o, e, hrow⟩ := (HM.out.types.keep fun _ _ _ => TypeAt.keep (keep_below hb.out)).row ht
      cases e
      have hn := Lib.hid (all_row ht ha.out)
      have hal := fun o => (Below.refl wr.heap.size wr).alloc (Nat.le_refl _) o
      clear ht ha
      obtain ⟨ps, rs⟩ := t
      obtain ⟨⟨q0, r0, c0, i0⟩, ⟨q1, r1, c1, i1⟩⟩ := hrow
      simp only at c0 c1 i0 i1
      have i0 := Lib.hid i0
      have i1 := Lib.hid i1
      have hb2 : ∀ o, Below w0.heap.size w0 (wr.alloc o) := fun o => hb.out.trans ((hal o).mono hb.out.size)
      have hz : Hid (typS (ps, rs) = (ps.all typ1 && rs.all typ1)) := Lib.hid rfl
      go_wp2_with fail
      refine (typed_any ps q0 r0 _ (i0.out.below (hal _))).mono ?_
      rintro e w' ⟨rfl, rfl⟩
      cases hX : ps.all typ1
      · have hn2 := Lib.hid (hn.out.2 (by rw [hz.out, hX]; rfl))
        clear hX
        rw [endE_no]
        go_wp2
        exact ⟨rfl, by rw [S0.out, hn2.out]; rfl, hB0.out.trans ((hb2 _).mono hs0)⟩
      · have hz := Lib.hid (hz.out.trans (show _ = rs.all typ1 from by rw [hX]; rfl))
        rw [endE_yes]
        clear hX
        go_wp2_with fail
        refine (typed_any rs q1 r1 _ (i1.out.below (hal _))).mono ?_
        rintro e w' ⟨rfl, rfl⟩
        cases hX : rs.all typ1
        · have hn2 := Lib.hid (hn.out.2 (by rw [hz.out, hX]))
          clear hX
          rw [endE_no]
          go_wp2
          exact ⟨rfl, by rw [S0.out, hn2.out]; rfl, hB0.out.trans ((hb2 _).mono hs0)⟩
        · have hz := Lib.hid (hz.out.trans (show _ = true from by rw [hX]))
          rw [endE_yes]
          clear hX
          go_wp2
          go_roundw
          case rel => exact ⟨i + 1, by omega, by simp, Lib.hid (hn.out.1 hz.out), Lib.hid (hb2 _)⟩
          case measure => simp [intOf]; omega
    · have hiN : i = m.types.length := by omega
      subst hiN
      have ha2 : m.types.all typS = true := by have := ha.out; rwa [List.take_length] at this
      have S1 : Hid (shapedB m = (m.imports.all impS && sh2 m)) := Lib.hid (by rw [S0.out, ha2]; rfl)
      clear ha ha2 hi hlt
      have x1 : wr.cell? ⟨w.heap.size, 1, none⟩ = some (.slice a1 m.imports.length k1) := keep_below hb.out _ _ y1.out
      go_wp2_with fail
      go_loopw [34] (fun vi wr => ∃ i : Nat, i ≤ m.imports.length ∧ vi = .int .i64 i ∧ Hid ((m.imports.take i).all impS = true) ∧ Hid (Below w0.heap.size w0 wr)) (fun vi _ => m.imports.length - (intOf vi).toNat)
      case atStart => exact ⟨0, Nat.zero_le _, rfl, Lib.hid rfl, hb⟩
      case round =>
        clear hb
        obtain ⟨i, hi, rfl, ha, hb⟩ := hrel
        by_cases hlt : i < m.imports.length
        · obtain ⟨t, ht⟩ : ∃ t, m.imports[i]? = some t := ⟨_, List.getElem?_eq_getElem hlt⟩
          obtain ⟨b, o, e, hrow⟩ := (HM.out.imports.keep fun _ _ _ => ImportAt.keep (keep_below hb.out)).row ht
          cases e
          have hn := Lib.hid (all_row ht ha.out)
          have hal := fun o => (Below.refl wr.heap.size wr).alloc (Nat.le_refl _) o
          clear ht ha
          obtain ⟨mo, nm, ty⟩ := t
          obtain ⟨⟨c0, s0⟩, ⟨c1, s1⟩, c2⟩ := hrow
          unfold IntCell at c2
          simp only at c0 s0 c1 s1 c2
          have hb2 : ∀ o, Below w0.heap.size w0 (wr.alloc o) := fun o => hb.out.trans ((hal o).mono hb.out.size)
          have hz : Hid (impS (mo, nm, ty) = (nameB mo && (nameB nm && idx1 ty))) := Lib.hid rfl
          go_wp2_with fail
          refine (name1_any mo _ s0 (HU.out.below (hb2 _))).mono ?_
          rintro e v1 ⟨rfl, bb⟩
          have hB21 := Lib.hid ((hb2 _).trans (bb.mono (hb2 _).size))
          have hK21 := Lib.hid ((hal _).trans (bb.mono (hal _).size))
          have hlt21 : wr.heap.size < v1.heap.size := by have := bb.size; first | omega | (simp at this; omega)
          have z1_1 : v1.cell? ⟨wr.heap.size, 1, none⟩ = some (.string nm) := keep_below bb _ _ (World.cell?_alloc_at _ _ _ 1 rfl)
          have z1_2 : v1.cell? ⟨wr.heap.size, 2, none⟩ = some (.int .i64 ty) := keep_below bb _ _ (World.cell?_alloc_at _ _ _ 2 rfl)
          clear bb
          cases hX : nameB mo
          · have hn2 := Lib.hid (hn.out.2 (by rw [hz.out, hX]; rfl))
            clear hX
            rw [endE_no]
            go_wp2
            exact ⟨rfl, by rw [S1.out, hn2.out]; rfl, hB0.out.trans (hB21.out.mono hs0)⟩
          · have hz := Lib.hid (hz.out.trans (show _ = (nameB nm && idx1 ty) from by rw [hX]; rfl))
            rw [endE_yes]
            clear hX
            go_wp2_with fail
            refine (name1_any nm _ s1 (HU.out.below hB21.out)).mono ?_
            rintro e v2 ⟨rfl, bb⟩
            have hB22 := Lib.hid (hB21.out.trans (bb.mono hB21.out.size))
            have hK22 := Lib.hid (hK21.out.trans (bb.mono hK21.out.size))
            have hlt22 : wr.heap.size < v2.heap.size := by have := bb.size; first | omega | (simp at this; omega)
            have z2_2 : v2.cell? ⟨wr.heap.size, 2, none⟩ = some (.int .i64 ty) := keep_below bb _ _ (z1_2)
            clear bb
            cases hX : nameB nm
            · have hn2 := Lib.hid (hn.out.2 (by rw [hz.out, hX]; rfl))
              clear hX
              rw [endE_no]
              go_wp2
              exact ⟨rfl, by rw [S1.out, hn2.out]; rfl, hB0.out.trans (hB22.out.mono hs0)⟩
            · have hz := Lib.hid (hz.out.trans (show _ = idx1 ty from by rw [hX]; rfl))
              rw [endE_yes]
              clear hX
              go_wp2_with fail
              refine (index1_any ty _ _ (ints_new _ [ty] (by simp))).mono ?_
              rintro e w' ⟨rfl, rfl⟩
              cases hX : idx1 ty
              · have hn2 := Lib.hid (hn.out.2 (by rw [hz.out, hX]))
                clear hX
                rw [endE_no]
                go_wp2
                exact ⟨rfl, by rw [S1.out, hn2.out]; rfl, hB0.out.trans ((hB22.out.alloc hB22.out.size _).mono hs0)⟩
              · have hz := Lib.hid (hz.out.trans (show _ = true from by rw [hX]))
                rw [endE_yes]
                clear hX
                go_wp2
                go_roundw
                case rel => exact ⟨i + 1, by omega, by simp, Lib.hid (hn.out.1 hz.out), Lib.hid (hB22.out.alloc hB22.out.size _)⟩
                case measure => simp [intOf]; omega
        · have hiN : i = m.imports.length := by omega
          subst hiN
          have ha2 : m.imports.all impS = true := by have := ha.out; rwa [List.take_length] at this
          have S2 : Hid (shapedB m = (m.tables.all lim1 && sh3 m)) := Lib.hid (by rw [S1.out, ha2]; rfl)
          clear ha ha2 hi hlt
          have x3 : wr.cell? ⟨w.heap.size, 3, none⟩ = some (.slice a3 m.tables.length k3) := keep_below hb.out _ _ y3.out
          have st := Lib.hid (HM.out.tables.keep fun _ _ _ => LimitsAt.keep (keep_below hb.out))
          go_wp2_with fail
          refine (limits_any m.tables a3 k3 _ st.out).mono ?_
          rintro e vt ⟨rfl, bb⟩
          have hb' := Lib.hid (hb.out.trans (bb.mono hb.out.size))
          clear bb st hb
          have hb := hb'
          clear hb'
          cases hX : m.tables.all lim1
          · have S3 : Hid (shapedB m = false) := Lib.hid (by rw [S2.out, hX]; rfl)
            clear hX
            rw [endE_no]
            go_wp2
            exact ⟨rfl, by rw [S3.out]; rfl, hB0.out.trans (hb.out.mono hs0)⟩
          · have S3 : Hid (shapedB m = (m.mems.all lim1 && sh4 m)) := Lib.hid (by rw [S2.out, hX]; rfl)
            rw [endE_yes]
            clear hX
            have x4 : vt.cell? ⟨w.heap.size, 4, none⟩ = some (.slice a4 m.mems.length k4) := keep_below hb.out _ _ y4.out
            have st := Lib.hid (HM.out.mems.keep fun _ _ _ => LimitsAt.keep (keep_below hb.out))
            go_wp2_with fail
            refine (limits_any m.mems a4 k4 _ st.out).mono ?_
            rintro e vm ⟨rfl, bb⟩
            have hb' := Lib.hid (hb.out.trans (bb.mono hb.out.size))
            clear bb st hb
            have hb := hb'
            clear hb'
            cases hX : m.mems.all lim1
            · have S4 : Hid (shapedB m = false) := Lib.hid (by rw [S3.out, hX]; rfl)
              clear hX
              rw [endE_no]
              go_wp2
              exact ⟨rfl, by rw [S4.out]; rfl, hB0.out.trans (hb.out.mono hs0)⟩
            · have S4 : Hid (shapedB m = (m.globals.all gloS && sh5 m)) := Lib.hid (by rw [S3.out, hX]; rfl)
              rw [endE_yes]
              clear hX
              have x5 : vm.cell? ⟨w.heap.size, 5, none⟩ = some (.slice a5 m.globals.length k5) := keep_below hb.out _ _ y5.out
              go_wp2_with fail
              go_loopw [60] (fun vi wr => ∃ i : Nat, i ≤ m.globals.length ∧ vi = .int .i64 i ∧ Hid ((m.globals.take i).all gloS = true) ∧ Hid (Below w0.heap.size w0 wr)) (fun vi _ => m.globals.length - (intOf vi).toNat)
              case atStart => exact ⟨0, Nat.zero_le _, rfl, Lib.hid rfl, hb⟩
              case round =>
                clear hb
                obtain ⟨i, hi, rfl, ha, hb⟩ := hrel
                by_cases hlt : i < m.globals.length
                · obtain ⟨t, ht⟩ : ∃ t, m.globals[i]? = some t := ⟨_, List.getElem?_eq_getElem hlt⟩
                  obtain ⟨b, o, e, hrow⟩ := (HM.out.globals.keep fun _ _ _ => GlobalAt.keep (keep_below hb.out)).row ht
                  cases e
                  have hn := Lib.hid (all_row ht ha.out)
                  have hal := fun o => (Below.refl wr.heap.size wr).alloc (Nat.le_refl _) o
                  clear ht ha
                  obtain ⟨ty, mu, ⟨op, ix, iy, iz, ls, body, els⟩⟩ := t
                  obtain ⟨c0, c1, ⟨⟨d0, d1, d2, d3⟩, ⟨q4, r4, d4, i4⟩, ⟨q5, r5, d5, l5, i5⟩, ⟨q6, r6, d6, l6, i6⟩, _⟩⟩ := hrow
                  unfold IntCell at c0
                  unfold BoolCell at c1
                  simp only at c0 c1
                  have d0 : wr.cell? ⟨b, o + i * 9 + 2, none⟩ = _ := d0
                  have d1 : wr.cell? ⟨b, o + i * 9 + 3, none⟩ = _ := d1
                  have d2 : wr.cell? ⟨b, o + i * 9 + 4, none⟩ = _ := d2
                  have d3 : wr.cell? ⟨b, o + i * 9 + 5, none⟩ = _ := d3
                  have d4 : wr.cell? ⟨b, o + i * 9 + 6, none⟩ = _ := d4
                  have d5 : wr.cell? ⟨b, o + i * 9 + 7, none⟩ = _ := d5
                  have d6 : wr.cell? ⟨b, o + i * 9 + 8, none⟩ = _ := d6
                  simp only at l5 i5 l6 i6
                  have hone : Hid (OneIs wr ⟨op, ix, iy, iz, ls, body, els⟩ q4 r4 q5 r5 q6 r6) := Lib.hid ⟨i4, l5, by rcases i5 with e | h; exact .inl e; exact .inr (by simpa using h), l6, by rcases i6 with e | h; exact .inl e; exact .inr (by simpa using h)⟩
                  clear i4 i5 i6
                  have hb2 : ∀ o, Below w0.heap.size w0 (wr.alloc o) := fun o => hb.out.trans ((hal o).mono hb.out.size)
                  have hz : Hid (gloS (ty, mu, ⟨op, ix, iy, iz, ls, body, els⟩) = (typ1 ty && beg1 ⟨op, ix, iy, iz, ls, body, els⟩)) := Lib.hid rfl
                  go_wp2_with fail
                  refine (typed1_any ty _ _ (ints_new2 wr _ _ [ty] (by simp))).mono ?_
                  rintro e w' ⟨rfl, rfl⟩
                  cases hX : typ1 ty
                  · have hn2 := Lib.hid (hn.out.2 (by rw [hz.out, hX]; rfl))
                    clear hX
                    rw [endE_no]
                    go_wp2
                    exact ⟨rfl, by rw [S4.out, hn2.out]; rfl, hB0.out.trans (((hb2 _).alloc (hb2 _).size _).mono hs0)⟩
                  · have hz := Lib.hid (hz.out.trans (show _ = beg1 ⟨op, ix, iy, iz, ls, body, els⟩ from by rw [hX]; rfl))
                    rw [endE_yes]
                    clear hX
                    go_wp2_with fail
                    refine (begins_any op ix iy iz ls body els q4 r4 q5 r5 q6 r6 _ (hone.out.keep (keep_below ((hal _).alloc (hal _).size _)))).mono ?_
                    rintro e v1 ⟨rfl, bb⟩
                    have hB21 := Lib.hid (((hb2 _).alloc (hb2 _).size _).trans (bb.mono ((hb2 _).alloc (hb2 _).size _).size))
                    have hK21 := Lib.hid (((hal _).alloc (hal _).size _).trans (bb.mono ((hal _).alloc (hal _).size _).size))
                    have hlt21 : wr.heap.size < v1.heap.size := by have := bb.size; first | omega | (simp at this; omega)
                    clear bb
                    cases hX : beg1 ⟨op, ix, iy, iz, ls, body, els⟩
                    · have hn2 := Lib.hid (hn.out.2 (by rw [hz.out, hX]))
                      clear hX
                      rw [endE_no]
                      go_wp2
                      exact ⟨rfl, by rw [S4.out, hn2.out]; rfl, hB0.out.trans (hB21.out.mono hs0)⟩
                    · have hz := Lib.hid (hz.out.trans (show _ = true from by rw [hX]))
                      rw [endE_yes]
                      clear hX
                      go_wp2
                      go_roundw
                      case rel => exact ⟨i + 1, by omega, by simp, Lib.hid (hn.out.1 hz.out), Lib.hid hB21.out⟩
                      case measure => simp [intOf]; omega
                · have hiN : i = m.globals.length := by omega
                  subst hiN
                  have ha2 : m.globals.all gloS = true := by have := ha.out; rwa [List.take_length] at this
                  have S5 : Hid (shapedB m = (m.exports.all expS && sh6 m)) := Lib.hid (by rw [S4.out, ha2]; rfl)
                  clear ha ha2 hi hlt
                  have x6 : wr.cell? ⟨w.heap.size, 6, none⟩ = some (.slice a6 m.exports.length k6) := keep_below hb.out _ _ y6.out
                  go_wp2_with fail
                  go_loopw [75] (fun vi wr => ∃ i : Nat, i ≤ m.exports.length ∧ vi = .int .i64 i ∧ Hid ((m.exports.take i).all expS = true) ∧ Hid (Below w0.heap.size w0 wr)) (fun vi _ => m.exports.length - (intOf vi).toNat)
                  case atStart => exact ⟨0, Nat.zero_le _, rfl, Lib.hid rfl, hb⟩
                  case round =>
                    clear hb
                    obtain ⟨i, hi, rfl, ha, hb⟩ := hrel
                    by_cases hlt : i < m.exports.length
                    · obtain ⟨t, ht⟩ : ∃ t, m.exports[i]? = some t := ⟨_, List.getElem?_eq_getElem hlt⟩
                      obtain ⟨b, o, e, hrow⟩ := (HM.out.exports.keep fun _ _ _ => ExportAt.keep (keep_below hb.out)).row ht
                      cases e
                      have hn := Lib.hid (all_row ht ha.out)
                      have hal := fun o => (Below.refl wr.heap.size wr).alloc (Nat.le_refl _) o
                      clear ht ha
                      obtain ⟨nm, kd, ix⟩ := t
                      obtain ⟨⟨c0, s0⟩, c1, c2⟩ := hrow
                      unfold IntCell at c1 c2
                      simp only at c0 s0 c1 c2
                      have hb2 : ∀ o, Below w0.heap.size w0 (wr.alloc o) := fun o => hb.out.trans ((hal o).mono hb.out.size)
                      have hz : Hid (expS (nm, kd, ix) = (nameB nm && ((decide (0 ≤ kd) && decide (kd ≤ 3)) && idx1 ix))) := Lib.hid rfl
                      go_wp2_with fail
                      refine (name1_any nm _ s0 (HU.out.below (hb2 _))).mono ?_
                      rintro e v1 ⟨rfl, bb⟩
                      have hB21 := Lib.hid ((hb2 _).trans (bb.mono (hb2 _).size))
                      have hK21 := Lib.hid ((hal _).trans (bb.mono (hal _).size))
                      have hlt21 : wr.heap.size < v1.heap.size := by have := bb.size; first | omega | (simp at this; omega)
                      have z1_1 : v1.cell? ⟨wr.heap.size, 1, none⟩ = some (.int .i64 kd) := keep_below bb _ _ (World.cell?_alloc_at _ _ _ 1 rfl)
                      have z1_2 : v1.cell? ⟨wr.heap.size, 2, none⟩ = some (.int .i64 ix) := keep_below bb _ _ (World.cell?_alloc_at _ _ _ 2 rfl)
                      clear bb
                      cases hX : nameB nm
                      · have hn2 := Lib.hid (hn.out.2 (by rw [hz.out, hX]; rfl))
                        clear hX
                        rw [endE_no]
                        go_wp2
                        exact ⟨rfl, by rw [S5.out, hn2.out]; rfl, hB0.out.trans (hB21.out.mono hs0)⟩
                      · have hz := Lib.hid (hz.out.trans (show _ = ((decide (0 ≤ kd) && decide (kd ≤ 3)) && idx1 ix) from by rw [hX]; rfl))
                        rw [endE_yes]
                        clear hX
                        go_wp2_with fail
                        refine (within_any kd 0 3 _).mono ?_
                        rintro e w' ⟨rfl, rfl⟩
                        go_wp2_with fail
                        refine (want_any _ 30 _).mono ?_
                        rintro e w' ⟨rfl, rfl⟩
                        cases hX : (decide (0 ≤ kd) && decide (kd ≤ 3))
                        · have hn2 := Lib.hid (hn.out.2 (by rw [hz.out, hX]; rfl))
                          clear hX
                          rw [endE_no]
                          go_wp2
                          exact ⟨rfl, by rw [S5.out, hn2.out]; rfl, hB0.out.trans (hB21.out.mono hs0)⟩
                        · have hz := Lib.hid (hz.out.trans (show _ = idx1 ix from by rw [hX]; rfl))
                          rw [endE_yes]
                          clear hX
                          go_wp2_with fail
                          refine (index1_any ix _ _ (ints_new _ [ix] (by simp))).mono ?_
                          rintro e w' ⟨rfl, rfl⟩
                          cases hX : idx1 ix
                          · have hn2 := Lib.hid (hn.out.2 (by rw [hz.out, hX]))
                            clear hX
                            rw [endE_no]
                            go_wp2
                            exact ⟨rfl, by rw [S5.out, hn2.out]; rfl, hB0.out.trans ((hB21.out.alloc hB21.out.size _).mono hs0)⟩
                          · have hz := Lib.hid (hz.out.trans (show _ = true from by rw [hX]))
                            rw [endE_yes]
                            clear hX
                            go_wp2
                            go_roundw
                            case rel => exact ⟨i + 1, by omega, by simp, Lib.hid (hn.out.1 hz.out), Lib.hid (hB21.out.alloc hB21.out.size _)⟩
                            case measure => simp [intOf]; omega
                    · have hiN : i = m.exports.length := by omega
                      subst hiN
                      have ha2 : m.exports.all expS = true := by have := ha.out; rwa [List.take_length] at this
                      have S6 : Hid (shapedB m = (m.start.all idx1 && sh7 m)) := Lib.hid (by rw [S5.out, ha2]; rfl)
                      clear ha ha2 hi hlt
                      have x7 : wr.cell? ⟨w.heap.size, 7, none⟩ = some (.slice a7 m.start.length k7) := keep_below hb.out _ _ y7.out
                      have st := Lib.hid (HM.out.start.keep (keep_below hb.out))
                      go_wp2_with fail
                      refine (index_any m.start a7 k7 _ st.out).mono ?_
                      rintro e w' ⟨rfl, rfl⟩
                      cases hX : m.start.all idx1
                      · have S7 : Hid (shapedB m = false) := Lib.hid (by rw [S6.out, hX]; rfl)
                        clear hX
                        rw [endE_no]
                        go_wp2
                        exact ⟨rfl, by rw [S7.out]; rfl, hB0.out.trans (hb.out.mono hs0)⟩
                      · have S7 : Hid (shapedB m = (m.elems.all elmS && sh8 m)) := Lib.hid (by rw [S6.out, hX]; rfl)
                        rw [endE_yes]
                        clear hX
                        have x8 : wr.cell? ⟨w.heap.size, 8, none⟩ = some (.slice a8 m.elems.length k8) := keep_below hb.out _ _ y8.out
                        go_wp2_with fail
                        go_loopw [98] (fun vi wr => ∃ i : Nat, i ≤ m.elems.length ∧ vi = .int .i64 i ∧ Hid ((m.elems.take i).all elmS = true) ∧ Hid (Below w0.heap.size w0 wr)) (fun vi _ => m.elems.length - (intOf vi).toNat)
                        case atStart => exact ⟨0, Nat.zero_le _, rfl, Lib.hid rfl, hb⟩
                        case round =>
                          clear hb
                          obtain ⟨i, hi, rfl, ha, hb⟩ := hrel
                          by_cases hlt : i < m.elems.length
                          · obtain ⟨t, ht⟩ : ∃ t, m.elems[i]? = some t := ⟨_, List.getElem?_eq_getElem hlt⟩
                            obtain ⟨b, o, e, hrow⟩ := (HM.out.elems.keep fun _ _ _ => ElemAt.keep (keep_below hb.out)).row ht
                            cases e
                            have hn := Lib.hid (all_row ht ha.out)
                            have hal := fun o => (Below.refl wr.heap.size wr).alloc (Nat.le_refl _) o
                            clear ht ha
                            obtain ⟨⟨op, ix, iy, iz, ls, body, els⟩, fl⟩ := t
                            obtain ⟨⟨⟨c0, c1, c2, c3⟩, ⟨q4, r4, c4, i4⟩, ⟨q5, r5, c5, l5, i5⟩, ⟨q6, r6, c6, l6, i6⟩, _⟩, ⟨q7, r7, c7, i7⟩⟩ := hrow
                            simp only at c7 i7
                            have i7 := Lib.hid i7
                            simp only at l5 i5 l6 i6
                            have hone : Hid (OneIs wr ⟨op, ix, iy, iz, ls, body, els⟩ q4 r4 q5 r5 q6 r6) := Lib.hid ⟨i4, l5, by rcases i5 with e | h; exact .inl e; exact .inr (by simpa using h), l6, by rcases i6 with e | h; exact .inl e; exact .inr (by simpa using h)⟩
                            clear i4 i5 i6
                            have hb2 : ∀ o, Below w0.heap.size w0 (wr.alloc o) := fun o => hb.out.trans ((hal o).mono hb.out.size)
                            have hz : Hid (elmS (⟨op, ix, iy, iz, ls, body, els⟩, fl) = (beg1 ⟨op, ix, iy, iz, ls, body, els⟩ && fl.all idx1)) := Lib.hid rfl
                            go_wp2_with fail
                            refine (begins_any op ix iy iz ls body els q4 r4 q5 r5 q6 r6 _ (hone.out.keep (keep_below (hal _)))).mono ?_
                            rintro e v1 ⟨rfl, bb⟩
                            have hB21 := Lib.hid ((hb2 _).trans (bb.mono (hb2 _).size))
                            have hK21 := Lib.hid ((hal _).trans (bb.mono (hal _).size))
                            have hlt21 : wr.heap.size < v1.heap.size := by have := bb.size; first | omega | (simp at this; omega)
                            have z1_7 : v1.cell? ⟨wr.heap.size, 7, none⟩ = some (.slice q7 fl.length r7) := keep_below bb _ _ (World.cell?_alloc_at _ _ _ 7 rfl)
                            clear bb
                            cases hX : beg1 ⟨op, ix, iy, iz, ls, body, els⟩
                            · have hn2 := Lib.hid (hn.out.2 (by rw [hz.out, hX]; rfl))
                              clear hX
                              rw [endE_no]
                              go_wp2
                              exact ⟨rfl, by rw [S7.out, hn2.out]; rfl, hB0.out.trans (hB21.out.mono hs0)⟩
                            · have hz := Lib.hid (hz.out.trans (show _ = fl.all idx1 from by rw [hX]; rfl))
                              rw [endE_yes]
                              clear hX
                              go_wp2_with fail
                              refine (index_any fl q7 r7 _ (i7.out.below hK21.out)).mono ?_
                              rintro e w' ⟨rfl, rfl⟩
                              cases hX : fl.all idx1
                              · have hn2 := Lib.hid (hn.out.2 (by rw [hz.out, hX]))
                                clear hX
                                rw [endE_no]
                                go_wp2
                                exact ⟨rfl, by rw [S7.out, hn2.out]; rfl, hB0.out.trans (hB21.out.mono hs0)⟩
                              · have hz := Lib.hid (hz.out.trans (show _ = true from by rw [hX]))
                                rw [endE_yes]
                                clear hX
                                go_wp2
                                go_roundw
                                case rel => exact ⟨i + 1, by omega, by simp, Lib.hid (hn.out.1 hz.out), Lib.hid hB21.out⟩
                                case measure => simp [intOf]; omega
                          · have hiN : i = m.elems.length := by omega
                            subst hiN
                            have ha2 : m.elems.all elmS = true := by have := ha.out; rwa [List.take_length] at this
                            have S8 : Hid (shapedB m = (m.datas.all datS && sh9 m)) := Lib.hid (by rw [S7.out, ha2]; rfl)
                            clear ha ha2 hi hlt
                            have x9 : wr.cell? ⟨w.heap.size, 9, none⟩ = some (.slice a9 m.datas.length k9) := keep_below hb.out _ _ y9.out
                            go_wp2_with fail
                            go_loopw [112] (fun vi wr => ∃ i : Nat, i ≤ m.datas.length ∧ vi = .int .i64 i ∧ Hid ((m.datas.take i).all datS = true) ∧ Hid (Below w0.heap.size w0 wr)) (fun vi _ => m.datas.length - (intOf vi).toNat)
                            case atStart => exact ⟨0, Nat.zero_le _, rfl, Lib.hid rfl, hb⟩
                            case round =>
                              clear hb
                              obtain ⟨i, hi, rfl, ha, hb⟩ := hrel
                              by_cases hlt : i < m.datas.length
                              · obtain ⟨t, ht⟩ : ∃ t, m.datas[i]? = some t := ⟨_, List.getElem?_eq_getElem hlt⟩
                                obtain ⟨b, o, e, hrow⟩ := (HM.out.datas.keep fun _ _ _ => DataAt.keep (keep_below hb.out)).row ht
                                cases e
                                have hn := Lib.hid (all_row ht ha.out)
                                have hal := fun o => (Below.refl wr.heap.size wr).alloc (Nat.le_refl _) o
                                clear ht ha
                                obtain ⟨⟨op, ix, iy, iz, ls, body, els⟩, sb⟩ := t
                                obtain ⟨⟨⟨c0, c1, c2, c3⟩, ⟨q4, r4, c4, i4⟩, ⟨q5, r5, c5, l5, i5⟩, ⟨q6, r6, c6, l6, i6⟩, _⟩, c7, hsz⟩ := hrow
                                simp only at c7 hsz
                                simp only at l5 i5 l6 i6
                                have hone : Hid (OneIs wr ⟨op, ix, iy, iz, ls, body, els⟩ q4 r4 q5 r5 q6 r6) := Lib.hid ⟨i4, l5, by rcases i5 with e | h; exact .inl e; exact .inr (by simpa using h), l6, by rcases i6 with e | h; exact .inl e; exact .inr (by simpa using h)⟩
                                clear i4 i5 i6
                                have hb2 : ∀ o, Below w0.heap.size w0 (wr.alloc o) := fun o => hb.out.trans ((hal o).mono hb.out.size)
                                have hz : Hid (datS (⟨op, ix, iy, iz, ls, body, els⟩, sb) = beg1 ⟨op, ix, iy, iz, ls, body, els⟩) := Lib.hid rfl
                                go_wp2_with fail
                                refine (begins_any op ix iy iz ls body els q4 r4 q5 r5 q6 r6 _ (hone.out.keep (keep_below (hal _)))).mono ?_
                                rintro e v1 ⟨rfl, bb⟩
                                have hB21 := Lib.hid ((hb2 _).trans (bb.mono (hb2 _).size))
                                have hK21 := Lib.hid ((hal _).trans (bb.mono (hal _).size))
                                have hlt21 : wr.heap.size < v1.heap.size := by have := bb.size; first | omega | (simp at this; omega)
                                clear bb
                                cases hX : beg1 ⟨op, ix, iy, iz, ls, body, els⟩
                                · have hn2 := Lib.hid (hn.out.2 (by rw [hz.out, hX]))
                                  clear hX
                                  rw [endE_no]
                                  go_wp2
                                  exact ⟨rfl, by rw [S8.out, hn2.out]; rfl, hB0.out.trans (hB21.out.mono hs0)⟩
                                · have hz := Lib.hid (hz.out.trans (show _ = true from by rw [hX]))
                                  rw [endE_yes]
                                  clear hX
                                  go_wp2
                                  go_roundw
                                  case rel => exact ⟨i + 1, by omega, by simp, Lib.hid (hn.out.1 hz.out), Lib.hid hB21.out⟩
                                  case measure => simp [intOf]; omega
                              · have hiN : i = m.datas.length := by omega
                                subst hiN
                                have ha2 : m.datas.all datS = true := by have := ha.out; rwa [List.take_length] at this
                                have S9 : Hid (shapedB m = m.funcs.all funS) := Lib.hid (by rw [S8.out, ha2]; rfl)
                                clear ha ha2 hi hlt
                                have x2 : wr.cell? ⟨w.heap.size, 2, none⟩ = some (.slice a2 m.funcs.length k2) := keep_below hb.out _ _ y2.out
                                go_wp2_with fail
                                go_loopw [123] (fun vi wr => ∃ i : Nat, i ≤ m.funcs.length ∧ vi = .int .i64 i ∧ Hid ((m.funcs.take i).all funS = true) ∧ Hid (Below w0.heap.size w0 wr)) (fun vi _ => m.funcs.length - (intOf vi).toNat)
                                case atStart => exact ⟨0, Nat.zero_le _, rfl, Lib.hid rfl, hb⟩
                                case round =>
                                  clear hb
                                  obtain ⟨i, hi, rfl, ha, hb⟩ := hrel
                                  by_cases hlt : i < m.funcs.length
                                  · obtain ⟨t, ht⟩ : ∃ t, m.funcs[i]? = some t := ⟨_, List.getElem?_eq_getElem hlt⟩
                                    obtain ⟨b, o, e, hrow⟩ := (HM.out.funcs.keep fun _ _ _ => FuncAt.keep (keep_below hb.out)).row ht
                                    cases e
                                    have hn := Lib.hid (all_row ht ha.out)
                                    have hal := fun o => (Below.refl wr.heap.size wr).alloc (Nat.le_refl _) o
                                    clear ht ha
                                    obtain ⟨ty, lo, bo⟩ := t
                                    obtain ⟨c0, ⟨q1, r1, c1, i1⟩, ⟨q2, r2, c2, l2, i2⟩⟩ := hrow
                                    unfold IntCell at c0
                                    simp only at c0 c1 c2 i1 i2 l2
                                    have i1 := Lib.hid i1
                                    have i2 := Lib.hid i2
                                    have hb2 : ∀ o, Below w0.heap.size w0 (wr.alloc o) := fun o => hb.out.trans ((hal o).mono hb.out.size)
                                    have hz : Hid (funS (ty, lo, bo) = (idx1 ty && (lo.all typ1 && formB bo))) := Lib.hid rfl
                                    go_wp2_with fail
                                    refine (index1_any ty _ _ (ints_new2 wr _ _ [ty] (by simp))).mono ?_
                                    rintro e w' ⟨rfl, rfl⟩
                                    cases hX : idx1 ty
                                    · have hn2 := Lib.hid (hn.out.2 (by rw [hz.out, hX]; rfl))
                                      clear hX
                                      rw [endE_no]
                                      go_wp2
                                      exact ⟨rfl, by rw [S9.out, hn2.out]; rfl, hB0.out.trans (((hb2 _).alloc (hb2 _).size _).mono hs0)⟩
                                    · have hz := Lib.hid (hz.out.trans (show _ = (lo.all typ1 && formB bo) from by rw [hX]; rfl))
                                      rw [endE_yes]
                                      clear hX
                                      go_wp2_with fail
                                      refine (typed_any lo q1 r1 _ (i1.out.below ((hal _).alloc (hal _).size _))).mono ?_
                                      rintro e w' ⟨rfl, rfl⟩
                                      cases hX : lo.all typ1
                                      · have hn2 := Lib.hid (hn.out.2 (by rw [hz.out, hX]; rfl))
                                        clear hX
                                        rw [endE_no]
                                        go_wp2
                                        exact ⟨rfl, by rw [S9.out, hn2.out]; rfl, hB0.out.trans (((hb2 _).alloc (hb2 _).size _).mono hs0)⟩
                                      · have hz := Lib.hid (hz.out.trans (show _ = formB bo from by rw [hX]; rfl))
                                        rw [endE_yes]
                                        clear hX
                                        go_wp2_with fail
                                        refine (formed_any bo q2 r2 _ l2 (i2.out.below ((hal _).alloc (hal _).size _))).mono ?_
                                        rintro e v1 ⟨rfl, bb⟩
                                        have hB21 := Lib.hid (((hb2 _).alloc (hb2 _).size _).trans (bb.mono ((hb2 _).alloc (hb2 _).size _).size))
                                        have hK21 := Lib.hid (((hal _).alloc (hal _).size _).trans (bb.mono ((hal _).alloc (hal _).size _).size))
                                        have hlt21 : wr.heap.size < v1.heap.size := by have := bb.size; first | omega | (simp at this; omega)
                                        clear bb
                                        cases hX : formB bo
                                        · have hn2 := Lib.hid (hn.out.2 (by rw [hz.out, hX]))
                                          clear hX
                                          rw [endE_no]
                                          go_wp2
                                          exact ⟨rfl, by rw [S9.out, hn2.out]; rfl, hB0.out.trans (hB21.out.mono hs0)⟩
                                        · have hz := Lib.hid (hz.out.trans (show _ = true from by rw [hX]))
                                          rw [endE_yes]
                                          clear hX
                                          go_wp2
                                          go_roundw
                                          case rel => exact ⟨i + 1, by omega, by simp, Lib.hid (hn.out.1 hz.out), Lib.hid hB21.out⟩
                                          case measure => simp [intOf]; omega
                                  · have hiN : i = m.funcs.length := by omega
                                    subst hiN
                                    have ha2 : m.funcs.all funS = true := by have := ha.out; rwa [List.take_length] at this
                                    have S10 : Hid (shapedB m = true) := Lib.hid (by rw [S9.out]; exact ha2)
                                    clear ha ha2 hi hlt
                                    go_wp2
                                    go_end0
                                    exact ⟨by rw [S10.out]; rfl, hB0.out.trans (hb.out.mono hs0)⟩
end Go.Proofs.YtkbfjkbokifgkaaDoor

namespace Go.Proofs.YtkbfjkbokifgkaaDoor
open Go.RowKit
set_option linter.unusedVariables false

theorem catch_idle (p : Addr) (w : World) :
    CallsD Tryd.prog 53 #[.pointer (some p)] .returning w fun e u' w' => e = .returned (.tuple #[]) ∧ u' = .returning ∧ w' = w := by
  refine callsD_of_wpS Tryd.func53 rfl fun c₀ cs hu => ?_
  apply wpS_seq
  apply wpS_region
  simp [wpOpsS, go_sem, recoverD, hu, Tryd.ntmps53, Exit.thenS]
  refine wpS_of_wp ?_
  go_wp2
  cases c₀
  simp_all [bodyPostS, results, Tryd.results53]

theorem assert_fault (n : Int) (w : World) : (Instr.typeAssert (Value.iface 101 (.agg #[.int .i64 n])) 20 101 true).run Tryd.prog w = .ok (.tuple #[.agg #[.int .i64 n], .bool true]) w := by kernel_rfl

set_option maxRecDepth 100000 in
theorem catch_fault (p : Nat) (x n : Int) (older : List PanicEntry) (w : World) (hc : w.cell? ⟨p, 0, none⟩ = some (.int .i64 x)) (hz : w.frozen? ⟨p, 0, none⟩ = false) :
    CallsD Tryd.prog 53 #[.pointer (some ⟨p, 0, none⟩)] (.panicking ({ v := .iface 101 (.agg #[.int .i64 n]), recovered := false } :: older)) w fun e u' w' =>
      e = .returned (.tuple #[]) ∧ u' = .panicking ({ v := .iface 101 (.agg #[.int .i64 n]), recovered := true } :: older) ∧ w' = (w.setCell ⟨p, 0, none⟩ (.int .i64 n)).alloc (.cells #[.int .i64 n] 101) := by
  refine callsD_of_wpS Tryd.func53 rfl fun c₀ cs hu => ?_
  apply wpS_seq
  apply wpS_region
  simp [wpOpsS, go_sem, recoverD, hu, Tryd.ntmps53, Exit.thenS]
  refine wpS_of_wp ?_
  have hta := assert_fault n
  have hp : p < w.heap.size := World.block_lt_of_cell? _ _ hc
  change Code.wp Tryd.prog _ _ { tmps := #[.pointer (some ⟨p, 0, none⟩), undef, undef, undef, .iface 101 (.agg #[.int .i64 n]), undef, undef, undef, undef, undef, undef, undef], defers := [] } w
  go_wp2
  cases c₀
  simp_all [bodyPostS, results, Tryd.results53]
end Go.Proofs.YtkbfjkbokifgkaaDoor

namespace Go.Proofs.YtkbfjkbokifgkaaDoor
open Go.RowKit
set_option linter.unusedVariables false

def flatM (m : Md) : Bool := m.funcs.all fun t => flatB t.2.2 0
/-- What Check tells. -/
def checkV (m : Md) : Int := if fewB m = false then 3 else if flatM m = false then 4 else if shapedB m = false then 30 else 0
theorem caught_cell {w2 : World} {q : Nat} {n : Int} {u : Value} {o : Obj} (h : w2.cell? ⟨q, 0, none⟩ = some u) : ((w2.setCell ⟨q, 0, none⟩ (.int .i64 n)).alloc o).cell? ⟨q, 0, none⟩ = some (.int .i64 n) := by
  have hl := World.block_lt_of_cell? _ _ h
  exact (World.cell?_alloc_past _ _ _ (by simpa using hl)).trans (so_same h)
theorem caught_below {w w2 : World} {q : Nat} {v : Value} {o : Obj} (h : Below w.heap.size w w2) (hq : w.heap.size ≤ q) : Below w.heap.size w ((w2.setCell ⟨q, 0, none⟩ v).alloc o) :=
  (h.setCell (p := ⟨q, 0, none⟩) hq v).alloc (h.setCell (p := ⟨q, 0, none⟩) hq v).size o

set_option maxRecDepth 100000 in
set_option maxHeartbeats 1000000 in
theorem check_any (m : Md) (a0 : Option Addr) (k0 : Nat) (a1 : Option Addr) (k1 : Nat) (a2 : Option Addr) (k2 : Nat) (a3 : Option Addr) (k3 : Nat) (a4 : Option Addr) (k4 : Nat) (a5 : Option Addr) (k5 : Nat) (a6 : Option Addr) (k6 : Nat) (a7 : Option Addr) (k7 : Nat) (a8 : Option Addr) (k8 : Nat) (a9 : Option Addr) (k9 : Nat) (w : World) (h : MdAt w m a0 k0 a1 k1 a2 k2 a3 k3 a4 k4 a5 k5 a6 k6 a7 k7 a8 k8 a9 k9) (hT : TabU w) :
    Calls Tryd.prog 24 #[mdV m a0 k0 a1 k1 a2 k2 a3 k3 a4 k4 a5 k5 a6 k6 a7 k7 a8 k8 a9 k9] w fun e w' => e = .returned (.int .i64 (checkV m)) ∧ Below w.heap.size w w' := by
  have hb2 : Below w.heap.size w ((w.alloc (.cells #[.slice a0 m.types.length k0, .slice a1 m.imports.length k1, .slice a2 m.funcs.length k2, .slice a3 m.tables.length k3, .slice a4 m.mems.length k4, .slice a5 m.globals.length k5, .slice a6 m.exports.length k6, .slice a7 m.start.length k7, .slice a8 m.elems.length k8, .slice a9 m.datas.length k9] 33)).alloc (.cells #[.int .i64 0] 34)) := ((Below.refl _ _).alloc (Nat.le_refl _) _).alloc (by simp) _
  have HM := Lib.hid (h.keep (keep_below hb2))
  have HU := Lib.hid (hT.below hb2)
  have hB0 := Lib.hid hb2
  have hmf := hmf
  have n2 := h.funcs.1
  clear h hT hb2
  unfold mdV
  go_enter_defers Tryd.func24, Tryd.ntmps24
  go_wp2_with fail
  obtain ⟨w0, hw0⟩ : ∃ w0, w0 = ((w.alloc (.cells #[.slice a0 m.types.length k0, .slice a1 m.imports.length k1, .slice a2 m.funcs.length k2, .slice a3 m.tables.length k3, .slice a4 m.mems.length k4, .slice a5 m.globals.length k5, .slice a6 m.exports.length k6, .slice a7 m.start.length k7, .slice a8 m.elems.length k8, .slice a9 m.datas.length k9] 33)).alloc (.cells #[.int .i64 0] 34)) := ⟨_, rfl⟩
  rw [← hw0]
  rw [← hw0] at HM HU hB0
  have hs0 : w.heap.size ≤ w0.heap.size := hB0.out.size
  have hlr : w.heap.size + 1 < w0.heap.size := by rw [hw0]; simp
  have yr : Hid (w0.cell? ⟨w.heap.size + 1, 0, none⟩ = some (.int .i64 0)) := Lib.hid (by rw [hw0]; exact World.cell?_alloc_at _ _ _ _ (by simp))
  have yz : Hid (w0.frozen? ⟨w.heap.size + 1, 0, none⟩ = false) := Lib.hid (by rw [hw0]; exact World.frozen?_alloc_at _ _ _ _ (by simp))
  have y0 : Hid (w0.cell? ⟨w.heap.size, 0, none⟩ = some (.slice a0 m.types.length k0)) := Lib.hid (by rw [hw0, World.cell?_alloc_past _ _ _ (by simp)]; exact World.cell?_alloc_at _ _ _ _ rfl)
  have y1 : Hid (w0.cell? ⟨w.heap.size, 1, none⟩ = some (.slice a1 m.imports.length k1)) := Lib.hid (by rw [hw0, World.cell?_alloc_past _ _ _ (by simp)]; exact World.cell?_alloc_at _ _ _ _ rfl)
  have y2 : Hid (w0.cell? ⟨w.heap.size, 2, none⟩ = some (.slice a2 m.funcs.length k2)) := Lib.hid (by rw [hw0, World.cell?_alloc_past _ _ _ (by simp)]; exact World.cell?_alloc_at _ _ _ _ rfl)
  have y3 : Hid (w0.cell? ⟨w.heap.size, 3, none⟩ = some (.slice a3 m.tables.length k3)) := Lib.hid (by rw [hw0, World.cell?_alloc_past _ _ _ (by simp)]; exact World.cell?_alloc_at _ _ _ _ rfl)
  have y4 : Hid (w0.cell? ⟨w.heap.size, 4, none⟩ = some (.slice a4 m.mems.length k4)) := Lib.hid (by rw [hw0, World.cell?_alloc_past _ _ _ (by simp)]; exact World.cell?_alloc_at _ _ _ _ rfl)
  have y5 : Hid (w0.cell? ⟨w.heap.size, 5, none⟩ = some (.slice a5 m.globals.length k5)) := Lib.hid (by rw [hw0, World.cell?_alloc_past _ _ _ (by simp)]; exact World.cell?_alloc_at _ _ _ _ rfl)
  have y6 : Hid (w0.cell? ⟨w.heap.size, 6, none⟩ = some (.slice a6 m.exports.length k6)) := Lib.hid (by rw [hw0, World.cell?_alloc_past _ _ _ (by simp)]; exact World.cell?_alloc_at _ _ _ _ rfl)
  have y7 : Hid (w0.cell? ⟨w.heap.size, 7, none⟩ = some (.slice a7 m.start.length k7)) := Lib.hid (by rw [hw0, World.cell?_alloc_past _ _ _ (by simp)]; exact World.cell?_alloc_at _ _ _ _ rfl)
  have y8 : Hid (w0.cell? ⟨w.heap.size, 8, none⟩ = some (.slice a8 m.elems.length k8)) := Lib.hid (by rw [hw0, World.cell?_alloc_past _ _ _ (by simp)]; exact World.cell?_alloc_at _ _ _ _ rfl)
  have y9 : Hid (w0.cell? ⟨w.heap.size, 9, none⟩ = some (.slice a9 m.datas.length k9)) := Lib.hid (by rw [hw0, World.cell?_alloc_past _ _ _ (by simp)]; exact World.cell?_alloc_at _ _ _ _ rfl)
  clear hw0
  refine (few_any m a0 k0 a1 k1 a2 k2 a3 k3 a4 k4 a5 k5 a6 k6 a7 k7 a8 k8 a9 k9 _ HM.out).mono ?_
  rintro e w2 ⟨rfl, b2⟩
  have hb := Lib.hid b2
  clear b2
  cases hX : fewB m
  · have S : Hid (checkV m = 3) := Lib.hid (by unfold checkV; rw [hX]; rfl)
    rw [endE_no]
    clear hX
    go_wp2
    unfold fault
    refine leaves_cons (f := 53) (args := #[.pointer (some ⟨w.heap.size + 1, 0, none⟩)]) (by simp) (by simp [go_sem]) ?_
    refine (catch_fault (w.heap.size + 1) 0 3 [] _ (keep_below hb.out _ _ yr.out) ((hb.out.frozen hlr).trans yz.out)).mono ?_
    rintro e u' w'' ⟨rfl, rfl, rfl⟩
    have hca := caught_cell (n := 3) (o := .cells #[.int .i64 3] 101) (keep_below hb.out _ _ yr.out)
    have hcb := caught_below (v := .int .i64 3) (o := .cells #[.int .i64 3] 101) (hB0.out.trans (hb.out.mono hs0)) (show w.heap.size ≤ w.heap.size + 1 by omega)
    have hS := S.out
    simp [Leaves, settle, results, Tryd.results24, go_sem]
    rw [hca]
    exact ⟨_, rfl, by rw [hS], hcb⟩
  · have S1 : Hid (checkV m = if flatM m = false then 4 else if shapedB m = false then 30 else 0) := Lib.hid (by unfold checkV; rw [hX]; rfl)
    rw [endE_yes]
    clear hX
    have x2 : w2.cell? ⟨w.heap.size, 2, none⟩ = some (.slice a2 m.funcs.length k2) := keep_below hb.out _ _ y2.out
    go_wp2_with fail
    go_loopw [11] (fun vi wr => ∃ i : Nat, i ≤ m.funcs.length ∧ vi = .int .i64 i ∧ Hid ((m.funcs.take i).all (fun t => flatB t.2.2 0) = true) ∧ Hid (Below w0.heap.size w0 wr)) (fun vi _ => m.funcs.length - (intOf vi).toNat)
    case atStart => exact ⟨0, Nat.zero_le _, rfl, Lib.hid rfl, hb⟩
    case round =>
      clear hb
      obtain ⟨i, hi, rfl, ha, hb⟩ := hrel
      by_cases hlt : i < m.funcs.length
      · obtain ⟨t, ht⟩ : ∃ t, m.funcs[i]? = some t := ⟨_, List.getElem?_eq_getElem hlt⟩
        obtain ⟨b, o, e, hrow⟩ := (HM.out.funcs.keep fun _ _ _ => FuncAt.keep (keep_below hb.out)).row ht
        cases e
        have hn := Lib.hid (all_row ht ha.out)
        have hal := fun o => (Below.refl wr.heap.size wr).alloc (Nat.le_refl _) o
        clear ht ha
        obtain ⟨ty, lo, bo⟩ := t
        obtain ⟨c0, ⟨q1, r1, c1, i1⟩, ⟨q2, r2, c2, l2, i2⟩⟩ := hrow
        unfold IntCell at c0
        simp only at c0 c1 c2 i1 i2 l2
        have i2 := Lib.hid i2
        clear i1
        have hb2 : ∀ o, Below w0.heap.size w0 (wr.alloc o) := fun o => hb.out.trans ((hal o).mono hb.out.size)
        have hfl := fun (wq : World) h => Lib.hid (flat_any bo q2 r2 wq 0 l2 h (by omega) (by omega))
        go_wp2_with fail
        refine (hfl _ (i2.out.below (hal _))).out.mono ?_
        rintro e v1 ⟨rfl, bb⟩
        have hB1 := Lib.hid ((hb2 _).trans (bb.mono (hb2 _).size))
        clear bb hfl
        cases hX : flatB bo 0
        · have S : Hid (checkV m = 4) := Lib.hid (by
            have : flatM m = false := hn.out.2 hX
            rw [S1.out, this]; rfl)
          rw [endE_no]
          clear hX
          go_wp2
          unfold fault
          refine leaves_cons (f := 53) (args := #[.pointer (some ⟨w.heap.size + 1, 0, none⟩)]) (by simp) (by simp [go_sem]) ?_
          refine (catch_fault (w.heap.size + 1) 0 4 [] _ (keep_below hB1.out _ _ yr.out) ((hB1.out.frozen hlr).trans yz.out)).mono ?_
          rintro e u' w'' ⟨rfl, rfl, rfl⟩
          have hca := caught_cell (n := 4) (o := .cells #[.int .i64 4] 101) (keep_below hB1.out _ _ yr.out)
          have hcb := caught_below (v := .int .i64 4) (o := .cells #[.int .i64 4] 101) (hB0.out.trans (hB1.out.mono hs0)) (show w.heap.size ≤ w.heap.size + 1 by omega)
          have hS := S.out
          simp [Leaves, settle, results, Tryd.results24, go_sem]
          rw [hca]
          exact ⟨_, rfl, by rw [hS], hcb⟩
        · have hn2 := Lib.hid (hn.out.1 hX)
          rw [endE_yes]
          clear hX
          go_wp2
          go_roundw
          case rel => exact ⟨i + 1, by omega, by simp, hn2, hB1⟩
          case measure => simp [intOf]; omega
      · have hiN : i = m.funcs.length := by omega
        subst hiN
        have ha2 : flatM m = true := by have := ha.out; rwa [List.take_length] at this
        have S2 : Hid (checkV m = if shapedB m = false then 30 else 0) := Lib.hid (by rw [S1.out, ha2]; rfl)
        clear ha ha2 hi hlt
        have x0 : wr.cell? ⟨w.heap.size, 0, none⟩ = some (.slice a0 m.types.length k0) := keep_below hb.out _ _ y0.out
        have x1 : wr.cell? ⟨w.heap.size, 1, none⟩ = some (.slice a1 m.imports.length k1) := keep_below hb.out _ _ y1.out
        have x2 : wr.cell? ⟨w.heap.size, 2, none⟩ = some (.slice a2 m.funcs.length k2) := keep_below hb.out _ _ y2.out
        have x3 : wr.cell? ⟨w.heap.size, 3, none⟩ = some (.slice a3 m.tables.length k3) := keep_below hb.out _ _ y3.out
        have x4 : wr.cell? ⟨w.heap.size, 4, none⟩ = some (.slice a4 m.mems.length k4) := keep_below hb.out _ _ y4.out
        have x5 : wr.cell? ⟨w.heap.size, 5, none⟩ = some (.slice a5 m.globals.length k5) := keep_below hb.out _ _ y5.out
        have x6 : wr.cell? ⟨w.heap.size, 6, none⟩ = some (.slice a6 m.exports.length k6) := keep_below hb.out _ _ y6.out
        have x7 : wr.cell? ⟨w.heap.size, 7, none⟩ = some (.slice a7 m.start.length k7) := keep_below hb.out _ _ y7.out
        have x8 : wr.cell? ⟨w.heap.size, 8, none⟩ = some (.slice a8 m.elems.length k8) := keep_below hb.out _ _ y8.out
        have x9 : wr.cell? ⟨w.heap.size, 9, none⟩ = some (.slice a9 m.datas.length k9) := keep_below hb.out _ _ y9.out
        go_wp2_with fail
        refine (shaped_any m a0 k0 a1 k1 a2 k2 a3 k3 a4 k4 a5 k5 a6 k6 a7 k7 a8 k8 a9 k9 _ (HM.out.keep (keep_below hb.out)) (HU.out.below hb.out)).mono ?_
        rintro e v1 ⟨rfl, bb⟩
        have hB1 := Lib.hid (hb.out.trans (bb.mono hb.out.size))
        clear bb
        cases hX : shapedB m
        · have S : Hid (checkV m = 30) := Lib.hid (by rw [S2.out, hX]; rfl)
          rw [endE_no]
          clear hX
          go_wp2
          unfold fault
          refine leaves_cons (f := 53) (args := #[.pointer (some ⟨w.heap.size + 1, 0, none⟩)]) (by simp) (by simp [go_sem]) ?_
          refine (catch_fault (w.heap.size + 1) 0 30 [] _ (keep_below hB1.out _ _ yr.out) ((hB1.out.frozen hlr).trans yz.out)).mono ?_
          rintro e u' w'' ⟨rfl, rfl, rfl⟩
          have hca := caught_cell (n := 30) (o := .cells #[.int .i64 30] 101) (keep_below hB1.out _ _ yr.out)
          have hcb := caught_below (v := .int .i64 30) (o := .cells #[.int .i64 30] 101) (hB0.out.trans (hB1.out.mono hs0)) (show w.heap.size ≤ w.heap.size + 1 by omega)
          have hS := S.out
          simp [Leaves, settle, results, Tryd.results24, go_sem]
          rw [hca]
          exact ⟨_, rfl, by rw [hS], hcb⟩
        · have S : Hid (checkV m = 0) := Lib.hid (by rw [S2.out, hX]; rfl)
          rw [endE_yes]
          clear hX
          have xr := keep_below hB1.out _ _ yr.out
          have xz := (hB1.out.frozen hlr).trans yz.out
          go_wp2_with fail
          refine leaves_cons (f := 53) (args := #[.pointer (some ⟨w.heap.size + 1, 0, none⟩)]) (by simp) (by simp [go_sem]) ?_
          refine (catch_idle ⟨w.heap.size + 1, 0, none⟩ _).mono ?_
          rintro e u' w'' ⟨rfl, rfl, rfl⟩
          have hca : (v1.setCell ⟨w.heap.size + 1, 0, none⟩ (.int .i64 0)).cell? ⟨w.heap.size + 1, 0, none⟩ = some (.int .i64 0) := so_same xr
          have hcb : Below w.heap.size w (v1.setCell ⟨w.heap.size + 1, 0, none⟩ (.int .i64 0)) := (hB0.out.trans (hB1.out.mono hs0)).setCell (p := ⟨w.heap.size + 1, 0, none⟩) (show w.heap.size ≤ w.heap.size + 1 by omega) _
          have hS := S.out
          simp [Leaves, settle, results, Tryd.results24, go_sem, hca]
          exact ⟨hS.symm, hcb⟩
end Go.Proofs.YtkbfjkbokifgkaaDoor

namespace Go.Proofs.YtkbfjkbokifgkaaDoor
open Go.RowKit
set_option linter.unusedVariables false

theorem at_of {w : World} {h : Nat} (hh : w.heap.size = h) (cs : Array Value) (t : TypeId) : ∀ j v, cs[j]? = some v → (w.alloc (.cells cs t)).cell? ⟨h, j, none⟩ = some v := by
  subst hh
  exact fun j v e => (World.cell?_alloc_at _ _ _ j rfl).trans e
theorem keeps_alloc (w : World) (o : Obj) : Keeps w (w.alloc o) := keep_below ((Below.refl _ _).alloc (Nat.le_refl _) _)
theorem Keeps.trans {a b c : World} (f : Keeps a b) (g : Keeps b c) : Keeps a c := fun p v h => g p v (f p v h)
theorem ints_nil (w : World) : IntsIn w none [] := ⟨Nat.zero_le _, .inl rfl⟩
theorem rows_nil {α : Type} (F : World → Nat → Nat → α → Prop) (k : Nat) (w : World) : RowsIn F k w none [] := ⟨Nat.zero_le _, .inl rfl⟩
theorem il_nil (w : World) (a : Option Addr) (i : Nat) : IlIn w a i .nil := .inl rfl
/-- A module of types and functions alone. -/
def mdTF (ts : List (List Int × List Int)) (fs : List (Int × List Int × Il)) : Md := ⟨ts, [], fs, [], [], [], [], [], [], []⟩
theorem md_TF {w : World} {ts : List (List Int × List Int)} {fs : List (Int × List Int × Il)} {a0 a2 : Option Addr} {k0 k2 : Nat} (h0 : RowsIn TypeAt 2 w a0 ts) (h2 : RowsIn FuncAt 3 w a2 fs) :
    MdAt w (mdTF ts fs) a0 k0 none 0 a2 k2 none 0 none 0 none 0 none 0 none 0 none 0 none 0 :=
  ⟨h0, rows_nil _ _ _, h2, rows_nil _ _ _, rows_nil _ _ _, rows_nil _ _ _, rows_nil _ _ _, ints_nil _, rows_nil _ _ _, rows_nil _ _ _⟩
theorem rows_one {α : Type} {F : World → Nat → Nat → α → Prop} {k : Nat} {w : World} {b o : Nat} {x : α} (h : F w b o x) : RowsIn F k w (some ⟨b, o, none⟩) [x] :=
  ⟨by simp, .inr ⟨b, o, rfl, fun i y hy => by
    cases i with
    | zero => simp at hy; subst hy; simpa using h
    | succ i => simp at hy⟩⟩
theorem ints_one {w : World} {b o : Nat} {x : Int} (h : w.cell? ⟨b, o, none⟩ = some (.int .i64 x)) : IntsIn w (some ⟨b, o, none⟩) [x] :=
  ⟨by simp, .inr ⟨b, o, rfl, fun i y hy => by
    cases i with
    | zero => simp at hy; subst hy; simpa using h
    | succ i => simp at hy⟩⟩
/-- A nop; a block. -/
def nop1 : Il := .cons 1 0 0 0 [] .nil .nil .nil
def blk1 (b : Il) : Il := .cons 2 0 0 0 [] b .nil .nil
def instrC (op : Int) (v : Value) : Array Value := #[.int .i64 op, .int .i64 0, .int .i64 0, .int .i64 0, .slice none 0 0, v, .slice none 0 0]
theorem nop_at {w : World} {b : Nat} (h : ∀ j v, (instrC 1 (.slice none 0 0))[j]? = some v → w.cell? ⟨b, j, none⟩ = some v) : IlAt w b 0 nop1 := by
  refine ⟨⟨h 0 _ rfl, h 1 _ rfl, h 2 _ rfl, h 3 _ rfl⟩, ⟨none, 0, h 4 _ rfl, ints_nil _⟩, ⟨none, 0, h 5 _ rfl, Nat.zero_le _, .inl rfl⟩, ⟨none, 0, h 6 _ rfl, Nat.zero_le _, .inl rfl⟩, trivial⟩
theorem blk_at {w : World} {b b2 : Nat} {l : Il} {c : Nat} (hl : l.len ≤ 9223372036854775807) (hi : IlAt w b2 0 l) (h : ∀ j v, (instrC 2 (.slice (some ⟨b2, 0, none⟩) l.len c))[j]? = some v → w.cell? ⟨b, j, none⟩ = some v) : IlAt w b 0 (blk1 l) := by
  refine ⟨⟨h 0 _ rfl, h 1 _ rfl, h 2 _ rfl, h 3 _ rfl⟩, ⟨none, 0, h 4 _ rfl, ints_nil _⟩, ⟨_, _, h 5 _ rfl, hl, .inr ⟨b2, 0, rfl, hi⟩⟩, ⟨none, 0, h 6 _ rfl, Nat.zero_le _, .inl rfl⟩, trivial⟩

def woke1 : Md := mdTF [([], [])] [(0, [], blk1 nop1)]
def woke2 : Md := mdTF [([1], [])] []
theorem woke1_check : checkV woke1 = 0 := by decide +kernel
theorem woke2_check : checkV woke2 = 30 := by decide +kernel
theorem woke1_count : 65536 - cntF woke1.funcs 65536 = 2 := by decide +kernel

def mdC (v0 v2 : Value) : Array Value := #[v0, .slice none 0 0, v2, .slice none 0 0, .slice none 0 0, .slice none 0 0, .slice none 0 0, .slice none 0 0, .slice none 0 0, .slice none 0 0]
def ewk1 (w : World) : World :=
  ((((w.alloc (.cells #[.slice none 0 0, .slice none 0 0] 74)).alloc (.cells (instrC 1 (.slice none 0 0)) 70)).alloc (.cells (instrC 2 (.slice (some ⟨w.heap.size + 1, 0, none⟩) 1 1)) 70)).alloc
    (.cells #[.int .i64 0, .slice none 0 0, .slice (some ⟨w.heap.size + 1 + 1, 0, none⟩) 1 1] 48)).alloc (.cells (mdC (.slice (some ⟨w.heap.size, 0, none⟩) 1 1) (.slice (some ⟨w.heap.size + 1 + 1 + 1, 0, none⟩) 1 1)) 33)
def wk0 (w : World) : World :=
  (((ewk1 w).alloc (.cells #[.int .i64 1] 3)).alloc (.cells #[.slice (some ⟨w.heap.size + 1 + 1 + 1 + 1 + 1, 0, none⟩) 1 1, .slice none 0 0] 74)).alloc
    (.cells (mdC (.slice (some ⟨w.heap.size + 1 + 1 + 1 + 1 + 1 + 1, 0, none⟩) 1 1) (.slice none 0 0)) 33)

structure Woke (w wz : World) (h : Nat) : Prop where
  below : Below h w wz
  m1 : MdAt wz woke1 (some ⟨h, 0, none⟩) 1 none 0 (some ⟨h + 1 + 1 + 1, 0, none⟩) 1 none 0 none 0 none 0 none 0 none 0 none 0 none 0
  m2 : MdAt wz woke2 (some ⟨h + 1 + 1 + 1 + 1 + 1 + 1, 0, none⟩) 1 none 0 none 0 none 0 none 0 none 0 none 0 none 0 none 0 none 0
  c1 : ∀ j v, (mdC (.slice (some ⟨h, 0, none⟩) 1 1) (.slice (some ⟨h + 1 + 1 + 1, 0, none⟩) 1 1))[j]? = some v → wz.cell? ⟨h + 1 + 1 + 1 + 1, j, none⟩ = some v
  c2 : ∀ j v, (mdC (.slice (some ⟨h + 1 + 1 + 1 + 1 + 1 + 1, 0, none⟩) 1 1) (.slice none 0 0))[j]? = some v → wz.cell? ⟨h + 1 + 1 + 1 + 1 + 1 + 1 + 1, j, none⟩ = some v

theorem woke (w : World) : Woke w (wk0 w) w.heap.size := by
  obtain ⟨h, s0⟩ : ∃ h, w.heap.size = h := ⟨_, rfl⟩
  unfold wk0 ewk1
  rw [s0]
  generalize hv1 : Obj.cells #[.slice none 0 0, .slice none 0 0] 74 = o1
  have a1 : ∀ j v, (#[.slice none 0 0, .slice none 0 0] : Array Value)[j]? = some v → (w.alloc o1).cell? ⟨h, j, none⟩ = some v := by rw [← hv1]; exact at_of s0 _ _
  have b1 : Below h w (w.alloc o1) := by rw [← s0]; exact (Below.refl _ _).alloc (Nat.le_refl _) _
  have s1 := size_of s0 o1
  generalize w.alloc o1 = w1 at *
  clear hv1
  have a2 := at_of s1 (instrC 1 (.slice none 0 0)) 70
  have k2 := keeps_alloc w1 (.cells (instrC 1 (.slice none 0 0)) 70)
  have b2 := b1.alloc (by omega) (.cells (instrC 1 (.slice none 0 0)) 70)
  have s2 := size_of s1 (.cells (instrC 1 (.slice none 0 0)) 70)
  generalize w1.alloc (.cells (instrC 1 (.slice none 0 0)) 70) = w2 at *
  have a3 := at_of s2 (instrC 2 (.slice (some ⟨h + 1, 0, none⟩) 1 1)) 70
  have k3 := keeps_alloc w2 (.cells (instrC 2 (.slice (some ⟨h + 1, 0, none⟩) 1 1)) 70)
  have b3 := b2.alloc (by omega) (.cells (instrC 2 (.slice (some ⟨h + 1, 0, none⟩) 1 1)) 70)
  have s3 := size_of s2 (.cells (instrC 2 (.slice (some ⟨h + 1, 0, none⟩) 1 1)) 70)
  generalize w2.alloc (.cells (instrC 2 (.slice (some ⟨h + 1, 0, none⟩) 1 1)) 70) = w3 at *
  have a4 := at_of s3 #[.int .i64 0, .slice none 0 0, .slice (some ⟨h + 1 + 1, 0, none⟩) 1 1] 48
  have k4 := keeps_alloc w3 (.cells #[.int .i64 0, .slice none 0 0, .slice (some ⟨h + 1 + 1, 0, none⟩) 1 1] 48)
  have b4 := b3.alloc (by omega) (.cells #[.int .i64 0, .slice none 0 0, .slice (some ⟨h + 1 + 1, 0, none⟩) 1 1] 48)
  have s4 := size_of s3 (.cells #[.int .i64 0, .slice none 0 0, .slice (some ⟨h + 1 + 1, 0, none⟩) 1 1] 48)
  generalize w3.alloc (.cells #[.int .i64 0, .slice none 0 0, .slice (some ⟨h + 1 + 1, 0, none⟩) 1 1] 48) = w4 at *
  have a5 := at_of s4 (mdC (.slice (some ⟨h, 0, none⟩) 1 1) (.slice (some ⟨h + 1 + 1 + 1, 0, none⟩) 1 1)) 33
  have k5 := keeps_alloc w4 (.cells (mdC (.slice (some ⟨h, 0, none⟩) 1 1) (.slice (some ⟨h + 1 + 1 + 1, 0, none⟩) 1 1)) 33)
  have b5 := b4.alloc (by omega) (.cells (mdC (.slice (some ⟨h, 0, none⟩) 1 1) (.slice (some ⟨h + 1 + 1 + 1, 0, none⟩) 1 1)) 33)
  have s5 := size_of s4 (.cells (mdC (.slice (some ⟨h, 0, none⟩) 1 1) (.slice (some ⟨h + 1 + 1 + 1, 0, none⟩) 1 1)) 33)
  generalize w4.alloc (.cells (mdC (.slice (some ⟨h, 0, none⟩) 1 1) (.slice (some ⟨h + 1 + 1 + 1, 0, none⟩) 1 1)) 33) = w5 at *
  have a6 := at_of s5 #[.int .i64 1] 3
  have k6 := keeps_alloc w5 (.cells #[.int .i64 1] 3)
  have b6 := b5.alloc (by omega) (.cells #[.int .i64 1] 3)
  have s6 := size_of s5 (.cells #[.int .i64 1] 3)
  generalize w5.alloc (.cells #[.int .i64 1] 3) = w6 at *
  have a7 := at_of s6 #[.slice (some ⟨h + 1 + 1 + 1 + 1 + 1, 0, none⟩) 1 1, .slice none 0 0] 74
  have k7 := keeps_alloc w6 (.cells #[.slice (some ⟨h + 1 + 1 + 1 + 1 + 1, 0, none⟩) 1 1, .slice none 0 0] 74)
  have b7 := b6.alloc (by omega) (.cells #[.slice (some ⟨h + 1 + 1 + 1 + 1 + 1, 0, none⟩) 1 1, .slice none 0 0] 74)
  have s7 := size_of s6 (.cells #[.slice (some ⟨h + 1 + 1 + 1 + 1 + 1, 0, none⟩) 1 1, .slice none 0 0] 74)
  generalize w6.alloc (.cells #[.slice (some ⟨h + 1 + 1 + 1 + 1 + 1, 0, none⟩) 1 1, .slice none 0 0] 74) = w7 at *
  have a8 := at_of s7 (mdC (.slice (some ⟨h + 1 + 1 + 1 + 1 + 1 + 1, 0, none⟩) 1 1) (.slice none 0 0)) 33
  have k8 := keeps_alloc w7 (.cells (mdC (.slice (some ⟨h + 1 + 1 + 1 + 1 + 1 + 1, 0, none⟩) 1 1) (.slice none 0 0)) 33)
  have b8 := b7.alloc (by omega) (.cells (mdC (.slice (some ⟨h + 1 + 1 + 1 + 1 + 1 + 1, 0, none⟩) 1 1) (.slice none 0 0)) 33)
  generalize w7.alloc (.cells (mdC (.slice (some ⟨h + 1 + 1 + 1 + 1 + 1 + 1, 0, none⟩) 1 1) (.slice none 0 0)) 33) = w8 at *
  have t1 : TypeAt w1 h 0 ([], []) := ⟨⟨none, 0, a1 0 _ rfl, ints_nil _⟩, ⟨none, 0, a1 1 _ rfl, ints_nil _⟩⟩
  have i2 := nop_at a2
  have i3 : IlAt w3 (h + 1 + 1) 0 (blk1 nop1) := blk_at (l := nop1) (c := 1) (by decide) (IlAt.keep k3 _ _ _ i2) a3
  have f4 : FuncAt w4 (h + 1 + 1 + 1) 0 (0, [], blk1 nop1) := ⟨a4 0 _ rfl, ⟨none, 0, a4 1 _ rfl, ints_nil _⟩, ⟨_, _, a4 2 _ rfl, by decide, .inr ⟨_, _, rfl, IlAt.keep k4 _ _ _ i3⟩⟩⟩
  have t7 : TypeAt w7 (h + 1 + 1 + 1 + 1 + 1 + 1) 0 ([1], []) := ⟨⟨_, 1, a7 0 _ rfl, ints_one (k7 _ _ (a6 0 _ rfl))⟩, ⟨none, 0, a7 1 _ rfl, ints_nil _⟩⟩
  have k45 := ((k5.trans k6).trans k7).trans k8
  exact ⟨b8, md_TF (rows_one (t1.keep (((k2.trans k3).trans k4).trans k45))) (rows_one (f4.keep k45)), md_TF (rows_one (t7.keep k8)) (rows_nil _ _ _), fun j v e => ((k6.trans k7).trans k8) _ _ (a5 j v e), a8⟩

end Go.Proofs.YtkbfjkbokifgkaaDoor
