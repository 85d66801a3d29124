/- The contract of Count. -/
import Derived.Test.YtacohbllbjgdgaaDoorMg
import Derived.ProofKit
import Derived.ChangeArms
import Derived.DataReads
import Derived.OpenShut
import Derived.KernelRfl
import Derived.SizedLaws
namespace Go.Proofs.YtacohbllbjgdgaaDoor
open Go.RowKit
set_option linter.unusedVariables false

def cntF : List (Int × List Int × Il) → Int → Int
  | [], left => left
  | f :: r, left => if cnt f.2.2 left < 0 then cnt f.2.2 left else cntF r (cnt f.2.2 left)

theorem drop_at {α : Type} {l : List α} {i : Nat} {x : α} (hx : l[i]? = some x) : l.drop i = x :: l.drop (i + 1) := by
  have hi := (List.getElem?_eq_some_iff.1 hx).1
  have he := (List.getElem?_eq_some_iff.1 hx).2
  rw [List.drop_eq_getElem_cons hi, he]

set_option maxRecDepth 100000 in
set_option maxHeartbeats 4000000 in
theorem count_core (m : Md) (v0 v1 v3 v4 v5 v6 v7 v8 v9 : Value) (a2 : Option Addr) (k2 : Nat) (w : World) (h : RowsIn FuncAt 3 w a2 m.funcs) :
    Calls Tryd.prog 28 #[.agg #[v0, v1, .slice a2 m.funcs.length k2, v3, v4, v5, v6, v7, v8, v9]] w fun e w' => e = .returned (.int .i64 (65536 - cntF m.funcs 65536)) ∧ Below w.heap.size w w' := by
  obtain ⟨N, hN⟩ : ∃ N, m.funcs.length = N := ⟨_, rfl⟩
  have hl := h.1
  have HR := Lib.hid h
  clear h
  rw [hN] at hl ⊢
  generalize m.funcs = fs at *
  obtain ⟨X, hX⟩ : ∃ X, cntF fs 65536 = X := ⟨_, rfl⟩
  rw [hX]
  have hX0 : Hid (X = cntF (fs.drop 0) 65536) := Lib.hid hX.symm
  clear hX
  go_enter Tryd.func28, Tryd.ntmps28
  go_wp2_with fail
  go_loopw [3, 9] (fun vL vi wr => ∃ (i : Nat) (L : Int), i ≤ N ∧ vi = .int .i64 i ∧ vL = .int .i64 L ∧ 0 ≤ L ∧ L ≤ 65536 ∧ Hid (X = cntF (fs.drop i) L) ∧ Hid (Below w.heap.size w wr)) (fun _ vi _ => N - (intOf vi).toNat)
  case atStart => exact ⟨0, 65536, Nat.zero_le _, rfl, rfl, by omega, by omega, hX0, Lib.hid ((Below.refl _ _).alloc (Nat.le_refl _) _)⟩
  case round =>
    obtain ⟨i, L, hi, rfl, rfl, hL0, hL1, hc, hb⟩ := hrel
    by_cases hlt : i < N
    · obtain ⟨f, hf⟩ : ∃ f, fs[i]? = some f := ⟨_, List.getElem?_eq_getElem (by omega)⟩
      obtain ⟨b, o, rfl, hrow⟩ := (HR.out.keep fun _ _ _ => FuncAt.keep (keep_below hb.out)).row hf
      obtain ⟨c0, ⟨a1', k1', c1, _⟩, ⟨a2', k2', c2, l2, i2⟩⟩ := hrow
      unfold IntCell at c0
      have hi2 := Lib.hid i2
      have hd := drop_at hf
      have hc2 : Hid (X = (if cnt f.2.2 L < 0 then cnt f.2.2 L else cntF (fs.drop (i + 1)) (cnt f.2.2 L))) := Lib.hid (by rw [hc.out, hd]; rfl)
      have hbd := cnt_bd f.2.2 L hL0
      have hal : ∀ o, Below wr.heap.size wr (wr.alloc o) := fun o => (Below.refl _ _).alloc (Nat.le_refl _) o
      have hcb := fun w h0 => Lib.hid (counted_any f.2.2 a2' k2' w L l2 h0 hL0 hL1)
      clear hd hc hf i2
      generalize hY : cnt f.2.2 L = Y at *
      clear hY
      go_wp2_with fail
      refine (hcb _ (hi2.out.below (hal _))).out.mono ?_
      rintro e w2 ⟨rfl, b2⟩
      have hb2 := Lib.hid (hb.out.trans (((hal _).trans (b2.mono (by simp))).mono hb.out.size))
      clear b2
      by_cases hY0 : Y < 0
      · rw [if_pos hY0] at hc2
        go_wp2
        go_ret
        exact ⟨by rw [hc2.out]; rfl, hb2.out⟩
      · rw [if_neg hY0] at hc2
        go_wp2
        go_roundw
        case rel => exact ⟨i + 1, Y, by omega, by simp, rfl, by omega, by omega, hc2, hb2⟩
        case measure => simp [intOf]; omega
    · obtain rfl : i = N := by omega
      have hd : fs.drop i = [] := by rw [← hN]; exact List.drop_length
      have hc2 : Hid (X = L) := Lib.hid (by rw [hc.out, hd]; rfl)
      clear hd hc
      go_wp2
      go_ret
      exact ⟨by rw [hc2.out]; rfl, hb.out⟩
end Go.Proofs.YtacohbllbjgdgaaDoor
namespace Go.Proofs.YtacohbllbjgdgaaDoor
open Go.ChangeShapes Go.WideShapes Go.ChangeAt Go.RowKit
set_option linter.unusedVariables false
section
variable {H : Type} {enc : TypeId × Value → H} {P : Program} {w : World} {base : Nat} {sp : Nat → Bool} {held : Bool}

theorem addr_add_add (a : Addr) (i j : Nat) : (a.add i).add j = a.add (i + j) := by
  unfold Addr.add
  by_cases hi : i = 0
  · subst hi
    simp
  · by_cases hj : j = 0
    · subst hj
      simp [hi]
    · rw [if_neg hi, if_neg hj, if_neg (by omega)]
      simp [Nat.add_assoc]
theorem addr_add_none (b o j : Nat) : (⟨b, o, none⟩ : Addr).add j = ⟨b, o + j, none⟩ := by
  unfold Addr.add
  split
  · subst_vars; rfl
  · rfl
/-- A slice: either nothing, or rows one behind the other, each with its reading. -/
theorem slice_rows {t e : TypeId} {k fuel : Nat} {cs : List Value} {x : DataW H × List MemPlace} (ht : P.underlying t = some (.slice e)) (hc : P.cellsOf e = k) (hk : 0 < k)
    (h : DataW.trod enc P w base sp held fuel t cs = some x) :
    ∃ ao len cap, cs = [.slice ao len cap] ∧ len ≤ 9223372036854775807 ∧ (len = 0 ∨ ∃ b o, ao = some ⟨b, o, none⟩ ∧ ∀ i, i < len → ∃ row n y, n < fuel ∧ row.length = k ∧
      (∀ j v, row[j]? = some v → w.cell? ⟨b, o + i * k + j, none⟩ = some v) ∧ DataW.trod enc P w base sp held n e row = some y) := by
  rcases DataW.trod_slice ht h with ⟨rfl, _⟩ | ⟨a, len, cap, elems, rest, n, hn, rfl, _, _, hl, hm, hlen, hel, _⟩
  · exact ⟨none, 0, 0, rfl, by omega, .inl rfl⟩
  · refine ⟨some a, len, cap, rfl, by unfold maxLen at hm; omega, ?_⟩
    by_cases h0 : len = 0
    · exact .inl h0
    · right
      have key : ∀ i, i < len → ∃ row y, row.length = k ∧ (∀ j v, row[j]? = some v → w.cell? (a.add (i * k + j)) = some v) ∧ DataW.trod enc P w base sp held n e row = some y := by
        intro i hi
        have hE := hel i hi
        have hs : ∃ y, elems[i]? = some y := ⟨_, List.getElem?_eq_getElem (by omega)⟩
        obtain ⟨y, hy⟩ := hs
        rw [hy, hc] at hE
        obtain ⟨row, hrow, hy2⟩ := Option.bind_eq_some_iff.1 hE
        obtain ⟨_, hlr, hg⟩ := World.cells?_some hrow
        refine ⟨row, y, hlr, fun j v hj => ?_, hy2⟩
        have hjk : j < k := by rw [← hlr]; exact (List.getElem?_eq_some_iff.1 hj).1
        have := hg j hjk
        rw [hj] at this
        rwa [addr_add_add] at this
      have hsp : a.spot = none := by
        obtain ⟨row, y, hlr, hg, _⟩ := key 0 (by omega)
        have := World.cell?_spot (hg 0 _ (List.getElem?_eq_getElem (by omega)))
        simpa [Addr.add] using this
      obtain ⟨b, o, s⟩ := a
      simp only at hsp
      subst hsp
      refine ⟨b, o, rfl, fun i hi => ?_⟩
      obtain ⟨row, y, hlr, hg, hy⟩ := key i hi
      refine ⟨row, n, y, by omega, hlr, fun j v hj => ?_, hy⟩
      have := hg j v hj
      rwa [addr_add_none, ← Nat.add_assoc] at this
theorem rows_pick {α : Type} {F : Nat → α → Prop} : ∀ len, (∀ i, i < len → ∃ x, F i x) → ∃ xs : List α, xs.length = len ∧ ∀ i x, xs[i]? = some x → F i x
  | 0, _ => ⟨[], rfl, fun i x h => by simp at h⟩
  | n + 1, h => by
    obtain ⟨xs, hl, hx⟩ := rows_pick n fun i hi => h i (by omega)
    obtain ⟨y, hy⟩ := h n (by omega)
    refine ⟨xs ++ [y], by simp [hl], fun i x hi => ?_⟩
    by_cases hin : i < n
    · rw [List.getElem?_append_left (by omega)] at hi
      exact hx i x hi
    · rw [List.getElem?_append_right (by omega)] at hi
      have hi1 : i - xs.length < 1 := by simpa using (List.getElem?_eq_some_iff.1 hi).1
      have : i = n := by omega
      subst this
      simp [hl] at hi
      subst hi
      exact hy
/-- Rows, read by a law of theirs. -/
theorem open_rows {α : Type} {F : World → Nat → Nat → α → Prop} {t e : TypeId} {k fuel : Nat} {cs : List Value} {x : DataW H × List MemPlace} (ht : P.underlying t = some (.slice e)) (hc : P.cellsOf e = k) (hk : 0 < k)
    (hF : ∀ n row y b o, n < fuel → row.length = k → (∀ j v, row[j]? = some v → w.cell? ⟨b, o + j, none⟩ = some v) → DataW.trod enc P w base sp held n e row = some y → ∃ q, F w b o q)
    (h : DataW.trod enc P w base sp held fuel t cs = some x) : ∃ ao xs cap, cs = [.slice ao (List.length xs) cap] ∧ RowsIn F k w ao xs := by
  obtain ⟨ao, len, cap, rfl, hl, h0 | ⟨b, o, rfl, hr⟩⟩ := slice_rows ht hc hk h
  · exact ⟨ao, [], cap, by rw [h0]; rfl, by simp, .inl rfl⟩
  · obtain ⟨xs, hxl, hx⟩ := rows_pick (F := fun i q => F w b (o + i * k) q) len fun i hi => by
      obtain ⟨row, n, y, hn, hlr, hg, hy⟩ := hr i hi
      exact hF n row y b (o + i * k) hn hlr hg hy
    exact ⟨_, xs, cap, by rw [hxl], by omega, .inr ⟨b, o, rfl, hx⟩⟩
theorem open_bool_cell {t : TypeId} {fuel : Nat} {cs : List Value} {x : DataW H × List MemPlace} (ht : P.underlying t = some .bool) (h : DataW.trod enc P w base sp held fuel t cs = some x) : ∃ c, cs = [.bool c] := by
  obtain ⟨c, h, _⟩ := DataW.trod_bool ht h
  exact ⟨c, h⟩
end
end Go.Proofs.YtacohbllbjgdgaaDoor

namespace Go.Proofs.YtacohbllbjgdgaaDoor
open Go.ChangeShapes Go.WideShapes Go.ChangeAt Go.RowKit
set_option linter.unusedVariables false
set_option linter.unusedSimpArgs false
section
variable {H : Type} {enc : TypeId × Value → H} {w : World} {base : Nat} {sp : Nat → Bool} {held : Bool}
end
end Go.Proofs.YtacohbllbjgdgaaDoor
