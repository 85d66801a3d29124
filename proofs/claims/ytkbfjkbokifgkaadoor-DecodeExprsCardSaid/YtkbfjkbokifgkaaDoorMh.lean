/- The contract of Count. -/
import Derived.Test.YtkbfjkbokifgkaaDoorMg
namespace Go.Proofs.YtkbfjkbokifgkaaDoor
open Go.RowKit
set_option linter.unusedVariables false

def cntF : List (Int × List Int × Il) → Int → Int
  | [], left => left
  | f :: r, left => if cnt f.2.2 left < 0 then cnt f.2.2 left else cntF r (cnt f.2.2 left)

theorem drop_at {α : Type} {l : List α} {i : Nat} {x : α} (hx : l[i]? = some x) : l.drop i = x :: l.drop (i + 1) := by
  have hi := (List.getElem?_eq_some_iff.1 hx).1
  have he := (List.getElem?_eq_some_iff.1 hx).2
  rw [List.drop_eq_getElem_cons hi, he]

set_option maxRecDepth 100000 in
set_option maxHeartbeats 4000000 in
theorem count_core (m : Md) (v0 v1 v3 v4 v5 v6 v7 v8 v9 : Value) (a2 : Option Addr) (k2 : Nat) (w : World) (h : RowsIn FuncAt 3 w a2 m.funcs) :
    Calls Tryd.prog 97 #[.agg #[v0, v1, .slice a2 m.funcs.length k2, v3, v4, v5, v6, v7, v8, v9]] w fun e w' => e = .returned (.int .i64 (65536 - cntF m.funcs 65536)) ∧ Below w.heap.size w w' := by
  obtain ⟨N, hN⟩ : ∃ N, m.funcs.length = N := ⟨_, rfl⟩
  have hl := h.1
  have HR := Lib.hid h
  clear h
  rw [hN] at hl ⊢
  generalize m.funcs = fs at *
  obtain ⟨X, hX⟩ : ∃ X, cntF fs 65536 = X := ⟨_, rfl⟩
  rw [hX]
  have hX0 : Hid (X = cntF (fs.drop 0) 65536) := Lib.hid hX.symm
  clear hX
  go_enter Tryd.func97, Tryd.ntmps97
  go_wp2_with fail
  go_loopw [3, 9] (fun vL vi wr => ∃ (i : Nat) (L : Int), i ≤ N ∧ vi = .int .i64 i ∧ vL = .int .i64 L ∧ 0 ≤ L ∧ L ≤ 65536 ∧ Hid (X = cntF (fs.drop i) L) ∧ Hid (Below w.heap.size w wr)) (fun _ vi _ => N - (intOf vi).toNat)
  case atStart => exact ⟨0, 65536, Nat.zero_le _, rfl, rfl, by omega, by omega, hX0, Lib.hid ((Below.refl _ _).alloc (Nat.le_refl _) _)⟩
  case round =>
    obtain ⟨i, L, hi, rfl, rfl, hL0, hL1, hc, hb⟩ := hrel
    by_cases hlt : i < N
    · obtain ⟨f, hf⟩ : ∃ f, fs[i]? = some f := ⟨_, List.getElem?_eq_getElem (by omega)⟩
      obtain ⟨b, o, rfl, hrow⟩ := (HR.out.keep fun _ _ _ => FuncAt.keep (keep_below hb.out)).row hf
      obtain ⟨c0, ⟨a1', k1', c1, _⟩, ⟨a2', k2', c2, l2, i2⟩⟩ := hrow
      unfold IntCell at c0
      have hi2 := Lib.hid i2
      have hd := drop_at hf
      have hc2 : Hid (X = (if cnt f.2.2 L < 0 then cnt f.2.2 L else cntF (fs.drop (i + 1)) (cnt f.2.2 L))) := Lib.hid (by rw [hc.out, hd]; rfl)
      have hbd := cnt_bd f.2.2 L hL0
      have hal : ∀ o, Below wr.heap.size wr (wr.alloc o) := fun o => (Below.refl _ _).alloc (Nat.le_refl _) o
      have hcb := fun w h0 => Lib.hid (counted_any f.2.2 a2' k2' w L l2 h0 hL0 hL1)
      clear hd hc hf i2
      generalize hY : cnt f.2.2 L = Y at *
      clear hY
      go_wp2_with fail
      refine (hcb _ (hi2.out.below (hal _))).out.mono ?_
      rintro e w2 ⟨rfl, b2⟩
      have hb2 := Lib.hid (hb.out.trans (((hal _).trans (b2.mono (by simp))).mono hb.out.size))
      clear b2
      by_cases hY0 : Y < 0
      · rw [if_pos hY0] at hc2
        go_wp2
        go_ret
        exact ⟨by rw [hc2.out]; rfl, hb2.out⟩
      · rw [if_neg hY0] at hc2
        go_wp2
        go_roundw
        case rel => exact ⟨i + 1, Y, by omega, by simp, rfl, by omega, by omega, hc2, hb2⟩
        case measure => simp [intOf]; omega
    · obtain rfl : i = N := by omega
      have hd : fs.drop i = [] := by rw [← hN]; exact List.drop_length
      have hc2 : Hid (X = L) := Lib.hid (by rw [hc.out, hd]; rfl)
      clear hd hc
      go_wp2
      go_ret
      exact ⟨by rw [hc2.out]; rfl, hb.out⟩
end Go.Proofs.YtkbfjkbokifgkaaDoor
