/- What the law MemoryPlays is given, opened; its walk. -/
import Derived.Test.YtfnicijfhpfohaaPlays
import Derived.Deep.Slices
import Derived.Lib.SmallJoins
namespace Go.Proofs.Ytfnicijfhpfohaa
open Go.ChangeShapes Go.WideShapes Go.ChangeAt Go.RowKit Go.Deep Go.Joins
set_option linter.unusedVariables false

theorem list5 {α : Type} {l : List α} (h : l.length = 5) : ∃ a b c d e, l = [a, b, c, d, e] := by
  match l, h with
  | [a, b, c, d, e], _ => exact ⟨a, b, c, d, e, rfl⟩
theorem add_flat (b o k : Nat) : (⟨b, o, none⟩ : Addr).add k = ⟨b, o + k, none⟩ := by
  unfold Addr.add
  split
  · rename_i h; rw [h]; rfl
  · rfl
theorem spot_of {W : World} {a : Addr} {v : Value} (h : W.cell? (a.add 0) = some v) : ∃ b o, a = ⟨b, o, none⟩ := by
  have e : a.add 0 = a := by simp [Addr.add]
  rw [e] at h
  obtain ⟨b, o, sp⟩ := a
  have : sp = none := World.cell?_spot h
  subst this
  exact ⟨b, o, rfl⟩

theorem step_open {H : Type} {enc : TypeId × Value → H} {W : World} {sp : Nat → Bool} {n : Nat} {b o i : Nat} {cs : List Value} {x : DataW H × List MemPlace}
    (h1 : W.cells? 0 ((⟨b, o, none⟩ : Addr).add (i * 5)) 5 = some cs) (h2 : DataW.trod enc Try.prog W 0 sp true n 50 cs = some x) : ∃ kind at_ n V s, StepAt W b (o + i * 5) kind at_ n V s := by
  obtain ⟨_, hl, hc⟩ := World.cells?_some h1
  obtain ⟨v0, v1, v2, v3, v4, rfl⟩ := list5 hl
  obtain ⟨xs, m, _, _, _, hxl, hf⟩ := DataW.trod_struct Try.underlying50 h2
  obtain ⟨y0, y1, y2, y3, y4, rfl⟩ := list5 hxl
  have c1 : Try.prog.cellsOf 3 = 1 := by kernel_rfl
  have c2 : Try.prog.cellsOf 22 = 1 := by kernel_rfl
  have c3 : Try.prog.cellsOf 9 = 1 := by kernel_rfl
  have g0 := hf 0 _ rfl
  have g1 := hf 1 _ rfl
  have g2 := hf 2 _ rfl
  have g3 := hf 3 _ rfl
  have g4 := hf 4 _ rfl
  simp [c1, c2, c3] at g0 g1 g2 g3 g4
  obtain ⟨a0, e0, _, w0⟩ := DataW.trod_int Try.underlying3 g0
  obtain ⟨a1, e1, _, w1⟩ := DataW.trod_int Try.underlying22 g1
  obtain ⟨a2, e2, _, w2⟩ := DataW.trod_int Try.underlying3 g2
  obtain ⟨a3, e3, _, w3⟩ := DataW.trod_int Try.underlying22 g3
  obtain ⟨s, e4, _⟩ := DataW.trod_string Try.underlying9 g4
  simp at e0 e1 e2 e3 e4
  subst e0 e1 e2 e3 e4
  have b1 := bounds_u64 w1
  have b2 := bounds_i64 w2
  have b3 := bounds_u64 w3
  obtain ⟨x1, rfl⟩ := Int.eq_ofNat_of_zero_le b1.1
  obtain ⟨x3, rfl⟩ := Int.eq_ofNat_of_zero_le b3.1
  have k0 := hc 0 (by omega)
  have k1 := hc 1 (by omega)
  have k2 := hc 2 (by omega)
  have k3 := hc 3 (by omega)
  have k4 := hc 4 (by omega)
  rw [add_flat, add_flat] at k0 k1 k2 k3 k4
  exact ⟨a0, x1, a2, x3, s, k0, k1, k2, k3, k4, by omega, by omega, by omega⟩

theorem steps_open {H : Type} {enc : TypeId × Value → H} {W : World} {sp : Nat → Bool} {n : Nat} {ao : Option Addr} {N cap : Nat} {x : DataW H × List MemPlace}
    (h : DataW.trod enc Try.prog W 0 sp true n 45 [.slice ao N cap] = some x) : StepsAt W ao N ∧ N ≤ 9223372036854775807 := by
  have ce : Try.prog.cellsOf 50 = 5 := by kernel_rfl
  rcases Deep.open_slice Try.underlying45 h with ⟨hc, _⟩ | ⟨a, len, cap', m, n', D, Pl, hc, _, hl, hm, hmm, _, hall⟩
  · simp at hc
    exact ⟨.inl hc.2.1, by omega⟩
  · simp only [List.cons.injEq, Value.slice.injEq, and_true] at hc
    obtain ⟨rfl, rfl, rfl⟩ := hc
    have hml : N ≤ m := by rw [hmm]; split <;> omega
    have hb2 : N ≤ 9223372036854775807 := by unfold maxLen at hm; omega
    refine ⟨?_, hb2⟩
    rcases Nat.eq_zero_or_pos N with h0 | hpos
    · exact .inl h0
    · have h00 : W.cell? (a.add 0) ≠ none := by
        obtain ⟨cs, h1, h2⟩ := hall 0 (by omega)
        rw [ce] at h1
        obtain ⟨_, hl1, hc1⟩ := World.cells?_some h1
        have := hc1 0 (by omega)
        obtain ⟨v0, v1, v2, v3, v4, rfl⟩ := list5 hl1
        rw [Nat.zero_mul, Deep.add_add] at this
        rw [this]
        simp
      obtain ⟨v, hv⟩ := Option.ne_none_iff_exists'.1 h00
      obtain ⟨b, o, rfl⟩ := spot_of hv
      rw [add_flat] at hv
      refine .inr ⟨b, o, rfl, World.block_lt_of_cell? _ _ hv, fun i hi => ?_⟩
      obtain ⟨cs, h1, h2⟩ := hall i (by omega)
      rw [ce] at h1
      exact step_open h1 h2

theorem plays_walk {H : Type} {enc : TypeId × Value → H} (W : World) (base : Nat)
    (v0 : Value) (d0 : DataW H) (p0 : List MemPlace) (o0 : Value.okWide Try.prog W .any base 30 v0) (h0 : DataW.Trod enc Try.prog W 0 (fun _ => true) true 30 v0 d0 p0)
    (v1 : Value) (d1 : DataW H) (p1 : List MemPlace) (o1 : Value.okWide Try.prog W .any base 45 v1) (h1 : DataW.Trod enc Try.prog W 0 (fun _ => true) true 45 v1 d1 p1) :
    Calls Try.prog 7 #[v0, v1] W fun e W' => e = .returned (.bool true) ∧ Below W.heap.size W W' := by
  obtain ⟨c0, c1, c2, y0, y1, y2, n, rfl, rfl, rfl, hy0, hy1, hy2⟩ := open_agg3 Try.underlying30 (by kernel_rfl) (by kernel_rfl) o0 h0
  obtain ⟨a0, e0, _, w0⟩ := DataW.trod_int Try.underlying3 hy0
  obtain ⟨a1, e1, _, w1⟩ := DataW.trod_int Try.underlying3 hy1
  obtain ⟨a2, e2, _⟩ := DataW.trod_bool Try.underlying4 hy2
  simp at e0 e1 e2
  subst e0 e1 e2
  obtain ⟨ao, N, cap, rfl⟩ := okWide_slice Try.underlying45 o1
  obtain ⟨fuel, hf⟩ := h1
  obtain ⟨hS, hN⟩ := steps_open hf
  by_cases hm : 0 ≤ a0 ∧ a0 ≤ 32
  · obtain ⟨m, rfl⟩ := Int.eq_ofNat_of_zero_le hm.1
    exact plays_yes m a1 a2 ao N cap W hN hS (by omega)
  · exact plays_no a0 a1 a2 ao N cap W hN hS hm
end Go.Proofs.Ytfnicijfhpfohaa
