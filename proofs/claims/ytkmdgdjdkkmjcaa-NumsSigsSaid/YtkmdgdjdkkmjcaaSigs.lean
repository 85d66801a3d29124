/- The walk of NumsSigs. -/
import Derived.Test.YtkmdgdjdkkmjcaaSigB
import Derived.OwnWalk
import Derived.Laws.OwnMore
import Derived.ProofKit
import Derived.OpenShut
import Derived.ChangeOld
import Derived.Below
import Derived.Carry
import Derived.SizedLaws
namespace Go.Proofs.Ytkmdgdjdkkmjcaa
open Go.ChangeShapes Go.WideShapes Go.ChangeAt Go.RowKit
set_option linter.unusedVariables false

theorem info3 : (Try.prog.info? 3).map (fun i => (i.zero, i.size, i.bytes)) = some (some (.int .i64 0), 1, 8) := by kernel_rfl

theorem IsList.below {w w' : World} {v : Value} {m : Nat} {t : Int} (h : IsList w v m t) (b : Below w.heap.size w w') : IsList w' v m t := by
  obtain ⟨p, cap, rfl, h⟩ := h
  refine ⟨p, cap, rfl, ?_⟩
  rcases h with h | ⟨g, rfl, h⟩
  · exact .inl h
  · refine .inr ⟨g, rfl, fun i hi => ?_⟩
    have := h i hi
    rw [b.cell (World.block_lt_of_cell? _ _ this), this]

theorem IsList.of_own {w : World} {B m : Nat} {v : Value} {t : Int} (h : w.ownsRow B 3 1 v m (List.replicate m (.int .i64 t))) : IsList w v m t := by
  have h0 := h
  obtain ⟨_, ⟨rfl, rfl⟩ | ⟨g, cap, cur, rfl, _⟩⟩ := h
  · exact ⟨none, 0, rfl, .inl rfl⟩
  · refine ⟨_, _, rfl, .inr ⟨g, rfl, fun i hi => ?_⟩⟩
    rw [h0.cellAt i (by omega), List.getElem?_replicate, if_pos hi]

theorem sN_cases (k : Int) : sN k = 0 ∧ k = 0 ∨ sN k = 1 ∧ k ≠ 0 ∨ sN k = 2 ∧ k ≠ 0 := by
  unfold sN
  by_cases h0 : k = 0
  · subst h0; simp
  · rw [if_neg h0]; split
    · simp [h0]
    · split <;> simp [h0]

set_option maxHeartbeats 1000000 in
theorem sigs_core (op : Int) (w : World) (o1 : -9223372036854775808 ≤ op) (o2 : op ≤ 9223372036854775807) :
    Calls Try.prog 7 #[.int .i64 op] w fun e w' => e = .returned (.bool true) ∧ Below w.heap.size w w' := by
  obtain ⟨k, n, t, h⟩ := of_ex op
  have HS := fun w => Lib.hid (sig_any op k n t w h o1 o2)
  have HR := fun w => Lib.hid (rsig_any op k n t w h o1 o2)
  obtain ⟨N, hN, hN2, hk⟩ : ∃ N : Nat, sN k = (N : Int) ∧ N ≤ 2 ∧ ((k != 0) = decide (0 < (N : Int))) := by
    rcases sN_cases k with ⟨h1, h2⟩ | ⟨h1, h2⟩ | ⟨h1, h2⟩
    · exact ⟨0, h1, by decide, by simp [h2]⟩
    · exact ⟨1, h1, by decide, by simp [h2]⟩
    · exact ⟨2, h1, by decide, by simp [h2]⟩
  rw [hN] at HS HR
  rw [Int.toNat_natCast] at HS
  have HSU : ∀ w, Hid (Calls Try.prog 15 #[.int .i64 op] w fun e w' => ∃ v, e = .returned (.tuple #[v, .int .i64 (sR k t), .bool (decide (0 < (N : Int)))]) ∧ IsList w' v N t ∧ Below w.heap.size w w') := fun w => by
    have := (HS w).out
    unfold SigIs at this
    rw [hk] at this
    exact Lib.hid this
  clear h HS hN hk
  generalize sR k t = r at *
  obtain ⟨i0, hi, hz0, hz1, hz2⟩ := info_parts info3
  go_enter Try.func7, Try.ntmps7
  go_wp2_with fail
  refine (HSU _).out.mono ?_
  rintro e w1 ⟨v1, rfl, hl, h1⟩
  go_wp2_with fail
  refine (HR _).out.mono ?_
  rintro e w' ⟨rfl, rfl⟩
  have hsz := h1.size
  go_wp2
  go_loopw [9, 10] (fun v i wr => ∃ j : Nat, j ≤ N ∧ i = .int .i64 j ∧ wr.ownsRow w1.heap.size 3 1 v j (List.replicate j (.int .i64 t)) ∧ Below w1.heap.size w1 wr) (fun _ i _ => N - (intOf i).toNat)
  case atStart => exact ⟨0, Nat.zero_le _, rfl, World.ownsRow_nil _ _ _ _, Below.refl _ _⟩
  case round =>
    obtain ⟨j, hj, rfl, hown, hb⟩ := hrel
    by_cases hlt : j < N
    · go_wp2_with (first
        | (at_builtin; refine wpList_append_own _ rfl _ _ 34 rfl w1.heap.size 3 i0 (.int .i64 0) 1 8 Try.underlying34 hi hz0 hz1 hz2 rfl (by decide) _ _ _ rfl (hown.alloc _) ⟨wr.heap.size, 0, none⟩ 1 1 [.int .i64 t] rfl rfl ?c1 ?c2 ?c3 ?c4 ?c5 ?_))
      case c1 =>
        intro j u hj
        match j, hj with
        | 0, hj => simp at hj; subst hj; simp [Addr.add]
      case c2 => intro u hu; simp at hu; subst hu; rfl
      case c3 => unfold maxLen; omega
      case c4 => omega
      case c5 => have := hb.size; simp; omega
      intro v' w2 hown' hgrow _
      have hb2 : Below w1.heap.size w1 w2 := by
        refine (hb.alloc hb.size _).grown hgrow (by have := hb.size; simp; omega) ?_
        intro q hq
        exact (hown.lt q hq).1
      rw [← List.replicate_succ'] at hown'
      clear hgrow hown hb
      go_wp2
      go_roundw
      case rel => exact ⟨j + 1, by omega, by simp, hown', hb2⟩
      case measure => simp [intOf]; omega
    · obtain rfl : j = N := by omega
      have hw := IsList.of_own hown
      go_wp2_with fail
      refine (same_any j t _ _ _ hN2 (hl.below hb) hw).mono ?_
      rintro e w2 ⟨rfl, nd, rfl⟩
      go_wp2_with fail
      refine (wakes_any _).mono ?_
      rintro e w3 ⟨rfl, h3⟩
      go_wp2
      go_ret
      exact ⟨rfl, h1.trans (((Below.many hb nd).trans (h3.mono (Below.many hb nd).size)).mono h1.size)⟩

theorem sigs_walk {H : Type} {enc : TypeId × Value → H} (W : World) (base : Nat)
    (v0 : Value) (d0 : DataW H) (p0 : List MemPlace) (o0 : Value.okWide Try.prog W .any base 3 v0) (h0 : DataW.Trod enc Try.prog W 0 (fun _ => true) true 3 v0 d0 p0) :
    Calls Try.prog 7 #[v0] W fun e W' => e = .returned (.bool true) ∧ Below W.heap.size W W' := by
  obtain ⟨a0, rfl, rfl, rfl, w0⟩ := open_int Try.underlying3 o0 h0
  have b0 := bounds_i64 w0
  exact sigs_core a0 W (by omega) (by omega)
end Go.Proofs.Ytkmdgdjdkkmjcaa
