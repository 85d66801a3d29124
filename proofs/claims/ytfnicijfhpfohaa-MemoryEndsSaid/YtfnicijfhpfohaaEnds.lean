/- The walk of MemoryEnds. -/
import Derived.Test.YtfnicijfhpfohaaE
namespace Go.Proofs.Ytfnicijfhpfohaa
open Go.RowKit Go.ChangeShapes Go.WideShapes Go.ChangeAt

set_option maxHeartbeats 4000000 in
/-- The walk, where every test is decided: b tells whether the bytes are there. -/
theorem ends_core (k at_ : Nat) (a2 : Int) (b : Bool) (hk : k ≤ 255) (hat : at_ < 18446744073709551616) (h2 : a2 ≤ 9223372036854775807) (w : World)
    (hb : inB (k % 4 * 65536) at_ a2 = b)
    (hcase : (b = true ∧ (at_ : Int) ≤ (k : Int) % 4 * 65536 ∧ a2 ≤ (k : Int) % 4 * 65536 - at_ ∧ (a2 = 1 ∨ a2 = 2 ∨ a2 = 4 ∨ a2 = 8)) ∨
      (b = false ∧ (k : Int) % 4 * 65536 < at_ ∧ (a2 = 1 ∨ a2 = 2 ∨ a2 = 4 ∨ a2 = 8)) ∨ (b = false ∧ (at_ : Int) ≤ (k : Int) % 4 * 65536 ∧ (k : Int) % 4 * 65536 - at_ < a2 ∧ (a2 = 1 ∨ a2 = 2 ∨ a2 = 4 ∨ a2 = 8)) ∨
      (b = false ∧ ((a2 == 1) = false ∧ (a2 == 2) = false ∧ (a2 == 4) = false ∧ (a2 == 8) = false))) :
    Calls Try.prog 4 #[.int .u8 k, .int .u64 at_, .int .i64 a2] w fun e w' => e = .returned (.bool true) ∧ Below w.heap.size w w' := by
  have HB := Lib.hid hb
  clear hb
  rcases hcase with ⟨rfl, t1, t2, (rfl | rfl | rfl | rfl)⟩ | ⟨rfl, t1, (rfl | rfl | rfl | rfl)⟩ | ⟨rfl, t1, t2, (rfl | rfl | rfl | rfl)⟩ | ⟨rfl, t1, t2, t3, t4⟩
  all_goals
    go_enter Try.func4, Try.ntmps4
    go_wp2_with fail
    refine (new_any _ 0 (k % 4) false _ (by omega) (by omega)).mono ?_
    rintro e w1 ⟨p, q, rfl, hnew⟩
    have hmem : MemAt w1 p q (k % 4 * 65536) (zeros (k % 4)) (k % 4) 32 := hnew.mem
    have hchg := hnew.chg
    have hpn := hnew.p_new
    have hqn := hnew.q_new
    clear hnew
    have hlen := zeros_length (k % 4)
    generalize zeros (k % 4) = l at *
    have hin := HB.out
    rw [← hlen] at hin
    clear hlen
    go_wp2_with fail
    refine (load_mem p q _ _ _ _ _ _ at_ _ hmem rfl hat (by omega)).mono ?_
    rintro e w2 ⟨rfl, rfl⟩
    go_wp2_with fail
    refine (store_mem p q _ _ _ _ _ _ _ at_ 1 _ hmem rfl rfl hat (by omega)).mono ?_
    rintro e w3 ⟨rfl, hst⟩
    have hc3 := hst.chg
    clear hst hmem
    go_wp2_with fail
    refine (wakes_any _).mono ?_
    rintro e w4 ⟨rfl, hc4⟩
    go_wp2_with fail
    go_ret
    refine ⟨?_, ((hchg.comp hc3 (by simp) (by simpa using hqn)).trans hc4).below (Nat.le_refl _) (by simp)⟩
    first | rfl | (simp; omega)

theorem ends_any (a0 a1 a2 : Int) (h0 : 0 ≤ a0 ∧ a0 ≤ 255) (h1 : 0 ≤ a1 ∧ a1 ≤ 18446744073709551615) (h2 : -9223372036854775808 ≤ a2 ∧ a2 ≤ 9223372036854775807) (w : World) :
    Calls Try.prog 4 #[.int .u8 a0, .int .u64 a1, .int .i64 a2] w fun e w' => e = .returned (.bool true) ∧ Below w.heap.size w w' := by
  obtain ⟨k, rfl⟩ := Int.eq_ofNat_of_zero_le h0.1
  obtain ⟨at_, rfl⟩ := Int.eq_ofNat_of_zero_le h1.1
  refine ends_core k at_ a2 _ (by omega) (by omega) h2.2 w rfl ?_
  by_cases hs : a2 = 1 ∨ a2 = 2 ∨ a2 = 4 ∨ a2 = 8
  · have hs' : isSized a2 = true := by rcases hs with rfl | rfl | rfl | rfl <;> rfl
    by_cases h3 : (k : Int) % 4 * 65536 < at_
    · refine .inr (.inl ⟨?_, h3, hs⟩)
      simp only [inB, hs', Bool.true_and, decide_eq_false_iff_not]
      omega
    · by_cases h4 : (k : Int) % 4 * 65536 - at_ < a2
      · refine .inr (.inr (.inl ⟨?_, by omega, h4, hs⟩))
        simp only [inB, hs', Bool.true_and, decide_eq_false_iff_not]
        omega
      · refine .inl ⟨?_, by omega, by omega, hs⟩
        simp only [inB, hs', Bool.true_and, decide_eq_true_eq]
        omega
  · have hn : (a2 == 1) = false ∧ (a2 == 2) = false ∧ (a2 == 4) = false ∧ (a2 == 8) = false := by
      simp only [beq_eq_false_iff_ne]
      omega
    refine .inr (.inr (.inr ⟨?_, hn⟩))
    simp [inB, isSized, hn.1, hn.2.1, hn.2.2.1, hn.2.2.2]

theorem ends_walk {H : Type} {enc : TypeId × Value → H} (W : World) (base : Nat)
    (v0 : Value) (d0 : DataW H) (p0 : List MemPlace) (o0 : Value.okWide Try.prog W .any base 5 v0) (h0 : DataW.Trod enc Try.prog W 0 (fun _ => true) true 5 v0 d0 p0)
    (v1 : Value) (d1 : DataW H) (p1 : List MemPlace) (o1 : Value.okWide Try.prog W .any base 22 v1) (h1 : DataW.Trod enc Try.prog W 0 (fun _ => true) true 22 v1 d1 p1)
    (v2 : Value) (d2 : DataW H) (p2 : List MemPlace) (o2 : Value.okWide Try.prog W .any base 3 v2) (h2 : DataW.Trod enc Try.prog W 0 (fun _ => true) true 3 v2 d2 p2) :
    Calls Try.prog 4 #[v0, v1, v2] W fun e W' => e = .returned (.bool true) ∧ Below W.heap.size W W' := by
  obtain ⟨a0, rfl, rfl, rfl, w0⟩ := open_int Try.underlying5 o0 h0
  obtain ⟨a1, rfl, rfl, rfl, w1⟩ := open_int Try.underlying22 o1 h1
  obtain ⟨a2, rfl, rfl, rfl, w2⟩ := open_int Try.underlying3 o2 h2
  exact ends_any a0 a1 a2 (bounds_u8 w0) (bounds_u64 w1) (bounds_i64 w2) W
end Go.Proofs.Ytfnicijfhpfohaa
