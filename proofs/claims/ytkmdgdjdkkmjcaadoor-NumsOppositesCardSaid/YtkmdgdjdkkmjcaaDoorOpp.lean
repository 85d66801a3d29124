/- The law NumsOpposites' walk. -/
import Derived.Test.YtkmdgdjdkkmjcaaDoorOA
import Derived.Test.YtkmdgdjdkkmjcaaDoorLd
import Derived.Lib.Zigzag
import Derived.Laws.BitsAllLaws
import Derived.ProofKit
import Derived.OpenShut
import Derived.ChangeOld
import Derived.Below
import Derived.Carry
import Derived.SizedLaws
namespace Go.Proofs.YtkmdgdjdkkmjcaaDoor
open Go.ChangeShapes Go.WideShapes Go.ChangeAt Go.RowKit
set_option linter.unusedVariables false

/-- The pairs in their block. -/
def pairsL : List Int := [0, 1, 2, 8, 3, 9, 4, 6, 5, 7]
def PairsAt (w : World) (B : Nat) : Prop := ∀ j, j < 10 → w.cell? ⟨B, j, none⟩ = some (.int .i64 (pairsL.getD j 0))
theorem PairsAt.below {w w' : World} {B : Nat} (h : PairsAt w B) (b : Below w.heap.size w w') : PairsAt w' B := fun j hj => by
  have := h j hj
  rw [b.cell (World.block_lt_of_cell? _ _ this), this]
theorem not64 (a : Nat) (h : a < 18446744073709551616) : bits .xor .u64 IntKind.u64.max (a : Int) = 18446744073709551615 - (a : Int) := by
  rw [show IntKind.u64.max = ((18446744073709551615 : Nat) : Int) from rfl, u64_xor_nat _ _ (by decide) h]
  have e : (18446744073709551615 : Nat) ^^^ a = 2 ^ 64 - 1 - a := Lib.xor_ones64 a h
  rw [e]
  omega
theorem pairs_new (w : World) : PairsAt (w.alloc (.cells #[.int .i64 0, .int .i64 1, .int .i64 2, .int .i64 8, .int .i64 3, .int .i64 9, .int .i64 4, .int .i64 6, .int .i64 5, .int .i64 7] 27)) w.heap.size := fun j hj => by
  refine (World.cell?_alloc_at (w := w) _ _ _ j (by simp)).trans ?_
  have : j = 0 ∨ j = 1 ∨ j = 2 ∨ j = 3 ∨ j = 4 ∨ j = 5 ∨ j = 6 ∨ j = 7 ∨ j = 8 ∨ j = 9 := by omega
  rcases this with rfl | rfl | rfl | rfl | rfl | rfl | rfl | rfl | rfl | rfl <;> rfl

theorem of4_127 (p : Int) (h1 : 0 ≤ p) (h2 : p ≤ 9) : OfIs (70 + p) 4 p 127 := ⟨.inr (.inr (.inl ⟨by omega, by omega, rfl, by omega, rfl⟩))⟩
theorem cmp_127 (p P a b : Int) (w : World) (h1 : 0 ≤ p) (h2 : p ≤ 9) (hP : P = 70 + p) (a1 : 0 ≤ a) (a2 : a ≤ 18446744073709551615) (b1 : 0 ≤ b) (b2 : b ≤ 18446744073709551615) :
    Calls Tryd.prog 8 #[.int .i64 P, .int .u64 a, .int .u64 b] w fun e w' => e = .returned (.tuple #[.int .u64 (bV 4 p 127 a b), .int .i64 0, .bool true]) ∧ Below w.heap.size w w' := by
  subst hP
  exact binary_any (70 + p) 4 p 127 a b w (of4_127 p h1 h2) (by omega) (by omega) a1 a2 b1 b2

theorem of1_PC_127 : OfIs 105 1 2 127 := ⟨.inr (.inr (.inr (.inr (.inl ⟨by decide, by decide, rfl, by decide, rfl⟩))))⟩
theorem uPC_127 (a : Int) (w : World) (a1 : 0 ≤ a) (a2 : a ≤ 18446744073709551615) (hT : TabAt w) :
    Calls Tryd.prog 5 #[.int .i64 105, .int .u64 a] w fun e w' => e = .returned (.tuple #[.int .u64 (uV 1 2 127 a), .bool true]) ∧ Below w.heap.size w w' :=
  unary_any 105 1 2 127 a w of1_PC_127 (by decide) (by decide) a1 a2 hT

theorem of1_LZ_127 : OfIs 103 1 0 127 := ⟨.inr (.inr (.inr (.inr (.inl ⟨by decide, by decide, rfl, by decide, rfl⟩))))⟩
theorem uLZ_127 (a : Int) (w : World) (a1 : 0 ≤ a) (a2 : a ≤ 18446744073709551615) (hT : TabAt w) :
    Calls Tryd.prog 5 #[.int .i64 103, .int .u64 a] w fun e w' => e = .returned (.tuple #[.int .u64 (uV 1 0 127 a), .bool true]) ∧ Below w.heap.size w w' :=
  unary_any 103 1 0 127 a w of1_LZ_127 (by decide) (by decide) a1 a2 hT

set_option maxRecDepth 100000 in
set_option maxHeartbeats 4000000 in
theorem opp_127 (a b : Nat) (w : World) (a2 : a < 18446744073709551616) (b2 : b < 18446744073709551616) (hT : TabAt w) :
    Calls Tryd.prog 4 #[.int .u64 a, .int .u64 b, .bool false] w fun e w' => e = .returned (.bool true) ∧ Below w.heap.size w w' := by
  have HT := Lib.hid hT
  have a0 : (0 : Int) ≤ a := Int.natCast_nonneg a
  have b0 : (0 : Int) ≤ b := Int.natCast_nonneg b
  have a3 : (a : Int) ≤ 18446744073709551615 := by omega
  have b3 : (b : Int) ≤ 18446744073709551615 := by omega
  have HC := fun p P w h1 h2 hP => Lib.hid (cmp_127 p P a b w h1 h2 hP a0 a3 b0 b3)
  have HO := fun p q h => Lib.hid (opp_two p q 127 a b h)
  have HN := fun w hT => Lib.hid (uPC_127 a w a0 a3 hT)
  have HM : ∀ w, TabAt w → Hid (Calls Tryd.prog 5 #[.int .i64 105, .int .u64 (bits .xor .u64 IntKind.u64.max (a : Int))] w fun e w' => e = .returned (.tuple #[.int .u64 (uV 1 2 127 (18446744073709551615 - (a : Int))), .bool true]) ∧ Below w.heap.size w w') := fun w hT => by
    rw [not64 a a2]
    exact Lib.hid (uPC_127 (18446744073709551615 - (a : Int)) w (by omega) (by omega) hT)
  have HK := fun w hT => Lib.hid (uLZ_127 a w a0 a3 hT)
  have F1 := cnt_flip 127 a (by omega) a2
  have F2 := cnt_room 127 a (by omega) a2
  have F3 := uV_nat 2 127 a
  have F4 := uV_nat 2 127 (18446744073709551615 - (a : Int))
  have F5 := uV_nat 0 127 a
  rw [show (wd 127 : Int) = 32 from rfl] at F1 F2
  clear hT
  go_enter Tryd.func4, Tryd.ntmps4
  go_wp2_with fail
  go_loopw [11] (fun i wr => ∃ k : Nat, k ≤ 5 ∧ i = .int .i64 k ∧ Hid (PairsAt wr w.heap.size ∧ Below w.heap.size w wr)) (fun i _ => 5 - (intOf i).toNat)
  case atStart => exact ⟨0, Nat.zero_le _, rfl, Lib.hid ⟨pairs_new w, Below.of_alloc w _⟩⟩
  case round =>
    obtain ⟨k, hk, rfl, hl⟩ := hrel
    by_cases hlt : k < 5
    · clear F1 F2 F3 F4 F5 HN HM HK
      have hcase : k = 0 ∨ k = 1 ∨ k = 2 ∨ k = 3 ∨ k = 4 := by omega
      rcases hcase with rfl | rfl | rfl | rfl | rfl
      · have c1 : wr.cell? ⟨w.heap.size, 0, none⟩ = some (.int .i64 0) := hl.out.1 0 (by decide)
        have H1 := fun w => HC 0 70 w (by decide) (by decide) (by decide)
        have H2 := fun w => HC 1 71 w (by decide) (by decide) (by decide)
        have HX := (HO 0 1 (by omega)).out
        clear HC HO
        rcases HX with ⟨e1, e2⟩ | ⟨e1, e2⟩
        all_goals
          rw [e1] at H1
          rw [e2] at H2
          clear e1 e2
          go_wp2_with fail
          refine (H1 _).out.mono ?_
          rintro e w1 ⟨rfl, b1⟩
          have c2 : w1.cell? ⟨w.heap.size, 1, none⟩ = some (.int .i64 1) := (hl.out.1.below b1) 1 (by decide)
          have hl2 := Lib.hid (And.intro ((hl.out.1.below b1)) (hl.out.2.trans (b1.mono hl.out.2.size)))
          go_wp2_with fail
          refine (H2 _).out.mono ?_
          rintro e w2 ⟨rfl, b4⟩
          have hl3 := Lib.hid (And.intro (hl2.out.1.below b4) (hl2.out.2.trans (b4.mono hl2.out.2.size)))
          clear b1 b4 c1 c2 hl hl2 H1 H2
          go_wp2
          go_roundw
          case rel => exact ⟨1, by omega, by simp, hl3⟩
          case measure => simp [intOf]
      · have c1 : wr.cell? ⟨w.heap.size, 2, none⟩ = some (.int .i64 2) := hl.out.1 2 (by decide)
        have H1 := fun w => HC 2 72 w (by decide) (by decide) (by decide)
        have H2 := fun w => HC 8 78 w (by decide) (by decide) (by decide)
        have HX := (HO 2 8 (by omega)).out
        clear HC HO
        rcases HX with ⟨e1, e2⟩ | ⟨e1, e2⟩
        all_goals
          rw [e1] at H1
          rw [e2] at H2
          clear e1 e2
          go_wp2_with fail
          refine (H1 _).out.mono ?_
          rintro e w1 ⟨rfl, b1⟩
          have c2 : w1.cell? ⟨w.heap.size, 3, none⟩ = some (.int .i64 8) := (hl.out.1.below b1) 3 (by decide)
          have hl2 := Lib.hid (And.intro ((hl.out.1.below b1)) (hl.out.2.trans (b1.mono hl.out.2.size)))
          go_wp2_with fail
          refine (H2 _).out.mono ?_
          rintro e w2 ⟨rfl, b4⟩
          have hl3 := Lib.hid (And.intro (hl2.out.1.below b4) (hl2.out.2.trans (b4.mono hl2.out.2.size)))
          clear b1 b4 c1 c2 hl hl2 H1 H2
          go_wp2
          go_roundw
          case rel => exact ⟨2, by omega, by simp, hl3⟩
          case measure => simp [intOf]
      · have c1 : wr.cell? ⟨w.heap.size, 4, none⟩ = some (.int .i64 3) := hl.out.1 4 (by decide)
        have H1 := fun w => HC 3 73 w (by decide) (by decide) (by decide)
        have H2 := fun w => HC 9 79 w (by decide) (by decide) (by decide)
        have HX := (HO 3 9 (by omega)).out
        clear HC HO
        rcases HX with ⟨e1, e2⟩ | ⟨e1, e2⟩
        all_goals
          rw [e1] at H1
          rw [e2] at H2
          clear e1 e2
          go_wp2_with fail
          refine (H1 _).out.mono ?_
          rintro e w1 ⟨rfl, b1⟩
          have c2 : w1.cell? ⟨w.heap.size, 5, none⟩ = some (.int .i64 9) := (hl.out.1.below b1) 5 (by decide)
          have hl2 := Lib.hid (And.intro ((hl.out.1.below b1)) (hl.out.2.trans (b1.mono hl.out.2.size)))
          go_wp2_with fail
          refine (H2 _).out.mono ?_
          rintro e w2 ⟨rfl, b4⟩
          have hl3 := Lib.hid (And.intro (hl2.out.1.below b4) (hl2.out.2.trans (b4.mono hl2.out.2.size)))
          clear b1 b4 c1 c2 hl hl2 H1 H2
          go_wp2
          go_roundw
          case rel => exact ⟨3, by omega, by simp, hl3⟩
          case measure => simp [intOf]
      · have c1 : wr.cell? ⟨w.heap.size, 6, none⟩ = some (.int .i64 4) := hl.out.1 6 (by decide)
        have H1 := fun w => HC 4 74 w (by decide) (by decide) (by decide)
        have H2 := fun w => HC 6 76 w (by decide) (by decide) (by decide)
        have HX := (HO 4 6 (by omega)).out
        clear HC HO
        rcases HX with ⟨e1, e2⟩ | ⟨e1, e2⟩
        all_goals
          rw [e1] at H1
          rw [e2] at H2
          clear e1 e2
          go_wp2_with fail
          refine (H1 _).out.mono ?_
          rintro e w1 ⟨rfl, b1⟩
          have c2 : w1.cell? ⟨w.heap.size, 7, none⟩ = some (.int .i64 6) := (hl.out.1.below b1) 7 (by decide)
          have hl2 := Lib.hid (And.intro ((hl.out.1.below b1)) (hl.out.2.trans (b1.mono hl.out.2.size)))
          go_wp2_with fail
          refine (H2 _).out.mono ?_
          rintro e w2 ⟨rfl, b4⟩
          have hl3 := Lib.hid (And.intro (hl2.out.1.below b4) (hl2.out.2.trans (b4.mono hl2.out.2.size)))
          clear b1 b4 c1 c2 hl hl2 H1 H2
          go_wp2
          go_roundw
          case rel => exact ⟨4, by omega, by simp, hl3⟩
          case measure => simp [intOf]
      · have c1 : wr.cell? ⟨w.heap.size, 8, none⟩ = some (.int .i64 5) := hl.out.1 8 (by decide)
        have H1 := fun w => HC 5 75 w (by decide) (by decide) (by decide)
        have H2 := fun w => HC 7 77 w (by decide) (by decide) (by decide)
        have HX := (HO 5 7 (by omega)).out
        clear HC HO
        rcases HX with ⟨e1, e2⟩ | ⟨e1, e2⟩
        all_goals
          rw [e1] at H1
          rw [e2] at H2
          clear e1 e2
          go_wp2_with fail
          refine (H1 _).out.mono ?_
          rintro e w1 ⟨rfl, b1⟩
          have c2 : w1.cell? ⟨w.heap.size, 9, none⟩ = some (.int .i64 7) := (hl.out.1.below b1) 9 (by decide)
          have hl2 := Lib.hid (And.intro ((hl.out.1.below b1)) (hl.out.2.trans (b1.mono hl.out.2.size)))
          go_wp2_with fail
          refine (H2 _).out.mono ?_
          rintro e w2 ⟨rfl, b4⟩
          have hl3 := Lib.hid (And.intro (hl2.out.1.below b4) (hl2.out.2.trans (b4.mono hl2.out.2.size)))
          clear b1 b4 c1 c2 hl hl2 H1 H2
          go_wp2
          go_roundw
          case rel => exact ⟨5, by omega, by simp, hl3⟩
          case measure => simp [intOf]
    · obtain rfl : k = 5 := by omega
      clear HC HO
      generalize uV 1 2 127 a = N at *
      generalize uV 1 2 127 (18446744073709551615 - (a : Int)) = M at *
      generalize uV 1 0 127 a = K at *
      go_wp2_with fail
      refine (HN _ (HT.out.below hl.out.2)).out.mono ?_
      rintro e w1 ⟨rfl, b1⟩
      have ht1 := Lib.hid ((HT.out.below hl.out.2).below b1)
      go_wp2_with fail
      refine (HM _ ht1.out).out.mono ?_
      rintro e w2 ⟨rfl, b2⟩
      have ht2 := Lib.hid (ht1.out.below b2)
      go_wp2_with fail
      refine (HK _ ht2.out).out.mono ?_
      rintro e w3 ⟨rfl, b3⟩
      go_wp2_with fail
      refine (wakes_any _).mono ?_
      rintro e w4 ⟨rfl, b4⟩
      go_wp2
      go_ret
      exact ⟨rfl, hl.out.2.trans ((b1.trans ((b2.trans ((b3.trans (b4.mono b3.size)).mono b2.size)).mono b1.size)).mono hl.out.2.size)⟩

theorem of4_126 (p : Int) (h1 : 0 ≤ p) (h2 : p ≤ 9) : OfIs (81 + p) 4 p 126 := ⟨.inr (.inr (.inr (.inl ⟨by omega, by omega, rfl, by omega, rfl⟩)))⟩
theorem cmp_126 (p P a b : Int) (w : World) (h1 : 0 ≤ p) (h2 : p ≤ 9) (hP : P = 81 + p) (a1 : 0 ≤ a) (a2 : a ≤ 18446744073709551615) (b1 : 0 ≤ b) (b2 : b ≤ 18446744073709551615) :
    Calls Tryd.prog 8 #[.int .i64 P, .int .u64 a, .int .u64 b] w fun e w' => e = .returned (.tuple #[.int .u64 (bV 4 p 126 a b), .int .i64 0, .bool true]) ∧ Below w.heap.size w w' := by
  subst hP
  exact binary_any (81 + p) 4 p 126 a b w (of4_126 p h1 h2) (by omega) (by omega) a1 a2 b1 b2

theorem of1_PC_126 : OfIs 123 1 2 126 := ⟨.inr (.inr (.inr (.inr (.inr (.inl ⟨by decide, by decide, rfl, by decide, rfl⟩)))))⟩
theorem uPC_126 (a : Int) (w : World) (a1 : 0 ≤ a) (a2 : a ≤ 18446744073709551615) (hT : TabAt w) :
    Calls Tryd.prog 5 #[.int .i64 123, .int .u64 a] w fun e w' => e = .returned (.tuple #[.int .u64 (uV 1 2 126 a), .bool true]) ∧ Below w.heap.size w w' :=
  unary_any 123 1 2 126 a w of1_PC_126 (by decide) (by decide) a1 a2 hT

theorem of1_LZ_126 : OfIs 121 1 0 126 := ⟨.inr (.inr (.inr (.inr (.inr (.inl ⟨by decide, by decide, rfl, by decide, rfl⟩)))))⟩
theorem uLZ_126 (a : Int) (w : World) (a1 : 0 ≤ a) (a2 : a ≤ 18446744073709551615) (hT : TabAt w) :
    Calls Tryd.prog 5 #[.int .i64 121, .int .u64 a] w fun e w' => e = .returned (.tuple #[.int .u64 (uV 1 0 126 a), .bool true]) ∧ Below w.heap.size w w' :=
  unary_any 121 1 0 126 a w of1_LZ_126 (by decide) (by decide) a1 a2 hT

set_option maxRecDepth 100000 in
set_option maxHeartbeats 4000000 in
theorem opp_126 (a b : Nat) (w : World) (a2 : a < 18446744073709551616) (b2 : b < 18446744073709551616) (hT : TabAt w) :
    Calls Tryd.prog 4 #[.int .u64 a, .int .u64 b, .bool true] w fun e w' => e = .returned (.bool true) ∧ Below w.heap.size w w' := by
  have HT := Lib.hid hT
  have a0 : (0 : Int) ≤ a := Int.natCast_nonneg a
  have b0 : (0 : Int) ≤ b := Int.natCast_nonneg b
  have a3 : (a : Int) ≤ 18446744073709551615 := by omega
  have b3 : (b : Int) ≤ 18446744073709551615 := by omega
  have HC := fun p P w h1 h2 hP => Lib.hid (cmp_126 p P a b w h1 h2 hP a0 a3 b0 b3)
  have HO := fun p q h => Lib.hid (opp_two p q 126 a b h)
  have HN := fun w hT => Lib.hid (uPC_126 a w a0 a3 hT)
  have HM : ∀ w, TabAt w → Hid (Calls Tryd.prog 5 #[.int .i64 123, .int .u64 (bits .xor .u64 IntKind.u64.max (a : Int))] w fun e w' => e = .returned (.tuple #[.int .u64 (uV 1 2 126 (18446744073709551615 - (a : Int))), .bool true]) ∧ Below w.heap.size w w') := fun w hT => by
    rw [not64 a a2]
    exact Lib.hid (uPC_126 (18446744073709551615 - (a : Int)) w (by omega) (by omega) hT)
  have HK := fun w hT => Lib.hid (uLZ_126 a w a0 a3 hT)
  have F1 := cnt_flip 126 a (by omega) a2
  have F2 := cnt_room 126 a (by omega) a2
  have F3 := uV_nat 2 126 a
  have F4 := uV_nat 2 126 (18446744073709551615 - (a : Int))
  have F5 := uV_nat 0 126 a
  rw [show (wd 126 : Int) = 64 from rfl] at F1 F2
  clear hT
  go_enter Tryd.func4, Tryd.ntmps4
  go_wp2_with fail
  go_loopw [11] (fun i wr => ∃ k : Nat, k ≤ 5 ∧ i = .int .i64 k ∧ Hid (PairsAt wr w.heap.size ∧ Below w.heap.size w wr)) (fun i _ => 5 - (intOf i).toNat)
  case atStart => exact ⟨0, Nat.zero_le _, rfl, Lib.hid ⟨pairs_new w, Below.of_alloc w _⟩⟩
  case round =>
    obtain ⟨k, hk, rfl, hl⟩ := hrel
    by_cases hlt : k < 5
    · clear F1 F2 F3 F4 F5 HN HM HK
      have hcase : k = 0 ∨ k = 1 ∨ k = 2 ∨ k = 3 ∨ k = 4 := by omega
      rcases hcase with rfl | rfl | rfl | rfl | rfl
      · have c1 : wr.cell? ⟨w.heap.size, 0, none⟩ = some (.int .i64 0) := hl.out.1 0 (by decide)
        have H1 := fun w => HC 0 81 w (by decide) (by decide) (by decide)
        have H2 := fun w => HC 1 82 w (by decide) (by decide) (by decide)
        have HX := (HO 0 1 (by omega)).out
        clear HC HO
        rcases HX with ⟨e1, e2⟩ | ⟨e1, e2⟩
        all_goals
          rw [e1] at H1
          rw [e2] at H2
          clear e1 e2
          go_wp2_with fail
          refine (H1 _).out.mono ?_
          rintro e w1 ⟨rfl, b1⟩
          have c2 : w1.cell? ⟨w.heap.size, 1, none⟩ = some (.int .i64 1) := (hl.out.1.below b1) 1 (by decide)
          have hl2 := Lib.hid (And.intro ((hl.out.1.below b1)) (hl.out.2.trans (b1.mono hl.out.2.size)))
          go_wp2_with fail
          refine (H2 _).out.mono ?_
          rintro e w2 ⟨rfl, b4⟩
          have hl3 := Lib.hid (And.intro (hl2.out.1.below b4) (hl2.out.2.trans (b4.mono hl2.out.2.size)))
          clear b1 b4 c1 c2 hl hl2 H1 H2
          go_wp2
          go_roundw
          case rel => exact ⟨1, by omega, by simp, hl3⟩
          case measure => simp [intOf]
      · have c1 : wr.cell? ⟨w.heap.size, 2, none⟩ = some (.int .i64 2) := hl.out.1 2 (by decide)
        have H1 := fun w => HC 2 83 w (by decide) (by decide) (by decide)
        have H2 := fun w => HC 8 89 w (by decide) (by decide) (by decide)
        have HX := (HO 2 8 (by omega)).out
        clear HC HO
        rcases HX with ⟨e1, e2⟩ | ⟨e1, e2⟩
        all_goals
          rw [e1] at H1
          rw [e2] at H2
          clear e1 e2
          go_wp2_with fail
          refine (H1 _).out.mono ?_
          rintro e w1 ⟨rfl, b1⟩
          have c2 : w1.cell? ⟨w.heap.size, 3, none⟩ = some (.int .i64 8) := (hl.out.1.below b1) 3 (by decide)
          have hl2 := Lib.hid (And.intro ((hl.out.1.below b1)) (hl.out.2.trans (b1.mono hl.out.2.size)))
          go_wp2_with fail
          refine (H2 _).out.mono ?_
          rintro e w2 ⟨rfl, b4⟩
          have hl3 := Lib.hid (And.intro (hl2.out.1.below b4) (hl2.out.2.trans (b4.mono hl2.out.2.size)))
          clear b1 b4 c1 c2 hl hl2 H1 H2
          go_wp2
          go_roundw
          case rel => exact ⟨2, by omega, by simp, hl3⟩
          case measure => simp [intOf]
      · have c1 : wr.cell? ⟨w.heap.size, 4, none⟩ = some (.int .i64 3) := hl.out.1 4 (by decide)
        have H1 := fun w => HC 3 84 w (by decide) (by decide) (by decide)
        have H2 := fun w => HC 9 90 w (by decide) (by decide) (by decide)
        have HX := (HO 3 9 (by omega)).out
        clear HC HO
        rcases HX with ⟨e1, e2⟩ | ⟨e1, e2⟩
        all_goals
          rw [e1] at H1
          rw [e2] at H2
          clear e1 e2
          go_wp2_with fail
          refine (H1 _).out.mono ?_
          rintro e w1 ⟨rfl, b1⟩
          have c2 : w1.cell? ⟨w.heap.size, 5, none⟩ = some (.int .i64 9) := (hl.out.1.below b1) 5 (by decide)
          have hl2 := Lib.hid (And.intro ((hl.out.1.below b1)) (hl.out.2.trans (b1.mono hl.out.2.size)))
          go_wp2_with fail
          refine (H2 _).out.mono ?_
          rintro e w2 ⟨rfl, b4⟩
          have hl3 := Lib.hid (And.intro (hl2.out.1.below b4) (hl2.out.2.trans (b4.mono hl2.out.2.size)))
          clear b1 b4 c1 c2 hl hl2 H1 H2
          go_wp2
          go_roundw
          case rel => exact ⟨3, by omega, by simp, hl3⟩
          case measure => simp [intOf]
      · have c1 : wr.cell? ⟨w.heap.size, 6, none⟩ = some (.int .i64 4) := hl.out.1 6 (by decide)
        have H1 := fun w => HC 4 85 w (by decide) (by decide) (by decide)
        have H2 := fun w => HC 6 87 w (by decide) (by decide) (by decide)
        have HX := (HO 4 6 (by omega)).out
        clear HC HO
        rcases HX with ⟨e1, e2⟩ | ⟨e1, e2⟩
        all_goals
          rw [e1] at H1
          rw [e2] at H2
          clear e1 e2
          go_wp2_with fail
          refine (H1 _).out.mono ?_
          rintro e w1 ⟨rfl, b1⟩
          have c2 : w1.cell? ⟨w.heap.size, 7, none⟩ = some (.int .i64 6) := (hl.out.1.below b1) 7 (by decide)
          have hl2 := Lib.hid (And.intro ((hl.out.1.below b1)) (hl.out.2.trans (b1.mono hl.out.2.size)))
          go_wp2_with fail
          refine (H2 _).out.mono ?_
          rintro e w2 ⟨rfl, b4⟩
          have hl3 := Lib.hid (And.intro (hl2.out.1.below b4) (hl2.out.2.trans (b4.mono hl2.out.2.size)))
          clear b1 b4 c1 c2 hl hl2 H1 H2
          go_wp2
          go_roundw
          case rel => exact ⟨4, by omega, by simp, hl3⟩
          case measure => simp [intOf]
      · have c1 : wr.cell? ⟨w.heap.size, 8, none⟩ = some (.int .i64 5) := hl.out.1 8 (by decide)
        have H1 := fun w => HC 5 86 w (by decide) (by decide) (by decide)
        have H2 := fun w => HC 7 88 w (by decide) (by decide) (by decide)
        have HX := (HO 5 7 (by omega)).out
        clear HC HO
        rcases HX with ⟨e1, e2⟩ | ⟨e1, e2⟩
        all_goals
          rw [e1] at H1
          rw [e2] at H2
          clear e1 e2
          go_wp2_with fail
          refine (H1 _).out.mono ?_
          rintro e w1 ⟨rfl, b1⟩
          have c2 : w1.cell? ⟨w.heap.size, 9, none⟩ = some (.int .i64 7) := (hl.out.1.below b1) 9 (by decide)
          have hl2 := Lib.hid (And.intro ((hl.out.1.below b1)) (hl.out.2.trans (b1.mono hl.out.2.size)))
          go_wp2_with fail
          refine (H2 _).out.mono ?_
          rintro e w2 ⟨rfl, b4⟩
          have hl3 := Lib.hid (And.intro (hl2.out.1.below b4) (hl2.out.2.trans (b4.mono hl2.out.2.size)))
          clear b1 b4 c1 c2 hl hl2 H1 H2
          go_wp2
          go_roundw
          case rel => exact ⟨5, by omega, by simp, hl3⟩
          case measure => simp [intOf]
    · obtain rfl : k = 5 := by omega
      clear HC HO
      generalize uV 1 2 126 a = N at *
      generalize uV 1 2 126 (18446744073709551615 - (a : Int)) = M at *
      generalize uV 1 0 126 a = K at *
      go_wp2_with fail
      refine (HN _ (HT.out.below hl.out.2)).out.mono ?_
      rintro e w1 ⟨rfl, b1⟩
      have ht1 := Lib.hid ((HT.out.below hl.out.2).below b1)
      go_wp2_with fail
      refine (HM _ ht1.out).out.mono ?_
      rintro e w2 ⟨rfl, b2⟩
      have ht2 := Lib.hid (ht1.out.below b2)
      go_wp2_with fail
      refine (HK _ ht2.out).out.mono ?_
      rintro e w3 ⟨rfl, b3⟩
      go_wp2_with fail
      refine (wakes_any _).mono ?_
      rintro e w4 ⟨rfl, b4⟩
      go_wp2
      go_ret
      exact ⟨rfl, hl.out.2.trans ((b1.trans ((b2.trans ((b3.trans (b4.mono b3.size)).mono b2.size)).mono b1.size)).mono hl.out.2.size)⟩

theorem opp_walk {H : Type} {enc : TypeId × Value → H} (W : World) (base : Nat) (hT : TabAt W)
    (v0 : Value) (d0 : DataW H) (p0 : List MemPlace) (o0 : Value.okWide Tryd.prog W .any base 22 v0) (h0 : DataW.Trod enc Tryd.prog W 0 (fun _ => true) true 22 v0 d0 p0)
    (v1 : Value) (d1 : DataW H) (p1 : List MemPlace) (o1 : Value.okWide Tryd.prog W .any base 22 v1) (h1 : DataW.Trod enc Tryd.prog W 0 (fun _ => true) true 22 v1 d1 p1)
    (v2 : Value) (d2 : DataW H) (p2 : List MemPlace) (o2 : Value.okWide Tryd.prog W .any base 4 v2) (h2 : DataW.Trod enc Tryd.prog W 0 (fun _ => true) true 4 v2 d2 p2) :
    Calls Tryd.prog 4 #[v0, v1, v2] W fun e W' => e = .returned (.bool true) ∧ Below W.heap.size W W' := by
  obtain ⟨a0, rfl, rfl, rfl, w0⟩ := open_int Tryd.underlying22 o0 h0
  obtain ⟨a1, rfl, rfl, rfl, w1⟩ := open_int Tryd.underlying22 o1 h1
  obtain ⟨b, rfl, rfl, rfl⟩ := open_bool Tryd.underlying4 o2 h2
  have b0 := bounds_u64 w0
  have b1 := bounds_u64 w1
  obtain ⟨a, rfl⟩ := Int.eq_ofNat_of_zero_le b0.1
  obtain ⟨c, rfl⟩ := Int.eq_ofNat_of_zero_le b1.1
  cases b
  · exact opp_127 a c W (by omega) (by omega) hT
  · exact opp_126 a c W (by omega) (by omega) hT
end Go.Proofs.YtkmdgdjdkkmjcaaDoor
