/- The walk of NumsQuotients: quotient and rest, put together. -/
import Derived.Test.YtkmdgdjdkkmjcaaQuot
import Derived.Test.YtkmdgdjdkkmjcaaM
import Derived.Lib.SmallJoins
namespace Go.Proofs.Ytkmdgdjdkkmjcaa
open Go.ChangeShapes Go.WideShapes Go.ChangeAt Go.RowKit
set_option linter.unusedVariables false

theorem tells_any (op n t X Y : Int) (h : OfIs op 3 n t) (o1 : -9223372036854775808 ≤ op) (o2 : op ≤ 9223372036854775807)
    (x1 : 0 ≤ X) (x2 : X ≤ (if t = 127 then 4294967295 else 18446744073709551615)) (y1 : 0 ≤ Y) (y2 : Y ≤ (if t = 127 then 4294967295 else 18446744073709551615)) (V T : Int) (hV : cu t (twoV n t X Y) = V) (hT : twoT n t X Y = T) : Tells op X Y V T := by
  have x3 : X ≤ 18446744073709551615 := by split at x2 <;> omega
  have y3 : Y ≤ 18446744073709551615 := by split at y2 <;> omega
  intro w
  have h := binary_any op 3 n t X Y w h o1 o2 x1 x3 y1 y3
  have eV : bV 3 n t X Y = V := by unfold bV; rw [if_neg (by decide), if_pos rfl, cu_of x1 x2, cu_of y1 y2, hV]
  have eT : bT 3 n t X Y = T := by unfold bT; rw [if_pos rfl, cu_of x1 x2, cu_of y1 y2, hT]
  rw [eV, eT] at h
  exact h

/-- Quotient and rest, put together within M. -/
theorem back (M q sy r sx Q y R : Int) (h1 : Q % M = q % M) (h2 : y % M = sy % M) (h3 : R % M = r % M) (h4 : q * sy + r = sx) : ((Q * y) % M + R) % M = sx % M := by
  rw [Int.add_emod, Int.emod_emod, Int.mul_emod, h1, h2, ← Int.mul_emod, h3, ← Int.add_emod, h4]
theorem wrapm_127 (x : Int) : cu 127 (IntKind.u64.wrap x) % 4294967296 = x % 4294967296 := by
  rw [cu127, IntKind.wrap_u64]; omega
theorem wrapc_127 (x : Int) : cu 127 (IntKind.u64.wrap x) = x % 4294967296 := by
  rw [cu127, IntKind.wrap_u64]; omega
theorem sgm_127 (x : Int) : x % 4294967296 = sg 127 x % 4294967296 := by
  show x % 4294967296 = wrap32 x % 4294967296
  unfold wrap32; omega
theorem tell_127 (op n X Y V T : Int) (h : OfIs op 3 n 127) (o1 : 0 ≤ op) (o2 : op ≤ 1000) (x1 : 0 ≤ X) (x2 : X ≤ 4294967295) (y1 : 0 ≤ Y) (y2 : Y ≤ 4294967295) (hV : cu 127 (twoV n 127 X Y) = V) (hT : twoT n 127 X Y = T) : Tells op X Y V T :=
  tells_any op n 127 X Y h (by omega) (by omega) x1 x2 y1 y2 V T hV hT
theorem cub_127 (x : Int) : 0 ≤ cu 127 (IntKind.u64.wrap x) ∧ cu 127 (IntKind.u64.wrap x) ≤ 4294967295 := by
  rw [wrapc_127]; omega
theorem mulT_127 (t X Y : Int) : twoT 2 t X Y = 0 := by simp [twoT]
theorem addT_127 (t X Y : Int) : twoT 0 t X Y = 0 := by simp [twoT]
theorem quotc_127_0 (a b X Y : Int) (w : World) (ha : a % 4294967296 = X) (hb : b % 4294967296 = Y) (a1 : 0 ≤ a) (a2 : a ≤ 18446744073709551615) (b1 : 0 ≤ b) (b2 : b ≤ 18446744073709551615) :
    Calls Try.prog 6 #[.agg #[.int .u64 a, .int .u64 b, .bool false, .bool false]] w fun e w' => e = .returned (.bool true) ∧ Below w.heap.size w w' := by
  have x1 : 0 ≤ X := by omega
  have x2 : X ≤ 4294967295 := by omega
  have y1 : 0 ≤ Y := by omega
  have y2 : Y ≤ 4294967295 := by omega
  by_cases hz : Y = 0
  · refine quotz_127_0 a b X Y w ha hb a1 a2 b1 b2 (tell_127 110 4 X Y 0 2 ⟨by omega⟩ (by decide) (by decide) x1 x2 y1 y2 ?_ ?_) (tell_127 112 6 X Y 0 2 ⟨by omega⟩ (by decide) (by decide) x1 x2 y1 y2 ?_ ?_) hz
    · rw [twoV_4, if_pos hz]; rfl
    · rw [twoT_4, if_pos hz]
    · rw [twoV_6, if_pos hz]; rfl
    · rw [twoT_6, if_pos hz]
  have hy : (Y == 0) = false := by simp [hz]
  have q1 : 0 ≤ X / Y ∧ X / Y ≤ 4294967295 := ⟨Int.ediv_nonneg x1 y1, Int.le_trans (Int.ediv_le_self _ x1) x2⟩
  have r0 := Int.emod_lt_of_pos X (show 0 < Y by omega)
  have r1 : 0 ≤ X % Y ∧ X % Y ≤ 4294967295 := ⟨Int.emod_nonneg X hz, by omega⟩
  have hk := back 4294967296 (X / Y) Y (X % Y) X (X / Y) Y (X % Y) rfl rfl rfl (by rw [Int.mul_comm]; exact Int.mul_ediv_add_emod X Y)
  rw [Int.emod_eq_of_lt (a := X) (b := 4294967296) x1 (by omega)] at hk
  generalize hQ : X / Y = Q at *
  generalize hR : X % Y = R at *
  have p1 := cub_127 (Q * Y)
  refine quott_127_0 a b X Y w ha hb a1 a2 b1 b2 Q R (cu 127 (IntKind.u64.wrap (Q * Y))) (tell_127 110 4 X Y Q 0 ⟨by omega⟩ (by decide) (by decide) x1 x2 y1 y2 ?_ ?_) (tell_127 112 6 X Y R 0 ⟨by omega⟩ (by decide) (by decide) x1 x2 y1 y2 ?_ ?_) (tell_127 108 2 Q Y _ 0 ⟨by omega⟩ (by decide) (by decide) q1.1 q1.2 y1 y2 ?_ (mulT_127 _ _ _)) (tell_127 106 0 _ R X 0 ⟨by omega⟩ (by decide) (by decide) p1.1 p1.2 r1.1 r1.2 ?_ (addT_127 _ _ _)) hy
  · rw [twoV_4, if_neg hz, hQ]; exact cu_of (t := 127) q1.1 q1.2
  · rw [twoT_4, if_neg hz]
  · rw [twoV_6, if_neg hz, hR]; exact cu_of (t := 127) r1.1 r1.2
  · rw [twoT_6, if_neg hz]
  · rw [twoV_2]
  · rw [twoV_0, wrapc_127, wrapc_127, hk]
theorem quotc_127_1 (a b X Y : Int) (w : World) (ha : a % 4294967296 = X) (hb : b % 4294967296 = Y) (a1 : 0 ≤ a) (a2 : a ≤ 18446744073709551615) (b1 : 0 ≤ b) (b2 : b ≤ 18446744073709551615) :
    Calls Try.prog 6 #[.agg #[.int .u64 a, .int .u64 b, .bool false, .bool true]] w fun e w' => e = .returned (.bool true) ∧ Below w.heap.size w w' := by
  have x1 : 0 ≤ X := by omega
  have x2 : X ≤ 4294967295 := by omega
  have y1 : 0 ≤ Y := by omega
  have y2 : Y ≤ 4294967295 := by omega
  by_cases hz : Y = 0
  · have hz' : sg 127 Y = 0 := (sg_zero (t := 127) (by decide) y1 y2).2 hz
    refine quotz_127_1 a b X Y w ha hb a1 a2 b1 b2 (tell_127 109 3 X Y 0 2 ⟨by omega⟩ (by decide) (by decide) x1 x2 y1 y2 ?_ ?_) (tell_127 111 5 X Y 0 2 ⟨by omega⟩ (by decide) (by decide) x1 x2 y1 y2 ?_ ?_) hz
    · rw [twoV_3]; unfold quoV; rw [if_pos (.inl hz')]; rfl
    · rw [twoT_3]; unfold quoT; rw [if_pos hz']
    · rw [twoV_5]; unfold rstV; rw [if_pos (.inl hz')]; rfl
    · rw [twoT_5]; unfold rstT; rw [if_pos hz']
  have hz' : sg 127 Y ≠ 0 := fun h => hz ((sg_zero (t := 127) (by decide) y1 y2).1 h)
  have hy : (Y == 0) = false := by simp [hz]
  by_cases ho : sg 127 Y = -1 ∧ X = least 127
  · refine quoto_127 a b X Y w ha hb a1 a2 b1 b2 (tell_127 109 3 X Y 0 3 ⟨by omega⟩ (by decide) (by decide) x1 x2 y1 y2 ?_ ?_) (tell_127 111 5 X Y 0 0 ⟨by omega⟩ (by decide) (by decide) x1 x2 y1 y2 ?_ ?_) hy ho.2 (fun w => ?_)
    · rw [twoV_3]; unfold quoV; rw [if_pos (.inr ho)]; rfl
    · rw [twoT_3]; unfold quoT; rw [if_neg hz', if_pos ho]
    · rw [twoV_5]; unfold rstV; rw [if_pos (.inr ho.1)]; rfl
    · rw [twoT_5]; unfold rstT; rw [if_neg hz']
    · have h := signed_any Y 127 w y1 (by omega)
      rw [ho.1] at h
      exact Lib.hid h
  have eQ : quoV 127 X Y = IntKind.u64.wrap ((sg 127 X).tdiv (sg 127 Y)) := by unfold quoV; rw [if_neg (fun h => h.elim hz' ho)]
  have eR : rstV 127 X Y = IntKind.u64.wrap ((sg 127 X).tmod (sg 127 Y)) := by
    unfold rstV
    by_cases h1 : sg 127 Y = -1
    · rw [if_pos (.inr h1), h1]; simp [IntKind.wrap_u64]
    · rw [if_neg (fun h => h.elim hz' h1)]
  have hk := back 4294967296 ((sg 127 X).tdiv (sg 127 Y)) (sg 127 Y) ((sg 127 X).tmod (sg 127 Y)) (sg 127 X) _ Y _ (wrapm_127 _) (sgm_127 Y) (wrapm_127 _) (by rw [Int.mul_comm]; exact Int.mul_tdiv_add_tmod _ _)
  rw [← sgm_127 X, Int.emod_eq_of_lt (a := X) (b := 4294967296) x1 (by omega)] at hk
  have q1 := cub_127 ((sg 127 X).tdiv (sg 127 Y))
  have r1 := cub_127 ((sg 127 X).tmod (sg 127 Y))
  generalize hQ : cu 127 (IntKind.u64.wrap ((sg 127 X).tdiv (sg 127 Y))) = Q at *
  generalize hR : cu 127 (IntKind.u64.wrap ((sg 127 X).tmod (sg 127 Y))) = R at *
  have p1 := cub_127 (Q * Y)
  refine quott_127_1 a b X Y w ha hb a1 a2 b1 b2 Q R (cu 127 (IntKind.u64.wrap (Q * Y))) (tell_127 109 3 X Y Q 0 ⟨by omega⟩ (by decide) (by decide) x1 x2 y1 y2 ?_ ?_) (tell_127 111 5 X Y R 0 ⟨by omega⟩ (by decide) (by decide) x1 x2 y1 y2 ?_ ?_) (tell_127 108 2 Q Y _ 0 ⟨by omega⟩ (by decide) (by decide) q1.1 q1.2 y1 y2 ?_ (mulT_127 _ _ _)) (tell_127 106 0 _ R X 0 ⟨by omega⟩ (by decide) (by decide) p1.1 p1.2 r1.1 r1.2 ?_ (addT_127 _ _ _)) hy
  · rw [twoV_3, eQ, hQ]
  · rw [twoT_3]; unfold quoT; rw [if_neg hz', if_neg ho]
  · rw [twoV_5, eR, hR]
  · rw [twoT_5]; unfold rstT; rw [if_neg hz']
  · rw [twoV_2]
  · rw [twoV_0, wrapc_127, wrapc_127, hk]
theorem wrapm_126 (x : Int) : cu 126 (IntKind.u64.wrap x) % 18446744073709551616 = x % 18446744073709551616 := by
  rw [cu126, IntKind.wrap_u64]; omega
theorem wrapc_126 (x : Int) : cu 126 (IntKind.u64.wrap x) = x % 18446744073709551616 := by
  rw [cu126, IntKind.wrap_u64]
theorem sgm_126 (x : Int) : x % 18446744073709551616 = sg 126 x % 18446744073709551616 := by
  show x % 18446744073709551616 = wrap64 x % 18446744073709551616
  unfold wrap64; omega
theorem tell_126 (op n X Y V T : Int) (h : OfIs op 3 n 126) (o1 : 0 ≤ op) (o2 : op ≤ 1000) (x1 : 0 ≤ X) (x2 : X ≤ 18446744073709551615) (y1 : 0 ≤ Y) (y2 : Y ≤ 18446744073709551615) (hV : cu 126 (twoV n 126 X Y) = V) (hT : twoT n 126 X Y = T) : Tells op X Y V T :=
  tells_any op n 126 X Y h (by omega) (by omega) x1 x2 y1 y2 V T hV hT
theorem cub_126 (x : Int) : 0 ≤ cu 126 (IntKind.u64.wrap x) ∧ cu 126 (IntKind.u64.wrap x) ≤ 18446744073709551615 := by
  rw [wrapc_126]; omega
theorem mulT_126 (t X Y : Int) : twoT 2 t X Y = 0 := by simp [twoT]
theorem addT_126 (t X Y : Int) : twoT 0 t X Y = 0 := by simp [twoT]
theorem quotc_126_0 (X Y : Int) (w : World) (a1 : 0 ≤ X) (a2 : X ≤ 18446744073709551615) (b1 : 0 ≤ Y) (b2 : Y ≤ 18446744073709551615) :
    Calls Try.prog 6 #[.agg #[.int .u64 X, .int .u64 Y, .bool true, .bool false]] w fun e w' => e = .returned (.bool true) ∧ Below w.heap.size w w' := by
  have x1 := a1
  have x2 := a2
  have y1 := b1
  have y2 := b2
  by_cases hz : Y = 0
  · refine quotz_126_0 X Y w a1 a2 b1 b2 (tell_126 128 4 X Y 0 2 ⟨by omega⟩ (by decide) (by decide) x1 x2 y1 y2 ?_ ?_) (tell_126 130 6 X Y 0 2 ⟨by omega⟩ (by decide) (by decide) x1 x2 y1 y2 ?_ ?_) hz
    · rw [twoV_4, if_pos hz]; rfl
    · rw [twoT_4, if_pos hz]
    · rw [twoV_6, if_pos hz]; rfl
    · rw [twoT_6, if_pos hz]
  have hy : (Y == 0) = false := by simp [hz]
  have q1 : 0 ≤ X / Y ∧ X / Y ≤ 18446744073709551615 := ⟨Int.ediv_nonneg x1 y1, Int.le_trans (Int.ediv_le_self _ x1) x2⟩
  have r0 := Int.emod_lt_of_pos X (show 0 < Y by omega)
  have r1 : 0 ≤ X % Y ∧ X % Y ≤ 18446744073709551615 := ⟨Int.emod_nonneg X hz, by omega⟩
  have hk := back 18446744073709551616 (X / Y) Y (X % Y) X (X / Y) Y (X % Y) rfl rfl rfl (by rw [Int.mul_comm]; exact Int.mul_ediv_add_emod X Y)
  rw [Int.emod_eq_of_lt (a := X) (b := 18446744073709551616) x1 (by omega)] at hk
  generalize hQ : X / Y = Q at *
  generalize hR : X % Y = R at *
  have p1 := cub_126 (Q * Y)
  refine quott_126_0 X Y w a1 a2 b1 b2 Q R (cu 126 (IntKind.u64.wrap (Q * Y))) (tell_126 128 4 X Y Q 0 ⟨by omega⟩ (by decide) (by decide) x1 x2 y1 y2 ?_ ?_) (tell_126 130 6 X Y R 0 ⟨by omega⟩ (by decide) (by decide) x1 x2 y1 y2 ?_ ?_) (tell_126 126 2 Q Y _ 0 ⟨by omega⟩ (by decide) (by decide) q1.1 q1.2 y1 y2 ?_ (mulT_126 _ _ _)) (tell_126 124 0 _ R X 0 ⟨by omega⟩ (by decide) (by decide) p1.1 p1.2 r1.1 r1.2 ?_ (addT_126 _ _ _)) hy
  · rw [twoV_4, if_neg hz, hQ]; exact cu_of (t := 126) q1.1 q1.2
  · rw [twoT_4, if_neg hz]
  · rw [twoV_6, if_neg hz, hR]; exact cu_of (t := 126) r1.1 r1.2
  · rw [twoT_6, if_neg hz]
  · rw [twoV_2]
  · rw [twoV_0, wrapc_126, wrapc_126, hk]
theorem quotc_126_1 (X Y : Int) (w : World) (a1 : 0 ≤ X) (a2 : X ≤ 18446744073709551615) (b1 : 0 ≤ Y) (b2 : Y ≤ 18446744073709551615) :
    Calls Try.prog 6 #[.agg #[.int .u64 X, .int .u64 Y, .bool true, .bool true]] w fun e w' => e = .returned (.bool true) ∧ Below w.heap.size w w' := by
  have x1 := a1
  have x2 := a2
  have y1 := b1
  have y2 := b2
  by_cases hz : Y = 0
  · have hz' : sg 126 Y = 0 := (sg_zero (t := 126) (by decide) y1 y2).2 hz
    refine quotz_126_1 X Y w a1 a2 b1 b2 (tell_126 127 3 X Y 0 2 ⟨by omega⟩ (by decide) (by decide) x1 x2 y1 y2 ?_ ?_) (tell_126 129 5 X Y 0 2 ⟨by omega⟩ (by decide) (by decide) x1 x2 y1 y2 ?_ ?_) hz
    · rw [twoV_3]; unfold quoV; rw [if_pos (.inl hz')]; rfl
    · rw [twoT_3]; unfold quoT; rw [if_pos hz']
    · rw [twoV_5]; unfold rstV; rw [if_pos (.inl hz')]; rfl
    · rw [twoT_5]; unfold rstT; rw [if_pos hz']
  have hz' : sg 126 Y ≠ 0 := fun h => hz ((sg_zero (t := 126) (by decide) y1 y2).1 h)
  have hy : (Y == 0) = false := by simp [hz]
  by_cases ho : sg 126 Y = -1 ∧ X = least 126
  · refine quoto_126 X Y w a1 a2 b1 b2 (tell_126 127 3 X Y 0 3 ⟨by omega⟩ (by decide) (by decide) x1 x2 y1 y2 ?_ ?_) (tell_126 129 5 X Y 0 0 ⟨by omega⟩ (by decide) (by decide) x1 x2 y1 y2 ?_ ?_) hy ho.2 (fun w => ?_)
    · rw [twoV_3]; unfold quoV; rw [if_pos (.inr ho)]; rfl
    · rw [twoT_3]; unfold quoT; rw [if_neg hz', if_pos ho]
    · rw [twoV_5]; unfold rstV; rw [if_pos (.inr ho.1)]; rfl
    · rw [twoT_5]; unfold rstT; rw [if_neg hz']
    · have h := signed_any Y 126 w y1 (by omega)
      rw [ho.1] at h
      exact Lib.hid h
  have eQ : quoV 126 X Y = IntKind.u64.wrap ((sg 126 X).tdiv (sg 126 Y)) := by unfold quoV; rw [if_neg (fun h => h.elim hz' ho)]
  have eR : rstV 126 X Y = IntKind.u64.wrap ((sg 126 X).tmod (sg 126 Y)) := by
    unfold rstV
    by_cases h1 : sg 126 Y = -1
    · rw [if_pos (.inr h1), h1]; simp [IntKind.wrap_u64]
    · rw [if_neg (fun h => h.elim hz' h1)]
  have hk := back 18446744073709551616 ((sg 126 X).tdiv (sg 126 Y)) (sg 126 Y) ((sg 126 X).tmod (sg 126 Y)) (sg 126 X) _ Y _ (wrapm_126 _) (sgm_126 Y) (wrapm_126 _) (by rw [Int.mul_comm]; exact Int.mul_tdiv_add_tmod _ _)
  rw [← sgm_126 X, Int.emod_eq_of_lt (a := X) (b := 18446744073709551616) x1 (by omega)] at hk
  have q1 := cub_126 ((sg 126 X).tdiv (sg 126 Y))
  have r1 := cub_126 ((sg 126 X).tmod (sg 126 Y))
  generalize hQ : cu 126 (IntKind.u64.wrap ((sg 126 X).tdiv (sg 126 Y))) = Q at *
  generalize hR : cu 126 (IntKind.u64.wrap ((sg 126 X).tmod (sg 126 Y))) = R at *
  have p1 := cub_126 (Q * Y)
  refine quott_126_1 X Y w a1 a2 b1 b2 Q R (cu 126 (IntKind.u64.wrap (Q * Y))) (tell_126 127 3 X Y Q 0 ⟨by omega⟩ (by decide) (by decide) x1 x2 y1 y2 ?_ ?_) (tell_126 129 5 X Y R 0 ⟨by omega⟩ (by decide) (by decide) x1 x2 y1 y2 ?_ ?_) (tell_126 126 2 Q Y _ 0 ⟨by omega⟩ (by decide) (by decide) q1.1 q1.2 y1 y2 ?_ (mulT_126 _ _ _)) (tell_126 124 0 _ R X 0 ⟨by omega⟩ (by decide) (by decide) p1.1 p1.2 r1.1 r1.2 ?_ (addT_126 _ _ _)) hy
  · rw [twoV_3, eQ, hQ]
  · rw [twoT_3]; unfold quoT; rw [if_neg hz', if_neg ho]
  · rw [twoV_5, eR, hR]
  · rw [twoT_5]; unfold rstT; rw [if_neg hz']
  · rw [twoV_2]
  · rw [twoV_0, wrapc_126, wrapc_126, hk]
end Go.Proofs.Ytkmdgdjdkkmjcaa
