/- Contracts of counts and Unary. -/
import Derived.Test.YtkmdgdjdkkmjcaaDoorI
import Derived.Test.YtkmdgdjdkkmjcaaDoorH
import Derived.Test.YtkmdgdjdkkmjcaaDoorPA
import Derived.Test.YtkmdgdjdkkmjcaaDoorP
import Derived.Test.YtkmdgdjdkkmjcaaDoorQ
namespace Go.Proofs.YtkmdgdjdkkmjcaaDoor
open Go.RowKit
set_option linter.unusedVariables false

def wd (t : Int) : Nat := if t = 127 then 32 else 64
/-- What counts tells. -/
def cnt (n : Int) (t : Int) (x : Nat) : Nat := if n = 0 then wd t - Lib.bitLen x else if n = 1 then min (Lib.ctz 64 x) (wd t) else ds 1 64 x

theorem ds_le : ∀ n x, ds 1 n x ≤ n
  | 0, _ => Nat.le_refl _
  | n + 1, x => by
    show x % 2 ^ 1 + ds 1 n (x / 2 ^ 1) ≤ n + 1
    have := ds_le n (x / 2 ^ 1)
    omega

theorem ctz_le (x : Nat) (hx : x < 18446744073709551616) : Lib.ctz 64 x ≤ 64 := by
  by_cases h0 : x = 0
  · subst h0; decide
  · exact Nat.le_of_lt (Lib.lowest_bit 64 x h0 hx).2

set_option maxHeartbeats 1000000 in
theorem counts_any (n t : Int) (x : Nat) (w : World) (hn : 0 ≤ n ∧ n ≤ 2) (ht : t = 127 ∨ t = 126) (hx : x < 2 ^ wd t) (hT : TabAt w) :
    Calls Tryd.prog 11 #[.int .i64 n, .int .u64 x, .int .i64 t] w fun e w' => e = .returned (.int .u64 (cnt n t x : Nat)) ∧ w = w' := by
  have hx64 : x < 18446744073709551616 := by
    rcases ht with rfl | rfl
    · have : x < 2 ^ 32 := hx; omega
    · exact hx
  have hl : Lib.bitLen x ≤ wd t := Lib.bitLen_le x (wd t) (by rcases ht with rfl | rfl <;> decide) hx
  have hc := ctz_le x hx64
  have hd := ds_le 64 x
  have HL := fun w => Lib.hid (bits_LeadingZeros64 (x : Int) w (by omega) (by omega))
  have HZ := Lib.hid (tz_any x hx64 w hT)
  have HO := fun w => Lib.hid (ones_any x hx64 w)
  rw [Int.toNat_natCast] at HL
  clear hT
  have hc3 : n = 0 ∨ n = 1 ∨ n = 2 := by omega
  rcases hc3 with rfl | rfl | rfl
  · have e : cnt 0 t x = wd t - Lib.bitLen x := rfl
    rw [e]
    generalize Lib.bitLen x = b at *
    rcases ht with rfl | rfl
    · have hb : b ≤ 32 := hl
      have e2 : ((wd 127 - b : Nat) : Int) = 32 - (b : Int) := by show ((32 - b : Nat) : Int) = _; omega
      rw [e2]
      clear hl e e2
      go_enter Tryd.func11, Tryd.ntmps11
      go_wp2_with (first | (go_at_call 19; refine (HL _).out.mono ?_; rintro e w' ⟨rfl, rfl⟩) | (go_at_call 20; refine (width_any _ _).mono ?_; rintro e w' ⟨rfl, rfl⟩))
      go_ret
      exact ⟨by first | rfl | (simp; omega), rfl⟩
    · have hb : b ≤ 64 := hl
      have e2 : ((wd 126 - b : Nat) : Int) = 64 - (b : Int) := by show ((64 - b : Nat) : Int) = _; omega
      rw [e2]
      clear hl e e2
      go_enter Tryd.func11, Tryd.ntmps11
      go_wp2_with (first | (go_at_call 19; refine (HL _).out.mono ?_; rintro e w' ⟨rfl, rfl⟩) | (go_at_call 20; refine (width_any _ _).mono ?_; rintro e w' ⟨rfl, rfl⟩))
      go_ret
      exact ⟨by first | rfl | (simp; omega), rfl⟩
  · have e : cnt 1 t x = min (Lib.ctz 64 x) (wd t) := rfl
    rw [e]
    generalize Lib.ctz 64 x = c at *
    rcases ht with rfl | rfl
    · have e2 : wd 127 = 32 := rfl
      rw [e2]
      clear hl e e2 hx
      by_cases hcm : c ≤ 32
      · rw [Nat.min_eq_left hcm]
        have hm : min (c : Int) 32 = c := by omega
        go_enter Tryd.func11, Tryd.ntmps11
        go_wp2_with (first | (go_at_call 21; refine HZ.out.mono ?_; rintro e w' ⟨rfl, rfl⟩) | (go_at_call 20; refine (width_any _ _).mono ?_; rintro e w' ⟨rfl, rfl⟩))
        go_ret
        exact ⟨by first | rfl | (simp; omega), rfl⟩
      · rw [Nat.min_eq_right (by omega)]
        have hm : min (c : Int) 32 = 32 := by omega
        go_enter Tryd.func11, Tryd.ntmps11
        go_wp2_with (first | (go_at_call 21; refine HZ.out.mono ?_; rintro e w' ⟨rfl, rfl⟩) | (go_at_call 20; refine (width_any _ _).mono ?_; rintro e w' ⟨rfl, rfl⟩))
        go_ret
        exact ⟨by first | rfl | (simp; omega), rfl⟩
    · have e2 : wd 126 = 64 := rfl
      rw [e2]
      clear hl e e2 hx
      rw [Nat.min_eq_left hc]
      have hm : min (c : Int) 64 = c := by omega
      go_enter Tryd.func11, Tryd.ntmps11
      go_wp2_with (first | (go_at_call 21; refine HZ.out.mono ?_; rintro e w' ⟨rfl, rfl⟩) | (go_at_call 20; refine (width_any _ _).mono ?_; rintro e w' ⟨rfl, rfl⟩))
      go_ret
      exact ⟨by first | rfl | (simp; omega), rfl⟩
  · have e : cnt 2 t x = ds 1 64 x := rfl
    rw [e]
    generalize ds 1 64 x = d at *
    clear hl e hx
    go_enter Tryd.func11, Tryd.ntmps11
    go_wp2_with (first | (go_at_call 22; refine (HO _).out.mono ?_; rintro e w' ⟨rfl, rfl⟩))
    go_ret
    exact ⟨by first | rfl | (simp; omega), rfl⟩
end Go.Proofs.YtkmdgdjdkkmjcaaDoor
