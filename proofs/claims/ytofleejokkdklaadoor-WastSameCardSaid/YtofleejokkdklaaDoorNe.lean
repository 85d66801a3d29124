/- The walk of WastNest. -/
import Derived.Test.YtofleejokkdklaaDoorOa
namespace Go.Proofs.YtofleejokkdklaaDoor
open Go.RowKit
set_option linter.unusedVariables false

/-- A nop in so many blocks. -/
def nest : Nat → Il
  | 0 => nop1
  | k + 1 => blk1 (nest k)
theorem nest_len : ∀ k, (nest k).len = 1
  | 0 => rfl
  | _ + 1 => rfl
def nestM (k : Nat) : Md := mdTF [([], [])] [(0, [], nest k)]
theorem nest_check : ∀ k : Fin 91, checkV (nestM k.val) = if 64 < k.val then 4 else 0 := by decide +kernel
theorem nest_count : ∀ k : Fin 91, 65536 - cntF (nestM k.val).funcs 65536 = ((k.val : Nat) : Int) + 1 := by decide +kernel

/-- A module of one empty type and one function, in new memory. -/
def boxW (w : World) (v : Value) : World :=
  ((w.alloc (.cells #[.slice none 0 0, .slice none 0 0] 47)).alloc (.cells #[.int .i64 0, .slice none 0 0, v] 49)).alloc
    (.cells (mdC (.slice (some ⟨w.heap.size, 0, none⟩) 1 1) (.slice (some ⟨w.heap.size + 1, 0, none⟩) 1 1)) 36)
theorem blk1_at {w : World} {b b2 : Nat} {l : Il} (hl : l.len = 1) (hi : IlAt w b2 0 l) (h : ∀ j v, (instrC 2 (.slice (some ⟨b2, 0, none⟩) 1 1))[j]? = some v → w.cell? ⟨b, j, none⟩ = some v) : IlAt w b 0 (blk1 l) :=
  blk_at (c := 1) (by rw [hl]; decide) hi (by rw [hl]; exact h)
structure Boxed (w wz : World) (h : Nat) (l : Il) : Prop where
  below : Below h w wz
  size : wz.heap.size = h + 1 + 1 + 1
  m1 : MdAt wz (mdTF [([], [])] [(0, [], l)]) (some ⟨h, 0, none⟩) 1 none 0 (some ⟨h + 1, 0, none⟩) 1 none 0 none 0 none 0 none 0 none 0 none 0 none 0
  c1 : ∀ j v, (mdC (.slice (some ⟨h, 0, none⟩) 1 1) (.slice (some ⟨h + 1, 0, none⟩) 1 1))[j]? = some v → wz.cell? ⟨h + 1 + 1, j, none⟩ = some v
theorem boxed (w : World) (a : Option Addr) (c : Nat) (l : Il) (hl : l.len ≤ 9223372036854775807) (hi : IlIn w a 0 l) : Boxed w (boxW w (.slice a l.len c)) w.heap.size l := by
  obtain ⟨h, s0⟩ : ∃ h, w.heap.size = h := ⟨_, rfl⟩
  unfold boxW
  rw [s0]
  generalize hv1 : Obj.cells #[.slice none 0 0, .slice none 0 0] 47 = o1
  have a1 : ∀ j v, (#[.slice none 0 0, .slice none 0 0] : Array Value)[j]? = some v → (w.alloc o1).cell? ⟨h, j, none⟩ = some v := by rw [← hv1]; exact at_of s0 _ _
  have b1 : Below h w (w.alloc o1) := by rw [← s0]; exact (Below.refl _ _).alloc (Nat.le_refl _) _
  have k1 := keeps_alloc w o1
  have s1 := size_of s0 o1
  generalize w.alloc o1 = w1 at *
  clear hv1
  have a2 := at_of s1 #[.int .i64 0, .slice none 0 0, .slice a l.len c] 49
  have k2 := keeps_alloc w1 (.cells #[.int .i64 0, .slice none 0 0, .slice a l.len c] 49)
  have b2 := b1.alloc (by omega) (.cells #[.int .i64 0, .slice none 0 0, .slice a l.len c] 49)
  have s2 := size_of s1 (.cells #[.int .i64 0, .slice none 0 0, .slice a l.len c] 49)
  generalize w1.alloc (.cells #[.int .i64 0, .slice none 0 0, .slice a l.len c] 49) = w2 at *
  have a3 := at_of s2 (mdC (.slice (some ⟨h, 0, none⟩) 1 1) (.slice (some ⟨h + 1, 0, none⟩) 1 1)) 36
  have k3 := keeps_alloc w2 (.cells (mdC (.slice (some ⟨h, 0, none⟩) 1 1) (.slice (some ⟨h + 1, 0, none⟩) 1 1)) 36)
  have b3 := b2.alloc (by omega) (.cells (mdC (.slice (some ⟨h, 0, none⟩) 1 1) (.slice (some ⟨h + 1, 0, none⟩) 1 1)) 36)
  have s3 := size_of s2 (.cells (mdC (.slice (some ⟨h, 0, none⟩) 1 1) (.slice (some ⟨h + 1, 0, none⟩) 1 1)) 36)
  generalize w2.alloc (.cells (mdC (.slice (some ⟨h, 0, none⟩) 1 1) (.slice (some ⟨h + 1, 0, none⟩) 1 1)) 36) = w3 at *
  have t1 : TypeAt w1 h 0 ([], []) := ⟨⟨none, 0, a1 0 _ rfl, ints_nil _⟩, ⟨none, 0, a1 1 _ rfl, ints_nil _⟩⟩
  have f2 : FuncAt w2 (h + 1) 0 (0, [], l) := ⟨a2 0 _ rfl, ⟨none, 0, a2 1 _ rfl, ints_nil _⟩, ⟨a, c, a2 2 _ rfl, hl, hi.keep (k1.trans k2)⟩⟩
  exact ⟨b3, s3, md_TF (rows_one (t1.keep (k2.trans k3))) (rows_one (f2.keep k3)), a3⟩

set_option maxRecDepth 100000 in
set_option maxHeartbeats 1000000 in
theorem nest_any (n : Int) (w : World) (hT : TabU w) : Calls Tryd.prog 5 #[.int .i64 n] w fun e w' => e = .returned (.bool true) ∧ Below w.heap.size w w' := by
  have HU := Lib.hid hT
  clear hT
  go_enter Tryd.func5, Tryd.ntmps5
  by_cases hr : n < 0 ∨ n > 90
  · go_wp2_with fail
    all_goals (
      refine (wakes_any _ HU.out).mono ?_
      rintro e w' ⟨rfl, b⟩
      go_wp2
      go_ret
      exact ⟨rfl, b⟩)
  · obtain ⟨N, rfl⟩ := Int.eq_ofNat_of_zero_le (show 0 ≤ n by omega)
    have hN : N ≤ 90 := by omega
    clear hr
    have hnew : Hid (IlAt (w.alloc (.cells (instrC 1 (.slice none 0 0)) 45)) w.heap.size 0 (nest 0)) := Lib.hid (nop_at (at_of rfl _ _))
    have hb0 : Hid (Below w.heap.size w (w.alloc (.cells (instrC 1 (.slice none 0 0)) 45))) := Lib.hid ((Below.refl _ _).alloc (Nat.le_refl _) _)
    unfold instrC at hnew hb0
    go_wp2_with fail
    go_loopw [3, 4] (fun vl vi wr => ∃ i b : Nat, i ≤ N ∧ vi = .int .i64 i ∧ vl = .slice (some ⟨b, 0, none⟩) 1 1 ∧ Hid (IlAt wr b 0 (nest i)) ∧ Hid (Below w.heap.size w wr)) (fun _ vi _ => N - (intOf vi).toNat)
    case atStart => exact ⟨0, w.heap.size, Nat.zero_le _, rfl, rfl, hnew, hb0⟩
    case round =>
      clear hnew hb0
      obtain ⟨i, b, hi, rfl, rfl, hil, hb⟩ := hrel
      by_cases hlt : i < N
      · have hil2 : Hid (IlAt (wr.alloc (.cells (instrC 2 (.slice (some ⟨b, 0, none⟩) 1 1)) 45)) wr.heap.size 0 (nest (i + 1))) := Lib.hid (by
          exact blk1_at (nest_len i) (IlAt.keep (keeps_alloc _ _) _ _ _ hil.out) (at_of rfl _ _))
        have hb2 : Hid (Below w.heap.size w (wr.alloc (.cells (instrC 2 (.slice (some ⟨b, 0, none⟩) 1 1)) 45))) := Lib.hid (hb.out.alloc hb.out.size _)
        unfold instrC at hil2 hb2
        go_wp2
        go_roundw
        case rel => exact ⟨i + 1, wr.heap.size, by omega, by simp, rfl, hil2, hb2⟩
        case measure => simp [intOf]; omega
      · have hiN : i = N := by omega
        subst hiN
        clear hi hlt
        have hx := boxed wr (some ⟨b, 0, none⟩) 1 (nest i) (by rw [nest_len]; decide) (.inr ⟨b, 0, rfl, by simpa using hil.out⟩)
        rw [nest_len] at hx
        have HB := Lib.hid hx
        have hB2 := Lib.hid (hb.out.trans (hx.below.mono hb.out.size))
        have hU2 := Lib.hid ((HU.out.below hb.out).below hx.below)
        clear hx hil hb
        have hC : 65536 - cntF (mdTF [([], [])] [(0, [], nest i)]).funcs 65536 = (i : Int) + 1 := nest_count ⟨i, by omega⟩
        by_cases h64 : 64 < i
        · have hV : checkV (mdTF [([], [])] [(0, [], nest i)]) = 4 := by
            have := nest_check ⟨i, by omega⟩
            rw [if_pos h64] at this
            exact this
          go_wp2_with fail
          show Calls Tryd.prog 15 _ (boxW wr (.slice (some ⟨b, 0, none⟩) 1 1)) _
          generalize boxW wr (.slice (some ⟨b, 0, none⟩) 1 1) = wz at HB hB2 hU2 ⊢
          refine (check_any (mdTF [([], [])] [(0, [], nest i)]) _ _ _ _ _ _ _ _ _ _ _ _ _ _ _ _ _ _ _ _ _ HB.out.m1 hU2.out).mono ?_
          rintro e w4 ⟨rfl, b4⟩
          rw [hV]
          have B4 := Lib.hid b4
          clear b4
          have x0 : w4.cell? ⟨wr.heap.size + 1 + 1, 0, none⟩ = some (.slice (some ⟨wr.heap.size, 0, none⟩) 1 1) := keep_below B4.out _ _ (HB.out.c1 0 _ rfl)
          have x1 : w4.cell? ⟨wr.heap.size + 1 + 1, 1, none⟩ = some (.slice none 0 0) := keep_below B4.out _ _ (HB.out.c1 1 _ rfl)
          have x2 : w4.cell? ⟨wr.heap.size + 1 + 1, 2, none⟩ = some (.slice (some ⟨wr.heap.size + 1, 0, none⟩) 1 1) := keep_below B4.out _ _ (HB.out.c1 2 _ rfl)
          have x3 : w4.cell? ⟨wr.heap.size + 1 + 1, 3, none⟩ = some (.slice none 0 0) := keep_below B4.out _ _ (HB.out.c1 3 _ rfl)
          have x4 : w4.cell? ⟨wr.heap.size + 1 + 1, 4, none⟩ = some (.slice none 0 0) := keep_below B4.out _ _ (HB.out.c1 4 _ rfl)
          have x5 : w4.cell? ⟨wr.heap.size + 1 + 1, 5, none⟩ = some (.slice none 0 0) := keep_below B4.out _ _ (HB.out.c1 5 _ rfl)
          have x6 : w4.cell? ⟨wr.heap.size + 1 + 1, 6, none⟩ = some (.slice none 0 0) := keep_below B4.out _ _ (HB.out.c1 6 _ rfl)
          have x7 : w4.cell? ⟨wr.heap.size + 1 + 1, 7, none⟩ = some (.slice none 0 0) := keep_below B4.out _ _ (HB.out.c1 7 _ rfl)
          have x8 : w4.cell? ⟨wr.heap.size + 1 + 1, 8, none⟩ = some (.slice none 0 0) := keep_below B4.out _ _ (HB.out.c1 8 _ rfl)
          have x9 : w4.cell? ⟨wr.heap.size + 1 + 1, 9, none⟩ = some (.slice none 0 0) := keep_below B4.out _ _ (HB.out.c1 9 _ rfl)
          have M := HB.out.m1.keep (keep_below B4.out)
          go_wp2_with fail
          refine (count_core (mdTF [([], [])] [(0, [], nest i)]) _ _ _ _ _ _ _ _ _ _ _ _ M.funcs).mono ?_
          rintro e w5 ⟨rfl, b5⟩
          rw [hC]
          have B5 := Lib.hid (B4.out.trans (b5.mono B4.out.size))
          clear b5 B4 M x0 x1 x2 x3 x4 x5 x6 x7 x8 x9
          go_wp2_with fail
          refine (wakes_any _ (hU2.out.below B5.out)).mono ?_
          rintro e w6 ⟨rfl, b6⟩
          have B6 := hB2.out.trans ((B5.out.trans (b6.mono B5.out.size)).mono hB2.out.size)
          clear b6 B5
          go_wp2
          go_ret
          exact ⟨rfl, B6⟩
        · have hV : checkV (mdTF [([], [])] [(0, [], nest i)]) = 0 := by
            have := nest_check ⟨i, by omega⟩
            rw [if_neg h64] at this
            exact this
          go_wp2_with fail
          show Calls Tryd.prog 15 _ (boxW wr (.slice (some ⟨b, 0, none⟩) 1 1)) _
          generalize boxW wr (.slice (some ⟨b, 0, none⟩) 1 1) = wz at HB hB2 hU2 ⊢
          refine (check_any (mdTF [([], [])] [(0, [], nest i)]) _ _ _ _ _ _ _ _ _ _ _ _ _ _ _ _ _ _ _ _ _ HB.out.m1 hU2.out).mono ?_
          rintro e w4 ⟨rfl, b4⟩
          rw [hV]
          have B4 := Lib.hid b4
          clear b4
          have x0 : w4.cell? ⟨wr.heap.size + 1 + 1, 0, none⟩ = some (.slice (some ⟨wr.heap.size, 0, none⟩) 1 1) := keep_below B4.out _ _ (HB.out.c1 0 _ rfl)
          have x1 : w4.cell? ⟨wr.heap.size + 1 + 1, 1, none⟩ = some (.slice none 0 0) := keep_below B4.out _ _ (HB.out.c1 1 _ rfl)
          have x2 : w4.cell? ⟨wr.heap.size + 1 + 1, 2, none⟩ = some (.slice (some ⟨wr.heap.size + 1, 0, none⟩) 1 1) := keep_below B4.out _ _ (HB.out.c1 2 _ rfl)
          have x3 : w4.cell? ⟨wr.heap.size + 1 + 1, 3, none⟩ = some (.slice none 0 0) := keep_below B4.out _ _ (HB.out.c1 3 _ rfl)
          have x4 : w4.cell? ⟨wr.heap.size + 1 + 1, 4, none⟩ = some (.slice none 0 0) := keep_below B4.out _ _ (HB.out.c1 4 _ rfl)
          have x5 : w4.cell? ⟨wr.heap.size + 1 + 1, 5, none⟩ = some (.slice none 0 0) := keep_below B4.out _ _ (HB.out.c1 5 _ rfl)
          have x6 : w4.cell? ⟨wr.heap.size + 1 + 1, 6, none⟩ = some (.slice none 0 0) := keep_below B4.out _ _ (HB.out.c1 6 _ rfl)
          have x7 : w4.cell? ⟨wr.heap.size + 1 + 1, 7, none⟩ = some (.slice none 0 0) := keep_below B4.out _ _ (HB.out.c1 7 _ rfl)
          have x8 : w4.cell? ⟨wr.heap.size + 1 + 1, 8, none⟩ = some (.slice none 0 0) := keep_below B4.out _ _ (HB.out.c1 8 _ rfl)
          have x9 : w4.cell? ⟨wr.heap.size + 1 + 1, 9, none⟩ = some (.slice none 0 0) := keep_below B4.out _ _ (HB.out.c1 9 _ rfl)
          have M := HB.out.m1.keep (keep_below B4.out)
          go_wp2_with fail
          refine (count_core (mdTF [([], [])] [(0, [], nest i)]) _ _ _ _ _ _ _ _ _ _ _ _ M.funcs).mono ?_
          rintro e w5 ⟨rfl, b5⟩
          rw [hC]
          have B5 := Lib.hid (B4.out.trans (b5.mono B4.out.size))
          clear b5 B4 M x0 x1 x2 x3 x4 x5 x6 x7 x8 x9
          go_wp2_with fail
          refine (wakes_any _ (hU2.out.below B5.out)).mono ?_
          rintro e w6 ⟨rfl, b6⟩
          have B6 := hB2.out.trans ((B5.out.trans (b6.mono B5.out.size)).mono hB2.out.size)
          clear b6 B5
          go_wp2
          go_ret
          exact ⟨rfl, B6⟩
end Go.Proofs.YtofleejokkdklaaDoor
