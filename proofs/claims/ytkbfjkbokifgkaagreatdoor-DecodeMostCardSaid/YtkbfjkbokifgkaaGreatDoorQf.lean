/- Expr, of the program and of the reference. -/
import Derived.Test.YtkbfjkbokifgkaaGreatDoorQd
import Derived.Test.YtkbfjkbokifgkaaGreatDoorRe
import Derived.Test.YtkbfjkbokifgkaaGreatDoorFc
import Derived.Test.YtkbfjkbokifgkaaGreatDoorVa
import Derived.Test.YtkbfjkbokifgkaaGreatDoorRows
import Derived.ProofKit
import Derived.LaidMore
import Derived.OpenShut
import Derived.MakeChecks
import Derived.LaidLaws
import Derived.Lib.LaidU8T
import Derived.Lay
import Derived.SizedLaws
import Derived.ChangeMaps5
namespace Go.Proofs.YtkbfjkbokifgkaaGreatDoor
open Go.RowKit
set_option linter.unusedVariables false
set_option linter.unusedSimpArgs false

theorem bl_drewN {k : Nat} {w w' : World} (h : Below k w w') (n : Nat) : Below k w (w'.drewN n) := ⟨h.os, h.tape, h.output, h.size, h.block⟩
/-- An expression from a place on. -/
def gExpr (s : List UInt8) (x : Int) : Except Int (Il × Nat) := if 262144 < s.length then .error 2 else if x < 0 ∨ (s.length : Int) < x then .error 1 else (gList s s.length (s.length + 1) 0 false 65536 x.toNat).bind fun q => .ok (q.1.1, q.2)
/-- What Expr tells. -/
def ExprV (s : ByteArray) (x : Int) (e : Ending) (w' : World) : Prop :=
  (∃ il n ao c, gExpr (strl s) x = .ok (il, n) ∧ e = .returned (.tuple #[.slice ao il.len c, .int .i64 ((n : Nat) : Int), .int .i64 0]) ∧ il.len ≤ 9223372036854775807 ∧ IlIn w' ao 0 il) ∨
  (∃ n, n ≠ 0 ∧ gExpr (strl s) x = .error n ∧ e = .returned (.tuple #[.slice none 0 0, .int .i64 0, .int .i64 n]))
theorem gExpr_big {s : ByteArray} {x : Int} (h : 262144 < s.size) : gExpr (strl s) x = .error 2 := by
  unfold gExpr
  rw [if_pos (by rw [strl_length]; omega)]
theorem gExpr_arg {s : ByteArray} {x : Int} (h : ¬ 262144 < s.size) (h2 : x < 0 ∨ (s.size : Int) < x) : gExpr (strl s) x = .error 1 := by
  unfold gExpr
  rw [if_neg (by rw [strl_length]; omega), if_pos (by rw [strl_length]; exact h2)]
theorem gExpr_in {s : ByteArray} {a : Nat} (h : ¬ 262144 < s.size) (h2 : a ≤ s.size) : gExpr (strl s) (a : Int) = (gList (strl s) s.size (s.size + 1) 0 false 65536 a).bind fun q => .ok (q.1.1, q.2) := by
  unfold gExpr
  rw [if_neg (by rw [strl_length]; omega), if_neg (by rw [strl_length]; omega), strl_length, Int.toNat_natCast]
/-- The document's reader of lists, at its start. -/
theorem exprs_start (s : ByteArray) (a : Nat) (ha : a ≤ s.size) :
    (∀ (v : Il × Bool) (l b : Nat), gList (strl s) s.size (s.size + 1) 0 false 65536 a = .ok ((v.1, v.2, l), b) → (rExprs (strl s) (s.size + 1) 0 false ⟨a, s.size, 0, 0⟩).1.1 = v.1 ∧ (rExprs (strl s) (s.size + 1) 0 false ⟨a, s.size, 0, 0⟩).2.w = 0 ∧ (rExprs (strl s) (s.size + 1) 0 false ⟨a, s.size, 0, 0⟩).2.a = b) ∧
    (∀ n, gList (strl s) s.size (s.size + 1) 0 false 65536 a = .error n → n ≠ 0 ∧ (rExprs (strl s) (s.size + 1) 0 false ⟨a, s.size, 0, 0⟩).2.w = n) := by
  have h := (sim_exprs (strl s) (s.size + 1) 0 false ⟨a, s.size, 0, 0⟩).2 rfl (Nat.zero_le _)
  refine ⟨fun v l b hg => ?_, fun n hg => ?_⟩
  · have h1 := h.1 (v.1, (if v.2 = true then 5 else 11)) l b (by show (gList (strl s) s.size (s.size + 1) 0 false 65536 a).bind _ = _; rw [hg]; rfl)
    rw [h1.2]
    exact ⟨rfl, rfl, rfl⟩
  · exact h.2 n (by show (gList (strl s) s.size (s.size + 1) 0 false 65536 a).bind _ = _; rw [hg]; rfl)
end Go.Proofs.YtkbfjkbokifgkaaGreatDoor

namespace Go.Proofs.YtkbfjkbokifgkaaGreatDoor
open Go.RowKit
set_option linter.unusedVariables false
set_option linter.unusedSimpArgs false

set_option maxRecDepth 100000 in
set_option maxHeartbeats 4000000 in
theorem read_arg {w : World} {s : ByteArray} {a : Int} {v : Value} (hs : ¬ 262144 < s.size) (ha : a < 0 ∨ (¬ a < 0 ∧ (s.size : Int) < a)) :
    Calls Tryz.prog 24 #[.string s, .int .i64 a, v] w fun e' w' => e' = .returned (.tuple #[.pointer none, .int .i64 1]) ∧ Below w.heap.size w w' := by
  have hi1 : ¬ (262144 : Int) < (s.size : Int) := by omega
  have hb : Below w.heap.size w ((w.alloc (.cells #[.pointer none] 60)).alloc (.cells #[.int .i64 1] 34)) := ((Below.refl _ _).alloc (Nat.le_refl _) _).alloc (by simp) _
  have c0 : ((w.alloc (.cells #[.pointer none] 60)).alloc (.cells #[.int .i64 1] 34)).cell? ⟨w.heap.size, 0, none⟩ = some (.pointer none) := by
    rw [World.cell?_alloc_past _ _ _ (by simp)]
    exact World.cell?_alloc_at _ _ _ _ rfl
  have c1 : ((w.alloc (.cells #[.pointer none] 60)).alloc (.cells #[.int .i64 1] 34)).cell? ⟨w.heap.size + 1, 0, none⟩ = some (.int .i64 1) := World.cell?_alloc_at _ _ _ _ (by simp)
  replace hb := Lib.hid hb
  replace c0 := Lib.hid c0
  replace c1 := Lib.hid c1
  rcases ha with h1 | ⟨h1, h2⟩
  all_goals
    go_enter Tryz.func24, Tryz.ntmps24
    go_wp2_with fail
    obtain ⟨wz, hwz⟩ : ∃ wz, wz = (w.alloc (.cells #[.pointer none] 60)).alloc (.cells #[.int .i64 1] 34) := ⟨_, rfl⟩
    have hb := hb.out
    have c0 := c0.out
    have c1 := c1.out
    rw [← hwz] at hb c0 c1 ⊢
    simp [bodyPost, results, Tryz.results24, go_sem, c0, c1]
    exact hb
/-- What is left of the reader, where there was an expression. -/
def XJ (w : World) (s : ByteArray) (a : Nat) (w2 : World) : Prop := ∃ il b l' a' ao c, gList (strl s) s.size (s.size + 1) 0 false 65536 a = .ok ((il, b, l'), a') ∧ Below w.heap.size w w2 ∧ RdAt w2 (w.heap.size + 1 + 1 + 1) s ((a' : Nat) : Int) (s.size : Int) ((l' : Nat) : Int) csN ∧ Bk w2 w.heap.size [.slice ao il.len c] 81 ∧ il.len ≤ 9223372036854775807 ∧ SlR (fun b => w.heap.size + 1 + 1 + 1 + 1 ≤ b) w2 ao il
theorem gList_nz {s : ByteArray} {a : Nat} (ha : a ≤ s.size) {n : Int} (h : gList (strl s) s.size (s.size + 1) 0 false 65536 a = .error n) : n ≠ 0 := ((exprs_start s a ha).2 n h).1
end Go.Proofs.YtkbfjkbokifgkaaGreatDoor

namespace Go.Proofs.YtkbfjkbokifgkaaGreatDoor
open Go.ChangeShapes Go.WideShapes Go.ChangeAt Go.RowKit
set_option linter.unusedVariables false

def laidTwo : List (String × DataW Unit) := [("unicode/utf8.acceptRanges", Rows.laid_unicode_utf8_acceptRanges), ("unicode/utf8.first", Rows.laid_unicode_utf8_first)]
theorem first_data : (Rows.laid_unicode_utf8_first : DataW Unit) = Lib.firstData := by kernel_rfl
theorem accept_data : (Rows.laid_unicode_utf8_acceptRanges : DataW Unit) = Lib.acceptData := by kernel_rfl
theorem tab_of_laid {W : World} (h : laidMetH Tryz.prog laidTwo W) : TabU W := by
  rw [MakeChecks.laidMetH_plain _ _ _ (by kernel_rfl)] at h
  have h1 := Lib.laidMet.reads h (List.mem_cons_self ..)
  have h2 := Lib.laidMet.reads h (List.mem_cons_of_mem _ (List.mem_cons_self ..))
  rw [accept_data] at h1
  rw [first_data] at h2
  exact utf8Tabs_of_readsT (U8Types.of196 Tryz.laysValid) ⟨by kernel_rfl, by kernel_rfl, by kernel_rfl, by kernel_rfl, by kernel_rfl, by kernel_rfl, by kernel_rfl⟩ h2 h1
set_option maxRecDepth 100000 in
theorem door_met (os : Os) (args : Array Value) : laidMetH Tryz.prog laidTwo ((World.laidAll Tryz.prog os laidTwo).forCall (fun _ _ => 0) ⟨#[], args, []⟩).memory := by
  rw [MakeChecks.laidMetH_plain _ _ _ (by kernel_rfl)]
  exact laidMet_laidAll _ (by kernel_rfl) (by kernel_rfl)
end Go.Proofs.YtkbfjkbokifgkaaGreatDoor

namespace Go.Proofs.YtkbfjkbokifgkaaGreatDoor
open Go.ChangeShapes Go.WideShapes Go.ChangeAt Go.RowKit Go.ChangeMaps
set_option linter.unusedVariables false
set_option linter.unusedSimpArgs false

end Go.Proofs.YtkbfjkbokifgkaaGreatDoor
