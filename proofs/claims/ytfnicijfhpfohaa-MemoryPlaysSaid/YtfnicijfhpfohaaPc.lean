/- One call of both, whatever it is. -/
import Derived.Test.YtfnicijfhpfohaaPb
import Derived.Deep.QuietTactic
import Derived.BigQuiet
namespace Go.Proofs.Ytfnicijfhpfohaa
open Go.RowKit
set_option linter.unusedVariables false

set_option maxRecDepth 100000 in
set_option maxHeartbeats 400000 in
theorem plays_none (kind : Int) (at_ : Nat) (n : Int) (V : Nat) (s : ByteArray) (w : World) (u v : Value)
    (k0 : kind ≠ 0) (k1 : kind ≠ 1) (k2 : kind ≠ 2) (k3 : kind ≠ 3) (k4 : kind ≠ 4) :
    Calls Try.prog 21 #[u, v, .agg #[.int .i64 kind, .int .u64 at_, .int .i64 n, .int .u64 V, .string s]] w fun e w' => e = .returned (.bool true) ∧ Chg w w' [] := by
  have q0 : (kind == 0) = false := by simp [k0]
  have q1 : (kind == 1) = false := by simp [k1]
  have q2 : (kind == 2) = false := by simp [k2]
  have q3 : (kind == 3) = false := by simp [k3]
  have q4 : (kind == 4) = false := by simp [k4]
  go_enter Try.func21, Try.ntmps21
  go_wp2
  go_ret
  exact ⟨rfl, (Chg.refl w []).alloc _⟩

set_option maxRecDepth 100000 in
set_option maxHeartbeats 400000 in
theorem plays_big (at_ : Nat) (n : Int) (V : Nat) (s : ByteArray) (w : World) (u v : Value) (hs : 2097152 < s.size) :
    Calls Try.prog 21 #[u, v, .agg #[.int .i64 4, .int .u64 at_, .int .i64 n, .int .u64 V, .string s]] w fun e w' => e = .returned (.bool true) ∧ Chg w w' [] := by
  have hg2 : decide ((2097152 : Int) < (s.size : Int)) = true := by simp; omega
  have hc0 : (w.alloc (stepCells 4 at_ n V s)).cell? ⟨w.heap.size, 4, none⟩ = some (.string s) := (World.cell?_alloc_at (w := w) _ _ _ 4 (by simp)).trans rfl
  go_enter Try.func21, Try.ntmps21
  go_wp2_with fail
  go_quiet (fail)
  go_wp2
  go_ret
  exact ⟨rfl, ((Chg.refl w []).alloc _).drewN _⟩

set_option maxRecDepth 100000 in
set_option maxHeartbeats 400000 in
theorem plays_nil0 (at_ : Nat) (n : Int) (V : Nat) (s : ByteArray) (w : World) :
    Calls Try.prog 21 #[.pointer none, .pointer none, .agg #[.int .i64 0, .int .u64 at_, .int .i64 n, .int .u64 V, .string s]] w fun e w' => e = .returned (.bool true) ∧ Chg w w' [] := by
  have HG := fun u => Lib.hid (grow_nil at_ u)
  have HR := fun u => Lib.hid (rgrow_nil at_ u)
  have hc0 : ∀ k, ((w.alloc (stepCells 0 at_ n V s)).drewN k).cell? ⟨w.heap.size, 1, none⟩ = some (.int .u64 (at_ : Int)) := fun k => (World.cell?_alloc_at (w := w) _ _ _ 1 (by simp)).trans rfl
  go_enter Try.func21, Try.ntmps21
  go_wp2_with fail
  go_region_held3 (fun w' => w'.cell? ⟨w.heap.size, 1, none⟩ = some (.int .u64 (at_ : Int)))
    (first | go_keep | exact hc1 | exact hc2)
    (first | (go_at_call 13; refine (HG _).out.mono ?_; rintro e wg ⟨rfl, hg⟩; have hc1 := hg.cell (hc0 1) (by simp)) | (go_at_call 29; refine (HR _).out.mono ?_; rintro e wr ⟨rfl, hr⟩; have hc2 := hr.cell hc1 (by simp)))
  have hend : Chg w wr [] := (((Chg.refl w []).alloc _).drewN 1).trans hg |>.trans hr
  clear hg hr hc1 hc2
  go_wp2
  go_ret
  exact ⟨rfl, hend⟩

set_option maxRecDepth 100000 in
set_option maxHeartbeats 400000 in
theorem plays_nil1 (at_ : Nat) (n : Int) (V : Nat) (s : ByteArray) (w : World) (hat : at_ < 18446744073709551616) (hn1 : -9223372036854775808 ≤ n) (hn : n ≤ 9223372036854775807) :
    Calls Try.prog 21 #[.pointer none, .pointer none, .agg #[.int .i64 1, .int .u64 at_, .int .i64 n, .int .u64 V, .string s]] w fun e w' => e = .returned (.bool true) ∧ Chg w w' [] := by
  have HG := fun u => Lib.hid (load_nil at_ n at_ u rfl hat hn)
  have HR := fun u => Lib.hid (rload_nil at_ n at_ u rfl hat hn1 hn)
  go_enter Try.func21, Try.ntmps21
  go_wp2_with fail
  refine (HG _).out.mono ?_
  rintro e w' ⟨rfl, rfl⟩
  go_wp2_with fail
  refine (HR _).out.mono ?_
  rintro e w' ⟨rfl, rfl⟩
  go_wp2
  go_ret
  exact ⟨rfl, (Chg.refl w []).alloc _⟩

set_option maxRecDepth 100000 in
set_option maxHeartbeats 400000 in
theorem plays_nil2 (at_ : Nat) (n : Int) (V : Nat) (s : ByteArray) (w : World) (hat : at_ < 18446744073709551616) (hn1 : -9223372036854775808 ≤ n) (hn : n ≤ 9223372036854775807) :
    Calls Try.prog 21 #[.pointer none, .pointer none, .agg #[.int .i64 2, .int .u64 at_, .int .i64 n, .int .u64 V, .string s]] w fun e w' => e = .returned (.bool true) ∧ Chg w w' [] := by
  have HG := fun u => Lib.hid (store_nil at_ n V at_ u rfl hat hn)
  have HR := fun u => Lib.hid (rstore_nil at_ n V at_ u rfl hat hn1 hn)
  have hc0 : ∀ k, ((w.alloc (stepCells 2 at_ n V s)).drewN k).cell? ⟨w.heap.size, 1, none⟩ = some (.int .u64 (at_ : Int)) := fun k => (World.cell?_alloc_at (w := w) _ _ _ 1 (by simp)).trans rfl
  have hd0 : ∀ k, ((w.alloc (stepCells 2 at_ n V s)).drewN k).cell? ⟨w.heap.size, 2, none⟩ = some (.int .i64 n) := fun k => (World.cell?_alloc_at (w := w) _ _ _ 2 (by simp)).trans rfl
  have he0 : ∀ k, ((w.alloc (stepCells 2 at_ n V s)).drewN k).cell? ⟨w.heap.size, 3, none⟩ = some (.int .u64 (V : Int)) := fun k => (World.cell?_alloc_at (w := w) _ _ _ 3 (by simp)).trans rfl
  go_enter Try.func21, Try.ntmps21
  go_wp2_with fail
  go_quiet (first | (go_at_call 9; exact quietSame (HG _).out) | (go_at_call 20; exact quietSame (HR _).out))
  go_wp2
  go_ret
  exact ⟨rfl, ((Chg.refl w []).alloc _).drewN _⟩

set_option maxRecDepth 100000 in
set_option maxHeartbeats 400000 in
theorem plays_nil3 (at_ : Nat) (n : Int) (V : Nat) (s : ByteArray) (w : World) (hat : at_ < 18446744073709551616) (hn1 : -9223372036854775808 ≤ n) (hn : n ≤ 9223372036854775807) :
    Calls Try.prog 21 #[.pointer none, .pointer none, .agg #[.int .i64 3, .int .u64 at_, .int .i64 n, .int .u64 V, .string s]] w fun e w' => e = .returned (.bool true) ∧ Chg w w' [] := by
  have hw := wrap64_bd at_
  have HG := fun u => Lib.hid (text_nil (wrap64 at_) n u hw.1 hw.2 hn)
  have HR := fun u => Lib.hid (rtext_nil (wrap64 at_) n u hw.1 hw.2 hn1 hn)
  generalize inT 0 (wrap64 at_) n = Y at *
  generalize textOf [] = X at *
  go_enter Try.func21, Try.ntmps21
  go_wp2_with fail
  refine (HG _).out.mono ?_
  rintro e w' ⟨rfl, rfl⟩
  go_wp2_with fail
  refine (HR _).out.mono ?_
  rintro e w' ⟨rfl, rfl⟩
  go_wp2
  go_ret
  exact ⟨rfl, (Chg.refl w []).alloc _⟩

set_option maxRecDepth 100000 in
set_option maxHeartbeats 400000 in
theorem plays_nil4 (at_ : Nat) (n : Int) (V : Nat) (s : ByteArray) (w : World) (hs : s.size ≤ 2097152) :
    Calls Try.prog 21 #[.pointer none, .pointer none, .agg #[.int .i64 4, .int .u64 at_, .int .i64 n, .int .u64 V, .string s]] w fun e w' => e = .returned (.bool true) ∧ Chg w w' [] := by
  have hw : -9223372036854775808 ≤ IntKind.i64.wrap (at_ : Int) ∧ IntKind.i64.wrap (at_ : Int) ≤ 9223372036854775807 := by rw [IntKind.wrap_i64]; omega
  have HG := fun u => Lib.hid (fill_nil (IntKind.i64.wrap (at_ : Int)) s u hw.1 hw.2 (by omega))
  have HR := fun u => Lib.hid (rfill_nil (IntKind.i64.wrap (at_ : Int)) s u hw.1 hw.2 (by omega))
  have hg2 : decide ((2097152 : Int) < (s.size : Int)) = false := by simp; omega
  have hc0 : ∀ k, ((w.alloc (stepCells 4 at_ n V s)).drewN k).cell? ⟨w.heap.size, 1, none⟩ = some (.int .u64 (at_ : Int)) := fun k => (World.cell?_alloc_at (w := w) _ _ _ 1 (by simp)).trans rfl
  have hd0 : ∀ k, ((w.alloc (stepCells 4 at_ n V s)).drewN k).cell? ⟨w.heap.size, 4, none⟩ = some (.string s) := fun k => (World.cell?_alloc_at (w := w) _ _ _ 4 (by simp)).trans rfl
  clear hw
  generalize inT 0 (IntKind.i64.wrap (at_ : Int)) s.size = Y at *
  go_enter Try.func21, Try.ntmps21
  go_wp2_with fail
  go_region_held3 (fun w' => w'.cell? ⟨w.heap.size, 1, none⟩ = some (.int .u64 (at_ : Int)) ∧ w'.cell? ⟨w.heap.size, 4, none⟩ = some (.string s))
    (first | go_keep | exact hc1)
    (first | (go_at_call 31; refine (HG _).out.mono ?_; rintro e w' ⟨rfl, rfl⟩) | (go_at_call 32; refine (HR _).out.mono ?_; rintro e w' ⟨rfl, rfl⟩))
  go_wp2
  go_ret
  exact ⟨rfl, ((Chg.refl w []).alloc _).drewN _⟩
end Go.Proofs.Ytfnicijfhpfohaa
