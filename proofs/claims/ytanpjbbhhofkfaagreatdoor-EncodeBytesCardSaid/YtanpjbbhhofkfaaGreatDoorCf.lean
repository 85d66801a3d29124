/- Cf -/
import Derived.Test.YtanpjbbhhofkfaaGreatDoorCa
namespace Go.Proofs.YtanpjbbhhofkfaaGreatDoor
open Go.RowKit
set_option linter.unusedVariables false
set_option linter.unusedSimpArgs false
set_option maxRecDepth 100000
set_option maxHeartbeats 4000000
def copyOps : Array Oper := #[⟨some 10, .buildSlice 23 0 #[], 23, "ref.go:373", #[], none⟩, ⟨some 11, .fieldAddr 32 (.tmp 1) 1, 0, "ref.go:373", #[], none⟩, ⟨some 12, .load 23 (.tmp 11), 23, "ref.go:373", #[⟨1, .data⟩], none⟩, ⟨some 13, .call ⟨.builtin .append, #[.tmp 10, .tmp 12], #[23, 23]⟩, 23, "ref.go:373", #[⟨0, .data⟩, ⟨2, .data⟩], none⟩, ⟨some 14, .buildSlice 25 0 #[], 25, "ref.go:373", #[], none⟩, ⟨some 15, .fieldAddr 32 (.tmp 1) 3, 0, "ref.go:373", #[], none⟩, ⟨some 16, .load 25 (.tmp 15), 25, "ref.go:373", #[⟨5, .data⟩], none⟩, ⟨some 17, .call ⟨.builtin .append, #[.tmp 14, .tmp 16], #[25, 25]⟩, 25, "ref.go:373", #[⟨4, .data⟩, ⟨6, .data⟩, ⟨3, .chain⟩], none⟩, ⟨some 18, .buildSlice 25 0 #[], 25, "ref.go:373", #[], none⟩, ⟨some 19, .fieldAddr 32 (.tmp 1) 4, 0, "ref.go:373", #[], none⟩, ⟨some 20, .load 25 (.tmp 19), 25, "ref.go:373", #[⟨9, .data⟩], none⟩, ⟨some 21, .call ⟨.builtin .append, #[.tmp 18, .tmp 20], #[25, 25]⟩, 25, "ref.go:373", #[⟨8, .data⟩, ⟨10, .data⟩, ⟨7, .chain⟩], none⟩, ⟨some 22, .buildSlice 27 0 #[], 27, "ref.go:373", #[], none⟩, ⟨some 23, .fieldAddr 32 (.tmp 1) 6, 0, "ref.go:373", #[], none⟩, ⟨some 24, .load 27 (.tmp 23), 27, "ref.go:373", #[⟨13, .data⟩], none⟩, ⟨some 25, .call ⟨.builtin .append, #[.tmp 22, .tmp 24], #[27, 27]⟩, 27, "ref.go:373", #[⟨12, .data⟩, ⟨14, .data⟩, ⟨11, .chain⟩], none⟩, ⟨some 26, .buildSlice 28 0 #[], 28, "ref.go:373", #[], none⟩, ⟨some 27, .fieldAddr 32 (.tmp 1) 7, 0, "ref.go:373", #[], none⟩, ⟨some 28, .load 28 (.tmp 27), 28, "ref.go:373", #[⟨17, .data⟩], none⟩, ⟨some 29, .call ⟨.builtin .append, #[.tmp 26, .tmp 28], #[28, 28]⟩, 28, "ref.go:373", #[⟨16, .data⟩, ⟨18, .data⟩, ⟨15, .chain⟩], none⟩, ⟨some 30, .build 32 #[(1, .tmp 13), (3, .tmp 17), (4, .tmp 21), (6, .tmp 25), (7, .tmp 29)], 32, "ref.go:373", #[⟨3, .data⟩, ⟨7, .data⟩, ⟨11, .data⟩, ⟨15, .data⟩, ⟨19, .data⟩], none⟩, ⟨some 3, .alloc 32, 0, "ref.go:373", #[], none⟩, ⟨none, .store 32 (.tmp 3) (.tmp 30), 0, "ref.go:373", #[⟨21, .data⟩, ⟨20, .data⟩, ⟨19, .chain⟩, ⟨0, .phase⟩, ⟨1, .phase⟩, ⟨2, .phase⟩, ⟨3, .phase⟩, ⟨4, .phase⟩, ⟨5, .phase⟩, ⟨6, .phase⟩, ⟨7, .phase⟩, ⟨8, .phase⟩, ⟨9, .phase⟩, ⟨10, .phase⟩, ⟨11, .phase⟩, ⟨12, .phase⟩, ⟨13, .phase⟩, ⟨14, .phase⟩, ⟨15, .phase⟩, ⟨16, .phase⟩, ⟨17, .phase⟩, ⟨18, .phase⟩, ⟨19, .phase⟩, ⟨20, .phase⟩, ⟨21, .phase⟩], none⟩]
def dstC : Nat → Nat
 | 21 => 3
 | i => i + 10
theorem dst_inj : ∀ i j : Fin 22, dstC i.val = dstC j.val → i = j := by decide +kernel
def RC (m : Md) (a1 : Option Addr) (k1 : Nat) (a3 : Option Addr) (k3 : Nat) (a4 : Option Addr) (k4 : Nat) (a6 : Option Addr) (k6 : Nat) (a7 : Option Addr) (k7 : Nat) (B H : Nat) (i : Nat) (v : Value) (w : World) : Prop :=
 match i with
 | 0 => ∃ h, v = .slice (some ⟨h, 0, none⟩) 0 0 ∧ B ≤ h
 | 1 => v = .pointer (some ⟨H, 1, none⟩)
 | 2 => v = .slice a1 m.imports.length k1
 | 3 => NewRow B w m.imports.length (m.imports.flatMap impC) v
 | 4 => ∃ h, v = .slice (some ⟨h, 0, none⟩) 0 0 ∧ B ≤ h
 | 5 => v = .pointer (some ⟨H, 3, none⟩)
 | 6 => v = .slice a3 m.tables.length k3
 | 7 => NewRow B w m.tables.length (m.tables.flatMap limC) v
 | 8 => ∃ h, v = .slice (some ⟨h, 0, none⟩) 0 0 ∧ B ≤ h
 | 9 => v = .pointer (some ⟨H, 4, none⟩)
 | 10 => v = .slice a4 m.mems.length k4
 | 11 => NewRow B w m.mems.length (m.mems.flatMap limC) v
 | 12 => ∃ h, v = .slice (some ⟨h, 0, none⟩) 0 0 ∧ B ≤ h
 | 13 => v = .pointer (some ⟨H, 6, none⟩)
 | 14 => v = .slice a6 m.exports.length k6
 | 15 => NewRow B w m.exports.length (m.exports.flatMap expC) v
 | 16 => ∃ h, v = .slice (some ⟨h, 0, none⟩) 0 0 ∧ B ≤ h
 | 17 => v = .pointer (some ⟨H, 7, none⟩)
 | 18 => v = .slice a7 m.start.length k7
 | 19 => NewRow B w m.start.length (intCells m.start) v
 | 20 => ∃ x1 x3 x4 x6 x7, v = .agg #[.slice none 0 0, x1, .slice none 0 0, x3, x4, .slice none 0 0, x6, x7, .slice none 0 0, .slice none 0 0] ∧ NewRow B w m.imports.length (m.imports.flatMap impC) x1 ∧ NewRow B w m.tables.length (m.tables.flatMap limC) x3 ∧
  NewRow B w m.mems.length (m.mems.flatMap limC) x4 ∧ NewRow B w m.exports.length (m.exports.flatMap expC) x6 ∧ NewRow B w m.start.length (intCells m.start) x7
 | _ => ∃ M, v = .pointer (some ⟨M, 0, none⟩) ∧ B ≤ M ∧ M < w.heap.size ∧ (∀ j, j < 10 → w.cell? ⟨M, j, none⟩ = some (.slice none 0 0)) ∧ ∀ j, w.frozen? ⟨M, j, none⟩ = false
theorem RC.mono {m : Md} {a1 : Option Addr} {k1 : Nat} {a3 : Option Addr} {k3 : Nat} {a4 : Option Addr} {k4 : Nat} {a6 : Option Addr} {k6 : Nat} {a7 : Option Addr} {k7 : Nat} {B H : Nat} {i : Nat} {v : Value} {w w' : World} (hb : Below w.heap.size w w') (h : RC m a1 k1 a3 k3 a4 k4 a6 k6 a7 k7 B H i v w) : RC m a1 k1 a3 k3 a4 k4 a6 k6 a7 k7 B H i v w' := by
 have f := keep_below hb; unfold RC at *
 split at h; all_goals try exact h
 · exact h.mono f
 · exact h.mono f
 · exact h.mono f
 · exact h.mono f
 · exact h.mono f
 · obtain ⟨x1, x3, x4, x6, x7, e, h1, h3, h4, h6, h7⟩ := h; exact ⟨x1, x3, x4, x6, x7, e, h1.mono f, h3.mono f, h4.mono f, h6.mono f, h7.mono f⟩
 · obtain ⟨M, e, h1, h2, h3, h4⟩ := h; exact ⟨M, e, h1, Nat.lt_of_lt_of_le h2 hb.size, fun j hj => f _ _ (h3 j hj), fun j => (hb.frozen (p := ⟨M, j, none⟩) h2).trans (h4 j)⟩
structure CJ (m : Md) (a1 : Option Addr) (k1 : Nat) (a3 : Option Addr) (k3 : Nat) (a4 : Option Addr) (k4 : Nat) (a6 : Option Addr) (k6 : Nat) (a7 : Option Addr) (k7 : Nat) (B H : Nat) (w1 : World) (listed : Array Bool) (f : Nat → Value) (w : World) : Prop where
 below : Below B w1 w
 size : B ≤ w.heap.size
 r : ∀ i, i < 22 → listed.getD i false = true → RC m a1 k1 a3 k3 a4 k4 a6 k6 a7 k7 B H i (f (dstC i)) w
theorem CJ.next {m : Md} {a1 : Option Addr} {k1 : Nat} {a3 : Option Addr} {k3 : Nat} {a4 : Option Addr} {k4 : Nat} {a6 : Option Addr} {k6 : Nat} {a7 : Option Addr} {k7 : Nat} {B H : Nat} {w1 : World} {listed : Array Bool} {f : Nat → Value} {w w' : World} {i : Nat} {v : Value} (h : CJ m a1 k1 a3 k3 a4 k4 a6 k6 a7 k7 B H w1 listed f w) (hi : i < 22) (hb : Below w.heap.size w w') (hv : RC m a1 k1 a3 k3 a4 k4 a6 k6 a7 k7 B H i v w') :
 CJ m a1 k1 a3 k3 a4 k4 a6 k6 a7 k7 B H w1 (listed.setIfInBounds i true) (upd f (dstC i) v) w' := by
 refine ⟨h.below.trans (hb.mono h.size), Nat.le_trans h.size hb.size, fun j hj hl => ?_⟩
 by_cases hij : i = j
 · subst hij; have e : upd f (dstC i) v (dstC i) = v := if_pos rfl; rw [e]; exact hv
 · have hne : dstC j ≠ dstC i := fun e => hij (by have := dst_inj ⟨j, hj⟩ ⟨i, hi⟩ e; exact (Fin.mk.inj this).symm); have e : upd f (dstC i) v (dstC j) = f (dstC j) := if_neg hne; rw [e]; exact (h.r j hj (getD_set_ne2 hij hl)).mono hb
structure CH (m : Md) (a1 : Option Addr) (k1 : Nat) (a3 : Option Addr) (k3 : Nat) (a4 : Option Addr) (k4 : Nat) (a6 : Option Addr) (k6 : Nat) (a7 : Option Addr) (k7 : Nat) (B H : Nat) (w1 : World) : Prop where
 size : w1.heap.size = B
 c1 : w1.cell? ⟨H, 1, none⟩ = some (.slice a1 m.imports.length k1)
 c3 : w1.cell? ⟨H, 3, none⟩ = some (.slice a3 m.tables.length k3)
 c4 : w1.cell? ⟨H, 4, none⟩ = some (.slice a4 m.mems.length k4)
 c6 : w1.cell? ⟨H, 6, none⟩ = some (.slice a6 m.exports.length k6)
 c7 : w1.cell? ⟨H, 7, none⟩ = some (.slice a7 m.start.length k7)
 r1 : RowsIn ImportAt 3 w1 a1 m.imports
 r3 : RowsIn LimitsAt 3 w1 a3 m.tables
 r4 : RowsIn LimitsAt 3 w1 a4 m.mems
 r6 : RowsIn ExportAt 3 w1 a6 m.exports
 r7 : IntsIn w1 a7 m.start
 n1 : m.imports.length ≤ 5000
 n3 : m.tables.length ≤ 5000
 n4 : m.mems.length ≤ 5000
 n6 : m.exports.length ≤ 5000
 n7 : m.start.length ≤ 5000
theorem CJ.keeps {m : Md} {a1 : Option Addr} {k1 : Nat} {a3 : Option Addr} {k3 : Nat} {a4 : Option Addr} {k4 : Nat} {a6 : Option Addr} {k6 : Nat} {a7 : Option Addr} {k7 : Nat} {B H : Nat} {w1 : World} {listed : Array Bool} {f : Nat → Value} {w : World} (h : CJ m a1 k1 a3 k3 a4 k4 a6 k6 a7 k7 B H w1 listed f w) (hh : CH m a1 k1 a3 k3 a4 k4 a6 k6 a7 k7 B H w1) : Keeps w1 w := keep_below (by rw [hh.size]; exact h.below)
theorem frt_1 (A B C : Value) (f : Nat → Value) : (fr A B C f).tmps[1]?.getD undef = B := rfl
theorem frt_3 (A B C : Value) (f : Nat → Value) : (fr A B C f).tmps[3]?.getD undef = f 3 := rfl
theorem frt_10 (A B C : Value) (f : Nat → Value) : (fr A B C f).tmps[10]?.getD undef = f 10 := rfl
theorem frt_11 (A B C : Value) (f : Nat → Value) : (fr A B C f).tmps[11]?.getD undef = f 11 := rfl
theorem frt_12 (A B C : Value) (f : Nat → Value) : (fr A B C f).tmps[12]?.getD undef = f 12 := rfl
theorem frt_13 (A B C : Value) (f : Nat → Value) : (fr A B C f).tmps[13]?.getD undef = f 13 := rfl
theorem frt_14 (A B C : Value) (f : Nat → Value) : (fr A B C f).tmps[14]?.getD undef = f 14 := rfl
theorem frt_15 (A B C : Value) (f : Nat → Value) : (fr A B C f).tmps[15]?.getD undef = f 15 := rfl
theorem frt_16 (A B C : Value) (f : Nat → Value) : (fr A B C f).tmps[16]?.getD undef = f 16 := rfl
theorem frt_17 (A B C : Value) (f : Nat → Value) : (fr A B C f).tmps[17]?.getD undef = f 17 := rfl
theorem frt_18 (A B C : Value) (f : Nat → Value) : (fr A B C f).tmps[18]?.getD undef = f 18 := rfl
theorem frt_19 (A B C : Value) (f : Nat → Value) : (fr A B C f).tmps[19]?.getD undef = f 19 := rfl
theorem frt_20 (A B C : Value) (f : Nat → Value) : (fr A B C f).tmps[20]?.getD undef = f 20 := rfl
theorem frt_21 (A B C : Value) (f : Nat → Value) : (fr A B C f).tmps[21]?.getD undef = f 21 := rfl
theorem frt_22 (A B C : Value) (f : Nat → Value) : (fr A B C f).tmps[22]?.getD undef = f 22 := rfl
theorem frt_23 (A B C : Value) (f : Nat → Value) : (fr A B C f).tmps[23]?.getD undef = f 23 := rfl
theorem frt_24 (A B C : Value) (f : Nat → Value) : (fr A B C f).tmps[24]?.getD undef = f 24 := rfl
theorem frt_25 (A B C : Value) (f : Nat → Value) : (fr A B C f).tmps[25]?.getD undef = f 25 := rfl
theorem frt_26 (A B C : Value) (f : Nat → Value) : (fr A B C f).tmps[26]?.getD undef = f 26 := rfl
theorem frt_27 (A B C : Value) (f : Nat → Value) : (fr A B C f).tmps[27]?.getD undef = f 27 := rfl
theorem frt_28 (A B C : Value) (f : Nat → Value) : (fr A B C f).tmps[28]?.getD undef = f 28 := rfl
theorem frt_29 (A B C : Value) (f : Nat → Value) : (fr A B C f).tmps[29]?.getD undef = f 29 := rfl
theorem frt_30 (A B C : Value) (f : Nat → Value) : (fr A B C f).tmps[30]?.getD undef = f 30 := rfl
theorem cstep_0 {m : Md} {a1 : Option Addr} {k1 : Nat} {a3 : Option Addr} {k3 : Nat} {a4 : Option Addr} {k4 : Nat} {a6 : Option Addr} {k6 : Nat} {a7 : Option Addr} {k7 : Nat} {B H : Nat} {w1 : World} {Q : Exit → Act → World → Prop} {A C : Value} {listed : Array Bool} {f : Nat → Value} {w : World} (hh : CH m a1 k1 a3 k3 a4 k4 a6 k6 a7 k7 B H w1) (h : CJ m a1 k1 a3 k3 a4 k4 a6 k6 a7 k7 B H w1 listed f w) :
 wpOp Tryz.prog copyOps Q 0 (fun a' w' => ∃ f', a' = fr A (.pointer (some ⟨H, 0, none⟩)) C f' ∧ CJ m a1 k1 a3 k3 a4 k4 a6 k6 a7 k7 B H w1 (listed.setIfInBounds 0 true) f' w') (fr A (.pointer (some ⟨H, 0, none⟩)) C f) w := by
 refine wpS (o := ⟨some 10, .buildSlice 23 0 #[], 23, _, _, none⟩) rfl rfl fun K' hK' => ?_; go_simp; exact hK' _ _ ⟨upd f 10 _, rfl, h.next (i := 0) (by decide) ((Below.refl _ _).alloc (Nat.le_refl _) _) ⟨_, rfl, h.size⟩⟩
theorem cstep_1 {m : Md} {a1 : Option Addr} {k1 : Nat} {a3 : Option Addr} {k3 : Nat} {a4 : Option Addr} {k4 : Nat} {a6 : Option Addr} {k6 : Nat} {a7 : Option Addr} {k7 : Nat} {B H : Nat} {w1 : World} {Q : Exit → Act → World → Prop} {A C : Value} {listed : Array Bool} {f : Nat → Value} {w : World} (hh : CH m a1 k1 a3 k3 a4 k4 a6 k6 a7 k7 B H w1) (h : CJ m a1 k1 a3 k3 a4 k4 a6 k6 a7 k7 B H w1 listed f w) :
 wpOp Tryz.prog copyOps Q 1 (fun a' w' => ∃ f', a' = fr A (.pointer (some ⟨H, 0, none⟩)) C f' ∧ CJ m a1 k1 a3 k3 a4 k4 a6 k6 a7 k7 B H w1 (listed.setIfInBounds 1 true) f' w') (fr A (.pointer (some ⟨H, 0, none⟩)) C f) w := by
 refine wpS (o := ⟨some 11, .fieldAddr 32 (.tmp 1) 1, 0, _, _, none⟩) rfl rfl fun K' hK' => ?_; go_simp; simp only [frt_1, frt_3, frt_10, frt_11, frt_12, frt_13, frt_14, frt_15, frt_16, frt_17, frt_18, frt_19, frt_20, frt_21, frt_22, frt_23, frt_24, frt_25, frt_26, frt_27, frt_28, frt_29, frt_30]; go_simp; exact hK' _ _ ⟨upd f 11 _, rfl, h.next (i := 1) (by decide) (Below.refl _ _) rfl⟩
theorem cstep_2 {m : Md} {a1 : Option Addr} {k1 : Nat} {a3 : Option Addr} {k3 : Nat} {a4 : Option Addr} {k4 : Nat} {a6 : Option Addr} {k6 : Nat} {a7 : Option Addr} {k7 : Nat} {B H : Nat} {w1 : World} {Q : Exit → Act → World → Prop} {A C : Value} {listed : Array Bool} {f : Nat → Value} {w : World} (hh : CH m a1 k1 a3 k3 a4 k4 a6 k6 a7 k7 B H w1) (h : CJ m a1 k1 a3 k3 a4 k4 a6 k6 a7 k7 B H w1 listed f w) (l1 : listed.getD 1 false = true) :
 wpOp Tryz.prog copyOps Q 2 (fun a' w' => ∃ f', a' = fr A (.pointer (some ⟨H, 0, none⟩)) C f' ∧ CJ m a1 k1 a3 k3 a4 k4 a6 k6 a7 k7 B H w1 (listed.setIfInBounds 2 true) f' w') (fr A (.pointer (some ⟨H, 0, none⟩)) C f) w := by
 refine wpOp_step (o := ⟨some 12, .load 23 (.tmp 11), 23, _, _, none⟩) rfl ?_; intro K' hK'; have e : f 11 = .pointer (some ⟨H, 1, none⟩) := h.r 1 (by decide) l1; have hc := h.keeps hh _ _ hh.c1; rw [if_pos (by rfl)]; go_simp; simp only [frt_1, frt_3, frt_10, frt_11, frt_12, frt_13, frt_14, frt_15, frt_16, frt_17, frt_18, frt_19, frt_20, frt_21, frt_22, frt_23, frt_24, frt_25, frt_26, frt_27, frt_28, frt_29, frt_30, e]; go_simp; exact hK' _ _ ⟨upd f 12 _, rfl, h.next (i := 2) (by decide) (Below.refl _ _) rfl⟩
theorem cstep_3 {m : Md} {a1 : Option Addr} {k1 : Nat} {a3 : Option Addr} {k3 : Nat} {a4 : Option Addr} {k4 : Nat} {a6 : Option Addr} {k6 : Nat} {a7 : Option Addr} {k7 : Nat} {B H : Nat} {w1 : World} {Q : Exit → Act → World → Prop} {A C : Value} {listed : Array Bool} {f : Nat → Value} {w : World} (hh : CH m a1 k1 a3 k3 a4 k4 a6 k6 a7 k7 B H w1) (h : CJ m a1 k1 a3 k3 a4 k4 a6 k6 a7 k7 B H w1 listed f w) (l0 : listed.getD 0 false = true) (l2 : listed.getD 2 false = true) :
 wpOp Tryz.prog copyOps Q 3 (fun a' w' => ∃ f', a' = fr A (.pointer (some ⟨H, 0, none⟩)) C f' ∧ CJ m a1 k1 a3 k3 a4 k4 a6 k6 a7 k7 B H w1 (listed.setIfInBounds 3 true) f' w') (fr A (.pointer (some ⟨H, 0, none⟩)) C f) w := by
 refine wpOp_step (o := ⟨some 13, .call ⟨.builtin .append, #[.tmp 10, .tmp 12], #[23, 23]⟩, 23, _, _, none⟩) rfl ?_; intro K' hK'; obtain ⟨h0, e0, hbb⟩ := h.r 0 (by decide) l0; have e2 : f 12 = .slice a1 m.imports.length k1 := h.r 2 (by decide) l2; have hr := hh.r1.keep fun _ _ _ => .keep (h.keeps hh); obtain ⟨i, hi, he⟩ := Option.map_eq_some_iff.1 info73; obtain ⟨hz, hsz, hby⟩ := Prod.mk.inj he |>.imp id Prod.mk.inj
 refine step_app_fresh _ rfl _ _ _ rfl 76 i _ 3 40 Tryz.underlying23 hi hz hsz hby h0 _ m.imports.length (m.imports.flatMap impC) (by exact e0) (by exact e2) (rows_src Tryz.underlying23 (fun _ => rfl) impC_one imp_cells hr) hr.1 (by have := hh.n1; omega) ?_; intro v w' hn hb; exact hK' _ _ ⟨upd f 13 _, rfl, h.next (i := 3) (by decide) hb (hn.le (Nat.le_min.2 ⟨hbb, h.size⟩))⟩
theorem cstep_4 {m : Md} {a1 : Option Addr} {k1 : Nat} {a3 : Option Addr} {k3 : Nat} {a4 : Option Addr} {k4 : Nat} {a6 : Option Addr} {k6 : Nat} {a7 : Option Addr} {k7 : Nat} {B H : Nat} {w1 : World} {Q : Exit → Act → World → Prop} {A C : Value} {listed : Array Bool} {f : Nat → Value} {w : World} (hh : CH m a1 k1 a3 k3 a4 k4 a6 k6 a7 k7 B H w1) (h : CJ m a1 k1 a3 k3 a4 k4 a6 k6 a7 k7 B H w1 listed f w) :
 wpOp Tryz.prog copyOps Q 4 (fun a' w' => ∃ f', a' = fr A (.pointer (some ⟨H, 0, none⟩)) C f' ∧ CJ m a1 k1 a3 k3 a4 k4 a6 k6 a7 k7 B H w1 (listed.setIfInBounds 4 true) f' w') (fr A (.pointer (some ⟨H, 0, none⟩)) C f) w := by
 refine wpS (o := ⟨some 14, .buildSlice 25 0 #[], 25, _, _, none⟩) rfl rfl fun K' hK' => ?_; go_simp; exact hK' _ _ ⟨upd f 14 _, rfl, h.next (i := 4) (by decide) ((Below.refl _ _).alloc (Nat.le_refl _) _) ⟨_, rfl, h.size⟩⟩
theorem cstep_5 {m : Md} {a1 : Option Addr} {k1 : Nat} {a3 : Option Addr} {k3 : Nat} {a4 : Option Addr} {k4 : Nat} {a6 : Option Addr} {k6 : Nat} {a7 : Option Addr} {k7 : Nat} {B H : Nat} {w1 : World} {Q : Exit → Act → World → Prop} {A C : Value} {listed : Array Bool} {f : Nat → Value} {w : World} (hh : CH m a1 k1 a3 k3 a4 k4 a6 k6 a7 k7 B H w1) (h : CJ m a1 k1 a3 k3 a4 k4 a6 k6 a7 k7 B H w1 listed f w) :
 wpOp Tryz.prog copyOps Q 5 (fun a' w' => ∃ f', a' = fr A (.pointer (some ⟨H, 0, none⟩)) C f' ∧ CJ m a1 k1 a3 k3 a4 k4 a6 k6 a7 k7 B H w1 (listed.setIfInBounds 5 true) f' w') (fr A (.pointer (some ⟨H, 0, none⟩)) C f) w := by
 refine wpS (o := ⟨some 15, .fieldAddr 32 (.tmp 1) 3, 0, _, _, none⟩) rfl rfl fun K' hK' => ?_; go_simp; simp only [frt_1, frt_3, frt_10, frt_11, frt_12, frt_13, frt_14, frt_15, frt_16, frt_17, frt_18, frt_19, frt_20, frt_21, frt_22, frt_23, frt_24, frt_25, frt_26, frt_27, frt_28, frt_29, frt_30]; go_simp; exact hK' _ _ ⟨upd f 15 _, rfl, h.next (i := 5) (by decide) (Below.refl _ _) rfl⟩
theorem cstep_6 {m : Md} {a1 : Option Addr} {k1 : Nat} {a3 : Option Addr} {k3 : Nat} {a4 : Option Addr} {k4 : Nat} {a6 : Option Addr} {k6 : Nat} {a7 : Option Addr} {k7 : Nat} {B H : Nat} {w1 : World} {Q : Exit → Act → World → Prop} {A C : Value} {listed : Array Bool} {f : Nat → Value} {w : World} (hh : CH m a1 k1 a3 k3 a4 k4 a6 k6 a7 k7 B H w1) (h : CJ m a1 k1 a3 k3 a4 k4 a6 k6 a7 k7 B H w1 listed f w) (l5 : listed.getD 5 false = true) :
 wpOp Tryz.prog copyOps Q 6 (fun a' w' => ∃ f', a' = fr A (.pointer (some ⟨H, 0, none⟩)) C f' ∧ CJ m a1 k1 a3 k3 a4 k4 a6 k6 a7 k7 B H w1 (listed.setIfInBounds 6 true) f' w') (fr A (.pointer (some ⟨H, 0, none⟩)) C f) w := by
 refine wpOp_step (o := ⟨some 16, .load 25 (.tmp 15), 25, _, _, none⟩) rfl ?_; intro K' hK'; have e : f 15 = .pointer (some ⟨H, 3, none⟩) := h.r 5 (by decide) l5; have hc := h.keeps hh _ _ hh.c3; rw [if_pos (by rfl)]; go_simp; simp only [frt_1, frt_3, frt_10, frt_11, frt_12, frt_13, frt_14, frt_15, frt_16, frt_17, frt_18, frt_19, frt_20, frt_21, frt_22, frt_23, frt_24, frt_25, frt_26, frt_27, frt_28, frt_29, frt_30, e]; go_simp; exact hK' _ _ ⟨upd f 16 _, rfl, h.next (i := 6) (by decide) (Below.refl _ _) rfl⟩
theorem cstep_7 {m : Md} {a1 : Option Addr} {k1 : Nat} {a3 : Option Addr} {k3 : Nat} {a4 : Option Addr} {k4 : Nat} {a6 : Option Addr} {k6 : Nat} {a7 : Option Addr} {k7 : Nat} {B H : Nat} {w1 : World} {Q : Exit → Act → World → Prop} {A C : Value} {listed : Array Bool} {f : Nat → Value} {w : World} (hh : CH m a1 k1 a3 k3 a4 k4 a6 k6 a7 k7 B H w1) (h : CJ m a1 k1 a3 k3 a4 k4 a6 k6 a7 k7 B H w1 listed f w) (l4 : listed.getD 4 false = true) (l6 : listed.getD 6 false = true) :
 wpOp Tryz.prog copyOps Q 7 (fun a' w' => ∃ f', a' = fr A (.pointer (some ⟨H, 0, none⟩)) C f' ∧ CJ m a1 k1 a3 k3 a4 k4 a6 k6 a7 k7 B H w1 (listed.setIfInBounds 7 true) f' w') (fr A (.pointer (some ⟨H, 0, none⟩)) C f) w := by
 refine wpOp_step (o := ⟨some 17, .call ⟨.builtin .append, #[.tmp 14, .tmp 16], #[25, 25]⟩, 25, _, _, none⟩) rfl ?_; intro K' hK'; obtain ⟨h0, e0, hbb⟩ := h.r 4 (by decide) l4; have e2 : f 16 = .slice a3 m.tables.length k3 := h.r 6 (by decide) l6; have hr := hh.r3.keep fun _ _ _ => .keep (h.keeps hh); obtain ⟨i, hi, he⟩ := Option.map_eq_some_iff.1 info76; obtain ⟨hz, hsz, hby⟩ := Prod.mk.inj he |>.imp id Prod.mk.inj
 refine step_app_fresh _ rfl _ _ _ rfl 43 i _ 3 24 Tryz.underlying25 hi hz hsz hby h0 _ m.tables.length (m.tables.flatMap limC) (by exact e0) (by exact e2) (rows_src Tryz.underlying25 (fun _ => rfl) limC_one lim_cells hr) hr.1 (by have := hh.n3; omega) ?_; intro v w' hn hb; exact hK' _ _ ⟨upd f 17 _, rfl, h.next (i := 7) (by decide) hb (hn.le (Nat.le_min.2 ⟨hbb, h.size⟩))⟩
theorem cstep_8 {m : Md} {a1 : Option Addr} {k1 : Nat} {a3 : Option Addr} {k3 : Nat} {a4 : Option Addr} {k4 : Nat} {a6 : Option Addr} {k6 : Nat} {a7 : Option Addr} {k7 : Nat} {B H : Nat} {w1 : World} {Q : Exit → Act → World → Prop} {A C : Value} {listed : Array Bool} {f : Nat → Value} {w : World} (hh : CH m a1 k1 a3 k3 a4 k4 a6 k6 a7 k7 B H w1) (h : CJ m a1 k1 a3 k3 a4 k4 a6 k6 a7 k7 B H w1 listed f w) :
 wpOp Tryz.prog copyOps Q 8 (fun a' w' => ∃ f', a' = fr A (.pointer (some ⟨H, 0, none⟩)) C f' ∧ CJ m a1 k1 a3 k3 a4 k4 a6 k6 a7 k7 B H w1 (listed.setIfInBounds 8 true) f' w') (fr A (.pointer (some ⟨H, 0, none⟩)) C f) w := by
 refine wpS (o := ⟨some 18, .buildSlice 25 0 #[], 25, _, _, none⟩) rfl rfl fun K' hK' => ?_; go_simp; exact hK' _ _ ⟨upd f 18 _, rfl, h.next (i := 8) (by decide) ((Below.refl _ _).alloc (Nat.le_refl _) _) ⟨_, rfl, h.size⟩⟩
theorem cstep_9 {m : Md} {a1 : Option Addr} {k1 : Nat} {a3 : Option Addr} {k3 : Nat} {a4 : Option Addr} {k4 : Nat} {a6 : Option Addr} {k6 : Nat} {a7 : Option Addr} {k7 : Nat} {B H : Nat} {w1 : World} {Q : Exit → Act → World → Prop} {A C : Value} {listed : Array Bool} {f : Nat → Value} {w : World} (hh : CH m a1 k1 a3 k3 a4 k4 a6 k6 a7 k7 B H w1) (h : CJ m a1 k1 a3 k3 a4 k4 a6 k6 a7 k7 B H w1 listed f w) :
 wpOp Tryz.prog copyOps Q 9 (fun a' w' => ∃ f', a' = fr A (.pointer (some ⟨H, 0, none⟩)) C f' ∧ CJ m a1 k1 a3 k3 a4 k4 a6 k6 a7 k7 B H w1 (listed.setIfInBounds 9 true) f' w') (fr A (.pointer (some ⟨H, 0, none⟩)) C f) w := by
 refine wpS (o := ⟨some 19, .fieldAddr 32 (.tmp 1) 4, 0, _, _, none⟩) rfl rfl fun K' hK' => ?_; go_simp; simp only [frt_1, frt_3, frt_10, frt_11, frt_12, frt_13, frt_14, frt_15, frt_16, frt_17, frt_18, frt_19, frt_20, frt_21, frt_22, frt_23, frt_24, frt_25, frt_26, frt_27, frt_28, frt_29, frt_30]; go_simp; exact hK' _ _ ⟨upd f 19 _, rfl, h.next (i := 9) (by decide) (Below.refl _ _) rfl⟩
theorem cstep_10 {m : Md} {a1 : Option Addr} {k1 : Nat} {a3 : Option Addr} {k3 : Nat} {a4 : Option Addr} {k4 : Nat} {a6 : Option Addr} {k6 : Nat} {a7 : Option Addr} {k7 : Nat} {B H : Nat} {w1 : World} {Q : Exit → Act → World → Prop} {A C : Value} {listed : Array Bool} {f : Nat → Value} {w : World} (hh : CH m a1 k1 a3 k3 a4 k4 a6 k6 a7 k7 B H w1) (h : CJ m a1 k1 a3 k3 a4 k4 a6 k6 a7 k7 B H w1 listed f w) (l9 : listed.getD 9 false = true) :
 wpOp Tryz.prog copyOps Q 10 (fun a' w' => ∃ f', a' = fr A (.pointer (some ⟨H, 0, none⟩)) C f' ∧ CJ m a1 k1 a3 k3 a4 k4 a6 k6 a7 k7 B H w1 (listed.setIfInBounds 10 true) f' w') (fr A (.pointer (some ⟨H, 0, none⟩)) C f) w := by
 refine wpOp_step (o := ⟨some 20, .load 25 (.tmp 19), 25, _, _, none⟩) rfl ?_; intro K' hK'; have e : f 19 = .pointer (some ⟨H, 4, none⟩) := h.r 9 (by decide) l9; have hc := h.keeps hh _ _ hh.c4; rw [if_pos (by rfl)]; go_simp; simp only [frt_1, frt_3, frt_10, frt_11, frt_12, frt_13, frt_14, frt_15, frt_16, frt_17, frt_18, frt_19, frt_20, frt_21, frt_22, frt_23, frt_24, frt_25, frt_26, frt_27, frt_28, frt_29, frt_30, e]; go_simp; exact hK' _ _ ⟨upd f 20 _, rfl, h.next (i := 10) (by decide) (Below.refl _ _) rfl⟩
theorem cstep_11 {m : Md} {a1 : Option Addr} {k1 : Nat} {a3 : Option Addr} {k3 : Nat} {a4 : Option Addr} {k4 : Nat} {a6 : Option Addr} {k6 : Nat} {a7 : Option Addr} {k7 : Nat} {B H : Nat} {w1 : World} {Q : Exit → Act → World → Prop} {A C : Value} {listed : Array Bool} {f : Nat → Value} {w : World} (hh : CH m a1 k1 a3 k3 a4 k4 a6 k6 a7 k7 B H w1) (h : CJ m a1 k1 a3 k3 a4 k4 a6 k6 a7 k7 B H w1 listed f w) (l8 : listed.getD 8 false = true) (l10 : listed.getD 10 false = true) :
 wpOp Tryz.prog copyOps Q 11 (fun a' w' => ∃ f', a' = fr A (.pointer (some ⟨H, 0, none⟩)) C f' ∧ CJ m a1 k1 a3 k3 a4 k4 a6 k6 a7 k7 B H w1 (listed.setIfInBounds 11 true) f' w') (fr A (.pointer (some ⟨H, 0, none⟩)) C f) w := by
 refine wpOp_step (o := ⟨some 21, .call ⟨.builtin .append, #[.tmp 18, .tmp 20], #[25, 25]⟩, 25, _, _, none⟩) rfl ?_; intro K' hK'; obtain ⟨h0, e0, hbb⟩ := h.r 8 (by decide) l8; have e2 : f 20 = .slice a4 m.mems.length k4 := h.r 10 (by decide) l10; have hr := hh.r4.keep fun _ _ _ => .keep (h.keeps hh); obtain ⟨i, hi, he⟩ := Option.map_eq_some_iff.1 info76; obtain ⟨hz, hsz, hby⟩ := Prod.mk.inj he |>.imp id Prod.mk.inj
 refine step_app_fresh _ rfl _ _ _ rfl 43 i _ 3 24 Tryz.underlying25 hi hz hsz hby h0 _ m.mems.length (m.mems.flatMap limC) (by exact e0) (by exact e2) (rows_src Tryz.underlying25 (fun _ => rfl) limC_one lim_cells hr) hr.1 (by have := hh.n4; omega) ?_; intro v w' hn hb; exact hK' _ _ ⟨upd f 21 _, rfl, h.next (i := 11) (by decide) hb (hn.le (Nat.le_min.2 ⟨hbb, h.size⟩))⟩
theorem cstep_12 {m : Md} {a1 : Option Addr} {k1 : Nat} {a3 : Option Addr} {k3 : Nat} {a4 : Option Addr} {k4 : Nat} {a6 : Option Addr} {k6 : Nat} {a7 : Option Addr} {k7 : Nat} {B H : Nat} {w1 : World} {Q : Exit → Act → World → Prop} {A C : Value} {listed : Array Bool} {f : Nat → Value} {w : World} (hh : CH m a1 k1 a3 k3 a4 k4 a6 k6 a7 k7 B H w1) (h : CJ m a1 k1 a3 k3 a4 k4 a6 k6 a7 k7 B H w1 listed f w) :
 wpOp Tryz.prog copyOps Q 12 (fun a' w' => ∃ f', a' = fr A (.pointer (some ⟨H, 0, none⟩)) C f' ∧ CJ m a1 k1 a3 k3 a4 k4 a6 k6 a7 k7 B H w1 (listed.setIfInBounds 12 true) f' w') (fr A (.pointer (some ⟨H, 0, none⟩)) C f) w := by
 refine wpS (o := ⟨some 22, .buildSlice 27 0 #[], 27, _, _, none⟩) rfl rfl fun K' hK' => ?_; go_simp; exact hK' _ _ ⟨upd f 22 _, rfl, h.next (i := 12) (by decide) ((Below.refl _ _).alloc (Nat.le_refl _) _) ⟨_, rfl, h.size⟩⟩
theorem cstep_13 {m : Md} {a1 : Option Addr} {k1 : Nat} {a3 : Option Addr} {k3 : Nat} {a4 : Option Addr} {k4 : Nat} {a6 : Option Addr} {k6 : Nat} {a7 : Option Addr} {k7 : Nat} {B H : Nat} {w1 : World} {Q : Exit → Act → World → Prop} {A C : Value} {listed : Array Bool} {f : Nat → Value} {w : World} (hh : CH m a1 k1 a3 k3 a4 k4 a6 k6 a7 k7 B H w1) (h : CJ m a1 k1 a3 k3 a4 k4 a6 k6 a7 k7 B H w1 listed f w) :
 wpOp Tryz.prog copyOps Q 13 (fun a' w' => ∃ f', a' = fr A (.pointer (some ⟨H, 0, none⟩)) C f' ∧ CJ m a1 k1 a3 k3 a4 k4 a6 k6 a7 k7 B H w1 (listed.setIfInBounds 13 true) f' w') (fr A (.pointer (some ⟨H, 0, none⟩)) C f) w := by
 refine wpS (o := ⟨some 23, .fieldAddr 32 (.tmp 1) 6, 0, _, _, none⟩) rfl rfl fun K' hK' => ?_; go_simp; simp only [frt_1, frt_3, frt_10, frt_11, frt_12, frt_13, frt_14, frt_15, frt_16, frt_17, frt_18, frt_19, frt_20, frt_21, frt_22, frt_23, frt_24, frt_25, frt_26, frt_27, frt_28, frt_29, frt_30]; go_simp; exact hK' _ _ ⟨upd f 23 _, rfl, h.next (i := 13) (by decide) (Below.refl _ _) rfl⟩
theorem cstep_14 {m : Md} {a1 : Option Addr} {k1 : Nat} {a3 : Option Addr} {k3 : Nat} {a4 : Option Addr} {k4 : Nat} {a6 : Option Addr} {k6 : Nat} {a7 : Option Addr} {k7 : Nat} {B H : Nat} {w1 : World} {Q : Exit → Act → World → Prop} {A C : Value} {listed : Array Bool} {f : Nat → Value} {w : World} (hh : CH m a1 k1 a3 k3 a4 k4 a6 k6 a7 k7 B H w1) (h : CJ m a1 k1 a3 k3 a4 k4 a6 k6 a7 k7 B H w1 listed f w) (l13 : listed.getD 13 false = true) :
 wpOp Tryz.prog copyOps Q 14 (fun a' w' => ∃ f', a' = fr A (.pointer (some ⟨H, 0, none⟩)) C f' ∧ CJ m a1 k1 a3 k3 a4 k4 a6 k6 a7 k7 B H w1 (listed.setIfInBounds 14 true) f' w') (fr A (.pointer (some ⟨H, 0, none⟩)) C f) w := by
 refine wpOp_step (o := ⟨some 24, .load 27 (.tmp 23), 27, _, _, none⟩) rfl ?_; intro K' hK'; have e : f 23 = .pointer (some ⟨H, 6, none⟩) := h.r 13 (by decide) l13; have hc := h.keeps hh _ _ hh.c6; rw [if_pos (by rfl)]; go_simp; simp only [frt_1, frt_3, frt_10, frt_11, frt_12, frt_13, frt_14, frt_15, frt_16, frt_17, frt_18, frt_19, frt_20, frt_21, frt_22, frt_23, frt_24, frt_25, frt_26, frt_27, frt_28, frt_29, frt_30, e]; go_simp; exact hK' _ _ ⟨upd f 24 _, rfl, h.next (i := 14) (by decide) (Below.refl _ _) rfl⟩
theorem cstep_15 {m : Md} {a1 : Option Addr} {k1 : Nat} {a3 : Option Addr} {k3 : Nat} {a4 : Option Addr} {k4 : Nat} {a6 : Option Addr} {k6 : Nat} {a7 : Option Addr} {k7 : Nat} {B H : Nat} {w1 : World} {Q : Exit → Act → World → Prop} {A C : Value} {listed : Array Bool} {f : Nat → Value} {w : World} (hh : CH m a1 k1 a3 k3 a4 k4 a6 k6 a7 k7 B H w1) (h : CJ m a1 k1 a3 k3 a4 k4 a6 k6 a7 k7 B H w1 listed f w) (l12 : listed.getD 12 false = true) (l14 : listed.getD 14 false = true) :
 wpOp Tryz.prog copyOps Q 15 (fun a' w' => ∃ f', a' = fr A (.pointer (some ⟨H, 0, none⟩)) C f' ∧ CJ m a1 k1 a3 k3 a4 k4 a6 k6 a7 k7 B H w1 (listed.setIfInBounds 15 true) f' w') (fr A (.pointer (some ⟨H, 0, none⟩)) C f) w := by
 refine wpOp_step (o := ⟨some 25, .call ⟨.builtin .append, #[.tmp 22, .tmp 24], #[27, 27]⟩, 27, _, _, none⟩) rfl ?_; intro K' hK'; obtain ⟨h0, e0, hbb⟩ := h.r 12 (by decide) l12; have e2 : f 24 = .slice a6 m.exports.length k6 := h.r 14 (by decide) l14; have hr := hh.r6.keep fun _ _ _ => .keep (h.keeps hh); obtain ⟨i, hi, he⟩ := Option.map_eq_some_iff.1 info79; obtain ⟨hz, hsz, hby⟩ := Prod.mk.inj he |>.imp id Prod.mk.inj
 refine step_app_fresh _ rfl _ _ _ rfl 80 i _ 3 32 Tryz.underlying27 hi hz hsz hby h0 _ m.exports.length (m.exports.flatMap expC) (by exact e0) (by exact e2) (rows_src Tryz.underlying27 (fun _ => rfl) expC_one exp_cells hr) hr.1 (by have := hh.n6; omega) ?_; intro v w' hn hb; exact hK' _ _ ⟨upd f 25 _, rfl, h.next (i := 15) (by decide) hb (hn.le (Nat.le_min.2 ⟨hbb, h.size⟩))⟩
theorem cstep_16 {m : Md} {a1 : Option Addr} {k1 : Nat} {a3 : Option Addr} {k3 : Nat} {a4 : Option Addr} {k4 : Nat} {a6 : Option Addr} {k6 : Nat} {a7 : Option Addr} {k7 : Nat} {B H : Nat} {w1 : World} {Q : Exit → Act → World → Prop} {A C : Value} {listed : Array Bool} {f : Nat → Value} {w : World} (hh : CH m a1 k1 a3 k3 a4 k4 a6 k6 a7 k7 B H w1) (h : CJ m a1 k1 a3 k3 a4 k4 a6 k6 a7 k7 B H w1 listed f w) :
 wpOp Tryz.prog copyOps Q 16 (fun a' w' => ∃ f', a' = fr A (.pointer (some ⟨H, 0, none⟩)) C f' ∧ CJ m a1 k1 a3 k3 a4 k4 a6 k6 a7 k7 B H w1 (listed.setIfInBounds 16 true) f' w') (fr A (.pointer (some ⟨H, 0, none⟩)) C f) w := by
 refine wpS (o := ⟨some 26, .buildSlice 28 0 #[], 28, _, _, none⟩) rfl rfl fun K' hK' => ?_; go_simp; exact hK' _ _ ⟨upd f 26 _, rfl, h.next (i := 16) (by decide) ((Below.refl _ _).alloc (Nat.le_refl _) _) ⟨_, rfl, h.size⟩⟩
theorem cstep_17 {m : Md} {a1 : Option Addr} {k1 : Nat} {a3 : Option Addr} {k3 : Nat} {a4 : Option Addr} {k4 : Nat} {a6 : Option Addr} {k6 : Nat} {a7 : Option Addr} {k7 : Nat} {B H : Nat} {w1 : World} {Q : Exit → Act → World → Prop} {A C : Value} {listed : Array Bool} {f : Nat → Value} {w : World} (hh : CH m a1 k1 a3 k3 a4 k4 a6 k6 a7 k7 B H w1) (h : CJ m a1 k1 a3 k3 a4 k4 a6 k6 a7 k7 B H w1 listed f w) :
 wpOp Tryz.prog copyOps Q 17 (fun a' w' => ∃ f', a' = fr A (.pointer (some ⟨H, 0, none⟩)) C f' ∧ CJ m a1 k1 a3 k3 a4 k4 a6 k6 a7 k7 B H w1 (listed.setIfInBounds 17 true) f' w') (fr A (.pointer (some ⟨H, 0, none⟩)) C f) w := by
 refine wpS (o := ⟨some 27, .fieldAddr 32 (.tmp 1) 7, 0, _, _, none⟩) rfl rfl fun K' hK' => ?_; go_simp; simp only [frt_1, frt_3, frt_10, frt_11, frt_12, frt_13, frt_14, frt_15, frt_16, frt_17, frt_18, frt_19, frt_20, frt_21, frt_22, frt_23, frt_24, frt_25, frt_26, frt_27, frt_28, frt_29, frt_30]; go_simp; exact hK' _ _ ⟨upd f 27 _, rfl, h.next (i := 17) (by decide) (Below.refl _ _) rfl⟩
theorem cstep_18 {m : Md} {a1 : Option Addr} {k1 : Nat} {a3 : Option Addr} {k3 : Nat} {a4 : Option Addr} {k4 : Nat} {a6 : Option Addr} {k6 : Nat} {a7 : Option Addr} {k7 : Nat} {B H : Nat} {w1 : World} {Q : Exit → Act → World → Prop} {A C : Value} {listed : Array Bool} {f : Nat → Value} {w : World} (hh : CH m a1 k1 a3 k3 a4 k4 a6 k6 a7 k7 B H w1) (h : CJ m a1 k1 a3 k3 a4 k4 a6 k6 a7 k7 B H w1 listed f w) (l17 : listed.getD 17 false = true) :
 wpOp Tryz.prog copyOps Q 18 (fun a' w' => ∃ f', a' = fr A (.pointer (some ⟨H, 0, none⟩)) C f' ∧ CJ m a1 k1 a3 k3 a4 k4 a6 k6 a7 k7 B H w1 (listed.setIfInBounds 18 true) f' w') (fr A (.pointer (some ⟨H, 0, none⟩)) C f) w := by
 refine wpOp_step (o := ⟨some 28, .load 28 (.tmp 27), 28, _, _, none⟩) rfl ?_; intro K' hK'; have e : f 27 = .pointer (some ⟨H, 7, none⟩) := h.r 17 (by decide) l17; have hc := h.keeps hh _ _ hh.c7; rw [if_pos (by rfl)]; go_simp; simp only [frt_1, frt_3, frt_10, frt_11, frt_12, frt_13, frt_14, frt_15, frt_16, frt_17, frt_18, frt_19, frt_20, frt_21, frt_22, frt_23, frt_24, frt_25, frt_26, frt_27, frt_28, frt_29, frt_30, e]; go_simp; exact hK' _ _ ⟨upd f 28 _, rfl, h.next (i := 18) (by decide) (Below.refl _ _) rfl⟩
theorem cstep_19 {m : Md} {a1 : Option Addr} {k1 : Nat} {a3 : Option Addr} {k3 : Nat} {a4 : Option Addr} {k4 : Nat} {a6 : Option Addr} {k6 : Nat} {a7 : Option Addr} {k7 : Nat} {B H : Nat} {w1 : World} {Q : Exit → Act → World → Prop} {A C : Value} {listed : Array Bool} {f : Nat → Value} {w : World} (hh : CH m a1 k1 a3 k3 a4 k4 a6 k6 a7 k7 B H w1) (h : CJ m a1 k1 a3 k3 a4 k4 a6 k6 a7 k7 B H w1 listed f w) (l16 : listed.getD 16 false = true) (l18 : listed.getD 18 false = true) :
 wpOp Tryz.prog copyOps Q 19 (fun a' w' => ∃ f', a' = fr A (.pointer (some ⟨H, 0, none⟩)) C f' ∧ CJ m a1 k1 a3 k3 a4 k4 a6 k6 a7 k7 B H w1 (listed.setIfInBounds 19 true) f' w') (fr A (.pointer (some ⟨H, 0, none⟩)) C f) w := by
 refine wpOp_step (o := ⟨some 29, .call ⟨.builtin .append, #[.tmp 26, .tmp 28], #[28, 28]⟩, 28, _, _, none⟩) rfl ?_; intro K' hK'; obtain ⟨h0, e0, hbb⟩ := h.r 16 (by decide) l16; have e2 : f 28 = .slice a7 m.start.length k7 := h.r 18 (by decide) l18; have hr := hh.r7.keep (h.keeps hh); obtain ⟨i, hi, he⟩ := Option.map_eq_some_iff.1 info3; obtain ⟨hz, hsz, hby⟩ := Prod.mk.inj he |>.imp id Prod.mk.inj
 refine step_app_fresh _ rfl _ _ _ rfl 3 i _ 1 8 Tryz.underlying28 hi hz hsz hby h0 _ m.start.length (intCells m.start) (by exact e0) (by exact e2) (src_ints hr) hr.1 (by have := hh.n7; omega) ?_; intro v w' hn hb; exact hK' _ _ ⟨upd f 29 _, rfl, h.next (i := 19) (by decide) hb (hn.le (Nat.le_min.2 ⟨hbb, h.size⟩))⟩
theorem cstep_20 {m : Md} {a1 : Option Addr} {k1 : Nat} {a3 : Option Addr} {k3 : Nat} {a4 : Option Addr} {k4 : Nat} {a6 : Option Addr} {k6 : Nat} {a7 : Option Addr} {k7 : Nat} {B H : Nat} {w1 : World} {Q : Exit → Act → World → Prop} {A C : Value} {listed : Array Bool} {f : Nat → Value} {w : World} (hh : CH m a1 k1 a3 k3 a4 k4 a6 k6 a7 k7 B H w1) (h : CJ m a1 k1 a3 k3 a4 k4 a6 k6 a7 k7 B H w1 listed f w) (l3 : listed.getD 3 false = true) (l7 : listed.getD 7 false = true) (l11 : listed.getD 11 false = true) (l15 : listed.getD 15 false = true) (l19 : listed.getD 19 false = true) :
 wpOp Tryz.prog copyOps Q 20 (fun a' w' => ∃ f', a' = fr A (.pointer (some ⟨H, 0, none⟩)) C f' ∧ CJ m a1 k1 a3 k3 a4 k4 a6 k6 a7 k7 B H w1 (listed.setIfInBounds 20 true) f' w') (fr A (.pointer (some ⟨H, 0, none⟩)) C f) w := by
 refine wpOp_step (o := ⟨some 30, .build 32 #[(1, .tmp 13), (3, .tmp 17), (4, .tmp 21), (6, .tmp 25), (7, .tmp 29)], 32, _, _, none⟩) rfl ?_; intro K' hK'; obtain ⟨b1, q1, e1, z1⟩ : NewRow B w m.imports.length (m.imports.flatMap impC) (f 13) := h.r 3 (by decide) l3; obtain ⟨b3, q3, e3, z3⟩ : NewRow B w m.tables.length (m.tables.flatMap limC) (f 17) := h.r 7 (by decide) l7; obtain ⟨b4, q4, e4, z4⟩ : NewRow B w m.mems.length (m.mems.flatMap limC) (f 21) := h.r 11 (by decide) l11; obtain ⟨b6, q6, e6, z6⟩ : NewRow B w m.exports.length (m.exports.flatMap expC) (f 25) := h.r 15 (by decide) l15; obtain ⟨b7, q7, e7, z7⟩ : NewRow B w m.start.length (intCells m.start) (f 29) := h.r 19 (by decide) l19; rw [if_pos (by rfl)]; go_simp; simp only [frt_1, frt_3, frt_10, frt_11, frt_12, frt_13, frt_14, frt_15, frt_16, frt_17, frt_18, frt_19, frt_20, frt_21, frt_22, frt_23, frt_24, frt_25, frt_26, frt_27, frt_28, frt_29, frt_30, e1, e3, e4, e6, e7]; go_simp; exact hK' _ _ ⟨upd f 30 _, rfl, h.next (i := 20) (by decide) (Below.refl _ _) ⟨_, _, _, _, _, rfl, ⟨_, _, rfl, z1⟩, ⟨_, _, rfl, z3⟩, ⟨_, _, rfl, z4⟩, ⟨_, _, rfl, z6⟩, ⟨_, _, rfl, z7⟩⟩⟩
theorem cstep_21 {m : Md} {a1 : Option Addr} {k1 : Nat} {a3 : Option Addr} {k3 : Nat} {a4 : Option Addr} {k4 : Nat} {a6 : Option Addr} {k6 : Nat} {a7 : Option Addr} {k7 : Nat} {B H : Nat} {w1 : World} {Q : Exit → Act → World → Prop} {A C : Value} {listed : Array Bool} {f : Nat → Value} {w : World} (hh : CH m a1 k1 a3 k3 a4 k4 a6 k6 a7 k7 B H w1) (h : CJ m a1 k1 a3 k3 a4 k4 a6 k6 a7 k7 B H w1 listed f w) :
 wpOp Tryz.prog copyOps Q 21 (fun a' w' => ∃ f', a' = fr A (.pointer (some ⟨H, 0, none⟩)) C f' ∧ CJ m a1 k1 a3 k3 a4 k4 a6 k6 a7 k7 B H w1 (listed.setIfInBounds 21 true) f' w') (fr A (.pointer (some ⟨H, 0, none⟩)) C f) w := by
 refine wpS (o := ⟨some 3, .alloc 32, 0, _, _, none⟩) rfl rfl fun K' hK' => ?_; go_simp; refine hK' _ _ ⟨upd f 3 _, rfl, h.next (i := 21) (by decide) ((Below.refl _ _).alloc (Nat.le_refl _) _) ⟨w.heap.size, rfl, h.size, ?_, fun j hj => ?_, fun j => World.frozen?_alloc_at _ _ _ _ rfl⟩⟩
 · show w.heap.size < (w.heap.push _).size
   rw [Array.size_push]; exact Nat.lt_succ_self _
 · refine (World.cell?_alloc_at _ _ _ j rfl).trans ?_
   rcases j with _ | _ | _ | _ | _ | _ | _ | _ | _ | _ | j
   all_goals first | rfl | omega
def setAll (M : Nat) : Nat → List Value → World → World
 | _, [], w => w
 | o, v :: r, w => setAll M (o + 1) r (w.setCell ⟨M, o, none⟩ v)
structure SetAll (M o : Nat) (vs : List Value) (w w' : World) : Prop where
 cells : ∀ j v, vs[j]? = some v → w'.cell? ⟨M, o + j, none⟩ = some v
 lo : ∀ j v, j < o → w.cell? ⟨M, j, none⟩ = some v → w'.cell? ⟨M, j, none⟩ = some v
 far : ∀ p v, p.block ≠ M → w.cell? p = some v → w'.cell? p = some v
 size : w'.heap.size = w.heap.size
 frozen : ∀ p, w'.frozen? p = w.frozen? p
 below : ∀ B a, B ≤ M → Below B a w → Below B a w'
theorem set_all (M : Nat) : ∀ (vs : List Value) (o : Nat) (w : World), (∀ j, j < vs.length → ∃ x, w.cell? ⟨M, o + j, none⟩ = some x) → SetAll M o vs w (setAll M o vs w)
 | [], o, w, _ => ⟨fun j v h => by simp at h, fun _ _ _ h => h, fun _ _ _ h => h, rfl, fun _ => rfl, fun _ _ _ h => h⟩
 | v :: r, o, w, h => by
   obtain ⟨x, hx⟩ := h 0 (by simp)
   have ih := set_all M r (o + 1) (w.setCell ⟨M, o, none⟩ v) (fun j hj => by
    obtain ⟨y, hy⟩ := h (j + 1) (by simpa using hj); exact ⟨y, so_other (by rw [← hy]; congr 2; omega) (.inr (by show o ≠ o + 1 + j; omega))⟩)
   refine ⟨fun j u hu => ?_, fun j u hj hu => ih.lo j u (by omega) (so_other hu (.inr (by show o ≠ j; omega))), fun p u hp hu => ih.far p u hp (by rw [World.cell?_setCell_far w ⟨M, o, none⟩ p _ (fun e => hp e.symm)]; exact hu), by rw [show setAll M o (v :: r) w = setAll M (o + 1) r (w.setCell ⟨M, o, none⟩ v) from rfl, ih.size]; simp [World.setCell], fun p => (ih.frozen p).trans (World.frozen?_setCell ..), fun B a hB hb => ih.below B a hB (hb.setCell (p := ⟨M, o, none⟩) hB _)⟩; cases j with
   | zero => simp at hu; subst hu; exact ih.lo o _ (by omega) (so_same hx)
   | succ j => have := ih.cells j u (by simpa using hu); rw [show o + 1 + j = o + (j + 1) by omega] at this; exact this
def RowB (R : Nat → Prop) (w : World) (a : Option Addr) (news : List Value) : Prop := news = [] ∨ ∃ g, a = some ⟨g, 0, none⟩ ∧ R g ∧ ∀ j u, news[j]? = some u → w.cell? ⟨g, j, none⟩ = some u
theorem RowB.keep {R S : Nat → Prop} {w w' : World} {a : Option Addr} {news : List Value} (f : KeepsR R S w w') (h : RowB R w a news) : RowB S w' a news := by
 rcases h with h | ⟨g, e, hg, h⟩
 · exact .inl h
 · cases news with
   | nil => exact .inl rfl
   | cons x r => exact .inr ⟨g, e, f.2 g hg (World.block_lt_of_cell? w _ (h 0 x rfl)), fun j u hj => f.1 _ _ hg (h j u hj)⟩
theorem newrow_b {B M : Nat} {w : World} {n : Nat} {news : List Value} {a : Option Addr} (hn : n = 0 → news = []) (hne : ∀ u, news[0]? = some u → u ≠ .slice none 0 0) (hM : w.cell? ⟨M, 0, none⟩ = some (.slice none 0 0))
 (h : n = 0 ∨ ∃ g, a = some ⟨g, 0, none⟩ ∧ B ≤ g ∧ ∀ j u, news[j]? = some u → w.cell? ⟨g, j, none⟩ = some u) : RowB (fun b => B ≤ b ∧ b ≠ M) w a news := by
 rcases h with h | ⟨g, e, hg, hc⟩
 · exact .inl (hn h)
 · cases news with
   | nil => exact .inl rfl
   | cons x r => refine .inr ⟨g, e, ⟨hg, fun e => ?_⟩, hc⟩; subst e; have := hc 0 x rfl; rw [hM] at this; exact hne x rfl (Option.some.inj this).symm
theorem flat_ne {α : Type} {enc : α → List Value} (henc : ∀ x, ∃ y r, enc x = y :: r ∧ y ≠ .slice none 0 0) (xs : List α) : ∀ u, (xs.flatMap enc)[0]? = some u → u ≠ .slice none 0 0 := by
 intro u hu; cases xs with
 | nil => simp at hu
 | cons x r => obtain ⟨y, t, e, hy⟩ := henc x; rw [List.flatMap_cons, e] at hu; simp at hu; exact hu ▸ hy
structure CE (m : Md) (B M : Nat) (w1 w : World) (b1 : Option Addr) (q1 : Nat) (b3 : Option Addr) (q3 : Nat) (b4 : Option Addr) (q4 : Nat) (b6 : Option Addr) (q6 : Nat) (b7 : Option Addr) (q7 : Nat) : Prop where
 below : Below B w1 w
 lo : B ≤ M
 hi : M < w.heap.size
 frozen : ∀ j, w.frozen? ⟨M, j, none⟩ = false
 cells : ∀ j v, (#[Value.slice none 0 0, .slice b1 m.imports.length q1, .slice none 0 0, .slice b3 m.tables.length q3, .slice b4 m.mems.length q4, .slice none 0 0, .slice b6 m.exports.length q6, .slice b7 m.start.length q7, .slice none 0 0, .slice none 0 0] : Array Value)[j]? = some v → w.cell? ⟨M, j, none⟩ = some v
 r1 : RowB (fun b => B ≤ b ∧ b ≠ M) w b1 (m.imports.flatMap impC)
 r3 : RowB (fun b => B ≤ b ∧ b ≠ M) w b3 (m.tables.flatMap limC)
 r4 : RowB (fun b => B ≤ b ∧ b ≠ M) w b4 (m.mems.flatMap limC)
 r6 : RowB (fun b => B ≤ b ∧ b ≠ M) w b6 (m.exports.flatMap expC)
 r7 : RowB (fun b => B ≤ b ∧ b ≠ M) w b7 (intCells m.start)
theorem cstep_22 {m : Md} {a1 : Option Addr} {k1 : Nat} {a3 : Option Addr} {k3 : Nat} {a4 : Option Addr} {k4 : Nat} {a6 : Option Addr} {k6 : Nat} {a7 : Option Addr} {k7 : Nat} {B H : Nat} {w1 : World} {Q : Exit → Act → World → Prop} {A C : Value} {listed : Array Bool} {f : Nat → Value} {w : World} (hh : CH m a1 k1 a3 k3 a4 k4 a6 k6 a7 k7 B H w1) (h : CJ m a1 k1 a3 k3 a4 k4 a6 k6 a7 k7 B H w1 listed f w) (l20 : listed.getD 20 false = true) (l21 : listed.getD 21 false = true) :
 wpOp Tryz.prog copyOps Q 22 (fun a' w' => ∃ f' M b1 q1 b3 q3 b4 q4 b6 q6 b7 q7, a' = fr A (.pointer (some ⟨H, 0, none⟩)) C f' ∧ f' 3 = .pointer (some ⟨M, 0, none⟩) ∧ CE m B M w1 w' b1 q1 b3 q3 b4 q4 b6 q6 b7 q7) (fr A (.pointer (some ⟨H, 0, none⟩)) C f) w := by
 refine wpOp_step (o := ⟨none, .store 32 (.tmp 3) (.tmp 30), 0, _, _, none⟩) rfl ?_; intro K' hK'; obtain ⟨x1, x3, x4, x6, x7, e30, ⟨b1, q1, rfl, z1⟩, ⟨b3, q3, rfl, z3⟩, ⟨b4, q4, rfl, z4⟩, ⟨b6, q6, rfl, z6⟩, ⟨b7, q7, rfl, z7⟩⟩ := h.r 20 (by decide) l20; obtain ⟨M, e3, hBM, hM, hc, hfr⟩ := h.r 21 (by decide) l21; have e3 : f 3 = _ := e3; have e30 : f 30 = _ := e30; have g0 := hc 0 (by decide); have g1 := hc 1 (by decide); have g2 := hc 2 (by decide); have g3 := hc 3 (by decide); have g4 := hc 4 (by decide); have g5 := hc 5 (by decide); have g6 := hc 6 (by decide); have g7 := hc 7 (by decide); have g8 := hc 8 (by decide); have g9 := hc 9 (by decide); have p1 := newrow_b (fun e => by rw [List.eq_nil_of_length_eq_zero e]; rfl) (flat_ne (fun x => ⟨_, _, rfl, by simp⟩) _) g0 z1; have p3 := newrow_b (fun e => by rw [List.eq_nil_of_length_eq_zero e]; rfl) (flat_ne (fun x => ⟨_, _, rfl, by simp⟩) _) g0 z3; have p4 := newrow_b (fun e => by rw [List.eq_nil_of_length_eq_zero e]; rfl) (flat_ne (fun x => ⟨_, _, rfl, by simp⟩) _) g0 z4; have p6 := newrow_b (fun e => by rw [List.eq_nil_of_length_eq_zero e]; rfl) (flat_ne (fun x => ⟨_, _, rfl, by simp⟩) _) g0 z6; have p7 := newrow_b (fun e => by rw [List.eq_nil_of_length_eq_zero e]; rfl) (fun u hu => by unfold intCells at hu; rw [List.getElem?_map] at hu; obtain ⟨x, _, rfl⟩ := Option.map_eq_some_iff.1 hu; simp) g0 z7; have f0 := hfr 0; have f1 := hfr 1; have f2 := hfr 2; have f3 := hfr 3; have f4 := hfr 4; have f5 := hfr 5; have f6 := hfr 6; have f7 := hfr 7
 have f8 := hfr 8; have f9 := hfr 9; rw [if_pos (by rfl)]; go_simp; simp only [frt_1, frt_3, frt_10, frt_11, frt_12, frt_13, frt_14, frt_15, frt_16, frt_17, frt_18, frt_19, frt_20, frt_21, frt_22, frt_23, frt_24, frt_25, frt_26, frt_27, frt_28, frt_29, frt_30, e3, e30]; go_simp; have hs := set_all M [.slice none 0 0, .slice b1 m.imports.length q1, .slice none 0 0, .slice b3 m.tables.length q3, .slice b4 m.mems.length q4, .slice none 0 0, .slice b6 m.exports.length q6, .slice b7 m.start.length q7, .slice none 0 0, .slice none 0 0] 0 w (fun j hj => ⟨_, by rw [Nat.zero_add]; exact hc j hj⟩); have kr : KeepsR (fun b => B ≤ b ∧ b ≠ M) (fun b => B ≤ b ∧ b ≠ M) w _ := ⟨fun p v hp h => hs.far p v hp.2 h, fun b hb _ => hb⟩
 exact hK' _ _ ⟨f, M, b1, q1, b3, q3, b4, q4, b6, q6, b7, q7, rfl, e3, hs.below _ _ hBM h.below, hBM, Nat.lt_of_lt_of_eq hM hs.size.symm, fun j => (hs.frozen _).trans (hfr j), fun j v hv => by have := hs.cells j v (by simpa using hv); rw [Nat.zero_add] at this; exact this, p1.keep kr, p3.keep kr, p4.keep kr, p6.keep kr, p7.keep kr⟩
theorem copy_lower : ∀ i, i < 23 → ((copyOps[i]?).map fun o => o.after.all fun e => decide (e.on < i)) = some true := by
 have h : ∀ i : Fin 23, ((copyOps[i.val]?).map fun o => o.after.all fun e => decide (e.on < i.val)) = some true := (by decide +kernel)
 exact fun i hi => h ⟨i, hi⟩
theorem copy_all {listed : Array Bool} (hr : Region.ready .any copyOps listed = []) (hs : listed.size = 23) : ∀ i, i < 23 → listed.getD i true = true := by
 intro i
 induction i using Nat.strongRecOn with
 | ind i ih =>
   intro hi; cases hl : listed.getD i true with
   | true => rfl
   | false =>
     exfalso; have hlow := copy_lower i hi; obtain ⟨o, ho, hall⟩ := Option.map_eq_some_iff.1 hlow
     have hm : i ∈ Region.ready .any copyOps listed := mem_ready.2 ⟨hl, o, ho, fun e he _ => by
      have hlt : e.on < i := (by simpa using Array.all_eq_true_iff_forall_mem.1 hall e he)
      have := ih e.on hlt (by omega); rw [Array.getD_eq_getD_getElem?] at this ⊢; rw [Array.getElem?_eq_getElem (by omega)] at this ⊢; exact this⟩
     rw [hr] at hm; cases hm
def CFin (m : Md) (B : Nat) (w1 : World) (A P C : Value) (a : Act) (w : World) : Prop := ∃ f' M b1 q1 b3 q3 b4 q4 b6 q6 b7 q7, a = fr A P C f' ∧ f' 3 = .pointer (some ⟨M, 0, none⟩) ∧ CE m B M w1 w b1 q1 b3 q3 b4 q4 b6 q6 b7 q7
def CJJ (m : Md) (a1 : Option Addr) (k1 : Nat) (a3 : Option Addr) (k3 : Nat) (a4 : Option Addr) (k4 : Nat) (a6 : Option Addr) (k6 : Nat) (a7 : Option Addr) (k7 : Nat) (B H : Nat) (w1 : World) (A C : Value) (listed : Array Bool) (a : Act) (w : World) : Prop :=
 listed.size = 23 ∧ ((listed.getD 22 false = false ∧ ∃ f, a = fr A (.pointer (some ⟨H, 0, none⟩)) C f ∧ CJ m a1 k1 a3 k3 a4 k4 a6 k6 a7 k7 B H w1 listed f w) ∨ ((∀ i, i < 23 → listed.getD i false = true) ∧ CFin m B w1 A (.pointer (some ⟨H, 0, none⟩)) C a w))
theorem CJJ.set {m : Md} {a1 : Option Addr} {k1 : Nat} {a3 : Option Addr} {k3 : Nat} {a4 : Option Addr} {k4 : Nat} {a6 : Option Addr} {k6 : Nat} {a7 : Option Addr} {k7 : Nat} {B H : Nat} {w1 : World} {A C : Value} {listed : Array Bool} {a : Act} {w : World} (i : Nat) (hs : listed.size = 23) (hi : i ≠ 22) (h22 : listed.getD 22 false = false)
 (h : ∃ f, a = fr A (.pointer (some ⟨H, 0, none⟩)) C f ∧ CJ m a1 k1 a3 k3 a4 k4 a6 k6 a7 k7 B H w1 (listed.setIfInBounds i true) f w) : CJJ m a1 k1 a3 k3 a4 k4 a6 k6 a7 k7 B H w1 A C (listed.setIfInBounds i true) a w :=
 ⟨by rw [Array.size_setIfInBounds]; exact hs, .inl ⟨(getD_set_ne false hi).trans h22, h⟩⟩
theorem copy_step {m : Md} {a1 : Option Addr} {k1 : Nat} {a3 : Option Addr} {k3 : Nat} {a4 : Option Addr} {k4 : Nat} {a6 : Option Addr} {k6 : Nat} {a7 : Option Addr} {k7 : Nat} {B H : Nat} {w1 : World} {Q : Exit → Act → World → Prop} {A C : Value} (hh : CH m a1 k1 a3 k3 a4 k4 a6 k6 a7 k7 B H w1) (listed : Array Bool) (a : Act) (w : World) (hJ : CJJ m a1 k1 a3 k3 a4 k4 a6 k6 a7 k7 B H w1 A C listed a w) (i : Nat) (o : Oper) (ho : copyOps[i]? = some o)
 (hl : listed.getD i true = false) (hall : ∀ e ∈ o.after, Region.binds .any e = true → listed.getD e.on false = true) :
 wpOp Tryz.prog copyOps Q i (fun a' w' => CJJ m a1 k1 a3 k3 a4 k4 a6 k6 a7 k7 B H w1 A C (listed.setIfInBounds i true) a' w') a w := by
 obtain ⟨hs, ⟨h22, f, rfl, hj⟩ | ⟨hall', _⟩⟩ := hJ
 rotate_left
 · exfalso
   have hi : i < 23 := by
    rcases Nat.lt_or_ge i 23 with h | h
    · exact h
    · rw [Array.getElem?_eq_none h] at ho; cases ho
   have := hall' i hi; rw [Array.getD_eq_getD_getElem?] at this hl; rw [Array.getElem?_eq_getElem (by omega)] at this hl
   simp_all
 match i, ho with
 | 0, ho => obtain rfl : o = ⟨some 10, .buildSlice 23 0 #[], 23, "ref.go:373", #[], none⟩ := Option.some.inj (ho.symm.trans rfl); exact wpOp_mono (fun a' w' h => CJJ.set 0 hs (by decide) h22 h) (cstep_0 hh hj)
 | 1, ho => obtain rfl : o = ⟨some 11, .fieldAddr 32 (.tmp 1) 1, 0, "ref.go:373", #[], none⟩ := Option.some.inj (ho.symm.trans rfl); exact wpOp_mono (fun a' w' h => CJJ.set 1 hs (by decide) h22 h) (cstep_1 hh hj)
 | 2, ho => obtain rfl : o = ⟨some 12, .load 23 (.tmp 11), 23, "ref.go:373", #[⟨1, .data⟩], none⟩ := Option.some.inj (ho.symm.trans rfl); have l1 : listed.getD 1 false = true := hall ⟨1, .data⟩ (by simp) rfl; exact wpOp_mono (fun a' w' h => CJJ.set 2 hs (by decide) h22 h) (cstep_2 hh hj l1)
 | 3, ho => obtain rfl : o = ⟨some 13, .call ⟨.builtin .append, #[.tmp 10, .tmp 12], #[23, 23]⟩, 23, "ref.go:373", #[⟨0, .data⟩, ⟨2, .data⟩], none⟩ := Option.some.inj (ho.symm.trans rfl); have l0 : listed.getD 0 false = true := hall ⟨0, .data⟩ (by simp) rfl; have l2 : listed.getD 2 false = true := hall ⟨2, .data⟩ (by simp) rfl; exact wpOp_mono (fun a' w' h => CJJ.set 3 hs (by decide) h22 h) (cstep_3 hh hj l0 l2)
 | 4, ho => obtain rfl : o = ⟨some 14, .buildSlice 25 0 #[], 25, "ref.go:373", #[], none⟩ := Option.some.inj (ho.symm.trans rfl); exact wpOp_mono (fun a' w' h => CJJ.set 4 hs (by decide) h22 h) (cstep_4 hh hj)
 | 5, ho => obtain rfl : o = ⟨some 15, .fieldAddr 32 (.tmp 1) 3, 0, "ref.go:373", #[], none⟩ := Option.some.inj (ho.symm.trans rfl); exact wpOp_mono (fun a' w' h => CJJ.set 5 hs (by decide) h22 h) (cstep_5 hh hj)
 | 6, ho => obtain rfl : o = ⟨some 16, .load 25 (.tmp 15), 25, "ref.go:373", #[⟨5, .data⟩], none⟩ := Option.some.inj (ho.symm.trans rfl); have l5 : listed.getD 5 false = true := hall ⟨5, .data⟩ (by simp) rfl; exact wpOp_mono (fun a' w' h => CJJ.set 6 hs (by decide) h22 h) (cstep_6 hh hj l5)
 | 7, ho => obtain rfl : o = ⟨some 17, .call ⟨.builtin .append, #[.tmp 14, .tmp 16], #[25, 25]⟩, 25, "ref.go:373", #[⟨4, .data⟩, ⟨6, .data⟩, ⟨3, .chain⟩], none⟩ := Option.some.inj (ho.symm.trans rfl); have l4 : listed.getD 4 false = true := hall ⟨4, .data⟩ (by simp) rfl; have l6 : listed.getD 6 false = true := hall ⟨6, .data⟩ (by simp) rfl; exact wpOp_mono (fun a' w' h => CJJ.set 7 hs (by decide) h22 h) (cstep_7 hh hj l4 l6)
 | 8, ho => obtain rfl : o = ⟨some 18, .buildSlice 25 0 #[], 25, "ref.go:373", #[], none⟩ := Option.some.inj (ho.symm.trans rfl); exact wpOp_mono (fun a' w' h => CJJ.set 8 hs (by decide) h22 h) (cstep_8 hh hj)
 | 9, ho => obtain rfl : o = ⟨some 19, .fieldAddr 32 (.tmp 1) 4, 0, "ref.go:373", #[], none⟩ := Option.some.inj (ho.symm.trans rfl); exact wpOp_mono (fun a' w' h => CJJ.set 9 hs (by decide) h22 h) (cstep_9 hh hj)
 | 10, ho => obtain rfl : o = ⟨some 20, .load 25 (.tmp 19), 25, "ref.go:373", #[⟨9, .data⟩], none⟩ := Option.some.inj (ho.symm.trans rfl); have l9 : listed.getD 9 false = true := hall ⟨9, .data⟩ (by simp) rfl; exact wpOp_mono (fun a' w' h => CJJ.set 10 hs (by decide) h22 h) (cstep_10 hh hj l9)
 | 11, ho => obtain rfl : o = ⟨some 21, .call ⟨.builtin .append, #[.tmp 18, .tmp 20], #[25, 25]⟩, 25, "ref.go:373", #[⟨8, .data⟩, ⟨10, .data⟩, ⟨7, .chain⟩], none⟩ := Option.some.inj (ho.symm.trans rfl); have l8 : listed.getD 8 false = true := hall ⟨8, .data⟩ (by simp) rfl; have l10 : listed.getD 10 false = true := hall ⟨10, .data⟩ (by simp) rfl; exact wpOp_mono (fun a' w' h => CJJ.set 11 hs (by decide) h22 h) (cstep_11 hh hj l8 l10)
 | 12, ho => obtain rfl : o = ⟨some 22, .buildSlice 27 0 #[], 27, "ref.go:373", #[], none⟩ := Option.some.inj (ho.symm.trans rfl); exact wpOp_mono (fun a' w' h => CJJ.set 12 hs (by decide) h22 h) (cstep_12 hh hj)
 | 13, ho => obtain rfl : o = ⟨some 23, .fieldAddr 32 (.tmp 1) 6, 0, "ref.go:373", #[], none⟩ := Option.some.inj (ho.symm.trans rfl); exact wpOp_mono (fun a' w' h => CJJ.set 13 hs (by decide) h22 h) (cstep_13 hh hj)
 | 14, ho => obtain rfl : o = ⟨some 24, .load 27 (.tmp 23), 27, "ref.go:373", #[⟨13, .data⟩], none⟩ := Option.some.inj (ho.symm.trans rfl); have l13 : listed.getD 13 false = true := hall ⟨13, .data⟩ (by simp) rfl; exact wpOp_mono (fun a' w' h => CJJ.set 14 hs (by decide) h22 h) (cstep_14 hh hj l13)
 | 15, ho => obtain rfl : o = ⟨some 25, .call ⟨.builtin .append, #[.tmp 22, .tmp 24], #[27, 27]⟩, 27, "ref.go:373", #[⟨12, .data⟩, ⟨14, .data⟩, ⟨11, .chain⟩], none⟩ := Option.some.inj (ho.symm.trans rfl); have l12 : listed.getD 12 false = true := hall ⟨12, .data⟩ (by simp) rfl; have l14 : listed.getD 14 false = true := hall ⟨14, .data⟩ (by simp) rfl; exact wpOp_mono (fun a' w' h => CJJ.set 15 hs (by decide) h22 h) (cstep_15 hh hj l12 l14)
 | 16, ho => obtain rfl : o = ⟨some 26, .buildSlice 28 0 #[], 28, "ref.go:373", #[], none⟩ := Option.some.inj (ho.symm.trans rfl); exact wpOp_mono (fun a' w' h => CJJ.set 16 hs (by decide) h22 h) (cstep_16 hh hj)
 | 17, ho => obtain rfl : o = ⟨some 27, .fieldAddr 32 (.tmp 1) 7, 0, "ref.go:373", #[], none⟩ := Option.some.inj (ho.symm.trans rfl); exact wpOp_mono (fun a' w' h => CJJ.set 17 hs (by decide) h22 h) (cstep_17 hh hj)
 | 18, ho => obtain rfl : o = ⟨some 28, .load 28 (.tmp 27), 28, "ref.go:373", #[⟨17, .data⟩], none⟩ := Option.some.inj (ho.symm.trans rfl); have l17 : listed.getD 17 false = true := hall ⟨17, .data⟩ (by simp) rfl; exact wpOp_mono (fun a' w' h => CJJ.set 18 hs (by decide) h22 h) (cstep_18 hh hj l17)
 | 19, ho => obtain rfl : o = ⟨some 29, .call ⟨.builtin .append, #[.tmp 26, .tmp 28], #[28, 28]⟩, 28, "ref.go:373", #[⟨16, .data⟩, ⟨18, .data⟩, ⟨15, .chain⟩], none⟩ := Option.some.inj (ho.symm.trans rfl); have l16 : listed.getD 16 false = true := hall ⟨16, .data⟩ (by simp) rfl; have l18 : listed.getD 18 false = true := hall ⟨18, .data⟩ (by simp) rfl; exact wpOp_mono (fun a' w' h => CJJ.set 19 hs (by decide) h22 h) (cstep_19 hh hj l16 l18)
 | 20, ho => obtain rfl : o = ⟨some 30, .build 32 #[(1, .tmp 13), (3, .tmp 17), (4, .tmp 21), (6, .tmp 25), (7, .tmp 29)], 32, "ref.go:373", #[⟨3, .data⟩, ⟨7, .data⟩, ⟨11, .data⟩, ⟨15, .data⟩, ⟨19, .data⟩], none⟩ := Option.some.inj (ho.symm.trans rfl); have l3 : listed.getD 3 false = true := hall ⟨3, .data⟩ (by simp) rfl; have l7 : listed.getD 7 false = true := hall ⟨7, .data⟩ (by simp) rfl; have l11 : listed.getD 11 false = true := hall ⟨11, .data⟩ (by simp) rfl; have l15 : listed.getD 15 false = true := hall ⟨15, .data⟩ (by simp) rfl; have l19 : listed.getD 19 false = true := hall ⟨19, .data⟩ (by simp) rfl; exact wpOp_mono (fun a' w' h => CJJ.set 20 hs (by decide) h22 h) (cstep_20 hh hj l3 l7 l11 l15 l19)
 | 21, ho => obtain rfl : o = ⟨some 3, .alloc 32, 0, "ref.go:373", #[], none⟩ := Option.some.inj (ho.symm.trans rfl); exact wpOp_mono (fun a' w' h => CJJ.set 21 hs (by decide) h22 h) (cstep_21 hh hj)
 | 22, ho =>
   obtain rfl : o = ⟨none, .store 32 (.tmp 3) (.tmp 30), 0, "ref.go:373", #[⟨21, .data⟩, ⟨20, .data⟩, ⟨19, .chain⟩, ⟨0, .phase⟩, ⟨1, .phase⟩, ⟨2, .phase⟩, ⟨3, .phase⟩, ⟨4, .phase⟩, ⟨5, .phase⟩, ⟨6, .phase⟩, ⟨7, .phase⟩, ⟨8, .phase⟩, ⟨9, .phase⟩, ⟨10, .phase⟩, ⟨11, .phase⟩, ⟨12, .phase⟩, ⟨13, .phase⟩, ⟨14, .phase⟩, ⟨15, .phase⟩, ⟨16, .phase⟩, ⟨17, .phase⟩, ⟨18, .phase⟩, ⟨19, .phase⟩, ⟨20, .phase⟩, ⟨21, .phase⟩], none⟩ := Option.some.inj (ho.symm.trans rfl); have l0 : listed.getD 0 false = true := hall ⟨0, .phase⟩ (by simp) rfl; have l1 : listed.getD 1 false = true := hall ⟨1, .phase⟩ (by simp) rfl; have l2 : listed.getD 2 false = true := hall ⟨2, .phase⟩ (by simp) rfl; have l3 : listed.getD 3 false = true := hall ⟨3, .phase⟩ (by simp) rfl; have l4 : listed.getD 4 false = true := hall ⟨4, .phase⟩ (by simp) rfl; have l5 : listed.getD 5 false = true := hall ⟨5, .phase⟩ (by simp) rfl; have l6 : listed.getD 6 false = true := hall ⟨6, .phase⟩ (by simp) rfl; have l7 : listed.getD 7 false = true := hall ⟨7, .phase⟩ (by simp) rfl; have l8 : listed.getD 8 false = true := hall ⟨8, .phase⟩ (by simp) rfl; have l9 : listed.getD 9 false = true := hall ⟨9, .phase⟩ (by simp) rfl; have l10 : listed.getD 10 false = true := hall ⟨10, .phase⟩ (by simp) rfl; have l11 : listed.getD 11 false = true := hall ⟨11, .phase⟩ (by simp) rfl; have l12 : listed.getD 12 false = true := hall ⟨12, .phase⟩ (by simp) rfl; have l13 : listed.getD 13 false = true := hall ⟨13, .phase⟩ (by simp) rfl; have l14 : listed.getD 14 false = true := hall ⟨14, .phase⟩ (by simp) rfl
   have l15 : listed.getD 15 false = true := hall ⟨15, .phase⟩ (by simp) rfl; have l16 : listed.getD 16 false = true := hall ⟨16, .phase⟩ (by simp) rfl; have l17 : listed.getD 17 false = true := hall ⟨17, .phase⟩ (by simp) rfl; have l18 : listed.getD 18 false = true := hall ⟨18, .phase⟩ (by simp) rfl; have l19 : listed.getD 19 false = true := hall ⟨19, .phase⟩ (by simp) rfl; have l20 : listed.getD 20 false = true := hall ⟨20, .phase⟩ (by simp) rfl; have l21 : listed.getD 21 false = true := hall ⟨21, .phase⟩ (by simp) rfl; refine wpOp_mono (fun a' w' h => ⟨by rw [Array.size_setIfInBounds]; exact hs, .inr ⟨fun k hk => ?_, h⟩⟩) (cstep_22 hh hj l20 l21)
   rcases Nat.lt_or_ge k 22 with h | h
   · have hne : (22 : Nat) ≠ k := (by omega)
     rw [getD_set_ne false hne]
     match k, h with
     | 0, _ => exact l0
     | 1, _ => exact l1
     | 2, _ => exact l2
     | 3, _ => exact l3
     | 4, _ => exact l4
     | 5, _ => exact l5
     | 6, _ => exact l6
     | 7, _ => exact l7
     | 8, _ => exact l8
     | 9, _ => exact l9
     | 10, _ => exact l10
     | 11, _ => exact l11
     | 12, _ => exact l12
     | 13, _ => exact l13
     | 14, _ => exact l14
     | 15, _ => exact l15
     | 16, _ => exact l16
     | 17, _ => exact l17
     | 18, _ => exact l18
     | 19, _ => exact l19
     | 20, _ => exact l20
     | 21, _ => exact l21
     | n + 22, hn => exact absurd hn (by omega)
   · have : k = 22 := (by omega)
     subst this; rw [Array.getD_eq_getD_getElem?, Array.getElem?_setIfInBounds_self_of_lt (by omega)]; rfl
 | n + 23, ho => rw [Array.getElem?_eq_none (by show 23 ≤ n + 23; omega)] at ho; cases ho
theorem copy_region1 (hmix : Tryz.prog.follows .mixedOrders = true) {m : Md} {a1 : Option Addr} {k1 : Nat} {a3 : Option Addr} {k3 : Nat} {a4 : Option Addr} {k4 : Nat} {a6 : Option Addr} {k6 : Nat} {a7 : Option Addr} {k7 : Nat} {B H : Nat} {w : World} {Q : Exit → Act → World → Prop} {A C : Value} {f : Nat → Value} (hh : CH m a1 k1 a3 k3 a4 k4 a6 k6 a7 k7 B H w)
 (h : ∀ f' M b1 q1 b3 q3 b4 q4 b6 q6 b7 q7 w', f' 3 = .pointer (some ⟨M, 0, none⟩) → CE m B M w w' b1 q1 b3 q3 b4 q4 b6 q6 b7 q7 → Q .normal (fr A (.pointer (some ⟨H, 0, none⟩)) C f') w') :
 (Code.region 1 copyOps true).wp Tryz.prog Q (fr A (.pointer (some ⟨H, 0, none⟩)) C f) w := by
 refine wp_region_any hmix ?_; have hlen : copyOps.size = 23 := (by decide +kernel)
 refine wpAny_inv (CJJ m a1 k1 a3 k3 a4 k4 a6 k6 a7 k7 B H w A C) (fun listed a w' hJ i o ho hl hall => copy_step hh listed a w' hJ i o ho hl hall) (fun listed a w' hJ hr => ?_) copyOps.size _ _ _ ?_ ?_
 · obtain ⟨hs, ⟨h22, f', rfl, hj⟩ | ⟨_, f', M, b1, q1, b3, q3, b4, q4, b6, q6, b7, q7, rfl, e3, hce⟩⟩ := hJ
   · exfalso; have := copy_all hr hs 22 (by decide); rw [Array.getD_eq_getD_getElem?] at this h22; rw [Array.getElem?_eq_getElem (by omega)] at this h22
     simp_all
   · exact h _ _ _ _ _ _ _ _ _ _ _ _ _ e3 hce
 · rw [hlen]; refine ⟨by rw [Array.size_replicate], .inl ⟨by decide, f, rfl, ⟨(Below.refl _ _).drew, by rw [← hh.size]; exact Nat.le_refl _, fun i hi hl => ?_⟩⟩⟩; rw [Array.getD_eq_getD_getElem?, Array.getElem?_replicate] at hl; split at hl <;> cases hl
 · rw [hlen]; decide
def Fn (n : Nat) (f : Nat → Value) : Act := { tmps := ((List.range n).map f).toArray, defers := [] }
theorem fn_get {n : Nat} {f : Nat → Value} {t : Nat} (h : t < n) : (Fn n f).tmps[t]?.getD undef = f t := by simp [Fn, h]
theorem fn_eval {n : Nat} {f : Nat → Value} {t : Nat} (h : t < n) : (Fn n f).eval (.tmp t) = f t := by simp [Act.eval, Fn, h]
theorem fn_set {n : Nat} {f : Nat → Value} (d : Nat) (v : Value) : ({ tmps := (Fn n f).tmps.setIfInBounds d v, defers := (Fn n f).defers } : Act) = Fn n (upd f d v) := by
 have : (Fn n f).tmps.setIfInBounds d v = (Fn n (upd f d v)).tmps := by
  apply Array.ext
  · simp [Fn]
  · intro i h1 h2; have hi : i < n := (by simpa [Fn] using h2)
    rw [Array.getElem_setIfInBounds (by simpa [Fn] using hi)]; simp only [Fn, List.getElem_toArray, List.getElem_map, List.getElem_range, upd]
    by_cases h : d = i
    · rw [if_pos h, if_pos h.symm]
    · rw [if_neg h, if_neg (fun e => h e.symm)]
 rw [this]; rfl
theorem fn_put {n : Nat} {f : Nat → Value} (d : Nat) (v : Value) : (Fn n f).put (some d) v = Fn n (upd f d v) := fn_set d v
theorem fn_of (l : List Value) : ({ tmps := l.toArray, defers := [] } : Act) = Fn l.length (fun k => l[k]?.getD undef) := by
 have : l.toArray = (Fn l.length (fun k => l[k]?.getD undef)).tmps := by
  apply Array.ext
  · simp [Fn]
  · intro i h1 h2; have hi : i < l.length := (by simpa using h1)
    simp [Fn, hi]
 rw [this]; rfl
theorem wp_fn {P : Program} {Q : Exit → Act → World → Prop} {c : Code} {w : World} (l : List Value) (n : Nat) (hn : l.length = n) (h : c.wp P Q (Fn n fun k => l[k]?.getD undef) w) : c.wp P Q { tmps := l.toArray, defers := [] } w := by subst hn; rw [fn_of]; exact h
def over (f0 f : Nat → Value) (lo hi : Nat) : Nat → Value := fun t => if lo ≤ t ∧ t ≤ hi then f t else f0 t
theorem over_eq {f0 f : Nat → Value} {lo hi : Nat} (h : ∀ t, ¬ (lo ≤ t ∧ t ≤ hi) → f t = f0 t) : f = over f0 f lo hi := by
 funext t; unfold over; split
 · rfl
 · rename_i h'; exact h t h'
theorem all_listed {ops : Array Oper} {listed : Array Bool} (hlow : ∀ i, i < ops.size → ((ops[i]?).map fun o => o.after.all fun e => decide (e.on < i)) = some true) (hr : Region.ready .any ops listed = []) (hs : listed.size = ops.size) :
 ∀ i, i < ops.size → listed.getD i true = true := by
 intro i
 induction i using Nat.strongRecOn with
 | ind i ih =>
   intro hi; cases hl : listed.getD i true with
   | true => rfl
   | false =>
     exfalso; have hlow := hlow i hi; obtain ⟨o, ho, hall⟩ := Option.map_eq_some_iff.1 hlow
     have hm : i ∈ Region.ready .any ops listed := mem_ready.2 ⟨hl, o, ho, fun e he _ => by
      have hlt : e.on < i := (by simpa using Array.all_eq_true_iff_forall_mem.1 hall e he)
      have := ih e.on hlt (by omega); rw [Array.getD_eq_getD_getElem?] at this ⊢; rw [Array.getElem?_eq_getElem (by omega)] at this ⊢; exact this⟩
     rw [hr] at hm; cases hm
theorem getD_flip {l : Array Bool} {i : Nat} {c d : Bool} (h : i < l.size) : l.getD i c = l.getD i d := by rw [Array.getD_eq_getD_getElem?, Array.getD_eq_getD_getElem?, Array.getElem?_eq_getElem h]; rfl
theorem getD_self {l : Array Bool} {i : Nat} (c : Bool) (h : i < l.size) : (l.setIfInBounds i true).getD i c = true := by rw [Array.getD_eq_getD_getElem?, Array.getElem?_setIfInBounds_self_of_lt h]; rfl
def InvJ (n s : Nat) (J : Array Bool → (Nat → Value) → World → Prop) (F : (Nat → Value) → World → Prop) (listed : Array Bool) (a : Act) (w : World) : Prop :=
 listed.size = s + 1 ∧ ((listed.getD s false = false ∧ ∃ f, a = Fn n f ∧ J listed f w) ∨ ((∀ i, i < s + 1 → listed.getD i false = true) ∧ ∃ f, a = Fn n f ∧ F f w))
theorem region_inv {P : Program} {Q : Exit → Act → World → Prop} {id : Nat} {ops : Array Oper} {f0 : Nat → Value} {w : World} (hmix : P.follows .mixedOrders = true) (n s : Nat) (hs : ops.size = s + 1)
 (J : Array Bool → (Nat → Value) → World → Prop) (F : (Nat → Value) → World → Prop)
 (hlow : ∀ i, i < ops.size → ((ops[i]?).map fun o => o.after.all fun e => decide (e.on < i)) = some true)
 (hlast : ∀ j, j < s → ((ops[s]?).map fun o => o.after.any fun e => decide (e.on = j) && Region.binds .any e) = some true)
 (start : J (Array.replicate (s + 1) false) f0 w.drew)
 (step : ∀ i o, i < s → ops[i]? = some o → ∀ listed f w, listed.size = s + 1 → listed.getD i false = false → (∀ e ∈ o.after, Region.binds .any e = true → listed.getD e.on false = true) → J listed f w →
  wpOp P ops Q i (fun a' w' => ∃ f', a' = Fn n f' ∧ J (listed.setIfInBounds i true) f' w') (Fn n f) w)
 (last : ∀ listed f w, (∀ j, j < s → listed.getD j false = true) → J listed f w → wpOp P ops Q s (fun a' w' => ∃ f', a' = Fn n f' ∧ F f' w') (Fn n f) w)
 (fin : ∀ f w, F f w → Q .normal (Fn n f) w) : (Code.region id ops true).wp P Q (Fn n f0) w := by
 refine wp_region_any hmix ?_; refine wpAny_inv (InvJ n s J F) (fun listed a w' hJ i o ho hl hall => ?_) (fun listed a w' hJ hr => ?_) ops.size _ _ _ ?_ ?_
 · obtain ⟨hsz, ⟨hsl, f, rfl, hj⟩ | ⟨hall', _⟩⟩ := hJ
   · have hi : i < s + 1 := by
      rcases Nat.lt_or_ge i ops.size with h | h
      · omega
      · rw [Array.getElem?_eq_none h] at ho; cases ho
     by_cases his : i = s
     · subst his
       have hbef : ∀ j, j < i → listed.getD j false = true := fun j hj => by
        have := hlast j hj; rw [ho] at this; simp only [Option.map_some, Option.some.injEq] at this; rw [Array.any_eq_true] at this; obtain ⟨k, hk, h⟩ := this; simp only [Bool.and_eq_true, decide_eq_true_eq] at h; have := hall _ (Array.getElem_mem hk) h.2; rw [h.1] at this; exact this
       refine wpOp_mono (fun a' w' h => ⟨by rw [Array.size_setIfInBounds]; exact hsz, .inr ⟨fun k hk => ?_, h⟩⟩) (last listed f w' hbef hj)
       by_cases hk' : i = k
       · subst hk'; exact getD_self _ (by omega)
       · rw [getD_set_ne _ hk']; exact hbef k (by omega)
     · refine wpOp_mono (fun a' w' h => ⟨by rw [Array.size_setIfInBounds]; exact hsz, .inl ⟨(getD_set_ne false his).trans hsl, h⟩⟩) (step i o (by omega) ho listed f w' hsz (by rw [← hl]; exact getD_flip (by omega)) hall hj)
   · exfalso
     have hi : i < s + 1 := by
      rcases Nat.lt_or_ge i ops.size with h | h
      · omega
      · rw [Array.getElem?_eq_none h] at ho; cases ho
     have := hall' i hi; rw [getD_flip (d := true) (by omega)] at this; rw [hl] at this; cases this
 · obtain ⟨hsz, ⟨h22, f', rfl, hj⟩ | ⟨_, f', rfl, hf⟩⟩ := hJ
   · exfalso; have := all_listed hlow hr (by omega) s (by omega); rw [getD_flip (d := false) (by omega)] at this; rw [h22] at this; cases this
   · exact fin f' w' hf
 · rw [hs]; refine ⟨by rw [Array.size_replicate], .inl ⟨?_, f0, rfl, start⟩⟩; rw [Array.getD_eq_getD_getElem?, Array.getElem?_replicate]; split <;> rfl
 · rw [hs]; unfold leftN; rw [Array.toList_replicate]; exact Nat.le_trans List.countP_le_length (by simp)
theorem add_cell (h j : Nat) : ((⟨h, 0, none⟩ : Addr).add j) = ⟨h, j, none⟩ := by unfold Addr.add; split <;> simp_all
def StR (B M : Nat) (v : Value) : Nat → Prop := fun b => B ≤ b ∧ b ≠ M ∧ some b ≠ v.ownBlock
def KL (L : Nat) (w w' : World) : Prop := KeepsR (fun b => L ≤ b) (fun b => L ≤ b) w w'
theorem KL.of_below {L : Nat} {w w' : World} (h : Below w.heap.size w w') : KL L w w' := KeepsR.below h
structure Rec (α : Type) where
 enc : α → List Value
 ok : (Nat → Prop) → World → α → Prop
 keep : ∀ R S w w' t, KeepsR R S w w' → ok R w t → ok S w' t
structure St where
 p : (Nat → Prop) → World → Prop
 keep : ∀ R S w w', KeepsR R S w w' → p R w → p S w'
structure OwnS {α : Type} (C : Rec α) (S : St) (e size B M : Nat) (w : World) (v : Value) (i : Nat) (ts : List α) : Prop where
 own : w.ownsRow (M + 1) e size v i (ts.flatMap C.enc)
 oks : ∀ t ∈ ts, C.ok (StR B M v) w t
 st : S.p (StR B M v) w
theorem OwnS.below {α : Type} {C : Rec α} {S : St} {e size B M : Nat} {w w' : World} {v : Value} {i : Nat} {ts : List α} (h : OwnS C S e size B M w v i ts) (hb : Below w.heap.size w w') : OwnS C S e size B M w' v i ts :=
 ⟨own_below h.own hb, fun t ht => C.keep _ _ _ _ _ (KeepsR.below hb) (h.oks t ht), S.keep _ _ _ _ (KeepsR.below hb) h.st⟩
theorem OwnS.grow {α : Type} {C : Rec α} {S : St} {e size B M L : Nat} {w w' : World} {v : Value} {i : Nat} {ts : List α} {t : α} {g cap : Nat} (h : OwnS C S e size B M w v i ts) (hBM : B ≤ M) (hML : M < L) (hL : ∀ k, v.ownBlock = some k → k < L)
 (hok : C.ok (fun b => L ≤ b) w t) (ho : w'.ownsRow (M + 1) e size (.slice (some ⟨g, 0, none⟩) (i + 1) cap) (i + 1) (ts.flatMap C.enc ++ C.enc t)) (hgrow : w.grownBy w' v.ownBlock) (hat : v.ownBlock = some g ∨ g = w.heap.size) :
 OwnS C S e size B M w' (.slice (some ⟨g, 0, none⟩) (i + 1) cap) (i + 1) (ts ++ [t]) := by
 have hk : KeepsR (StR B M v) (StR B M (.slice (some ⟨g, 0, none⟩) (i + 1) cap)) w w' := by
  refine ⟨fun a u hr hc => hgrow.cell hc hr.2.2, fun b hr hl => ⟨hr.1, hr.2.1, fun e => ?_⟩⟩; have e : b = g := Option.some.inj e
  rcases hat with h | h
  · exact hr.2.2 (by rw [h, e])
  · omega
 refine ⟨by rw [List.flatMap_append]; simpa using ho, fun s hs => ?_, S.keep _ _ _ _ hk h.st⟩
 rcases List.mem_append.1 hs with h1 | h1
 · exact C.keep _ _ _ _ _ hk (h.oks s h1)
 · obtain rfl := List.mem_singleton.1 h1; exact C.keep _ _ _ _ _ (hk.imp fun k h1 h2 => ⟨by omega, by omega, fun e => by have := hL k e.symm; omega⟩) hok
theorem kl_grow {L : Nat} {w w' : World} {v : Value} (hL : ∀ k, v.ownBlock = some k → k < L) (hg : w.grownBy w' v.ownBlock) : KL L w w' :=
 ⟨fun a u hr hc => hg.cell hc (fun e => by have := hL _ e.symm; omega), fun b hb _ => hb⟩
structure NBox (M : Nat) (w : World) (vs : Array Value) : Prop where
 cells : Box w M vs
 frozen : ∀ j, w.frozen? ⟨M, j, none⟩ = false
 hi : M < w.heap.size
theorem NBox.below {M : Nat} {w w' : World} {vs : Array Value} (h : NBox M w vs) (hb : Below w.heap.size w w') : NBox M w' vs :=
 ⟨h.cells.keep (keep_below hb), fun j => (hb.frozen (p := ⟨M, j, none⟩) h.hi).trans (h.frozen j), Nat.lt_of_lt_of_le h.hi hb.size⟩
theorem NBox.grown {M : Nat} {w w' : World} {vs : Array Value} {row : Option Nat} (h : NBox M w vs) (hg : w.grownBy w' row) (hr : ∀ k, row = some k → k ≠ M) : NBox M w' vs := by have hM : some M ≠ row := fun e => hr M e.symm rfl; refine ⟨fun j v e => hg.cell (h.cells j v e) hM, fun j => ?_, Nat.lt_of_lt_of_le h.hi hg.size⟩; rw [World.frozen?_of_block (w := w) (w' := w') (a := ⟨M, j, none⟩) (hg.block M h.hi hM)]; exact h.frozen j
theorem NBox.set {M j : Nat} {w : World} {vs : Array Value} (h : NBox M w vs) (hj : j < vs.size) (v : Value) : NBox M (w.setCell ⟨M, j, none⟩ v) (vs.setIfInBounds j v) := by
 refine ⟨fun k u hu => ?_, fun k => by rw [World.frozen?_setCell]; exact h.frozen k, by simpa [World.setCell] using h.hi⟩
 by_cases hjk : j = k
 · subst hjk; rw [Array.getElem?_setIfInBounds_self_of_lt hj] at hu; cases hu; exact so_same (h.cells j vs[j] (by simp [hj]))
 · rw [Array.getElem?_setIfInBounds_ne hjk] at hu; exact so_other (h.cells k u hu) (.inr hjk)
structure MR (L : Nat) where
 p : Value → World → Prop
 keep : ∀ v w w', KL L w w' → p v w → p v w'
def mEq (L : Nat) (u : Value) : MR L := ⟨fun v _ => v = u, fun _ _ _ _ h => h⟩
def mNew (L : Nat) : MR L := ⟨fun v _ => ∃ h, v = .slice (some ⟨h, 0, none⟩) 0 0 ∧ L ≤ h, fun _ _ _ _ h => h⟩
def mInts (L : Nat) (l : List Int) : MR L := ⟨fun v w => ∃ a c, v = .slice a l.length c ∧ IntsR (fun b => L ≤ b) w a l, fun _ _ _ f ⟨a, c, e, h⟩ => ⟨a, c, e, h.keep f⟩⟩
def mIl (L : Nat) (l : Il) : MR L := ⟨fun v w => ∃ a c, v = .slice a l.len c ∧ SlR (fun b => L ≤ b) w a l, fun _ _ _ f ⟨a, c, e, h⟩ => ⟨a, c, e, h.keep f⟩⟩
def mRec (L : Nat) {α : Type} (C : Rec α) (P : α → Prop) : MR L := ⟨fun v w => ∃ t, v = .agg (C.enc t).toArray ∧ C.ok (fun b => L ≤ b) w t ∧ P t, fun _ w w' f ⟨t, e, h, hp⟩ => ⟨t, e, C.keep _ _ _ _ _ f h, hp⟩⟩
def mRow (L : Nat) {α : Type} (C : Rec α) (P : α → Prop) : MR L :=
 ⟨fun v w => ∃ h t, v = .slice (some ⟨h, 0, none⟩) 1 1 ∧ L ≤ h ∧ (∀ j u, (C.enc t)[j]? = some u → w.cell? ⟨h, j, none⟩ = some u) ∧ C.ok (fun b => L ≤ b) w t ∧ P t,
  fun _ w w' f ⟨h, t, e, hL, hc, ho, hp⟩ => ⟨h, t, e, hL, fun j u hj => f.1 _ _ hL (hc j u hj), C.keep _ _ _ _ _ f ho, hp⟩⟩
def mCells (L : Nat) (vs : List Value) : MR L :=
 ⟨fun v w => ∃ h, v = .slice (some ⟨h, 0, none⟩) 1 1 ∧ L ≤ h ∧ ∀ j u, vs[j]? = some u → w.cell? ⟨h, j, none⟩ = some u, fun _ w w' f ⟨h, e, hL, hc⟩ => ⟨h, e, hL, fun j u hj => f.1 _ _ hL (hc j u hj)⟩⟩
def mElP (L : Nat) (l : Il) : MR L :=
 ⟨fun v w => ∃ b o, v = .pointer (some ⟨b, o, none⟩) ∧ L ≤ b ∧ IlR (fun b => L ≤ b) w b o l, fun _ w w' f ⟨b, o, e, hL, h⟩ => ⟨b, o, e, hL, IlR.keep f _ _ _ hL h⟩⟩
structure JJ {α : Type} (C : Rec α) (S : St) (e size B M L : Nat) (w1 : World) (vs : Array Value) (v0 : Value) (i : Nat) (ts : List α) (P : α → Prop) (R : Nat → MR L) (D : Nat → Nat) (lo hi k s : Nat) (f0 : Nat → Value) (listed : Array Bool) (f : Nat → Value) (w : World) : Prop where
 others : ∀ t, ¬ (lo ≤ t ∧ t ≤ hi) → f t = f0 t
 arg : Below B w1 w
 lsz : L ≤ w.heap.size
 box : NBox M w vs
 own : listed.getD k false = false → OwnS C S e size B M w v0 i ts
 r : ∀ j, j < s → j ≠ k → listed.getD j false = true → (R j).p (f (D j)) w
 rk : listed.getD k false = true → ∃ g cap t, f (D k) = .slice (some ⟨g, 0, none⟩) (i + 1) cap ∧ P t ∧ OwnS C S e size B M w (.slice (some ⟨g, 0, none⟩) (i + 1) cap) (i + 1) (ts ++ [t])
section
variable {α : Type} {C : Rec α} {S : St} {e size B M L : Nat} {w1 : World} {vs : Array Value} {v0 : Value} {i : Nat} {ts : List α} {P : α → Prop} {R : Nat → MR L} {D : Nat → Nat} {lo hi k s : Nat} {f0 : Nat → Value} {listed : Array Bool} {f : Nat → Value} {w w' : World}
theorem JJ.next (hB : B ≤ L) (h : JJ C S e size B M L w1 vs v0 i ts P R D lo hi k s f0 listed f w) (j : Nat) (hj : j < s) (hjk : j ≠ k) (hin : lo ≤ D j ∧ D j ≤ hi) (hinj : ∀ q, q < s → D q = D j → q = j) (hks : k < s) (hb : Below w.heap.size w w') {v : Value} (hv : (R j).p v w') :
 JJ C S e size B M L w1 vs v0 i ts P R D lo hi k s f0 (listed.setIfInBounds j true) (upd f (D j) v) w' := by
 refine ⟨fun t ht => ?_, h.arg.trans (hb.mono (Nat.le_trans hB h.lsz)), Nat.le_trans h.lsz hb.size, h.box.below hb, fun hl => ?_, fun q hq hqk hl => ?_, fun hl => ?_⟩
 · rw [show upd f (D j) v t = f t from if_neg (fun e => ht (by rw [e]; exact hin))]; exact h.others t ht
 · rw [getD_set_ne false hjk] at hl; exact (h.own hl).below hb
 · by_cases hqj : j = q
   · subst hqj; rw [show upd f (D j) v (D j) = v from if_pos rfl]; exact hv
   · rw [show upd f (D j) v (D q) = f (D q) from if_neg (fun e => hqj (hinj q hq e).symm)]; exact (R q).keep _ _ _ (KL.of_below hb) (h.r q hq hqk (getD_set_ne2 hqj hl))
 · obtain ⟨g, cap, t, e, hp, ho⟩ := h.rk (getD_set_ne2 hjk hl); exact ⟨g, cap, t, by rw [show upd f (D j) v (D k) = f (D k) from if_neg (fun e => hjk (hinj k hks e).symm)]; exact e, hp, ho.below hb⟩
theorem JJ.nextk (hB : B ≤ M) (hML : M < L) (hlL : ∀ q, v0.ownBlock = some q → q < L) (h : JJ C S e size B M L w1 vs v0 i ts P R D lo hi k s f0 listed f w) (hin : lo ≤ D k ∧ D k ≤ hi) (hinj : ∀ q, q < s → D q = D k → q = k) (hks : k < s) (hsz : k < listed.size)
 (hkl : listed.getD k false = false) {g cap : Nat} {t : α} (hp : P t) (hok : C.ok (fun b => L ≤ b) w t)
 (ho : w'.ownsRow (M + 1) e size (.slice (some ⟨g, 0, none⟩) (i + 1) cap) (i + 1) (ts.flatMap C.enc ++ C.enc t)) (hgrow : w.grownBy w' v0.ownBlock) (hat : v0.ownBlock = some g ∨ g = w.heap.size) :
 JJ C S e size B M L w1 vs v0 i ts P R D lo hi k s f0 (listed.setIfInBounds k true) (upd f (D k) (.slice (some ⟨g, 0, none⟩) (i + 1) cap)) w' := by
 have hown := h.own hkl; refine ⟨fun t ht => ?_, h.arg.grown hgrow (by have := h.lsz; omega) (fun q e => by have := (hown.own.lt q e).1; omega), Nat.le_trans h.lsz hgrow.size, h.box.grown hgrow (fun q e => by have := (hown.own.lt q e).1; omega), fun hl => ?_, fun q hq hqk hl => ?_, fun hl => ?_⟩
 · rw [show upd f (D k) _ t = f t from if_neg (fun e => ht (by rw [e]; exact hin))]; exact h.others t ht
 · rw [getD_self _ hsz] at hl; cases hl
 · rw [show upd f (D k) _ (D q) = f (D q) from if_neg (fun e => hqk (hinj q hq e))]; exact (R q).keep _ _ _ (kl_grow hlL hgrow) (h.r q hq hqk (getD_set_ne2 (fun e => hqk e.symm) hl))
 · exact ⟨g, cap, t, if_pos rfl, hp, hown.grow hB hML hlL hok ho hgrow hat⟩
theorem JJ.keeps (h : JJ C S e size B M L w1 vs v0 i ts P R D lo hi k s f0 listed f w) (hB : w1.heap.size = B) : Keeps w1 w := keep_below (by rw [hB]; exact h.arg)
end
theorem OwnS.set {α : Type} {C : Rec α} {S : St} {e size B M j : Nat} {w : World} {v u : Value} {i : Nat} {ts : List α} (h : OwnS C S e size B M w v i ts) : OwnS C S e size B M (w.setCell ⟨M, j, none⟩ u) v i ts := by
 have hk : KeepsR (StR B M v) (StR B M v) w (w.setCell ⟨M, j, none⟩ u) := ⟨fun a x hr hc => by rw [World.cell?_setCell_far w ⟨M, j, none⟩ a _ (fun e => hr.2.1 e.symm)]; exact hc, fun b hb _ => hb⟩
 refine ⟨?_, fun t ht => C.keep _ _ _ _ _ hk (h.oks t ht), S.keep _ _ _ _ hk h.st⟩; refine ⟨h.own.1, ?_⟩
 rcases h.own.2 with hn | ⟨g, cap, cur, rfl, hb, hgg, rest⟩
 · exact .inl hn
 · refine .inr ⟨g, cap, cur, rfl, hb, ?_, rest⟩; rw [Below.heap_setCell w ⟨M, j, none⟩ u g (by show g ≠ M; omega)]; exact hgg
end Go.Proofs.YtanpjbbhhofkfaaGreatDoor
