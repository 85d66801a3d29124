/- Validate, the program's and the reference's. -/
import Derived.Test.YtacohbllbjgdgaaDoorXz
import Derived.Test.YtacohbllbjgdgaaDoorWm
namespace Go.Proofs.YtacohbllbjgdgaaDoor
open Go.RowKit
set_option linter.unusedVariables false
set_option linter.unusedSimpArgs false

section
variable {w : World} {A : MA} {m : Md}
set_option maxRecDepth 100000 in
set_option maxHeartbeats 2000000 in
theorem validate_any (hA : MdA w m A) (hT : TabU w) :
    Calls Tryd.prog 5 #[.agg #[(A.v m).v0, (A.v m).v1, (A.v m).v2, (A.v m).v3, (A.v m).v4, (A.v m).v5, (A.v m).v6, (A.v m).v7, (A.v m).v8, (A.v m).v9]] w fun e w' => e = .returned (.int .i64 (whereV m).2) ∧ Below w.heap.size w w' := by
  have hbm := bm_new hA
  have hwh := where_any hbm.m (hT.below (Below.of_alloc w _))
  obtain ⟨w1, hw1⟩ : ∃ w1, w1 = w.alloc (boxM A m) := ⟨_, rfl⟩
  obtain ⟨B, hB⟩ : ∃ B, B = w.heap.size := ⟨_, rfl⟩
  rw [← hw1, ← hB] at hbm
  rw [← hw1] at hwh
  unfold boxM at hw1
  unfold MA.v at hwh
  dsimp only at hwh
  obtain ⟨x0, x1, x2, x3, x4, x5, x6, x7, x8, x9⟩ := box_c hbm.h
  go_enter Tryd.func5, Tryd.ntmps5
  go_upto_region 1 with (fail)
  rw [← hw1]
  rw [← hB]
  clear hw1
  replace hB := Lib.hid hB
  replace hbm := Lib.hid hbm
  replace hwh := Lib.hid hwh
  go_wp2_with fail
  refine hwh.out.mono ?_
  rintro e w2 ⟨rfl, b2⟩
  have hbm2 := Lib.hid (hbm.out.step b2)
  clear hwh x0 x1 x2 x3 x4 x5 x6 x7 x8 x9 hbm
  go_wp2
  go_ret
  exact ⟨rfl, hbm2.out.b⟩
end

end Go.Proofs.YtacohbllbjgdgaaDoor
namespace Go.Proofs.YtacohbllbjgdgaaDoor
open Go.RowKit
set_option linter.unusedVariables false
set_option linter.unusedSimpArgs false

theorem info36s : (Tryd.prog.info? 40).map (·.size) = some 10 := by kernel_rfl
def mdOne (l : Il) : Md := mdTF [([], [127])] [(0, [], l)]
/-- An instruction whose lists are empty. -/
def cE (op x n : Int) : ERec := ⟨op, x, 0, n, [], .nil, .nil, none, 0, none, 0, none, 0⟩
theorem cE_ok (R : Nat → Prop) (w : World) (op x n : Int) : EOk R w (cE op x n) := ⟨⟨Nat.zero_le _, .inl rfl⟩, Nat.zero_le _, .inl rfl, Nat.zero_le _, .inl rfl⟩
theorem lit_il {w : World} {h : Nat} {ts : List (Int × Int × Int)} (hc : ∀ j u, ((ts.map fun t => cE t.1 t.2.1 t.2.2).flatMap eV)[j]? = some u → w.cell? ⟨h, j, none⟩ = some u) : IlIn w (some ⟨h, 0, none⟩) 0 (ilOf (ts.map fun t => cE t.1 t.2.1 t.2.2) .nil) :=
  .inr ⟨h, 0, rfl, IlR.at (R := fun _ => True) _ _ _ (row_il _ 0 (fun j u hj => by rw [Nat.zero_add]; exact hc j u hj) fun t ht => by
    obtain ⟨q, _, rfl⟩ := List.mem_map.1 ht
    exact cE_ok _ _ _ _ _)⟩
theorem new_at {w : World} {h : Nat} (hh : w.heap.size = h) (o : Obj) : (w.alloc o).heap[h]? = some o := by rw [← hh]; exact heap_alloc_new w o
theorem old_at {w : World} {h k : Nat} (hh : w.heap.size = h) (hk : k < h) {o u : Obj} (hu : w.heap[k]? = some u) : (w.alloc o).heap[k]? = some u := (Below.heap_alloc _ _ _ (by omega)).trans hu
theorem four (w : World) {h : Nat} (hh : w.heap.size = h) (o0 o1 o2 o3 : Obj) : ((((w.alloc o0).alloc o1).alloc o2).alloc o3).heap[h]? = some o0 ∧ ((((w.alloc o0).alloc o1).alloc o2).alloc o3).heap[h + 1]? = some o1 ∧
    ((((w.alloc o0).alloc o1).alloc o2).alloc o3).heap[h + 1 + 1]? = some o2 ∧ ((((w.alloc o0).alloc o1).alloc o2).alloc o3).heap[h + 1 + 1 + 1]? = some o3 := by
  have s1 := size_of hh o0
  have s2 := size_of s1 o1
  have s3 := size_of s2 o2
  exact ⟨old_at s3 (by omega) (old_at s2 (by omega) (old_at s1 (by omega) (new_at hh o0))), old_at s3 (by omega) (old_at s2 (by omega) (new_at s1 o1)), old_at s3 (by omega) (new_at s2 o2), new_at s3 o3⟩
set_option maxRecDepth 100000 in
set_option maxHeartbeats 2000000 in
theorem onem_any {w : World} {a : Option Addr} {l : Il} {c : Nat} (hl : l.len ≤ 9223372036854775807) (hi : IlIn w a 0 l) :
    Calls Tryd.prog 8 #[.slice a l.len c] w fun e w' => ∃ A : MA, e = .returned (.agg #[(A.v (mdOne l)).v0, (A.v (mdOne l)).v1, (A.v (mdOne l)).v2, (A.v (mdOne l)).v3, (A.v (mdOne l)).v4, (A.v (mdOne l)).v5, (A.v (mdOne l)).v6, (A.v (mdOne l)).v7, (A.v (mdOne l)).v8, (A.v (mdOne l)).v9]) ∧ MdA w' (mdOne l) A ∧ Below w.heap.size w w' := by
  obtain ⟨W, hW⟩ : ∃ W, W = (((w.alloc (.cells #[.slice (some ⟨w.heap.size + 1 + 1, 0, none⟩) 1 1, .slice none 0 0, .slice (some ⟨w.heap.size + 1 + 1 + 1, 0, none⟩) 1 1, .slice none 0 0, .slice none 0 0, .slice none 0 0, .slice none 0 0, .slice none 0 0, .slice none 0 0, .slice none 0 0] 40)).alloc
    (.cells #[.int .i64 127] 3)).alloc (.cells #[.slice none 0 0, .slice (some ⟨w.heap.size + 1, 0, none⟩) 1 1] 28)).alloc (.cells #[.int .i64 0, .slice none 0 0, .slice a l.len c] 31) := ⟨_, rfl⟩
  have hb : Below w.heap.size w W := by rw [hW]; exact ((((Below.refl _ _).alloc (Nat.le_refl _) _).alloc (by simp) _).alloc (by simp; omega) _).alloc (by simp; omega) _
  obtain ⟨h, hh⟩ : ∃ h, w.heap.size = h := ⟨_, rfl⟩
  rw [hh] at hW
  obtain ⟨k0, k1, k2, k3⟩ := four w hh (.cells #[.slice (some ⟨h + 1 + 1, 0, none⟩) 1 1, .slice none 0 0, .slice (some ⟨h + 1 + 1 + 1, 0, none⟩) 1 1, .slice none 0 0, .slice none 0 0, .slice none 0 0, .slice none 0 0, .slice none 0 0, .slice none 0 0, .slice none 0 0] 40) (.cells #[.int .i64 127] 3) (.cells #[.slice none 0 0, .slice (some ⟨h + 1, 0, none⟩) 1 1] 28) (.cells #[.int .i64 0, .slice none 0 0, .slice a l.len c] 31)
  rw [← hW] at k0 k1 k2 k3
  have hm : MdA W (mdOne l) ⟨some ⟨h + 1 + 1, 0, none⟩, 1, none, 0, some ⟨h + 1 + 1 + 1, 0, none⟩, 1, none, 0, none, 0, none, 0, none, 0, none, 0, none, 0, none, 0⟩ := by
    refine md_TF (rows_one ⟨⟨none, 0, ?_, ints_nil _⟩, ⟨some ⟨h + 1, 0, none⟩, 1, ?_, ints_one ?_⟩⟩) (rows_one ⟨?_, ⟨none, 0, ?_, ints_nil _⟩, ⟨a, c, ?_, hl, ?_⟩⟩)
    · rw [cell_of_row W _ _ _ _ _ k2]; rfl
    · rw [cell_of_row W _ _ _ _ _ k2]; rfl
    · rw [cell_of_row W _ _ _ _ _ k1]; rfl
    · show W.cell? _ = _
      rw [cell_of_row W _ _ _ _ _ k3]; rfl
    · rw [cell_of_row W _ _ _ _ _ k3]; rfl
    · rw [cell_of_row W _ _ _ _ _ k3]; rfl
    · exact hi.keep (keep_below hb)
  go_enter Tryd.func8, Tryd.ntmps8
  go_wp2_with fail
  rw [hh, ← hW]
  (try simp only [Exit.inBlock, Exit.then])
  refine bodyPost_ret (results_cell_row (P := Tryd.prog) rfl _ _ h 40 _ (0, 0) _ rfl k0 Tryd.underlying40 rfl info36s) rfl ?_
  exact ⟨_, rfl, hm, by rw [← hh]; exact hb⟩
end Go.Proofs.YtacohbllbjgdgaaDoor
namespace Go.Proofs.YtacohbllbjgdgaaDoor
open Go.RowKit
set_option linter.unusedVariables false
set_option linter.unusedSimpArgs false

def wkL (ts : List (Int × Int × Int)) : Il := ilOf (ts.map fun t => cE t.1 t.2.1 t.2.2) .nil
theorem wk1_where : whereV (mdOne (wkL [(66, 0, 0)])) = (0, 60) := by decide +kernel
theorem wk2_where : whereV (mdOne (wkL [(65, 0, 1)])) = (-1, 0) := by decide +kernel
theorem wk3_where : whereV (mdOne (wkL [(0, 0, 0), (26, 0, 0), (65, 0, 1)])) = (-1, 0) := by decide +kernel
theorem wk4_where : whereV (mdOne (wkL [(12, 1, 0)])) = (0, 61) := by decide +kernel
theorem lit_new (w : World) (ts : List (Int × Int × Int)) (cs : Array Value) (ty : TypeId) (h : cs.toList = (ts.map fun t => cE t.1 t.2.1 t.2.2).flatMap eV) : IlIn (w.alloc (.cells cs ty)) (some ⟨w.heap.size, 0, none⟩) 0 (wkL ts) :=
  lit_il fun j u e => (World.cell?_alloc_at _ _ _ j rfl).trans (by rw [← Array.getElem?_toList, h]; exact e)
theorem onem' {w : World} {a : Option Addr} {l : Il} {n c : Nat} {m : Md} (hm : mdOne l = m) (hn : l.len = n) (hl : n ≤ 9223372036854775807) (hi : IlIn w a 0 l) :
    Calls Tryd.prog 8 #[.slice a n c] w fun e w' => ∃ A : MA, e = .returned (.agg #[(A.v m).v0, (A.v m).v1, (A.v m).v2, (A.v m).v3, (A.v m).v4, (A.v m).v5, (A.v m).v6, (A.v m).v7, (A.v m).v8, (A.v m).v9]) ∧ MdA w' m A ∧ Below w.heap.size w w' := by
  subst hm hn
  exact onem_any hl hi
set_option maxRecDepth 100000 in
set_option maxHeartbeats 4000000 in
theorem vwakes_any {w : World} (hT : TabU w) : Calls Tryd.prog 6 #[] w fun e w' => e = .returned (.bool true) ∧ Below w.heap.size w w' := by
  obtain ⟨W1, hW1⟩ : ∃ W1, W1 = w.alloc (.cells #[.int .i64 65, .int .i64 0, .int .i64 0, .int .i64 1, .slice none 0 0, .slice none 0 0, .slice none 0 0] 26) := ⟨_, rfl⟩
  obtain ⟨p, hp⟩ : ∃ p, p = w.heap.size := ⟨_, rfl⟩
  have hb1 : Below w.heap.size w W1 := by rw [hW1]; exact Below.of_alloc _ _
  have hz : ∀ j v, (#[.int .i64 65, .int .i64 0, .int .i64 0, .int .i64 1, .slice none 0 0, .slice none 0 0, .slice none 0 0] : Array Value)[j]? = some v → W1.cell? ⟨p, j, none⟩ = some v := fun j v e => by rw [hW1, hp]; exact (World.cell?_alloc_at _ _ _ j rfl).trans e
  obtain ⟨m1, hm1⟩ : ∃ m, mdOne (wkL [(66, 0, 0)]) = m := ⟨_, rfl⟩
  have v1 : Hid (whereV m1 = (0, 60)) := Lib.hid (by rw [← hm1]; exact wk1_where)
  obtain ⟨m2, hm2⟩ : ∃ m, mdOne (wkL [(65, 0, 1)]) = m := ⟨_, rfl⟩
  have v2 : Hid (whereV m2 = (-1, 0)) := Lib.hid (by rw [← hm2]; exact wk2_where)
  obtain ⟨m3, hm3⟩ : ∃ m, mdOne (wkL [(0, 0, 0), (26, 0, 0), (65, 0, 1)]) = m := ⟨_, rfl⟩
  have v3 : Hid (whereV m3 = (-1, 0)) := Lib.hid (by rw [← hm3]; exact wk3_where)
  obtain ⟨m4, hm4⟩ : ∃ m, mdOne (wkL [(12, 1, 0)]) = m := ⟨_, rfl⟩
  have v4 : Hid (whereV m4 = (0, 61)) := Lib.hid (by rw [← hm4]; exact wk4_where)
  replace hm1 := Lib.hid hm1
  replace hm2 := Lib.hid hm2
  replace hm3 := Lib.hid hm3
  replace hm4 := Lib.hid hm4
  replace hT := Lib.hid hT
  replace hz := Lib.hid hz
  replace hb1 := Lib.hid hb1
  go_enter Tryd.func6, Tryd.ntmps6
  go_upto_region 2 with (fail)
  rw [← hW1, ← hp]
  clear hW1
  replace hp := Lib.hid hp
  go_wp2_with fail
  have hx := hb1.out.trans ((Below.of_alloc W1 (.cells #[.int .i64 66, .int .i64 0, .int .i64 0, .int .i64 0, .slice none 0 0, .slice none 0 0, .slice none 0 0] 26)).mono hb1.out.size)
  refine (onem' hm1.out rfl (by decide) (lit_new W1 [(66, 0, 0)] _ 26 rfl)).mono ?_
  rintro e w2 ⟨A1, rfl, hM, b2⟩
  have hb2 := Lib.hid (hx.trans (b2.mono hx.size))
  have hq2 := (Below.of_alloc W1 (.cells #[.int .i64 66, .int .i64 0, .int .i64 0, .int .i64 0, .slice none 0 0, .slice none 0 0, .slice none 0 0] 26)).trans (b2.mono (by simp))
  have hc := where_any hM (hT.out.below hb2.out)
  rw [v1.out] at hc
  unfold MA.v at hc ⊢
  dsimp only at hc
  replace hc := Lib.hid hc
  replace hq2 := Lib.hid hq2
  clear hx b2 hM
  go_wp2_with fail
  refine hc.out.mono ?_
  rintro e w3 ⟨rfl, b3⟩
  have hb3 := Lib.hid (hb2.out.trans (b3.mono hb2.out.size))
  have hk3 := hq2.out.trans (b3.mono hq2.out.size)
  have z0 : w3.cell? ⟨p, 0, none⟩ = some (.int .i64 65) := keep_below hk3 _ _ (hz.out 0 _ rfl)
  have z1 : w3.cell? ⟨p, 1, none⟩ = some (.int .i64 0) := keep_below hk3 _ _ (hz.out 1 _ rfl)
  have z2 : w3.cell? ⟨p, 2, none⟩ = some (.int .i64 0) := keep_below hk3 _ _ (hz.out 2 _ rfl)
  have z3 : w3.cell? ⟨p, 3, none⟩ = some (.int .i64 1) := keep_below hk3 _ _ (hz.out 3 _ rfl)
  have z4 : w3.cell? ⟨p, 4, none⟩ = some (.slice none 0 0) := keep_below hk3 _ _ (hz.out 4 _ rfl)
  have z5 : w3.cell? ⟨p, 5, none⟩ = some (.slice none 0 0) := keep_below hk3 _ _ (hz.out 5 _ rfl)
  have z6 : w3.cell? ⟨p, 6, none⟩ = some (.slice none 0 0) := keep_below hk3 _ _ (hz.out 6 _ rfl)
  clear b3 hc hb2 hk3 hq2
  go_wp2_with fail
  have hx := hb3.out.trans ((Below.of_alloc w3 (.cells #[.int .i64 65, .int .i64 0, .int .i64 0, .int .i64 1, .slice none 0 0, .slice none 0 0, .slice none 0 0] 26)).mono hb3.out.size)
  refine (onem' hm2.out rfl (by decide) (lit_new w3 [(65, 0, 1)] _ 26 rfl)).mono ?_
  rintro e u2 ⟨A2, rfl, hM, bb⟩
  have hbu := Lib.hid (hx.trans (bb.mono hx.size))
  have hq := Lib.hid ((Below.of_alloc w3 (.cells #[.int .i64 65, .int .i64 0, .int .i64 0, .int .i64 1, .slice none 0 0, .slice none 0 0, .slice none 0 0] 26)).trans (bb.mono (by simp)))
  have hc := validate_any hM (hT.out.below hbu.out)
  rw [v2.out] at hc
  unfold MA.v at hc ⊢
  dsimp only at hc
  replace hc := Lib.hid hc
  clear hx bb hM hb3
  go_wp2_with fail
  refine hc.out.mono ?_
  rintro e w4 ⟨rfl, b4⟩
  have hb4 := Lib.hid (hbu.out.trans (b4.mono hbu.out.size))
  have hk4 := hq.out.trans (b4.mono hq.out.size)
  replace z0 := keep_below hk4 _ _ z0
  replace z1 := keep_below hk4 _ _ z1
  replace z2 := keep_below hk4 _ _ z2
  replace z3 := keep_below hk4 _ _ z3
  replace z4 := keep_below hk4 _ _ z4
  replace z5 := keep_below hk4 _ _ z5
  replace z6 := keep_below hk4 _ _ z6
  clear b4 hc hbu hk4 hq
  go_wp2_with fail
  have hx := hb4.out.trans ((Below.of_alloc w4 (.cells #[.int .i64 0, .int .i64 0, .int .i64 0, .int .i64 0, .slice none 0 0, .slice none 0 0, .slice none 0 0, .int .i64 26, .int .i64 0, .int .i64 0, .int .i64 0, .slice none 0 0, .slice none 0 0, .slice none 0 0, .int .i64 65, .int .i64 0, .int .i64 0, .int .i64 1, .slice none 0 0, .slice none 0 0, .slice none 0 0] 26)).mono hb4.out.size)
  refine (onem' hm3.out rfl (by decide) (lit_new w4 [(0, 0, 0), (26, 0, 0), (65, 0, 1)] _ 26 rfl)).mono ?_
  rintro e u3 ⟨A3, rfl, hM, bb⟩
  have hbu := Lib.hid (hx.trans (bb.mono hx.size))
  have hc := validate_any hM (hT.out.below hbu.out)
  rw [v3.out] at hc
  unfold MA.v at hc ⊢
  dsimp only at hc
  replace hc := Lib.hid hc
  clear hx bb hM hb4
  go_wp2_with fail
  refine hc.out.mono ?_
  rintro e w5 ⟨rfl, b4⟩
  have hb5 := Lib.hid (hbu.out.trans (b4.mono hbu.out.size))
  clear b4 hc hbu
  go_wp2_with fail
  have hx := hb5.out.trans ((Below.of_alloc w5 (.cells #[.int .i64 12, .int .i64 1, .int .i64 0, .int .i64 0, .slice none 0 0, .slice none 0 0, .slice none 0 0] 26)).mono hb5.out.size)
  refine (onem' hm4.out rfl (by decide) (lit_new w5 [(12, 1, 0)] _ 26 rfl)).mono ?_
  rintro e u4 ⟨A4, rfl, hM, bb⟩
  have hbu := Lib.hid (hx.trans (bb.mono hx.size))
  have hc := validate_any hM (hT.out.below hbu.out)
  rw [v4.out] at hc
  unfold MA.v at hc ⊢
  dsimp only at hc
  replace hc := Lib.hid hc
  clear hx bb hM hb5
  go_wp2_with fail
  refine hc.out.mono ?_
  rintro e w6 ⟨rfl, b4⟩
  have hb6 := Lib.hid (hbu.out.trans (b4.mono hbu.out.size))
  clear b4 hc hbu
  go_wp2_with fail
  go_ret
  exact ⟨rfl, hb6.out⟩
end Go.Proofs.YtacohbllbjgdgaaDoor
