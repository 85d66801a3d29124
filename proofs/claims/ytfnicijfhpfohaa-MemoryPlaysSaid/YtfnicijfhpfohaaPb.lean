/- One call of both: loading, storing, texts, filling. -/
import Derived.Test.YtfnicijfhpfohaaPa
namespace Go.Proofs.Ytfnicijfhpfohaa
open Go.RowKit
set_option linter.unusedVariables false

theorem wrap64_bd (a : Int) : -9223372036854775808 ≤ wrap64 a ∧ wrap64 a ≤ 9223372036854775807 := by unfold wrap64; omega
theorem ends_same {w : World} {B p q cap p' q' cap' : Nat} {l : List Nat} {pg most : Nat} (h : TwinAt w B p q cap p' q' cap' l pg most) (o : Obj) : Ends w (w.alloc o) B p p' most l pg :=
  ⟨q, cap, q', cap', h.alloc o, ((Chg.refl w []).alloc o).below h.size (by simp)⟩

theorem RMemAt.stored {w w' : World} {p q cap : Nat} {l l' : List Nat} {pg most : Nat} (h : RMemAt w p q cap l pg most) (hs : Stored w w' q cap l') (hl : l'.length = l.length) : RMemAt w' p q cap l' pg most :=
  ⟨by rw [hs.chg.block _ h.lt (by simp; exact h.pq), hl]; exact h.head, hs.row, h.pq, hl.trans h.pages, h.most_le, h.pg_le⟩

theorem stored_gr {w w1 w2 : World} {B p q cap p' q' cap' : Nat} {l l' : List Nat} {pg most n : Nat} (h : TwinAt w B p q cap p' q' cap' l pg most)
    (g : Stored w w1 q cap l') (r : Stored (w1.drewN n) w2 q' cap' l') (hl : l'.length = l.length) : Ends w w2 B p p' most l' pg := by
  have hs := h.size
  have s1 := g.chg.size
  have b2 := h.b2
  have b4 := h.b4
  have d1 := h.d1
  have d2 := h.d2
  have d3 := h.d3
  have d4 := h.d4
  refine ⟨q, cap, q', cap', ⟨((h.m.stored g hl).drewN n).kept r.chg (by simp; omega) (by simp; omega), ((h.r.kept g.chg (by simp; omega) (by simp; omega)).drewN n).stored r hl, d1, d2, d3, d4, h.b1, b2, h.b3, b4⟩, ?_⟩
  refine (g.chg.below hs (by intro x hx; simp at hx; omega)).trans ?_
  have := (r.chg.below (B := B) (by show B ≤ w1.heap.size; omega) (by intro x hx; simp at hx; omega))
  exact ⟨this.os, this.tape, this.output, this.size, this.block⟩

set_option maxRecDepth 100000 in
set_option maxHeartbeats 4000000 in
theorem plays_load (at_ : Nat) (n : Int) (V : Nat) (s : ByteArray) (w : World) (B p q cap p' q' cap' : Nat) (l : List Nat) (pg most : Nat) (h : TwinAt w B p q cap p' q' cap' l pg most)
    (hat : at_ < 18446744073709551616) (hn1 : -9223372036854775808 ≤ n) (hn : n ≤ 9223372036854775807) :
    Calls Try.prog 21 #[.pointer (some ⟨p, 0, none⟩), .pointer (some ⟨p', 0, none⟩), .agg #[.int .i64 1, .int .u64 at_, .int .i64 n, .int .u64 V, .string s]] w fun e w' => e = .returned (.bool true) ∧ Ends w w' B p p' most l pg := by
  have HG := fun u hu => Lib.hid (load_mem p q cap l pg most at_ n at_ u hu rfl hat hn)
  have HR := fun u hu => Lib.hid (rload_mem p' q' cap' l pg most at_ n at_ u hu rfl hat hn1 hn)
  have HT : Hid (TwinAt (w.alloc (.cells #[.int .i64 1, .int .u64 at_, .int .i64 n, .int .u64 V, .string s] 50)) B p q cap p' q' cap' l pg most) := Lib.hid (h.alloc _)
  have HE := Lib.hid (ends_same h (stepCells 1 at_ n V s))
  clear h
  generalize loadOut l at_ n = X at *
  generalize inB l.length at_ n = Y at *
  go_enter Try.func21, Try.ntmps21
  go_wp2_with fail
  refine (HG _ HT.out.m).out.mono ?_
  rintro e w' ⟨rfl, rfl⟩
  go_wp2_with fail
  refine (HR _ HT.out.r).out.mono ?_
  rintro e w' ⟨rfl, rfl⟩
  go_wp2
  go_ret
  exact ⟨rfl, HE.out⟩

set_option maxRecDepth 100000 in
set_option maxHeartbeats 4000000 in
theorem plays_store (at_ : Nat) (n : Int) (V : Nat) (s : ByteArray) (w : World) (B p q cap p' q' cap' : Nat) (l : List Nat) (pg most : Nat) (h : TwinAt w B p q cap p' q' cap' l pg most)
    (hat : at_ < 18446744073709551616) (hn1 : -9223372036854775808 ≤ n) (hn : n ≤ 9223372036854775807) :
    Calls Try.prog 21 #[.pointer (some ⟨p, 0, none⟩), .pointer (some ⟨p', 0, none⟩), .agg #[.int .i64 2, .int .u64 at_, .int .i64 n, .int .u64 V, .string s]] w fun e w' => e = .returned (.bool true) ∧ Ends w w' B p p' most (storeOut l at_ n V) pg := by
  have HG := fun u (hu : MemAt u p q cap l pg most) => Lib.hid (store_any p q cap l at_ n V at_ V u rfl rfl hu.slice hu.row hat hn)
  have HR := fun u (hu : RMemAt u p' q' cap' l pg most) => Lib.hid (rstore_any p' q' cap' l at_ n V at_ V u hu.pq rfl rfl hu.slice hu.lt hu.row hat hn1 hn)
  have HT := Lib.hid (h.alloc (stepCells 2 at_ n V s))
  have hlt := h.lt
  have hsz := h.size
  have hlen := storeOut_length l at_ n V
  have hc0 : ∀ k, ((w.alloc (stepCells 2 at_ n V s)).drewN k).cell? ⟨w.heap.size, 1, none⟩ = some (.int .u64 (at_ : Int)) := fun k => (World.cell?_alloc_at (w := w) _ _ _ 1 (by simp)).trans rfl
  have hd0 : ∀ k, ((w.alloc (stepCells 2 at_ n V s)).drewN k).cell? ⟨w.heap.size, 2, none⟩ = some (.int .i64 n) := fun k => (World.cell?_alloc_at (w := w) _ _ _ 2 (by simp)).trans rfl
  have he0 : ∀ k, ((w.alloc (stepCells 2 at_ n V s)).drewN k).cell? ⟨w.heap.size, 3, none⟩ = some (.int .u64 (V : Int)) := fun k => (World.cell?_alloc_at (w := w) _ _ _ 3 (by simp)).trans rfl
  have hnot : ∀ x, x < w.heap.size → w.heap.size ∉ [x] := fun x hx => by simp; omega
  have hnr1 : p' ∉ [q] := by have := h.d1; have := h.d3; simp; omega
  have hnr2 : q' ∉ [q] := by have := h.d2; have := h.d4; simp; omega
  clear h
  generalize storeOut l at_ n V = L at *
  generalize inB l.length at_ n = Y at *
  go_enter Try.func21, Try.ntmps21
  go_wp2_with fail
  go_region_held3 (fun w' => w'.cell? ⟨w.heap.size, 1, none⟩ = some (.int .u64 (at_ : Int)) ∧ w'.cell? ⟨w.heap.size, 2, none⟩ = some (.int .i64 n) ∧ w'.cell? ⟨w.heap.size, 3, none⟩ = some (.int .u64 (V : Int)))
    (first | go_keep | exact hc1 | exact hc2)
    (first | (go_at_call 9; refine (HG _ (HT.out.drewN 1).m).out.mono ?_; rintro e wg ⟨rfl, hg⟩; have hc1 := And.intro (hg.chg.cell (hc0 1) (hnot q hlt.2.1)) (And.intro (hg.chg.cell (hd0 1) (hnot q hlt.2.1)) (hg.chg.cell (he0 1) (hnot q hlt.2.1)))) | (go_at_call 20; refine (HR _ (((HT.out.drewN 1).r.kept hg.chg hnr1 hnr2).drewN 0)).out.mono ?_; rintro e wr ⟨rfl, hr⟩; have hc2 := And.intro (hr.chg.cell hc1.1 (hnot q' hlt.2.2.2)) (And.intro (hr.chg.cell hc1.2.1 (hnot q' hlt.2.2.2)) (hr.chg.cell hc1.2.2 (hnot q' hlt.2.2.2)))))
  have hend := ends_new (stored_gr (HT.out.drewN 1) hg hr hlen) hsz
  clear hg hr hc1 hc2
  go_wp2
  go_ret
  exact ⟨rfl, hend⟩

set_option maxRecDepth 100000 in
set_option maxHeartbeats 4000000 in
theorem plays_text (at_ : Nat) (n : Int) (V : Nat) (s : ByteArray) (w : World) (B p q cap p' q' cap' : Nat) (l : List Nat) (pg most : Nat) (h : TwinAt w B p q cap p' q' cap' l pg most)
    (hat : at_ < 18446744073709551616) (hn1 : -9223372036854775808 ≤ n) (hn : n ≤ 9223372036854775807) :
    Calls Try.prog 21 #[.pointer (some ⟨p, 0, none⟩), .pointer (some ⟨p', 0, none⟩), .agg #[.int .i64 3, .int .u64 at_, .int .i64 n, .int .u64 V, .string s]] w fun e w' => e = .returned (.bool true) ∧ Ends w w' B p p' most l pg := by
  have hw := wrap64_bd at_
  have HG := fun u hu => Lib.hid (text_any p q cap l pg most (wrap64 at_) n u hu hw.1 hw.2 hn)
  have HR := fun u (hu : RMemAt u p' q' cap' l pg most) => Lib.hid (rtext_any p' q' cap' l (wrap64 at_) n u hu.slice hu.row hw.1 hw.2 hn1 hn)
  have HT : Hid (TwinAt (w.alloc (.cells #[.int .i64 3, .int .u64 at_, .int .i64 n, .int .u64 V, .string s] 50)) B p q cap p' q' cap' l pg most) := Lib.hid (h.alloc _)
  have HE := Lib.hid (ends_same h (stepCells 3 at_ n V s))
  clear h
  generalize textOut l (wrap64 at_) n = X at *
  generalize inT l.length (wrap64 at_) n = Y at *
  go_enter Try.func21, Try.ntmps21
  go_wp2_with fail
  refine (HG _ HT.out.m).out.mono ?_
  rintro e w' ⟨rfl, rfl⟩
  go_wp2_with fail
  refine (HR _ HT.out.r).out.mono ?_
  rintro e w' ⟨rfl, rfl⟩
  go_wp2
  go_ret
  exact ⟨rfl, HE.out⟩

set_option maxRecDepth 100000 in
set_option maxHeartbeats 4000000 in
theorem plays_fill (at_ : Nat) (n : Int) (V : Nat) (s : ByteArray) (w : World) (B p q cap p' q' cap' : Nat) (l : List Nat) (pg most : Nat) (h : TwinAt w B p q cap p' q' cap' l pg most)
    (hs : s.size ≤ 2097152) :
    Calls Try.prog 21 #[.pointer (some ⟨p, 0, none⟩), .pointer (some ⟨p', 0, none⟩), .agg #[.int .i64 4, .int .u64 at_, .int .i64 n, .int .u64 V, .string s]] w fun e w' => e = .returned (.bool true) ∧ Ends w w' B p p' most (fillOut l (IntKind.i64.wrap (at_ : Int)) s) pg := by
  have hw : -9223372036854775808 ≤ IntKind.i64.wrap (at_ : Int) ∧ IntKind.i64.wrap (at_ : Int) ≤ 9223372036854775807 := by rw [IntKind.wrap_i64]; omega
  have HG := fun u (hu : MemAt u p q cap l pg most) => Lib.hid (fill_any p q cap l (IntKind.i64.wrap (at_ : Int)) s u hu.slice hu.row hw.1 hw.2 (by omega))
  have HR := fun u (hu : RMemAt u p' q' cap' l pg most) => Lib.hid (rfill_any p' q' cap' l (IntKind.i64.wrap (at_ : Int)) s u hu.slice hu.row hw.1 hw.2 (by omega))
  have HT := Lib.hid (h.alloc (stepCells 4 at_ n V s))
  have hlt := h.lt
  have hsz := h.size
  have hlen := fillOut_length l (IntKind.i64.wrap (at_ : Int)) s
  have hc0 : ∀ k, ((w.alloc (stepCells 4 at_ n V s)).drewN k).cell? ⟨w.heap.size, 1, none⟩ = some (.int .u64 (at_ : Int)) := fun k => (World.cell?_alloc_at (w := w) _ _ _ 1 (by simp)).trans rfl
  have hd0 : ∀ k, ((w.alloc (stepCells 4 at_ n V s)).drewN k).cell? ⟨w.heap.size, 4, none⟩ = some (.string s) := fun k => (World.cell?_alloc_at (w := w) _ _ _ 4 (by simp)).trans rfl
  have hnot : ∀ x, x < w.heap.size → w.heap.size ∉ [x] := fun x hx => by simp; omega
  have hnr1 : p' ∉ [q] := by have := h.d1; have := h.d3; simp; omega
  have hnr2 : q' ∉ [q] := by have := h.d2; have := h.d4; simp; omega
  have hg2 : decide ((2097152 : Int) < (s.size : Int)) = false := by simp; omega
  clear h
  generalize fillOut l (IntKind.i64.wrap (at_ : Int)) s = L at *
  generalize inT l.length (IntKind.i64.wrap (at_ : Int)) s.size = Y at *
  go_enter Try.func21, Try.ntmps21
  go_wp2_with fail
  go_region_held3 (fun w' => w'.cell? ⟨w.heap.size, 1, none⟩ = some (.int .u64 (at_ : Int)) ∧ w'.cell? ⟨w.heap.size, 4, none⟩ = some (.string s))
    (first | go_keep | exact hc1 | exact hc2)
    (first | (go_at_call 31; refine (HG _ (HT.out.drewN 1).m).out.mono ?_; rintro e wg ⟨rfl, hg⟩; have hc1 := And.intro (hg.chg.cell (hc0 1) (hnot q hlt.2.1)) (hg.chg.cell (hd0 1) (hnot q hlt.2.1))) | (go_at_call 32; refine (HR _ (((HT.out.drewN 1).r.kept hg.chg hnr1 hnr2).drewN 0)).out.mono ?_; rintro e wr ⟨rfl, hr⟩; have hc2 := And.intro (hr.chg.cell hc1.1 (hnot q' hlt.2.2.2)) (hr.chg.cell hc1.2 (hnot q' hlt.2.2.2))))
  have hend := ends_new (stored_gr (HT.out.drewN 1) hg hr hlen) hsz
  clear hg hr hc1 hc2
  go_wp2
  go_ret
  exact ⟨rfl, hend⟩
end Go.Proofs.Ytfnicijfhpfohaa
