/- One call of both: growing. -/
import Derived.Test.YtfnicijfhpfohaaM
import Derived.Deep.RegionHeld3
namespace Go.Proofs.Ytfnicijfhpfohaa
open Go.RowKit
set_option linter.unusedVariables false

def stepCells (kind : Int) (at_ : Nat) (n : Int) (V : Nat) (s : ByteArray) : Obj := .cells #[.int .i64 kind, .int .u64 at_, .int .i64 n, .int .u64 V, .string s] 50

theorem ends_new {w w2 : World} {o : Obj} {n B p p' most : Nat} {l : List Nat} {pg : Nat} (h : Ends ((w.alloc o).drewN n) w2 B p p' most l pg) (hB : B ≤ w.heap.size) : Ends w w2 B p p' most l pg := by
  obtain ⟨q, cap, q', cap', ht, hb⟩ := h
  exact ⟨q, cap, q', cap', ht, (((Chg.refl w []).alloc o).below hB (by simp)).trans ⟨hb.os, hb.tape, hb.output, hb.size, hb.block⟩⟩

set_option maxRecDepth 100000 in
set_option maxHeartbeats 4000000 in
theorem plays_grow (at_ : Nat) (n : Int) (V : Nat) (s : ByteArray) (w : World) (B p q cap p' q' cap' : Nat) (l : List Nat) (pg most : Nat) (h : TwinAt w B p q cap p' q' cap' l pg most) :
    Calls Try.prog 21 #[.pointer (some ⟨p, 0, none⟩), .pointer (some ⟨p', 0, none⟩), .agg #[.int .i64 0, .int .u64 at_, .int .i64 n, .int .u64 V, .string s]] w fun e w' => e = .returned (.bool true) ∧ Ends w w' B p p' most (growLen l pg most at_) (growPg pg most at_) := by
  have HG := fun u hu => Lib.hid (grow_any p q cap l pg most at_ at_ u hu rfl)
  have HR := fun u hu => Lib.hid (rgrow_any p' q' cap' l pg most at_ at_ u hu rfl)
  have HT := Lib.hid (h.alloc (stepCells 0 at_ n V s))
  have hlt := h.lt
  have hsz := h.size
  have hc0 : ∀ k, ((w.alloc (stepCells 0 at_ n V s)).drewN k).cell? ⟨w.heap.size, 1, none⟩ = some (.int .u64 (at_ : Int)) := fun k => (World.cell?_alloc_at (w := w) _ _ _ 1 (by simp)).trans rfl
  have hnot : ∀ x y, x < w.heap.size → y < w.heap.size → w.heap.size ∉ [x, y] := fun x y hx hy => by simp; omega
  have hnr1 : p' ∉ [p, q] := by have := h.d1; have := h.d3; simp; omega
  have hnr2 : q' ∉ [p, q] := by have := h.d2; have := h.d4; simp; omega
  clear h
  go_enter Try.func21, Try.ntmps21
  go_wp2_with fail
  go_region_held3 (fun w' => w'.cell? ⟨w.heap.size, 1, none⟩ = some (.int .u64 (at_ : Int)))
    (first | go_keep | exact hc1 | exact hc2)
    (first | (go_at_call 13; refine (HG _ (HT.out.drewN 1).m).out.mono ?_; rintro e wg ⟨rfl, q2, cap2, hg⟩; have hc1 := hg.chg.cell (hc0 1) (hnot p q hlt.1 hlt.2.1)) | (go_at_call 29; refine (HR _ (((HT.out.drewN 1).r.kept hg.chg hnr1 hnr2).drewN 0)).out.mono ?_; rintro e wr ⟨rfl, q2', cap2', hr⟩; have hc2 := hr.chg.cell hc1 (hnot p' q' hlt.2.2.1 hlt.2.2.2)))
  have hend := ends_new (grown_gr (HT.out.drewN 1) hg hr) hsz
  clear hg hr hc1 hc2
  go_wp2
  go_ret
  exact ⟨rfl, hend⟩
end Go.Proofs.Ytfnicijfhpfohaa
