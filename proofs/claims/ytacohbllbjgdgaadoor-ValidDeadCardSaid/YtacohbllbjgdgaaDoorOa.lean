/- The contracts of Check's deferred closure. -/
import Derived.Test.YtacohbllbjgdgaaDoorNb
import Derived.Defers
import Derived.Recover
import Derived.Laws.Pointers
namespace Go.Proofs.YtacohbllbjgdgaaDoor
open Go.RowKit
set_option linter.unusedVariables false

theorem catch_idle (p : Addr) (w : World) :
    CallsD Tryd.prog 16 #[.pointer (some p)] .returning w fun e u' w' => e = .returned (.tuple #[]) ∧ u' = .returning ∧ w' = w := by
  refine callsD_of_wpS Tryd.func16 rfl fun c₀ cs hu => ?_
  apply wpS_seq
  apply wpS_region
  simp [wpOpsS, go_sem, recoverD, hu, Tryd.ntmps16, Exit.thenS]
  refine wpS_of_wp ?_
  go_wp2
  cases c₀
  simp_all [bodyPostS, results, Tryd.results16]

theorem assert_fault (n : Int) (w : World) : (Instr.typeAssert (Value.iface 56 (.agg #[.int .i64 n])) 20 56 true).run Tryd.prog w = .ok (.tuple #[.agg #[.int .i64 n], .bool true]) w := by kernel_rfl

set_option maxRecDepth 100000 in
theorem catch_fault (p : Nat) (x n : Int) (older : List PanicEntry) (w : World) (hc : w.cell? ⟨p, 0, none⟩ = some (.int .i64 x)) (hz : w.frozen? ⟨p, 0, none⟩ = false) :
    CallsD Tryd.prog 16 #[.pointer (some ⟨p, 0, none⟩)] (.panicking ({ v := .iface 56 (.agg #[.int .i64 n]), recovered := false } :: older)) w fun e u' w' =>
      e = .returned (.tuple #[]) ∧ u' = .panicking ({ v := .iface 56 (.agg #[.int .i64 n]), recovered := true } :: older) ∧ w' = (w.setCell ⟨p, 0, none⟩ (.int .i64 n)).alloc (.cells #[.int .i64 n] 56) := by
  refine callsD_of_wpS Tryd.func16 rfl fun c₀ cs hu => ?_
  apply wpS_seq
  apply wpS_region
  simp [wpOpsS, go_sem, recoverD, hu, Tryd.ntmps16, Exit.thenS]
  refine wpS_of_wp ?_
  have hta := assert_fault n
  have hp : p < w.heap.size := World.block_lt_of_cell? _ _ hc
  change Code.wp Tryd.prog _ _ { tmps := #[.pointer (some ⟨p, 0, none⟩), undef, undef, undef, .iface 56 (.agg #[.int .i64 n]), undef, undef, undef, undef, undef, undef, undef], defers := [] } w
  go_wp2
  cases c₀
  simp_all [bodyPostS, results, Tryd.results16]
end Go.Proofs.YtacohbllbjgdgaaDoor

namespace Go.Proofs.YtacohbllbjgdgaaDoor
open Go.RowKit
set_option linter.unusedVariables false

def flatM (m : Md) : Bool := m.funcs.all fun t => flatB t.2.2 0
/-- What Check tells. -/
def checkV (m : Md) : Int := if fewB m = false then 3 else if flatM m = false then 4 else if shapedB m = false then 30 else 0
theorem caught_cell {w2 : World} {q : Nat} {n : Int} {u : Value} {o : Obj} (h : w2.cell? ⟨q, 0, none⟩ = some u) : ((w2.setCell ⟨q, 0, none⟩ (.int .i64 n)).alloc o).cell? ⟨q, 0, none⟩ = some (.int .i64 n) := by
  have hl := World.block_lt_of_cell? _ _ h
  exact (World.cell?_alloc_past _ _ _ (by simpa using hl)).trans (so_same h)
theorem caught_below {w w2 : World} {q : Nat} {v : Value} {o : Obj} (h : Below w.heap.size w w2) (hq : w.heap.size ≤ q) : Below w.heap.size w ((w2.setCell ⟨q, 0, none⟩ v).alloc o) :=
  (h.setCell (p := ⟨q, 0, none⟩) hq v).alloc (h.setCell (p := ⟨q, 0, none⟩) hq v).size o

set_option maxRecDepth 100000 in
set_option maxHeartbeats 1000000 in
theorem check_any (m : Md) (a0 : Option Addr) (k0 : Nat) (a1 : Option Addr) (k1 : Nat) (a2 : Option Addr) (k2 : Nat) (a3 : Option Addr) (k3 : Nat) (a4 : Option Addr) (k4 : Nat) (a5 : Option Addr) (k5 : Nat) (a6 : Option Addr) (k6 : Nat) (a7 : Option Addr) (k7 : Nat) (a8 : Option Addr) (k8 : Nat) (a9 : Option Addr) (k9 : Nat) (w : World) (h : MdAt w m a0 k0 a1 k1 a2 k2 a3 k3 a4 k4 a5 k5 a6 k6 a7 k7 a8 k8 a9 k9) (hT : TabU w) :
    Calls Tryd.prog 9 #[mdV m a0 k0 a1 k1 a2 k2 a3 k3 a4 k4 a5 k5 a6 k6 a7 k7 a8 k8 a9 k9] w fun e w' => e = .returned (.int .i64 (checkV m)) ∧ Below w.heap.size w w' := by
  have hb2 : Below w.heap.size w ((w.alloc (.cells #[.slice a0 m.types.length k0, .slice a1 m.imports.length k1, .slice a2 m.funcs.length k2, .slice a3 m.tables.length k3, .slice a4 m.mems.length k4, .slice a5 m.globals.length k5, .slice a6 m.exports.length k6, .slice a7 m.start.length k7, .slice a8 m.elems.length k8, .slice a9 m.datas.length k9] 40)).alloc (.cells #[.int .i64 0] 41)) := ((Below.refl _ _).alloc (Nat.le_refl _) _).alloc (by simp) _
  have HM := Lib.hid (h.keep (keep_below hb2))
  have HU := Lib.hid (hT.below hb2)
  have hB0 := Lib.hid hb2
  have hmf := hmf
  have n2 := h.funcs.1
  clear h hT hb2
  unfold mdV
  go_enter_defers Tryd.func9, Tryd.ntmps9
  go_wp2_with fail
  obtain ⟨w0, hw0⟩ : ∃ w0, w0 = ((w.alloc (.cells #[.slice a0 m.types.length k0, .slice a1 m.imports.length k1, .slice a2 m.funcs.length k2, .slice a3 m.tables.length k3, .slice a4 m.mems.length k4, .slice a5 m.globals.length k5, .slice a6 m.exports.length k6, .slice a7 m.start.length k7, .slice a8 m.elems.length k8, .slice a9 m.datas.length k9] 40)).alloc (.cells #[.int .i64 0] 41)) := ⟨_, rfl⟩
  rw [← hw0]
  rw [← hw0] at HM HU hB0
  have hs0 : w.heap.size ≤ w0.heap.size := hB0.out.size
  have hlr : w.heap.size + 1 < w0.heap.size := by rw [hw0]; simp
  have yr : Hid (w0.cell? ⟨w.heap.size + 1, 0, none⟩ = some (.int .i64 0)) := Lib.hid (by rw [hw0]; exact World.cell?_alloc_at _ _ _ _ (by simp))
  have yz : Hid (w0.frozen? ⟨w.heap.size + 1, 0, none⟩ = false) := Lib.hid (by rw [hw0]; exact World.frozen?_alloc_at _ _ _ _ (by simp))
  have y0 : Hid (w0.cell? ⟨w.heap.size, 0, none⟩ = some (.slice a0 m.types.length k0)) := Lib.hid (by rw [hw0, World.cell?_alloc_past _ _ _ (by simp)]; exact World.cell?_alloc_at _ _ _ _ rfl)
  have y1 : Hid (w0.cell? ⟨w.heap.size, 1, none⟩ = some (.slice a1 m.imports.length k1)) := Lib.hid (by rw [hw0, World.cell?_alloc_past _ _ _ (by simp)]; exact World.cell?_alloc_at _ _ _ _ rfl)
  have y2 : Hid (w0.cell? ⟨w.heap.size, 2, none⟩ = some (.slice a2 m.funcs.length k2)) := Lib.hid (by rw [hw0, World.cell?_alloc_past _ _ _ (by simp)]; exact World.cell?_alloc_at _ _ _ _ rfl)
  have y3 : Hid (w0.cell? ⟨w.heap.size, 3, none⟩ = some (.slice a3 m.tables.length k3)) := Lib.hid (by rw [hw0, World.cell?_alloc_past _ _ _ (by simp)]; exact World.cell?_alloc_at _ _ _ _ rfl)
  have y4 : Hid (w0.cell? ⟨w.heap.size, 4, none⟩ = some (.slice a4 m.mems.length k4)) := Lib.hid (by rw [hw0, World.cell?_alloc_past _ _ _ (by simp)]; exact World.cell?_alloc_at _ _ _ _ rfl)
  have y5 : Hid (w0.cell? ⟨w.heap.size, 5, none⟩ = some (.slice a5 m.globals.length k5)) := Lib.hid (by rw [hw0, World.cell?_alloc_past _ _ _ (by simp)]; exact World.cell?_alloc_at _ _ _ _ rfl)
  have y6 : Hid (w0.cell? ⟨w.heap.size, 6, none⟩ = some (.slice a6 m.exports.length k6)) := Lib.hid (by rw [hw0, World.cell?_alloc_past _ _ _ (by simp)]; exact World.cell?_alloc_at _ _ _ _ rfl)
  have y7 : Hid (w0.cell? ⟨w.heap.size, 7, none⟩ = some (.slice a7 m.start.length k7)) := Lib.hid (by rw [hw0, World.cell?_alloc_past _ _ _ (by simp)]; exact World.cell?_alloc_at _ _ _ _ rfl)
  have y8 : Hid (w0.cell? ⟨w.heap.size, 8, none⟩ = some (.slice a8 m.elems.length k8)) := Lib.hid (by rw [hw0, World.cell?_alloc_past _ _ _ (by simp)]; exact World.cell?_alloc_at _ _ _ _ rfl)
  have y9 : Hid (w0.cell? ⟨w.heap.size, 9, none⟩ = some (.slice a9 m.datas.length k9)) := Lib.hid (by rw [hw0, World.cell?_alloc_past _ _ _ (by simp)]; exact World.cell?_alloc_at _ _ _ _ rfl)
  clear hw0
  refine (few_any m a0 k0 a1 k1 a2 k2 a3 k3 a4 k4 a5 k5 a6 k6 a7 k7 a8 k8 a9 k9 _ HM.out).mono ?_
  rintro e w2 ⟨rfl, b2⟩
  have hb := Lib.hid b2
  clear b2
  cases hX : fewB m
  · have S : Hid (checkV m = 3) := Lib.hid (by unfold checkV; rw [hX]; rfl)
    rw [endE_no]
    clear hX
    go_wp2
    unfold fault
    refine leaves_cons (f := 16) (args := #[.pointer (some ⟨w.heap.size + 1, 0, none⟩)]) (by simp) (by simp [go_sem]) ?_
    refine (catch_fault (w.heap.size + 1) 0 3 [] _ (keep_below hb.out _ _ yr.out) ((hb.out.frozen hlr).trans yz.out)).mono ?_
    rintro e u' w'' ⟨rfl, rfl, rfl⟩
    have hca := caught_cell (n := 3) (o := .cells #[.int .i64 3] 56) (keep_below hb.out _ _ yr.out)
    have hcb := caught_below (v := .int .i64 3) (o := .cells #[.int .i64 3] 56) (hB0.out.trans (hb.out.mono hs0)) (show w.heap.size ≤ w.heap.size + 1 by omega)
    have hS := S.out
    simp [Leaves, settle, results, Tryd.results9, go_sem]
    rw [hca]
    exact ⟨_, rfl, by rw [hS], hcb⟩
  · have S1 : Hid (checkV m = if flatM m = false then 4 else if shapedB m = false then 30 else 0) := Lib.hid (by unfold checkV; rw [hX]; rfl)
    rw [endE_yes]
    clear hX
    have x2 : w2.cell? ⟨w.heap.size, 2, none⟩ = some (.slice a2 m.funcs.length k2) := keep_below hb.out _ _ y2.out
    go_wp2_with fail
    go_loopw [11] (fun vi wr => ∃ i : Nat, i ≤ m.funcs.length ∧ vi = .int .i64 i ∧ Hid ((m.funcs.take i).all (fun t => flatB t.2.2 0) = true) ∧ Hid (Below w0.heap.size w0 wr)) (fun vi _ => m.funcs.length - (intOf vi).toNat)
    case atStart => exact ⟨0, Nat.zero_le _, rfl, Lib.hid rfl, hb⟩
    case round =>
      clear hb
      obtain ⟨i, hi, rfl, ha, hb⟩ := hrel
      by_cases hlt : i < m.funcs.length
      · obtain ⟨t, ht⟩ : ∃ t, m.funcs[i]? = some t := ⟨_, List.getElem?_eq_getElem hlt⟩
        obtain ⟨b, o, e, hrow⟩ := (HM.out.funcs.keep fun _ _ _ => FuncAt.keep (keep_below hb.out)).row ht
        cases e
        have hn := Lib.hid (all_row ht ha.out)
        have hal := fun o => (Below.refl wr.heap.size wr).alloc (Nat.le_refl _) o
        clear ht ha
        obtain ⟨ty, lo, bo⟩ := t
        obtain ⟨c0, ⟨q1, r1, c1, i1⟩, ⟨q2, r2, c2, l2, i2⟩⟩ := hrow
        unfold IntCell at c0
        simp only at c0 c1 c2 i1 i2 l2
        have i2 := Lib.hid i2
        clear i1
        have hb2 : ∀ o, Below w0.heap.size w0 (wr.alloc o) := fun o => hb.out.trans ((hal o).mono hb.out.size)
        have hfl := fun (wq : World) h => Lib.hid (flat_any bo q2 r2 wq 0 l2 h (by omega) (by omega))
        go_wp2_with fail
        refine (hfl _ (i2.out.below (hal _))).out.mono ?_
        rintro e v1 ⟨rfl, bb⟩
        have hB1 := Lib.hid ((hb2 _).trans (bb.mono (hb2 _).size))
        clear bb hfl
        cases hX : flatB bo 0
        · have S : Hid (checkV m = 4) := Lib.hid (by
            have : flatM m = false := hn.out.2 hX
            rw [S1.out, this]; rfl)
          rw [endE_no]
          clear hX
          go_wp2
          unfold fault
          refine leaves_cons (f := 16) (args := #[.pointer (some ⟨w.heap.size + 1, 0, none⟩)]) (by simp) (by simp [go_sem]) ?_
          refine (catch_fault (w.heap.size + 1) 0 4 [] _ (keep_below hB1.out _ _ yr.out) ((hB1.out.frozen hlr).trans yz.out)).mono ?_
          rintro e u' w'' ⟨rfl, rfl, rfl⟩
          have hca := caught_cell (n := 4) (o := .cells #[.int .i64 4] 56) (keep_below hB1.out _ _ yr.out)
          have hcb := caught_below (v := .int .i64 4) (o := .cells #[.int .i64 4] 56) (hB0.out.trans (hB1.out.mono hs0)) (show w.heap.size ≤ w.heap.size + 1 by omega)
          have hS := S.out
          simp [Leaves, settle, results, Tryd.results9, go_sem]
          rw [hca]
          exact ⟨_, rfl, by rw [hS], hcb⟩
        · have hn2 := Lib.hid (hn.out.1 hX)
          rw [endE_yes]
          clear hX
          go_wp2
          go_roundw
          case rel => exact ⟨i + 1, by omega, by simp, hn2, hB1⟩
          case measure => simp [intOf]; omega
      · have hiN : i = m.funcs.length := by omega
        subst hiN
        have ha2 : flatM m = true := by have := ha.out; rwa [List.take_length] at this
        have S2 : Hid (checkV m = if shapedB m = false then 30 else 0) := Lib.hid (by rw [S1.out, ha2]; rfl)
        clear ha ha2 hi hlt
        have x0 : wr.cell? ⟨w.heap.size, 0, none⟩ = some (.slice a0 m.types.length k0) := keep_below hb.out _ _ y0.out
        have x1 : wr.cell? ⟨w.heap.size, 1, none⟩ = some (.slice a1 m.imports.length k1) := keep_below hb.out _ _ y1.out
        have x2 : wr.cell? ⟨w.heap.size, 2, none⟩ = some (.slice a2 m.funcs.length k2) := keep_below hb.out _ _ y2.out
        have x3 : wr.cell? ⟨w.heap.size, 3, none⟩ = some (.slice a3 m.tables.length k3) := keep_below hb.out _ _ y3.out
        have x4 : wr.cell? ⟨w.heap.size, 4, none⟩ = some (.slice a4 m.mems.length k4) := keep_below hb.out _ _ y4.out
        have x5 : wr.cell? ⟨w.heap.size, 5, none⟩ = some (.slice a5 m.globals.length k5) := keep_below hb.out _ _ y5.out
        have x6 : wr.cell? ⟨w.heap.size, 6, none⟩ = some (.slice a6 m.exports.length k6) := keep_below hb.out _ _ y6.out
        have x7 : wr.cell? ⟨w.heap.size, 7, none⟩ = some (.slice a7 m.start.length k7) := keep_below hb.out _ _ y7.out
        have x8 : wr.cell? ⟨w.heap.size, 8, none⟩ = some (.slice a8 m.elems.length k8) := keep_below hb.out _ _ y8.out
        have x9 : wr.cell? ⟨w.heap.size, 9, none⟩ = some (.slice a9 m.datas.length k9) := keep_below hb.out _ _ y9.out
        go_wp2_with fail
        refine (shaped_any m a0 k0 a1 k1 a2 k2 a3 k3 a4 k4 a5 k5 a6 k6 a7 k7 a8 k8 a9 k9 _ (HM.out.keep (keep_below hb.out)) (HU.out.below hb.out)).mono ?_
        rintro e v1 ⟨rfl, bb⟩
        have hB1 := Lib.hid (hb.out.trans (bb.mono hb.out.size))
        clear bb
        cases hX : shapedB m
        · have S : Hid (checkV m = 30) := Lib.hid (by rw [S2.out, hX]; rfl)
          rw [endE_no]
          clear hX
          go_wp2
          unfold fault
          refine leaves_cons (f := 16) (args := #[.pointer (some ⟨w.heap.size + 1, 0, none⟩)]) (by simp) (by simp [go_sem]) ?_
          refine (catch_fault (w.heap.size + 1) 0 30 [] _ (keep_below hB1.out _ _ yr.out) ((hB1.out.frozen hlr).trans yz.out)).mono ?_
          rintro e u' w'' ⟨rfl, rfl, rfl⟩
          have hca := caught_cell (n := 30) (o := .cells #[.int .i64 30] 56) (keep_below hB1.out _ _ yr.out)
          have hcb := caught_below (v := .int .i64 30) (o := .cells #[.int .i64 30] 56) (hB0.out.trans (hB1.out.mono hs0)) (show w.heap.size ≤ w.heap.size + 1 by omega)
          have hS := S.out
          simp [Leaves, settle, results, Tryd.results9, go_sem]
          rw [hca]
          exact ⟨_, rfl, by rw [hS], hcb⟩
        · have S : Hid (checkV m = 0) := Lib.hid (by rw [S2.out, hX]; rfl)
          rw [endE_yes]
          clear hX
          have xr := keep_below hB1.out _ _ yr.out
          have xz := (hB1.out.frozen hlr).trans yz.out
          go_wp2_with fail
          refine leaves_cons (f := 16) (args := #[.pointer (some ⟨w.heap.size + 1, 0, none⟩)]) (by simp) (by simp [go_sem]) ?_
          refine (catch_idle ⟨w.heap.size + 1, 0, none⟩ _).mono ?_
          rintro e u' w'' ⟨rfl, rfl, rfl⟩
          have hca : (v1.setCell ⟨w.heap.size + 1, 0, none⟩ (.int .i64 0)).cell? ⟨w.heap.size + 1, 0, none⟩ = some (.int .i64 0) := so_same xr
          have hcb : Below w.heap.size w (v1.setCell ⟨w.heap.size + 1, 0, none⟩ (.int .i64 0)) := (hB0.out.trans (hB1.out.mono hs0)).setCell (p := ⟨w.heap.size + 1, 0, none⟩) (show w.heap.size ≤ w.heap.size + 1 by omega) _
          have hS := S.out
          simp [Leaves, settle, results, Tryd.results9, go_sem, hca]
          exact ⟨hS.symm, hcb⟩
end Go.Proofs.YtacohbllbjgdgaaDoor

namespace Go.Proofs.YtacohbllbjgdgaaDoor
open Go.RowKit
set_option linter.unusedVariables false

theorem size_of {w : World} {h : Nat} (hh : w.heap.size = h) (o : Obj) : (w.alloc o).heap.size = h + 1 := by simp [hh]
theorem ints_nil (w : World) : IntsIn w none [] := ⟨Nat.zero_le _, .inl rfl⟩
theorem rows_nil {α : Type} (F : World → Nat → Nat → α → Prop) (k : Nat) (w : World) : RowsIn F k w none [] := ⟨Nat.zero_le _, .inl rfl⟩
/-- A module of types and functions alone. -/
def mdTF (ts : List (List Int × List Int)) (fs : List (Int × List Int × Il)) : Md := ⟨ts, [], fs, [], [], [], [], [], [], []⟩
theorem md_TF {w : World} {ts : List (List Int × List Int)} {fs : List (Int × List Int × Il)} {a0 a2 : Option Addr} {k0 k2 : Nat} (h0 : RowsIn TypeAt 2 w a0 ts) (h2 : RowsIn FuncAt 3 w a2 fs) :
    MdAt w (mdTF ts fs) a0 k0 none 0 a2 k2 none 0 none 0 none 0 none 0 none 0 none 0 none 0 :=
  ⟨h0, rows_nil _ _ _, h2, rows_nil _ _ _, rows_nil _ _ _, rows_nil _ _ _, rows_nil _ _ _, ints_nil _, rows_nil _ _ _, rows_nil _ _ _⟩
theorem rows_one {α : Type} {F : World → Nat → Nat → α → Prop} {k : Nat} {w : World} {b o : Nat} {x : α} (h : F w b o x) : RowsIn F k w (some ⟨b, o, none⟩) [x] :=
  ⟨by simp, .inr ⟨b, o, rfl, fun i y hy => by
    cases i with
    | zero => simp at hy; subst hy; simpa using h
    | succ i => simp at hy⟩⟩
theorem ints_one {w : World} {b o : Nat} {x : Int} (h : w.cell? ⟨b, o, none⟩ = some (.int .i64 x)) : IntsIn w (some ⟨b, o, none⟩) [x] :=
  ⟨by simp, .inr ⟨b, o, rfl, fun i y hy => by
    cases i with
    | zero => simp at hy; subst hy; simpa using h
    | succ i => simp at hy⟩⟩
end Go.Proofs.YtacohbllbjgdgaaDoor
