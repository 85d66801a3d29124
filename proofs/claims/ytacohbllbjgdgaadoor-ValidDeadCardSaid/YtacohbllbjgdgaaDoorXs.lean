/- The checker: a function's body. -/
import Derived.Test.YtacohbllbjgdgaaDoorXr
import Derived.Deep.RegionWith
import Derived.Deep.Cut
namespace Go.Proofs.YtacohbllbjgdgaaDoor
open Go.RowKit
set_option linter.unusedVariables false
set_option linter.unusedSimpArgs false

/-- The checker's block: the module, and the types of its functions. -/
structure ChkAt (w : World) (c : Nat) (m : Md) (fs : List (List Int × List Int)) (a0 : Option Addr) (k0 : Nat) (a1 : Option Addr) (k1 : Nat) (a2 : Option Addr) (k2 : Nat) (a3 : Option Addr) (k3 : Nat) (a4 : Option Addr) (k4 : Nat) (a5 : Option Addr) (k5 : Nat)
    (a6 : Option Addr) (k6 : Nat) (a7 : Option Addr) (k7 : Nat) (a8 : Option Addr) (k8 : Nat) (a9 : Option Addr) (k9 : Nat) (fa : Option Addr) (fk : Nat) : Prop where
  b : w.heap[c]? = some (.cells #[.slice a0 m.types.length k0, .slice a1 m.imports.length k1, .slice a2 m.funcs.length k2, .slice a3 m.tables.length k3, .slice a4 m.mems.length k4, .slice a5 m.globals.length k5, .slice a6 m.exports.length k6, .slice a7 m.start.length k7, .slice a8 m.elems.length k8, .slice a9 m.datas.length k9, .slice fa fs.length fk] 53 (0, 0))
  md : MdAt w m a0 k0 a1 k1 a2 k2 a3 k3 a4 k4 a5 k5 a6 k6 a7 k7 a8 k8 a9 k9
  fr : RowsIn TypeAt 2 w fa fs
section
variable {w w' : World} {c : Nat} {m : Md} {fs : List (List Int × List Int)} {a0 : Option Addr} {k0 : Nat} {a1 : Option Addr} {k1 : Nat} {a2 : Option Addr} {k2 : Nat} {a3 : Option Addr} {k3 : Nat} {a4 : Option Addr} {k4 : Nat} {a5 : Option Addr} {k5 : Nat}
    {a6 : Option Addr} {k6 : Nat} {a7 : Option Addr} {k7 : Nat} {a8 : Option Addr} {k8 : Nat} {a9 : Option Addr} {k9 : Nat} {fa : Option Addr} {fk : Nat}
theorem ChkAt.step (h : ChkAt w c m fs a0 k0 a1 k1 a2 k2 a3 k3 a4 k4 a5 k5 a6 k6 a7 k7 a8 k8 a9 k9 fa fk) (b : Below w.heap.size w w') : ChkAt w' c m fs a0 k0 a1 k1 a2 k2 a3 k3 a4 k4 a5 k5 a6 k6 a7 k7 a8 k8 a9 k9 fa fk :=
  ⟨by rw [b.block c (lt_of_block h.b)]; exact h.b, h.md.keep (keep_below b), h.fr.keep fun _ _ _ => .keep (keep_below b)⟩
/-- What a body is typed in. -/
def envM (m : Md) (fs : List (List Int × List Int)) (t : List Int × List Int) (ls : List Int) : Ev := ⟨m.types, fs, m.globals.map fun g => (g.1, g.2.1), m.tables.length, m.mems.length, t.1 ++ ls⟩
theorem ChkAt.cc (h : ChkAt w c m fs a0 k0 a1 k1 a2 k2 a3 k3 a4 k4 a5 k5 a6 k6 a7 k7 a8 k8 a9 k9 fa fk) : w.cell? ⟨c, 0, none⟩ = some (.slice a0 m.types.length k0) ∧ w.cell? ⟨c, 1, none⟩ = some (.slice a1 m.imports.length k1) ∧ w.cell? ⟨c, 2, none⟩ = some (.slice a2 m.funcs.length k2) ∧
    w.cell? ⟨c, 3, none⟩ = some (.slice a3 m.tables.length k3) ∧ w.cell? ⟨c, 4, none⟩ = some (.slice a4 m.mems.length k4) ∧ w.cell? ⟨c, 5, none⟩ = some (.slice a5 m.globals.length k5) ∧ w.cell? ⟨c, 6, none⟩ = some (.slice a6 m.exports.length k6) ∧ w.cell? ⟨c, 7, none⟩ = some (.slice a7 m.start.length k7) ∧
    w.cell? ⟨c, 8, none⟩ = some (.slice a8 m.elems.length k8) ∧ w.cell? ⟨c, 9, none⟩ = some (.slice a9 m.datas.length k9) ∧ w.cell? ⟨c, 10, none⟩ = some (.slice fa fs.length fk) ∧ w.frozen? ⟨c, 10, none⟩ = false := by
  have := h.b
  refine ⟨?_, ?_, ?_, ?_, ?_, ?_, ?_, ?_, ?_, ?_, ?_, frozen_of_row w c 10 _ _ this⟩
  all_goals rw [cell_of_row w c _ _ _ _ this]; rfl
theorem ChkAt.env (h : ChkAt w c m fs a0 k0 a1 k1 a2 k2 a3 k3 a4 k4 a5 k5 a6 k6 a7 k7 a8 k8 a9 k9 fa fk) {la : Option Addr} {lc : Nat} {t : List Int × List Int} {ls : List Int} (hl : IntsIn w la (t.1 ++ ls)) : EnvAt w c (.slice la (t.1 ++ ls).length lc) (envM m fs t ls) := by
  obtain ⟨y0, y1, y2, y3, y4, y5, y6, y7, y8, y9, y10, _⟩ := h.cc
  exact ⟨⟨_, _, y0, h.md.types⟩, ⟨_, _, y3⟩, ⟨_, _, y4⟩, ⟨_, _, _, y5, h.md.globals, rfl⟩, ⟨_, _, y10, h.fr⟩, ⟨_, _, rfl, hl⟩⟩
def bodyT (m : Md) (fs : List (List Int × List Int)) (t : List Int × List Int) (fn : Int × List Int × Il) : Except Int Ts := tBlock (tyL (envM m fs t fn.2.1) fn.2.2) t.2 t.2 ⟨[], []⟩
def endB (w : World) (x : Except Int Ts) (e : Ending) (w' : World) : Prop :=
  match x with
  | .ok _ => e = .returned (.tuple #[]) ∧ Below w.heap.size w w'
  | .error n => e = .panicked (faultV n) ∧ Below w.heap.size w w'
set_option maxRecDepth 100000 in
set_option maxHeartbeats 16000000 in
theorem body_any (h : ChkAt w c m fs a0 k0 a1 k1 a2 k2 a3 k3 a4 k4 a5 k5 a6 k6 a7 k7 a8 k8 a9 k9 fa fk) {i : Nat} {fn : Int × List Int × Il} (hi : m.funcs[i]? = some fn) {t : List Int × List Int} (ht : fs[m.imports.length + i]? = some t)
    (hE : EvOk (envM m fs t fn.2.1)) (hR : EvR (envM m fs t fn.2.1)) (hf : formB fn.2.2 = true) (hsz : szI fn.2.2 ≤ 1099511627775) (ht1 : ∀ x ∈ t.2, tyo x) (ht2 : t.2.length ≤ 1) (hn : t.1.length + fn.2.1.length ≤ 1099511627776) :
    Calls Tryd.prog 15 #[.pointer (some ⟨c, 0, none⟩), .int .i64 ((m.imports.length + i : Nat) : Int)] w (endB w (bodyT m fs t fn)) := by
  generalize hX : bodyT m fs t fn = X
  replace hX := Lib.hid hX
  obtain ⟨y0, y1, y2, y3, y4, y5, y6, y7, y8, y9, y10, _⟩ := h.cc
  obtain ⟨b2, o2, rfl, r1, ⟨la, lk, r2, r2i⟩, ⟨ba, bk, r3, r3l, r3i⟩⟩ := h.md.funcs.row hi
  obtain ⟨b3, o3, rfl, ⟨pa, pc, q1, q1i⟩, ⟨ra, rc, q2, q2i⟩⟩ := h.fr.row ht
  have hil := (List.getElem?_eq_some_iff.1 hi).1
  have htl := (List.getElem?_eq_some_iff.1 ht).1
  have hfl := h.md.funcs.1
  have hfl2 := h.fr.1
  have s1 : IntKind.i64.wrap (((m.imports.length + i : Nat) : Int) - (m.imports.length : Int)) = (i : Int) := by rw [IntKind.wrap_i64]; omega
  have j1 : (0 : Int) ≤ (i : Int) := by omega
  have j2 : (i : Int) < (m.funcs.length : Int) := by omega
  have j3 : (0 : Int) ≤ ((m.imports.length + i : Nat) : Int) := by omega
  have j4 : ((m.imports.length + i : Nat) : Int) < (fs.length : Int) := by omega
  obtain ⟨NI, hNI⟩ : ∃ NI : Nat, NI = m.imports.length + i := ⟨_, rfl⟩
  rw [← hNI] at s1 j3 j4 q1 q2 ⊢
  replace hNI := Lib.hid hNI
  replace r1 : w.cell? ⟨b2, o2 + i * 3, none⟩ = some (.int .i64 fn.1) := r1
  have r1z : (w.alloc (.cells #[.int .i64 0, .slice none 0 0, .slice none 0 0] 31)).cell? ⟨b2, o2 + i * 3, none⟩ = some (.int .i64 fn.1) := keep_below (Below.of_alloc w _) _ _ r1
  have r1d : (w.alloc (.cells #[.int .i64 0, .slice none 0 0, .slice none 0 0] 31)).drew.cell? ⟨b2, o2 + i * 3, none⟩ = some (.int .i64 fn.1) := r1z
  have r2z : (w.alloc (.cells #[.int .i64 0, .slice none 0 0, .slice none 0 0] 31)).cell? ⟨b2, o2 + i * 3 + 1, none⟩ = some (.slice la fn.2.1.length lk) := keep_below (Below.of_alloc w _) _ _ r2
  have r2d : (w.alloc (.cells #[.int .i64 0, .slice none 0 0, .slice none 0 0] 31)).drew.cell? ⟨b2, o2 + i * 3 + 1, none⟩ = some (.slice la fn.2.1.length lk) := r2z
  have r3z : (w.alloc (.cells #[.int .i64 0, .slice none 0 0, .slice none 0 0] 31)).cell? ⟨b2, o2 + i * 3 + 2, none⟩ = some (.slice ba fn.2.2.len bk) := keep_below (Below.of_alloc w _) _ _ r3
  have r3d : (w.alloc (.cells #[.int .i64 0, .slice none 0 0, .slice none 0 0] 31)).drew.cell? ⟨b2, o2 + i * 3 + 2, none⟩ = some (.slice ba fn.2.2.len bk) := r3z
  have y1z : (w.alloc (.cells #[.int .i64 0, .slice none 0 0, .slice none 0 0] 31)).cell? ⟨c, 1, none⟩ = some (.slice a1 m.imports.length k1) := keep_below (Below.of_alloc w _) _ _ y1
  have y1d : (w.alloc (.cells #[.int .i64 0, .slice none 0 0, .slice none 0 0] 31)).drew.cell? ⟨c, 1, none⟩ = some (.slice a1 m.imports.length k1) := y1z
  have y2z : (w.alloc (.cells #[.int .i64 0, .slice none 0 0, .slice none 0 0] 31)).cell? ⟨c, 2, none⟩ = some (.slice (some ⟨b2, o2, none⟩) m.funcs.length k2) := keep_below (Below.of_alloc w _) _ _ y2
  have y2d : (w.alloc (.cells #[.int .i64 0, .slice none 0 0, .slice none 0 0] 31)).drew.cell? ⟨c, 2, none⟩ = some (.slice (some ⟨b2, o2, none⟩) m.funcs.length k2) := y2z
  replace h := Lib.hid h
  go_enter Tryd.func15, Tryd.ntmps15
  go_wp2_with fail
  go_cut [4] from 7 to 21 (fun v4 wx => ∃ b, v4 = .pointer (some ⟨b, 0, none⟩) ∧ Hid (wx.heap[b]? = some (.cells #[.int .i64 fn.1, .slice la fn.2.1.length lk, .slice ba fn.2.2.len bk] 31 (0, 0))) ∧ Hid (Below w.heap.size w wx))
  case first =>
    go_region
    all_goals go_wp2_with fail
    all_goals go_meet
    all_goals exact ⟨_, rfl, Lib.hid (heap_alloc_new _ _), Lib.hid ((below_drawn (w := w) 1).trans (Below.of_alloc w.drew _))⟩
  case rest =>
    obtain ⟨b, rfl, hb53, hbw⟩ := hcut
    obtain ⟨g0, g1, g2⟩ : wc.cell? ⟨b, 0, none⟩ = some (.int .i64 fn.1) ∧ wc.cell? ⟨b, 1, none⟩ = some (.slice la fn.2.1.length lk) ∧ wc.cell? ⟨b, 2, none⟩ = some (.slice ba fn.2.2.len bk) := by
      have := hb53.out
      refine ⟨?_, ?_, ?_⟩
      all_goals rw [cell_of_row wc b _ _ _ _ this]; rfl
    have hw2 := h.out.step hbw.out
    have y10' := keep_below hbw.out _ _ y10
    replace q1 : wc.cell? ⟨b3, o3 + NI * 2, none⟩ = some (.slice pa t.1.length pc) := keep_below hbw.out _ _ q1
    replace q2 : wc.cell? ⟨b3, o3 + NI * 2 + 1, none⟩ = some (.slice ra t.2.length rc) := keep_below hbw.out _ _ q2
    have q1i' := q1i.below hbw.out
    have r2i' := r2i.below hbw.out
    have hA : Below wc.heap.size wc (wc.drew.alloc (.cells #[.slice pa t.1.length pc, .slice la fn.2.1.length lk] 23)) := (below_drawn (w := wc) 1).trans (Below.of_alloc wc.drew _)
    have hcat := concat_any t.1 fn.2.1 pa la pc lk wc.heap.size _ (q1i'.below hA) (r2i'.below hA) (heap_alloc_new wc.drew _) hn
    replace hcat := Lib.hid hcat
    clear y0 y1 y2 y3 y4 y5 y6 y7 y8 y9 y10 r1 r2 r3 r1z r1d r2z r2d r3z r3d y1z y1d y2z y2d s1 j1 j2 q1i r2i q1i' r2i'
    go_wp2_with fail
    go_cut [5] from 22 to 36 (fun v5 wx => ∃ w2, ∃ lx : Option Addr, ∃ lxc : Nat, v5 = .pointer (some ⟨w2.heap.size, 0, none⟩) ∧ Hid (wx = w2.alloc (.cells #[.pointer (some ⟨c, 0, none⟩), .slice lx (t.1.length + fn.2.1.length) lxc, .slice none 0 0, .slice none 0 0] 80)) ∧ Hid (IntsIn w2 lx (t.1 ++ fn.2.1)) ∧ Hid (Below wc.heap.size wc w2))
    case first =>
      go_region_with (first | (go_at_call 24; refine hcat.out.mono ?_; rintro e w2 ⟨⟨lxa, lxc, rfl, hli⟩, hb2⟩))
      all_goals go_wp2_with fail
      all_goals go_meet
      all_goals exact ⟨w2, lxa, lxc, rfl, Lib.hid rfl, Lib.hid hli, Lib.hid (hA.trans (hb2.mono hA.size))⟩
    case rest =>
      obtain ⟨w2, lx, lxc, rfl, hwx, hli, hbl⟩ := hcut
      have hwx2 := hwx.out
      have ha99 := Below.of_alloc w2 (.cells #[.pointer (some ⟨c, 0, none⟩), .slice lx (t.1.length + fn.2.1.length) lxc, .slice none 0 0, .slice none 0 0] 80)
      rw [← hwx2] at ha99
      have hp : wc.heap[w2.heap.size]? = some (.cells #[.pointer (some ⟨c, 0, none⟩), .slice lx (t.1.length + fn.2.1.length) lxc, .slice none 0 0, .slice none 0 0] 80 (0, 0)) := by rw [hwx2]; exact heap_alloc_new w2 _
      have hck := hw2.step hbl.out
      have henv : EnvAt w2 c (.slice lx (t.1.length + fn.2.1.length) lxc) (envM m fs t fn.2.1) := by
        have := hck.env (lc := lxc) hli.out
        rwa [List.length_append] at this
      have hsz2 : w2.heap.size + 1 ≤ wc.heap.size := by rw [hwx2]; simp
      have hT : TyP (w2.heap.size + 1) w2.heap.size (.pointer (some ⟨c, 0, none⟩)) (.slice lx (t.1.length + fn.2.1.length) lxc) wc (.slice none 0 0) (.slice none 0 0) ⟨[], []⟩ :=
        ⟨hp, Nat.lt_succ_self _, hsz2, World.ownsRow_nil _ _ _ _, [], rfl, World.ownsRow_nil _ _ _ _, by intro q hq; cases hq⟩
      have hC : Cx0 w2 (w2.heap.size + 1) w2.heap.size c (.slice lx (t.1.length + fn.2.1.length) lxc) (envM m fs t fn.2.1) wc (.slice none 0 0) (.slice none 0 0) ⟨[], []⟩ :=
        ⟨hT, (by intro u hu; cases hu), (by intro u hu; cases hu), ha99, rfl, henv, hE⟩
      have hB2 : Below w.heap.size w w2 := hbw.out.trans (hbl.out.mono hbw.out.size)
      have hB3 : Below w.heap.size w wc := hB2.trans (ha99.mono hB2.size)
      have hq2 : IntsIn w2 ra t.2 := q2i.below hB2
      have hlr : LiB wc w2.heap.size (.slice none 0 0) (.slice none 0 0) ra t.2 := by
        refine ⟨q2i.below hB3, ?_⟩
        rcases hq2.2 with e | ⟨b', o', rfl, hcc⟩
        · exact .inl e
        · cases hts : t.2 with
          | nil => exact .inl rfl
          | cons x r =>
            refine .inr fun ad e => ?_
            cases e
            have hlt : b' < w2.heap.size := World.block_lt_of_cell? _ _ (hcc 0 x (by rw [hts]; rfl))
            exact ⟨by show b' ≠ _; omega, by simp [Value.ownBlock], by simp [Value.ownBlock]⟩
      have hblk := block_any fn.2.2 w2 _ _ c _ _ wc _ _ _ hC hR (by intro f hf; cases hf) hf t.2 t.2 ra rc ra rc hlr hlr ht1 ht1 ht2 ht2 ba bk r3l (r3i.below hB2) (by simp; omega) (by simp; omega)
      have hXX : tBlock (tyL (envM m fs t fn.2.1) fn.2.2) t.2 t.2 ⟨[], []⟩ = X := hX.out
      rw [hXX] at hblk
      have q2' : wc.cell? ⟨b3, o3 + NI * 2 + 1, none⟩ = some (.slice ra t.2.length rc) := (keep_below ha99) _ _ ((keep_below hbl.out) _ _ q2)
      have y10'' := (keep_below ha99) _ _ ((keep_below hbl.out) _ _ y10')
      have g2' : wc.cell? ⟨b, 2, none⟩ = some (.slice ba fn.2.2.len bk) := (keep_below ha99) _ _ ((keep_below hbl.out) _ _ g2)
      have fin : ∀ sv' fv' w', Tw w2.heap.size (.slice none 0 0) (.slice none 0 0) sv' fv' wc w' → Below w.heap.size w w' := fun sv' fv' w' tw =>
        hB3.trans (tw.below hB2.size (by intro g hg; simp [Value.ownBlock] at hg) (by intro g hg; simp [Value.ownBlock] at hg) hB3.size)
      replace hwx2 := Lib.hid hwx2
      clear hwx hp hT hC hlr hq2 hXX hX hck henv ha99 hbl hcat g0 g1 g2 q1 q2 y10' hb53 hA
      generalize w2.heap.size = P at *
      cases X with
      | error k =>
        go_wp2_with fail
        refine hblk.mono ?_
        rintro e w3 ⟨rfl, sv3, fv3, tw⟩
        go_wp2
        exact ⟨rfl, rfl, fin _ _ _ tw⟩
      | ok u =>
        go_wp2_with fail
        refine hblk.mono ?_
        rintro e w3 ⟨rfl, sv3, fv3, _, tw⟩
        go_wp2
        go_end0
        exact ⟨rfl, fin _ _ _ tw⟩
end

end Go.Proofs.YtacohbllbjgdgaaDoor
