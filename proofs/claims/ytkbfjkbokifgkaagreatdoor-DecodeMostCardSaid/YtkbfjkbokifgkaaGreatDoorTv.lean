/- The reference's entries: a field of the module that is appended to. -/
import Derived.Test.YtkbfjkbokifgkaaGreatDoorDv
import Derived.Test.YtkbfjkbokifgkaaGreatDoorSn
import Derived.Test.YtkbfjkbokifgkaaGreatDoorTi
import Derived.Test.YtkbfjkbokifgkaaGreatDoorTo
import Derived.Test.YtkbfjkbokifgkaaGreatDoorTp
import Derived.Test.YtkbfjkbokifgkaaGreatDoorTl
import Derived.Test.YtkbfjkbokifgkaaGreatDoorQd
import Derived.Test.YtkbfjkbokifgkaaGreatDoorTm
import Derived.Test.YtkbfjkbokifgkaaGreatDoorUl
import Derived.Deep.Cut
import Derived.Deep.CutRange
import Derived.Test.YtkbfjkbokifgkaaGreatDoorTr
namespace Go.Proofs.YtkbfjkbokifgkaaGreatDoor
open Go.RowKit
set_option linter.unusedVariables false
set_option linter.unusedSimpArgs false

def Spm (p mb : Nat) : Nat → Prop := fun b => b = p ∨ b = mb
structure EnAt {α : Type} (K : Kd α) (E : TypeId) (w0 w : World) (p mb B : Nat) (s : ByteArray) (r : RS) (cs : List Value) (j : Nat) (v : Value) (ts : List K.R) : Prop where
  rd : RrAt w p s r
  md : Bk w mb (cs.set j v) 33
  wr : Wr (Spm p mb) w0 w
  own : w.ownsRow B E K.sz v ts.length (ts.flatMap K.enc)
  oks : ∀ t ∈ ts, K.ok (fun b => B ≤ b ∧ some b ≠ v.ownBlock) w t
/-- The same, where the row is appended to, and the module not yet. -/
structure EnGo {α : Type} (K : Kd α) (E : TypeId) (w0 w : World) (p mb B : Nat) (s : ByteArray) (r : RS) (cs : List Value) (j : Nat) (v v' : Value) (ts : List K.R) : Prop where
  rd : RrAt w p s r
  md : Bk w mb (cs.set j v) 33
  wr : Wr (Spm p mb) w0 w
  own : w.ownsRow B E K.sz v' ts.length (ts.flatMap K.enc)
  oks : ∀ t ∈ ts, K.ok (fun b => B ≤ b ∧ some b ≠ v'.ownBlock) w t
section
variable {α : Type} {K : Kd α} {E : TypeId} {w0 w w' w5 : World} {p mb B : Nat} {s : ByteArray} {r r' : RS} {cs : List Value} {j : Nat} {v v' : Value} {ts : List K.R} {x : Nat} {vs : List Value} {T : TypeId} {N1 : Nat} {Tp : K.R → Prop}
theorem EnAt.rdd (h : EnAt K E w0 w p mb B s r cs j v ts) (hp : p < B) (hpm : p ≠ mb) (k : Wr (· = p) w w') (R : RrAt w' p s r') : EnAt K E w0 w' p mb B s r' cs j v ts :=
  ⟨R, h.md.wr k (fun e => hpm e.symm), h.wr.trans (k.mono fun _ e => .inl e), own_same h.own fun g hg => k.block g (h.own.lt g hg).2 (by have := (h.own.lt g hg).1; omega), fun t ht => K.keep (keeps_wrR k fun b hb => by have := hb.1; omega) (h.oks t ht)⟩
theorem EnAt.below (h : EnAt K E w0 w p mb B s r cs j v ts) (hp : p < B) (hpm : p ≠ mb) (k : Below w.heap.size w w') : EnAt K E w0 w' p mb B s r cs j v ts := h.rdd hp hpm (Wr.of_below k) (h.rd.below k)
theorem EnAt.drew (h : EnAt K E w0 w p mb B s r cs j v ts) (hp : p < B) (hpm : p ≠ mb) : EnAt K E w0 w.drew p mb B s r cs j v ts := h.below hp hpm (Below.refl _ _).drew
theorem EnAt.append {t : K.R} {g cap : Nat} (h : EnAt K E w0 w p mb B s r cs j v ts) (hp : p < B) (hm : mb < B) (hw0 : w0.heap.size ≤ B) (ht : K.ok (fun b => N1 ≤ b) w t) (hN : ∀ g, v.ownBlock = some g → g < N1) (hbN : B ≤ N1)
    (hown : w5.ownsRow B E K.sz (.slice (some ⟨g, 0, none⟩) (ts.length + 1) cap) (ts.length + 1) (ts.flatMap K.enc ++ K.enc t)) (hgrow : w.grownBy w5 v.ownBlock) (hat : v.ownBlock = some g ∨ g = w.heap.size) : EnGo K E w0 w5 p mb B s r cs j v (.slice (some ⟨g, 0, none⟩) (ts.length + 1) cap) (ts ++ [t]) := by
  have hr : ∀ k, v.ownBlock = some k → B ≤ k := fun k hk => (h.own.lt k hk).1
  refine ⟨⟨(hgrow.block p h.rd.lt (fun e => by have := hr p e.symm; omega)).trans h.rd.row⟩, h.md.grown hgrow (fun e => by have := hr mb e.symm; omega), h.wr.newer (Wr.of_grown (S := fun k => v.ownBlock = some k) hgrow fun k e _ => e) (fun k e hk => by have := hr k e; omega), ?_, fun u hu => ?_⟩
  · rw [List.length_append, List.flatMap_append]
    simpa using hown
  · rcases List.mem_append.1 hu with hu | hu
    · exact K.keep (KeepsR.grown2 hgrow (hat.imp id (fun e => Nat.le_of_eq e.symm))) (h.oks u hu)
    · obtain rfl : u = t := by simpa using hu
      refine K.keep ⟨fun a x hb hc => hgrow.cell hc (fun e => ?_), fun b hb hlt => ⟨Nat.le_trans hbN hb, fun e => ?_⟩⟩ ht
      · have := hN _ e.symm
        have : N1 ≤ a.block := hb
        omega
      · have e2 : b = g := by simpa [Value.ownBlock] using e
        have : N1 ≤ b := hb
        rcases hat with h1 | h1
        · have := hN g h1
          omega
        · omega
theorem EnGo.store (h : EnGo K E w0 w p mb B s r cs j v v' ts) (hm : mb < B) (hpm : p ≠ mb) : EnAt K E w0 (w.setCell ⟨mb, j, none⟩ v') p mb B s r cs j v' ts := by
  have k : Wr (· = mb) w (w.setCell ⟨mb, j, none⟩ v') := (Wr.refl (· = mb) w).set rfl _ _
  refine ⟨h.rd.far hpm _ _, ?_, h.wr.trans (k.mono fun _ e => .inr e), own_same h.own fun g hg => k.block g (h.own.lt g hg).2 (by have := (h.own.lt g hg).1; omega), fun t ht => K.keep (keeps_wrR k fun b hb => by have := hb.1; omega) (h.oks t ht)⟩
  have := h.md.set j v'
  rwa [List.set_set] at this
/-- What the region of an entry has done: the calls and the builds, the new row in a block of its own, appended. -/
def XE {α : Type} (K : Kd α) (E : TypeId) (w0 w : World) (p mb B : Nat) (s : ByteArray) (r' : RS) (cs : List Value) (j : Nat) (v0 : Value) (ts : List K.R) (x : Nat) (vs : List Value) (T : TypeId) (N1 : Nat) (Tp : K.R → Prop) (F : List (K.R → Value)) (k : Nat) (v : Value) (w' : World) : Prop :=
  if k = 0 then w' = w.drew
  else match F[k - 1]? with
    | some f => ∃ t, v = f t ∧ Tp t ∧ K.ok (fun b => N1 ≤ b) w' t ∧ EnAt K E w0 w' p mb B s r' cs j v0 ts ∧ Bk w' x vs T
    | none => if k = F.length + 1 then ∃ b t, v = .slice (some ⟨b, 0, none⟩) 1 1 ∧ w'.heap[b]? = some (.cells (K.enc t).toArray E (0, 0)) ∧ Tp t ∧ K.ok (fun b => N1 ≤ b) w' t ∧ EnAt K E w0 w' p mb B s r' cs j v0 ts ∧ Bk w' x vs T
      else ∃ g cap t, v = .slice (some ⟨g, 0, none⟩) (ts.length + 1) cap ∧ Tp t ∧ EnGo K E w0 w' p mb B s r' cs j v0 v (ts ++ [t]) ∧ Bk w' x vs T
theorem XE.cells {F : List (K.R → Value)} {k : Nat} {u : Value} (h : EnAt K E w0 w p mb B s r cs j v ts) (hp : p < B) (hpm : p ≠ mb) (hx : Bk w x vs T) (hj : j < cs.length) (hX : XE K E w0 w p mb B s r' cs j v ts x vs T N1 Tp F k u w') : w'.cell? ⟨mb, j, none⟩ = some v ∧ Bk w' x vs T := by
  have fin : ∀ {w : World}, Bk w mb (cs.set j v) 33 → w.cell? ⟨mb, j, none⟩ = some v := fun b => b.cell (List.getElem?_set_self hj)
  unfold XE at hX
  split at hX
  · subst hX
    exact ⟨fin (h.drew hp hpm).md, hx.below (Below.refl _ _).drew⟩
  · split at hX
    · obtain ⟨t, _, _, _, hS, hB⟩ := hX
      exact ⟨fin hS.md, hB⟩
    · split at hX
      · obtain ⟨b, t, _, _, _, _, hS, hB⟩ := hX
        exact ⟨fin hS.md, hB⟩
      · obtain ⟨g, cap, t, _, _, hS, hB⟩ := hX
        exact ⟨fin hS.md, hB⟩
theorem XE.lay (h : EnAt K E w0 w p mb B s r cs j v ts) (hp : p < B) (hpm : p ≠ mb) (hx : Bk w x vs T) (t : K.R) (ht : K.ok (fun b => N1 ≤ b) w t) :
    (w.alloc (.cells (K.enc t).toArray E)).heap[w.heap.size]? = some (.cells (K.enc t).toArray E (0, 0)) ∧ K.ok (fun b => N1 ≤ b) (w.alloc (.cells (K.enc t).toArray E)) t ∧ EnAt K E w0 (w.alloc (.cells (K.enc t).toArray E)) p mb B s r cs j v ts ∧ Bk (w.alloc (.cells (K.enc t).toArray E)) x vs T :=
  ⟨heap_alloc_new _ _, K.keep (KeepsR.below ((Below.refl _ _).alloc (Nat.le_refl _) _)) ht, h.below hp hpm ((Below.refl _ _).alloc (Nat.le_refl _) _), hx.below ((Below.refl _ _).alloc (Nat.le_refl _) _)⟩
/-- What an entry of a number does. -/
def EntFn {α : Type} (K : Kd α) (E : TypeId) (j id : Nat) (g : List UInt8 → RS → Rg α) : Prop := ∀ (w0 w : World) (p mb B : Nat) (s : ByteArray) (r : RS) (cs : List Value) (v0 : Value) (ts : List K.R), p < B → mb < B → p ≠ mb → w0.heap.size = B → cs.length = 10 → s.size ≤ 262144 → r.Ok → r.e ≤ s.size → ts.length < 4096 → EnAt K E w0 w p mb B s r cs j v0 ts →
  Calls Tryz.prog 85 #[.pointer (some ⟨p, 0, none⟩), .int .i64 (id : Int), .pointer (some ⟨mb, 0, none⟩)] w fun e' w' => e' = .returned (.tuple #[]) ∧ ∃ v' t, K.of t = (g (strl s) r).1 ∧ EnAt K E w0 w' p mb B s (g (strl s) r).2 cs j v' (ts ++ [t])
end
end Go.Proofs.YtkbfjkbokifgkaaGreatDoor

namespace Go.Proofs.YtkbfjkbokifgkaaGreatDoor
open Go.RowKit
set_option linter.unusedVariables false
set_option linter.unusedSimpArgs false

theorem one_of_same {t : ERec} {o : One} (h : Same7 t o) : oneOf t = o := by
  obtain ⟨h1, h2, h3, h4, h5, h6, h7⟩ := h
  cases o
  simp only [oneOf] at *
  simp [*]
theorem flat_of_same {t : ERec} {o : One} (h : Same7 t o) (h1 : o.ls = []) (h2 : o.body = .nil) (h3 : o.els = .nil) : Flat t := ⟨h.2.2.2.2.1.trans h1, h.2.2.2.2.2.1.trans h2, h.2.2.2.2.2.2.trans h3⟩
theorem go_const (s : List UInt8) : Go1 (rConst s) := fun r => by
  unfold rConst
  refine Mv.trans ?_ (go_must s 11 _)
  split
  · exact go_byte s r
  · split
    · exact (go_byte s r).trans (Mv.bad _ _ (by decide))
    · split
      · exact (go_byte s r).trans (go_operands s (fun _ _ r => .refl r) _ _ _)
      · exact (go_byte s r).trans (Mv.bad _ _ (by decide))
theorem mv_if {r r1 : RS} {c : Prop} [Decidable c] (h : Mv r r1) : Mv r (if c then r1.bad 50 else r1) := by
  split
  · exact h.trans (Mv.bad _ _ (by decide))
  · exact h
theorem go_limits (s : List UInt8) : Go1 (rLimits s) := fun r => by
  unfold rLimits
  dsimp only
  split
  · exact ((mv_if (go_byte s r)).trans (go_u s _)).trans (go_u s _)
  · exact (mv_if (go_byte s r)).trans (go_u s _)
theorem go_table (s : List UInt8) : Go1 (rTableE s) := fun r => (go_must s 112 r).trans (go_limits s _)
theorem go_global (s : List UInt8) : Go1 (rGlobal s) := fun r => ((go_typ s r).trans (mv_if (go_byte s _))).trans (go_const s _)
theorem go_import (s : List UInt8) : Go1 (rImportE s) := fun r => (((go_name s r).trans (go_name s _)).trans (go_must s 0 _)).trans (go_u s _)
theorem go_export (s : List UInt8) : Go1 (rExportE s) := fun r => ((go_name s r).trans (mv_if (go_byte s _))).trans (go_u s _)
theorem go_type (s : List UInt8) : Go1 (rTypeE s) := fun r => ((go_must s 96 r).trans (go_each s (go_typ s) _)).trans (go_each s (go_typ s) _)
theorem go_elem (s : List UInt8) : Go1 (rElemE s) := fun r => ((go_must s 0 r).trans (go_const s _)).trans (go_each s (go_u s) _)
theorem go_data (s : List UInt8) : Go1 (rDataE s) := fun r => ((go_must s 0 r).trans (go_const s _)).trans (go_text s _)
set_option maxRecDepth 100000 in
set_option maxHeartbeats 8000000 in
theorem entry_3 : EntFn fnK 83 2 3 rU := by
  intro w0 w p mb B s r cs v0 ts hp hm hpm hw0 hcs hs hok he hl hE
  have hmix : Tryz.prog.follows .mixedOrders = true := by kernel_rfl
  obtain ⟨ie, hie, hze, hse, hbe⟩ := info_parts info48
  have ha := hok.1
  obtain ⟨N1, hN1⟩ : ∃ N1, N1 = w.heap.size := ⟨_, rfl⟩
  have hx := hE.md
  have hcells := Lib.hid (fun k v w' (hX : XE fnK 83 w0 w p mb B s (rU (strl s) r).2 cs 2 v0 ts mb (cs.set 2 v0) 33 N1 (fun t => (fnK).of t = (rU (strl s) r).1) [fun t => .int .i64 t, fun t => .agg ((fnK).enc t).toArray] k v w') => XE.cells hE hp hpm hx (by omega) hX)
  have hvo : ∀ g, v0.ownBlock = some g → g < N1 := fun g hg => by rw [hN1]; exact (hE.own.lt g hg).2
  have hbN : B ≤ N1 := by rw [hN1]; exact Nat.le_trans (Nat.le_of_eq hw0.symm) hE.wr.size
  have hxv : ∀ g, v0.ownBlock = some g → mb ≠ g := fun g hg => by have := (hE.own.lt g hg).1; have := hvo g hg; omega
  replace hN1 := Lib.hid hN1
  replace hcs := Lib.hid hcs
  replace hw0 := Lib.hid hw0
  replace hE := Lib.hid hE
  replace hx := Lib.hid hx
  go_enter Tryz.func85, Tryz.ntmps85
  go_wp2_with fail
  refine wp_fv _ 148 rfl (region_steps hmix 148 44 12 4 [.pointer (some ⟨mb, 0, none⟩), .pointer (some ⟨mb, 0, none⟩), .pointer (some ⟨mb, 0, none⟩), .pointer (some ⟨mb, 2, none⟩), v0, .pointer (some ⟨p, 0, none⟩), undef, undef, undef, undef, .pointer (some ⟨mb, 0, none⟩), .pointer (some ⟨mb, 2, none⟩)] [6, 7, 8, 9, 12] rfl (by kernel_rfl) (by kernel_rfl) (by kernel_rfl) rfl (by kernel_rfl) (XE fnK 83 w0 w p mb B s (rU (strl s) r).2 cs 2 v0 ts mb (cs.set 2 v0) 33 N1 (fun t => (fnK).of t = (rU (strl s) r).1) [fun t => .int .i64 t, fun t => .agg ((fnK).enc t).toArray]) rfl ?_)
  iterate 12 ((first | refine .quiet rfl rfl ?_ ?_ | refine .chain rfl rfl ?_ ?_); rotate_left)
  refine .last rfl rfl ?_
  any_goals
    intro k' v' f w' hX ho hv K' hK'
    obtain ⟨g0, gB⟩ := hcells.out k' v' w' hX
    clear hX
    simp (disch := decide) only [NeedsC, Region.binds, List.contains_cons, List.contains_nil, Nat.reduceBEq, Bool.or_false, Bool.false_or, Bool.or_true, Bool.true_or, List.getD_cons_succ, List.getD_cons_zero, Nat.reduceAdd, true_imp_iff, and_true, Bool.true_eq_false, false_imp_iff, true_and, reduceCtorEq] at hv
    have e0 : f 0 = .pointer (some ⟨p, 0, none⟩) := ho.at_ 0 (by decide)
    have e2 : f 2 = .pointer (some ⟨mb, 0, none⟩) := ho.at_ 2 (by decide)
    clear ho
    go_simp
    (try simp (disch := decide) only [fv_t, hv, e0, e2])
    (try go_simp)
    exact hK' _ _ ⟨fv_set _ _, rfl⟩
  · intro v' f w' hX hpv ho hv K' hK'
    obtain ⟨g, cap, t, rfl, hT, hG, hB⟩ := hX
    have z0 : f 53 = .slice (some ⟨g, 0, none⟩) (ts.length + 1) cap := hpv
    have z1 : f 55 = .pointer (some ⟨mb, 2, none⟩) := hv 11 (by decide) rfl
    have f4 := hG.md.fr 2
    have c4 := hG.md.cell (j := 2) (List.getElem?_set_self (by rw [hcs.out]; decide))
    go_simp
    (try simp (disch := decide) only [fv_t, z0, z1])
    (try go_simp)
    refine hK' _ _ ?_
    have hGs := hG.store hm hpm
    exact ⟨rfl, _, results_none rfl _ _ _, rfl, _, t, hT, hGs⟩
  · intro v' f w' hX hpv ho hv K' hK'
    obtain rfl : w' = w.drew := hX
    have ht := hE.out.drew hp hpm
    simp (disch := decide) only [NeedsC, Region.binds, List.contains_cons, List.contains_nil, Nat.reduceBEq, Bool.or_false, Bool.false_or, Bool.or_true, Bool.true_or, List.getD_cons_succ, List.getD_cons_zero, Nat.reduceAdd, true_imp_iff, and_true, Bool.true_eq_false, false_imp_iff, true_and, reduceCtorEq] at hv
    go_simp
    (try simp (disch := decide) only [fv_t, hv])
    (try go_simp)
    go_at_call 81
    refine (qu_any ht.rd hs ha he).mono ?_
    rintro e' w4 ⟨hW, v1, rfl, rfl, hR⟩
    have hS := ht.rdd hp hpm hW hR
    have hB := (hx.out.below (Below.refl _ _).drew).wr hW (fun e => by subst e; omega)
    go_simp
    exact hK' _ _ ⟨_, fv_set _ _, _, rfl, rfl, trivial, hS, hB⟩
  · intro v' f w' hX hpv ho hv K' hK'
    obtain ⟨t, rfl, hT, hok, hS, hB⟩ := hX
    have z0 : f 50 = .int .i64 t := hpv
    simp (disch := decide) only [NeedsC, Region.binds, List.contains_cons, List.contains_nil, Nat.reduceBEq, Bool.or_false, Bool.false_or, Bool.or_true, Bool.true_or, List.getD_cons_succ, List.getD_cons_zero, Nat.reduceAdd, true_imp_iff, and_true, Bool.true_eq_false, false_imp_iff, true_and, reduceCtorEq] at hv
    go_simp
    (try simp (disch := decide) only [fv_t, z0, hv])
    (try go_simp)
    exact hK' _ _ ⟨_, fv_set _ _, t, rfl, hT, hok, hS, hB⟩
  · intro v' f w' hX hpv ho hv K' hK'
    obtain ⟨t, rfl, hT, hok, hS, hB⟩ := hX
    have z0 : f 51 = .agg ((fnK).enc t).toArray := hpv
    replace hT := Lib.hid hT
    go_simp
    (try simp (disch := decide) only [fv_t, z0])
    (try go_simp)
    obtain ⟨y1, y2, y3, y4⟩ := XE.lay hS hp hpm hB t hok
    exact hK' _ _ ⟨_, fv_set _ _, _, t, rfl, y1, hT.out, y2, y3, y4⟩
  · intro v' f w' hX hpv ho hv K' hK'
    obtain ⟨b, t, rfl, hb, hT, hok, hS, hB⟩ := hX
    simp (disch := decide) only [NeedsC, Region.binds, List.contains_cons, List.contains_nil, Nat.reduceBEq, Bool.or_false, Bool.false_or, Bool.or_true, Bool.true_or, List.getD_cons_succ, List.getD_cons_zero, Nat.reduceAdd, true_imp_iff, and_true, Bool.true_eq_false, false_imp_iff, true_and, reduceCtorEq] at hv
    have z0 := fv_get (n := 148) (by decide) (show f 52 = .slice (some ⟨b, 0, none⟩) 1 1 from hpv)
    have z1 := fv_get (n := 148) (by decide) (show f 48 = v0 from hv)
    refine wp_append_lies _ (.tmp 48) (.tmp 52) 25 (by rfl) B 83 ie _ 3 56 Tryz.underlying25 hie hze hse hbe rfl (by decide) v0 ts.length (ts.flatMap (fnK).enc) (by exact z1) hS.own ⟨b, 0, none⟩ 1 1 ((fnK).enc t) (by exact z0) (by rw [(fnK).len]; rfl) (World.news_of_block (cs := ((fnK).enc t).toArray) (t := 83) (fr := (0, 0)) hb) ((fnK).one t) (by decide) (by unfold maxLen; omega) (by omega) (by rw [← hw0.out]; exact hS.wr.size) w'.heap.size rfl ?_
    intro g cap w5 hown hgrow hat hlt
    exact hK' _ _ ⟨_, fv_put _ _, g, cap, t, rfl, hT, hS.append hp hm (Nat.le_of_eq hw0.out) hok hvo hbN hown hgrow hat, hB.grown hgrow (fun e => hxv _ e.symm rfl)⟩
set_option maxRecDepth 100000 in
set_option maxHeartbeats 8000000 in
theorem entry_2 : EntFn impK 80 1 2 rImportE := by
  intro w0 w p mb B s r cs v0 ts hp hm hpm hw0 hcs hs hok he hl hE
  have hmix : Tryz.prog.follows .mixedOrders = true := by kernel_rfl
  obtain ⟨ie, hie, hze, hse, hbe⟩ := info_parts info108
  have ha := hok.1
  obtain ⟨N1, hN1⟩ : ∃ N1, N1 = w.heap.size := ⟨_, rfl⟩
  have hx := hE.md
  have hcells := Lib.hid (fun k v w' (hX : XE impK 80 w0 w p mb B s (rImportE (strl s) r).2 cs 1 v0 ts mb (cs.set 1 v0) 33 N1 (fun t => (impK).of t = (rImportE (strl s) r).1) [fun t => .agg ((impK).enc t).toArray] k v w') => XE.cells hE hp hpm hx (by omega) hX)
  have hvo : ∀ g, v0.ownBlock = some g → g < N1 := fun g hg => by rw [hN1]; exact (hE.own.lt g hg).2
  have hbN : B ≤ N1 := by rw [hN1]; exact Nat.le_trans (Nat.le_of_eq hw0.symm) hE.wr.size
  have hxv : ∀ g, v0.ownBlock = some g → mb ≠ g := fun g hg => by have := (hE.own.lt g hg).1; have := hvo g hg; omega
  replace hN1 := Lib.hid hN1
  replace hcs := Lib.hid hcs
  replace hw0 := Lib.hid hw0
  replace hE := Lib.hid hE
  replace hx := Lib.hid hx
  go_enter Tryz.func85, Tryz.ntmps85
  go_wp2_with fail
  refine wp_fv _ 148 rfl (region_steps hmix 148 31 11 3 [.pointer (some ⟨mb, 0, none⟩), .pointer (some ⟨mb, 0, none⟩), .pointer (some ⟨mb, 0, none⟩), .pointer (some ⟨mb, 1, none⟩), v0, .pointer (some ⟨p, 0, none⟩), undef, undef, undef, .pointer (some ⟨mb, 0, none⟩), .pointer (some ⟨mb, 1, none⟩)] [6, 7, 8, 11] rfl (by kernel_rfl) (by kernel_rfl) (by kernel_rfl) rfl (by kernel_rfl) (XE impK 80 w0 w p mb B s (rImportE (strl s) r).2 cs 1 v0 ts mb (cs.set 1 v0) 33 N1 (fun t => (impK).of t = (rImportE (strl s) r).1) [fun t => .agg ((impK).enc t).toArray]) rfl ?_)
  iterate 11 ((first | refine .quiet rfl rfl ?_ ?_ | refine .chain rfl rfl ?_ ?_); rotate_left)
  refine .last rfl rfl ?_
  any_goals
    intro k' v' f w' hX ho hv K' hK'
    obtain ⟨g0, gB⟩ := hcells.out k' v' w' hX
    clear hX
    simp (disch := decide) only [NeedsC, Region.binds, List.contains_cons, List.contains_nil, Nat.reduceBEq, Bool.or_false, Bool.false_or, Bool.or_true, Bool.true_or, List.getD_cons_succ, List.getD_cons_zero, Nat.reduceAdd, true_imp_iff, and_true, Bool.true_eq_false, false_imp_iff, true_and, reduceCtorEq] at hv
    have e0 : f 0 = .pointer (some ⟨p, 0, none⟩) := ho.at_ 0 (by decide)
    have e2 : f 2 = .pointer (some ⟨mb, 0, none⟩) := ho.at_ 2 (by decide)
    clear ho
    go_simp
    (try simp (disch := decide) only [fv_t, hv, e0, e2])
    (try go_simp)
    exact hK' _ _ ⟨fv_set _ _, rfl⟩
  · intro v' f w' hX hpv ho hv K' hK'
    obtain ⟨g, cap, t, rfl, hT, hG, hB⟩ := hX
    have z0 : f 39 = .slice (some ⟨g, 0, none⟩) (ts.length + 1) cap := hpv
    have z1 : f 41 = .pointer (some ⟨mb, 1, none⟩) := hv 10 (by decide) rfl
    have f4 := hG.md.fr 1
    have c4 := hG.md.cell (j := 1) (List.getElem?_set_self (by rw [hcs.out]; decide))
    go_simp
    (try simp (disch := decide) only [fv_t, z0, z1])
    (try go_simp)
    refine hK' _ _ ?_
    have hGs := hG.store hm hpm
    exact ⟨rfl, _, results_none rfl _ _ _, rfl, _, t, hT, hGs⟩
  · intro v' f w' hX hpv ho hv K' hK'
    obtain rfl : w' = w.drew := hX
    have ht := hE.out.drew hp hpm
    simp (disch := decide) only [NeedsC, Region.binds, List.contains_cons, List.contains_nil, Nat.reduceBEq, Bool.or_false, Bool.false_or, Bool.or_true, Bool.true_or, List.getD_cons_succ, List.getD_cons_zero, Nat.reduceAdd, true_imp_iff, and_true, Bool.true_eq_false, false_imp_iff, true_and, reduceCtorEq] at hv
    go_simp
    (try simp (disch := decide) only [fv_t, hv])
    (try go_simp)
    go_at_call 145
    refine (qimported_any ht.rd hs ha he).mono ?_
    rintro e' w4 ⟨hW, v1, ⟨-, -, rfl⟩, rfl, hR⟩
    have hS := ht.rdd hp hpm hW hR
    have hB := (hx.out.below (Below.refl _ _).drew).wr hW (fun e => by subst e; omega)
    go_simp
    exact hK' _ _ ⟨_, fv_set _ _, (rImportE (strl s) r).1, rfl, rfl, trivial, hS, hB⟩
  · intro v' f w' hX hpv ho hv K' hK'
    obtain ⟨t, rfl, hT, hok, hS, hB⟩ := hX
    have z0 : f 37 = .agg ((impK).enc t).toArray := hpv
    replace hT := Lib.hid hT
    go_simp
    (try simp (disch := decide) only [fv_t, z0])
    (try go_simp)
    obtain ⟨y1, y2, y3, y4⟩ := XE.lay hS hp hpm hB t hok
    exact hK' _ _ ⟨_, fv_set _ _, _, t, rfl, y1, hT.out, y2, y3, y4⟩
  · intro v' f w' hX hpv ho hv K' hK'
    obtain ⟨b, t, rfl, hb, hT, hok, hS, hB⟩ := hX
    simp (disch := decide) only [NeedsC, Region.binds, List.contains_cons, List.contains_nil, Nat.reduceBEq, Bool.or_false, Bool.false_or, Bool.or_true, Bool.true_or, List.getD_cons_succ, List.getD_cons_zero, Nat.reduceAdd, true_imp_iff, and_true, Bool.true_eq_false, false_imp_iff, true_and, reduceCtorEq] at hv
    have z0 := fv_get (n := 148) (by decide) (show f 38 = .slice (some ⟨b, 0, none⟩) 1 1 from hpv)
    have z1 := fv_get (n := 148) (by decide) (show f 35 = v0 from hv)
    refine wp_append_lies _ (.tmp 35) (.tmp 38) 24 (by rfl) B 80 ie _ 3 40 Tryz.underlying24 hie hze hse hbe rfl (by decide) v0 ts.length (ts.flatMap (impK).enc) (by exact z1) hS.own ⟨b, 0, none⟩ 1 1 ((impK).enc t) (by exact z0) (by rw [(impK).len]; rfl) (World.news_of_block (cs := ((impK).enc t).toArray) (t := 80) (fr := (0, 0)) hb) ((impK).one t) (by decide) (by unfold maxLen; omega) (by omega) (by rw [← hw0.out]; exact hS.wr.size) w'.heap.size rfl ?_
    intro g cap w5 hown hgrow hat hlt
    exact hK' _ _ ⟨_, fv_put _ _, g, cap, t, rfl, hT, hS.append hp hm (Nat.le_of_eq hw0.out) hok hvo hbN hown hgrow hat, hB.grown hgrow (fun e => hxv _ e.symm rfl)⟩
set_option maxRecDepth 100000 in
set_option maxHeartbeats 8000000 in
theorem entry_7 : EntFn expK 93 6 7 rExportE := by
  intro w0 w p mb B s r cs v0 ts hp hm hpm hw0 hcs hs hok he hl hE
  have hmix : Tryz.prog.follows .mixedOrders = true := by kernel_rfl
  obtain ⟨ie, hie, hze, hse, hbe⟩ := info_parts info114
  have ha := hok.1
  obtain ⟨N1, hN1⟩ : ∃ N1, N1 = w.heap.size := ⟨_, rfl⟩
  have hx := hE.md
  have hcells := Lib.hid (fun k v w' (hX : XE expK 93 w0 w p mb B s (rExportE (strl s) r).2 cs 6 v0 ts mb (cs.set 6 v0) 33 N1 (fun t => (expK).of t = (rExportE (strl s) r).1) [fun t => .agg ((expK).enc t).toArray] k v w') => XE.cells hE hp hpm hx (by omega) hX)
  have hvo : ∀ g, v0.ownBlock = some g → g < N1 := fun g hg => by rw [hN1]; exact (hE.own.lt g hg).2
  have hbN : B ≤ N1 := by rw [hN1]; exact Nat.le_trans (Nat.le_of_eq hw0.symm) hE.wr.size
  have hxv : ∀ g, v0.ownBlock = some g → mb ≠ g := fun g hg => by have := (hE.own.lt g hg).1; have := hvo g hg; omega
  replace hN1 := Lib.hid hN1
  replace hcs := Lib.hid hcs
  replace hw0 := Lib.hid hw0
  replace hE := Lib.hid hE
  replace hx := Lib.hid hx
  go_enter Tryz.func85, Tryz.ntmps85
  go_wp2_with fail
  refine wp_fv _ 148 rfl (region_steps hmix 148 99 11 3 [.pointer (some ⟨mb, 0, none⟩), .pointer (some ⟨mb, 0, none⟩), .pointer (some ⟨mb, 0, none⟩), .pointer (some ⟨mb, 6, none⟩), v0, .pointer (some ⟨p, 0, none⟩), undef, undef, undef, .pointer (some ⟨mb, 0, none⟩), .pointer (some ⟨mb, 6, none⟩)] [6, 7, 8, 11] rfl (by kernel_rfl) (by kernel_rfl) (by kernel_rfl) rfl (by kernel_rfl) (XE expK 93 w0 w p mb B s (rExportE (strl s) r).2 cs 6 v0 ts mb (cs.set 6 v0) 33 N1 (fun t => (expK).of t = (rExportE (strl s) r).1) [fun t => .agg ((expK).enc t).toArray]) rfl ?_)
  iterate 11 ((first | refine .quiet rfl rfl ?_ ?_ | refine .chain rfl rfl ?_ ?_); rotate_left)
  refine .last rfl rfl ?_
  any_goals
    intro k' v' f w' hX ho hv K' hK'
    obtain ⟨g0, gB⟩ := hcells.out k' v' w' hX
    clear hX
    simp (disch := decide) only [NeedsC, Region.binds, List.contains_cons, List.contains_nil, Nat.reduceBEq, Bool.or_false, Bool.false_or, Bool.or_true, Bool.true_or, List.getD_cons_succ, List.getD_cons_zero, Nat.reduceAdd, true_imp_iff, and_true, Bool.true_eq_false, false_imp_iff, true_and, reduceCtorEq] at hv
    have e0 : f 0 = .pointer (some ⟨p, 0, none⟩) := ho.at_ 0 (by decide)
    have e2 : f 2 = .pointer (some ⟨mb, 0, none⟩) := ho.at_ 2 (by decide)
    clear ho
    go_simp
    (try simp (disch := decide) only [fv_t, hv, e0, e2])
    (try go_simp)
    exact hK' _ _ ⟨fv_set _ _, rfl⟩
  · intro v' f w' hX hpv ho hv K' hK'
    obtain ⟨g, cap, t, rfl, hT, hG, hB⟩ := hX
    have z0 : f 107 = .slice (some ⟨g, 0, none⟩) (ts.length + 1) cap := hpv
    have z1 : f 109 = .pointer (some ⟨mb, 6, none⟩) := hv 10 (by decide) rfl
    have f4 := hG.md.fr 6
    have c4 := hG.md.cell (j := 6) (List.getElem?_set_self (by rw [hcs.out]; decide))
    go_simp
    (try simp (disch := decide) only [fv_t, z0, z1])
    (try go_simp)
    refine hK' _ _ ?_
    have hGs := hG.store hm hpm
    exact ⟨rfl, _, results_none rfl _ _ _, rfl, _, t, hT, hGs⟩
  · intro v' f w' hX hpv ho hv K' hK'
    obtain rfl : w' = w.drew := hX
    have ht := hE.out.drew hp hpm
    simp (disch := decide) only [NeedsC, Region.binds, List.contains_cons, List.contains_nil, Nat.reduceBEq, Bool.or_false, Bool.false_or, Bool.or_true, Bool.true_or, List.getD_cons_succ, List.getD_cons_zero, Nat.reduceAdd, true_imp_iff, and_true, Bool.true_eq_false, false_imp_iff, true_and, reduceCtorEq] at hv
    go_simp
    (try simp (disch := decide) only [fv_t, hv])
    (try go_simp)
    go_at_call 148
    refine (qexported_any ht.rd hs ha he).mono ?_
    rintro e' w4 ⟨hW, v1, ⟨-, rfl⟩, rfl, hR⟩
    have hS := ht.rdd hp hpm hW hR
    have hB := (hx.out.below (Below.refl _ _).drew).wr hW (fun e => by subst e; omega)
    go_simp
    exact hK' _ _ ⟨_, fv_set _ _, (rExportE (strl s) r).1, rfl, rfl, trivial, hS, hB⟩
  · intro v' f w' hX hpv ho hv K' hK'
    obtain ⟨t, rfl, hT, hok, hS, hB⟩ := hX
    have z0 : f 105 = .agg ((expK).enc t).toArray := hpv
    replace hT := Lib.hid hT
    go_simp
    (try simp (disch := decide) only [fv_t, z0])
    (try go_simp)
    obtain ⟨y1, y2, y3, y4⟩ := XE.lay hS hp hpm hB t hok
    exact hK' _ _ ⟨_, fv_set _ _, _, t, rfl, y1, hT.out, y2, y3, y4⟩
  · intro v' f w' hX hpv ho hv K' hK'
    obtain ⟨b, t, rfl, hb, hT, hok, hS, hB⟩ := hX
    simp (disch := decide) only [NeedsC, Region.binds, List.contains_cons, List.contains_nil, Nat.reduceBEq, Bool.or_false, Bool.false_or, Bool.or_true, Bool.true_or, List.getD_cons_succ, List.getD_cons_zero, Nat.reduceAdd, true_imp_iff, and_true, Bool.true_eq_false, false_imp_iff, true_and, reduceCtorEq] at hv
    have z0 := fv_get (n := 148) (by decide) (show f 106 = .slice (some ⟨b, 0, none⟩) 1 1 from hpv)
    have z1 := fv_get (n := 148) (by decide) (show f 103 = v0 from hv)
    refine wp_append_lies _ (.tmp 103) (.tmp 106) 28 (by rfl) B 93 ie _ 3 32 Tryz.underlying28 hie hze hse hbe rfl (by decide) v0 ts.length (ts.flatMap (expK).enc) (by exact z1) hS.own ⟨b, 0, none⟩ 1 1 ((expK).enc t) (by exact z0) (by rw [(expK).len]; rfl) (World.news_of_block (cs := ((expK).enc t).toArray) (t := 93) (fr := (0, 0)) hb) ((expK).one t) (by decide) (by unfold maxLen; omega) (by omega) (by rw [← hw0.out]; exact hS.wr.size) w'.heap.size rfl ?_
    intro g cap w5 hown hgrow hat hlt
    exact hK' _ _ ⟨_, fv_put _ _, g, cap, t, rfl, hT, hS.append hp hm (Nat.le_of_eq hw0.out) hok hvo hbN hown hgrow hat, hB.grown hgrow (fun e => hxv _ e.symm rfl)⟩
set_option maxRecDepth 100000 in
set_option maxHeartbeats 8000000 in
theorem entry_5 : EntFn limK 86 4 5 rLimits := by
  intro w0 w p mb B s r cs v0 ts hp hm hpm hw0 hcs hs hok he hl hE
  have hmix : Tryz.prog.follows .mixedOrders = true := by kernel_rfl
  obtain ⟨ie, hie, hze, hse, hbe⟩ := info_parts info110l
  have ha := hok.1
  obtain ⟨N1, hN1⟩ : ∃ N1, N1 = w.heap.size := ⟨_, rfl⟩
  have hx := hE.md
  have hcells := Lib.hid (fun k v w' (hX : XE limK 86 w0 w p mb B s (rLimits (strl s) r).2 cs 4 v0 ts mb (cs.set 4 v0) 33 N1 (fun t => (limK).of t = (rLimits (strl s) r).1) [fun t => .agg ((limK).enc t).toArray] k v w') => XE.cells hE hp hpm hx (by omega) hX)
  have hvo : ∀ g, v0.ownBlock = some g → g < N1 := fun g hg => by rw [hN1]; exact (hE.own.lt g hg).2
  have hbN : B ≤ N1 := by rw [hN1]; exact Nat.le_trans (Nat.le_of_eq hw0.symm) hE.wr.size
  have hxv : ∀ g, v0.ownBlock = some g → mb ≠ g := fun g hg => by have := (hE.own.lt g hg).1; have := hvo g hg; omega
  replace hN1 := Lib.hid hN1
  replace hcs := Lib.hid hcs
  replace hw0 := Lib.hid hw0
  replace hE := Lib.hid hE
  replace hx := Lib.hid hx
  go_enter Tryz.func85, Tryz.ntmps85
  go_wp2_with fail
  refine wp_fv _ 148 rfl (region_steps hmix 148 73 11 3 [.pointer (some ⟨mb, 0, none⟩), .pointer (some ⟨mb, 0, none⟩), .pointer (some ⟨mb, 0, none⟩), .pointer (some ⟨mb, 4, none⟩), v0, .pointer (some ⟨p, 0, none⟩), undef, undef, undef, .pointer (some ⟨mb, 0, none⟩), .pointer (some ⟨mb, 4, none⟩)] [6, 7, 8, 11] rfl (by kernel_rfl) (by kernel_rfl) (by kernel_rfl) rfl (by kernel_rfl) (XE limK 86 w0 w p mb B s (rLimits (strl s) r).2 cs 4 v0 ts mb (cs.set 4 v0) 33 N1 (fun t => (limK).of t = (rLimits (strl s) r).1) [fun t => .agg ((limK).enc t).toArray]) rfl ?_)
  iterate 11 ((first | refine .quiet rfl rfl ?_ ?_ | refine .chain rfl rfl ?_ ?_); rotate_left)
  refine .last rfl rfl ?_
  any_goals
    intro k' v' f w' hX ho hv K' hK'
    obtain ⟨g0, gB⟩ := hcells.out k' v' w' hX
    clear hX
    simp (disch := decide) only [NeedsC, Region.binds, List.contains_cons, List.contains_nil, Nat.reduceBEq, Bool.or_false, Bool.false_or, Bool.or_true, Bool.true_or, List.getD_cons_succ, List.getD_cons_zero, Nat.reduceAdd, true_imp_iff, and_true, Bool.true_eq_false, false_imp_iff, true_and, reduceCtorEq] at hv
    have e0 : f 0 = .pointer (some ⟨p, 0, none⟩) := ho.at_ 0 (by decide)
    have e2 : f 2 = .pointer (some ⟨mb, 0, none⟩) := ho.at_ 2 (by decide)
    clear ho
    go_simp
    (try simp (disch := decide) only [fv_t, hv, e0, e2])
    (try go_simp)
    exact hK' _ _ ⟨fv_set _ _, rfl⟩
  · intro v' f w' hX hpv ho hv K' hK'
    obtain ⟨g, cap, t, rfl, hT, hG, hB⟩ := hX
    have z0 : f 81 = .slice (some ⟨g, 0, none⟩) (ts.length + 1) cap := hpv
    have z1 : f 83 = .pointer (some ⟨mb, 4, none⟩) := hv 10 (by decide) rfl
    have f4 := hG.md.fr 4
    have c4 := hG.md.cell (j := 4) (List.getElem?_set_self (by rw [hcs.out]; decide))
    go_simp
    (try simp (disch := decide) only [fv_t, z0, z1])
    (try go_simp)
    refine hK' _ _ ?_
    have hGs := hG.store hm hpm
    exact ⟨rfl, _, results_none rfl _ _ _, rfl, _, t, hT, hGs⟩
  · intro v' f w' hX hpv ho hv K' hK'
    obtain rfl : w' = w.drew := hX
    have ht := hE.out.drew hp hpm
    simp (disch := decide) only [NeedsC, Region.binds, List.contains_cons, List.contains_nil, Nat.reduceBEq, Bool.or_false, Bool.false_or, Bool.or_true, Bool.true_or, List.getD_cons_succ, List.getD_cons_zero, Nat.reduceAdd, true_imp_iff, and_true, Bool.true_eq_false, false_imp_iff, true_and, reduceCtorEq] at hv
    go_simp
    (try simp (disch := decide) only [fv_t, hv])
    (try go_simp)
    go_at_call 146
    refine (qlimits_any ht.rd hs ha he).mono ?_
    rintro e' w4 ⟨hW, v1, rfl, rfl, hR⟩
    have hS := ht.rdd hp hpm hW hR
    have hB := (hx.out.below (Below.refl _ _).drew).wr hW (fun e => by subst e; omega)
    go_simp
    exact hK' _ _ ⟨_, fv_set _ _, (rLimits (strl s) r).1, rfl, rfl, trivial, hS, hB⟩
  · intro v' f w' hX hpv ho hv K' hK'
    obtain ⟨t, rfl, hT, hok, hS, hB⟩ := hX
    have z0 : f 79 = .agg ((limK).enc t).toArray := hpv
    replace hT := Lib.hid hT
    go_simp
    (try simp (disch := decide) only [fv_t, z0])
    (try go_simp)
    obtain ⟨y1, y2, y3, y4⟩ := XE.lay hS hp hpm hB t hok
    exact hK' _ _ ⟨_, fv_set _ _, _, t, rfl, y1, hT.out, y2, y3, y4⟩
  · intro v' f w' hX hpv ho hv K' hK'
    obtain ⟨b, t, rfl, hb, hT, hok, hS, hB⟩ := hX
    simp (disch := decide) only [NeedsC, Region.binds, List.contains_cons, List.contains_nil, Nat.reduceBEq, Bool.or_false, Bool.false_or, Bool.or_true, Bool.true_or, List.getD_cons_succ, List.getD_cons_zero, Nat.reduceAdd, true_imp_iff, and_true, Bool.true_eq_false, false_imp_iff, true_and, reduceCtorEq] at hv
    have z0 := fv_get (n := 148) (by decide) (show f 80 = .slice (some ⟨b, 0, none⟩) 1 1 from hpv)
    have z1 := fv_get (n := 148) (by decide) (show f 77 = v0 from hv)
    refine wp_append_lies _ (.tmp 77) (.tmp 80) 26 (by rfl) B 86 ie _ 3 24 Tryz.underlying26 hie hze hse hbe rfl (by decide) v0 ts.length (ts.flatMap (limK).enc) (by exact z1) hS.own ⟨b, 0, none⟩ 1 1 ((limK).enc t) (by exact z0) (by rw [(limK).len]; rfl) (World.news_of_block (cs := ((limK).enc t).toArray) (t := 86) (fr := (0, 0)) hb) ((limK).one t) (by decide) (by unfold maxLen; omega) (by omega) (by rw [← hw0.out]; exact hS.wr.size) w'.heap.size rfl ?_
    intro g cap w5 hown hgrow hat hlt
    exact hK' _ _ ⟨_, fv_put _ _, g, cap, t, rfl, hT, hS.append hp hm (Nat.le_of_eq hw0.out) hok hvo hbN hown hgrow hat, hB.grown hgrow (fun e => hxv _ e.symm rfl)⟩
set_option maxRecDepth 100000 in
set_option maxHeartbeats 8000000 in
theorem entry_6 : EntFn gloK 90 5 6 rGlobal := by
  intro w0 w p mb B s r cs v0 ts hp hm hpm hw0 hcs hs hok he hl hE
  have hmix : Tryz.prog.follows .mixedOrders = true := by kernel_rfl
  obtain ⟨ie, hie, hze, hse, hbe⟩ := info_parts info80
  have ha := hok.1
  obtain ⟨N1, hN1⟩ : ∃ N1, N1 = w.heap.size := ⟨_, rfl⟩
  have hx := hE.md
  have hcells := Lib.hid (fun k v w' (hX : XE gloK 90 w0 w p mb B s (rGlobal (strl s) r).2 cs 5 v0 ts mb (cs.set 5 v0) 33 N1 (fun t => (gloK).of t = (rGlobal (strl s) r).1) [fun t => .agg #[.int .i64 t.1, .bool t.2.1, .int .i64 t.2.2.op, .int .i64 t.2.2.x, .int .i64 t.2.2.y, .int .i64 t.2.2.n, .slice t.2.2.a4 t.2.2.ls.length t.2.2.c4, .slice t.2.2.a5 t.2.2.body.len t.2.2.c5, .slice t.2.2.a6 t.2.2.els.len t.2.2.c6]] k v w') => XE.cells hE hp hpm hx (by omega) hX)
  have hvo : ∀ g, v0.ownBlock = some g → g < N1 := fun g hg => by rw [hN1]; exact (hE.own.lt g hg).2
  have hbN : B ≤ N1 := by rw [hN1]; exact Nat.le_trans (Nat.le_of_eq hw0.symm) hE.wr.size
  have hxv : ∀ g, v0.ownBlock = some g → mb ≠ g := fun g hg => by have := (hE.own.lt g hg).1; have := hvo g hg; omega
  replace hN1 := Lib.hid hN1
  replace hcs := Lib.hid hcs
  replace hw0 := Lib.hid hw0
  replace hE := Lib.hid hE
  replace hx := Lib.hid hx
  go_enter Tryz.func85, Tryz.ntmps85
  go_wp2_with fail
  refine wp_fv _ 148 rfl (region_steps hmix 148 86 11 3 [.pointer (some ⟨mb, 0, none⟩), .pointer (some ⟨mb, 0, none⟩), .pointer (some ⟨mb, 0, none⟩), .pointer (some ⟨mb, 5, none⟩), v0, .pointer (some ⟨p, 0, none⟩), undef, undef, undef, .pointer (some ⟨mb, 0, none⟩), .pointer (some ⟨mb, 5, none⟩)] [6, 7, 8, 11] rfl (by kernel_rfl) (by kernel_rfl) (by kernel_rfl) rfl (by kernel_rfl) (XE gloK 90 w0 w p mb B s (rGlobal (strl s) r).2 cs 5 v0 ts mb (cs.set 5 v0) 33 N1 (fun t => (gloK).of t = (rGlobal (strl s) r).1) [fun t => .agg #[.int .i64 t.1, .bool t.2.1, .int .i64 t.2.2.op, .int .i64 t.2.2.x, .int .i64 t.2.2.y, .int .i64 t.2.2.n, .slice t.2.2.a4 t.2.2.ls.length t.2.2.c4, .slice t.2.2.a5 t.2.2.body.len t.2.2.c5, .slice t.2.2.a6 t.2.2.els.len t.2.2.c6]]) rfl ?_)
  iterate 11 ((first | refine .quiet rfl rfl ?_ ?_ | refine .chain rfl rfl ?_ ?_); rotate_left)
  refine .last rfl rfl ?_
  any_goals
    intro k' v' f w' hX ho hv K' hK'
    obtain ⟨g0, gB⟩ := hcells.out k' v' w' hX
    clear hX
    simp (disch := decide) only [NeedsC, Region.binds, List.contains_cons, List.contains_nil, Nat.reduceBEq, Bool.or_false, Bool.false_or, Bool.or_true, Bool.true_or, List.getD_cons_succ, List.getD_cons_zero, Nat.reduceAdd, true_imp_iff, and_true, Bool.true_eq_false, false_imp_iff, true_and, reduceCtorEq] at hv
    have e0 : f 0 = .pointer (some ⟨p, 0, none⟩) := ho.at_ 0 (by decide)
    have e2 : f 2 = .pointer (some ⟨mb, 0, none⟩) := ho.at_ 2 (by decide)
    clear ho
    go_simp
    (try simp (disch := decide) only [fv_t, hv, e0, e2])
    (try go_simp)
    exact hK' _ _ ⟨fv_set _ _, rfl⟩
  · intro v' f w' hX hpv ho hv K' hK'
    obtain ⟨g, cap, t, rfl, hT, hG, hB⟩ := hX
    have z0 : f 94 = .slice (some ⟨g, 0, none⟩) (ts.length + 1) cap := hpv
    have z1 : f 96 = .pointer (some ⟨mb, 5, none⟩) := hv 10 (by decide) rfl
    have f4 := hG.md.fr 5
    have c4 := hG.md.cell (j := 5) (List.getElem?_set_self (by rw [hcs.out]; decide))
    go_simp
    (try simp (disch := decide) only [fv_t, z0, z1])
    (try go_simp)
    refine hK' _ _ ?_
    have hGs := hG.store hm hpm
    exact ⟨rfl, _, results_none rfl _ _ _, rfl, _, t, hT, hGs⟩
  · intro v' f w' hX hpv ho hv K' hK'
    obtain rfl : w' = w.drew := hX
    have ht := hE.out.drew hp hpm
    simp (disch := decide) only [NeedsC, Region.binds, List.contains_cons, List.contains_nil, Nat.reduceBEq, Bool.or_false, Bool.false_or, Bool.or_true, Bool.true_or, List.getD_cons_succ, List.getD_cons_zero, Nat.reduceAdd, true_imp_iff, and_true, Bool.true_eq_false, false_imp_iff, true_and, reduceCtorEq] at hv
    go_simp
    (try simp (disch := decide) only [fv_t, hv])
    (try go_simp)
    go_at_call 147
    refine (qglobal_any ht.rd hs hok he).mono ?_
    rintro e' w4 ⟨hW, v1, ⟨f1, f2, f3, t, hS7, rfl⟩, rfl, hR⟩
    have hS := ht.rdd hp hpm hW hR
    have hB := (hx.out.below (Below.refl _ _).drew).wr hW (fun e => by subst e; omega)
    have hT1 := Lib.hid (one_of_same hS7)
    have hT2 := Lib.hid (flat_of_same hS7 f1 f2 f3)
    clear f1 f2 f3 hS7
    go_simp
    exact hK' _ _ ⟨_, fv_set _ _, ((rGlobal (strl s) r).1.1, (rGlobal (strl s) r).1.2.1, t), rfl, (by show (_, _, oneOf t) = _; rw [hT1.out]), hT2.out, hS, hB⟩
  · intro v' f w' hX hpv ho hv K' hK'
    obtain ⟨t, rfl, hT, hok, hS, hB⟩ := hX
    have z0 : f 92 = .agg #[.int .i64 t.1, .bool t.2.1, .int .i64 t.2.2.op, .int .i64 t.2.2.x, .int .i64 t.2.2.y, .int .i64 t.2.2.n, .slice t.2.2.a4 t.2.2.ls.length t.2.2.c4, .slice t.2.2.a5 t.2.2.body.len t.2.2.c5, .slice t.2.2.a6 t.2.2.els.len t.2.2.c6] := hpv
    replace hT := Lib.hid hT
    go_simp
    (try simp (disch := decide) only [fv_t, z0])
    (try go_simp)
    obtain ⟨y1, y2, y3, y4⟩ := XE.lay hS hp hpm hB t hok
    exact hK' _ _ ⟨_, fv_set _ _, _, t, rfl, y1, hT.out, y2, y3, y4⟩
  · intro v' f w' hX hpv ho hv K' hK'
    obtain ⟨b, t, rfl, hb, hT, hok, hS, hB⟩ := hX
    simp (disch := decide) only [NeedsC, Region.binds, List.contains_cons, List.contains_nil, Nat.reduceBEq, Bool.or_false, Bool.false_or, Bool.or_true, Bool.true_or, List.getD_cons_succ, List.getD_cons_zero, Nat.reduceAdd, true_imp_iff, and_true, Bool.true_eq_false, false_imp_iff, true_and, reduceCtorEq] at hv
    have z0 := fv_get (n := 148) (by decide) (show f 93 = .slice (some ⟨b, 0, none⟩) 1 1 from hpv)
    have z1 := fv_get (n := 148) (by decide) (show f 90 = v0 from hv)
    refine wp_append_lies _ (.tmp 90) (.tmp 93) 27 (by rfl) B 90 ie _ 9 120 Tryz.underlying27 hie hze hse hbe rfl (by decide) v0 ts.length (ts.flatMap (gloK).enc) (by exact z1) hS.own ⟨b, 0, none⟩ 1 1 ((gloK).enc t) (by exact z0) (by rw [(gloK).len]; rfl) (World.news_of_block (cs := ((gloK).enc t).toArray) (t := 90) (fr := (0, 0)) hb) ((gloK).one t) (by decide) (by unfold maxLen; omega) (by omega) (by rw [← hw0.out]; exact hS.wr.size) w'.heap.size rfl ?_
    intro g cap w5 hown hgrow hat hlt
    exact hK' _ _ ⟨_, fv_put _ _, g, cap, t, rfl, hT, hS.append hp hm (Nat.le_of_eq hw0.out) hok hvo hbN hown hgrow hat, hB.grown hgrow (fun e => hxv _ e.symm rfl)⟩
set_option maxRecDepth 100000 in
set_option maxHeartbeats 8000000 in
theorem entry_4 : EntFn limK 86 3 4 rTableE := by
  intro w0 w p mb B s r cs v0 ts hp hm hpm hw0 hcs hs hok he hl hE
  have hmix : Tryz.prog.follows .mixedOrders = true := by kernel_rfl
  obtain ⟨ie, hie, hze, hse, hbe⟩ := info_parts info110l
  have ha := hok.1
  go_enter Tryz.func85, Tryz.ntmps85
  go_wp2_with fail
  refine (qmust_any hE.rd hs he 112).mono ?_
  rintro e' w1 ⟨hW1, v1, rfl, rfl, hR1⟩
  change RrAt w1 p s (rMust (strl s) 112 r) at hR1
  have hE1 := hE.rdd hp hpm hW1 hR1
  have hmv := go_must (strl s) 112 r
  clear hE hW1 hR1
  obtain ⟨r1, hr1⟩ : ∃ r1, r1 = rMust (strl s) 112 r := ⟨_, rfl⟩
  rw [← hr1] at hE1 hmv
  have ha1 := (hmv.ok hok).1
  have ho1 := hmv.ok hok
  have he1 : r1.e ≤ s.size := by rw [hmv.e]; exact he
  replace hr1 := Lib.hid hr1
  clear hmv
  obtain ⟨N1, hN1⟩ : ∃ N1, N1 = w1.heap.size := ⟨_, rfl⟩
  have hx := hE1.md
  have hcells := Lib.hid (fun k v w' (hX : XE limK 86 w0 w1 p mb B s (rLimits (strl s) r1).2 cs 3 v0 ts mb (cs.set 3 v0) 33 N1 (fun t => (limK).of t = (rLimits (strl s) r1).1) [fun t => .agg ((limK).enc t).toArray] k v w') => XE.cells hE1 hp hpm hx (by omega) hX)
  have hvo : ∀ g, v0.ownBlock = some g → g < N1 := fun g hg => by rw [hN1]; exact (hE1.own.lt g hg).2
  have hbN : B ≤ N1 := by rw [hN1]; exact Nat.le_trans (Nat.le_of_eq hw0.symm) hE1.wr.size
  have hxv : ∀ g, v0.ownBlock = some g → mb ≠ g := fun g hg => by have := (hE1.own.lt g hg).1; have := hvo g hg; omega
  replace hN1 := Lib.hid hN1
  replace hcs := Lib.hid hcs
  replace hw0 := Lib.hid hw0
  replace hE := Lib.hid hE1
  replace hx := Lib.hid hx
  go_wp2_with fail
  refine wp_fv _ 148 rfl (region_steps hmix 148 60 11 3 [.pointer (some ⟨mb, 0, none⟩), .pointer (some ⟨mb, 0, none⟩), .pointer (some ⟨mb, 0, none⟩), .pointer (some ⟨mb, 3, none⟩), v0, .pointer (some ⟨p, 0, none⟩), undef, undef, undef, .pointer (some ⟨mb, 0, none⟩), .pointer (some ⟨mb, 3, none⟩)] [6, 7, 8, 11] rfl (by kernel_rfl) (by kernel_rfl) (by kernel_rfl) rfl (by kernel_rfl) (XE limK 86 w0 w1 p mb B s (rLimits (strl s) r1).2 cs 3 v0 ts mb (cs.set 3 v0) 33 N1 (fun t => (limK).of t = (rLimits (strl s) r1).1) [fun t => .agg ((limK).enc t).toArray]) rfl ?_)
  iterate 11 ((first | refine .quiet rfl rfl ?_ ?_ | refine .chain rfl rfl ?_ ?_); rotate_left)
  refine .last rfl rfl ?_
  any_goals
    intro k' v' f w' hX ho hv K' hK'
    obtain ⟨g0, gB⟩ := hcells.out k' v' w' hX
    clear hX
    simp (disch := decide) only [NeedsC, Region.binds, List.contains_cons, List.contains_nil, Nat.reduceBEq, Bool.or_false, Bool.false_or, Bool.or_true, Bool.true_or, List.getD_cons_succ, List.getD_cons_zero, Nat.reduceAdd, true_imp_iff, and_true, Bool.true_eq_false, false_imp_iff, true_and, reduceCtorEq] at hv
    have e0 : f 0 = .pointer (some ⟨p, 0, none⟩) := ho.at_ 0 (by decide)
    have e2 : f 2 = .pointer (some ⟨mb, 0, none⟩) := ho.at_ 2 (by decide)
    clear ho
    go_simp
    (try simp (disch := decide) only [fv_t, hv, e0, e2])
    (try go_simp)
    exact hK' _ _ ⟨fv_set _ _, rfl⟩
  · intro v' f w' hX hpv ho hv K' hK'
    obtain ⟨g, cap, t, rfl, hT, hG, hB⟩ := hX
    have z0 : f 68 = .slice (some ⟨g, 0, none⟩) (ts.length + 1) cap := hpv
    have z1 : f 70 = .pointer (some ⟨mb, 3, none⟩) := hv 10 (by decide) rfl
    have f4 := hG.md.fr 3
    have c4 := hG.md.cell (j := 3) (List.getElem?_set_self (by rw [hcs.out]; decide))
    go_simp
    (try simp (disch := decide) only [fv_t, z0, z1])
    (try go_simp)
    refine hK' _ _ ?_
    have hGs := hG.store hm hpm
    have hq : rLimits (strl s) r1 = rTableE (strl s) r := by rw [hr1.out]; rfl
    rw [hq] at hT hGs
    exact ⟨rfl, _, results_none rfl _ _ _, rfl, _, t, hT, hGs⟩
  · intro v' f w' hX hpv ho hv K' hK'
    obtain rfl : w' = w1.drew := hX
    have ht := hE.out.drew hp hpm
    simp (disch := decide) only [NeedsC, Region.binds, List.contains_cons, List.contains_nil, Nat.reduceBEq, Bool.or_false, Bool.false_or, Bool.or_true, Bool.true_or, List.getD_cons_succ, List.getD_cons_zero, Nat.reduceAdd, true_imp_iff, and_true, Bool.true_eq_false, false_imp_iff, true_and, reduceCtorEq] at hv
    go_simp
    (try simp (disch := decide) only [fv_t, hv])
    (try go_simp)
    go_at_call 146
    refine (qlimits_any ht.rd hs ha1 he1).mono ?_
    rintro e' w4 ⟨hW, v1, rfl, rfl, hR⟩
    have hS := ht.rdd hp hpm hW hR
    have hB := (hx.out.below (Below.refl _ _).drew).wr hW (fun e => by subst e; omega)
    go_simp
    exact hK' _ _ ⟨_, fv_set _ _, (rLimits (strl s) r1).1, rfl, rfl, trivial, hS, hB⟩
  · intro v' f w' hX hpv ho hv K' hK'
    obtain ⟨t, rfl, hT, hok, hS, hB⟩ := hX
    have z0 : f 66 = .agg ((limK).enc t).toArray := hpv
    replace hT := Lib.hid hT
    go_simp
    (try simp (disch := decide) only [fv_t, z0])
    (try go_simp)
    obtain ⟨y1, y2, y3, y4⟩ := XE.lay hS hp hpm hB t hok
    exact hK' _ _ ⟨_, fv_set _ _, _, t, rfl, y1, hT.out, y2, y3, y4⟩
  · intro v' f w' hX hpv ho hv K' hK'
    obtain ⟨b, t, rfl, hb, hT, hok, hS, hB⟩ := hX
    simp (disch := decide) only [NeedsC, Region.binds, List.contains_cons, List.contains_nil, Nat.reduceBEq, Bool.or_false, Bool.false_or, Bool.or_true, Bool.true_or, List.getD_cons_succ, List.getD_cons_zero, Nat.reduceAdd, true_imp_iff, and_true, Bool.true_eq_false, false_imp_iff, true_and, reduceCtorEq] at hv
    have z0 := fv_get (n := 148) (by decide) (show f 67 = .slice (some ⟨b, 0, none⟩) 1 1 from hpv)
    have z1 := fv_get (n := 148) (by decide) (show f 64 = v0 from hv)
    refine wp_append_lies _ (.tmp 64) (.tmp 67) 26 (by rfl) B 86 ie _ 3 24 Tryz.underlying26 hie hze hse hbe rfl (by decide) v0 ts.length (ts.flatMap (limK).enc) (by exact z1) hS.own ⟨b, 0, none⟩ 1 1 ((limK).enc t) (by exact z0) (by rw [(limK).len]; rfl) (World.news_of_block (cs := ((limK).enc t).toArray) (t := 86) (fr := (0, 0)) hb) ((limK).one t) (by decide) (by unfold maxLen; omega) (by omega) (by rw [← hw0.out]; exact hS.wr.size) w'.heap.size rfl ?_
    intro g cap w5 hown hgrow hat hlt
    exact hK' _ _ ⟨_, fv_put _ _, g, cap, t, rfl, hT, hS.append hp hm (Nat.le_of_eq hw0.out) hok hvo hbN hown hgrow hat, hB.grown hgrow (fun e => hxv _ e.symm rfl)⟩
set_option maxRecDepth 100000 in
set_option maxHeartbeats 8000000 in
theorem entry_1 : EntFn typK 78 0 1 rTypeE := by
  intro w0 w p mb B s r cs v0 ts hp hm hpm hw0 hcs hs hok he hl hE
  have hmix : Tryz.prog.follows .mixedOrders = true := by kernel_rfl
  obtain ⟨ie, hie, hze, hse, hbe⟩ := info_parts info74
  have ha := hok.1
  go_enter Tryz.func85, Tryz.ntmps85
  go_wp2_with fail
  refine (qmust_any hE.rd hs he 96).mono ?_
  rintro e' w1 ⟨hW1, v1, rfl, rfl, hR1⟩
  change RrAt w1 p s (rMust (strl s) 96 r) at hR1
  have hE1 := hE.rdd hp hpm hW1 hR1
  have hmv := go_must (strl s) 96 r
  clear hE hW1 hR1
  obtain ⟨r1, hr1⟩ : ∃ r1, r1 = rMust (strl s) 96 r := ⟨_, rfl⟩
  rw [← hr1] at hE1 hmv
  have ha1 := (hmv.ok hok).1
  have ho1 := hmv.ok hok
  have he1 : r1.e ≤ s.size := by rw [hmv.e]; exact he
  replace hr1 := Lib.hid hr1
  clear hmv
  go_wp2_with fail
  refine (qtypes_any hE1.rd hs ha1 he1).mono ?_
  rintro e' w2 ⟨hW2, hR2, ao, c, rfl, hown2⟩
  have hE2 := hE1.rdd hp hpm hW2 hR2
  have hi2 := ints_own hown2 (Nat.le_refl _)
  have hmv2 := go_each (strl s) (go_typ (strl s)) r1
  have hwB : B ≤ w1.heap.size := by rw [← hw0]; exact hE1.wr.size
  have hv1 : ∀ g, v0.ownBlock = some g → g < w1.heap.size := fun g hg => (hE1.own.lt g hg).2
  have hN2 := Lib.hid hW2.size
  have hp1 : p < w1.heap.size := hE1.rd.lt
  clear hE1 hW2 hR2 hown2
  obtain ⟨L, hL⟩ : ∃ L, L = rEach (strl s) (rTyp (strl s)) r1 := ⟨_, rfl⟩
  rw [← hL] at hE2 hi2 hmv2 ⊢
  obtain ⟨ps, r2⟩ := L
  dsimp only at hE2 hi2 hmv2 ⊢
  have ha2 := (hmv2.ok ho1).1
  have he2 : r2.e ≤ s.size := by rw [hmv2.e]; exact he1
  clear hmv2
  replace hL := Lib.hid hL
  replace hi2 := Lib.hid hi2
  obtain ⟨N1, hN1⟩ : ∃ N1, N1 = w1.heap.size := ⟨_, rfl⟩
  rw [← hN1] at hi2 hN2 hp1
  have hx := hE2.md
  have hcells := Lib.hid (fun k v w' (hX : XE typK 78 w0 w2 p mb B s (rEach (strl s) (rTyp (strl s)) r2).2 cs 0 v0 ts mb (cs.set 0 v0) 33 N1 (fun t => (typK).of t = (ps, (rEach (strl s) (rTyp (strl s)) r2).1) ∧ t.1 = (ps, ao, c)) [fun t => .slice t.2.2.1 t.2.1.length t.2.2.2, fun t => .agg ((typK).enc t).toArray] k v w') => XE.cells hE2 hp hpm hx (by omega) hX)
  have hvo : ∀ g, v0.ownBlock = some g → g < N1 := fun g hg => by rw [hN1]; exact hv1 g hg
  have hbN : B ≤ N1 := by rw [hN1]; exact hwB
  have hxv : ∀ g, v0.ownBlock = some g → mb ≠ g := fun g hg => by have := (hE2.own.lt g hg).1; have := hvo g hg; omega
  replace hN1 := Lib.hid hN1
  replace hcs := Lib.hid hcs
  replace hw0 := Lib.hid hw0
  replace hE := Lib.hid hE2
  replace hx := Lib.hid hx
  go_wp2_with fail
  refine wp_fv _ 148 rfl (region_steps hmix 148 16 13 4 [.pointer (some ⟨mb, 0, none⟩), .pointer (some ⟨mb, 0, none⟩), .pointer (some ⟨mb, 0, none⟩), .pointer (some ⟨mb, 0, none⟩), v0, .slice ao ps.length c, .pointer (some ⟨p, 0, none⟩), undef, undef, undef, undef, .pointer (some ⟨mb, 0, none⟩), .pointer (some ⟨mb, 0, none⟩)] [7, 8, 9, 10, 13] rfl (by kernel_rfl) (by kernel_rfl) (by kernel_rfl) rfl (by kernel_rfl) (XE typK 78 w0 w2 p mb B s (rEach (strl s) (rTyp (strl s)) r2).2 cs 0 v0 ts mb (cs.set 0 v0) 33 N1 (fun t => (typK).of t = (ps, (rEach (strl s) (rTyp (strl s)) r2).1) ∧ t.1 = (ps, ao, c)) [fun t => .slice t.2.2.1 t.2.1.length t.2.2.2, fun t => .agg ((typK).enc t).toArray]) rfl ?_)
  iterate 13 ((first | refine .quiet rfl rfl ?_ ?_ | refine .chain rfl rfl ?_ ?_); rotate_left)
  refine .last rfl rfl ?_
  any_goals
    intro k' v' f w' hX ho hv K' hK'
    obtain ⟨g0, gB⟩ := hcells.out k' v' w' hX
    clear hX
    simp (disch := decide) only [NeedsC, Region.binds, List.contains_cons, List.contains_nil, Nat.reduceBEq, Bool.or_false, Bool.false_or, Bool.or_true, Bool.true_or, List.getD_cons_succ, List.getD_cons_zero, Nat.reduceAdd, true_imp_iff, and_true, Bool.true_eq_false, false_imp_iff, true_and, reduceCtorEq] at hv
    have e0 : f 0 = .pointer (some ⟨p, 0, none⟩) := ho.at_ 0 (by decide)
    have e2 : f 2 = .pointer (some ⟨mb, 0, none⟩) := ho.at_ 2 (by decide)
    have e6 : f 6 = .slice ao ps.length c := ho.at_ 6 (by decide)
    clear ho
    go_simp
    (try simp (disch := decide) only [fv_t, hv, e0, e2, e6])
    (try go_simp)
    exact hK' _ _ ⟨fv_set _ _, rfl⟩
  · intro v' f w' hX hpv ho hv K' hK'
    obtain ⟨g, cap, t, rfl, hT, hG, hB⟩ := hX
    have z0 : f 26 = .slice (some ⟨g, 0, none⟩) (ts.length + 1) cap := hpv
    have z1 : f 28 = .pointer (some ⟨mb, 0, none⟩) := hv 12 (by decide) rfl
    have f4 := hG.md.fr 0
    have c4 := hG.md.cell (j := 0) (List.getElem?_set_self (by rw [hcs.out]; decide))
    go_simp
    (try simp (disch := decide) only [fv_t, z0, z1])
    (try go_simp)
    refine hK' _ _ ?_
    have hGs := hG.store hm hpm
    have hq : rTypeE (strl s) r = ((ps, (rEach (strl s) (rTyp (strl s)) r2).1), (rEach (strl s) (rTyp (strl s)) r2).2) := by unfold rTypeE; dsimp only; rw [← hr1.out, ← hL.out]
    have hT := hT.1
    rw [show (rEach (strl s) (rTyp (strl s)) r2).2 = (rTypeE (strl s) r).2 by rw [hq]] at hGs
    rw [show (ps, (rEach (strl s) (rTyp (strl s)) r2).1) = (rTypeE (strl s) r).1 by rw [hq]] at hT
    exact ⟨rfl, _, results_none rfl _ _ _, rfl, _, t, hT, hGs⟩
  · intro v' f w' hX hpv ho hv K' hK'
    obtain rfl : w' = w2.drew := hX
    have ht := hE.out.drew hp hpm
    simp (disch := decide) only [NeedsC, Region.binds, List.contains_cons, List.contains_nil, Nat.reduceBEq, Bool.or_false, Bool.false_or, Bool.or_true, Bool.true_or, List.getD_cons_succ, List.getD_cons_zero, Nat.reduceAdd, true_imp_iff, and_true, Bool.true_eq_false, false_imp_iff, true_and, reduceCtorEq] at hv
    go_simp
    (try simp (disch := decide) only [fv_t, hv])
    (try go_simp)
    go_at_call 144
    refine (qtypes_any ht.rd hs ha2 he2).mono ?_
    rintro e' w4 ⟨hW, hR, ao2, c2, rfl, hown⟩
    have hS := ht.rdd hp hpm hW hR
    have hB := (hx.out.below (Below.refl _ _).drew).wr hW (fun e => by subst e; omega)
    have hi3 := ints_own hown (Nat.le_refl _)
    go_simp
    exact hK' _ _ ⟨_, fv_set _ _, ((ps, ao, c), ((rEach (strl s) (rTyp (strl s)) r2).1, ao2, c2)), rfl, ⟨rfl, rfl⟩, ⟨hi2.out.keep (keeps_wrR ((Wr.refl (· = p) w2).drew.trans hW) (fun b hb e => by subst e; omega)), hi3.low hN2.out⟩, hS, hB⟩
  · intro v' f w' hX hpv ho hv K' hK'
    obtain ⟨t, rfl, hT, hok, hS, hB⟩ := hX
    have z0 : f 23 = .slice t.2.2.1 t.2.1.length t.2.2.2 := hpv
    simp (disch := decide) only [NeedsC, Region.binds, List.contains_cons, List.contains_nil, Nat.reduceBEq, Bool.or_false, Bool.false_or, Bool.or_true, Bool.true_or, List.getD_cons_succ, List.getD_cons_zero, Nat.reduceAdd, true_imp_iff, and_true, Bool.true_eq_false, false_imp_iff, true_and, reduceCtorEq] at hv
    obtain ⟨t1, t2⟩ := t
    obtain ⟨hTa, hTb⟩ := hT
    dsimp only at hTb
    subst hTb
    go_simp
    (try simp (disch := decide) only [fv_t, z0, hv])
    (try go_simp)
    exact hK' _ _ ⟨_, fv_set _ _, ((ps, ao, c), t2), rfl, ⟨hTa, rfl⟩, hok, hS, hB⟩
  · intro v' f w' hX hpv ho hv K' hK'
    obtain ⟨t, rfl, hT, hok, hS, hB⟩ := hX
    have z0 : f 24 = .agg ((typK).enc t).toArray := hpv
    replace hT := Lib.hid hT
    go_simp
    (try simp (disch := decide) only [fv_t, z0])
    (try go_simp)
    obtain ⟨y1, y2, y3, y4⟩ := XE.lay hS hp hpm hB t hok
    exact hK' _ _ ⟨_, fv_set _ _, _, t, rfl, y1, hT.out, y2, y3, y4⟩
  · intro v' f w' hX hpv ho hv K' hK'
    obtain ⟨b, t, rfl, hb, hT, hok, hS, hB⟩ := hX
    simp (disch := decide) only [NeedsC, Region.binds, List.contains_cons, List.contains_nil, Nat.reduceBEq, Bool.or_false, Bool.false_or, Bool.or_true, Bool.true_or, List.getD_cons_succ, List.getD_cons_zero, Nat.reduceAdd, true_imp_iff, and_true, Bool.true_eq_false, false_imp_iff, true_and, reduceCtorEq] at hv
    have z0 := fv_get (n := 148) (by decide) (show f 25 = .slice (some ⟨b, 0, none⟩) 1 1 from hpv)
    have z1 := fv_get (n := 148) (by decide) (show f 20 = v0 from hv)
    refine wp_append_lies _ (.tmp 20) (.tmp 25) 23 (by rfl) B 78 ie _ 2 48 Tryz.underlying23 hie hze hse hbe rfl (by decide) v0 ts.length (ts.flatMap (typK).enc) (by exact z1) hS.own ⟨b, 0, none⟩ 1 1 ((typK).enc t) (by exact z0) (by rw [(typK).len]; rfl) (World.news_of_block (cs := ((typK).enc t).toArray) (t := 78) (fr := (0, 0)) hb) ((typK).one t) (by decide) (by unfold maxLen; omega) (by omega) (by rw [← hw0.out]; exact hS.wr.size) w'.heap.size rfl ?_
    intro g cap w5 hown hgrow hat hlt
    exact hK' _ _ ⟨_, fv_put _ _, g, cap, t, rfl, hT, hS.append hp hm (Nat.le_of_eq hw0.out) hok hvo hbN hown hgrow hat, hB.grown hgrow (fun e => hxv _ e.symm rfl)⟩
set_option maxRecDepth 100000 in
set_option maxHeartbeats 8000000 in
theorem entry_9 : EntFn elmK 95 8 9 rElemE := by
  intro w0 w p mb B s r cs v0 ts hp hm hpm hw0 hcs hs hok he hl hE
  have hmix : Tryz.prog.follows .mixedOrders = true := by kernel_rfl
  obtain ⟨ie, hie, hze, hse, hbe⟩ := info_parts info76
  have ha := hok.1
  go_enter Tryz.func85, Tryz.ntmps85
  go_wp2_with fail
  refine (qmust_any hE.rd hs he 0).mono ?_
  rintro e' w1 ⟨hW1, v1, rfl, rfl, hR1⟩
  change RrAt w1 p s (rMust (strl s) 0 r) at hR1
  have hE1 := hE.rdd hp hpm hW1 hR1
  have hmv := go_must (strl s) 0 r
  clear hE hW1 hR1
  obtain ⟨r1, hr1⟩ : ∃ r1, r1 = rMust (strl s) 0 r := ⟨_, rfl⟩
  rw [← hr1] at hE1 hmv
  have ha1 := (hmv.ok hok).1
  have ho1 := hmv.ok hok
  have he1 : r1.e ≤ s.size := by rw [hmv.e]; exact he
  replace hr1 := Lib.hid hr1
  clear hmv
  go_wp2_with fail
  refine (qconst_any hE1.rd hs ho1 he1).mono ?_
  rintro e' w2 ⟨hW2, v2, ⟨f1, f2, f3, ti, hS7, hvt⟩, rfl, hR2⟩
  have hE2 := hE1.rdd hp hpm hW2 hR2
  have hmv2 := go_const (strl s) r1
  have hwB : B ≤ w1.heap.size := Nat.le_trans (Nat.le_of_eq hw0.symm) hE1.wr.size
  have hv1 : ∀ g, v0.ownBlock = some g → g < w2.heap.size := fun g hg => by have := (hE1.own.lt g hg).2; have := hW2.size; omega
  have hN2 := hW2.size
  clear hE1 hW2 hR2
  obtain ⟨L, hL⟩ : ∃ L, L = rConst (strl s) r1 := ⟨_, rfl⟩
  rw [← hL] at hE2 hmv2 hS7 f1 f2 f3
  obtain ⟨o1, r2⟩ := L
  dsimp only at hE2 hmv2 hS7 f1 f2 f3
  have ha2 := (hmv2.ok ho1).1
  have he2 : r2.e ≤ s.size := by rw [hmv2.e]; exact he1
  clear hmv2
  replace hL := Lib.hid hL
  have hT1 := Lib.hid (one_of_same hS7)
  have hT2 := Lib.hid (flat_of_same hS7 f1 f2 f3)
  clear f1 f2 f3 hS7
  replace hvt : v2 = .agg #[.int .i64 ti.op, .int .i64 ti.x, .int .i64 ti.y, .int .i64 ti.n, .slice ti.a4 ti.ls.length ti.c4, .slice ti.a5 ti.body.len ti.c5, .slice ti.a6 ti.els.len ti.c6] := hvt
  subst hvt
  replace hE2 := Lib.hid hE2
  go_upto_region 21 with (fail)
  have hB3 : Below w2.heap.size w2 (w2.alloc (.cells #[.int .i64 ti.op, .int .i64 ti.x, .int .i64 ti.y, .int .i64 ti.n, .slice ti.a4 ti.ls.length ti.c4, .slice ti.a5 ti.body.len ti.c5, .slice ti.a6 ti.els.len ti.c6] 88)) := (Below.refl _ _).alloc (Nat.le_refl _) _
  have hx3 := Bk.new w2 [.int .i64 ti.op, .int .i64 ti.x, .int .i64 ti.y, .int .i64 ti.n, .slice ti.a4 ti.ls.length ti.c4, .slice ti.a5 ti.body.len ti.c5, .slice ti.a6 ti.els.len ti.c6] 88
  have hE3 := hE2.out.below hp hpm hB3
  obtain ⟨x, hx'⟩ : ∃ x, x = w2.heap.size := ⟨_, rfl⟩
  obtain ⟨w3, hww⟩ : ∃ w3, w3 = w2.alloc (.cells #[.int .i64 ti.op, .int .i64 ti.x, .int .i64 ti.y, .int .i64 ti.n, .slice ti.a4 ti.ls.length ti.c4, .slice ti.a5 ti.body.len ti.c5, .slice ti.a6 ti.els.len ti.c6] 88) := ⟨_, rfl⟩
  rw [← hx'] at hx3 hv1 hN2 ⊢
  rw [show (w2.alloc (.cells [.int .i64 ti.op, .int .i64 ti.x, .int .i64 ti.y, .int .i64 ti.n, .slice ti.a4 ti.ls.length ti.c4, .slice ti.a5 ti.body.len ti.c5, .slice ti.a6 ti.els.len ti.c6].toArray 88)) = w3 from hww.symm] at hx3
  rw [← hww] at hE3 ⊢
  have hpx : p < x := by omega
  clear hww hB3 hE2
  replace hx' := Lib.hid hx'
  obtain ⟨N1, hN1⟩ : ∃ N1, N1 = x := ⟨_, rfl⟩
  have hN3 : N1 ≤ w3.heap.size := by have := hx3.lt; omega
  have hx := hx3
  have hcells := Lib.hid (fun k v w' (hX : XE elmK 95 w0 w3 p mb B s (rEach (strl s) (rU (strl s)) r2).2 cs 8 v0 ts x [.int .i64 ti.op, .int .i64 ti.x, .int .i64 ti.y, .int .i64 ti.n, .slice ti.a4 ti.ls.length ti.c4, .slice ti.a5 ti.body.len ti.c5, .slice ti.a6 ti.els.len ti.c6] 88 N1 (fun t => (elmK).of t = (o1, (rEach (strl s) (rU (strl s)) r2).1) ∧ t.1 = ti) [fun t => .slice t.2.2.1 t.2.1.length t.2.2.2, fun t => .agg #[.int .i64 t.1.op, .int .i64 t.1.x, .int .i64 t.1.y, .int .i64 t.1.n, .slice t.1.a4 t.1.ls.length t.1.c4, .slice t.1.a5 t.1.body.len t.1.c5, .slice t.1.a6 t.1.els.len t.1.c6, .slice t.2.2.1 t.2.1.length t.2.2.2]] k v w') => XE.cells hE3 hp hpm hx (by omega) hX)
  have hvo : ∀ g, v0.ownBlock = some g → g < N1 := fun g hg => by rw [hN1]; exact hv1 g hg
  have hbN : B ≤ N1 := by rw [hN1]; exact Nat.le_trans hwB hN2
  have hxv : ∀ g, v0.ownBlock = some g → x ≠ g := fun g hg => by have := (hE3.own.lt g hg).1; have := hvo g hg; omega
  replace hN1 := Lib.hid hN1
  replace hcs := Lib.hid hcs
  replace hw0 := Lib.hid hw0
  replace hE := Lib.hid hE3
  replace hx := Lib.hid hx
  refine wp_fv _ 148 rfl (region_steps hmix 148 116 13 4 [.pointer (some ⟨mb, 0, none⟩), .pointer (some ⟨mb, 0, none⟩), .pointer (some ⟨mb, 0, none⟩), .pointer (some ⟨mb, 8, none⟩), v0, .agg #[.int .i64 ti.op, .int .i64 ti.x, .int .i64 ti.y, .int .i64 ti.n, .slice ti.a4 ti.ls.length ti.c4, .slice ti.a5 ti.body.len ti.c5, .slice ti.a6 ti.els.len ti.c6], .pointer (some ⟨p, 0, none⟩), undef, undef, undef, undef, .pointer (some ⟨mb, 0, none⟩), .pointer (some ⟨mb, 8, none⟩)] [7, 8, 9, 10, 13] rfl (by kernel_rfl) (by kernel_rfl) (by kernel_rfl) rfl (by kernel_rfl) (XE elmK 95 w0 w3 p mb B s (rEach (strl s) (rU (strl s)) r2).2 cs 8 v0 ts x [.int .i64 ti.op, .int .i64 ti.x, .int .i64 ti.y, .int .i64 ti.n, .slice ti.a4 ti.ls.length ti.c4, .slice ti.a5 ti.body.len ti.c5, .slice ti.a6 ti.els.len ti.c6] 88 N1 (fun t => (elmK).of t = (o1, (rEach (strl s) (rU (strl s)) r2).1) ∧ t.1 = ti) [fun t => .slice t.2.2.1 t.2.1.length t.2.2.2, fun t => .agg #[.int .i64 t.1.op, .int .i64 t.1.x, .int .i64 t.1.y, .int .i64 t.1.n, .slice t.1.a4 t.1.ls.length t.1.c4, .slice t.1.a5 t.1.body.len t.1.c5, .slice t.1.a6 t.1.els.len t.1.c6, .slice t.2.2.1 t.2.1.length t.2.2.2]]) rfl ?_)
  iterate 13 ((first | refine .quiet rfl rfl ?_ ?_ | refine .chain rfl rfl ?_ ?_); rotate_left)
  refine .last rfl rfl ?_
  any_goals
    intro k' v' f w' hX ho hv K' hK'
    obtain ⟨g0, gB⟩ := hcells.out k' v' w' hX
    clear hX
    have x0 := gB.cell (j := 0) rfl
    have x1 := gB.cell (j := 1) rfl
    have x2 := gB.cell (j := 2) rfl
    have x3 := gB.cell (j := 3) rfl
    have x4 := gB.cell (j := 4) rfl
    have x5 := gB.cell (j := 5) rfl
    have x6 := gB.cell (j := 6) rfl
    simp (disch := decide) only [NeedsC, Region.binds, List.contains_cons, List.contains_nil, Nat.reduceBEq, Bool.or_false, Bool.false_or, Bool.or_true, Bool.true_or, List.getD_cons_succ, List.getD_cons_zero, Nat.reduceAdd, true_imp_iff, and_true, Bool.true_eq_false, false_imp_iff, true_and, reduceCtorEq] at hv
    have e0 : f 0 = .pointer (some ⟨p, 0, none⟩) := ho.at_ 0 (by decide)
    have e2 : f 2 = .pointer (some ⟨mb, 0, none⟩) := ho.at_ 2 (by decide)
    have e7 : f 7 = .pointer (some ⟨x, 0, none⟩) := ho.at_ 7 (by decide)
    clear ho
    go_simp
    (try simp (disch := decide) only [fv_t, hv, e0, e2, e7])
    (try go_simp)
    exact hK' _ _ ⟨fv_set _ _, rfl⟩
  · intro v' f w' hX hpv ho hv K' hK'
    obtain ⟨g, cap, t, rfl, hT, hG, hB⟩ := hX
    have z0 : f 126 = .slice (some ⟨g, 0, none⟩) (ts.length + 1) cap := hpv
    have z1 : f 128 = .pointer (some ⟨mb, 8, none⟩) := hv 12 (by decide) rfl
    have f4 := hG.md.fr 8
    have c4 := hG.md.cell (j := 8) (List.getElem?_set_self (by rw [hcs.out]; decide))
    go_simp
    (try simp (disch := decide) only [fv_t, z0, z1])
    (try go_simp)
    refine hK' _ _ ?_
    have hGs := hG.store hm hpm
    have hq : rElemE (strl s) r = ((o1, (rEach (strl s) (rU (strl s)) r2).1), (rEach (strl s) (rU (strl s)) r2).2) := by unfold rElemE; dsimp only; rw [← hr1.out, ← hL.out]
    have hT := hT.1
    rw [show (rEach (strl s) (rU (strl s)) r2).2 = (rElemE (strl s) r).2 by rw [hq]] at hGs
    rw [show (o1, (rEach (strl s) (rU (strl s)) r2).1) = (rElemE (strl s) r).1 by rw [hq]] at hT
    exact ⟨rfl, _, results_none rfl _ _ _, rfl, _, t, hT, hGs⟩
  · intro v' f w' hX hpv ho hv K' hK'
    obtain rfl : w' = w3.drew := hX
    have ht := hE.out.drew hp hpm
    simp (disch := decide) only [NeedsC, Region.binds, List.contains_cons, List.contains_nil, Nat.reduceBEq, Bool.or_false, Bool.false_or, Bool.or_true, Bool.true_or, List.getD_cons_succ, List.getD_cons_zero, Nat.reduceAdd, true_imp_iff, and_true, Bool.true_eq_false, false_imp_iff, true_and, reduceCtorEq] at hv
    go_simp
    (try simp (disch := decide) only [fv_t, hv])
    (try go_simp)
    go_at_call 150
    refine (qlist_any ht.rd hs ha2 he2).mono ?_
    rintro e' w4 ⟨hW, hR, ao2, c2, rfl, hown⟩
    have hS := ht.rdd hp hpm hW hR
    have hB := (hx.out.below (Below.refl _ _).drew).wr hW (fun e => by subst e; omega)
    have hi3 := ints_own hown (Nat.le_refl _)
    go_simp
    exact hK' _ _ ⟨_, fv_set _ _, (ti, (rEach (strl s) (rU (strl s)) r2).1, ao2, c2), rfl, ⟨by show (oneOf ti, _) = _; rw [hT1.out], rfl⟩, ⟨hT2.out, hi3.low hN3⟩, hS, hB⟩
  · intro v' f w' hX hpv ho hv K' hK'
    obtain ⟨t, rfl, hT, hok, hS, hB⟩ := hX
    have z0 : f 123 = .slice t.2.2.1 t.2.1.length t.2.2.2 := hpv
    simp (disch := decide) only [NeedsC, Region.binds, List.contains_cons, List.contains_nil, Nat.reduceBEq, Bool.or_false, Bool.false_or, Bool.or_true, Bool.true_or, List.getD_cons_succ, List.getD_cons_zero, Nat.reduceAdd, true_imp_iff, and_true, Bool.true_eq_false, false_imp_iff, true_and, reduceCtorEq] at hv
    obtain ⟨t1, t2⟩ := t
    obtain ⟨hTa, hTb⟩ := hT
    dsimp only at hTb
    subst hTb
    go_simp
    (try simp (disch := decide) only [fv_t, z0, hv])
    (try go_simp)
    exact hK' _ _ ⟨_, fv_set _ _, (t1, t2), rfl, ⟨hTa, rfl⟩, hok, hS, hB⟩
  · intro v' f w' hX hpv ho hv K' hK'
    obtain ⟨t, rfl, hT, hok, hS, hB⟩ := hX
    have z0 : f 124 = .agg #[.int .i64 t.1.op, .int .i64 t.1.x, .int .i64 t.1.y, .int .i64 t.1.n, .slice t.1.a4 t.1.ls.length t.1.c4, .slice t.1.a5 t.1.body.len t.1.c5, .slice t.1.a6 t.1.els.len t.1.c6, .slice t.2.2.1 t.2.1.length t.2.2.2] := hpv
    replace hT := Lib.hid hT
    go_simp
    (try simp (disch := decide) only [fv_t, z0])
    (try go_simp)
    obtain ⟨y1, y2, y3, y4⟩ := XE.lay hS hp hpm hB t hok
    exact hK' _ _ ⟨_, fv_set _ _, _, t, rfl, y1, hT.out, y2, y3, y4⟩
  · intro v' f w' hX hpv ho hv K' hK'
    obtain ⟨b, t, rfl, hb, hT, hok, hS, hB⟩ := hX
    simp (disch := decide) only [NeedsC, Region.binds, List.contains_cons, List.contains_nil, Nat.reduceBEq, Bool.or_false, Bool.false_or, Bool.or_true, Bool.true_or, List.getD_cons_succ, List.getD_cons_zero, Nat.reduceAdd, true_imp_iff, and_true, Bool.true_eq_false, false_imp_iff, true_and, reduceCtorEq] at hv
    have z0 := fv_get (n := 148) (by decide) (show f 125 = .slice (some ⟨b, 0, none⟩) 1 1 from hpv)
    have z1 := fv_get (n := 148) (by decide) (show f 120 = v0 from hv)
    refine wp_append_lies _ (.tmp 120) (.tmp 125) 30 (by rfl) B 95 ie _ 8 128 Tryz.underlying30 hie hze hse hbe rfl (by decide) v0 ts.length (ts.flatMap (elmK).enc) (by exact z1) hS.own ⟨b, 0, none⟩ 1 1 ((elmK).enc t) (by exact z0) (by rw [(elmK).len]; rfl) (World.news_of_block (cs := ((elmK).enc t).toArray) (t := 95) (fr := (0, 0)) hb) ((elmK).one t) (by decide) (by unfold maxLen; omega) (by omega) (by rw [← hw0.out]; exact hS.wr.size) w'.heap.size rfl ?_
    intro g cap w5 hown hgrow hat hlt
    exact hK' _ _ ⟨_, fv_put _ _, g, cap, t, rfl, hT, hS.append hp hm (Nat.le_of_eq hw0.out) hok hvo hbN hown hgrow hat, hB.grown hgrow (fun e => hxv _ e.symm rfl)⟩
set_option maxRecDepth 100000 in
set_option maxHeartbeats 8000000 in
theorem entry_11 : EntFn datK 97 9 11 rDataE := by
  intro w0 w p mb B s r cs v0 ts hp hm hpm hw0 hcs hs hok he hl hE
  have hmix : Tryz.prog.follows .mixedOrders = true := by kernel_rfl
  obtain ⟨ie, hie, hze, hse, hbe⟩ := info_parts info78
  have ha := hok.1
  go_enter Tryz.func85, Tryz.ntmps85
  go_wp2_with fail
  refine (qmust_any hE.rd hs he 0).mono ?_
  rintro e' w1 ⟨hW1, v1, rfl, rfl, hR1⟩
  change RrAt w1 p s (rMust (strl s) 0 r) at hR1
  have hE1 := hE.rdd hp hpm hW1 hR1
  have hmv := go_must (strl s) 0 r
  clear hE hW1 hR1
  obtain ⟨r1, hr1⟩ : ∃ r1, r1 = rMust (strl s) 0 r := ⟨_, rfl⟩
  rw [← hr1] at hE1 hmv
  have ha1 := (hmv.ok hok).1
  have ho1 := hmv.ok hok
  have he1 : r1.e ≤ s.size := by rw [hmv.e]; exact he
  replace hr1 := Lib.hid hr1
  clear hmv
  go_wp2_with fail
  refine (qconst_any hE1.rd hs ho1 he1).mono ?_
  rintro e' w2 ⟨hW2, v2, ⟨f1, f2, f3, ti, hS7, hvt⟩, rfl, hR2⟩
  have hE2 := hE1.rdd hp hpm hW2 hR2
  have hmv2 := go_const (strl s) r1
  have hwB : B ≤ w1.heap.size := Nat.le_trans (Nat.le_of_eq hw0.symm) hE1.wr.size
  have hv1 : ∀ g, v0.ownBlock = some g → g < w2.heap.size := fun g hg => by have := (hE1.own.lt g hg).2; have := hW2.size; omega
  have hN2 := hW2.size
  clear hE1 hW2 hR2
  obtain ⟨L, hL⟩ : ∃ L, L = rConst (strl s) r1 := ⟨_, rfl⟩
  rw [← hL] at hE2 hmv2 hS7 f1 f2 f3
  obtain ⟨o1, r2⟩ := L
  dsimp only at hE2 hmv2 hS7 f1 f2 f3
  have ha2 := (hmv2.ok ho1).1
  have he2 : r2.e ≤ s.size := by rw [hmv2.e]; exact he1
  clear hmv2
  replace hL := Lib.hid hL
  have hT1 := Lib.hid (one_of_same hS7)
  have hT2 := Lib.hid (flat_of_same hS7 f1 f2 f3)
  clear f1 f2 f3 hS7
  replace hvt : v2 = .agg #[.int .i64 ti.op, .int .i64 ti.x, .int .i64 ti.y, .int .i64 ti.n, .slice ti.a4 ti.ls.length ti.c4, .slice ti.a5 ti.body.len ti.c5, .slice ti.a6 ti.els.len ti.c6] := hvt
  subst hvt
  replace hE2 := Lib.hid hE2
  go_upto_region 25 with (fail)
  have hB3 : Below w2.heap.size w2 (w2.alloc (.cells #[.int .i64 ti.op, .int .i64 ti.x, .int .i64 ti.y, .int .i64 ti.n, .slice ti.a4 ti.ls.length ti.c4, .slice ti.a5 ti.body.len ti.c5, .slice ti.a6 ti.els.len ti.c6] 88)) := (Below.refl _ _).alloc (Nat.le_refl _) _
  have hx3 := Bk.new w2 [.int .i64 ti.op, .int .i64 ti.x, .int .i64 ti.y, .int .i64 ti.n, .slice ti.a4 ti.ls.length ti.c4, .slice ti.a5 ti.body.len ti.c5, .slice ti.a6 ti.els.len ti.c6] 88
  have hE3 := hE2.out.below hp hpm hB3
  obtain ⟨x, hx'⟩ : ∃ x, x = w2.heap.size := ⟨_, rfl⟩
  obtain ⟨w3, hww⟩ : ∃ w3, w3 = w2.alloc (.cells #[.int .i64 ti.op, .int .i64 ti.x, .int .i64 ti.y, .int .i64 ti.n, .slice ti.a4 ti.ls.length ti.c4, .slice ti.a5 ti.body.len ti.c5, .slice ti.a6 ti.els.len ti.c6] 88) := ⟨_, rfl⟩
  rw [← hx'] at hx3 hv1 hN2 ⊢
  rw [show (w2.alloc (.cells [.int .i64 ti.op, .int .i64 ti.x, .int .i64 ti.y, .int .i64 ti.n, .slice ti.a4 ti.ls.length ti.c4, .slice ti.a5 ti.body.len ti.c5, .slice ti.a6 ti.els.len ti.c6].toArray 88)) = w3 from hww.symm] at hx3
  rw [← hww] at hE3 ⊢
  have hpx : p < x := by omega
  clear hww hB3 hE2
  replace hx' := Lib.hid hx'
  obtain ⟨N1, hN1⟩ : ∃ N1, N1 = x := ⟨_, rfl⟩
  have hN3 : N1 ≤ w3.heap.size := by have := hx3.lt; omega
  have hx := hx3
  have hcells := Lib.hid (fun k v w' (hX : XE datK 97 w0 w3 p mb B s (rText (strl s) r2).2 cs 9 v0 ts x [.int .i64 ti.op, .int .i64 ti.x, .int .i64 ti.y, .int .i64 ti.n, .slice ti.a4 ti.ls.length ti.c4, .slice ti.a5 ti.body.len ti.c5, .slice ti.a6 ti.els.len ti.c6] 88 N1 (fun t => (datK).of t = (o1, mkb (rText (strl s) r2).1) ∧ t.1 = ti) [fun t => .string t.2, fun t => .agg #[.int .i64 t.1.op, .int .i64 t.1.x, .int .i64 t.1.y, .int .i64 t.1.n, .slice t.1.a4 t.1.ls.length t.1.c4, .slice t.1.a5 t.1.body.len t.1.c5, .slice t.1.a6 t.1.els.len t.1.c6, .string t.2]] k v w') => XE.cells hE3 hp hpm hx (by omega) hX)
  have hvo : ∀ g, v0.ownBlock = some g → g < N1 := fun g hg => by rw [hN1]; exact hv1 g hg
  have hbN : B ≤ N1 := by rw [hN1]; exact Nat.le_trans hwB hN2
  have hxv : ∀ g, v0.ownBlock = some g → x ≠ g := fun g hg => by have := (hE3.own.lt g hg).1; have := hvo g hg; omega
  replace hN1 := Lib.hid hN1
  replace hcs := Lib.hid hcs
  replace hw0 := Lib.hid hw0
  replace hE := Lib.hid hE3
  replace hx := Lib.hid hx
  refine wp_fv _ 148 rfl (region_steps hmix 148 135 13 4 [.pointer (some ⟨mb, 0, none⟩), .pointer (some ⟨mb, 0, none⟩), .pointer (some ⟨mb, 0, none⟩), .pointer (some ⟨mb, 9, none⟩), v0, .agg #[.int .i64 ti.op, .int .i64 ti.x, .int .i64 ti.y, .int .i64 ti.n, .slice ti.a4 ti.ls.length ti.c4, .slice ti.a5 ti.body.len ti.c5, .slice ti.a6 ti.els.len ti.c6], .pointer (some ⟨p, 0, none⟩), undef, undef, undef, undef, .pointer (some ⟨mb, 0, none⟩), .pointer (some ⟨mb, 9, none⟩)] [7, 8, 9, 10, 13] rfl (by kernel_rfl) (by kernel_rfl) (by kernel_rfl) rfl (by kernel_rfl) (XE datK 97 w0 w3 p mb B s (rText (strl s) r2).2 cs 9 v0 ts x [.int .i64 ti.op, .int .i64 ti.x, .int .i64 ti.y, .int .i64 ti.n, .slice ti.a4 ti.ls.length ti.c4, .slice ti.a5 ti.body.len ti.c5, .slice ti.a6 ti.els.len ti.c6] 88 N1 (fun t => (datK).of t = (o1, mkb (rText (strl s) r2).1) ∧ t.1 = ti) [fun t => .string t.2, fun t => .agg #[.int .i64 t.1.op, .int .i64 t.1.x, .int .i64 t.1.y, .int .i64 t.1.n, .slice t.1.a4 t.1.ls.length t.1.c4, .slice t.1.a5 t.1.body.len t.1.c5, .slice t.1.a6 t.1.els.len t.1.c6, .string t.2]]) rfl ?_)
  iterate 13 ((first | refine .quiet rfl rfl ?_ ?_ | refine .chain rfl rfl ?_ ?_); rotate_left)
  refine .last rfl rfl ?_
  any_goals
    intro k' v' f w' hX ho hv K' hK'
    obtain ⟨g0, gB⟩ := hcells.out k' v' w' hX
    clear hX
    have x0 := gB.cell (j := 0) rfl
    have x1 := gB.cell (j := 1) rfl
    have x2 := gB.cell (j := 2) rfl
    have x3 := gB.cell (j := 3) rfl
    have x4 := gB.cell (j := 4) rfl
    have x5 := gB.cell (j := 5) rfl
    have x6 := gB.cell (j := 6) rfl
    simp (disch := decide) only [NeedsC, Region.binds, List.contains_cons, List.contains_nil, Nat.reduceBEq, Bool.or_false, Bool.false_or, Bool.or_true, Bool.true_or, List.getD_cons_succ, List.getD_cons_zero, Nat.reduceAdd, true_imp_iff, and_true, Bool.true_eq_false, false_imp_iff, true_and, reduceCtorEq] at hv
    have e0 : f 0 = .pointer (some ⟨p, 0, none⟩) := ho.at_ 0 (by decide)
    have e2 : f 2 = .pointer (some ⟨mb, 0, none⟩) := ho.at_ 2 (by decide)
    have e8 : f 8 = .pointer (some ⟨x, 0, none⟩) := ho.at_ 8 (by decide)
    clear ho
    go_simp
    (try simp (disch := decide) only [fv_t, hv, e0, e2, e8])
    (try go_simp)
    exact hK' _ _ ⟨fv_set _ _, rfl⟩
  · intro v' f w' hX hpv ho hv K' hK'
    obtain ⟨g, cap, t, rfl, hT, hG, hB⟩ := hX
    have z0 : f 145 = .slice (some ⟨g, 0, none⟩) (ts.length + 1) cap := hpv
    have z1 : f 147 = .pointer (some ⟨mb, 9, none⟩) := hv 12 (by decide) rfl
    have f4 := hG.md.fr 9
    have c4 := hG.md.cell (j := 9) (List.getElem?_set_self (by rw [hcs.out]; decide))
    go_simp
    (try simp (disch := decide) only [fv_t, z0, z1])
    (try go_simp)
    refine hK' _ _ ?_
    have hGs := hG.store hm hpm
    have hq : rDataE (strl s) r = ((o1, mkb (rText (strl s) r2).1), (rText (strl s) r2).2) := by unfold rDataE; dsimp only; rw [← hr1.out, ← hL.out]
    have hT := hT.1
    rw [show (rText (strl s) r2).2 = (rDataE (strl s) r).2 by rw [hq]] at hGs
    rw [show (o1, mkb (rText (strl s) r2).1) = (rDataE (strl s) r).1 by rw [hq]] at hT
    exact ⟨rfl, _, results_none rfl _ _ _, rfl, _, t, hT, hGs⟩
  · intro v' f w' hX hpv ho hv K' hK'
    obtain rfl : w' = w3.drew := hX
    have ht := hE.out.drew hp hpm
    simp (disch := decide) only [NeedsC, Region.binds, List.contains_cons, List.contains_nil, Nat.reduceBEq, Bool.or_false, Bool.false_or, Bool.or_true, Bool.true_or, List.getD_cons_succ, List.getD_cons_zero, Nat.reduceAdd, true_imp_iff, and_true, Bool.true_eq_false, false_imp_iff, true_and, reduceCtorEq] at hv
    go_simp
    (try simp (disch := decide) only [fv_t, hv])
    (try go_simp)
    go_at_call 82
    refine (qtext_any ht.rd hs ha2 he2).mono ?_
    rintro e' w4 ⟨hW, v1, ⟨rfl, -⟩, rfl, hR⟩
    have hS := ht.rdd hp hpm hW hR
    have hB := (hx.out.below (Below.refl _ _).drew).wr hW (fun e => by subst e; omega)
    go_simp
    exact hK' _ _ ⟨_, fv_set _ _, (ti, mkb (rText (strl s) r2).1), rfl, ⟨by show (oneOf ti, _) = _; rw [hT1.out], rfl⟩, hT2.out, hS, hB⟩
  · intro v' f w' hX hpv ho hv K' hK'
    obtain ⟨t, rfl, hT, hok, hS, hB⟩ := hX
    have z0 : f 142 = .string t.2 := hpv
    simp (disch := decide) only [NeedsC, Region.binds, List.contains_cons, List.contains_nil, Nat.reduceBEq, Bool.or_false, Bool.false_or, Bool.or_true, Bool.true_or, List.getD_cons_succ, List.getD_cons_zero, Nat.reduceAdd, true_imp_iff, and_true, Bool.true_eq_false, false_imp_iff, true_and, reduceCtorEq] at hv
    obtain ⟨t1, t2⟩ := t
    obtain ⟨hTa, hTb⟩ := hT
    dsimp only at hTb
    subst hTb
    go_simp
    (try simp (disch := decide) only [fv_t, z0, hv])
    (try go_simp)
    exact hK' _ _ ⟨_, fv_set _ _, (t1, t2), rfl, ⟨hTa, rfl⟩, hok, hS, hB⟩
  · intro v' f w' hX hpv ho hv K' hK'
    obtain ⟨t, rfl, hT, hok, hS, hB⟩ := hX
    have z0 : f 143 = .agg #[.int .i64 t.1.op, .int .i64 t.1.x, .int .i64 t.1.y, .int .i64 t.1.n, .slice t.1.a4 t.1.ls.length t.1.c4, .slice t.1.a5 t.1.body.len t.1.c5, .slice t.1.a6 t.1.els.len t.1.c6, .string t.2] := hpv
    replace hT := Lib.hid hT
    go_simp
    (try simp (disch := decide) only [fv_t, z0])
    (try go_simp)
    obtain ⟨y1, y2, y3, y4⟩ := XE.lay hS hp hpm hB t hok
    exact hK' _ _ ⟨_, fv_set _ _, _, t, rfl, y1, hT.out, y2, y3, y4⟩
  · intro v' f w' hX hpv ho hv K' hK'
    obtain ⟨b, t, rfl, hb, hT, hok, hS, hB⟩ := hX
    simp (disch := decide) only [NeedsC, Region.binds, List.contains_cons, List.contains_nil, Nat.reduceBEq, Bool.or_false, Bool.false_or, Bool.or_true, Bool.true_or, List.getD_cons_succ, List.getD_cons_zero, Nat.reduceAdd, true_imp_iff, and_true, Bool.true_eq_false, false_imp_iff, true_and, reduceCtorEq] at hv
    have z0 := fv_get (n := 148) (by decide) (show f 144 = .slice (some ⟨b, 0, none⟩) 1 1 from hpv)
    have z1 := fv_get (n := 148) (by decide) (show f 139 = v0 from hv)
    refine wp_append_lies _ (.tmp 139) (.tmp 144) 31 (by rfl) B 97 ie _ 8 120 Tryz.underlying31 hie hze hse hbe rfl (by decide) v0 ts.length (ts.flatMap (datK).enc) (by exact z1) hS.own ⟨b, 0, none⟩ 1 1 ((datK).enc t) (by exact z0) (by rw [(datK).len]; rfl) (World.news_of_block (cs := ((datK).enc t).toArray) (t := 97) (fr := (0, 0)) hb) ((datK).one t) (by decide) (by unfold maxLen; omega) (by omega) (by rw [← hw0.out]; exact hS.wr.size) w'.heap.size rfl ?_
    intro g cap w5 hown hgrow hat hlt
    exact hK' _ _ ⟨_, fv_put _ _, g, cap, t, rfl, hT, hS.append hp hm (Nat.le_of_eq hw0.out) hok hvo hbN hown hgrow hat, hB.grown hgrow (fun e => hxv _ e.symm rfl)⟩
end Go.Proofs.YtkbfjkbokifgkaaGreatDoor

namespace Go.Proofs.YtkbfjkbokifgkaaGreatDoor
open Go.RowKit
set_option linter.unusedVariables false
set_option linter.unusedSimpArgs false

theorem info83x : (Tryz.prog.info? 83).map (·.size) = some 3 := by kernel_rfl
/-- The function that is made, its locals so far. -/
structure LcAt (w0 w : World) (p q0 q : Nat) (s : ByteArray) (r : RS) (l : List Int) (ao : Option Addr) (c : Nat) : Prop where
  rd : RrAt w p s r
  rs : Bk w q0 [.int .i64 0, .slice none 0 0, .slice none 0 0] 83
  fx : Bk w q [.int .i64 0, .slice ao l.length c, .slice none 0 0] 83
  wr : Wr (· = p) w0 w
  own : w.ownsRow (q + 1) 3 1 (.slice ao l.length c) l.length (l.map (Value.int .i64))
section
variable {w0 w w' w5 : World} {p q0 q : Nat} {s : ByteArray} {r r' : RS} {l : List Int} {ao : Option Addr} {c : Nat}
theorem LcAt.rdd (h : LcAt w0 w p q0 q s r l ao c) (hp : p < q0) (hq : q0 < q) (k : Wr (· = p) w w') (R : RrAt w' p s r') : LcAt w0 w' p q0 q s r' l ao c :=
  ⟨R, h.rs.wr k (by omega), h.fx.wr k (by omega), h.wr.trans k, own_same h.own fun g hg => k.block g (h.own.lt g hg).2 (by have := (h.own.lt g hg).1; omega)⟩
theorem LcAt.below (h : LcAt w0 w p q0 q s r l ao c) (hp : p < q0) (hq : q0 < q) (k : Below w.heap.size w w') : LcAt w0 w' p q0 q s r l ao c := h.rdd hp hq (Wr.of_below k) (h.rd.below k)
theorem LcAt.grown {g cap : Nat} {z : Int} (h : LcAt w0 w p q0 q s r l ao c) (hp : p < q0) (hq : q0 < q) (hw : w0.heap.size ≤ q0) (hown : w5.ownsRow (q + 1) 3 1 (.slice (some ⟨g, 0, none⟩) (l.length + 1) cap) (l.length + 1) (l.map (Value.int .i64) ++ [.int .i64 z])) (hgrow : w.grownBy w5 (Value.slice ao l.length c).ownBlock) :
    Bk w5 q [.int .i64 0, .slice ao l.length c, .slice none 0 0] 83 ∧ LcAt w0 (w5.setCell ⟨q, 1, none⟩ (.slice (some ⟨g, 0, none⟩) (l.length + 1) cap)) p q0 q s r (l ++ [z]) (some ⟨g, 0, none⟩) cap := by
  have hr : ∀ k, (Value.slice ao l.length c).ownBlock = some k → q + 1 ≤ k := fun k hk => (h.own.lt k hk).1
  have hf := h.fx.grown hgrow (fun e => by have := hr q e.symm; omega)
  refine ⟨hf, ?_⟩
  have hs := h.rs.grown hgrow (fun e => by have := hr q0 e.symm; omega)
  have hd : RrAt w5 p s r := ⟨(hgrow.block p h.rd.lt (fun e => by have := hr p e.symm; omega)).trans h.rd.row⟩
  have hw5 := h.wr.newer (Wr.of_grown (S := fun k => (Value.slice ao l.length c).ownBlock = some k) hgrow fun k e _ => e) (fun k e hk => by have := hr k e; omega)
  have k : Wr (· = q) w5 (w5.setCell ⟨q, 1, none⟩ (.slice (some ⟨g, 0, none⟩) (l.length + 1) cap)) := (Wr.refl (· = q) w5).set rfl _ _
  refine ⟨hd.far (by omega) _ _, hs.far (by omega) _ _, ?_, hw5.newer k (fun k e hk => by omega), ?_⟩
  · have := hf.set 1 (.slice (some ⟨g, 0, none⟩) (l.length + 1) cap)
    rw [List.length_append]
    exact this
  · rw [List.length_append, List.map_append]
    refine own_same (w := w5) ?_ fun g' hg' => k.block g' ?_ ?_
    · exact hown
    · exact (hown.lt g' hg').2
    · have := (hown.lt g' hg').1
      omega
end
/-- What code tells. -/
def Cd (p : Nat) (s : ByteArray) (g : Rg (List Int × Il)) (w : World) (e' : Ending) (w' : World) : Prop :=
  Wr (· = p) w w' ∧ RrAt w' p s g.2 ∧ ∃ la lc ba bc, e' = .returned (.agg #[.int .i64 0, .slice la g.1.1.length lc, .slice ba g.1.2.len bc]) ∧ IntsR (fun b => w.heap.size ≤ b) w' la g.1.1 ∧ SlR (fun b => w.heap.size ≤ b) w' ba g.1.2 ∧ g.1.2.len ≤ 9223372036854775807
theorem go_locs (s : List UInt8) : ∀ k l, Go1 (rLocs s k l)
  | 0, _ => fun r => .refl r
  | k + 1, l => fun r => by
    rw [rLocs]
    split
    · exact .refl r
    · refine Mv.trans ?_ (go_locs s k _ _)
      refine Mv.trans ?_ (go_typ s _)
      split
      · exact (go_u s r).trans (Mv.bad _ _ (by decide))
      · exact go_u s r
theorem enter_ok {s : List UInt8} {r : RS} (h : r.Ok) : (rEnter s r).2.Ok := by
  have h1 := rEnter_le s r h.1
  have h2 := (go_u s r).ok h
  refine ⟨h1.1, ?_⟩
  unfold rEnter
  dsimp only
  split
  · exact h2.2
  · exact h2.2
theorem rep_step (xs : List Int) (i : Nat) (z : Int) : xs ++ List.replicate (i + 1) z = (xs ++ List.replicate i z) ++ [z] := by
  rw [List.replicate_succ', List.append_assoc]
set_option maxRecDepth 100000 in
set_option maxHeartbeats 16000000 in
theorem qcode_any {w : World} {p : Nat} {s : ByteArray} {r : RS} (h : RrAt w p s r) (hs : s.size ≤ 262144) (hok : r.Ok) (he : r.e ≤ s.size) :
    Calls Tryz.prog 84 #[.pointer (some ⟨p, 0, none⟩)] w (Cd p s (rCode (strl s) r) w) := by
  obtain ⟨i3, hi3, hz3, hs3, hb3⟩ := info_parts info3
  obtain ⟨q, hq⟩ : ∃ q, q = w.heap.size := ⟨_, rfl⟩
  have hB0 : Below w.heap.size w ((w.alloc (.cells #[.int .i64 0, .slice none 0 0, .slice none 0 0] 83)).alloc (.cells #[.int .i64 0, .slice none 0 0, .slice none 0 0] 83)) := ((Below.refl _ _).alloc (Nat.le_refl _) _).alloc (by simp) _
  have hL0 : LcAt w ((w.alloc (.cells #[.int .i64 0, .slice none 0 0, .slice none 0 0] 83)).alloc (.cells #[.int .i64 0, .slice none 0 0, .slice none 0 0] 83)) p q (q + 1) s r [] none 0 := by
    refine ⟨h.below hB0, ?_, ?_, Wr.of_below hB0, World.ownsRow_nil _ _ _ _⟩
    · rw [hq]
      exact (Bk.new w [.int .i64 0, .slice none 0 0, .slice none 0 0] 83).below ((Below.refl _ _).alloc (Nat.le_refl _) _)
    · have := Bk.new (w.alloc (.cells #[.int .i64 0, .slice none 0 0, .slice none 0 0] 83)) [.int .i64 0, .slice none 0 0, .slice none 0 0] 83
      rw [show (w.alloc (.cells #[.int .i64 0, .slice none 0 0, .slice none 0 0] 83)).heap.size = q + 1 by rw [hq]; simp] at this
      exact this
  have hpq : p < q := by rw [hq]; exact h.lt
  have hwq : w.heap.size ≤ q := Nat.le_of_eq hq.symm
  clear h
  obtain ⟨X, hX⟩ : ∃ X, rCode (strl s) r = X := ⟨_, rfl⟩
  rw [hX]
  have heo := enter_ok (s := strl s) hok
  have hel := rEnter_le (strl s) r hok.1
  go_enter Tryz.func84, Tryz.ntmps84
  go_upto_region 2 with (fail)
  rw [← hq]
  obtain ⟨w0, hw0⟩ : ∃ w0, w0 = (w.alloc (.cells #[.int .i64 0, .slice none 0 0, .slice none 0 0] 83)).alloc (.cells #[.int .i64 0, .slice none 0 0, .slice none 0 0] 83) := ⟨_, rfl⟩
  rw [← hw0] at hL0 ⊢
  clear hw0 hB0
  replace hq := Lib.hid hq
  go_wp2_with fail
  refine (qenter_any hL0.rd hs hok.1 he).mono ?_
  rintro e' w1 ⟨hW1, rfl, hR1⟩
  have hL1 := hL0.rdd hpq (Nat.lt_succ_self q) hW1 hR1
  obtain ⟨E, hE⟩ : ∃ E, E = rEnter (strl s) r := ⟨_, rfl⟩
  have hX1 : ((rCodeIn (strl s) E.2).1, rLeave E.1.1 E.1.2 (rCodeIn (strl s) E.2).2) = X := by rw [hE]; exact hX
  rw [← hE] at hL1 heo hel ⊢
  clear hE hX hL0 hW1 hR1
  obtain ⟨⟨stop, was⟩, r1⟩ := E
  dsimp only at hL1 heo hel hX1 ⊢
  have he1 : r1.e ≤ s.size := by omega
  clear hel
  replace hX1 := Lib.hid hX1
  replace hL1 := Lib.hid hL1
  go_wp2_with fail
  refine (qcount_any hL1.out.rd hs heo.1 he1).mono ?_
  rintro e' w2 ⟨hW2, v', rfl, rfl, hR2⟩
  have hL2 := hL1.out.rdd hpq (Nat.lt_succ_self q) hW2 hR2
  have hcin := rCount_in (strl s) r1
  obtain ⟨n, hn⟩ : ∃ n : Nat, (n : Int) = (rCount (strl s) r1).1 := ⟨(rCount (strl s) r1).1.toNat, by omega⟩
  have hX2 : ∃ LL, rLocs (strl s) n [] (rCount (strl s) r1).2 = LL ∧ ((LL.1, (rExprs (strl s) (LL.2.e + 1) 0 false LL.2).1.1), rLeave stop was (rExprs (strl s) (LL.2.e + 1) 0 false LL.2).2) = X := by
    refine ⟨_, rfl, ?_⟩
    have := hX1.out
    unfold rCodeIn at this
    dsimp only at this
    rw [← hn, Int.toNat_natCast] at this
    exact this
  obtain ⟨LL, hLL, hX2⟩ := hX2
  have hco := (go_count (strl s) r1).ok heo
  have hce := (go_count (strl s) r1).e
  rw [← hn] at hcin ⊢
  obtain ⟨r2, hr2⟩ : ∃ r2, r2 = (rCount (strl s) r1).2 := ⟨_, rfl⟩
  rw [← hr2] at hLL hL2 hco hce
  clear hr2 hn hX1 hL1 hW2 hR2 heo
  replace hLL := Lib.hid hLL
  replace hX2 := Lib.hid hX2
  replace hL2 := Lib.hid hL2
  go_wp2_with fail
  go_loopg [7] n (fun k v7 wr => ∃ (i : Nat) (l : List Int) (ao : Option Addr) (c : Nat) (ri : RS), v7 = .int .i64 (i : Int) ∧ i + k = n ∧ ri.Ok ∧ ri.e = r1.e ∧ l.length ≤ 256 ∧ Hid (LcAt w wr p q (q + 1) s ri l ao c) ∧ Hid (rLocs (strl s) k l ri = LL))
  case atStart => exact ⟨0, [], none, 0, r2, rfl, by omega, hco, hce, by decide, hL2, hLL⟩
  case round =>
    obtain ⟨i, l, ao, c, ri, rfl, hik, hio, hie, hll, hLi, hKi⟩ := hrel
    clear hL2 hLL hco hce
    have c4 := hLi.out.rd.c4
    by_cases hgo : gk ≠ 0 ∧ ri.w = 0
    case neg =>
      have hfin : (l, ri) = LL := by
        have := hKi.out
        cases gk with
        | zero => exact this
        | succ k => rw [rLocs, if_pos (fun hw => hgo ⟨by omega, hw⟩)] at this; exact this
      subst hfin
      have hh : ((i : Int) < (n : Int) ∧ (ri.w == 0) = false) ∨ ¬ (i : Int) < (n : Int) := by
        by_cases hlt : i < n
        · exact .inl ⟨by omega, beq_eq_false_iff_ne.2 (fun hw => hgo ⟨by omega, hw⟩)⟩
        · exact .inr (by omega)
      clear hgo hKi hik
      have hea := ex_any s (ri.e + 1) 
      rcases hh with ⟨hlt, hwb⟩ | hlt
      all_goals
        go_wp2_with fail
        refine (hea _ p ri 0 false hLi.out.rd hs hio (by omega) (by omega) (by decide)).mono ?_
        rintro e' w3 ⟨hW3, hR3, ba, bc, rfl, hbl, hsl⟩
        have hL3 := hLi.out.rdd hpq (Nat.lt_succ_self q) hW3 hR3
        have hq2 : q + 1 + 1 ≤ wr.heap.size := hLi.out.fx.lt
        have hi3 : IntsR (fun b => q + 1 + 1 ≤ b) w3 ao l := ints_own hL3.own (Nat.le_refl _)
        have hs3 : SlR (fun b => q + 1 + 1 ≤ b) w3 ba _ := hsl.low hq2
        obtain ⟨M, hM⟩ : ∃ M, M = rExprs (strl s) (ri.e + 1) 0 false ri := ⟨_, rfl⟩
        rw [← hM] at hX2 hL3 hbl hs3 ⊢
        clear hM hW3 hR3 hsl hLi hea
        obtain ⟨⟨il, tm⟩, r4⟩ := M
        dsimp only at hX2 hL3 hbl hs3 ⊢
        have f2 := hL3.fx.fr 2
        have c2 := hL3.fx.cell (j := 2) rfl
        replace hs3 := Lib.hid hs3
        replace hi3 := Lib.hid hi3
        go_upto_region 16 with (fail)
        have k4 : Wr (· = q + 1) w3 (w3.setCell ⟨q + 1, 2, none⟩ (.slice ba il.len bc)) := (Wr.refl (· = q + 1) w3).set rfl _ _
        have hR4 := hL3.rd.far (q := q + 1) (by omega) 2 (.slice ba il.len bc)
        have hS4 := hL3.rs.far (p := q + 1) (by omega) 2 (.slice ba il.len bc)
        have hF4 := hL3.fx.set 2 (.slice ba il.len bc)
        have hW4 := hL3.wr.newer k4 (fun k e hk => by omega)
        have hi4 := hi3.out.keep (keeps_wrS (R' := fun b => q + 1 + 1 ≤ b) k4 (fun b hb e => by omega) (fun b hb _ => hb))
        have hs4 := hs3.out.keep (keeps_wrS (R' := fun b => q + 1 + 1 ≤ b) k4 (fun b hb e => by omega) (fun b hb _ => hb))
        obtain ⟨w4, hw4⟩ : ∃ w4, w4 = w3.setCell ⟨q + 1, 2, none⟩ (.slice ba il.len bc) := ⟨_, rfl⟩
        rw [← hw4] at hR4 hS4 hF4 hW4 hi4 hs4 ⊢
        clear hw4 k4 hL3 f2 c2 hs3 hi3
        replace hs4 := Lib.hid hs4
        replace hi4 := Lib.hid hi4
        replace hS4 := Lib.hid hS4
        replace hF4 := Lib.hid hF4
        replace hW4 := Lib.hid hW4
        go_wp2_with fail
        refine (qleave_any hR4 stop was).mono ?_
        rintro e' w5 ⟨hW5, rfl, hR5⟩
        have hS5 := hS4.out.wr hW5 (by omega)
        have hF5 := hF4.out.wr hW5 (by omega)
        have hi5 := hi4.out.keep (keeps_wrS (R' := fun b => q + 1 + 1 ≤ b) hW5 (fun b hb e => by omega) (fun b hb _ => hb))
        have hs5 := hs4.out.keep (keeps_wrS (R' := fun b => q + 1 + 1 ≤ b) hW5 (fun b hb e => by omega) (fun b hb _ => hb))
        have hW6 := hW4.out.trans hW5
        clear hS4 hF4 hi4 hs4 hW4 hW5 hR4
        have y0 := hF5.cell (j := 0) rfl
        have y1 := hF5.cell (j := 1) rfl
        have y2 := hF5.cell (j := 2) rfl
        have z0 := hS5.cell (j := 0) rfl
        have z1 := hS5.cell (j := 1) rfl
        have z2 := hS5.cell (j := 2) rfl
        have q0 := hS5.fr 0
        have q1 := hS5.fr 1
        have q2 := hS5.fr 2
        have F := Lib.hid (((hS5.set 0 (.int .i64 0)).set 1 (.slice ao l.length c)).set 2 (.slice ba il.len bc))
        have hRe := Lib.hid (((hR5.far (q := q) (by omega) 0 (.int .i64 0)).far (q := q) (by omega) 1 (.slice ao l.length c)).far (q := q) (by omega) 2 (.slice ba il.len bc))
        have hWe := Lib.hid (((hW6.fresh (q := q) hwq 0 (.int .i64 0)).fresh (q := q) hwq 1 (.slice ao l.length c)).fresh (q := q) hwq 2 (.slice ba il.len bc))
        have k7 := (((Wr.refl (· = q) w5).set (S := (· = q)) rfl 0 (.int .i64 0)).set (S := (· = q)) rfl 1 (.slice ao l.length c)).set (S := (· = q)) rfl 2 (.slice ba il.len bc)
        have hi7 := Lib.hid (hi5.keep (keeps_wrS (R' := fun b => w.heap.size ≤ b) k7 (fun b hb e => by omega) (fun b hb _ => by omega)))
        have hs7 := Lib.hid (hs5.keep (keeps_wrS (R' := fun b => w.heap.size ≤ b) k7 (fun b hb e => by omega) (fun b hb _ => by omega)))
        clear hS5 hF5 hi5 hs5 hW6 hR5 k7
        go_wp2_with fail
        refine bodyPost_ret (results_cell_row (P := Tryz.prog) rfl _ _ q 83 #[(Value.int .i64 0), (Value.slice ao l.length c), (Value.slice ba il.len bc)] (0, 0) _ rfl F.out.row Tryz.underlying83 rfl info83x) rfl ?_
        rw [← hX2.out]
        exact ⟨hWe.out, hRe.out, ao, c, ba, bc, rfl, hi7.out, hs7.out, hbl⟩
    case pos =>
      obtain ⟨hg0, hw⟩ := hgo
      obtain ⟨k1, rfl⟩ : ∃ k1, gk = k1 + 1 := ⟨gk - 1, by omega⟩
      have hlt : (i : Int) < (n : Int) := by omega
      have hwb : (ri.w == 0) = true := by rw [hw]; rfl
      have hK1 := hKi.out
      rw [rLocs, if_neg (by simp [hw])] at hK1
      have hum := go_u (strl s) ri
      have hui := rU_in (strl s) ri
      clear hg0 hKi
      replace hw := Lib.hid hw
      replace hK1 := Lib.hid hK1
      go_wp2_with fail
      refine (qu_any hLi.out.rd hs hio.1 (by omega)).mono ?_
      rintro e' w3 ⟨hW3, v', rfl, rfl, hR3⟩
      change RrAt w3 p s (rU (strl s) ri).2 at hR3
      have hBv : rNum (gU (strl s)) ri = rU (strl s) ri := rfl
      rw [hBv]
      have hL3 := hLi.out.rdd hpq (Nat.lt_succ_self q) hW3 hR3
      have hK2 := hK1.out
      obtain ⟨U, hU⟩ : ∃ U, U = rU (strl s) ri := ⟨_, rfl⟩
      rw [← hU] at hL3 hK2 hum hui ⊢
      clear hU hBv hW3 hR3 hLi hK1
      obtain ⟨u, r3⟩ := U
      dsimp only at hL3 hK2 hum hui ⊢
      obtain ⟨m, rfl⟩ : ∃ m : Nat, u = (m : Int) := ⟨u.toNat, by omega⟩
      rw [Int.toNat_natCast] at hK2
      have ho3 := hum.ok hio
      have he3 := hum.e.trans hie
      obtain ⟨r5, hr5⟩ : ∃ r5, r5 = if 256 - (l.length : Int) < (m : Int) then r3.bad 3 else r3 := ⟨_, rfl⟩
      rw [← hr5] at hK2
      have hb5 : Mv r3 r5 := by
        rw [hr5]
        split
        · exact Mv.bad _ _ (by decide)
        · exact .refl _
      have hm5 : r5.w = 0 → m ≤ 256 - l.length := fun h0 => by
        rw [hr5] at h0
        split at h0
        · exact absurd h0 (bad_zero (by decide))
        · omega
      have ho5 := hb5.ok ho3
      have he5 := hb5.e.trans he3
      have cL := hL3.fx.cell (j := 1) rfl
      have hsub : IntKind.i64.wrap (256 - (l.length : Int)) = 256 - (l.length : Int) := wid64 _ (by omega) (by omega)
      have htw := go_typ (strl s) r5
      have htz : (rTyp (strl s) r5).2.w = 0 → r5.w = 0 := fun h0 => by
        by_cases h5 : r5.w = 0
        · exact h5
        · have := (sim_typ (strl s) r5).1 h5
          rw [this] at h0
          exact h0
      clear hum hui hb5
      replace hK2 := Lib.hid hK2
      replace hm5 := Lib.hid hm5
      replace htz := Lib.hid htz
      replace hsub := hsub
      by_cases hbig : 256 - (l.length : Int) < (m : Int)
      case' pos =>
        rw [if_pos hbig] at hr5
        replace hr5 := Lib.hid hr5
        replace hL3 := Lib.hid hL3
        go_wp2_with fail
        refine (qbad_any hL3.out.rd 3).mono ?_
        rintro e' wy ⟨rfl, hWy, hRy⟩
        rw [← hr5.out] at hRy
        have hLy := Lib.hid (hL3.out.rdd hpq (Nat.lt_succ_self q) hWy hRy)
        clear hWy hRy
      case' neg =>
        rw [if_neg hbig] at hr5
        subst hr5
        obtain ⟨wy, hwy⟩ : ∃ wy, wy = w3 := ⟨_, rfl⟩
        subst hwy
        have hLy := Lib.hid hL3
      all_goals
        clear hL3
        go_wp2_with fail
        refine (qtyp_any hLy.out.rd hs (by omega)).mono ?_
        rintro e' w6 ⟨hW6, v', rfl, rfl, hR6⟩
        have hL6 := hLy.out.rdd hpq (Nat.lt_succ_self q) hW6 hR6
        have hK3 := hK2.out
        have hz3 := htz.out
        obtain ⟨T, hT⟩ : ∃ T, T = rTyp (strl s) r5 := ⟨_, rfl⟩
        rw [← hT] at hL6 hK3 hz3 htw ⊢
        clear hT hW6 hR6 hLy hK2 htz
        obtain ⟨t, r6⟩ := T
        dsimp only at hL6 hK3 hz3 htw ⊢
        have ho6 := htw.ok ho5
        have he6 := htw.e.trans he5
        have hm6 : r6.w = 0 → m ≤ 256 - l.length := fun h0 => hm5.out (hz3 h0)
        clear htw hz3 hm5
        replace hK3 := Lib.hid hK3
        replace hm6 := Lib.hid hm6
        replace hL6 := Lib.hid hL6
        obtain ⟨wo, rfl⟩ : ∃ wo : World, wo = wr := ⟨_, rfl⟩
        go_wp2_with fail
        go_loopg [10] m (fun k2 v10 wr => ∃ (j : Nat) (a2 : Option Addr) (c2 : Nat), v10 = .int .i64 (j : Int) ∧ j + k2 = m ∧ (r6.w = 0 ∨ j = 0) ∧ Hid (LcAt w wr p q (q + 1) s r6 (l ++ List.replicate j t) a2 c2))
        case atStart => exact ⟨0, _, _, rfl, by omega, .inr rfl, by rw [List.replicate_zero, List.append_nil]; exact hL6⟩
        case round =>
          clear hL6
          obtain ⟨j, a2, c2, rfl, hjk, hjw, hLj⟩ := hrel
          have c4 := hLj.out.rd.c4
          obtain ⟨l2, hl2⟩ : ∃ l2, l2 = l ++ List.replicate j t := ⟨_, rfl⟩
          rw [← hl2] at hLj
          have hlen : l2.length = l.length + j := by rw [hl2]; simp
          have hl256 : l2.length ≤ 256 := by
            rcases hjw with h | h
            · have := hm6.out h
              omega
            · omega
          by_cases hgo : gk ≠ 0 ∧ r6.w = 0
          case pos =>
            obtain ⟨hg0, hw6⟩ := hgo
            obtain ⟨k2, rfl⟩ : ∃ k2, gk = k2 + 1 := ⟨gk - 1, by omega⟩
            have hm7 := hm6.out hw6
            try (exfalso; omega)
            all_goals
              have hlt2 : (j : Int) < (m : Int) := by omega
              have hwb2 : (r6.w == 0) = true := by rw [hw6]; rfl
              have hj1 : IntKind.i64.wrap ((j : Int) + 1) = (j : Int) + 1 := wid64 _ (by omega) (by omega)
              replace hw6 := Lib.hid hw6
              replace hl2 := Lib.hid hl2
              replace hlen := Lib.hid hlen
              have cL := hLj.out.fx.cell (j := 1) rfl
              have hBa : Below wr.heap.size wr (wr.alloc (.cells #[.int .i64 t] 3)) := (Below.refl _ _).alloc (Nat.le_refl _) _
              have hL8 := Lib.hid (hLj.out.below hpq (Nat.lt_succ_self q) hBa)
              have hq2 : q + 1 + 1 ≤ wr.heap.size := hLj.out.fx.lt
              clear hBa hg0
              go_wp2_with (first | (at_builtin; refine wpList_append_lies _ rfl _ _ _ rfl (q + 1 + 1) 3 i3 (.int .i64 0) 1 8 Tryz.underlying29 hi3 hz3 hs3 hb3 rfl (by decide) (.slice a2 l2.length c2) l2.length (l2.map (Value.int .i64)) (by rfl) hL8.out.own ⟨wr.heap.size, 0, none⟩ 1 1 [.int .i64 t] (by rfl) (by rfl) (World.news_of_block (cs := #[.int .i64 t]) (t := 3) (fr := (0, 0)) (heap_alloc_new _ _)) (by intro u hu; simp only [List.mem_cons, List.mem_nil_iff, or_false] at hu; subst hu; rfl) (by omega) (by unfold maxLen; omega) (by omega) (by simp; omega) (wr.heap.size + 1) (by simp) ?_; intro g cap w7 hown hgrow hat hlt7; obtain ⟨hF7, hL7⟩ := hL8.out.grown hpq (Nat.lt_succ_self q) hwq hown hgrow; have f7 := hF7.fr 1; have c7 := hF7.cell (j := 1) rfl; replace hL7 := Lib.hid hL7; clear hown hgrow hat hF7))
              go_roundg k2
              case measure => omega
              case rel => exact ⟨j + 1, _, _, by go_num, by omega, .inl hw6.out, Lib.hid (by rw [rep_step, ← hl2.out]; exact hL7.out)⟩
          case neg =>
            have hh : ((j : Int) < (m : Int) ∧ (r6.w == 0) = false) ∨ ¬ (j : Int) < (m : Int) := by
              by_cases hlt2 : j < m
              · exact .inl ⟨by omega, beq_eq_false_iff_ne.2 (fun hw => hgo ⟨by omega, hw⟩)⟩
              · exact .inr (by omega)
            have hK4 : rLocs (strl s) k1 l2 r6 = LL := by
              have := hK3.out
              by_cases hw6 : r6.w = 0
              · have hj : j = m := by
                  have : gk = 0 := by
                    by_cases h0 : gk = 0
                    · exact h0
                    · exact absurd ⟨h0, hw6⟩ hgo
                  omega
                rw [if_pos hw6] at this
                rw [hl2, hj]
                exact this
              · have hj : j = 0 := by
                  rcases hjw with h | h
                  · exact absurd h hw6
                  · exact h
                rw [if_neg hw6] at this
                rw [hl2, hj, List.replicate_zero, List.append_nil]
                exact this
            have hi1 : IntKind.i64.wrap ((i : Int) + 1) = (i : Int) + 1 := wid64 _ (by omega) (by omega)
            clear hgo hjw hjk hK3 hm6 hl2 hlen
            replace hK4 := Lib.hid hK4
            rcases hh with ⟨hlt2, hwb2⟩ | hlt2
            all_goals
              go_wp2_with fail
              go_roundg k1
              case measure => omega
              case rel => exact ⟨i + 1, l2, a2, c2, r6, by go_num, by omega, ho6, he6, hl256, hLj, hK4⟩
end Go.Proofs.YtkbfjkbokifgkaaGreatDoor

namespace Go.Proofs.YtkbfjkbokifgkaaGreatDoor
open Go.RowKit
set_option linter.unusedVariables false
set_option linter.unusedSimpArgs false

set_option maxRecDepth 100000 in
set_option maxHeartbeats 8000000 in
theorem qsect_def {α : Type} {K : Kd α} {E : TypeId} {j id : Nat} {g : List UInt8 → RS → Rg α} (hfn : EntFn K E j id g) (hgo : ∀ s, Go1 (g s)) (d0 : ((id : Int) == 0) = false) (d8 : ((id : Int) == 8) = false) (d10 : ((id : Int) == 10) = false)
    {w : World} {p mb : Nat} {s : ByteArray} {r : RS} {cs : List Value} (hR : RrAt w p s r) (hB : Bk w mb cs 33) (hc : cs[j]? = some (.slice none 0 0)) (hcl : cs.length = 10) (hpm : p ≠ mb) (hs : s.size ≤ 262144) (hok : r.Ok) (he : r.e ≤ s.size) :
    Calls Tryz.prog 30 #[.pointer (some ⟨p, 0, none⟩), .int .i64 (id : Int), .pointer (some ⟨mb, 0, none⟩)] w fun e' w' => e' = .returned (.tuple #[]) ∧ ∃ v' ts, ts.map K.of = (rEach (strl s) (g (strl s)) r).1 ∧ EnAt K E w w' p mb w.heap.size s (rEach (strl s) (g (strl s)) r).2 cs j v' ts := by
  obtain ⟨B, hBs⟩ : ∃ B, w.heap.size = B := ⟨_, rfl⟩
  rw [hBs]
  have hp : p < B := by rw [← hBs]; exact hR.lt
  have hm : mb < B := by rw [← hBs]; exact hB.lt
  obtain ⟨X, hX⟩ : ∃ X, rEach (strl s) (g (strl s)) r = X := ⟨_, rfl⟩
  have hX' : rMany (g (strl s)) (rCount (strl s) r).1.toNat (rCount (strl s) r).2 = X := hX
  rw [hX]
  have hcin := rCount_in (strl s) r
  have hco := (go_count (strl s) r).ok hok
  have hce := (go_count (strl s) r).e
  have hset : cs.set j (.slice none 0 0) = cs := by
    obtain ⟨hlt, h1⟩ := List.getElem?_eq_some_iff.1 hc
    rw [← h1]
    exact List.set_getElem_self hlt
  clear hX
  replace hBs := Lib.hid hBs
  replace hc := Lib.hid hc
  replace hcl := Lib.hid hcl
  replace hset := Lib.hid hset
  go_enter Tryz.func30, Tryz.ntmps30
  go_wp2_with fail
  refine (qcount_any hR hs hok.1 he).mono ?_
  rintro e' w1 ⟨hW1, v', rfl, rfl, hR1⟩
  have hE1 : EnAt K E w w1 p mb B s (rCount (strl s) r).2 cs j (.slice none 0 0) [] := ⟨hR1, by rw [hset.out]; exact hB.wr hW1 (fun e => hpm e.symm), hW1.mono fun _ e => .inl e, World.ownsRow_nil _ _ _ _, fun t ht => by cases ht⟩
  obtain ⟨n, hn⟩ : ∃ n : Nat, (n : Int) = (rCount (strl s) r).1 := ⟨(rCount (strl s) r).1.toNat, by omega⟩
  rw [← hn] at hX' hcin ⊢
  rw [Int.toNat_natCast] at hX'
  obtain ⟨r1, hr1⟩ : ∃ r1, r1 = (rCount (strl s) r).2 := ⟨_, rfl⟩
  rw [← hr1] at hX' hE1 hco hce
  clear hr1 hn hW1 hR1 hB hR
  replace hX' := Lib.hid hX'
  replace hE1 := Lib.hid hE1
  replace hce := Lib.hid hce
  go_wp2_with fail
  go_loopg [10] n (fun k v10 wr => ∃ (ts : List K.R) (v : Value) (ri : RS), v10 = .int .i64 (ts.length : Int) ∧ ts.length + k = n ∧ ri.Ok ∧ Hid (ri.e = r.e) ∧ Hid (EnAt K E w wr p mb B s ri cs j v ts) ∧ Hid ((ts.map K.of ++ (rMany (g (strl s)) k ri).1, (rMany (g (strl s)) k ri).2) = X))
  case atStart => exact ⟨[], _, r1, rfl, by simp, hco, hce, hE1, Lib.hid (by rw [List.map_nil, List.nil_append]; exact hX'.out)⟩
  case round =>
    obtain ⟨ts, v, ri, rfl, htk, hio, hie, hEi, hXi⟩ := hrel
    clear hE1 hX' hco hce
    have c4 := hEi.out.rd.c4
    by_cases hq : gk ≠ 0 ∧ ri.w = 0
    case pos =>
      obtain ⟨hg0, hw⟩ := hq
      obtain ⟨k1, rfl⟩ : ∃ k1, gk = k1 + 1 := ⟨gk - 1, by omega⟩
      have hlt : (ts.length : Int) < (n : Int) := by omega
      have hwb : (ri.w == 0) = true := by rw [hw]; rfl
      have hl : ts.length < 4096 := by omega
      have hX2 := hXi.out
      rw [rMany, if_neg (by simp [hw])] at hX2
      have hgi := hgo (strl s) ri
      have he2 : ri.e ≤ s.size := by rw [hie.out]; exact he
      have hi1 : IntKind.i64.wrap ((ts.length : Int) + 1) = (ts.length : Int) + 1 := wid64 _ (by omega) (by omega)
      replace hw := Lib.hid hw
      replace hX2 := Lib.hid hX2
      clear hXi hg0
      go_wp2_with fail
      refine (hfn w wr p mb B s ri cs v ts hp hm hpm hBs.out hcl.out hs hio he2 hl hEi.out).mono ?_
      rintro e' w2 ⟨rfl, v2, t, hT, hE2⟩
      have hX3 : ((ts ++ [t]).map K.of ++ (rMany (g (strl s)) k1 (g (strl s) ri).2).1, (rMany (g (strl s)) k1 (g (strl s) ri).2).2) = X := by
        rw [← hX2.out, List.map_append, List.map_cons, List.map_nil, hT, List.append_assoc]
        rfl
      replace hX3 := Lib.hid hX3
      replace hE2 := Lib.hid hE2
      clear hT hX2
      go_wp2_with fail
      go_roundg k1
      case measure => omega
      case rel => exact ⟨ts ++ [t], v2, (g (strl s) ri).2, by rw [List.length_append]; simp, by rw [List.length_append]; simp only [List.length_cons, List.length_nil]; omega, hgi.ok hio, Lib.hid (hgi.e.trans hie.out), hE2, hX3⟩
    case neg =>
      have hfin : (ts.map K.of, ri) = X := by
        have := hXi.out
        cases gk with
        | zero => rw [rMany, List.append_nil] at this; exact this
        | succ k => rw [rMany, if_pos (fun hw => hq ⟨by omega, hw⟩), List.append_nil] at this; exact this
      have hh : ((ts.length : Int) < (n : Int) ∧ (ri.w == 0) = false) ∨ ¬ (ts.length : Int) < (n : Int) := by
        by_cases hlt : ts.length < n
        · exact .inl ⟨by omega, beq_eq_false_iff_ne.2 (fun hw => hq ⟨by omega, hw⟩)⟩
        · exact .inr (by omega)
      clear hq hXi htk
      replace hfin := Lib.hid hfin
      rcases hh with ⟨hlt, hwb⟩ | hlt
      all_goals
        go_wp2_with fail
        go_end0
        refine ⟨rfl, v, ts, ?_, ?_⟩
        · rw [← hfin.out]
        · rw [← hfin.out]; exact hEi.out
set_option maxRecDepth 100000 in
set_option maxHeartbeats 8000000 in
theorem qsect_start {w : World} {p mb : Nat} {s : ByteArray} {r : RS} {cs : List Value} (hR : RrAt w p s r) (hB : Bk w mb cs 33) (hcl : cs.length = 10) (hpm : p ≠ mb) (hs : s.size ≤ 262144) (hok : r.Ok) (he : r.e ≤ s.size) :
    Calls Tryz.prog 30 #[.pointer (some ⟨p, 0, none⟩), .int .i64 8, .pointer (some ⟨mb, 0, none⟩)] w fun e' w' => e' = .returned (.tuple #[]) ∧ Wr (Spm p mb) w w' ∧ RrAt w' p s (rU (strl s) r).2 ∧
      ∃ g, w.heap.size ≤ g ∧ Bk w' mb (cs.set 7 (.slice (some ⟨g, 0, none⟩) 1 1)) 33 ∧ w'.heap[g]? = some (.cells #[.int .i64 (rU (strl s) r).1] 3 (0, 0)) := by
  have hmw := hB.lt
  obtain ⟨v7, hv7⟩ : ∃ v7, cs[7]? = some v7 := ⟨_, List.getElem?_eq_getElem (by omega)⟩
  replace hcl := Lib.hid hcl
  replace hv7 := Lib.hid hv7
  go_enter Tryz.func30, Tryz.ntmps30
  go_wp2_with fail
  refine (qu_any hR hs hok.1 he).mono ?_
  rintro e' w1 ⟨hW1, v', rfl, rfl, hR1⟩
  change RrAt w1 p s (rU (strl s) r).2 at hR1
  have hBv : rNum (gU (strl s)) r = rU (strl s) r := rfl
  rw [hBv]
  obtain ⟨U, hU⟩ : ∃ U, U = rU (strl s) r := ⟨_, rfl⟩
  rw [← hU] at hR1 ⊢
  replace hU := Lib.hid hU
  clear hBv
  have hB1 := hB.wr hW1 (fun e => hpm e.symm)
  have hBl : Below w1.heap.size w1 (w1.alloc (.cells #[.int .i64 U.1] 3)) := (Below.refl _ _).alloc (Nat.le_refl _) _
  have hN := Bk.new w1 [.int .i64 U.1] 3
  have hB2 := hB1.below hBl
  have hR2 := hR1.below hBl
  have hsz := hW1.size
  have hW2 := (hW1.trans (Wr.of_below hBl)).mono (fun _ e => (Or.inl e : Spm p mb _))
  have hm1 : mb < w1.heap.size := hB1.lt
  clear hBl hR hB hW1 hR1
  have c7 := hB2.cell hv7.out
  have f7 := hB2.fr 7
  obtain ⟨g, hg⟩ : ∃ g, g = w1.heap.size := ⟨_, rfl⟩
  have hF := (hN.far (p := mb) (by omega) 7 (.slice (some ⟨g, 0, none⟩) 1 1)).row
  have hRf := Lib.hid (hR2.far (q := mb) hpm 7 (.slice (some ⟨g, 0, none⟩) 1 1))
  have hBf := Lib.hid (hB2.set 7 (.slice (some ⟨g, 0, none⟩) 1 1))
  have hWf := Lib.hid (hW2.set (S := Spm p mb) (.inr rfl) 7 (.slice (some ⟨g, 0, none⟩) 1 1))
  rw [← hg] at hF hsz hm1
  replace hF := Lib.hid hF
  clear hN hB2 hR2 hW2
  replace hg := Lib.hid hg
  go_wp2_with fail
  go_end0
  rw [← hg.out, ← hU.out]
  exact ⟨rfl, hWf.out, hRf.out, g, hsz, hBf.out, hF.out⟩
set_option maxRecDepth 100000 in
set_option maxHeartbeats 8000000 in
theorem qsect_custom {w : World} {p mb : Nat} {s : ByteArray} {r : RS} (m : Md) (hR : RrAt w p s r) (hs : s.size ≤ 262144) (hok : r.Ok) (he : r.e ≤ s.size) :
    Calls Tryz.prog 30 #[.pointer (some ⟨p, 0, none⟩), .int .i64 0, .pointer (some ⟨mb, 0, none⟩)] w fun e' w' => e' = .returned (.tuple #[]) ∧ Wr (· = p) w w' ∧ RrAt w' p s (rCustom (strl s) m r).2 := by
  obtain ⟨X, hX⟩ : ∃ X, (rCustom (strl s) m r).2 = X := ⟨_, rfl⟩
  rw [hX]
  unfold rCustom at hX
  dsimp only at hX
  go_enter Tryz.func30, Tryz.ntmps30
  replace hX := Lib.hid hX
  go_wp2_with fail
  refine (qtext_any hR hs hok.1 he).mono ?_
  rintro e' w1 ⟨hW1, v', ⟨rfl, hlen⟩, rfl, hR1⟩
  have hX2 := hX.out
  obtain ⟨B, hB⟩ : ∃ B, B = rText (strl s) r := ⟨_, rfl⟩
  rw [← hB] at hR1 hX2 hlen ⊢
  clear hB hX hR
  obtain ⟨t, r1⟩ := B
  dsimp only at hR1 hX2 hlen ⊢
  have hsz : (mkb t).size ≤ 9223372036854775000 := by
    show t.toArray.size ≤ _
    rw [List.size_toArray]
    omega
  obtain ⟨r2, hr2⟩ : ∃ r2, r2 = if Lib.validD t = true then r1 else r1.bad 50 := ⟨_, rfl⟩
  rw [← hr2] at hX2
  replace hX2 := Lib.hid hX2
  have hfin : ∀ w2, RrAt w2 p s r2 → Wr (· = p) w w2 → True := fun _ _ _ => trivial
  clear hfin
  cases hN : Lib.validD t
  case' false =>
    rw [hN, if_neg (by decide)] at hr2
    replace hN := Lib.hid hN
    replace hr2 := Lib.hid hr2
    go_wp2_with fail
    refine (utf_any (mkb t) _ hsz).mono ?_
    rintro e' w2 ⟨rfl, rfl⟩
    rw [show Lib.validD (mkb t).data.toList = false from hN.out]
    go_wp2_with fail
    refine (qbad_any hR1 50).mono ?_
    rintro e' wy ⟨rfl, hWy, hRy⟩
    rw [← hr2.out] at hRy
    replace hWy := hW1.trans hWy
  case' true =>
    rw [hN, if_pos rfl] at hr2
    subst hr2
    replace hN := Lib.hid hN
    obtain ⟨wy, hwy⟩ : ∃ wy, wy = w1 := ⟨_, rfl⟩
    go_wp2_with fail
    refine (utf_any (mkb t) _ hsz).mono ?_
    rintro e' w2 ⟨rfl, rfl⟩
    rw [show Lib.validD (mkb t).data.toList = true from hN.out]
    subst hwy
    have hRy := hR1
    have hWy := hW1
  all_goals
    have c4 := hRy.c4
    have c2 := hRy.c2
    have c1 := hRy.c1
    have f1 := hRy.fr 1
    by_cases hw : r2.w = 0
    · have hwb : (r2.w == 0) = true := by rw [hw]; rfl
      have hX3 := hX2.out
      rw [if_pos hw] at hX3
      have hRf := Lib.hid (hRy.set1 r2.e)
      have hWf := Lib.hid (hWy.set (S := (· = p)) rfl 1 (.int .i64 (r2.e : Int)))
      replace hX3 := Lib.hid hX3
      replace hw := Lib.hid hw
      go_wp2_with fail
      go_end0
      rw [← hX3.out]
      exact ⟨rfl, hWf.out, hRf.out⟩
    · have hwb : (r2.w == 0) = false := beq_eq_false_iff_ne.2 hw
      have hX3 := hX2.out
      rw [if_neg hw] at hX3
      replace hX3 := Lib.hid hX3
      replace hw := Lib.hid hw
      go_wp2_with fail
      go_end0
      rw [← hX3.out]
      exact ⟨rfl, hWy, hRy⟩
end Go.Proofs.YtkbfjkbokifgkaaGreatDoor

namespace Go.Proofs.YtkbfjkbokifgkaaGreatDoor
open Go.RowKit
set_option linter.unusedVariables false
set_option linter.unusedSimpArgs false

theorem Out.eq {lo s : Nat} {f f0 : Nat → Value} (h : Out lo s f f0) : f = ovv f0 f lo s := funext fun t => by
  unfold ovv
  split
  · rfl
  · exact h.at_ t (by omega)
theorem wpv_then2 {P : Program} {Q : Exit → Act → World → Prop} {c : Code} {a : Act} {w : World} (h : ∀ K : Act → World → Prop, (∀ a w, K a w ↔ Q .normal a w) → c.wp P (Exit.then K Q) a w) : c.wp P Q a w := by
  refine wp_mono (h (Q .normal) fun _ _ => Iff.rfl) ?_
  intro e a' w' hq
  cases e <;> exact hq
def Spg (p g : Nat) : Nat → Prop := fun b => b = p ∨ b = g
/-- What is known between two codes. -/
structure CoAt (w0 w : World) (p mb g : Nat) (s : ByteArray) (r : RS) (cs cur : List Value) (dn : List FnR) (rest : List Int) : Prop where
  rd : RrAt w p s r
  md : Bk w mb cs 33
  bk : Bk w g cur 83
  row : FnRow cur (dn ++ rest.map fn0)
  wr : Wr (Spg p g) w0 w
  ok : ∀ r ∈ dn, FnOk (fun b => w0.heap.size ≤ b) w r
theorem fn_fst {w0 w : World} {p mb g : Nat} {s : ByteArray} {r : RS} {cs cur : List Value} {dn : List FnR} {t : Int} {rest : List Int} (h : CoAt w0 w p mb g s r cs cur dn (t :: rest)) : cur[dn.length * 3]? = some (.int .i64 t) ∧ dn.length * 3 + 2 < cur.length := by
  obtain ⟨h0, h1, h2⟩ := h.row dn.length (fn0 t) (by simp)
  exact ⟨h0, (List.getElem?_eq_some_iff.1 h2).1⟩
/-- One code is put into its row. -/
theorem CoAt.put {w0 w w1 w2 : World} {p mb g : Nat} {s : ByteArray} {r r' : RS} {cs cur : List Value} {dn : List FnR} {t : Int} {rest : List Int} {q : FnR} (h : CoAt w0 w p mb g s r cs cur dn (t :: rest)) (hgp : g ≠ p) (hgm : g ≠ mb) (hpm : p ≠ mb) (hp : p < w0.heap.size) (hg : g < w0.heap.size) (hm : mb < w0.heap.size) (k : Wr (· = p) w w1) (R : RrAt w1 p s r') (hq : q.t = t)
    (hi : IntsR (fun b => w.heap.size ≤ b) w1 q.la q.ls) (hsl : SlR (fun b => w.heap.size ≤ b) w1 q.ba q.b) (hb : q.b.len ≤ 9223372036854775807) (B : Below w1.heap.size w1 w2) :
    CoAt w0 (((w2.setCell ⟨g, dn.length * 3, none⟩ (.int .i64 t)).setCell ⟨g, dn.length * 3 + 1, none⟩ (.slice q.la q.ls.length q.lc)).setCell ⟨g, dn.length * 3 + 2, none⟩ (.slice q.ba q.b.len q.bc)) p mb g s r' cs ((cur.set (dn.length * 3 + 1) (.slice q.la q.ls.length q.lc)).set (dn.length * 3 + 2) (.slice q.ba q.b.len q.bc)) (dn ++ [q]) rest := by
  have k2 : Wr (· = p) w w2 := k.trans (Wr.of_below B)
  have hb2 := h.bk.wr k2 (by omega)
  have hs := (((hb2.set (dn.length * 3) (.int .i64 t)).set (dn.length * 3 + 1) (.slice q.la q.ls.length q.lc)).set (dn.length * 3 + 2) (.slice q.ba q.b.len q.bc))
  rw [set_same7 (fn_fst h).1] at hs
  have hkg : Wr (· = g) w2 (((w2.setCell ⟨g, dn.length * 3, none⟩ (.int .i64 t)).setCell ⟨g, dn.length * 3 + 1, none⟩ (.slice q.la q.ls.length q.lc)).setCell ⟨g, dn.length * 3 + 2, none⟩ (.slice q.ba q.b.len q.bc)) := (((Wr.refl (· = g) w2).set (S := (· = g)) rfl _ _).set (S := (· = g)) rfl _ _).set (S := (· = g)) rfl _ _
  have hwz := h.wr.size
  refine ⟨(((R.below B).far (fun e => hgp e.symm) _ _).far (fun e => hgp e.symm) _ _).far (fun e => hgp e.symm) _ _, (h.md.wr k2 (fun e => hpm e.symm)).wr hkg (fun e => hgm e.symm), hs, ?_, (h.wr.trans (k2.mono fun _ e => .inl e)).trans (hkg.mono fun _ e => .inr e), fun u hu => ?_⟩
  · have hr := h.row.set (i := dn.length) (r := fn0 t) (r' := q) (by simp) hq
    rw [show (dn ++ (t :: rest).map fn0).set dn.length q = (dn ++ [q]) ++ rest.map fn0 by simp] at hr
    exact hr
  · have kk : Wr (Spg p g) w _ := (k2.mono fun _ e => (Or.inl e : Spg p g _)).trans (hkg.mono fun _ e => .inr e)
    rcases List.mem_append.1 hu with hu | hu
    · exact (h.ok u hu).keep (keeps_wrS kk (fun b hb e => e.elim (fun e => by omega) (fun e => by omega)) (fun b hb _ => hb))
    · obtain rfl : u = q := by simpa using hu
      have hk2 : KeepsR (fun b => w.heap.size ≤ b) (fun b => w0.heap.size ≤ b) w1 _ := keeps_wrS ((Wr.of_below (S := Spg p g) B).trans (hkg.mono fun _ e => .inr e)) (fun b hb e => e.elim (fun e => by omega) (fun e => by omega)) (fun b hb _ => by omega)
      exact ⟨hi.keep hk2, hsl.keep hk2, hb⟩
theorem leave_at (st w0 : Nat) (x : RS) : (rLeave st w0 x).e = w0 ∧ (rLeave st w0 x).a = x.a ∧ (rLeave st w0 x).i = x.i ∧ ((rLeave st w0 x).w = 0 → x.w = 0) := by
  unfold rLeave
  split
  · rename_i h
    unfold RS.bad
    split
    · exact ⟨rfl, rfl, rfl, fun _ => h.1⟩
    · exact ⟨rfl, rfl, rfl, fun _ => h.1⟩
  · exact ⟨rfl, rfl, rfl, id⟩
theorem go_long {α : Type} (s : List UInt8) {f : RS → Rg α} (hf : Go1 f) : Go1 (rLong s f) := fun r => by
  have hu := go_u s r
  have hea : (rEnter s r).2.a = (rU s r).2.a := by unfold rEnter; dsimp only; split <;> rfl
  have h1 := hf (rEnter s r).2
  obtain ⟨k1, k2, k3, k4⟩ := leave_at (rEnter s r).1.1 (rEnter s r).1.2 (f (rEnter s r).2).2
  refine ⟨?_, ?_, fun hok => ?_⟩
  · exact k1.trans hu.e
  · show r.a ≤ (rLeave _ _ _).a
    rw [k2]
    have := h1.up
    have := hu.up
    omega
  · have h2 := h1.ok (enter_ok (s := s) hok)
    have h3 := rEnter_le s r hok.1
    have h4 := h1.e
    refine ⟨?_, ?_, fun h0 => ?_⟩
    · show (rLeave _ _ _).a ≤ (rLeave _ _ _).e
      rw [k1, k2, h3.2.2]
      have := h2.1
      omega
    · show (rLeave _ _ _).i ≤ _
      rw [k3]
      exact h2.2.1
    · show (rLeave _ _ _).i ≤ _
      rw [k3]
      exact h2.2.2 (k4 h0)
theorem go_code (s : List UInt8) : Go1 (rCode s) := go_long s fun r => ((go_count s r).trans (go_locs s _ _ _)).trans (go_exprs s _ _ _ _)
def QCd (p mb g : Nat) (s : ByteArray) (cs : List Value) (tys : List Int) (C : Rg (List (Int × List Int × Il))) (w : World) (e' : Ending) (w' : World) : Prop :=
  e' = .returned (.tuple #[]) ∧ ∃ cur' rs tl, Wr (Spg p g) w w' ∧ RrAt w' p s C.2 ∧ Bk w' mb cs 33 ∧ Bk w' g cur' 83 ∧ FnRow cur' (rs ++ tl.map fn0) ∧ (∀ r ∈ rs, FnOk (fun b => w.heap.size ≤ b) w' r) ∧ rs.map FnR.p = C.1 ∧ (C.2.w = 0 → tl = []) ∧ rs.length + tl.length = tys.length
set_option maxRecDepth 100000 in
set_option maxHeartbeats 16000000 in
theorem qsect_codes {w : World} {p mb g : Nat} {s : ByteArray} {r : RS} {cs cur : List Value} {tys : List Int} {cap : Nat} (hR : RrAt w p s r) (hB : Bk w mb cs 33) (hcl : cs.length = 10) (hc2 : cs[2]? = some (.slice (some ⟨g, 0, none⟩) tys.length cap)) (hbk : Bk w g cur 83) (hrow : FnRow cur (tys.map fn0)) (hgp : g ≠ p) (hgm : g ≠ mb) (hpm : p ≠ mb) (hn4 : tys.length ≤ 4096) (hs : s.size ≤ 262144) (hok : r.Ok) (he : r.e ≤ s.size) :
    Calls Tryz.prog 30 #[.pointer (some ⟨p, 0, none⟩), .int .i64 10, .pointer (some ⟨mb, 0, none⟩)] w (QCd p mb g s cs tys (rCodes (strl s) tys (if (rCount (strl s) r).1 = (tys.length : Int) then (rCount (strl s) r).2 else (rCount (strl s) r).2.bad 50)) w) := by
  obtain ⟨C, hC⟩ : ∃ C, rCodes (strl s) tys (if (rCount (strl s) r).1 = (tys.length : Int) then (rCount (strl s) r).2 else (rCount (strl s) r).2.bad 50) = C := ⟨_, rfl⟩
  rw [hC]
  have hmix : Tryz.prog.follows .mixedOrders = true := by kernel_rfl
  have hp := hR.lt
  have hg := hbk.lt
  have hm := hB.lt
  have hcin := rCount_in (strl s) r
  have hco := (go_count (strl s) r).ok hok
  have hce := (go_count (strl s) r).e
  replace hC := Lib.hid hC
  go_enter Tryz.func30, Tryz.ntmps30
  replace hc2 := Lib.hid hc2
  replace hcl := Lib.hid hcl
  replace hrow := Lib.hid hrow
  go_wp2_with fail
  refine (qcount_any hR hs hok.1 he).mono ?_
  rintro e' w1 ⟨hW1, v', rfl, rfl, hR1⟩
  obtain ⟨n, hn⟩ : ∃ n : Nat, (n : Int) = (rCount (strl s) r).1 := ⟨(rCount (strl s) r).1.toNat, by omega⟩
  have hB1 := hB.wr hW1 (fun e => hpm e.symm)
  have hk1 := hbk.wr hW1 hgp
  have hW1' := hW1.mono (fun _ e => (Or.inl e : Spg p g _))
  have hC2 := hC.out
  rw [← hn] at hC2 hcin ⊢
  obtain ⟨r1, hr1⟩ : ∃ r1, r1 = (rCount (strl s) r).2 := ⟨_, rfl⟩
  rw [← hr1] at hC2 hR1 hco hce
  clear hr1 hn hR hB hbk hW1
  clear hC
  have c2 := hB1.cell hc2.out
  obtain ⟨r2, hr2⟩ : ∃ r2, r2 = if (n : Int) = (tys.length : Int) then r1 else r1.bad 50 := ⟨_, rfl⟩
  rw [← hr2] at hC2
  replace hC2 := Lib.hid hC2
  have hmv : Mv r1 r2 := by
    rw [hr2]
    split
    · exact .refl _
    · exact Mv.bad _ _ (by decide)
  have ho2 := hmv.ok hco
  have he2 : r2.e = r.e := hmv.e.trans hce
  have hw2 : r2.w = 0 → n = tys.length := fun h0 => by
    rw [hr2] at h0
    split at h0
    · omega
    · exact absurd h0 (bad_zero (by decide))
  clear hmv hco hce
  replace hw2 := Lib.hid hw2
  replace he2 := Lib.hid he2
  by_cases hnl : (n : Int) = (tys.length : Int)
  case' pos =>
    rw [if_pos hnl] at hr2
    subst hr2
    have hnb : ((n : Int) != (tys.length : Int)) = false := by rw [hnl]; simp
    replace hnl := Lib.hid hnl
    obtain ⟨wy, hwy⟩ : ∃ wy, wy = w1 := ⟨_, rfl⟩
    subst hwy
    have hSt := Lib.hid (CoAt.mk hR1 hB1 hk1 (by rw [List.nil_append]; exact hrow.out) hW1' (fun r hr => by cases hr) : CoAt w wy p mb g s r2 cs cur [] tys)
  case' neg =>
    rw [if_neg hnl] at hr2
    have hnb : ((n : Int) != (tys.length : Int)) = true := by simp; omega
    replace hnl := Lib.hid hnl
    replace hr2 := Lib.hid hr2
    go_wp2_with fail
    refine (qbad_any hR1 50).mono ?_
    rintro e' wy ⟨rfl, hWy, hRy⟩
    rw [← hr2.out] at hRy
    have hSt := Lib.hid (CoAt.mk hRy (hB1.wr hWy (fun e => hpm e.symm)) (hk1.wr hWy hgp) (by rw [List.nil_append]; exact hrow.out) (hW1'.trans (hWy.mono fun _ e => .inl e)) (fun r hr => by cases hr) : CoAt w wy p mb g s r2 cs cur [] tys)
  all_goals
    clear hB1 hk1 hW1' hR1
    go_wp2_with fail
    go_loopg [7] n (fun k v7 wr => ∃ (dn : List FnR) (rest : List Int) (ri : RS) (cur2 : List Value), v7 = .int .i64 (dn.length : Int) ∧ dn.length + k = n ∧ dn.length + rest.length = tys.length ∧ ri.Ok ∧ Hid (ri.e = r.e) ∧ Hid (ri.w = 0 → n = tys.length) ∧ Hid (CoAt w wr p mb g s ri cs cur2 dn rest) ∧ Hid ((dn.map FnR.p ++ (rCodes (strl s) rest ri).1, (rCodes (strl s) rest ri).2) = C))
    case atStart => exact ⟨[], tys, r2, cur, rfl, by simp, by simp, ho2, he2, hw2, hSt, hC2⟩
    case round =>
      obtain ⟨dn, rest, ri, cur2, rfl, hdk, hdr, hio, hie, hiw, hSi, hCi⟩ := hrel
      clear hSt hC2 hw2 he2 ho2
      have c4 := hSi.out.rd.c4
      by_cases hq : gk ≠ 0 ∧ ri.w = 0
      case pos =>
        obtain ⟨hg0, hw⟩ := hq
        obtain ⟨k1, rfl⟩ : ∃ k1, gk = k1 + 1 := ⟨gk - 1, by omega⟩
        have hnt := hiw.out hw
        obtain ⟨t, rest, rfl⟩ : ∃ t ts, rest = t :: ts := by
          cases rest with
          | nil => rw [List.length_nil] at hdr; omega
          | cons t ts => exact ⟨t, ts, rfl⟩
        rw [List.length_cons] at hdr
        have hC3 := hCi.out
        rw [rCodes, if_neg (by simp [hw])] at hC3
        have hlt : (dn.length : Int) < (n : Int) := by omega
        have hltt : (dn.length : Int) < (tys.length : Int) := by omega
        have hwb : (ri.w == 0) = true := by rw [hw]; rfl
        have he3 : ri.e ≤ s.size := by rw [hie.out]; exact he
        have hgi := (go_code (strl s) ri)
        have hi1 : IntKind.i64.wrap ((dn.length : Int) + 1) = (dn.length : Int) + 1 := wid64 _ (by omega) (by omega)
        replace hw := Lib.hid hw
        replace hnt := Lib.hid hnt
        replace hC3 := Lib.hid hC3
        clear hCi hg0 hiw
        go_wp2_with fail
        refine (qcode_any hSi.out.rd hs hio he3).mono ?_
        rintro e' w3 ⟨hW3, hR3, la, lc, ba, bc, rfl, hi3, hs3, hl3⟩
        obtain ⟨D, hD⟩ : ∃ D, D = rCode (strl s) ri := ⟨_, rfl⟩
        have hC4 := hC3.out
        rw [← hD] at hC4 hR3 hi3 hs3 hl3 hgi ⊢
        clear hD hC3
        obtain ⟨⟨ls, il⟩, r4⟩ := D
        dsimp only at hC4 hR3 hi3 hs3 hl3 hgi ⊢
        obtain ⟨hf1, hf2⟩ := fn_fst hSi.out
        have hBx : Below w3.heap.size w3 (w3.alloc (.cells #[.int .i64 0, .slice la ls.length lc, .slice ba il.len bc] 83)) := (Below.refl _ _).alloc (Nat.le_refl _) _
        have hBy : Below w3.heap.size w3 (w3.alloc (.cells #[.int .i64 t, .slice la ls.length lc, .slice ba il.len bc] 83)).drew := ((Below.refl w3.heap.size w3).alloc (Nat.le_refl _) _).drew
        have hput := Lib.hid (CoAt.put (q := ⟨t, ls, la, lc, il, ba, bc⟩) hSi.out hgp hgm hpm hp hg hm hW3 hR3 rfl hi3 hs3 hl3 hBy)
        have hmy := (hSi.out.md.wr hW3 (fun e => hpm e.symm)).below hBy
        have hby := (hSi.out.bk.wr hW3 hgp).below hBy
        have hxy : Bk (w3.alloc (.cells #[.int .i64 t, .slice la ls.length lc, .slice ba il.len bc] 83)).drew w3.heap.size [.int .i64 t, .slice la ls.length lc, .slice ba il.len bc] 83 := (Bk.new w3 [.int .i64 t, .slice la ls.length lc, .slice ba il.len bc] 83).below (Below.refl _ _).drew
        clear hBy
        have hmd := (hSi.out.md.wr hW3 (fun e => hpm e.symm)).below hBx
        have hbk := (hSi.out.bk.wr hW3 hgp).below hBx
        have hxx := Bk.new w3 [.int .i64 0, .slice la ls.length lc, .slice ba il.len bc] 83
        have y2 := hmd.cell hc2.out
        have y0 := hbk.cell hf1
        have hx0 := hxx.cell (j := 0) rfl
        have hxf := hxx.fr 0
        clear hBx hmd hbk hxx hi3 hs3 hl3 hW3 hR3
        replace hf1 := Lib.hid hf1
        replace hmy := Lib.hid hmy
        replace hby := Lib.hid hby
        replace hxy := Lib.hid hxy
        go_upto_region 22 with (fail)
        clear y2 y0 hx0 hxf c4
        obtain ⟨x, hx⟩ : ∃ x, x = w3.heap.size := ⟨_, rfl⟩
        obtain ⟨w4, hw4⟩ : ∃ w4, w4 = w3.alloc (.cells #[.int .i64 t, .slice la ls.length lc, .slice ba il.len bc] 83) := ⟨_, rfl⟩
        rw [← hw4] at hput hmy hby hxy ⊢
        rw [← hx] at hxy ⊢
        clear hx hw4
        replace hmy : Hid (Bk w4 mb cs 33) := Lib.hid ⟨hmy.out.row⟩
        replace hby : Hid (Bk w4 g cur2 83) := Lib.hid ⟨hby.out.row⟩
        replace hxy : Hid (Bk w4 x [.int .i64 t, .slice la ls.length lc, .slice ba il.len bc] 83) := Lib.hid ⟨hxy.out.row⟩
        have z2 := hmy.out.cell hc2.out
        have z3 := hxy.out.cell (j := 0) rfl
        have z4 := hxy.out.cell (j := 1) rfl
        have z5 := hxy.out.cell (j := 2) rfl
        have zz0 := hby.out.cell hf1.out
        have hcu := hf2
        obtain ⟨u1, hu1⟩ : ∃ u1, cur2[dn.length * 3 + 1]? = some u1 := ⟨_, List.getElem?_eq_getElem (by omega)⟩
        obtain ⟨u2, hu2⟩ : ∃ u2, cur2[dn.length * 3 + 2]? = some u2 := ⟨_, List.getElem?_eq_getElem (by omega)⟩
        have zz1 := hby.out.cell hu1
        have zz2 := hby.out.cell hu2
        have g0 := hby.out.fr (dn.length * 3)
        have g1 := hby.out.fr (dn.length * 3 + 1)
        have g2 := hby.out.fr (dn.length * 3 + 2)
        replace hu1 := Lib.hid hu1
        replace hu2 := Lib.hid hu2
        have hC5 : ((dn ++ [(⟨t, ls, la, lc, il, ba, bc⟩ : FnR)]).map FnR.p ++ (rCodes (strl s) rest r4).1, (rCodes (strl s) rest r4).2) = C := by
          rw [← hC4, List.map_append, List.append_assoc]
          rfl
        replace hC5 := Lib.hid hC5
        clear hC4
        refine wpv_then2 ?_
        intro K hK
        go_cut [94] from 95 to 100 (fun sv wx => Hid (CoAt w wx p mb g s r4 cs ((cur2.set (dn.length * 3 + 1) (.slice la ls.length lc)).set (dn.length * 3 + 2) (.slice ba il.len bc)) (dn ++ [⟨t, ls, la, lc, il, ba, bc⟩]) rest))
        case first =>
          refine wp_fv _ 101 rfl (region_steps hmix 101 94 7 0 [.pointer (some ⟨mb, 0, none⟩), .pointer (some ⟨mb, 0, none⟩), .pointer (some ⟨mb, 2, none⟩), .slice (some ⟨g, 0, none⟩) tys.length cap, .int .i64 (dn.length : Int), .agg #[.int .i64 t, .slice la ls.length lc, .slice ba il.len bc], .pointer (some ⟨g, dn.length * 3, none⟩)] [7] rfl (by kernel_rfl) (by kernel_rfl) (by kernel_rfl) rfl (by kernel_rfl) (fun k v w' => w' = w4.drew) rfl ?_)
          iterate 7 (refine .quiet rfl rfl ?_ ?_; rotate_left)
          refine .last rfl rfl ?_
          · intro v' f w' hX hpv ho hv K' hK'
            subst hX
            have e0 : f 100 = .pointer (some ⟨g, dn.length * 3, none⟩) := hv 6 (by decide) rfl
            have e1 : f 99 = .agg #[.int .i64 t, .slice la ls.length lc, .slice ba il.len bc] := hv 5 (by decide) rfl
            go_simp
            (try simp (disch := decide) only [fv_t, e0, e1])
            (try go_simp)
            refine hK' _ _ ?_
            rw [show Fv 101 f = Fv 101 (ovv _ f 94 7) from congrArg _ ho.eq]
            go_wp2_with fail
            go_meet
            exact hput
          all_goals
            intro k' v' f w' hX ho hv K' hK'
            subst hX
            simp (disch := decide) only [NeedsC, Region.binds, List.contains_cons, List.contains_nil, Nat.reduceBEq, Bool.or_false, Bool.false_or, Bool.or_true, Bool.true_or, List.getD_cons_succ, List.getD_cons_zero, Nat.reduceAdd, true_imp_iff, and_true, Bool.true_eq_false, false_imp_iff, true_and, reduceCtorEq] at hv
            have e2 : f 2 = .pointer (some ⟨mb, 0, none⟩) := ho.at_ 2 (by decide)
            have e7 : f 7 = .int .i64 (dn.length : Int) := ho.at_ 7 (by decide)
            have e8 : f 8 = .pointer (some ⟨x, 0, none⟩) := ho.at_ 8 (by decide)
            clear ho
            go_simp
            (try simp (disch := decide) only [fv_t, hv, e2, e7, e8])
            (try go_simp)
            exact hK' _ _ ⟨fv_set _ _, rfl⟩
        case rest =>
          refine (hK _ _).2 ?_
          clear hK
          replace hcut := hcut
          go_wp2_with fail
          go_roundg k1
          case measure => omega
          case rel => exact ⟨dn ++ [⟨t, ls, la, lc, il, ba, bc⟩], rest, r4, _, by rw [List.length_append]; simp, by rw [List.length_append]; simp only [List.length_cons, List.length_nil]; omega, by rw [List.length_append]; simp only [List.length_cons, List.length_nil]; omega, hgi.ok hio, Lib.hid (hgi.e.trans hie.out), Lib.hid (fun _ => hnt.out), hcut, hC5⟩
      case neg =>
        have hh : ((dn.length : Int) < (n : Int) ∧ (ri.w == 0) = false) ∨ ¬ (dn.length : Int) < (n : Int) := by
          by_cases hlt : dn.length < n
          · exact .inl ⟨by omega, beq_eq_false_iff_ne.2 (fun hw => hq ⟨by omega, hw⟩)⟩
          · exact .inr (by omega)
        have hfin : (dn.map FnR.p, ri) = C ∧ (ri.w = 0 → rest = []) := by
          have h1 := hCi.out
          by_cases hw : ri.w = 0
          · have hr0 : rest = [] := List.length_eq_zero_iff.1 (by
              have := hiw.out hw
              have : gk = 0 := by
                by_cases h0 : gk = 0
                · exact h0
                · exact absurd ⟨h0, hw⟩ hq
              omega)
            rw [hr0, rCodes, List.append_nil] at h1
            exact ⟨h1, fun _ => hr0⟩
          · refine ⟨?_, fun h => absurd h hw⟩
            cases rest with
            | nil => rw [rCodes, List.append_nil] at h1; exact h1
            | cons t ts => rw [rCodes, if_pos hw, List.append_nil] at h1; exact h1
        clear hq hCi
        replace hfin := Lib.hid hfin
        rcases hh with ⟨hlt, hwb⟩ | hlt
        all_goals
          go_wp2_with fail
          go_end0
          rw [← hfin.out.1]
          exact ⟨rfl, cur2, dn, rest, hSi.out.wr, hSi.out.rd, hSi.out.md, hSi.out.bk, hSi.out.row, hSi.out.ok, rfl, hfin.out.2, hdr⟩
set_option maxRecDepth 100000 in
set_option maxHeartbeats 8000000 in
theorem qsect_codes0 {w : World} {p mb : Nat} {s : ByteArray} {r : RS} {cs : List Value} (hR : RrAt w p s r) (hB : Bk w mb cs 33) (hcl : cs.length = 10) (hc2 : cs[2]? = some (.slice none 0 0)) (hpm : p ≠ mb) (hs : s.size ≤ 262144) (hok : r.Ok) (he : r.e ≤ s.size) :
    Calls Tryz.prog 30 #[.pointer (some ⟨p, 0, none⟩), .int .i64 10, .pointer (some ⟨mb, 0, none⟩)] w fun e' w' => e' = .returned (.tuple #[]) ∧ Wr (· = p) w w' ∧ RrAt w' p s (rCodes (strl s) [] (if (rCount (strl s) r).1 = ((([] : List Int).length : Nat) : Int) then (rCount (strl s) r).2 else (rCount (strl s) r).2.bad 50)).2 := by
  obtain ⟨X, hX⟩ : ∃ X, (rCodes (strl s) [] (if (rCount (strl s) r).1 = ((([] : List Int).length : Nat) : Int) then (rCount (strl s) r).2 else (rCount (strl s) r).2.bad 50)).2 = X := ⟨_, rfl⟩
  rw [hX]
  rw [rCodes] at hX
  dsimp only at hX
  have hcin := rCount_in (strl s) r
  replace hX := Lib.hid hX
  replace hc2 := Lib.hid hc2
  replace hcl := Lib.hid hcl
  go_enter Tryz.func30, Tryz.ntmps30
  go_wp2_with fail
  refine (qcount_any hR hs hok.1 he).mono ?_
  rintro e' w1 ⟨hW1, v', rfl, rfl, hR1⟩
  obtain ⟨n, hn⟩ : ∃ n : Nat, (n : Int) = (rCount (strl s) r).1 := ⟨(rCount (strl s) r).1.toNat, by omega⟩
  have hX2 := hX.out
  rw [← hn] at hX2 hcin ⊢
  obtain ⟨r1, hr1⟩ : ∃ r1, r1 = (rCount (strl s) r).2 := ⟨_, rfl⟩
  rw [← hr1] at hX2 hR1
  have c2 := (hB.wr hW1 (fun e => hpm e.symm)).cell hc2.out
  clear hr1 hn hR hB hX
  by_cases hn0 : n = 0
  case' pos =>
    rw [if_pos (by simp [hn0])] at hX2
    have hnb : ((n : Int) != 0) = false := by simp [hn0]
    have hor : ¬ (0 : Int) < (n : Int) ∨ ((0 : Int) < (n : Int) ∧ (X.w == 0) = false) := .inl (by omega)
    replace hn0 := Lib.hid hn0
    rw [hX2] at hR1
    replace hX2 := Lib.hid hX2
    obtain ⟨wy, hwy⟩ : ∃ wy, wy = w1 := ⟨_, rfl⟩
    subst hwy
    have hRy := Lib.hid hR1
    have hWy := Lib.hid hW1
  case' neg =>
    have hne : ¬ (n : Int) = ((([] : List Int).length : Nat) : Int) := by simpa using hn0
    rw [if_neg hne] at hX2
    have hnb : ((n : Int) != 0) = true := by simp; exact hn0
    have hor : ¬ (0 : Int) < (n : Int) ∨ ((0 : Int) < (n : Int) ∧ (X.w == 0) = false) := .inr ⟨by omega, by rw [← hX2]; exact beq_eq_false_iff_ne.2 (fun h0 => absurd h0 (bad_zero (by decide)))⟩
    replace hX2 := Lib.hid hX2
    replace hn0 := Lib.hid hn0
    clear hne
    go_wp2_with fail
    refine (qbad_any hR1 50).mono ?_
    rintro e' wy ⟨rfl, hWy, hRy⟩
    rw [hX2.out] at hRy
    replace hRy := Lib.hid hRy
    replace hWy := Lib.hid (hW1.trans hWy)
  all_goals
    replace hor := Lib.hid hor
    go_wp2_with fail
    go_loopg [7] n (fun k v7 wr => v7 = .int .i64 0 ∧ Hid (RrAt wr p s X) ∧ Hid (Wr (· = p) w wr))
    case atStart => exact ⟨rfl, hRy, hWy⟩
    case round =>
      obtain ⟨rfl, hRi, hWi⟩ := hrel
      clear hRy hWy
      have c4 := hRi.out.c4
      rcases hor.out with hlt | ⟨hlt, hwb⟩
      all_goals
        go_wp2_with fail
        go_end0
        exact ⟨rfl, hWi.out, hRi.out⟩
end Go.Proofs.YtkbfjkbokifgkaaGreatDoor

namespace Go.Proofs.YtkbfjkbokifgkaaGreatDoor
open Go.RowKit
set_option linter.unusedVariables false
set_option linter.unusedSimpArgs false

theorem Fns.wrS {N : Nat} {S : Nat → Prop} {w w' : World} {p : Nat} {v : Value} {fs : List (Int × List Int × Il)} {cd : Bool} (h : Fns N w p v fs cd) (k : Wr S w w') (hS : ∀ b, N ≤ b → b ≠ p → ¬ S b) : Fns N w' p v fs cd := by
  rcases h with ⟨tys, h1, hl, h2⟩ | ⟨h0, g, cap, cur, rs, h1, h2, h3, h4, h5, h6, h7, h8⟩
  · exact .inl ⟨tys, h1, hl, h2.keep k (fun b hb => hS b hb.2 hb.1) (fun b hb _ => hb)⟩
  · exact .inr ⟨h0, g, cap, cur, rs, h1, h2, h3.wr k (hS g h6 h5), h4, h5, h6, h7, fun r hr => (h8 r hr).keep (keeps_wrS k (fun b hb => hS b hb.2.2 hb.1) (fun b hb _ => hb))⟩
theorem MS.wrS {N : Nat} {S : Nat → Prop} {w w' : World} {p : Nat} {v0 v1 v2 v3 v4 v5 v6 v7 v8 v9 : Value} {m : Md} {cd : Bool} (h : MS N w p v0 v1 v2 v3 v4 v5 v6 v7 v8 v9 m cd) (k : Wr S w w') (hS : ∀ b, N ≤ b → b ≠ p → ¬ S b) : MS N w' p v0 v1 v2 v3 v4 v5 v6 v7 v8 v9 m cd :=
  ⟨h.types.keep k (fun b hb => hS b hb.2.2 hb.1) (fun b hb _ => hb), h.imports.keep k (fun b hb => hS b hb.2.2 hb.1) (fun b hb _ => hb), h.tables.keep k (fun b hb => hS b hb.2.2 hb.1) (fun b hb _ => hb), h.mems.keep k (fun b hb => hS b hb.2.2 hb.1) (fun b hb _ => hb), h.globals.keep k (fun b hb => hS b hb.2.2 hb.1) (fun b hb _ => hb), h.exports.keep k (fun b hb => hS b hb.2.2 hb.1) (fun b hb _ => hb), h.start.keep k (fun b hb => hS b hb.2.2 hb.1) (fun b hb _ => hb), h.elems.keep k (fun b hb => hS b hb.2.2 hb.1) (fun b hb _ => hb), h.datas.keep k (fun b hb => hS b hb.2.2 hb.1) (fun b hb _ => hb), h.funcs.wrS k hS⟩
/-- What is known ahead of a section. -/
structure QS (W0 w : World) (N p mb : Nat) (s : ByteArray) (r : RS) (lt : Nat) (m : Md) (cd : Bool) (v0 v1 v2 v3 v4 v5 v6 v7 v8 v9 : Value) : Prop where
  rd : RrAt w p s r
  md : Bk w mb [v0, v1, v2, v3, v4, v5, v6, v7, v8, v9] 33
  ms : MS N w mb v0 v1 v2 v3 v4 v5 v6 v7 v8 v9 m cd
  n0 : lt < 1 → v0 = .slice none 0 0
  n1 : lt < 2 → v1 = .slice none 0 0
  n2 : lt < 3 → v2 = .slice none 0 0
  n3 : lt < 4 → v3 = .slice none 0 0
  n4 : lt < 5 → v4 = .slice none 0 0
  n5 : lt < 6 → v5 = .slice none 0 0
  n6 : lt < 7 → v6 = .slice none 0 0
  n7 : lt < 8 → v7 = .slice none 0 0
  n8 : lt < 9 → v8 = .slice none 0 0
  n9 : lt < 11 → v9 = .slice none 0 0
  nl : lt < 10 → cd = false
  bl : Below W0.heap.size W0 w
  pN : p < N ∧ mb < N ∧ p ≠ mb ∧ W0.heap.size ≤ p ∧ W0.heap.size ≤ mb ∧ N ≤ w.heap.size
/-- What a section tells. -/
def QSec (W0 : World) (N p mb : Nat) (s : ByteArray) (lt id : Nat) (cd : Bool) (R : Rg Md) (e' : Ending) (w' : World) : Prop :=
  e' = .returned (.tuple #[]) ∧ Below W0.heap.size W0 w' ∧ RrAt w' p s R.2 ∧ N ≤ w'.heap.size ∧ (R.2.w = 0 → ∃ v0 v1 v2 v3 v4 v5 v6 v7 v8 v9, QS W0 w' N p mb s R.2 (max lt id) R.1 (cd || id == 10) v0 v1 v2 v3 v4 v5 v6 v7 v8 v9)
theorem own_one {w : World} {g : Nat} {z : Int} (h : w.heap[g]? = some (.cells #[.int .i64 z] 3 (0, 0))) : w.ownsRow 0 3 1 (.slice (some ⟨g, 0, none⟩) 1 1) 1 [.int .i64 z] :=
  ⟨rfl, .inr ⟨g, 1, #[.int .i64 z], rfl, Nat.zero_le _, h, Nat.le_refl _, by unfold maxLen; decide, rfl, rfl⟩⟩
set_option maxRecDepth 100000 in
set_option maxHeartbeats 4000000 in
theorem qsection_any {W0 w : World} {N p mb : Nat} {s : ByteArray} {r : RS} {lt id : Nat} {m : Md} {cd : Bool} {v0 v1 v2 v3 v4 v5 v6 v7 v8 v9 : Value} (h : QS W0 w N p mb s r lt m cd v0 v1 v2 v3 v4 v5 v6 v7 v8 v9) (hid : id = 0 ∨ (lt < id ∧ id < 12)) (hs : s.size ≤ 262144) (hok : r.Ok) (he : r.e ≤ s.size) :
    Calls Tryz.prog 30 #[.pointer (some ⟨p, 0, none⟩), .int .i64 (id : Int), .pointer (some ⟨mb, 0, none⟩)] w (QSec W0 N p mb s lt id cd (rSection (strl s) id m r)) := by
  obtain ⟨hR, hB, hM, n0, n1, n2, n3, n4, n5, n6, n7, n8, n9, hl, hbl, hpN, hmN, hpm, hWp, hWm, hNw⟩ := h
  have hfl := hM.funcs.lt
  have hcases : id = 0 ∨ id = 1 ∨ id = 2 ∨ id = 3 ∨ id = 4 ∨ id = 5 ∨ id = 6 ∨ id = 7 ∨ id = 8 ∨ id = 9 ∨ id = 10 ∨ id = 11 := by omega
  rcases hcases with rfl | rfl | rfl | rfl | rfl | rfl | rfl | rfl | rfl | rfl | rfl | rfl
  · refine (qsect_custom m hR hs hok he).mono ?_
    rintro e' w' ⟨rfl, hW, hR'⟩
    refine ⟨rfl, Wr.below_of hbl hW (fun b e => by omega) hbl.size, hR', Nat.le_trans hNw hW.size, fun h0 => ⟨v0, v1, v2, v3, v4, v5, v6, v7, v8, v9, ?_⟩⟩
    rw [show max lt 0 = lt by omega, show (cd || (0 : Nat) == 10) = cd by simp]
    exact ⟨hR', hB.wr hW (fun e => hpm e.symm), hM.wrS hW (fun b hb _ e => by omega), n0, n1, n2, n3, n4, n5, n6, n7, n8, n9, hl, Wr.below_of hbl hW (fun b e => by omega) hbl.size, hpN, hmN, hpm, hWp, hWm, Nat.le_trans hNw hW.size⟩
  · have hv := n0 (by omega)
    subst hv
    refine (qsect_def entry_1 (fun s => go_type s) rfl rfl rfl hR hB rfl rfl hpm hs hok he).mono ?_
    rintro e' w' ⟨rfl, v', ts, hT, hE⟩
    have hW := hE.wr
    have hWB := Wr.below_of hbl hW (fun b e => e.elim (fun e => by omega) (fun e => by omega)) hbl.size
    have hmB := hB.lt
    have hM' := hM.wrS hW (fun b hb _ e => e.elim (fun e => by omega) (fun e => by omega))
    have hem := hM.types.empty
    have hf : FdOk typK 78 (Rx N mb v2) w' v' (ts.map (typK).of) := FdOk.of hE.own hE.oks (fun b hb => ⟨by omega, fun e => by have := hfl b e; omega, by omega⟩)
    refine ⟨rfl, hWB, hE.rd, Nat.le_trans hNw hW.size, fun h0 => ⟨v', v1, v2, v3, v4, v5, v6, v7, v8, v9, ?_⟩⟩
    rw [show max lt 1 = 1 by omega, show (cd || (1 : Nat) == 10) = cd by simp]
    refine ⟨hE.rd, hE.md, ⟨?_, hM'.imports, hM'.tables, hM'.mems, hM'.globals, hM'.exports, hM'.start, hM'.elems, hM'.datas, hM'.funcs⟩, (fun h => absurd h (by omega)), (fun h => n1 (by omega)), (fun h => n2 (by omega)), (fun h => n3 (by omega)), (fun h => n4 (by omega)), (fun h => n5 (by omega)), (fun h => n6 (by omega)), (fun h => n7 (by omega)), (fun h => n8 (by omega)), (fun h => n9 (by omega)), fun h => hl (by omega), hWB, hpN, hmN, hpm, hWp, hWm, Nat.le_trans hNw hW.size⟩
    show FdOk _ _ _ _ _ (m.types ++ (rEach (strl s) (rTypeE (strl s)) r).1)
    rw [hem, List.nil_append, ← hT]
    exact hf
  · have hv := n1 (by omega)
    subst hv
    refine (qsect_def entry_2 (fun s => go_import s) rfl rfl rfl hR hB rfl rfl hpm hs hok he).mono ?_
    rintro e' w' ⟨rfl, v', ts, hT, hE⟩
    have hW := hE.wr
    have hWB := Wr.below_of hbl hW (fun b e => e.elim (fun e => by omega) (fun e => by omega)) hbl.size
    have hmB := hB.lt
    have hM' := hM.wrS hW (fun b hb _ e => e.elim (fun e => by omega) (fun e => by omega))
    have hem := hM.imports.empty
    have hf : FdOk impK 80 (Rx N mb v2) w' v' (ts.map (impK).of) := FdOk.of hE.own hE.oks (fun b hb => ⟨by omega, fun e => by have := hfl b e; omega, by omega⟩)
    refine ⟨rfl, hWB, hE.rd, Nat.le_trans hNw hW.size, fun h0 => ⟨v0, v', v2, v3, v4, v5, v6, v7, v8, v9, ?_⟩⟩
    rw [show max lt 2 = 2 by omega, show (cd || (2 : Nat) == 10) = cd by simp]
    refine ⟨hE.rd, hE.md, ⟨hM'.types, ?_, hM'.tables, hM'.mems, hM'.globals, hM'.exports, hM'.start, hM'.elems, hM'.datas, hM'.funcs⟩, (fun h => absurd h (by omega)), (fun h => absurd h (by omega)), (fun h => n2 (by omega)), (fun h => n3 (by omega)), (fun h => n4 (by omega)), (fun h => n5 (by omega)), (fun h => n6 (by omega)), (fun h => n7 (by omega)), (fun h => n8 (by omega)), (fun h => n9 (by omega)), fun h => hl (by omega), hWB, hpN, hmN, hpm, hWp, hWm, Nat.le_trans hNw hW.size⟩
    show FdOk _ _ _ _ _ (m.imports ++ (rEach (strl s) (rImportE (strl s)) r).1)
    rw [hem, List.nil_append, ← hT]
    exact hf
  · have hv := n2 (by omega)
    subst hv
    refine (qsect_def entry_3 (fun s => go_u s) rfl rfl rfl hR hB rfl rfl hpm hs hok he).mono ?_
    rintro e' w' ⟨rfl, v', ts, hT, hE⟩
    have hW := hE.wr
    have hWB := Wr.below_of hbl hW (fun b e => e.elim (fun e => by omega) (fun e => by omega)) hbl.size
    have hmB := hB.lt
    have hkb : ∀ b, Rx N mb (.slice none 0 0) b → b < w.heap.size → Rx N mb v' b := fun b hb hlt => ⟨hb.1, fun e => by have := (hE.own.lt b e).1; omega, hb.2.2⟩
    have hS : ∀ b, Rx N mb (.slice none 0 0) b → ¬ Spm p mb b := fun b hb e => e.elim (fun e => by have := hb.2.2; omega) hb.1
    have hem : m.funcs = [] := by
      rcases hM.funcs with ⟨tys, h1, _, h2⟩ | ⟨_, g, cap, cur, rs, h1, _⟩
      · rw [h1, h2.empty]; rfl
      · cases h1
    have hle : ts.length ≤ 4096 := by
      have h1 : (ts.map (fnK).of).length ≤ 4096 := by rw [hT]; exact rEach_len _ _ _
      rwa [List.length_map] at h1
    refine ⟨rfl, hWB, hE.rd, Nat.le_trans hNw hW.size, fun h0 => ⟨v0, v1, v', v3, v4, v5, v6, v7, v8, v9, ?_⟩⟩
    rw [show max lt 3 = 3 by omega, show (cd || (3 : Nat) == 10) = cd by simp]
    refine ⟨hE.rd, hE.md, ⟨hM.types.keep hW hS hkb, hM.imports.keep hW hS hkb, hM.tables.keep hW hS hkb, hM.mems.keep hW hS hkb, hM.globals.keep hW hS hkb, hM.exports.keep hW hS hkb, hM.start.keep hW hS hkb, hM.elems.keep hW hS hkb, hM.datas.keep hW hS hkb, ?_⟩, (fun h => absurd h (by omega)), (fun h => absurd h (by omega)), (fun h => absurd h (by omega)), (fun h => n3 (by omega)), (fun h => n4 (by omega)), (fun h => n5 (by omega)), (fun h => n6 (by omega)), (fun h => n7 (by omega)), (fun h => n8 (by omega)), (fun h => n9 (by omega)), fun h => hl (by omega), hWB, hpN, hmN, hpm, hWp, hWm, Nat.le_trans hNw hW.size⟩
    refine .inl ⟨ts.map (fnK).of, ?_, by rw [List.length_map]; exact hle, FdOk.of hE.own hE.oks (fun b hb => ⟨by omega, by omega⟩)⟩
    show m.funcs ++ (rEach (strl s) (rU (strl s)) r).1.map (fun t => (t, [], .nil)) = _
    rw [hem, List.nil_append, hT]
  · have hv := n3 (by omega)
    subst hv
    refine (qsect_def entry_4 (fun s => go_table s) rfl rfl rfl hR hB rfl rfl hpm hs hok he).mono ?_
    rintro e' w' ⟨rfl, v', ts, hT, hE⟩
    have hW := hE.wr
    have hWB := Wr.below_of hbl hW (fun b e => e.elim (fun e => by omega) (fun e => by omega)) hbl.size
    have hmB := hB.lt
    have hM' := hM.wrS hW (fun b hb _ e => e.elim (fun e => by omega) (fun e => by omega))
    have hem := hM.tables.empty
    have hf : FdOk limK 86 (Rx N mb v2) w' v' (ts.map (limK).of) := FdOk.of hE.own hE.oks (fun b hb => ⟨by omega, fun e => by have := hfl b e; omega, by omega⟩)
    refine ⟨rfl, hWB, hE.rd, Nat.le_trans hNw hW.size, fun h0 => ⟨v0, v1, v2, v', v4, v5, v6, v7, v8, v9, ?_⟩⟩
    rw [show max lt 4 = 4 by omega, show (cd || (4 : Nat) == 10) = cd by simp]
    refine ⟨hE.rd, hE.md, ⟨hM'.types, hM'.imports, ?_, hM'.mems, hM'.globals, hM'.exports, hM'.start, hM'.elems, hM'.datas, hM'.funcs⟩, (fun h => absurd h (by omega)), (fun h => absurd h (by omega)), (fun h => absurd h (by omega)), (fun h => absurd h (by omega)), (fun h => n4 (by omega)), (fun h => n5 (by omega)), (fun h => n6 (by omega)), (fun h => n7 (by omega)), (fun h => n8 (by omega)), (fun h => n9 (by omega)), fun h => hl (by omega), hWB, hpN, hmN, hpm, hWp, hWm, Nat.le_trans hNw hW.size⟩
    show FdOk _ _ _ _ _ (m.tables ++ (rEach (strl s) (rTableE (strl s)) r).1)
    rw [hem, List.nil_append, ← hT]
    exact hf
  · have hv := n4 (by omega)
    subst hv
    refine (qsect_def entry_5 (fun s => go_limits s) rfl rfl rfl hR hB rfl rfl hpm hs hok he).mono ?_
    rintro e' w' ⟨rfl, v', ts, hT, hE⟩
    have hW := hE.wr
    have hWB := Wr.below_of hbl hW (fun b e => e.elim (fun e => by omega) (fun e => by omega)) hbl.size
    have hmB := hB.lt
    have hM' := hM.wrS hW (fun b hb _ e => e.elim (fun e => by omega) (fun e => by omega))
    have hem := hM.mems.empty
    have hf : FdOk limK 86 (Rx N mb v2) w' v' (ts.map (limK).of) := FdOk.of hE.own hE.oks (fun b hb => ⟨by omega, fun e => by have := hfl b e; omega, by omega⟩)
    refine ⟨rfl, hWB, hE.rd, Nat.le_trans hNw hW.size, fun h0 => ⟨v0, v1, v2, v3, v', v5, v6, v7, v8, v9, ?_⟩⟩
    rw [show max lt 5 = 5 by omega, show (cd || (5 : Nat) == 10) = cd by simp]
    refine ⟨hE.rd, hE.md, ⟨hM'.types, hM'.imports, hM'.tables, ?_, hM'.globals, hM'.exports, hM'.start, hM'.elems, hM'.datas, hM'.funcs⟩, (fun h => absurd h (by omega)), (fun h => absurd h (by omega)), (fun h => absurd h (by omega)), (fun h => absurd h (by omega)), (fun h => absurd h (by omega)), (fun h => n5 (by omega)), (fun h => n6 (by omega)), (fun h => n7 (by omega)), (fun h => n8 (by omega)), (fun h => n9 (by omega)), fun h => hl (by omega), hWB, hpN, hmN, hpm, hWp, hWm, Nat.le_trans hNw hW.size⟩
    show FdOk _ _ _ _ _ (m.mems ++ (rEach (strl s) (rLimits (strl s)) r).1)
    rw [hem, List.nil_append, ← hT]
    exact hf
  · have hv := n5 (by omega)
    subst hv
    refine (qsect_def entry_6 (fun s => go_global s) rfl rfl rfl hR hB rfl rfl hpm hs hok he).mono ?_
    rintro e' w' ⟨rfl, v', ts, hT, hE⟩
    have hW := hE.wr
    have hWB := Wr.below_of hbl hW (fun b e => e.elim (fun e => by omega) (fun e => by omega)) hbl.size
    have hmB := hB.lt
    have hM' := hM.wrS hW (fun b hb _ e => e.elim (fun e => by omega) (fun e => by omega))
    have hem := hM.globals.empty
    have hf : FdOk gloK 90 (Rx N mb v2) w' v' (ts.map (gloK).of) := FdOk.of hE.own hE.oks (fun b hb => ⟨by omega, fun e => by have := hfl b e; omega, by omega⟩)
    refine ⟨rfl, hWB, hE.rd, Nat.le_trans hNw hW.size, fun h0 => ⟨v0, v1, v2, v3, v4, v', v6, v7, v8, v9, ?_⟩⟩
    rw [show max lt 6 = 6 by omega, show (cd || (6 : Nat) == 10) = cd by simp]
    refine ⟨hE.rd, hE.md, ⟨hM'.types, hM'.imports, hM'.tables, hM'.mems, ?_, hM'.exports, hM'.start, hM'.elems, hM'.datas, hM'.funcs⟩, (fun h => absurd h (by omega)), (fun h => absurd h (by omega)), (fun h => absurd h (by omega)), (fun h => absurd h (by omega)), (fun h => absurd h (by omega)), (fun h => absurd h (by omega)), (fun h => n6 (by omega)), (fun h => n7 (by omega)), (fun h => n8 (by omega)), (fun h => n9 (by omega)), fun h => hl (by omega), hWB, hpN, hmN, hpm, hWp, hWm, Nat.le_trans hNw hW.size⟩
    show FdOk _ _ _ _ _ (m.globals ++ (rEach (strl s) (rGlobal (strl s)) r).1)
    rw [hem, List.nil_append, ← hT]
    exact hf
  · have hv := n6 (by omega)
    subst hv
    refine (qsect_def entry_7 (fun s => go_export s) rfl rfl rfl hR hB rfl rfl hpm hs hok he).mono ?_
    rintro e' w' ⟨rfl, v', ts, hT, hE⟩
    have hW := hE.wr
    have hWB := Wr.below_of hbl hW (fun b e => e.elim (fun e => by omega) (fun e => by omega)) hbl.size
    have hmB := hB.lt
    have hM' := hM.wrS hW (fun b hb _ e => e.elim (fun e => by omega) (fun e => by omega))
    have hem := hM.exports.empty
    have hf : FdOk expK 93 (Rx N mb v2) w' v' (ts.map (expK).of) := FdOk.of hE.own hE.oks (fun b hb => ⟨by omega, fun e => by have := hfl b e; omega, by omega⟩)
    refine ⟨rfl, hWB, hE.rd, Nat.le_trans hNw hW.size, fun h0 => ⟨v0, v1, v2, v3, v4, v5, v', v7, v8, v9, ?_⟩⟩
    rw [show max lt 7 = 7 by omega, show (cd || (7 : Nat) == 10) = cd by simp]
    refine ⟨hE.rd, hE.md, ⟨hM'.types, hM'.imports, hM'.tables, hM'.mems, hM'.globals, ?_, hM'.start, hM'.elems, hM'.datas, hM'.funcs⟩, (fun h => absurd h (by omega)), (fun h => absurd h (by omega)), (fun h => absurd h (by omega)), (fun h => absurd h (by omega)), (fun h => absurd h (by omega)), (fun h => absurd h (by omega)), (fun h => absurd h (by omega)), (fun h => n7 (by omega)), (fun h => n8 (by omega)), (fun h => n9 (by omega)), fun h => hl (by omega), hWB, hpN, hmN, hpm, hWp, hWm, Nat.le_trans hNw hW.size⟩
    show FdOk _ _ _ _ _ (m.exports ++ (rEach (strl s) (rExportE (strl s)) r).1)
    rw [hem, List.nil_append, ← hT]
    exact hf
  · have hv := n7 (by omega)
    subst hv
    refine (qsect_start hR hB rfl hpm hs hok he).mono ?_
    rintro e' w' ⟨rfl, hW, hR', g, hg, hB', hF⟩
    have hWB := Wr.below_of hbl hW (fun b e => e.elim (fun e => by omega) (fun e => by omega)) hbl.size
    have hM' := hM.wrS hW (fun b hb _ e => e.elim (fun e => by omega) (fun e => by omega))
    have hst := hM.start.empty
    refine ⟨rfl, hWB, hR', Nat.le_trans hNw hW.size, fun h0 => ⟨v0, v1, v2, v3, v4, v5, v6, .slice (some ⟨g, 0, none⟩) 1 1, v8, v9, ?_⟩⟩
    rw [show max lt 8 = 8 by omega, show (cd || (8 : Nat) == 10) = cd by simp]
    refine ⟨hR', hB', ⟨hM'.types, hM'.imports, hM'.tables, hM'.mems, hM'.globals, hM'.exports, ?_, hM'.elems, hM'.datas, hM'.funcs⟩, (fun h => absurd h (by omega)), (fun h => absurd h (by omega)), (fun h => absurd h (by omega)), (fun h => absurd h (by omega)), (fun h => absurd h (by omega)), (fun h => absurd h (by omega)), (fun h => absurd h (by omega)), (fun h => absurd h (by omega)), (fun h => n8 (by omega)), (fun h => n9 (by omega)), fun h => hl (by omega), hWB, hpN, hmN, hpm, hWp, hWm, Nat.le_trans hNw hW.size⟩
    refine ⟨[(rU (strl s) r).1], ?_, own_one hF, fun k hk => ?_, fun t ht => trivial⟩
    · show [_] = m.start ++ [_]
      rw [hst]
      rfl
    · obtain rfl : g = k := Option.some.inj hk
      exact ⟨by have := hB.lt; omega, fun e => by have := hfl g e; omega, by omega⟩
  · have hv := n8 (by omega)
    subst hv
    refine (qsect_def entry_9 (fun s => go_elem s) rfl rfl rfl hR hB rfl rfl hpm hs hok he).mono ?_
    rintro e' w' ⟨rfl, v', ts, hT, hE⟩
    have hW := hE.wr
    have hWB := Wr.below_of hbl hW (fun b e => e.elim (fun e => by omega) (fun e => by omega)) hbl.size
    have hmB := hB.lt
    have hM' := hM.wrS hW (fun b hb _ e => e.elim (fun e => by omega) (fun e => by omega))
    have hem := hM.elems.empty
    have hf : FdOk elmK 95 (Rx N mb v2) w' v' (ts.map (elmK).of) := FdOk.of hE.own hE.oks (fun b hb => ⟨by omega, fun e => by have := hfl b e; omega, by omega⟩)
    refine ⟨rfl, hWB, hE.rd, Nat.le_trans hNw hW.size, fun h0 => ⟨v0, v1, v2, v3, v4, v5, v6, v7, v', v9, ?_⟩⟩
    rw [show max lt 9 = 9 by omega, show (cd || (9 : Nat) == 10) = cd by simp]
    refine ⟨hE.rd, hE.md, ⟨hM'.types, hM'.imports, hM'.tables, hM'.mems, hM'.globals, hM'.exports, hM'.start, ?_, hM'.datas, hM'.funcs⟩, (fun h => absurd h (by omega)), (fun h => absurd h (by omega)), (fun h => absurd h (by omega)), (fun h => absurd h (by omega)), (fun h => absurd h (by omega)), (fun h => absurd h (by omega)), (fun h => absurd h (by omega)), (fun h => absurd h (by omega)), (fun h => absurd h (by omega)), (fun h => n9 (by omega)), fun h => hl (by omega), hWB, hpN, hmN, hpm, hWp, hWm, Nat.le_trans hNw hW.size⟩
    show FdOk _ _ _ _ _ (m.elems ++ (rEach (strl s) (rElemE (strl s)) r).1)
    rw [hem, List.nil_append, ← hT]
    exact hf
  · obtain rfl := hl (by omega)
    rcases hM.funcs with ⟨tys, hfs, hn4, ts, hts, hown, hRx, hokk⟩ | ⟨h0, _⟩
    rotate_left
    · cases h0
    have htl : m.funcs.length = tys.length := by rw [hfs, List.length_map]
    have hmap : m.funcs.map (·.1) = tys := by rw [hfs, List.map_map]; exact List.map_id' tys
    have hid2 : tys = ts := by rw [← hts]; exact List.map_id' ts
    subst hid2
    have hG : rSection (strl s) 10 m r = ({ m with funcs := (rCodes (strl s) tys (if (rCount (strl s) r).1 = (tys.length : Int) then (rCount (strl s) r).2 else (rCount (strl s) r).2.bad 50)).1 }, (rCodes (strl s) tys (if (rCount (strl s) r).1 = (tys.length : Int) then (rCount (strl s) r).2 else (rCount (strl s) r).2.bad 50)).2) := by
      unfold rSection
      rw [if_pos rfl]
      unfold rCodeSec
      rw [htl, hmap]
    rw [hG]
    rcases hown.2 with ⟨hv2, hlen⟩ | ⟨g, cap, cur, hv2, _, hgb, hnc, hcm, _, htk⟩
    · have hts0 : tys = [] := List.length_eq_zero_iff.1 hlen
      subst hv2
      subst hts0
      refine (qsect_codes0 hR hB rfl rfl hpm hs hok he).mono ?_
      rintro e' w' ⟨rfl, hW, hR'⟩
      have hWB := Wr.below_of hbl hW (fun b e => by omega) hbl.size
      have hM' := hM.wrS hW (fun b hb _ e => by omega)
      refine ⟨rfl, hWB, hR', Nat.le_trans hNw hW.size, fun h0 => ⟨v0, v1, .slice none 0 0, v3, v4, v5, v6, v7, v8, v9, ?_⟩⟩
      rw [show max lt 10 = 10 by omega]
      refine ⟨hR', hB.wr hW (fun e => hpm e.symm), ⟨hM'.types, hM'.imports, hM'.tables, hM'.mems, hM'.globals, hM'.exports, hM'.start, hM'.elems, hM'.datas, .inl ⟨[], rfl, by decide, .nil⟩⟩, (fun h => absurd h (by omega)), (fun h => absurd h (by omega)), (fun h => absurd h (by omega)), (fun h => absurd h (by omega)), (fun h => absurd h (by omega)), (fun h => absurd h (by omega)), (fun h => absurd h (by omega)), (fun h => absurd h (by omega)), (fun h => absurd h (by omega)), (fun h => n9 (by omega)), fun h => absurd h (by omega), hWB, hpN, hmN, hpm, hWp, hWm, Nat.le_trans hNw hW.size⟩
    · subst hv2
      have hgx : g ≠ mb ∧ N ≤ g := hRx g rfl
      have hrow : FnRow cur.toList (tys.map fn0) := by
        intro i r hr
        rw [List.getElem?_map] at hr
        obtain ⟨x, hx, rfl⟩ := Option.map_eq_some_iff.1 hr
        have hcell := fun (q : Nat) (u : Value) (hq : ((fnK).enc x)[q]? = some u) => flat_at2 (enc := (fnK).enc) (fnK).len tys i q x u hx hq
        have hget : ∀ (j : Nat) (u : Value), (tys.flatMap (fnK).enc)[j]? = some u → cur.toList[j]? = some u := fun j u hj => by
          have h1 : (cur.toList.take (tys.length * (fnK).sz))[j]? = some u := (congrArg (fun l : List Value => l[j]?) htk).trans hj
          have hjl : j < tys.length * (fnK).sz := by
            have := (List.getElem?_eq_some_iff.1 h1).1
            rw [List.length_take] at this
            omega
          rw [List.getElem?_take_of_lt hjl] at h1
          exact h1
        exact ⟨hget _ _ (hcell 0 _ rfl), hget _ _ (hcell 1 _ rfl), hget _ _ (hcell 2 _ rfl)⟩
      have hbk : Bk w g cur.toList 83 := ⟨by simpa using hgb⟩
      refine (qsect_codes hR hB rfl rfl hbk hrow (by omega) hgx.1 hpm hn4 hs hok he).mono ?_
      rintro e' w' ⟨rfl, cu, rs, tl, hW, hR', hB', hb', hrw, hok', hC, hw0, hrl⟩
      have hWB := Wr.below_of hbl hW (fun b e => e.elim (fun e => by omega) (fun e => by omega)) hbl.size
      refine ⟨rfl, hWB, hR', Nat.le_trans hNw hW.size, fun h0 => ⟨v0, v1, .slice (some ⟨g, 0, none⟩) tys.length cap, v3, v4, v5, v6, v7, v8, v9, ?_⟩⟩
      rw [show max lt 10 = 10 by omega]
      obtain rfl := hw0 h0
      rw [List.map_nil, List.append_nil] at hrw
      rw [List.length_nil, Nat.add_zero] at hrl
      have hS : ∀ b, Rx N mb (.slice (some ⟨g, 0, none⟩) tys.length cap) b → ¬ Spg p g b := fun b hb e => e.elim (fun e => by have := hb.2.2; omega) (fun e => hb.2.1 (by rw [e]; rfl))
      have hfz : (rCodes (strl s) tys (if (rCount (strl s) r).1 = (tys.length : Int) then (rCount (strl s) r).2 else (rCount (strl s) r).2.bad 50)).1 = rs.map FnR.p := hC.symm
      dsimp only
      rw [hfz]
      refine ⟨hR', hB', ⟨hM.types.keep hW hS (fun b hb _ => hb), hM.imports.keep hW hS (fun b hb _ => hb), hM.tables.keep hW hS (fun b hb _ => hb), hM.mems.keep hW hS (fun b hb _ => hb), hM.globals.keep hW hS (fun b hb _ => hb), hM.exports.keep hW hS (fun b hb _ => hb), hM.start.keep hW hS (fun b hb _ => hb), hM.elems.keep hW hS (fun b hb _ => hb), hM.datas.keep hW hS (fun b hb _ => hb), .inr ⟨rfl, g, cap, cu, rs, by rw [hrl], rfl, hb', hrw, hgx.1, hgx.2, by omega, fun r hr => (hok' r hr).keep ⟨fun _ _ _ h => h, fun b hb _ => by have hbb : w.heap.size ≤ b := hb; have := hbk.lt; have := hB.lt; exact ⟨by omega, by omega, by omega⟩⟩⟩⟩, (fun h => absurd h (by omega)), (fun h => absurd h (by omega)), (fun h => absurd h (by omega)), (fun h => absurd h (by omega)), (fun h => absurd h (by omega)), (fun h => absurd h (by omega)), (fun h => absurd h (by omega)), (fun h => absurd h (by omega)), (fun h => absurd h (by omega)), (fun h => n9 (by omega)), fun h => absurd h (by omega), hWB, hpN, hmN, hpm, hWp, hWm, Nat.le_trans hNw hW.size⟩
  · have hv := n9 (by omega)
    subst hv
    refine (qsect_def entry_11 (fun s => go_data s) rfl rfl rfl hR hB rfl rfl hpm hs hok he).mono ?_
    rintro e' w' ⟨rfl, v', ts, hT, hE⟩
    have hW := hE.wr
    have hWB := Wr.below_of hbl hW (fun b e => e.elim (fun e => by omega) (fun e => by omega)) hbl.size
    have hmB := hB.lt
    have hM' := hM.wrS hW (fun b hb _ e => e.elim (fun e => by omega) (fun e => by omega))
    have hem := hM.datas.empty
    have hf : FdOk datK 97 (Rx N mb v2) w' v' (ts.map (datK).of) := FdOk.of hE.own hE.oks (fun b hb => ⟨by omega, fun e => by have := hfl b e; omega, by omega⟩)
    refine ⟨rfl, hWB, hE.rd, Nat.le_trans hNw hW.size, fun h0 => ⟨v0, v1, v2, v3, v4, v5, v6, v7, v8, v', ?_⟩⟩
    rw [show max lt 11 = 11 by omega, show (cd || (11 : Nat) == 10) = cd by simp]
    refine ⟨hE.rd, hE.md, ⟨hM'.types, hM'.imports, hM'.tables, hM'.mems, hM'.globals, hM'.exports, hM'.start, hM'.elems, ?_, hM'.funcs⟩, (fun h => absurd h (by omega)), (fun h => absurd h (by omega)), (fun h => absurd h (by omega)), (fun h => absurd h (by omega)), (fun h => absurd h (by omega)), (fun h => absurd h (by omega)), (fun h => absurd h (by omega)), (fun h => absurd h (by omega)), (fun h => absurd h (by omega)), (fun h => absurd h (by omega)), fun h => hl (by omega), hWB, hpN, hmN, hpm, hWp, hWm, Nat.le_trans hNw hW.size⟩
    show FdOk _ _ _ _ _ (m.datas ++ (rEach (strl s) (rDataE (strl s)) r).1)
    rw [hem, List.nil_append, ← hT]
    exact hf
end Go.Proofs.YtkbfjkbokifgkaaGreatDoor
