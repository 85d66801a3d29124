/- Codes: one function's. -/
import Derived.Test.YtkbfjkbokifgkaaDoorSk
namespace Go.Proofs.YtkbfjkbokifgkaaDoor
open Go.RowKit
set_option linter.unusedVariables false
set_option linter.unusedSimpArgs false

/-- What a function's code is, within its length. -/
def gFn (s : List UInt8) (left e a : Nat) : Got ((List Int × Il) × Nat) := (gCount s e a).bind fun n => (gRuns s e n.1.toNat [] n.2).bind fun l => (gList s e (e + 1) 0 false left l.2).bind fun b => .ok (((l.1, b.1.1), b.1.2.2), b.2)
theorem gCode_fn (s : List UInt8) (left e a : Nat) : gCode s left e a = gLong s e a (gFn s left) := rfl
theorem gFn_acc {s : List UInt8} {left e a : Nat} : gFn s left e a = (gAcc s e a (gRun s e) []).bind fun l => (gList s e (e + 1) 0 false left l.2).bind fun b => .ok (((l.1, b.1.1), b.1.2.2), b.2) := by
  unfold gFn gAcc
  rw [except_assoc]
  refine bind_congr fun n _ => ?_
  rw [gFold_runs]
/-- What a function's code leaves. -/
structure CJ (w : World) (p br g : Nat) (s : ByteArray) (left : Nat) (cs cur : List Value) (o : Nat) (v : (List Int × Il) × Nat) (b e1 : Nat) (w' : World) (la : Option Addr) (lc : Nat) (ba : Option Addr) (bc : Nat) : Prop where
  rd : RdAt w' p s ((b : Nat) : Int) ((e1 : Nat) : Int) ((v.2 : Nat) : Int) cs
  bx : Bk w' br [.pointer (some ⟨p, 0, none⟩)] 53
  bk : Bk w' g ((cur.set (o + 1) (.slice la v.1.1.length lc)).set (o + 2) (.slice ba v.1.2.len bc)) 48
  wr : Wr (Spq p g) w w'
  li : IntsR (fun b => w.heap.size ≤ b) w' la v.1.1
  sl : SlR (fun b => w.heap.size ≤ b) w' ba v.1.2
  ln : v.1.2.len ≤ 9223372036854775807
  lf : v.2 ≤ left
theorem CdAt.start {w w' : World} {p br fb g : Nat} {s : ByteArray} {a e l : Int} {cs cur : List Value} {o : Nat} (ap : Ap w p br fb g) (hk : cur[o + 1]? = some (.slice none 0 0)) (hbx : Bk w br [.pointer (some ⟨p, 0, none⟩)] 53) (hfx : Bk w fb [.pointer (some ⟨g, o, none⟩)] 115) (hbk : Bk w g cur 48) (q : Wr (· = p) w w') (r : RdAt w' p s a e l cs) : CdAt w w' p br fb g s a e l cs cur o [] none 0 := by
  obtain ⟨h1, h2, h3, h4, h5⟩ := ap
  refine ⟨r, hbx.wr q (by omega), hfx.wr q (by omega), ?_, q.mono fun _ e => .inl e, World.ownsRow_nil _ _ _ _⟩
  show Bk w' g (cur.set (o + 1) (.slice none 0 0)) 48
  rw [set_same7 hk]
  exact hbk.wr q h3
set_option maxRecDepth 100000 in
set_option maxHeartbeats 16000000 in
theorem cd80_any {w : World} {p br fb g : Nat} {s : ByteArray} {a e left : Nat} {cs cur : List Value} {o : Nat} (hR : RdAt w p s (a : Int) (e : Int) (left : Int) cs) (hbx : Bk w br [.pointer (some ⟨p, 0, none⟩)] 53) (hfx : Bk w fb [.pointer (some ⟨g, o, none⟩)] 115) (hbk : Bk w g cur 48)
    (ap : Ap w p br fb g) (hk1 : cur[o + 1]? = some (.slice none 0 0)) (hk2 : cur[o + 2]? = some (.slice none 0 0)) (hs : s.size ≤ 262144) (he : e ≤ s.size) (ha : a ≤ e) (hl : left ≤ 65536) :
    Calls Tryd.prog 80 #[.pointer (some ⟨br, 0, none⟩), .pointer (some ⟨fb, 0, none⟩)] w fun e' w' =>
      (∃ v b, gFn (strl s) left e a = .ok (v, b) ∧ b ≤ e ∧ e' = .returned (.tuple #[]) ∧ ∃ la lc ba bc, CJ w p br g s left cs cur o v b e w' la lc ba bc) ∨
      (∃ n, gFn (strl s) left e a = .error n ∧ e' = .panicked (flt n) ∧ Wr (Spq p g) w w') := by
  have hkl : o + 1 < cur.length := (List.getElem?_eq_some_iff.1 hk1).1
  obtain ⟨G2, hG0⟩ : ∃ G2, gFn (strl s) left e a = G2 := ⟨_, rfl⟩
  rw [hG0]
  have hG1 := hG0.symm.trans gFn_acc
  replace hG1 := Lib.hid hG1
  clear hG0
  have c0 := hbx.cell (j := 0) rfl
  replace hR := Lib.hid hR
  replace hbx := Lib.hid hbx
  replace hfx := Lib.hid hfx
  replace hbk := Lib.hid hbk
  replace hk1 := Lib.hid hk1
  replace hk2 := Lib.hid hk2
  go_enter Tryd.func80, Tryd.ntmps80
  go_wp2_with fail
  refine (each_acc (J := fun (x : List Int) a' w' => x.length ≤ 256 ∧ ∃ ao c, CdAt w w' p br fb g s ((a' : Nat) : Int) (e : Int) (left : Int) cs cur o x ao c) (T := fun w' => Wr (Spq p g) w w') (g := gRun (strl s) e) (x0 := []) hR.out hs he ha
    (fun a' w' k r => ⟨by decide, none, 0, CdAt.start ap hk1.out hbx.out hfx.out hbk.out k r⟩) (fun w' k => k.mono fun _ e => .inl e)
    (fun x a' w' ha' ⟨hx, ao, c, hJ⟩ => (cd81_any hJ ap hkl hs he ha' hx).mono fun e' w2 hh => hh.imp (fun ⟨v, b, h1, h2, h3, h4, h5⟩ => ⟨v, b, h1, h2, h3, h4, h5⟩) id) (fun _ => rfl)).mono ?_
  rintro e' w3 (⟨ls, a3, hg, ha3, rfl, hl3, la, lc, hC⟩ | ⟨n, hg, rfl, hV⟩)
  rotate_left
  · exact ⟨rfl, .inr ⟨n, by rw [hG1.out, rd_err hg], rfl, hV⟩⟩
  have hG3 := hG1.out.trans (rd_bind hg)
  replace hG3 := Lib.hid hG3
  clear hg hG1 c0
  have hb3 := Lib.hid hC.bx
  have hf3 := Lib.hid hC.fx
  have hk3 := Lib.hid hC.bk
  have hW3 := Lib.hid hC.wr
  have hI3 := Lib.hid (ints_own' (B := w.heap.size) hC.own (Nat.le_refl _))
  have hR3 := hC.rd
  have c0 := hC.bx.cell (j := 0) rfl
  have c1 := hC.fx.cell (j := 0) rfl
  clear hC
  obtain ⟨h1, h2, h3, h4, h5⟩ := ap
  have hLs := fun W hRW => list_any s (e + 1) W p a3 e left cs 0 false hRW hs he ha3 (by omega) (by omega) hl
  replace hLs := Lib.hid hLs
  replace hR3 := Lib.hid hR3
  go_upto_region 1 with (fail)
  go_region_held2 (fun w' => w'.cell? ⟨br, 0, none⟩ = some (.pointer (some ⟨p, 0, none⟩)) ∧ w'.cell? ⟨fb, 0, none⟩ = some (.pointer (some ⟨g, o, none⟩))) (go_keep)
    ((go_at_call 20; refine (hLs.out _ hR3.out.drew).mono ?_; rintro e' w4 ⟨hV, ⟨il, b, l4, a4, ba, bc, hg, ha4, hl4, rfl, hR4, ln4, sl4⟩ | ⟨n, hg, rfl⟩⟩; rotate_left; exact ⟨rfl, .inr ⟨n, by rw [hG3.out, rd_err hg], rfl, hW3.out.trans ((Wr.refl (Spq p g) w3).drew.trans (hV.mono fun _ e => .inl e))⟩⟩; have hV3 : Wr (· = p) w3 w4 := (Wr.refl (· = p) w3).drew.trans hV; have b4 := hb3.out.wr hV3 (by omega); have f4 := hf3.out.wr hV3 (by omega); have k4 := hk3.out.wr hV3 h3; have k0 := b4.cell (j := 0) rfl; have k1 := f4.cell (j := 0) rfl; have i1 := k4.cell (j := o + 2) (by rw [List.getElem?_set_ne (by omega)]; exact hk2.out); have q1 := k4.fr (o + 2); have k0' : ∀ u, (w4.setCell ⟨g, o + 2, none⟩ u).cell? ⟨br, 0, none⟩ = some (.pointer (some ⟨p, 0, none⟩)) := fun u => so_far k0 (by show g ≠ br; omega); have k1' : ∀ u, (w4.setCell ⟨g, o + 2, none⟩ u).cell? ⟨fb, 0, none⟩ = some (.pointer (some ⟨g, o, none⟩)) := fun u => so_far k1 (by show g ≠ fb; omega); replace b4 := Lib.hid b4; replace k4 := Lib.hid k4; replace hg := Lib.hid hg; replace hR4 := Lib.hid hR4; replace sl4 := Lib.hid sl4; replace hV3 := Lib.hid hV3; clear hV))
  all_goals
    go_wp2_with fail
    go_end0
    have hsz : w.heap.size ≤ w3.drew.heap.size := hW3.out.size
    refine .inl ⟨((ls, il), l4), a4, by rw [hG3.out, rd_bind hg.out], ha4, rfl, la, lc, ba, bc, hR4.out.far (Ne.symm h3) _ _, b4.out.far (by omega) _ _, k4.out.set (o + 2) _, (hW3.out.trans (hV3.out.mono fun _ e => .inl e)).set (S := Spq p g) (.inr rfl) _ _, ?_, (sl4.out.low hsz).keep (keeps_set (by omega)), ln4, hl4⟩
    exact (hI3.out.keep (keeps_wr hV3.out (by omega))).keep (keeps_set (by omega))
end Go.Proofs.YtkbfjkbokifgkaaDoor
