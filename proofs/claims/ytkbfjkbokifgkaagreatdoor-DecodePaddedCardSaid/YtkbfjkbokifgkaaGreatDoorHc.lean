/- The reference's parts: counted, part, section, limits. -/
import Derived.Test.YtkbfjkbokifgkaaGreatDoorHb
import Derived.Test.YtkbfjkbokifgkaaGreatDoorMa
namespace Go.Proofs.YtkbfjkbokifgkaaGreatDoor
open Go.RowKit
set_option linter.unusedVariables false
set_option linter.unusedSimpArgs false
theorem PAt.mono {N M p : Nat} {w : World} {v : Value} {s : PS} (h : PAt N p w v s) (hM : M ≤ N) : PAt M p w v s := by
 refine ⟨h.blk, ⟨h.own.1, ?_⟩, h.ne, Nat.le_trans hM h.hN, Nat.le_trans hM h.hw, h.cap⟩
 rcases h.own.2 with e | ⟨g, cap, cur, e, hg, r⟩
 · exact .inl e
 · exact .inr ⟨g, cap, cur, e, Nat.le_trans hM hg, r⟩
def PNew (w : World) (B : List UInt8) (e : Ending) (w' : World) : Prop := ∃ q v s, e = .returned (.pointer (some ⟨q, 0, none⟩)) ∧ PAt w.heap.size q w' v s ∧ Below w.heap.size w w' ∧ Pen ⟨[], false⟩ B s
section
variable {N p : Nat} {w : World} {v : Value} {s : PS}
theorem POut.below {w0 wn w' : World} {B C : List UInt8} (h : POut N p wn v s C w') (hB : Pen ⟨[], false⟩ B s) (hN : N = w0.heap.size) (hpa : PAt N p wn v s) (hb : Below w0.heap.size w0 wn) : ∃ v' s', PAt N p w' v' s' ∧ Below w0.heap.size w0 w' ∧ Pen ⟨[], false⟩ (B ++ C) s' := by obtain ⟨v', s', h1, h2, h3⟩ := h; exact ⟨v', s', h1, hb.trans (h2.below (by rw [← hN]; exact hpa.hN) (fun g e => by rw [← hN]; exact hpa.ownN g e) hb.size), hB.trans h3⟩
set_option maxRecDepth 100000 in
set_option maxHeartbeats 1000000 in
theorem pcounted_any (n : Int) (w : World) : Calls Tryz.prog 93 #[.int .i64 n] w fun e w' => PNew w (uB n) e w' := by
 obtain ⟨q, hq⟩ : ∃ q, w.heap.size = q := ⟨_, rfl⟩
 obtain ⟨wA, hwA⟩ : ∃ wA, wA = w.alloc (.cells #[.slice none 0 0, .bool false] 101) := ⟨_, rfl⟩
 have hbel : Below w.heap.size w wA := (by rw [hwA]; exact (Below.refl _ _).alloc (Nat.le_refl _) _)
 have h0 : PAt w.heap.size q wA (.slice none 0 0) ⟨[], false⟩ := (by rw [hwA, ← hq]; exact PAt.new w)
 replace h0 := zh h0; replace hbel := zh hbel; go_enter Tryz.func93, Tryz.ntmps93; go_wp2_with fail; rw [← hwA]; clear hwA hq; refine (pu_any h0.out n).mono ?_; rintro e w1 ⟨rfl, ho⟩; have hr := zh (POut.below (w0 := w) ho (Pen.refl (by decide)) rfl h0.out hbel.out); clear ho; go_wp2; go_ret; obtain ⟨v', s', h1, h2, h3⟩ := hr.out; exact ⟨_, v', s', rfl, h1, h2, h3⟩
theorem Pen.part {s sq s' : PS} {B : List UInt8} (hB : Pen ⟨[], false⟩ B sq) (h : Pen ⟨s.l, s.o || sq.o⟩ (xLg sq.l) s') : Pen s (xLg B) s' := by
 refine ⟨fun e => h.stays (by simp [e]), fun e => ?_, fun e e2 => ?_⟩
 · have hs : (s.o || sq.o) = false := by
    cases ho : (s.o || sq.o) with
    | false => rfl
    | true => rw [h.stays ho] at e; cases e
   rw [Bool.or_eq_false_iff] at hs; have := (hB.fits hs.2).1; rw [List.nil_append] at this; rw [← this]; exact h.fits e
 · have hl : ([] ++ B : List UInt8).length ≤ 524288 := by
    rw [List.length_append] at e; have : B.length ≤ (xLg B).length := (by simp [xLg])
    simp only [List.nil_append]; omega
   have hq := hB.goes hl rfl; have := (hB.fits hq).1; rw [List.nil_append] at this; refine h.goes (by rw [this]; exact e) (by rw [e2, hq]; rfl)
set_option maxRecDepth 100000 in
set_option maxHeartbeats 1000000 in
theorem part_any {M q : Nat} {vq : Value} {sq : PS} {B : List UInt8} (h : PAt N p w v s) (k : PAt M q w vq sq) (hB : Pen ⟨[], false⟩ B sq) (hp : p < M) :
 Calls Tryz.prog 152 #[.pointer (some ⟨p, 0, none⟩), .pointer (some ⟨q, 0, none⟩)] w fun e w' => e = .returned (.tuple #[]) ∧ POut N p w v s (xLg B) w' := by
 have hqp : q ≠ p := (by have := k.hN; omega)
 have x1 := h.c1; have fr := h.free 1; have y0 := k.c0; have y1 := k.c1; have hvp : vq.ownBlock ≠ some p := fun e => by have := k.ownN _ e; omega
 have h1 := h.over (s.o || sq.o); obtain ⟨w1, hw1⟩ : ∃ w1, w1 = w.setCell ⟨p, 1, none⟩ (.bool (s.o || sq.o)) := ⟨_, rfl⟩
 have y2 : w1.cell? ⟨q, 0, none⟩ = some vq := (by rw [hw1]; exact (World.cell?_of_block (Below.heap_setCell _ _ _ _ hqp)).trans y0)
 have ho : w1.ownsRow M 5 1 vq sq.l.length (cb sq.l) := (by rw [hw1]; exact ownsRow_setCell_other k.own hvp _)
 have hcv := conv_own ho; have t1 : Tr p v v w w1 := (by rw [hw1]; exact (Tr.refl p v w).set 1 _)
 rw [← hw1] at h1; obtain ⟨aq, cq, hvq⟩ := own_slice k.own; subst hvq; have hcap := k.cap; replace h1 := zh h1; replace t1 := zh t1; replace hB := zh hB; clear h k ho hvp hp hqp; obtain ⟨so, hso⟩ : ∃ so, s.o = so := ⟨_, rfl⟩
 rw [hso] at x1 hw1; go_enter Tryz.func152, Tryz.ntmps152; cases so
 · simp only [Bool.false_or] at hw1; rw [hw1] at y2 hcv; go_wp2_with fail; rw [← hw1]; clear hw1 y2 hcv x1 fr y0 y1; refine (pname_any h1.out (mks sq.l) (by rw [strl_mks_len]; omega)).mono ?_; rintro e w2 ⟨rfl, v2, s2, h2, t2, q2⟩; replace h2 := zh h2; replace t2 := zh (t1.out.trans t2); replace q2 := zh (hB.out.part q2); go_wp2; go_end0; exact ⟨rfl, v2, s2, h2.out, t2.out, q2.out⟩
 · simp only [Bool.true_or] at hw1; rw [hw1] at y2 hcv; go_wp2_with fail; rw [← hw1]; clear hw1 y2 hcv x1 fr y0 y1; refine (pname_any h1.out (mks sq.l) (by rw [strl_mks_len]; omega)).mono ?_; rintro e w2 ⟨rfl, v2, s2, h2, t2, q2⟩; replace h2 := zh h2; replace t2 := zh (t1.out.trans t2); replace q2 := zh (hB.out.part q2); go_wp2; go_end0; exact ⟨rfl, v2, s2, h2.out, t2.out, q2.out⟩
def xS (id n : Int) (B : List UInt8) : List UInt8 := if n = 0 then [] else [b1 id] ++ xLg B
set_option maxRecDepth 100000 in
set_option maxHeartbeats 1000000 in
theorem section_any {M q : Nat} {vq : Value} {sq : PS} {B : List UInt8} (id n : Int) (h : PAt N p w v s) (k : PAt M q w vq sq) (hB : Pen ⟨[], false⟩ B sq) (hp : p < M) (hv : ∀ g, v.ownBlock = some g → g < M) :
 Calls Tryz.prog 86 #[.pointer (some ⟨p, 0, none⟩), .int .i64 id, .int .i64 n, .pointer (some ⟨q, 0, none⟩)] w fun e w' => e = .returned (.tuple #[]) ∧ POut N p w v s (xS id n B) w' := by
 by_cases hn : n = 0
 · subst hn; have hcap := h.cap; replace h := zh h; go_enter Tryz.func86, Tryz.ntmps86; go_wp2; refine bodyPost_ret (results_none rfl _ _ _) rfl ?_; exact ⟨rfl, v, s, h.out, Tr.refl _ _ _, Pen.refl hcap⟩
 · have hne : (n == 0) = false := (by simp [hn])
   have hx : xS id n B = [b1 id] ++ xLg B := if_neg hn; rw [hx]; have x1 := h.c1; have hcap := h.cap
   by_cases hov : s.o = true
   · rw [hov] at x1; replace h := zh h; go_enter Tryz.func86, Tryz.ntmps86; go_wp2; refine bodyPost_ret (results_none rfl _ _ _) rfl ?_; exact ⟨rfl, v, s, h.out, Tr.refl _ _ _, by simpa using (Pen.refl hcap).stop (C := [b1 id] ++ xLg B) hov⟩
   · have hov2 : s.o = false := (by simpa using hov)
     rw [hov2] at x1; have hq := k.lt; have hown := fun g e => (k.own.lt g e).2; have hNN := h.ownN; have hlt := h.lt; have kN := k.hN; have kO := k.ownN; have kn := k.ne
     have key : ∀ (v' : Value) (w' : World), Tr p v v' w w' → PAt M q w' vq sq := fun v' w' t => by
      refine ⟨(t.block q hq (by omega) (fun e => by have := hv _ e; omega)).trans k.blk, ⟨k.own.1, ?_⟩, kn, kN, Nat.le_trans k.hw t.size, k.cap⟩
      rcases k.own.2 with e | ⟨g, cap, cur, e, hg, hh, r⟩
      · exact .inl e
      · exact .inr ⟨g, cap, cur, e, hg, (t.block g (lt_of_block hh) (by omega) (fun e2 => by have := hv _ e2; omega)).trans hh, r⟩
     replace h := zh h; replace k := zh k; replace hB := zh hB; replace key := zh key; clear hown hNN kO kn hv; go_enter Tryz.func86, Tryz.ntmps86; go_wp2_with fail; refine (pbyte_any h.out id).mono ?_; rintro e w1 ⟨rfl, v1, s1, h1, t1, q1⟩; have k1 := key.out _ _ t1; clear x1; go_wp2_with fail; refine (part_any h1 k1 hB.out hp).mono ?_; rintro e w2 ⟨rfl, ho⟩; have hr := zh (POut.step t1 q1 ho); clear ho; go_wp2; go_end0; exact ⟨rfl, hr.out⟩
end
end Go.Proofs.YtkbfjkbokifgkaaGreatDoor
