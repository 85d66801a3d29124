/- The reader's lists of instructions. -/
import Derived.Test.YtkbfjkbokifgkaaGreatDoorPv
namespace Go.Proofs.YtkbfjkbokifgkaaGreatDoor
open Go.RowKit
set_option linter.unusedVariables false
set_option linter.unusedSimpArgs false
theorem parts_any {w : World} {p q : Nat} {s : ByteArray} {a e left : Nat} {cs : List Value} {op : Int} (h : RdAt w p s (a : Int) (e : Int) (left : Int) cs) (hk : InsAt w q (e0 op)) (hpq : p ≠ q) (hs : s.size ≤ 262144) (he : e ≤ s.size) (ha : a ≤ e) (d : Nat) (hd : d ≤ 64) (hl : left ≤ 65536) {k : Nat} (ih : ListOk s k) (hfu : e - a < k)
 (f0 : ¬ formV op = 0) (f10 : ¬ formV op = 10) :
 Calls Tryz.prog 178 #[.pointer (some ⟨p, 0, none⟩), .pointer (some ⟨q, 0, none⟩), .int .i64 (d : Int)] w (Pd p q s e cs (gParts (strl s) e (gList (strl s) e k) op d left a) left w) := by
 have hr : 0 ≤ formV op ∧ formV op ≤ 10 := by
  have key : ∀ (c : Prop) [Decidable c] (a b : Int), (0 ≤ a ∧ a ≤ 10) → (0 ≤ b ∧ b ≤ 10) → (0 ≤ (if c then a else b) ∧ (if c then a else b) ≤ 10) := fun c _ a b ha hb => by split <;> assumption
  unfold formV
  repeat' (first | exact ⟨by decide, by decide⟩ | refine key _ _ _ ?_ ?_)
 unfold gParts
 by_cases h1 : formV op = 1
 · rw [if_pos h1]
   by_cases h63 : op = 63
   · rw [if_pos (.inl h63)]; exact parts_1a h hk hpq hs he ha d h1 h63
   · by_cases h64 : op = 64
     · rw [if_pos (.inr h64)]; exact parts_1b h hk hpq hs he ha d h1 h63 h64
     · rw [if_neg (fun h => h.elim h63 h64)]; exact parts_1c h hk hpq hs he ha d h1 h63 h64
 · rw [if_neg h1]
   by_cases h2 : formV op = 2 ∨ formV op = 3
   · rw [if_pos h2]; exact parts_23 h hk hpq hs he ha d hd hl ih hfu h2
   · rw [if_neg h2]
     by_cases h4 : formV op = 4 ∨ formV op = 6
     · rw [if_pos h4]; exact parts_46 h hk hpq hs he ha d h4
     · rw [if_neg h4]
       by_cases h5 : formV op = 5
       · rw [if_pos h5]; exact parts_5 h hk hpq hs he ha d h5
       · rw [if_neg h5]
         by_cases h7 : formV op = 7
         · rw [if_pos h7]; exact parts_7 h hk hpq hs he ha d h7
         · rw [if_neg h7]
           by_cases h8 : formV op = 8
           · rw [if_pos h8]; exact parts_8 h hk hpq hs he ha d h8
           · rw [if_neg h8]; have h9 : formV op = 9 := (by omega)
             rw [if_pos h9]
             by_cases h65 : op = 65
             · rw [if_pos h65]; exact parts_9i h hk hpq hs he ha d h9 h65
             · rw [if_neg h65]; exact parts_9l h hk hpq hs he ha d h9 h65
def gPreL (ts : List ERec) (g : Except Int ((Il × Bool × Nat) × Nat)) : Except Int ((Il × Bool × Nat) × Nat) := g.bind fun q => .ok ((ilOf ts q.1.1, q.1.2.1, q.1.2.2), q.2)
section plain
variable {s : List UInt8} {e k d : Nat} {hv : Bool} {l a a1 : Nat} {v : Int} {ts : List ERec}
theorem gl_err {n : Int} (h : gByte s e a = .error n) : gPreL ts (gList s e (k + 1) d hv l a) = .error n := by rw [gList, h]; rfl
theorem gl_end (h : gByte s e a = .ok (v, a1)) (hv' : v = 11 ∨ (v = 5 ∧ hv = true)) : gPreL ts (gList s e (k + 1) d hv l a) = .ok ((ilOf ts .nil, v == 5, l), a1) := by
 rw [gList, h]
 show gPreL ts (if v = 11 ∨ (v = 5 ∧ hv = true) then _ else _) = _
 rw [if_pos hv']; rfl
theorem gl_f0 (h : gByte s e a = .ok (v, a1)) (hn : ¬ (v = 11 ∨ (v = 5 ∧ hv = true))) (f0 : formV v = 0) : gPreL ts (gList s e (k + 1) d hv l a) = .error 50 := by
 rw [gList, h]
 show gPreL ts (if v = 11 ∨ (v = 5 ∧ hv = true) then _ else if formV v = 0 then _ else _) = _
 rw [if_neg hn, if_pos f0]; rfl
theorem gl_f10 (h : gByte s e a = .ok (v, a1)) (hn : ¬ (v = 11 ∨ (v = 5 ∧ hv = true))) (f0 : ¬ formV v = 0) (f10 : formV v = 10) : gPreL ts (gList s e (k + 1) d hv l a) = .error 51 := by
 rw [gList, h]
 show gPreL ts (if v = 11 ∨ (v = 5 ∧ hv = true) then _ else if formV v = 0 then _ else if formV v = 10 then _ else _) = _
 rw [if_neg hn, if_neg f0, if_pos f10]; rfl
theorem gl_many (h : gByte s e a = .ok (v, a1)) (hn : ¬ (v = 11 ∨ (v = 5 ∧ hv = true))) (f0 : ¬ formV v = 0) (f10 : ¬ formV v = 10) (hl : l = 0) : gPreL ts (gList s e (k + 1) d hv l a) = .error 3 := by
 rw [gList, h]
 show gPreL ts (if v = 11 ∨ (v = 5 ∧ hv = true) then _ else if formV v = 0 then _ else if formV v = 10 then _ else if l = 0 then _ else _) = _
 rw [if_neg hn, if_neg f0, if_neg f10, if_pos hl]; rfl
theorem gl_deep (h : gByte s e a = .ok (v, a1)) (hn : ¬ (v = 11 ∨ (v = 5 ∧ hv = true))) (f0 : ¬ formV v = 0) (f10 : ¬ formV v = 10) (hl : ¬ l = 0) (hd : 64 < d) : gPreL ts (gList s e (k + 1) d hv l a) = .error 4 := by
 rw [gList, h]
 show gPreL ts (if v = 11 ∨ (v = 5 ∧ hv = true) then _ else if formV v = 0 then _ else if formV v = 10 then _ else if l = 0 then _ else if 64 < d then _ else _) = _
 rw [if_neg hn, if_neg f0, if_neg f10, if_neg hl, if_pos hd]; rfl
theorem gl_in (h : gByte s e a = .ok (v, a1)) (hn : ¬ (v = 11 ∨ (v = 5 ∧ hv = true))) (f0 : ¬ formV v = 0) (f10 : ¬ formV v = 10) (hl : ¬ l = 0) (hd : ¬ 64 < d) : gPreL ts (gList s e (k + 1) d hv l a) = gPreL ts ((gParts s e (gList s e k) v d (l - 1) a1).bind fun r => (gList s e k d hv r.1.2 r.2).bind fun t =>
 .ok ((.cons v r.1.1.x r.1.1.y r.1.1.n r.1.1.ls r.1.1.body r.1.1.els t.1.1, t.1.2.1, t.1.2.2), t.2)) := by
 rw [gList, h]
 show gPreL ts (if v = 11 ∨ (v = 5 ∧ hv = true) then _ else if formV v = 0 then _ else if formV v = 10 then _ else if l = 0 then _ else if 64 < d then _ else _) = _
 rw [if_neg hn, if_neg f0, if_neg f10, if_neg hl, if_neg hd]
theorem gl_perr {n : Int} (h : gByte s e a = .ok (v, a1)) (hn : ¬ (v = 11 ∨ (v = 5 ∧ hv = true))) (f0 : ¬ formV v = 0) (f10 : ¬ formV v = 10) (hl : ¬ l = 0) (hd : ¬ 64 < d) (hp : gParts s e (gList s e k) v d (l - 1) a1 = .error n) : gPreL ts (gList s e (k + 1) d hv l a) = .error n := by rw [gl_in h hn f0 f10 hl hd, hp]; rfl
theorem gl_step {t : ERec} {o : One} {l2 a2 : Nat} (h : gByte s e a = .ok (v, a1)) (hn : ¬ (v = 11 ∨ (v = 5 ∧ hv = true))) (f0 : ¬ formV v = 0) (f10 : ¬ formV v = 10) (hl : ¬ l = 0) (hd : ¬ 64 < d) (hp : gParts s e (gList s e k) v d (l - 1) a1 = .ok ((o, l2), a2)) (hs : Same7 t o) :
 gPreL ts (gList s e (k + 1) d hv l a) = gPreL (ts ++ [t]) (gList s e k d hv l2 a2) := by
 have ho := gParts_op hp; rw [gl_in h hn f0 f10 hl hd, hp]; obtain ⟨h1, h2, h3, h4, h5, h6, h7⟩ := hs
 show gPreL ts ((gList s e k d hv l2 a2).bind _) = _
 unfold gPreL; rw [except_assoc]; refine bind_congr fun q _ => ?_
 show Except.ok ((ilOf ts (Il.cons v o.x o.y o.n o.ls o.body o.els q.1.1), q.1.2.1, q.1.2.2), q.2) = _
 rw [ilOf_snoc, h1, h2, h3, h4, h5, h6, h7]; rw [show o.op = v from ho]
end plain
def OwnT (base : Nat) (w : World) (v : Value) (ts : List ERec) : Prop := w.ownsRow base 88 7 v ts.length (ts.flatMap eV) ∧ ∀ t ∈ ts, EOk (fun b => base ≤ b ∧ some b ≠ v.ownBlock) w t
theorem info70 : (Tryz.prog.info? 88).map (fun i => (i.zero, i.size, i.bytes)) = some (some (.agg #[.int .i64 0, .int .i64 0, .int .i64 0, .int .i64 0, .slice none 0 0, .slice none 0 0, .slice none 0 0]), 7, 104) := by kernel_rfl
theorem own_same {w w' : World} {base : Nat} {e : TypeId} {size : Nat} {v : Value} {n : Nat} {xs : List Value} (h : w.ownsRow base e size v n xs) (hk : ∀ g, v.ownBlock = some g → w'.heap[g]? = w.heap[g]?) : w'.ownsRow base e size v n xs := by
 refine ⟨h.1, ?_⟩
 rcases h.2 with hn | ⟨g, cap, cur, rfl, hb, hgg, rest⟩
 · exact .inl hn
 · exact .inr ⟨g, cap, cur, rfl, hb, (hk g rfl).trans hgg, rest⟩
theorem keeps_wrR {R : Nat → Prop} {p : Nat} {w w' : World} (h : Wr (· = p) w w') (hp : ∀ b, R b → b ≠ p) : KeepsR R R w w' := ⟨fun a v hb hc => by
 have hs := World.cell?_spot hc; obtain ⟨b, o, s⟩ := a; cases hs; have hlt := World.block_lt_of_cell? _ _ hc; rw [World.cell?_of_block (w := w) (w' := w') (h.block b hlt (hp b hb))]; exact hc, fun b hb _ => hb⟩
theorem OwnT.wr {base : Nat} {w w' : World} {v : Value} {ts : List ERec} {p : Nat} (h : OwnT base w v ts) (k : Wr (· = p) w w') (hp : p < base) : OwnT base w' v ts :=
 ⟨own_same h.1 fun g e => k.block g (h.1.lt g e).2 (by have := (h.1.lt g e).1; omega), fun t ht => (h.2 t ht).keep (keeps_wrR k fun b hb => by have := hb.1; omega)⟩
theorem OwnT.sl {base : Nat} {w : World} {ao : Option Addr} {c : Nat} {ts : List ERec} (h : OwnT base w (.slice ao ts.length c) ts) : SlR (fun b => base ≤ b) w ao (ilOf ts .nil) ∧ (ilOf ts .nil).len = ts.length ∧ ts.length ≤ 9223372036854775807 := by
 have hl := ilOf_len .nil ts; refine ⟨?_, by rw [hl]; rfl, ?_⟩
 · rcases h.1.2 with ⟨_, h2⟩ | ⟨g, cap, cur, h1, h2, h3, _⟩
   · have : ts = [] := List.eq_nil_of_length_eq_zero h2; subst this; exact .inl rfl
   · cases h1; refine .inr ⟨g, 0, rfl, h2, row_il ts 0 (fun j u hj => ?_) (fun t ht => (h.2 t ht).keep ⟨fun _ _ _ h => h, fun b h _ => h.1⟩)⟩; have := h.1.cells (g := g) rfl j u hj; have e : (⟨g, 0, none⟩ : Addr).add j = ⟨g, 0 + j, none⟩ := (by unfold Addr.add; split <;> simp_all)
     rw [e] at this; exact this
 · rcases h.1.2 with ⟨_, h2⟩ | ⟨g, cap, cur, _, _, _, h1, h2, _⟩
   · omega
   · unfold maxLen at h2; omega
theorem ownT_snoc {base : Nat} {w5 w6 : World} {v : Value} {ts : List ERec} {t : ERec} {g cap N : Nat} (k : OwnT base w5 v ts) (ht : EOk (fun b => N ≤ b) w5 t) (hN : ∀ g, v.ownBlock = some g → g < N) (hbN : base ≤ N)
 (hown : w6.ownsRow base 88 7 (.slice (some ⟨g, 0, none⟩) (ts.length + 1) cap) (ts.length + 1) (ts.flatMap eV ++ eV t)) (hgrow : w5.grownBy w6 v.ownBlock) (hat : v.ownBlock = some g ∨ g = w5.heap.size) : OwnT base w6 (.slice (some ⟨g, 0, none⟩) (ts ++ [t]).length cap) (ts ++ [t]) := by
 refine ⟨?_, fun u hu => ?_⟩
 · rw [List.length_append, List.flatMap_append]; simpa using hown
 · rcases List.mem_append.1 hu with hu | hu
   · exact (k.2 u hu).keep (KeepsR.grown2 hgrow (hat.imp id (fun e => Nat.le_of_eq e.symm)))
   · obtain rfl : u = t := by simpa using hu
     refine ht.keep ⟨fun a x hb hc => hgrow.cell hc (fun e => ?_), fun b hb hlt => ⟨Nat.le_trans hbN hb, fun e => ?_⟩⟩
     · have := hN _ e.symm; have : N ≤ a.block := hb; omega
     · have e2 : b = g := (by simpa [Value.ownBlock] using e)
       have : N ≤ b := hb
       rcases hat with h1 | h1
       · have := hN g h1; omega
       · omega
set_option maxRecDepth 100000 in
set_option maxHeartbeats 16000000 in
theorem list_any (s : ByteArray) : ∀ k, ListOk s k := by
 intro k
 induction k using Nat.strongRecOn with
 | ind k ih0 =>
 intro w p a e left cs depth halves hR hs he ha hfu hd hl; obtain ⟨R, hRR⟩ : ∃ R, gList (strl s) e k depth halves left a = R := ⟨_, rfl⟩
 rw [hRR]; have hpw := hR.lt
 have hR1 : R = gPreL [] (gList (strl s) e k depth halves left a) := by rw [hRR]; unfold gPreL; cases R <;> rfl
 clear hRR; obtain ⟨i70, hi70, hz70, hs70, hb70⟩ := info_parts info70; replace hR1 := zh hR1; replace ih0 := zh ih0; replace hR := zh hR; go_enter Tryz.func140, Tryz.ntmps140; go_wp2_with fail
 go_loopg [6] k (fun kI v6 wr => ∃ (ts : List ERec) (ai li : Nat) (ao : Option Addr) (c : Nat), v6 = .slice ao ts.length c ∧ e - ai < kI ∧ kI ≤ k ∧ ai ≤ e ∧ li ≤ left ∧ ts.length ≤ ai ∧ Hid (RdAt wr p s (ai : Int) (e : Int) (li : Int) cs) ∧ Hid (Wr (· = p) w wr) ∧ Hid (OwnT w.heap.size wr (.slice ao ts.length c) ts) ∧ Hid (R = gPreL ts (gList (strl s) e kI depth halves li ai)))
 case atStart => exact ⟨[], a, left, none, 0, rfl, hfu, Nat.le_refl _, ha, Nat.le_refl _, Nat.zero_le _, hR, zh (Wr.refl _ _), zh ⟨World.ownsRow_nil _ _ _ _, fun t ht => by cases ht⟩, hR1⟩
 case round =>
  obtain ⟨ts, ai, li, ao, c, rfl, hfi, hki, hai, hli, htl, hRi, hWi, hOi, hGi⟩ := hrel; clear hR hR1; obtain ⟨k1, rfl⟩ : ∃ k1, gk = k1 + 1 := ⟨gk - 1, by omega⟩
  go_wp2_with fail; refine (byte_any hRi.out hs he).mono ?_; rintro e' w1 ⟨hW1, ⟨v, a1, v', hg, ha1, ⟨rfl, hv0, hv1⟩, rfl, hRb⟩ | ⟨n, hg, rfl⟩⟩
  rotate_left
  · exact ⟨rfl, hWi.out.trans hW1, .inr ⟨n, by rw [hGi.out]; exact gl_err hg, rfl⟩⟩
  have hga : ai < a1 := gByte_up _ _ _ _ hg; have hO1 := hOi.out.wr hW1 hpw; have hW := hWi.out.trans hW1; have hs1 := hW1.size; replace hg := zh hg; replace hRb := zh hRb; replace hO1 := zh hO1; replace hW := zh hW; clear hW1 hWi hOi hRi
  by_cases hend : v = 11 ∨ (v = 5 ∧ halves = true)
  · have hfin : R = .ok ((ilOf ts .nil, v == 5, li), a1) := (by rw [hGi.out]; exact gl_end hg.out hend)
    replace hfin := zh hfin
    have hb : ((v == 11) = true ∧ (v == 5) = false) ∨ ((v == 11) = false ∧ (v == 5) = true ∧ halves = true) := by
     rcases hend with rfl | ⟨rfl, h⟩
     · exact .inl ⟨rfl, rfl⟩
     · exact .inr ⟨rfl, rfl, h⟩
    clear hend hGi; have hsl := hO1.out.sl; replace hsl := zh hsl
    rcases hb with ⟨hb1, hb2⟩ | ⟨hb1, hb2, rfl⟩
    all_goals
     go_wp2_with fail; refine bodyPost_ret (by simp [results, Tryz.results140, go_sem] <;> rfl) rfl ?_; obtain ⟨h1, h2, h3⟩ := hsl.out; refine ⟨hW.out, .inl ⟨ilOf ts .nil, _, li, a1, ao, c, by rw [hfin.out], ha1, hli, ?_, hRb.out, by omega, h1⟩⟩; rw [h2]; simp [hb2]
  · have hb : ((v == 11) = false ∧ (v == 5) = false) ∨ ((v == 11) = false ∧ (v == 5) = true ∧ halves = false) := by
     have n1 : ¬ v = 11 := fun e => hend (.inl e)
     by_cases h5 : v = 5
     · right; refine ⟨by rw [beq_eq_false_iff_ne]; exact n1, by rw [h5]; rfl, ?_⟩; cases halves with
       | false => rfl
       | true => exact absurd (.inr ⟨h5, rfl⟩) hend
     · left; exact ⟨by rw [beq_eq_false_iff_ne]; exact n1, by rw [beq_eq_false_iff_ne]; exact h5⟩
    replace hend := zh hend
    rcases hb with ⟨hb1, hb2⟩ | ⟨hb1, hb2, rfl⟩
    all_goals
     go_wp2_with fail; refine (form_any v _).mono ?_; rintro e' w2 ⟨rfl, hB2⟩; clear hb1 hb2; have hR2 := zh (hRb.out.below hB2); have hW2 := zh (hW.out.trans (Wr.of_below hB2)); have hO2 := zh (hO1.out.wr (Wr.of_below (S := (· = p)) hB2) hpw); have hs2 := hB2.size; clear hB2 hRb hW hO1
     by_cases f0 : formV v = 0
     · have hfin : R = .error 50 := (by rw [hGi.out]; exact gl_f0 hg.out hend.out f0)
       have hb : (formV v != 0) = false := (by rw [f0]; rfl)
       replace f0 := zh f0; replace hfin := zh hfin; go_wp2_with fail; refine (dwant_no 50 _).mono ?_; rintro e' w3 ⟨rfl, rfl⟩; exact ⟨rfl, hW2.out, .inr ⟨50, hfin.out, rfl⟩⟩
     · have hb : (formV v != 0) = true := (by simp [f0])
       replace f0 := zh f0; go_wp2_with fail; refine (dwant_yes 50 _).mono ?_; rintro e' w3 ⟨rfl, rfl⟩; clear hb
       by_cases f10 : formV v = 10
       · have hfin : R = .error 51 := (by rw [hGi.out]; exact gl_f10 hg.out hend.out f0.out f10)
         have hb : (formV v != 10) = false := (by rw [f10]; rfl)
         replace f10 := zh f10; replace hfin := zh hfin; go_wp2_with fail; refine (dwant_no 51 _).mono ?_; rintro e' w3 ⟨rfl, rfl⟩; exact ⟨rfl, hW2.out, .inr ⟨51, hfin.out, rfl⟩⟩
       · have hb : (formV v != 10) = true := (by simp [f10])
         replace f10 := zh f10; go_wp2_with fail; refine (dwant_yes 51 _).mono ?_; rintro e' w3 ⟨rfl, rfl⟩; clear hb; have c3 := hR2.out.c3; have fr3 := hR2.out.fr 3
         by_cases hl0 : li = 0
         · have hfin : R = .error 3 := (by rw [hGi.out]; exact gl_many hg.out hend.out f0.out f10.out hl0)
           replace hfin := zh hfin; have hw3 : IntKind.i64.wrap ((li : Int) - 1) = -1 := (by rw [hl0]; rfl)
           replace hl0 := zh hl0
           go_upto_region 8 with (fail)
           have hR3 := hR2.out.set3 (-1); have hW3 := hW2.out.set (S := (· = p)) rfl 3 (.int .i64 (-1)); obtain ⟨w4, hw4⟩ : ∃ w4, w4 = w2.setCell ⟨p, 3, none⟩ (.int .i64 (-1)) := ⟨_, rfl⟩
           rw [← hw4] at hR3 hW3 ⊢; clear hw4 c3 fr3 hw3; have c3 := hR3.c3; replace hR3 := zh hR3; go_wp2_with fail; refine (dwant_no 3 _).mono ?_; rintro e' w5 ⟨rfl, rfl⟩; exact ⟨rfl, hW3, .inr ⟨3, hfin.out, rfl⟩⟩
         · obtain ⟨l1, hl1⟩ : ∃ l1, li = l1 + 1 := ⟨li - 1, by omega⟩
           have hw3 : IntKind.i64.wrap ((li : Int) - 1) = (l1 : Int) := (wid64 _ (by omega) (by omega)).trans (by omega); have hl1' : l1 = li - 1 := (by omega)
           replace hl1' := zh hl1'; replace hl1 := zh hl1; replace hl0 := zh hl0
           go_upto_region 8 with (fail)
           have hR3 := hR2.out.set3 (l1 : Int); have hW3 := hW2.out.set (S := (· = p)) rfl 3 (.int .i64 (l1 : Int)); have hO3 := hO2.out.wr ((Wr.refl (· = p) w2).set rfl 3 (.int .i64 (l1 : Int))) hpw; have hs3 : w2.heap.size ≤ (w2.setCell ⟨p, 3, none⟩ (.int .i64 (l1 : Int))).heap.size := (by simp [World.setCell])
           obtain ⟨w4, hw4⟩ : ∃ w4, w4 = w2.setCell ⟨p, 3, none⟩ (.int .i64 (l1 : Int)) := ⟨_, rfl⟩
           rw [← hw4] at hR3 hW3 hO3 hs3 ⊢; clear hw4 c3 fr3 hw3 hR2 hW2 hO2; have c3 := hR3.c3; replace hR3 := zh hR3; replace hW3 := zh hW3; replace hO3 := zh hO3; go_wp2_with fail; refine (dwant_yes 3 _).mono ?_; rintro e' w5 ⟨rfl, rfl⟩; clear c3
           by_cases hd6 : 64 < depth
           · have hfin : R = .error 4 := (by rw [hGi.out]; exact gl_deep hg.out hend.out f0.out f10.out hl0.out hd6)
             replace hfin := zh hfin; have hb : decide ((depth : Int) ≤ 64) = false := decide_eq_false (by omega); go_wp2_with fail; refine (dwant_no 4 _).mono ?_; rintro e' w5 ⟨rfl, rfl⟩; exact ⟨rfl, hW3.out, .inr ⟨4, hfin.out, rfl⟩⟩
           · have hb : decide ((depth : Int) ≤ 64) = true := decide_eq_true (by omega); go_wp2_with fail; refine (dwant_yes 4 _).mono ?_; rintro e' w5 ⟨rfl, rfl⟩; clear hb; have hpr : p < w4.heap.size := hR3.out.lt
             go_upto_region 11 with (fail)
             have hq : InsAt (w4.alloc (.cells #[.int .i64 v, .int .i64 0, .int .i64 0, .int .i64 0, .slice none 0 0, .slice none 0 0, .slice none 0 0] 88)) w4.heap.size (e0 v) := ⟨al_new' _ _ rfl⟩
             have hB4 : Below w4.heap.size w4 (w4.alloc (.cells #[.int .i64 v, .int .i64 0, .int .i64 0, .int .i64 0, .slice none 0 0, .slice none 0 0, .slice none 0 0] 88)) := (Below.refl _ _).alloc (Nat.le_refl _) _; have hR4 := hR3.out.below hB4; have hs4 : (w4.alloc (.cells #[.int .i64 v, .int .i64 0, .int .i64 0, .int .i64 0, .slice none 0 0, .slice none 0 0, .slice none 0 0] 88)).heap.size = w4.heap.size + 1 := (by simp)
             obtain ⟨q, hqq⟩ : ∃ q, q = w4.heap.size := ⟨_, rfl⟩
             rw [← hqq] at hq hpr hs4 ⊢; obtain ⟨w5, hw5⟩ : ∃ w5, w5 = w4.alloc (.cells #[.int .i64 v, .int .i64 0, .int .i64 0, .int .i64 0, .slice none 0 0, .slice none 0 0, .slice none 0 0] 88) := ⟨_, rfl⟩
             rw [← hw5] at hq hB4 hR4 hs4 ⊢; have hO5 := hO3.out.wr (Wr.of_below (S := (· = p)) hB4) hpw; have hW5 := hW3.out.trans (Wr.of_below hB4); have hwq : w.heap.size ≤ q := (by rw [hqq]; exact hW3.out.size)
             have hOo : ∀ g, (Value.slice ao ts.length c).ownBlock = some g → g < q := fun g hge => by rw [hqq]; exact (hO3.out.1.lt g hge).2
             have hOe : ∀ w', Wr (· = p) w4 w' → ∀ t ∈ ts, EOk (fun b => w.heap.size ≤ b ∧ some b ≠ (Value.slice ao ts.length c).ownBlock) w' t := fun w' k t ht => (hO3.out.2 t ht).keep (keeps_wrR k fun b hb => by have := hb.1; omega); replace hOo := zh hOo; replace hOe := zh hOe; clear hw5 hR3 hO3 hW3; replace hqq := zh hqq; replace hB4 := zh hB4; replace hR4 := zh hR4; replace hq := zh hq; replace hO5 := zh hO5; replace hW5 := zh hW5; replace hs4 := zh hs4; go_wp2_with fail; refine (parts_any hR4.out hq.out (by omega) hs he ha1 depth (by omega) (by have := hl1.out; omega) (ih0.out k1 (by omega)) (by omega) f0.out f10.out).mono ?_; rintro e' w6 ⟨hW6, ⟨o, l2, a2, t, hgp, ha2, hl2, rfl, hR6, hI6, hS6, hE6⟩ | ⟨n, hgp, rfl⟩⟩
             rotate_left
             · exact ⟨rfl, hW5.out.newer hW6 (fun j hj hlt => hj.elim id (fun e => by omega)), .inr ⟨n, by rw [hGi.out]; exact gl_perr hg.out hend.out f0.out f10.out hl0.out hd6 (by rw [← hl1'.out]; exact hgp), rfl⟩⟩
             have hW65 : Wr (· = p) w4 w6 := (Wr.of_below hB4.out).newer hW6 (fun j hj hlt => hj.elim id (fun e => by have := hqq.out; omega)); have hOn := hO5.out; have hWn := hW5.out.newer hW6 (fun j hj hlt => hj.elim id (fun e => by omega)); have hO6 : OwnT w.heap.size w6 (.slice ao ts.length c) ts := ⟨own_same hOn.1 fun g hge => hW6.block g (hOn.1.lt g hge).2 (fun e => e.elim (fun e => by have := (hOn.1.lt g hge).1; omega) (fun e => by have := hOo.out g hge; omega)), fun t ht => hOe.out w6 hW65 t ht⟩
             have x0 := hI6.cell (j := 0) rfl; have x1 := hI6.cell (j := 1) rfl; have x2 := hI6.cell (j := 2) rfl; have x3 := hI6.cell (j := 3) rfl; have x4 := hI6.cell (j := 4) rfl; have x5 := hI6.cell (j := 5) rfl; have x6 := hI6.cell (j := 6) rfl; have hstep := hGi.out.trans (gl_step hg.out hend.out f0.out f10.out hl0.out hd6 (by rw [← hl1'.out]; exact hgp) hS6); have ha12 : a1 ≤ a2 := gParts_ue _ _ (fun d b l a => (gList_up _ _ _ _ _ _ _).e) _ _ _ _ _ hgp; have hBx : Below w6.heap.size w6 (w6.alloc (.cells (eV t).toArray 88)) := (Below.refl _ _).alloc (Nat.le_refl _) _; have hO7 := hO6.wr (Wr.of_below (S := (· = p)) hBx) hpw; have hE7 := hE6.keep (KeepsR.below hBx); have hR7 := hR6.below hBx; have hW7 := hWn.trans (Wr.of_below hBx); have hw6s : q < w6.heap.size := hI6.lt; replace hstep := zh hstep; replace hO7 := zh hO7; replace hE7 := zh hE7; replace hR7 := zh hR7; replace hW7 := zh hW7; clear hO6 hE6 hR6 hWn hOn hW65 hgp hS6 hI6 hBx hW6
             go_wp2_with (first | (
              at_builtin
              refine wpList_append_lies _ rfl _ _ _ rfl w.heap.size 88 i70 _ 7 104 Tryz.underlying81 hi70 hz70 hs70 hb70 rfl (by omega) (.slice ao ts.length c) ts.length (ts.flatMap eV) (by rfl) hO7.out.1 ⟨w6.heap.size, 0, none⟩ 1 1 (eV t) (by rfl) (by rfl) (World.news_of_block (cs := (eV t).toArray) (t := 88) (fr := (0, 0)) (heap_alloc_new _ _)) (by intro u hu; simp only [eV, List.mem_cons, List.mem_nil_iff, or_false] at hu; rcases hu with rfl | rfl | rfl | rfl | rfl | rfl | rfl <;> rfl) (by omega) (by unfold maxLen; omega) (by omega) (by simp; omega) (w6.heap.size + 1) (by simp) ?_; intro g cap w8 hown hgrow hat hlt))
             go_roundg k1
             case measure => omega
             case rel =>
              have hrw : ∀ j, (Value.slice ao ts.length c).ownBlock = some j → w.heap.size ≤ j := fun j hj => (hO7.out.1.lt j hj).1; refine ⟨ts ++ [t], a2, l2, some ⟨g, 0, none⟩, cap, by rw [List.length_append]; rfl, by omega, by omega, ha2, by have := hl1.out; omega, by rw [List.length_append]; show ts.length + 1 ≤ a2; omega, zh ?_, zh ?_, zh ?_, hstep⟩
              · exact ⟨(hgrow.block p hR7.out.lt (fun e => by have := hrw p e.symm; omega)).trans hR7.out.row, hR7.out.eleven⟩
              · exact hW7.out.newer (Wr.of_grown (S := fun j => (Value.slice ao ts.length c).ownBlock = some j) hgrow fun j e _ => e) (fun j e hj => by have := hrw j e; omega)
              · exact ownT_snoc hO7.out hE7.out (fun g hge => by have := hOo.out g hge; have := hs4.out; omega) (by have := hs4.out; omega) hown hgrow (hat.imp id (fun e => by rw [e]; simp))
end Go.Proofs.YtkbfjkbokifgkaaGreatDoor
