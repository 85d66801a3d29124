/- The section of codes. -/
import Derived.Test.YtkbfjkbokifgkaaGreatDoorSk
namespace Go.Proofs.YtkbfjkbokifgkaaGreatDoor
open Go.RowKit
set_option linter.unusedVariables false
set_option linter.unusedSimpArgs false
structure FnR where
 t : Int
 ls : List Int
 la : Option Addr
 lc : Nat
 b : Il
 ba : Option Addr
 bc : Nat
def FnR.p (r : FnR) : Int × List Int × Il := (r.t, r.ls, r.b)
def fn0 (t : Int) : FnR := ⟨t, [], none, 0, .nil, none, 0⟩
def FnRow (cur : List Value) (rs : List FnR) : Prop := ∀ i r, rs[i]? = some r → cur[i * 3]? = some (.int .i64 r.t) ∧ cur[i * 3 + 1]? = some (.slice r.la r.ls.length r.lc) ∧ cur[i * 3 + 2]? = some (.slice r.ba r.b.len r.bc)
def FnOk (R : Nat → Prop) (w : World) (r : FnR) : Prop := IntsR R w r.la r.ls ∧ SlR R w r.ba r.b ∧ r.b.len ≤ 9223372036854775807
theorem FnOk.keep {R S : Nat → Prop} {w w' : World} {r : FnR} (f : KeepsR R S w w') (h : FnOk R w r) : FnOk S w' r := ⟨h.1.keep f, h.2.1.keep f, h.2.2⟩
theorem FnRow.set {cur : List Value} {rs : List FnR} {i : Nat} {r r' : FnR} (h : FnRow cur rs) (hi : rs[i]? = some r) (ht : r'.t = r.t) : FnRow ((cur.set (i * 3 + 1) (.slice r'.la r'.ls.length r'.lc)).set (i * 3 + 2) (.slice r'.ba r'.b.len r'.bc)) (rs.set i r') := by
 intro j q hj; obtain ⟨h0, h1, h2⟩ := h i r hi; have l1 := (List.getElem?_eq_some_iff.1 h1).1; have l2 := (List.getElem?_eq_some_iff.1 h2).1
 by_cases e : j = i
 · subst e; have hlt := (List.getElem?_eq_some_iff.1 hi).1; rw [List.getElem?_set_self hlt] at hj; cases hj; refine ⟨?_, ?_, ?_⟩
   · rw [List.getElem?_set_ne (by omega), List.getElem?_set_ne (by omega), h0, ht]
   · rw [List.getElem?_set_ne (by omega), List.getElem?_set_self l1]
   · rw [List.getElem?_set_self (by rw [List.length_set]; exact l2)]
 · rw [List.getElem?_set_ne (Ne.symm e)] at hj; obtain ⟨k0, k1, k2⟩ := h j q hj; refine ⟨?_, ?_, ?_⟩
   · rw [List.getElem?_set_ne (by omega), List.getElem?_set_ne (by omega), k0]
   · rw [List.getElem?_set_ne (by omega), List.getElem?_set_ne (by omega), k1]
   · rw [List.getElem?_set_ne (by omega), List.getElem?_set_ne (by omega), k2]
def gPreC (xs : List (Int × List Int × Il)) (g : Got (List (Int × List Int × Il))) : Got (List (Int × List Int × Il)) := g.bind fun q => .ok (xs ++ q.1, q.2)
theorem gc_err {xs : List (Int × List Int × Il)} {s : List UInt8} {e left a : Nat} {t : Int} {r : List Int} {n : Int} (h : gCode s left e a = .error n) : gPreC xs (gCodes s e (t :: r) left a) = .error n := by rw [gCodes, h]; rfl
theorem gc_step {xs : List (Int × List Int × Il)} {s : List UInt8} {e left a b : Nat} {t : Int} {r : List Int} {c : (List Int × Il) × Nat} (h : gCode s left e a = .ok (c, b)) : gPreC xs (gCodes s e (t :: r) left a) = gPreC (xs ++ [(t, c.1.1, c.1.2)]) (gCodes s e r c.2 b) := by
 rw [gCodes, rd_bind h]; unfold gPreC; rw [except_assoc]; refine bind_congr fun q _ => ?_
 show Except.ok (xs ++ (_ :: q.1), q.2) = Except.ok ((xs ++ [_]) ++ q.1, q.2)
 simp
theorem CJ.rebase {w w1 w' : World} {p br g : Nat} {s : ByteArray} {left : Nat} {cs cur : List Value} {o : Nat} {v : (List Int × Il) × Nat} {b e1 : Nat} {la : Option Addr} {lc : Nat} {ba : Option Addr} {bc : Nat} (h : CJ w1 p br g s left cs cur o v b e1 w' la lc ba bc) (k : Wr (· = p) w w1) : CJ w p br g s left cs cur o v b e1 w' la lc ba bc :=
 ⟨h.rd, h.bx, h.bk, (k.mono fun _ e => .inl e).trans h.wr, h.li.low k.size, h.sl.low k.size, h.ln, h.lf⟩
theorem CJ.set2 {w w' : World} {p br g : Nat} {s : ByteArray} {left : Nat} {cs cur : List Value} {o : Nat} {v : (List Int × Il) × Nat} {b e1 : Nat} {la : Option Addr} {lc : Nat} {ba : Option Addr} {bc : Nat} (h : CJ w p br g s left cs cur o v b e1 w' la lc ba bc) (hp : p < w.heap.size) (hb : br ≠ p) (hg : g ≠ p) (e : Nat) : CJ w p br g s left cs cur o v b e (w'.setCell ⟨p, 2, none⟩ (.int .i64 (e : Int))) la lc ba bc :=
 ⟨h.rd.set2 _, h.bx.far hb _ _, h.bk.far hg _ _, h.wr.set (S := Spq p g) (.inl rfl) _ _, h.li.keep (keeps_set hp), h.sl.keep (keeps_set hp), h.ln, h.lf⟩
def Cds (p g : Nat) (s : ByteArray) (e : Nat) (cs : List Value) (n : Nat) (G : Got (List (Int × List Int × Il))) (w : World) (e' : Ending) (w' : World) : Prop :=
 Wr (Spq p g) w w' ∧ ((∃ (rs : List FnR) (a' l' : Nat) (cur : List Value), G = .ok (rs.map FnR.p, a') ∧ a' ≤ e ∧ e' = .returned (.tuple #[]) ∧ RdAt w' p s (a' : Int) (e : Int) (l' : Int) (cs.set 10 (.bool true)) ∧ Bk w' g cur 83 ∧ FnRow cur rs ∧ rs.length = n ∧ ∀ r ∈ rs, FnOk (fun b => w.heap.size ≤ b) w' r) ∨
  (∃ m, G = .error m ∧ e' = .panicked (flt m)))
set_option maxRecDepth 100000 in
set_option maxHeartbeats 16000000 in
theorem codes_any {w : World} {p g : Nat} {s : ByteArray} {a e : Nat} {cs cur : List Value} {tys : List Int} {cap : Nat} {cd : Bool} (hR : RdAt w p s (a : Int) (e : Int) (65536 : Int) cs) (hc2 : cs[2]? = some (.slice (some ⟨g, 0, none⟩) tys.length cap)) (hc10 : cs[10]? = some (.bool cd)) (hbk : Bk w g cur 83) (hgp : g ≠ p)
 (hrow : FnRow cur (tys.map fn0)) (hn : tys.length ≤ 4096) (hs : s.size ≤ 262144) (he : e ≤ s.size) (ha : a ≤ e) :
 Calls Tryz.prog 76 #[.pointer (some ⟨p, 0, none⟩)] w (Cds p g s e cs tys.length ((gCount (strl s) e a).bind fun n => if n.1 = (tys.length : Int) then gCodes (strl s) e tys 65536 n.2 else .error 50) w) := by
 obtain ⟨R, hG0⟩ : ∃ R, ((gCount (strl s) e a).bind fun n => if n.1 = (tys.length : Int) then gCodes (strl s) e tys 65536 n.2 else .error 50) = R := ⟨_, rfl⟩
 rw [hG0]; replace hG0 := zh hG0; obtain ⟨br, hbr⟩ : ∃ br, br = w.heap.size := ⟨_, rfl⟩
 have hpw : p < br := (by rw [hbr]; exact hR.lt)
 have hgw : g < br := (by rw [hbr]; exact hbk.lt)
 have hB : Below w.heap.size w (w.alloc (.cells #[.pointer (some ⟨p, 0, none⟩)] 60)) := (Below.refl _ _).alloc (Nat.le_refl _) _; have hR1 := hR.below hB; have hb1 := Bk.new w [.pointer (some ⟨p, 0, none⟩)] 60; have hk1 := hbk.below hB; have hW1 := Wr.of_below (S := Spq p g) hB; rw [← hbr] at hb1; clear hR hbk hB; go_enter Tryz.func76, Tryz.ntmps76
 go_upto_region 1 with (fail)
 obtain ⟨w1, hw1⟩ : ∃ w1, w1 = w.alloc (.cells #[.pointer (some ⟨p, 0, none⟩)] 60) := ⟨_, rfl⟩
 rw [← hbr]; rw [show (w.alloc (.cells [.pointer (some ⟨p, 0, none⟩)].toArray 60)) = w1 from hw1.symm] at hb1; rw [← hw1] at hR1 hk1 hW1 ⊢; clear hw1; have hwb : w.heap.size ≤ br := Nat.le_of_eq hbr.symm; replace hbr := zh hbr; have c0 := hb1.cell (j := 0) rfl; replace hR1 := zh hR1; replace hb1 := zh hb1; replace hk1 := zh hk1; replace hW1 := zh hW1; replace hc2 := zh hc2; replace hc10 := zh hc10; go_wp2_with fail; refine (count_any hR1.out hs he ha).mono ?_; rintro e' w2 ⟨hV, ⟨m, a2, v', hg, ha2, ⟨rfl, hm0, hm1⟩, rfl, hR2⟩ | ⟨n, hg, rfl⟩⟩
 rotate_left
 · exact ⟨rfl, hW1.out.trans (hV.mono fun _ e => .inl e), .inr ⟨n, by rw [← hG0.out, rd_err hg], rfl⟩⟩
 have hG2 : R = if m = (tys.length : Int) then gCodes (strl s) e tys 65536 a2 else .error 50 := (by rw [← hG0.out, rd_bind hg])
 replace hG2 := zh hG2; have hb2 := hb1.out.wr hV (by omega); have hk2 := hk1.out.wr hV hgp; have hW2 := hW1.out.trans (hV.mono fun _ e => .inl e); clear hg hG0 hV hR1 hb1 hk1 hW1 c0; have c0 := hb2.cell (j := 0) rfl
 have c6 : w2.cell? ⟨p, 6, none⟩ = some (.slice (some ⟨g, 0, none⟩) tys.length cap) := by have h := hR2; rw [← set_same7 hc2.out] at h; exact h.field (j := 2) (by decide)
 replace hR2 := zh hR2; replace hb2 := zh hb2; replace hk2 := zh hk2; replace hW2 := zh hW2
 by_cases hmn : m = (tys.length : Int)
 rotate_left
 · have hb : (m == (tys.length : Int)) = false := (by rw [beq_eq_false_iff_ne]; exact hmn)
   have hf : R = .error 50 := (by rw [hG2.out, if_neg hmn])
   replace hf := zh hf; replace hmn := zh hmn; go_wp2_with fail; refine (dwant_no 50 _).mono ?_; rintro e' w3 ⟨rfl, rfl⟩; exact ⟨rfl, hW2.out, .inr ⟨50, hf.out, rfl⟩⟩
 have hG3 : R = gCodes (strl s) e tys 65536 a2 := (by rw [hG2.out, if_pos hmn])
 replace hG3 := zh hG3; clear hG2; subst hmn; go_wp2_with fail; refine (dwant_yes 50 _).mono ?_; rintro e' w3 ⟨rfl, rfl⟩
 have c14 : w2.cell? ⟨p, 14, none⟩ = some (.bool cd) := by have h := hR2.out; rw [← set_same7 hc10.out] at h; exact h.field (j := 10) (by decide)
 have f14 := hR2.out.fr 14
 go_upto_region 4 with (fail)
 have hR4 : RdAt (w2.setCell ⟨p, 14, none⟩ (.bool true)) p s (a2 : Int) (e : Int) (65536 : Int) (cs.set 10 (.bool true)) := by have h := hR2.out; rw [← set_same7 hc10.out] at h; exact h.setm (.bool true)
 have hb4 := hb2.out.far (p := p) (by omega) 14 (.bool true); have hk4 := hk2.out.far (p := p) hgp 14 (.bool true); have hW4 := hW2.out.set (S := Spq p g) (.inl rfl) 14 (.bool true); obtain ⟨w4, hw4⟩ : ∃ w4, w4 = w2.setCell ⟨p, 14, none⟩ (.bool true) := ⟨_, rfl⟩
 rw [← hw4] at hR4 hb4 hk4 hW4 ⊢; have hc2' : (cs.set 10 (.bool true))[2]? = some (.slice (some ⟨g, 0, none⟩) tys.length cap) := (by rw [List.getElem?_set_ne (by decide)]; exact hc2.out)
 obtain ⟨cs', hcs⟩ : ∃ cs', cs' = cs.set 10 (.bool true) := ⟨_, rfl⟩
 rw [← hcs] at hR4 hc2'; replace hcs := zh hcs; clear hw4 c0 c6 c14 f14 hR2 hb2 hk2 hW2 hc2 hc10; replace hc2' := zh hc2'; replace hR4 := zh hR4; replace hb4 := zh hb4; replace hk4 := zh hk4; replace hW4 := zh hW4; replace hrow := zh hrow; go_wp2_with fail
 go_loopg [20] tys.length (fun k' v20 wr => ∃ (i : Nat) (rs : List FnR) (ai li : Nat) (cu : List Value), v20 = .int .i64 i ∧ i + k' = tys.length ∧ rs.length = tys.length ∧ ai ≤ e ∧ li ≤ 65536 ∧ Hid (RdAt wr p s (ai : Int) (e : Int) (li : Int) cs') ∧ Hid (Bk wr br [.pointer (some ⟨p, 0, none⟩)] 60) ∧ Hid (Bk wr g cu 83) ∧ Hid (Wr (Spq p g) w wr) ∧ Hid (FnRow cu rs) ∧
  Hid (∀ r ∈ rs, FnOk (fun b => w.heap.size ≤ b) wr r) ∧ Hid (∀ j t, i ≤ j → tys[j]? = some t → rs[j]? = some (fn0 t)) ∧ Hid (R = gPreC ((rs.take i).map FnR.p) (gCodes (strl s) e (tys.drop i) li ai)))
 case atStart =>
  refine ⟨0, tys.map fn0, a2, 65536, cur, rfl, by omega, by simp, ha2, Nat.le_refl _, hR4, hb4, hk4, hW4, hrow, zh ?_, zh ?_, zh ?_⟩
  · intro r hr; obtain ⟨t, _, rfl⟩ := List.mem_map.1 hr; exact ⟨⟨by simp [fn0], .inl rfl⟩, .inl rfl, by show (0 : Nat) ≤ _; omega⟩
  · intro j t _ ht; rw [List.getElem?_map, ht]; rfl
  · rw [hG3.out, List.take_zero, List.drop_zero]; unfold gPreC; cases gCodes (strl s) e tys 65536 a2 <;> rfl
 case round =>
  obtain ⟨i, rs, ai, li, cu, rfl, hik, hrl, hai, hli, hRi, hbi, hki, hWi, hrowi, hoki, h0i, hGi⟩ := hrel; clear hR4 hb4 hk4 hW4 hrow hG3
  by_cases hlt : i < tys.length
  · obtain ⟨k1, rfl⟩ : ∃ k1, gk = k1 + 1 := ⟨gk - 1, by omega⟩
    have hi : (i : Int) < (tys.length : Int) := (by omega)
    have hi0 : (0 : Int) ≤ (i : Int) := (by omega)
    have hw : IntKind.i64.wrap ((i : Int) + 1) = (i : Int) + 1 := wid64 _ (by omega) (by omega); have c0 := hbi.out.cell (j := 0) rfl
    have c6 : wr.cell? ⟨p, 6, none⟩ = some (.slice (some ⟨g, 0, none⟩) tys.length cap) := by have h := hRi.out; rw [← set_same7 hc2'.out] at h; exact h.field (j := 2) (by decide)
    go_upto_region 8 with (fail)
    have hB : Below wr.heap.size wr (wr.alloc (.cells #[.pointer (some ⟨g, i * 3, none⟩)] 142)) := (Below.refl _ _).alloc (Nat.le_refl _) _; have hR8 := hRi.out.below hB; have hb8 := hbi.out.below hB; have hk8 := hki.out.below hB; have hf8 := Bk.new wr [.pointer (some ⟨g, i * 3, none⟩)] 142; have hW8 := hWi.out.trans (Wr.of_below (S := Spq p g) hB); have hbf : br < wr.heap.size := hbi.out.lt; have hwwr := hWi.out.size; have hfs : wr.heap.size < (wr.alloc (.cells #[.pointer (some ⟨g, i * 3, none⟩)] 142)).heap.size := (by simp)
    have hok8 : ∀ r ∈ rs, FnOk (fun b => w.heap.size ≤ b) (wr.alloc (.cells #[.pointer (some ⟨g, i * 3, none⟩)] 142)) r := fun r hr => (hoki.out r hr).keep (KeepsR.below hB); obtain ⟨fb, hfb⟩ : ∃ fb, fb = wr.heap.size := ⟨_, rfl⟩
    obtain ⟨w8, hw8⟩ : ∃ w8, w8 = wr.alloc (.cells #[.pointer (some ⟨g, i * 3, none⟩)] 142) := ⟨_, rfl⟩
    rw [show (wr.alloc (.cells [.pointer (some ⟨g, i * 3, none⟩)].toArray 142)) = w8 from hw8.symm] at hf8; rw [← hfb] at hf8 hbf hfs hwwr ⊢; rw [← hw8] at hR8 hb8 hk8 hW8 hfs hok8 ⊢; clear hw8 hB hRi hbi hki hWi hoki c0 c6; replace hfb := zh hfb; have c0 := hb8.cell (j := 0) rfl; obtain ⟨t, hti⟩ : ∃ t, tys[i]? = some t := ⟨tys[i], List.getElem?_eq_getElem hlt⟩
    have hri := h0i.out i t (Nat.le_refl _) hti; obtain ⟨q0, q1, q2⟩ := hrowi.out i (fn0 t) hri
    have hdrop : tys.drop i = t :: tys.drop (i + 1) := by obtain ⟨hl, he2⟩ := List.getElem?_eq_some_iff.1 hti; rw [← he2]; exact List.drop_eq_getElem_cons hl
    have hlong := fun (W : World) (hRW : RdAt W p s (ai : Int) (e : Int) (li : Int) cs') (hT : ∀ w', Wr (· = p) W w' → Wr (Spq p g) W w') (hst) => long_any (J := fun v b e1 w' => ∃ la lc ba bc, CJ W p br g s li cs' cu (i * 3) v b e1 w' la lc ba bc) (T := fun w' => Wr (Spq p g) W w') (f := gFn (strl s) li) (k := 138) (cap := #[.pointer (some ⟨br, 0, none⟩), .pointer (some ⟨fb, 0, none⟩)]) hRW hs he hai hT hst
     (fun v b e1 w' ⟨la, lc, ba, bc, h⟩ => ⟨_, _, h.rd⟩) (fun v b e1 w' ⟨la, lc, ba, bc, h⟩ => ⟨la, lc, ba, bc, h.set2 hRW.lt (by omega) hgp e⟩) (fun v b e1 w' ⟨la, lc, ba, bc, h⟩ => h.wr) (fun _ => rfl)
    replace hlong := zh hlong; replace hti := zh hti; replace hri := zh hri; replace q0 := zh q0; replace q1 := zh q1; replace q2 := zh q2; replace hdrop := zh hdrop; replace hR8 := zh hR8; replace hb8 := zh hb8; replace hk8 := zh hk8; replace hf8 := zh hf8; replace hW8 := zh hW8; replace hok8 := zh hok8; go_wp2_with fail; refine (hlong.out w8 hR8.out (fun w' k => k.mono fun _ e => .inl e) (fun a1 e1 w1 hW hRW ha1 he1 => (cd80_any hRW (hb8.out.wr hW (by omega)) (hf8.out.wr hW (by omega)) (hk8.out.wr hW hgp) ⟨hpw, hgw, hgp, hbf, Nat.lt_of_lt_of_le hfs hW.size⟩ q1.out q2.out hs (by omega) ha1 hli).mono fun e' w' hh => hh.imp (fun ⟨v, b, h1, h2, h3, la, lc, ba, bc, h4⟩ => ⟨v, b, h1, h2, h3, la, lc, ba, bc, h4.rebase hW⟩) (fun ⟨n, h1, h2, h3⟩ => ⟨n, h1, h2, (hW.mono fun _ e => .inl e).trans h3⟩))).mono ?_; rintro e' w9 (⟨v, b, hg, hb9, rfl, la, lc, ba, bc, hC⟩ | ⟨n, hg, rfl, hV⟩)
    rotate_left
    · exact ⟨rfl, hW8.out.trans hV, .inr ⟨n, by rw [hGi.out, hdrop.out]; exact gc_err hg, rfl⟩⟩
    have hG9 := hGi.out.trans ((congrArg (fun l => gPreC ((rs.take i).map FnR.p) (gCodes (strl s) e l li ai)) hdrop.out).trans (gc_step hg)); replace hG9 := zh hG9; replace hC := zh hC; clear hg c0; go_wp2_with fail
    go_roundg k1
    case measure => omega
    case rel =>
     have hil : i < rs.length := (by omega)
     refine ⟨i + 1, rs.set i ⟨t, v.1.1, la, lc, v.1.2, ba, bc⟩, b, v.2, _, by push_cast; rfl, by omega, by rw [List.length_set]; exact hrl, hb9, Nat.le_trans hC.out.lf hli, zh hC.out.rd, zh hC.out.bx, zh hC.out.bk, zh (hW8.out.trans hC.out.wr), zh (hrowi.out.set (r' := ⟨t, v.1.1, la, lc, v.1.2, ba, bc⟩) hri.out rfl), zh ?_, zh ?_, zh ?_⟩
     · intro r hr; have hsz := hW8.out.size
       rcases List.mem_or_eq_of_mem_set hr with hr | rfl
       · exact (hok8.out r hr).keep (keeps_wr2 hC.out.wr (fun b hb => by have : w.heap.size ≤ b := hb; have := hbr.out; omega))
       · exact ⟨hC.out.li.low hsz, hC.out.sl.low hsz, hC.out.ln⟩
     · intro j t' hj ht'; rw [List.getElem?_set_ne (by omega)]; exact h0i.out j t' (by omega) ht'
     · rw [hG9.out]; congr 1; rw [List.take_add_one, List.getElem?_set_self hil, List.take_set_of_le (by omega), List.map_append]; rfl
  · have hi : ¬ (i : Int) < (tys.length : Int) := (by omega)
    obtain rfl : i = tys.length := by omega
    go_wp2_with fail; go_end0; rw [hcs.out] at hRi; refine ⟨hWi.out, .inl ⟨rs, ai, li, cu, ?_, hai, rfl, hRi.out, hki.out, hrowi.out, hrl, hoki.out⟩⟩; rw [hGi.out, List.drop_length, List.take_of_length_le (by omega)]
    show gPreC _ (.ok ([], ai)) = _
    show Except.ok (_ ++ [], ai) = _
    rw [List.append_nil]
end Go.Proofs.YtkbfjkbokifgkaaGreatDoor
