/- The reader's counts, texts, names, results. -/
import Derived.Test.YtkbfjkbokifgkaaGreatDoorRr
namespace Go.Proofs.YtkbfjkbokifgkaaGreatDoor
open Go.RowKit
set_option linter.unusedVariables false
set_option linter.unusedSimpArgs false
def VCount (v : Int) (x : Value) : Prop := x = .int .i64 v ∧ 0 ≤ v ∧ v ≤ 4096
set_option maxRecDepth 100000 in
set_option maxHeartbeats 4000000 in
theorem count_any {w : World} {p : Nat} {s : ByteArray} {a e : Nat} {l : Int} {cs : List Value} (h : RdAt w p s (a : Int) (e : Int) l cs) (hs : s.size ≤ 262144) (he : e ≤ s.size) (ha : a ≤ e) :
 Calls Tryz.prog 137 #[.pointer (some ⟨p, 0, none⟩)] w (Rd VCount p s e l cs (gCount (strl s) e a) w) := by
 go_enter Tryz.func137, Tryz.ntmps137; go_wp2_with fail; refine (u_any h hs he ha).mono ?_; rintro e' w' ⟨hW, ⟨v, a', v', hg, ha', ⟨rfl, hv0, hv1⟩, rfl, hR⟩ | ⟨n, hg, rfl⟩⟩
 · by_cases hb : v ≤ 4096
   · go_wp2_with fail; refine (dwant_yes 3 w').mono ?_; rintro e' w2 ⟨rfl, rfl⟩; go_wp2_with fail; refine bodyPost_ret (by simp [results, Tryz.results137, go_sem] <;> rfl) rfl ?_; exact ⟨hW, .inl ⟨v, a', _, by unfold gCount; rw [rd_bind hg]; exact if_pos hb, ha', ⟨rfl, hv0, hb⟩, rfl, hR⟩⟩
   · have hbb : decide (v ≤ 4096) = false := decide_eq_false hb; replace hb := zh hb; go_wp2_with fail; refine (dwant_no 3 w').mono ?_; rintro e' w2 ⟨rfl, rfl⟩; exact ⟨rfl, hW, .inr ⟨3, by unfold gCount; rw [rd_bind hg]; exact if_neg (by have := hb.out; show ¬ v ≤ 4096; omega), rfl⟩⟩
 · exact ⟨rfl, hW, .inr ⟨n, by unfold gCount; rw [rd_err hg], rfl⟩⟩
def VText (t : List UInt8) (x : Value) : Prop := x = .string (mkb t) ∧ t.length ≤ 262144
theorem ext_win {s : ByteArray} {a b : Nat} : s.extract a b = mkb (win (strl s) a b) := by apply ByteArray.ext; unfold mkb win strl; rw [ByteArray.data_extract]; apply Array.toList_inj.1; rw [Array.toList_extract, List.extract_eq_drop_take']
set_option maxRecDepth 100000 in
set_option maxHeartbeats 4000000 in
theorem rtext_any {w : World} {p : Nat} {s : ByteArray} {a e : Nat} {l : Int} {cs : List Value} (h : RdAt w p s (a : Int) (e : Int) l cs) (hs : s.size ≤ 262144) (he : e ≤ s.size) (ha : a ≤ e) :
 Calls Tryz.prog 118 #[.pointer (some ⟨p, 0, none⟩)] w (Rd VText p s e l cs (gText (strl s) e a) w) := by
 go_enter Tryz.func118, Tryz.ntmps118; go_wp2_with fail; refine (u_any h hs he ha).mono ?_; rintro e' w' ⟨hW, ⟨v, a', v', hg, ha', ⟨rfl, hv0, hv1⟩, rfl, hR⟩ | ⟨n, hg, rfl⟩⟩
 · obtain ⟨m, rfl⟩ : ∃ m : Nat, v = (m : Int) := ⟨v.toNat, by omega⟩
   have c1 := hR.c1; have c2 := hR.c2; have hw1 : IntKind.i64.wrap ((e : Int) - (a' : Int)) = (e : Int) - (a' : Int) := wid64s _ (by omega) (by omega)
   by_cases hb : (m : Int) ≤ (e : Int) - (a' : Int)
   · replace hg := zh hg
     go_upto_region 2 with (fail)
     refine wp_region_still_tail 11 (by kernel_rfl) (by kernel_rfl) ?_; simp only [List.take_succ_cons, List.take_zero, List.drop_succ_cons, List.drop_zero]
     repeat still_step
     refine wpStill_nil ?_; change wpList _ _ _ _ _ w'.drew; have hd := hR.drew; have td := hW.drew; obtain ⟨w1, hw1'⟩ : ∃ w1, w1 = w'.drew := ⟨_, rfl⟩
     rw [← hw1'] at hd td ⊢; clear hw1' hR hW c1 c2; have c1 := hd.c1; have f1 := hd.fr 1; obtain ⟨q, hq⟩ : ∃ q : Nat, q = a' + m := ⟨_, rfl⟩
     have hw2 : IntKind.i64.wrap ((a' : Int) + (m : Int)) = (a' : Int) + (m : Int) := wid64 _ (by omega) (by omega); go_wp2_with fail; refine (dwant_yes 50 w1).mono ?_; rintro e' w2 ⟨rfl, rfl⟩
     go_upto_region 4 with (fail)
     rw [show (a' : Int) + (m : Int) = (q : Int) by omega]; have h2' := hd.set1 (q : Int); have t2 := td.set (S := (· = p)) rfl 1 (.int .i64 (q : Int)); obtain ⟨w2, hw2'⟩ : ∃ w2, w2 = w1.setCell ⟨p, 1, none⟩ (.int .i64 (q : Int)) := ⟨_, rfl⟩
     rw [← hw2'] at h2' t2 ⊢; clear hw2' hd td c1 f1 hw1 hw2; have c0 := h2'.c0; have c1 := h2'.c1; have hw3 : IntKind.i64.wrap ((q : Int) - (m : Int)) = (a' : Int) := (by rw [show (q : Int) - (m : Int) = a' by omega]; exact wid64 _ (by omega) (by omega))
     have b1 : (a' : Int) ≤ (q : Int) := (by omega)
     have b2 : (q : Int) ≤ (s.size : Int) := (by omega)
     replace hq := zh hq
     go_quiet (fail)
     go_wp2_with fail; refine bodyPost_ret (by simp [results, Tryz.results118, go_sem] <;> rfl) rfl ?_; have hqq := hq.out; exact ⟨t2.drewN nq, .inl ⟨win (strl s) a' (a' + (m : Int).toNat), a' + (m : Int).toNat, _, by unfold gText; rw [rd_bind hg.out]; exact if_pos hb, by rw [Int.toNat_natCast]; omega, ⟨by rw [Int.toNat_natCast, ← hqq, ← ext_win], by unfold win; rw [List.length_drop, List.length_take, strl_length]; omega⟩, rfl, by rw [Int.toNat_natCast, ← hqq]; exact h2'.drewN nq⟩⟩
   · have hbb : decide ((m : Int) ≤ (e : Int) - (a' : Int)) = false := decide_eq_false hb; replace hb := zh hb; replace hg := zh hg
     go_upto_region 2 with (fail)
     refine wp_region_still_tail 11 (by kernel_rfl) (by kernel_rfl) ?_; simp only [List.take_succ_cons, List.take_zero, List.drop_succ_cons, List.drop_zero]
     repeat still_step
     refine wpStill_nil ?_; change wpList _ _ _ _ _ w'.drew; go_wp2_with fail; refine (dwant_no 50 w'.drew).mono ?_; rintro e' w2 ⟨rfl, rfl⟩; exact ⟨rfl, hW.drew, .inr ⟨50, by unfold gText; rw [rd_bind hg.out]; exact if_neg (by have := hb.out; show ¬ (m : Int) ≤ (e : Int) - a'; omega), rfl⟩⟩
 · exact ⟨rfl, hW, .inr ⟨n, by unfold gText; rw [rd_err hg], rfl⟩⟩
theorem cell_heap {w w' : World} {a : Addr} {v : Value} (h : w.cell? a = some v) (k : w'.heap[a.block]? = w.heap[a.block]?) : w'.cell? a = some v := by have hs := World.cell?_spot h; obtain ⟨b, o, z⟩ := a; cases hs; have k' : w'.heap[b]? = w.heap[b]? := k; unfold World.cell? at h ⊢; rw [k']; exact h
theorem TabU.wr {S : Nat → Prop} {w w' : World} (h : TabU w) (k : Wr S w w') (h3 : ¬ S (Tryz.laysValid_ren.g 3)) (h4 : ¬ S (Tryz.laysValid_ren.g 4)) : TabU w' :=
 ⟨fun c hc => cell_heap (h.1 c hc) (k.block _ (World.block_lt_of_cell? _ _ (h.1 c hc)) h3), fun i hi => ⟨cell_heap (h.2 i hi).1 (k.block _ (World.block_lt_of_cell? _ _ (h.2 i hi).1) h4), cell_heap (h.2 i hi).2 (k.block _ (World.block_lt_of_cell? _ _ (h.2 i hi).2) h4)⟩⟩
structure TabP (p : Nat) (w : World) : Prop where
 tab : TabU w
 h3 : Tryz.laysValid_ren.g 3 ≠ p
 h4 : Tryz.laysValid_ren.g 4 ≠ p
theorem TabP.wr {p : Nat} {w w' : World} (h : TabP p w) (k : Wr (· = p) w w') : TabP p w' := ⟨h.tab.wr k h.h3 h.h4, h.h3, h.h4⟩
set_option maxRecDepth 100000 in
set_option maxHeartbeats 4000000 in
theorem rname_any {w : World} {p : Nat} {s : ByteArray} {a e : Nat} {l : Int} {cs : List Value} (h : RdAt w p s (a : Int) (e : Int) l cs) (hs : s.size ≤ 262144) (he : e ≤ s.size) (ha : a ≤ e) (hT : TabP p w) :
 Calls Tryz.prog 125 #[.pointer (some ⟨p, 0, none⟩)] w (Rd VText p s e l cs (gName (strl s) e a) w) := by
 have hT' := zh hT; clear hT; go_enter Tryz.func125, Tryz.ntmps125; go_wp2_with fail; refine (rtext_any h hs he ha).mono ?_; rintro e' w' ⟨hW, ⟨v, a', v', hg, ha', ⟨rfl, hl⟩, rfl, hR⟩ | ⟨n, hg, rfl⟩⟩
 · replace hg := zh hg; go_wp2_with fail; refine (name_any (mkb v) w' (by show v.toArray.size ≤ _; simp; omega) (hT'.out.wr hW).tab).mono ?_; rintro e' w2 ⟨rfl, hB⟩; replace hB := zh hB
   by_cases hb : nameB (mkb v) = true
   · rw [hb]; go_wp2_with fail; refine (dwant_yes 50 w2).mono ?_; rintro e' w3 ⟨rfl, rfl⟩; go_wp2_with fail; refine bodyPost_ret (by simp [results, Tryz.results125, go_sem] <;> rfl) rfl ?_; exact ⟨hW.trans (Wr.of_below hB.out), .inl ⟨v, a', _, by unfold gName; rw [rd_bind hg.out]; exact if_pos hb, ha', ⟨rfl, hl⟩, rfl, hR.below hB.out⟩⟩
   · have hb' : nameB (mkb v) = false := (by simpa using hb)
     rw [hb']; replace hb := zh hb; replace hb' := zh hb'; go_wp2_with fail; refine (dwant_no 50 w2).mono ?_; rintro e' w3 ⟨rfl, rfl⟩; exact ⟨rfl, hW.trans (Wr.of_below hB.out), .inr ⟨50, by unfold gName; rw [rd_bind hg.out]; show (if nameB (mkb v) = true then _ else _) = _; rw [hb'.out]; rfl, rfl⟩⟩
 · exact ⟨rfl, hW, .inr ⟨n, by unfold gName; rw [rd_err hg], rfl⟩⟩
set_option maxRecDepth 100000 in
set_option maxHeartbeats 4000000 in
theorem rresult_any {w : World} {p : Nat} {s : ByteArray} {a e : Nat} {l : Int} {cs : List Value} (h : RdAt w p s (a : Int) (e : Int) l cs) (hs : s.size ≤ 262144) (he : e ≤ s.size) :
 Calls Tryz.prog 188 #[.pointer (some ⟨p, 0, none⟩)] w (Rd VByte p s e l cs (gResult (strl s) e a) w) := by
 have c0 := h.c0; have c1 := h.c1; have c2 := h.c2
 by_cases hlt : a < e
 · have hi : (a : Int) < (e : Int) := (by omega)
   have hi2 : (a : Int) < (s.size : Int) := (by omega)
   have has : a < s.size := (by omega)
   have hget := str_get has; obtain ⟨b, hb⟩ : ∃ b, b = s[a] := ⟨_, rfl⟩
   by_cases h64 : b.toNat = 64
   · have hg : gResult (strl s) e a = .ok (0, a + 1) := by unfold gResult; rw [hget, ← hb]; exact if_pos ⟨hlt, UInt8.toNat_inj.1 h64⟩
     have hd : ((s[a].toNat : Int) == 64) = true := (by rw [← hb, h64]; rfl)
     have hwp : IntKind.i64.wrap ((a : Int) + 1) = (a : Int) + 1 := wid64 _ (by omega) (by omega); replace hg := zh hg; replace hget := zh hget; replace h64 := zh h64; replace hb := zh hb; go_enter Tryz.func188, Tryz.ntmps188; go_wp2_with fail
     go_quiet (fail)
     obtain ⟨w1, hw1⟩ : ∃ w1, w1 = w.drewN nq := ⟨_, rfl⟩
     have hd1 := h.drewN nq; have td := (Wr.refl (· = p) w).drewN nq; rw [← hw1] at hd1 td ⊢; clear hw1 h c0 c1 c2; have c1 := hd1.c1; have f1 := hd1.fr 1; go_wp2_with fail; refine bodyPost_ret (by simp [results, Tryz.results188, go_sem] <;> rfl) rfl ?_; exact ⟨td.set (S := (· = p)) rfl 1 _, .inl ⟨0, a + 1, _, hg.out, by omega, ⟨rfl, by omega, by omega⟩, rfl, hd1.set1 _⟩⟩
   · have hg : gResult (strl s) e a = gTyp (strl s) e a := by unfold gResult; rw [hget, ← hb]; exact if_neg (fun h => h64 (by have := congrArg UInt8.toNat h.2; simpa using this))
     have hd : ((s[a].toNat : Int) == 64) = false := by rw [← hb, beq_eq_false_iff_ne]; omega
     replace hg := zh hg; replace hget := zh hget; replace h64 := zh h64; replace hb := zh hb; go_enter Tryz.func188, Tryz.ntmps188; go_wp2_with fail
     go_quiet (fail)
     obtain ⟨w1, hw1⟩ : ∃ w1, w1 = w.drewN nq := ⟨_, rfl⟩
     have hd1 := h.drewN nq; have td := (Wr.refl (· = p) w).drewN nq; rw [← hw1] at hd1 td ⊢; clear hw1 h c0 c1 c2; go_wp2_with fail; refine (typ_any hd1 hs he).mono ?_; rintro e' w' ⟨hW, ⟨v, a', v', hgt, ha', ⟨rfl, hv0, hv1⟩, rfl, hR⟩ | ⟨n, hgt, rfl⟩⟩
     · replace hgt := zh hgt; go_wp2_with fail; refine bodyPost_ret (by simp [results, Tryz.results188, go_sem] <;> rfl) rfl ?_; exact ⟨td.trans hW, .inl ⟨v, a', _, by rw [hg.out]; exact hgt.out, ha', ⟨rfl, hv0, hv1⟩, rfl, hR⟩⟩
     · exact ⟨rfl, td.trans hW, .inr ⟨n, by rw [hg.out]; exact hgt, rfl⟩⟩
 · have hi : ¬ (a : Int) < (e : Int) := (by omega)
   have hd : decide ((a : Int) < (e : Int)) = false := decide_eq_false hi
   have hg : gResult (strl s) e a = gTyp (strl s) e a := by unfold gResult; exact if_neg (fun h => hlt h.1)
   replace hg := zh hg; go_enter Tryz.func188, Tryz.ntmps188; go_wp2_with fail
   go_quiet (fail)
   obtain ⟨w1, hw1⟩ : ∃ w1, w1 = w.drewN nq := ⟨_, rfl⟩
   have hd1 := h.drewN nq; have td := (Wr.refl (· = p) w).drewN nq; rw [← hw1] at hd1 td ⊢; clear hw1 h c0 c1 c2; go_wp2_with fail; refine (typ_any hd1 hs he).mono ?_; rintro e' w' ⟨hW, ⟨v, a', v', hgt, ha', ⟨rfl, hv0, hv1⟩, rfl, hR⟩ | ⟨n, hgt, rfl⟩⟩
   · replace hgt := zh hgt; go_wp2_with fail; refine bodyPost_ret (by simp [results, Tryz.results188, go_sem] <;> rfl) rfl ?_; exact ⟨td.trans hW, .inl ⟨v, a', _, by rw [hg.out]; exact hgt.out, ha', ⟨rfl, hv0, hv1⟩, rfl, hR⟩⟩
   · exact ⟨rfl, td.trans hW, .inr ⟨n, by rw [hg.out]; exact hgt, rfl⟩⟩
def gPre {α : Type} (xs : List α) : Got (List α) → Got (List α)
 | .ok (r, b) => .ok (xs ++ r, b)
 | .error n => .error n
theorem gPre_ok {α : Type} {xs : List α} {f : Nat → Got α} {k a a' : Nat} {v : α} (h : f a = .ok (v, a')) : gPre xs (gMany f (k + 1) a) = gPre (xs ++ [v]) (gMany f k a') := by
 rw [show gMany f (k + 1) a = (f a).bind fun q => (gMany f k q.2).bind fun r => .ok (q.1 :: r.1, r.2) from rfl, rd_bind h]
 show gPre xs ((gMany f k a').bind fun r => .ok (v :: r.1, r.2)) = _
 cases hq : gMany f k a' with
 | error n => rfl
 | ok q =>
   show gPre xs (Except.ok (v :: q.1, q.2)) = gPre (xs ++ [v]) (.ok q)
   simp [gPre]
theorem gPre_err {α : Type} {xs : List α} {f : Nat → Got α} {k a : Nat} {n : Int} (h : f a = .error n) : gPre xs (gMany f (k + 1) a) = .error n := by rw [show gMany f (k + 1) a = (f a).bind fun q => (gMany f k q.2).bind fun r => .ok (q.1 :: r.1, r.2) from rfl, rd_err h]; rfl
theorem gCount_le {s : List UInt8} {e a a' : Nat} {v : Int} (h : gCount s e a = .ok (v, a')) : v ≤ 4096 := by
 unfold gCount at h; cases hg : gU s e a with
 | error n => rw [hg] at h; cases h
 | ok q =>
   rw [hg] at h; have h2 : (if q.1 ≤ 4096 then Except.ok q else .error 3 : Got Int) = .ok (v, a') := h; split at h2
   · cases h2
     assumption
   · cases h2
def Step {α : Type} (J : List α → Nat → World → Prop) (T : World → Prop) (e : Nat) (g : Nat → Got α) (k : Nat) (cap : Array Value) : Prop :=
 ∀ xs a w, a ≤ e → xs.length < 4096 → J xs a w → Calls Tryz.prog k cap w fun e' w' => (∃ v a', g a = .ok (v, a') ∧ a' ≤ e ∧ e' = .returned (.tuple #[]) ∧ J (xs ++ [v]) a' w') ∨ (∃ n, g a = .error n ∧ e' = .panicked (flt n) ∧ T w')
set_option maxRecDepth 100000 in
set_option maxHeartbeats 4000000 in
theorem each_any {α : Type} {J : List α → Nat → World → Prop} {T : World → Prop} {w : World} {p : Nat} {s : ByteArray} {a e : Nat} {l : Int} {cs : List Value} {g : Nat → Got α} {k : Nat} {cap : Array Value}
 (h : RdAt w p s (a : Int) (e : Int) l cs) (hs : s.size ≤ 262144) (he : e ≤ s.size) (ha : a ≤ e)
 (h0 : ∀ (a' : Nat) w', Wr (· = p) w w' → RdAt w' p s (a' : Int) (e : Int) l cs → J [] a' w') (hT : ∀ w', Wr (· = p) w w' → T w') (hst : Step J T e g k cap) (hcall : ∀ w, (callFunc k cap).run Tryz.prog w = .ok (.enter k cap) w) :
 Calls Tryz.prog 119 #[.pointer (some ⟨p, 0, none⟩), .func (Fn.func k) #[] cap] w fun e' w' => (∃ vs a', gEach (strl s) e a g = .ok (vs, a') ∧ a' ≤ e ∧ e' = .returned (.tuple #[]) ∧ J vs a' w') ∨ (∃ n, gEach (strl s) e a g = .error n ∧ e' = .panicked (flt n) ∧ T w') := by
 obtain ⟨R, hRR⟩ : ∃ R, gEach (strl s) e a g = R := ⟨_, rfl⟩
 rw [hRR]; replace hRR := zh hRR; replace hst := zh hst; replace h0 := zh h0; replace hT := zh hT; go_enter Tryz.func119, Tryz.ntmps119; go_wp2_with fail; refine (count_any h hs he ha).mono ?_; rintro e' w' ⟨hW, ⟨v, a1, v', hg, ha', ⟨rfl, hv0, hv1⟩, rfl, hR⟩ | ⟨n, hg, rfl⟩⟩
 · obtain ⟨m, rfl⟩ : ∃ m : Nat, v = (m : Int) := ⟨v.toNat, by omega⟩
   have hR1 : R = gPre [] (gMany g m a1) := by
    rw [← hRR.out]; unfold gEach; rw [rd_bind hg]
    show gMany g (m : Int).toNat a1 = _
    rw [Int.toNat_natCast]; cases gMany g m a1 with
    | error n => rfl
    | ok q => rfl
   have hJ := h0.out a1 w' hW hR
   have hm4 : m ≤ 4096 := by have := gCount_le hg; omega
   replace hg := zh hg; replace hR1 := zh hR1; replace hJ := zh hJ; replace hW := zh hW; replace hR := zh hR; go_wp2_with fail
   go_loopg [6] m (fun k' v6 wr => ∃ (i : Nat) (xs : List α) (ai : Nat), v6 = .int .i64 i ∧ i + k' = m ∧ ai ≤ e ∧ xs.length = i ∧ Hid (J xs ai wr) ∧ Hid (R = gPre xs (gMany g k' ai)))
   case atStart => exact ⟨0, [], a1, rfl, by omega, ha', rfl, hJ, hR1⟩
   case round =>
    obtain ⟨i, xs, ai, rfl, hik, hai, hxl, hJi, hRi⟩ := hrel; clear hJ hR1 hR hW
    by_cases hlt : i < m
    · obtain ⟨k1, rfl⟩ : ∃ k1, gk = k1 + 1 := ⟨gk - 1, by omega⟩
      have hi : (i : Int) < (m : Int) := (by omega)
      have hw : IntKind.i64.wrap ((i : Int) + 1) = (i : Int) + 1 := wid64 _ (by omega) (by omega); go_wp2_with fail; refine (hst.out xs ai wr hai (by omega) hJi.out).mono ?_; rintro e' w2 (⟨v, a2, hgv, ha2, rfl, hJ2⟩ | ⟨n, hgv, rfl, hT2⟩)
      · replace hJ2 := zh hJ2; replace hgv := zh hgv; go_wp2_with fail
        go_roundg k1
        case measure => omega
        case rel => exact ⟨i + 1, xs ++ [v], a2, by push_cast; rfl, by omega, ha2, by rw [List.length_append, hxl]; rfl, hJ2, zh (by rw [hRi.out]; exact gPre_ok hgv.out)⟩
      · exact ⟨rfl, .inr ⟨n, by rw [hRi.out]; exact gPre_err hgv, rfl, hT2⟩⟩
    · have hi : ¬ (i : Int) < (m : Int) := (by omega)
      obtain rfl : gk = 0 := by omega
      go_wp2_with fail; go_end0; exact .inl ⟨xs, ai, by rw [hRi.out]; show Except.ok (xs ++ [], ai) = _; rw [List.append_nil], hai, rfl, hJi.out⟩
 · exact ⟨rfl, .inr ⟨n, by rw [← hRR.out]; unfold gEach; rw [rd_err hg], rfl, hT.out _ hW⟩⟩
set_option maxRecDepth 100000 in
set_option maxHeartbeats 4000000 in
theorem long_any {α : Type} {J : α → Nat → Nat → World → Prop} {T : World → Prop} {w : World} {p : Nat} {s : ByteArray} {a e : Nat} {l : Int} {cs : List Value} {f : Nat → Nat → Got α} {k : Nat} {cap : Array Value}
 (h : RdAt w p s (a : Int) (e : Int) l cs) (hs : s.size ≤ 262144) (he : e ≤ s.size) (ha : a ≤ e) (hT : ∀ w', Wr (· = p) w w' → T w')
 (hst : ∀ a1 e1 w1, Wr (· = p) w w1 → RdAt w1 p s ((a1 : Nat) : Int) ((e1 : Nat) : Int) l cs → a1 ≤ e1 → e1 ≤ e → Calls Tryz.prog k cap w1 fun e' w' => (∃ v b, f e1 a1 = .ok (v, b) ∧ b ≤ e1 ∧ e' = .returned (.tuple #[]) ∧ J v b e1 w') ∨ (∃ n, f e1 a1 = .error n ∧ e' = .panicked (flt n) ∧ T w'))
 (hJr : ∀ v b e1 w', J v b e1 w' → ∃ l' cs', RdAt w' p s ((b : Nat) : Int) ((e1 : Nat) : Int) l' cs') (hJs : ∀ v b e1 w', J v b e1 w' → J v b e (w'.setCell ⟨p, 2, none⟩ (.int .i64 (e : Int)))) (hJT : ∀ v b e1 w', J v b e1 w' → T w')
 (hcall : ∀ w, (callFunc k cap).run Tryz.prog w = .ok (.enter k cap) w) :
 Calls Tryz.prog 80 #[.pointer (some ⟨p, 0, none⟩), .func (Fn.func k) #[] cap] w fun e' w' => (∃ v b, gLong (strl s) e a f = .ok (v, b) ∧ b ≤ e ∧ e' = .returned (.tuple #[]) ∧ J v b e w') ∨ (∃ n, gLong (strl s) e a f = .error n ∧ e' = .panicked (flt n) ∧ T w') := by
 obtain ⟨R, hRR⟩ : ∃ R, gLong (strl s) e a f = R := ⟨_, rfl⟩
 rw [hRR]; replace hRR := zh hRR; replace hst := zh hst; replace hT := zh hT; replace hJr := zh hJr; replace hJs := zh hJs; replace hJT := zh hJT; go_enter Tryz.func80, Tryz.ntmps80; go_wp2_with fail; refine (u_any h hs he ha).mono ?_; rintro e' w' ⟨hW, ⟨v, a1, v', hg, ha', ⟨rfl, hv0, hv1⟩, rfl, hR⟩ | ⟨n, hg, rfl⟩⟩
 · obtain ⟨m, rfl⟩ : ∃ m : Nat, v = (m : Int) := ⟨v.toNat, by omega⟩
   have hRb : R = (f (min (a1 + m) e) a1).bind fun r => if r.2 = a1 + m then .ok r else .error 50 := by rw [← hRR.out]; unfold gLong; rw [rd_bind hg, Int.toNat_natCast]
   have c1 := hR.c1; have c2 := hR.c2; obtain ⟨q, hq⟩ : ∃ q : Nat, q = a1 + m := ⟨_, rfl⟩
   rw [← hq] at hRb; have hw1 : IntKind.i64.wrap ((a1 : Int) + (m : Int)) = (q : Int) := (wid64 _ (by omega) (by omega)).trans (by omega); have hq1 : a1 ≤ q := (by omega)
   replace hq := zh hq; replace hg := zh hg; replace hRb := zh hRb
   go_upto_region 1 with (fail)
   go_quiet (fail)
   have hd := hR.drewN nq; have td := hW.drewN nq; obtain ⟨w1, hw1'⟩ : ∃ w1, w1 = w'.drewN nq := ⟨_, rfl⟩
   rw [← hw1'] at hd td ⊢; clear hw1' hR hW c1 c2 hw1 h; have f2 := hd.fr 2; have c2 := hd.c2
   go_upto_region 3 with (fail)
   obtain ⟨e1, he1⟩ : ∃ e1 : Nat, e1 = min q e := ⟨_, rfl⟩
   rw [show min (q : Int) (e : Int) = (e1 : Int) by omega]; have hd2 := hd.set2 (e1 : Int); have td2 := td.set (S := (· = p)) rfl 2 (.int .i64 (e1 : Int)); obtain ⟨w2, hw2'⟩ : ∃ w2, w2 = w1.setCell ⟨p, 2, none⟩ (.int .i64 (e1 : Int)) := ⟨_, rfl⟩
   rw [← hw2'] at hd2 td2 ⊢; clear hw2' hd td f2 c2; have hcl := hst.out a1 e1 w2 td2 hd2 (by omega) (by omega); rw [← he1] at hRb; have hee : e1 ≤ e := (by omega)
   replace he1 := zh he1; replace hcl := zh hcl; go_wp2_with fail; refine hcl.out.mono ?_; rintro e' w3 (⟨v, b, hf, hb, rfl, hJ⟩ | ⟨n, hf, rfl, hT3⟩)
   · obtain ⟨l', cs', hR3⟩ := hJr.out v b e1 w3 hJ
     have hRc : R = if b = q then .ok (v, b) else .error 50 := by rw [hRb.out, rd_bind hf]
     have c1 := hR3.c1; have f2 := hR3.fr 2; have c2 := hR3.c2; replace hf := zh hf; replace hRb := zh hRb
     by_cases hbq : b = q
     · rw [if_pos hbq] at hRc; have hbq' : ((b : Int) == (q : Int)) = true := (by rw [hbq]; simp)
       replace hbq := zh hbq; replace hRc := zh hRc; replace hJ := zh hJ; replace hR3 := zh hR3; go_wp2_with fail; refine (dwant_yes 50 w3).mono ?_; rintro e' w4 ⟨rfl, rfl⟩; go_wp2_with fail; go_end0; exact .inl ⟨v, b, hRc.out, by omega, rfl, hJs.out v b e1 w3 hJ.out⟩
     · rw [if_neg hbq] at hRc; have hbq' : ((b : Int) == (q : Int)) = false := (by rw [beq_eq_false_iff_ne]; omega)
       replace hbq := zh hbq; replace hRc := zh hRc; replace hJ := zh hJ; replace hR3 := zh hR3; go_wp2_with fail; refine (dwant_no 50 w3).mono ?_; rintro e' w4 ⟨rfl, rfl⟩; exact ⟨rfl, .inr ⟨50, hRc.out, rfl, hJT.out v b e1 w3 hJ.out⟩⟩
   · exact ⟨rfl, .inr ⟨n, by rw [hRb.out, rd_err hf], rfl, hT3⟩⟩
 · exact ⟨rfl, .inr ⟨n, by rw [← hRR.out]; unfold gLong; rw [rd_err hg], rfl, hT.out _ hW⟩⟩
end Go.Proofs.YtkbfjkbokifgkaaGreatDoor
