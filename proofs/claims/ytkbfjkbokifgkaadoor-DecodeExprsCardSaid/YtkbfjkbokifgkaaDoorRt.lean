/- The reader's counts, texts, names, results. -/
import Derived.Test.YtkbfjkbokifgkaaDoorRs
namespace Go.Proofs.YtkbfjkbokifgkaaDoor
open Go.RowKit
set_option linter.unusedVariables false
set_option linter.unusedSimpArgs false

def VCount (v : Int) (x : Value) : Prop := x = .int .i64 v ∧ 0 ≤ v ∧ v ≤ 4096
set_option maxRecDepth 100000 in
set_option maxHeartbeats 4000000 in
theorem count_any {w : World} {p : Nat} {s : ByteArray} {a e : Nat} {l : Int} {cs : List Value} (h : RdAt w p s (a : Int) (e : Int) l cs) (hs : s.size ≤ 262144) (he : e ≤ s.size) (ha : a ≤ e) :
    Calls Tryd.prog 79 #[.pointer (some ⟨p, 0, none⟩)] w (Rd VCount p s e l cs (gCount (strl s) e a) w) := by
  go_enter Tryd.func79, Tryd.ntmps79
  go_wp2_with fail
  refine (u_any h hs he ha).mono ?_
  rintro e' w' ⟨hW, ⟨v, a', v', hg, ha', ⟨rfl, hv0, hv1⟩, rfl, hR⟩ | ⟨n, hg, rfl⟩⟩
  · by_cases hb : v ≤ 4096
    · go_wp2_with fail
      refine (dwant_yes 3 w').mono ?_
      rintro e' w2 ⟨rfl, rfl⟩
      go_wp2_with fail
      refine bodyPost_ret (by simp [results, Tryd.results79, go_sem] <;> rfl) rfl ?_
      exact ⟨hW, .inl ⟨v, a', _, by unfold gCount; rw [rd_bind hg]; exact if_pos hb, ha', ⟨rfl, hv0, hb⟩, rfl, hR⟩⟩
    · have hbb : decide (v ≤ 4096) = false := decide_eq_false hb
      replace hb := Lib.hid hb
      go_wp2_with fail
      refine (dwant_no 3 w').mono ?_
      rintro e' w2 ⟨rfl, rfl⟩
      exact ⟨rfl, hW, .inr ⟨3, by unfold gCount; rw [rd_bind hg]; exact if_neg (by have := hb.out; show ¬ v ≤ 4096; omega), rfl⟩⟩
  · exact ⟨rfl, hW, .inr ⟨n, by unfold gCount; rw [rd_err hg], rfl⟩⟩
def VText (t : List UInt8) (x : Value) : Prop := x = .string (mkb t) ∧ t.length ≤ 262144
theorem ext_win {s : ByteArray} {a b : Nat} : s.extract a b = mkb (win (strl s) a b) := by
  apply ByteArray.ext
  unfold mkb win strl
  rw [ByteArray.data_extract]
  apply Array.toList_inj.1
  rw [Array.toList_extract, List.extract_eq_drop_take']
set_option maxRecDepth 100000 in
set_option maxHeartbeats 4000000 in
theorem rtext_any {w : World} {p : Nat} {s : ByteArray} {a e : Nat} {l : Int} {cs : List Value} (h : RdAt w p s (a : Int) (e : Int) l cs) (hs : s.size ≤ 262144) (he : e ≤ s.size) (ha : a ≤ e) :
    Calls Tryd.prog 60 #[.pointer (some ⟨p, 0, none⟩)] w (Rd VText p s e l cs (gText (strl s) e a) w) := by
  go_enter Tryd.func60, Tryd.ntmps60
  go_wp2_with fail
  refine (u_any h hs he ha).mono ?_
  rintro e' w' ⟨hW, ⟨v, a', v', hg, ha', ⟨rfl, hv0, hv1⟩, rfl, hR⟩ | ⟨n, hg, rfl⟩⟩
  · obtain ⟨m, rfl⟩ : ∃ m : Nat, v = (m : Int) := ⟨v.toNat, by omega⟩
    have c1 := hR.c1
    have c2 := hR.c2
    have hw1 : IntKind.i64.wrap ((e : Int) - (a' : Int)) = (e : Int) - (a' : Int) := wid64s _ (by omega) (by omega)
    by_cases hb : (m : Int) ≤ (e : Int) - (a' : Int)
    · replace hg := Lib.hid hg
      go_upto_region 2 with (fail)
      refine wp_region_still_tail 11 (by kernel_rfl) (by kernel_rfl) ?_
      simp only [List.take_succ_cons, List.take_zero, List.drop_succ_cons, List.drop_zero]
      repeat still_step
      refine wpStill_nil ?_
      change wpList _ _ _ _ _ w'.drew
      have hd := hR.drew
      have td := hW.drew
      obtain ⟨w1, hw1'⟩ : ∃ w1, w1 = w'.drew := ⟨_, rfl⟩
      rw [← hw1'] at hd td ⊢
      clear hw1' hR hW c1 c2
      have c1 := hd.c1
      have f1 := hd.fr 1
      obtain ⟨q, hq⟩ : ∃ q : Nat, q = a' + m := ⟨_, rfl⟩
      have hw2 : IntKind.i64.wrap ((a' : Int) + (m : Int)) = (a' : Int) + (m : Int) := wid64 _ (by omega) (by omega)
      go_wp2_with fail
      refine (dwant_yes 50 w1).mono ?_
      rintro e' w2 ⟨rfl, rfl⟩
      go_upto_region 4 with (fail)
      rw [show (a' : Int) + (m : Int) = (q : Int) by omega]
      have h2' := hd.set1 (q : Int)
      have t2 := td.set (S := (· = p)) rfl 1 (.int .i64 (q : Int))
      obtain ⟨w2, hw2'⟩ : ∃ w2, w2 = w1.setCell ⟨p, 1, none⟩ (.int .i64 (q : Int)) := ⟨_, rfl⟩
      rw [← hw2'] at h2' t2 ⊢
      clear hw2' hd td c1 f1 hw1 hw2
      have c0 := h2'.c0
      have c1 := h2'.c1
      have hw3 : IntKind.i64.wrap ((q : Int) - (m : Int)) = (a' : Int) := by rw [show (q : Int) - (m : Int) = a' by omega]; exact wid64 _ (by omega) (by omega)
      have b1 : (a' : Int) ≤ (q : Int) := by omega
      have b2 : (q : Int) ≤ (s.size : Int) := by omega
      replace hq := Lib.hid hq
      go_quiet (fail)
      go_wp2_with fail
      refine bodyPost_ret (by simp [results, Tryd.results60, go_sem] <;> rfl) rfl ?_
      have hqq := hq.out
      exact ⟨t2.drewN nq, .inl ⟨win (strl s) a' (a' + (m : Int).toNat), a' + (m : Int).toNat, _, by unfold gText; rw [rd_bind hg.out]; exact if_pos hb, by rw [Int.toNat_natCast]; omega, ⟨by rw [Int.toNat_natCast, ← hqq, ← ext_win], by unfold win; rw [List.length_drop, List.length_take, strl_length]; omega⟩, rfl, by rw [Int.toNat_natCast, ← hqq]; exact h2'.drewN nq⟩⟩
    · have hbb : decide ((m : Int) ≤ (e : Int) - (a' : Int)) = false := decide_eq_false hb
      replace hb := Lib.hid hb
      replace hg := Lib.hid hg
      go_upto_region 2 with (fail)
      refine wp_region_still_tail 11 (by kernel_rfl) (by kernel_rfl) ?_
      simp only [List.take_succ_cons, List.take_zero, List.drop_succ_cons, List.drop_zero]
      repeat still_step
      refine wpStill_nil ?_
      change wpList _ _ _ _ _ w'.drew
      go_wp2_with fail
      refine (dwant_no 50 w'.drew).mono ?_
      rintro e' w2 ⟨rfl, rfl⟩
      exact ⟨rfl, hW.drew, .inr ⟨50, by unfold gText; rw [rd_bind hg.out]; exact if_neg (by have := hb.out; show ¬ (m : Int) ≤ (e : Int) - a'; omega), rfl⟩⟩
  · exact ⟨rfl, hW, .inr ⟨n, by unfold gText; rw [rd_err hg], rfl⟩⟩
theorem cell_heap {w w' : World} {a : Addr} {v : Value} (h : w.cell? a = some v) (k : w'.heap[a.block]? = w.heap[a.block]?) : w'.cell? a = some v := by
  have hs := World.cell?_spot h
  obtain ⟨b, o, z⟩ := a
  cases hs
  have k' : w'.heap[b]? = w.heap[b]? := k
  unfold World.cell? at h ⊢
  rw [k']
  exact h
theorem TabU.wr {S : Nat → Prop} {w w' : World} (h : TabU w) (k : Wr S w w') (h3 : ¬ S (Tryd.laysValid_ren.g 3)) (h4 : ¬ S (Tryd.laysValid_ren.g 4)) : TabU w' :=
  ⟨fun c hc => cell_heap (h.1 c hc) (k.block _ (World.block_lt_of_cell? _ _ (h.1 c hc)) h3), fun i hi => ⟨cell_heap (h.2 i hi).1 (k.block _ (World.block_lt_of_cell? _ _ (h.2 i hi).1) h4), cell_heap (h.2 i hi).2 (k.block _ (World.block_lt_of_cell? _ _ (h.2 i hi).2) h4)⟩⟩
/-- The tables of UTF-8 lie, and apart from block p. -/
structure TabP (p : Nat) (w : World) : Prop where
  tab : TabU w
  h3 : Tryd.laysValid_ren.g 3 ≠ p
  h4 : Tryd.laysValid_ren.g 4 ≠ p
theorem TabP.wr {p : Nat} {w w' : World} (h : TabP p w) (k : Wr (· = p) w w') : TabP p w' := ⟨h.tab.wr k h.h3 h.h4, h.h3, h.h4⟩
set_option maxRecDepth 100000 in
set_option maxHeartbeats 4000000 in
theorem rname_any {w : World} {p : Nat} {s : ByteArray} {a e : Nat} {l : Int} {cs : List Value} (h : RdAt w p s (a : Int) (e : Int) l cs) (hs : s.size ≤ 262144) (he : e ≤ s.size) (ha : a ≤ e) (hT : TabP p w) :
    Calls Tryd.prog 67 #[.pointer (some ⟨p, 0, none⟩)] w (Rd VText p s e l cs (gName (strl s) e a) w) := by
  have hT' := Lib.hid hT
  clear hT
  go_enter Tryd.func67, Tryd.ntmps67
  go_wp2_with fail
  refine (rtext_any h hs he ha).mono ?_
  rintro e' w' ⟨hW, ⟨v, a', v', hg, ha', ⟨rfl, hl⟩, rfl, hR⟩ | ⟨n, hg, rfl⟩⟩
  · replace hg := Lib.hid hg
    go_wp2_with fail
    refine (name_any (mkb v) w' (by show v.toArray.size ≤ _; simp; omega) (hT'.out.wr hW).tab).mono ?_
    rintro e' w2 ⟨rfl, hB⟩
    replace hB := Lib.hid hB
    by_cases hb : nameB (mkb v) = true
    · rw [hb]
      go_wp2_with fail
      refine (dwant_yes 50 w2).mono ?_
      rintro e' w3 ⟨rfl, rfl⟩
      go_wp2_with fail
      refine bodyPost_ret (by simp [results, Tryd.results67, go_sem] <;> rfl) rfl ?_
      exact ⟨hW.trans (Wr.of_below hB.out), .inl ⟨v, a', _, by unfold gName; rw [rd_bind hg.out]; exact if_pos hb, ha', ⟨rfl, hl⟩, rfl, hR.below hB.out⟩⟩
    · have hb' : nameB (mkb v) = false := by simpa using hb
      rw [hb']
      replace hb := Lib.hid hb
      replace hb' := Lib.hid hb'
      go_wp2_with fail
      refine (dwant_no 50 w2).mono ?_
      rintro e' w3 ⟨rfl, rfl⟩
      exact ⟨rfl, hW.trans (Wr.of_below hB.out), .inr ⟨50, by unfold gName; rw [rd_bind hg.out]; show (if nameB (mkb v) = true then _ else _) = _; rw [hb'.out]; rfl, rfl⟩⟩
  · exact ⟨rfl, hW, .inr ⟨n, by unfold gName; rw [rd_err hg], rfl⟩⟩
set_option maxRecDepth 100000 in
set_option maxHeartbeats 4000000 in
theorem rresult_any {w : World} {p : Nat} {s : ByteArray} {a e : Nat} {l : Int} {cs : List Value} (h : RdAt w p s (a : Int) (e : Int) l cs) (hs : s.size ≤ 262144) (he : e ≤ s.size) :
    Calls Tryd.prog 85 #[.pointer (some ⟨p, 0, none⟩)] w (Rd VByte p s e l cs (gResult (strl s) e a) w) := by
  have c0 := h.c0
  have c1 := h.c1
  have c2 := h.c2
  by_cases hlt : a < e
  · have hi : (a : Int) < (e : Int) := by omega
    have hi2 : (a : Int) < (s.size : Int) := by omega
    have has : a < s.size := by omega
    have hget := str_get has
    obtain ⟨b, hb⟩ : ∃ b, b = s[a] := ⟨_, rfl⟩
    by_cases h64 : b.toNat = 64
    · have hg : gResult (strl s) e a = .ok (0, a + 1) := by
        unfold gResult
        rw [hget, ← hb]
        exact if_pos ⟨hlt, UInt8.toNat_inj.1 h64⟩
      have hd : ((s[a].toNat : Int) == 64) = true := by rw [← hb, h64]; rfl
      have hwp : IntKind.i64.wrap ((a : Int) + 1) = (a : Int) + 1 := wid64 _ (by omega) (by omega)
      replace hg := Lib.hid hg
      replace hget := Lib.hid hget
      replace h64 := Lib.hid h64
      replace hb := Lib.hid hb
      go_enter Tryd.func85, Tryd.ntmps85
      go_wp2_with fail
      go_quiet (fail)
      obtain ⟨w1, hw1⟩ : ∃ w1, w1 = w.drewN nq := ⟨_, rfl⟩
      have hd1 := h.drewN nq
      have td := (Wr.refl (· = p) w).drewN nq
      rw [← hw1] at hd1 td ⊢
      clear hw1 h c0 c1 c2
      have c1 := hd1.c1
      have f1 := hd1.fr 1
      go_wp2_with fail
      refine bodyPost_ret (by simp [results, Tryd.results85, go_sem] <;> rfl) rfl ?_
      exact ⟨td.set (S := (· = p)) rfl 1 _, .inl ⟨0, a + 1, _, hg.out, by omega, ⟨rfl, by omega, by omega⟩, rfl, hd1.set1 _⟩⟩
    · have hg : gResult (strl s) e a = gTyp (strl s) e a := by
        unfold gResult
        rw [hget, ← hb]
        exact if_neg (fun h => h64 (by have := congrArg UInt8.toNat h.2; simpa using this))
      have hd : ((s[a].toNat : Int) == 64) = false := by
        rw [← hb, beq_eq_false_iff_ne]
        omega
      replace hg := Lib.hid hg
      replace hget := Lib.hid hget
      replace h64 := Lib.hid h64
      replace hb := Lib.hid hb
      go_enter Tryd.func85, Tryd.ntmps85
      go_wp2_with fail
      go_quiet (fail)
      obtain ⟨w1, hw1⟩ : ∃ w1, w1 = w.drewN nq := ⟨_, rfl⟩
      have hd1 := h.drewN nq
      have td := (Wr.refl (· = p) w).drewN nq
      rw [← hw1] at hd1 td ⊢
      clear hw1 h c0 c1 c2
      go_wp2_with fail
      refine (typ_any hd1 hs he).mono ?_
      rintro e' w' ⟨hW, ⟨v, a', v', hgt, ha', ⟨rfl, hv0, hv1⟩, rfl, hR⟩ | ⟨n, hgt, rfl⟩⟩
      · replace hgt := Lib.hid hgt
        go_wp2_with fail
        refine bodyPost_ret (by simp [results, Tryd.results85, go_sem] <;> rfl) rfl ?_
        exact ⟨td.trans hW, .inl ⟨v, a', _, by rw [hg.out]; exact hgt.out, ha', ⟨rfl, hv0, hv1⟩, rfl, hR⟩⟩
      · exact ⟨rfl, td.trans hW, .inr ⟨n, by rw [hg.out]; exact hgt, rfl⟩⟩
  · have hi : ¬ (a : Int) < (e : Int) := by omega
    have hd : decide ((a : Int) < (e : Int)) = false := decide_eq_false hi
    have hg : gResult (strl s) e a = gTyp (strl s) e a := by
      unfold gResult
      exact if_neg (fun h => hlt h.1)
    replace hg := Lib.hid hg
    go_enter Tryd.func85, Tryd.ntmps85
    go_wp2_with fail
    go_quiet (fail)
    obtain ⟨w1, hw1⟩ : ∃ w1, w1 = w.drewN nq := ⟨_, rfl⟩
    have hd1 := h.drewN nq
    have td := (Wr.refl (· = p) w).drewN nq
    rw [← hw1] at hd1 td ⊢
    clear hw1 h c0 c1 c2
    go_wp2_with fail
    refine (typ_any hd1 hs he).mono ?_
    rintro e' w' ⟨hW, ⟨v, a', v', hgt, ha', ⟨rfl, hv0, hv1⟩, rfl, hR⟩ | ⟨n, hgt, rfl⟩⟩
    · replace hgt := Lib.hid hgt
      go_wp2_with fail
      refine bodyPost_ret (by simp [results, Tryd.results85, go_sem] <;> rfl) rfl ?_
      exact ⟨td.trans hW, .inl ⟨v, a', _, by rw [hg.out]; exact hgt.out, ha', ⟨rfl, hv0, hv1⟩, rfl, hR⟩⟩
    · exact ⟨rfl, td.trans hW, .inr ⟨n, by rw [hg.out]; exact hgt, rfl⟩⟩
end Go.Proofs.YtkbfjkbokifgkaaDoor
