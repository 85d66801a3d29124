/- The reference's reader: a text, a list of types. -/
import Derived.Test.YtkbfjkbokifgkaaGreatDoorUa
import Derived.Test.YtkbfjkbokifgkaaGreatDoorRt
import Derived.Test.YtkbfjkbokifgkaaGreatDoorPs
namespace Go.Proofs.YtkbfjkbokifgkaaGreatDoor
open Go.RowKit
set_option linter.unusedVariables false
set_option linter.unusedSimpArgs false

theorem rText_le (s : List UInt8) (r : RS) (h : r.a ≤ r.e) : (rText s r).2.a ≤ (rText s r).2.e := by
  have h1 := rU_le s r h
  have h2 := rU_in s r
  unfold rText
  split
  · exact h1
  · split
    · show ((rU s r).2.bad 50).a ≤ ((rU s r).2.bad 50).e
      unfold RS.bad
      split <;> exact h1
    · show (rU s r).2.a + (rU s r).1.toNat ≤ (rU s r).2.e
      omega
theorem go_text (s : List UInt8) : Go1 (rText s) := fun r => by
  have h1 := go_u s r
  have h2 := rU_in s r
  unfold rText
  split
  · exact h1
  · split
    · exact h1.trans (Mv.bad _ 50 (by decide))
    · exact h1.trans (Mv.to (by omega) (fun _ => by omega))
set_option maxRecDepth 100000 in
set_option maxHeartbeats 4000000 in
theorem qtext_any {w : World} {p : Nat} {s : ByteArray} {r : RS} (h : RrAt w p s r) (hs : s.size ≤ 262144) (ha : r.a ≤ r.e) (he : r.e ≤ s.size) :
    Calls Tryz.prog 82 #[.pointer (some ⟨p, 0, none⟩)] w (Rv VText p s (rText (strl s) r) w) := by
  obtain ⟨X, hX⟩ : ∃ X, X = rText (strl s) r := ⟨_, rfl⟩
  rw [← hX]
  unfold rText at hX
  replace hX := Lib.hid hX
  have hin := rU_in (strl s) r
  have hle := rU_le (strl s) r ha
  have hge := (go_u (strl s) r).e
  go_enter Tryz.func82, Tryz.ntmps82
  go_wp2_with fail
  refine (qu_any h hs ha he).mono ?_
  rintro e' w1 ⟨hW, v', rfl, rfl, hR⟩
  have hX2 := hX.out
  change RrAt w1 p s (rU (strl s) r).2 at hR
  have hBv : rNum (gU (strl s)) r = rU (strl s) r := rfl
  rw [hBv]
  obtain ⟨B, hBB⟩ : ∃ B, B = rU (strl s) r := ⟨_, rfl⟩
  rw [← hBB] at hR hX2 hin hle hge ⊢
  clear hBB hBv hX h
  obtain ⟨n, b⟩ := B
  dsimp only at hR hX2 hin hle hge ⊢
  obtain ⟨m, rfl⟩ : ∃ m : Nat, n = (m : Int) := ⟨n.toNat, by omega⟩
  have c4 := hR.c4
  by_cases hw : b.w = 0
  · have hq : (b.w != 0) = false := by rw [hw]; rfl
    rw [if_neg (by simp [hw])] at hX2
    have c1 := hR.c1
    have c2 := hR.c2
    have hw1 : IntKind.i64.wrap ((b.e : Int) - (b.a : Int)) = (b.e : Int) - (b.a : Int) := wid64s _ (by omega) (by omega)
    replace hw := Lib.hid hw
    by_cases hb : (b.e : Int) - b.a < (m : Int)
    · rw [if_pos hb] at hX2
      have hbb : decide ((b.e : Int) - b.a < (m : Int)) = true := decide_eq_true hb
      replace hX2 := Lib.hid hX2
      go_wp2_with fail
      go_quiet (fail)
      obtain ⟨w2, hw2⟩ : ∃ w2, w2 = w1.drewN nq := ⟨_, rfl⟩
      have hd := hR.drewN nq
      have td := hW.drewN nq
      rw [← hw2] at hd td ⊢
      clear hw2 hR hW c1 c2 c4 hw1
      go_wp2_with fail
      refine (qbad_any hd 50).mono ?_
      rintro e' w3 ⟨rfl, hW3, hR3⟩
      go_wp2_with fail
      refine bodyPost_ret (v := .string ⟨#[]⟩) (by simp [results, Tryz.results82, go_sem]) rfl ?_
      rw [hX2.out]
      exact ⟨td.trans hW3, _, ⟨rfl, by simp⟩, rfl, hR3⟩
    · rw [if_neg hb] at hX2
      have hbb : decide ((b.e : Int) - b.a < (m : Int)) = false := decide_eq_false hb
      replace hX2 := Lib.hid hX2
      go_wp2_with fail
      go_quiet (fail)
      obtain ⟨w2, hw2⟩ : ∃ w2, w2 = w1.drewN nq := ⟨_, rfl⟩
      have hd := hR.drewN nq
      have td := hW.drewN nq
      rw [← hw2] at hd td ⊢
      clear hw2 hR hW c1 c2 c4 hw1
      have c1 := hd.c1
      have f1 := hd.fr 1
      obtain ⟨q, hq⟩ : ∃ q : Nat, q = b.a + m := ⟨_, rfl⟩
      have hw2 : IntKind.i64.wrap ((b.a : Int) + (m : Int)) = (b.a : Int) + (m : Int) := wid64 _ (by omega) (by omega)
      go_upto_region 8 with (fail)
      rw [show (b.a : Int) + (m : Int) = (q : Int) by omega]
      have h2' := hd.set1 q
      have t2 := td.set (S := (· = p)) rfl 1 (.int .i64 (q : Int))
      obtain ⟨w3, hw3⟩ : ∃ w3, w3 = w2.setCell ⟨p, 1, none⟩ (.int .i64 (q : Int)) := ⟨_, rfl⟩
      rw [← hw3] at h2' t2 ⊢
      clear hw3 hd td c1 f1 hw2
      have c0 := h2'.c0
      have c1 := h2'.c1
      have hw3 : IntKind.i64.wrap ((q : Int) - (m : Int)) = (b.a : Int) := by rw [show (q : Int) - (m : Int) = b.a by omega]; exact wid64 _ (by omega) (by omega)
      have b1 : (b.a : Int) ≤ (q : Int) := by omega
      have b2 : (q : Int) ≤ (s.size : Int) := by omega
      replace hq := Lib.hid hq
      go_quiet (fail)
      go_wp2_with fail
      refine bodyPost_ret (by simp [results, Tryz.results82, go_sem] <;> rfl) rfl ?_
      have hqq := hq.out
      rw [hX2.out]
      rw [Int.toNat_natCast, ← hqq]
      exact ⟨t2.drewN nq, _, ⟨by rw [← ext_win], by unfold win; rw [List.length_drop, List.length_take, strl_length]; omega⟩, rfl, h2'.drewN nq⟩
  · have hq : (b.w != 0) = true := by simp [hw]
    rw [if_pos hw] at hX2
    replace hX2 := Lib.hid hX2
    replace hw := Lib.hid hw
    go_wp2_with fail
    refine bodyPost_ret (v := .string ⟨#[]⟩) (by simp [results, Tryz.results82, go_sem]) rfl ?_
    rw [hX2.out]
    exact ⟨hW, _, ⟨rfl, by simp⟩, rfl, hR⟩
theorem rTyp_le (s : List UInt8) (r : RS) (h : r.a ≤ r.e) : (rTyp s r).2.a ≤ (rTyp s r).2.e := by
  have h1 : (rByte s r).2.a ≤ (rByte s r).2.e := by
    unfold rByte
    split
    · exact h
    · split
      · unfold RS.bad
        split <;> exact h
      · show r.a + 1 ≤ r.e
        omega
  have hb : ∀ n, ((rByte s r).2.bad n).a ≤ ((rByte s r).2.bad n).e := fun n => by
    unfold RS.bad
    split <;> exact h1
  unfold rTyp
  split
  · exact h1
  · split
    · exact hb 51
    · split
      · exact hb 50
      · exact h1
set_option maxRecDepth 100000 in
set_option maxHeartbeats 4000000 in
theorem qtypes_any {w : World} {p : Nat} {s : ByteArray} {r : RS} (h : RrAt w p s r) (hs : s.size ≤ 262144) (ha : r.a ≤ r.e) (he : r.e ≤ s.size) :
    Calls Tryz.prog 144 #[.pointer (some ⟨p, 0, none⟩)] w fun e' w' => Wr (· = p) w w' ∧ RrAt w' p s (rEach (strl s) (rTyp (strl s)) r).2 ∧
      ∃ ao c, e' = .returned (.slice ao (rEach (strl s) (rTyp (strl s)) r).1.length c) ∧ w'.ownsRow w.heap.size 3 1 (.slice ao (rEach (strl s) (rTyp (strl s)) r).1.length c) (rEach (strl s) (rTyp (strl s)) r).1.length ((rEach (strl s) (rTyp (strl s)) r).1.map (Value.int .i64)) := by
  obtain ⟨i3, hi3, hz3, hs3, hb3⟩ := info_parts info3
  have hpw := h.lt
  have ham := (go_count (strl s) r)
  obtain ⟨X, hX⟩ : ∃ X, rEach (strl s) (rTyp (strl s)) r = X := ⟨_, rfl⟩
  have hX' : rMany (rTyp (strl s)) (rCount (strl s) r).1.toNat (rCount (strl s) r).2 = X := hX
  have hcin := rCount_in (strl s) r
  have hca : (rCount (strl s) r).2.a ≤ (rCount (strl s) r).2.e ∧ (rCount (strl s) r).2.e = r.e := by
    refine ⟨?_, ham.e⟩
    have := (rU_le (strl s) r ha)
    unfold rCount
    split
    · unfold RS.bad
      split <;> exact this
    · exact this
  rw [hX]
  clear hX ham
  go_enter Tryz.func144, Tryz.ntmps144
  go_wp2_with fail
  refine (qcount_any h hs ha he).mono ?_
  rintro e' w1 ⟨hW1, v', rfl, rfl, hR1⟩
  obtain ⟨n, hn⟩ : ∃ n : Nat, (n : Int) = (rCount (strl s) r).1 := ⟨(rCount (strl s) r).1.toNat, by omega⟩
  rw [← hn] at hX' hcin ⊢
  rw [Int.toNat_natCast] at hX'
  obtain ⟨r1, hr1⟩ : ∃ r1, r1 = (rCount (strl s) r).2 := ⟨_, rfl⟩
  rw [← hr1] at hX' hca hR1
  clear hr1 hn
  replace hX' := Lib.hid hX'
  replace hR1 := Lib.hid hR1
  replace hW1 := Lib.hid hW1
  clear h
  go_wp2_with fail
  go_loopg [3, 5] n (fun k v3 v5 wr => ∃ (xs : List Int) (ri : RS), v5 = .int .i64 (xs.length : Int) ∧ xs.length + k = n ∧ ri.a ≤ ri.e ∧ ri.e = r.e ∧ Hid (RrAt wr p s ri) ∧ Hid (Wr (· = p) w wr) ∧ Hid (wr.ownsRow w.heap.size 3 1 v3 xs.length (xs.map (Value.int .i64))) ∧ Hid ((xs ++ (rMany (rTyp (strl s)) k ri).1, (rMany (rTyp (strl s)) k ri).2) = X))
  case atStart => exact ⟨[], r1, rfl, by simp, hca.1, hca.2, hR1, hW1, Lib.hid (World.ownsRow_nil _ _ _ _), hX'⟩
  case round =>
    obtain ⟨xs, ri, rfl, hxk, hra, hre, hRi, hWi, hOi, hXi⟩ := hrel
    clear hR1 hW1 hX'
    have c4 := hRi.out.c4
    obtain ⟨ao, c, rfl⟩ := own_slice hOi.out
    cases gk with
    | zero =>
      have hlt : ¬ (xs.length : Int) < (n : Int) := by omega
      have hfin : (xs, ri) = X := by have := hXi.out; rw [rMany, List.append_nil] at this; exact this
      replace hfin := Lib.hid hfin
      go_wp2_with fail
      refine bodyPost_ret (by simp [results, Tryz.results144, go_sem] <;> rfl) rfl ?_
      rw [← hfin.out]
      exact ⟨hWi.out, hRi.out, _, _, rfl, hOi.out⟩
    | succ k1 =>
      have hlt : (xs.length : Int) < (n : Int) := by omega
      by_cases hw : ri.w = 0
      · have hq : (ri.w == 0) = true := by rw [hw]; rfl
        have hX2 : (xs ++ [(rTyp (strl s) ri).1] ++ (rMany (rTyp (strl s)) k1 (rTyp (strl s) ri).2).1, (rMany (rTyp (strl s)) k1 (rTyp (strl s) ri).2).2) = X := by
          have := hXi.out
          rw [rMany, if_neg (by simp [hw])] at this
          rw [List.append_assoc]
          exact this
        replace hw := Lib.hid hw
        replace hX2 := Lib.hid hX2
        have hmo := rTyp_le (strl s) ri hra
        have hme := (go_typ (strl s) ri).e
        go_wp2_with fail
        refine (qtyp_any hRi.out hs (by omega)).mono ?_
        rintro e' w2 ⟨hW2, v', rfl, rfl, hR2⟩
        have hBB : ∃ B, B = rTyp (strl s) ri := ⟨_, rfl⟩
        change RrAt w2 p s (rTyp (strl s) ri).2 at hR2
        obtain ⟨B, hBB⟩ := hBB
        rw [← hBB] at hR2 hX2 hmo hme
        have hBv : rTyp (strl s) ri = B := hBB.symm
        rw [hBv]
        clear hBB hBv
        have hO2 := own_same (w' := w2) hOi.out fun g hg => hW2.block g (hOi.out.lt g hg).2 (fun e => by have := (hOi.out.lt g hg).1; omega)
        have hBa : Below w2.heap.size w2 (w2.alloc (.cells #[.int .i64 B.1] 3)) := (Below.refl _ _).alloc (Nat.le_refl _) _
        have hO3 := own_below hO2 hBa
        have hR3 := hR2.below hBa
        have hW3 := (hWi.out.trans hW2).trans (Wr.of_below hBa)
        have hsz := hWi.out.size
        have hsz2 := hW2.size
        have hwn : IntKind.i64.wrap ((xs.length : Int) + 1) = ((xs.length + 1 : Nat) : Int) := (wid64 _ (by omega) (by omega)).trans (by omega)
        replace hO3 := Lib.hid hO3
        replace hR3 := Lib.hid hR3
        replace hW3 := Lib.hid hW3
        clear hO2 hR2 hW2 hBa c4
        go_wp2_with (first | (at_builtin; refine wpList_append_lies _ rfl _ _ _ rfl w.heap.size 3 i3 (.int .i64 0) 1 8 Tryz.underlying29 hi3 hz3 hs3 hb3 rfl (by decide) (.slice ao xs.length c) xs.length (xs.map (Value.int .i64)) (by rfl) hO3.out ⟨w2.heap.size, 0, none⟩ 1 1 [.int .i64 B.1] (by rfl) (by rfl) (World.news_of_block (cs := #[.int .i64 B.1]) (t := 3) (fr := (0, 0)) (heap_alloc_new _ _)) (by intro u hu; simp only [List.mem_cons, List.mem_nil_iff, or_false] at hu; subst hu; rfl) (by omega) (by unfold maxLen; omega) (by omega) (by simp; omega) (w2.heap.size + 1) (by simp) ?_; intro g cap w5 hown hgrow hat hlt5))
        have hrw : ∀ j, (Value.slice ao xs.length c).ownBlock = some j → w.heap.size ≤ j := fun j hj => (hO3.out.lt j hj).1
        have hR5 : RrAt w5 p s B.2 := ⟨(hgrow.block p hR3.out.lt (fun e => by have := hrw p e.symm; omega)).trans hR3.out.row⟩
        have hW5 : Wr (· = p) w w5 := hW3.out.newer (Wr.of_grown (S := fun j => (Value.slice ao xs.length c).ownBlock = some j) hgrow fun j e _ => e) (fun j e hj => by have := hrw j e; omega)
        have hO5 : w5.ownsRow w.heap.size 3 1 (.slice (some ⟨g, 0, none⟩) (xs.length + 1) cap) (xs ++ [B.1]).length ((xs ++ [B.1]).map (Value.int .i64)) := by
          rw [List.length_append, List.map_append]
          exact hown
        replace hR5 := Lib.hid hR5
        replace hW5 := Lib.hid hW5
        replace hO5 := Lib.hid hO5
        clear hown hgrow hat
        go_roundg k1
        case measure => omega
        case rel => exact ⟨xs ++ [B.1], B.2, by rw [List.length_append]; simp, by rw [List.length_append]; simp only [List.length_cons, List.length_nil]; omega, hmo, hme.trans hre, hR5, hW5, hO5, hX2⟩
      · have hq : (ri.w == 0) = false := beq_eq_false_iff_ne.2 hw
        have hfin : (xs, ri) = X := by have := hXi.out; rw [rMany, if_pos hw, List.append_nil] at this; exact this
        replace hfin := Lib.hid hfin
        replace hw := Lib.hid hw
        go_wp2_with fail
        refine bodyPost_ret (by simp [results, Tryz.results144, go_sem] <;> rfl) rfl ?_
        rw [← hfin.out]
        exact ⟨hWi.out, hRi.out, _, _, rfl, hOi.out⟩
end Go.Proofs.YtkbfjkbokifgkaaGreatDoor

namespace Go.Proofs.YtkbfjkbokifgkaaGreatDoor
open Go.RowKit
set_option linter.unusedVariables false
set_option linter.unusedSimpArgs false

theorem RrAt.far {w : World} {p : Nat} {s : ByteArray} {r : RS} (h : RrAt w p s r) {q : Nat} (hq : p ≠ q) (j : Nat) (u : Value) : RrAt (w.setCell ⟨q, j, none⟩ u) p s r := ⟨(Below.heap_setCell _ _ _ _ hq).trans h.row⟩
theorem rByte_le (s : List UInt8) (r : RS) (h : r.a ≤ r.e) : (rByte s r).2.a ≤ (rByte s r).2.e := by
  unfold rByte
  split
  · exact h
  · split
    · unfold RS.bad
      split <;> exact h
    · show r.a + 1 ≤ r.e
      omega
theorem bad_le {r : RS} (n : Int) (h : r.a ≤ r.e) : (r.bad n).a ≤ (r.bad n).e := by
  unfold RS.bad
  split <;> exact h
theorem bad_e (r : RS) (n : Int) : (r.bad n).e = r.e := by
  unfold RS.bad
  split <;> rfl
set_option maxRecDepth 100000 in
set_option maxHeartbeats 8000000 in
theorem qlimits_any {w : World} {p : Nat} {s : ByteArray} {r : RS} (h : RrAt w p s r) (hs : s.size ≤ 262144) (ha : r.a ≤ r.e) (he : r.e ≤ s.size) :
    Calls Tryz.prog 146 #[.pointer (some ⟨p, 0, none⟩)] w (Rv VLim p s (rLimits (strl s) r) w) := by
  obtain ⟨q, hq⟩ : ∃ q, q = w.heap.size := ⟨_, rfl⟩
  have hB0 : Below w.heap.size w (w.alloc (.cells #[.int .i64 0, .int .i64 0, .bool false] 86)) := (Below.refl _ _).alloc (Nat.le_refl _) _
  have hR0 := h.below hB0
  have hK0 : Bk (w.alloc (.cells #[.int .i64 0, .int .i64 0, .bool false] 86)) q [.int .i64 0, .int .i64 0, .bool false] 86 := by rw [hq]; exact Bk.new _ _ _
  have hW0 : Wr (· = p) w (w.alloc (.cells #[.int .i64 0, .int .i64 0, .bool false] 86)) := Wr.of_below hB0
  have hpq : p < q := by rw [hq]; exact h.lt
  have hble := rByte_le (strl s) r ha
  have hbe := (go_byte (strl s) r).e
  clear h
  obtain ⟨X, hX⟩ : ∃ X, X = rLimits (strl s) r := ⟨_, rfl⟩
  rw [← hX]
  unfold rLimits at hX
  dsimp only at hX
  replace hX := Lib.hid hX
  go_enter Tryz.func146, Tryz.ntmps146
  go_upto_region 1 with (fail)
  rw [← hq]
  obtain ⟨w0, hw0⟩ : ∃ w0, w0 = w.alloc (.cells #[.int .i64 0, .int .i64 0, .bool false] 86) := ⟨_, rfl⟩
  rw [← hw0] at hR0 hK0 hW0 ⊢
  clear hw0 hB0
  replace hq := Lib.hid hq
  replace hW0 := Lib.hid hW0
  replace hK0 := Lib.hid hK0
  go_wp2_with fail
  refine (qbyte_any hR0 hs he).mono ?_
  rintro e' w1 ⟨hW1, v', rfl, rfl, hR1⟩
  have hW1' := hW0.out.trans hW1
  have hK1 := hK0.out.wr hW1 (by omega)
  have hX2 := hX.out
  obtain ⟨B, hB⟩ : ∃ B, B = rByte (strl s) r := ⟨_, rfl⟩
  rw [← hB] at hR1 hX2 hble hbe ⊢
  clear hB hX hW1 hK0 hW0 hR0
  obtain ⟨b, r0⟩ := B
  dsimp only at hR1 hX2 hble hbe ⊢
  obtain ⟨r1, hr1⟩ : ∃ r1, r1 = if 1 < b then r0.bad 50 else r0 := ⟨_, rfl⟩
  rw [← hr1] at hX2
  have h1a : r1.a ≤ r1.e := by rw [hr1]; split; exact bad_le 50 hble; exact hble
  have h1e : r1.e = r.e := by rw [hr1]; split; exact (bad_e _ _).trans hbe; exact hbe
  obtain ⟨d, hd⟩ : ∃ d : Bool, (b == 1) = d := ⟨_, rfl⟩
  have hdp : (b = 1) = (d = true) := by rw [← hd]; simp
  simp only [hdp] at hX2
  replace hX2 := Lib.hid hX2
  clear hdp
  by_cases hb : 1 < b
  case' pos =>
    rw [if_pos hb] at hr1
    have hbb : decide (1 < b) = true := decide_eq_true hb
    replace hr1 := Lib.hid hr1
    go_wp2_with fail
    refine (qbad_any hR1 50).mono ?_
    rintro e' wy ⟨rfl, hWy, hRy⟩
    rw [← hr1.out] at hRy
    have hKy := hK1.wr hWy (by omega)
    replace hWy := hW1'.trans hWy
  case' neg =>
    rw [if_neg hb] at hr1
    have hbb : decide (1 < b) = false := decide_eq_false hb
    subst hr1
    obtain ⟨wy, hwy⟩ : ∃ wy, wy = w1 := ⟨_, rfl⟩
    subst hwy
    have hRy := hR1
    have hWy := hW1'
    have hKy := hK1
  all_goals
    clear hR1 hW1' hK1
    replace hKy := Lib.hid hKy
    replace hWy := Lib.hid hWy
    replace hRy := Lib.hid hRy
    go_upto_region 5 with (fail)
    have hB1 : Below wy.heap.size wy (wy.alloc (.cells #[.int .i64 0, .int .i64 0, .bool d] 86)) := (Below.refl _ _).alloc (Nat.le_refl _) _
    have hR2 := hRy.out.below hB1
    have hK2 := hKy.out.below hB1
    have hW2 := hWy.out.trans (Wr.of_below hB1)
    have hX3 := Bk.new wy [.int .i64 0, .int .i64 0, .bool d] 86
    have hqx : q < wy.heap.size := hKy.out.lt
    obtain ⟨x, hx⟩ : ∃ x, x = wy.heap.size := ⟨_, rfl⟩
    obtain ⟨w2, hw2⟩ : ∃ w2, w2 = wy.alloc (.cells #[.int .i64 0, .int .i64 0, .bool d] 86) := ⟨_, rfl⟩
    rw [← hx] at hX3 hqx ⊢
    rw [show (wy.alloc (.cells [.int .i64 0, .int .i64 0, .bool d].toArray 86)) = w2 from hw2.symm] at hX3
    rw [← hw2] at hR2 hK2 hW2 ⊢
    clear hw2 hB1 hRy hKy hWy
    have hwx : w.heap.size ≤ x := by rw [hq.out] at hqx; omega
    replace hx := Lib.hid hx
    replace hK2 := Lib.hid hK2
    replace hW2 := Lib.hid hW2
    replace hX3 := Lib.hid hX3
    replace hR2 := Lib.hid hR2
    have hul := rU_le (strl s) r1 h1a
    have hue := (go_u (strl s) r1).e
    go_wp2_with fail
    refine (qu_any hR2.out hs h1a (by omega)).mono ?_
    rintro e' w3 ⟨hW3, v', rfl, rfl, hR3⟩
    change RrAt w3 p s (rU (strl s) r1).2 at hR3
    have hBv : rNum (gU (strl s)) r1 = rU (strl s) r1 := rfl
    rw [hBv]
    have hX4 := hX2.out
    obtain ⟨N, hN⟩ : ∃ N, N = rU (strl s) r1 := ⟨_, rfl⟩
    rw [← hN] at hR3 hX4 hul hue ⊢
    clear hN hBv hX2
    obtain ⟨n, r3⟩ := N
    dsimp only at hR3 hX4 hul hue ⊢
    replace hX4 := Lib.hid hX4
    have hW3' := hW2.out.trans hW3
    have hK3 := hK2.out.wr hW3 (by omega)
    have hX5 := hX3.out.wr hW3 (by omega)
    have x0 := hX5.cell (j := 0) rfl
    have fx := hX5.fr 0
    clear hW3 hK2 hW2 hR2 hX3
    go_upto_region 6 with (fail)
    have hR4 := hR3.far (q := x) (by omega) 0 (.int .i64 n)
    have hK4 := hK3.far (p := x) (by omega) 0 (.int .i64 n)
    have hX6 := hX5.set 0 (.int .i64 n)
    have hW4 := hW3'.fresh (q := x) hwx 0 (.int .i64 n)
    obtain ⟨w4, hw4⟩ : ∃ w4, w4 = w3.setCell ⟨x, 0, none⟩ (.int .i64 n) := ⟨_, rfl⟩
    rw [← hw4] at hR4 hK4 hX6 hW4 ⊢
    clear hw4 hR3 hK3 hX5 hW3' x0 fx
    have x2 := hX6.cell (j := 2) rfl
    have fin : ∀ (wz : World) (rz : RS) (mx : Int), Bk wz x [.int .i64 n, .int .i64 mx, .bool d] 86 → Bk wz q [.int .i64 0, .int .i64 0, .bool false] 86 → Wr (· = p) w wz → RrAt wz p s rz →
        Wr (· = p) w (((wz.setCell ⟨q, 0, none⟩ (.int .i64 n)).setCell ⟨q, 1, none⟩ (.int .i64 mx)).setCell ⟨q, 2, none⟩ (.bool d)) ∧ Bk (((wz.setCell ⟨q, 0, none⟩ (.int .i64 n)).setCell ⟨q, 1, none⟩ (.int .i64 mx)).setCell ⟨q, 2, none⟩ (.bool d)) q [.int .i64 n, .int .i64 mx, .bool d] 86 ∧
        RrAt (((wz.setCell ⟨q, 0, none⟩ (.int .i64 n)).setCell ⟨q, 1, none⟩ (.int .i64 mx)).setCell ⟨q, 2, none⟩ (.bool d)) p s rz := fun wz rz mx hX hK hW hR =>
      ⟨((hW.fresh (Nat.le_of_eq hq.out.symm) 0 _).fresh (Nat.le_of_eq hq.out.symm) 1 _).fresh (Nat.le_of_eq hq.out.symm) 2 _, ((hK.set 0 _).set 1 _).set 2 _, ((hR.far (by omega) 0 _).far (by omega) 1 _).far (by omega) 2 _⟩
    cases d
    · have hfin : X = ((n, 0, false), r3) := by rw [hX4.out]; rfl
      have F := fin w4 r3 0 hX6 hK4 hW4 hR4
      have y0 := hX6.cell (j := 0) rfl
      have y1 := hX6.cell (j := 1) rfl
      have z0 := hK4.cell (j := 0) rfl
      have z1 := hK4.cell (j := 1) rfl
      have z2 := hK4.cell (j := 2) rfl
      have q0 := hK4.fr 0
      have q1 := hK4.fr 1
      have q2 := hK4.fr 2
      replace hfin := Lib.hid hfin
      replace F := Lib.hid F
      clear fin
      go_wp2_with fail
      refine bodyPost_ret (results_cell_row (P := Tryz.prog) rfl _ _ q 86 #[.int .i64 n, .int .i64 0, .bool false] (0, 0) _ rfl F.out.2.1.row Tryz.underlying86 rfl info110) rfl ?_
      rw [hfin.out]
      exact ⟨F.out.1, _, rfl, rfl, F.out.2.2⟩
    · replace hK4 := Lib.hid hK4
      replace hW4 := Lib.hid hW4
      replace hX6 := Lib.hid hX6
      replace hR4 := Lib.hid hR4
      replace fin := Lib.hid fin
      go_wp2_with fail
      refine (qu_any hR4.out hs hul (by omega)).mono ?_
      rintro e' w5 ⟨hW5, v', rfl, rfl, hR5⟩
      change RrAt w5 p s (rU (strl s) r3).2 at hR5
      have hBv : rNum (gU (strl s)) r3 = rU (strl s) r3 := rfl
      rw [hBv]
      have hfin : X = ((n, (rU (strl s) r3).1, true), (rU (strl s) r3).2) := by rw [hX4.out]; rfl
      obtain ⟨M, hM⟩ : ∃ M, M = rU (strl s) r3 := ⟨_, rfl⟩
      rw [← hM] at hR5 hfin ⊢
      clear hM hBv
      obtain ⟨mx, r5⟩ := M
      dsimp only at hR5 hfin ⊢
      have hW5' := hW4.out.trans hW5
      have hK5 := hK4.out.wr hW5 (by omega)
      have hX7 := hX6.out.wr hW5 (by omega)
      have x1 := hX7.cell (j := 1) rfl
      have fx := hX7.fr 1
      clear hW5 hK4 hW4 hR4 hX6 x2
      go_upto_region 8 with (fail)
      have hR6 := hR5.far (q := x) (by omega) 1 (.int .i64 mx)
      have hK6 := hK5.far (p := x) (by omega) 1 (.int .i64 mx)
      have hX8 := hX7.set 1 (.int .i64 mx)
      have hW6 := hW5'.fresh (q := x) hwx 1 (.int .i64 mx)
      obtain ⟨w6, hw6⟩ : ∃ w6, w6 = w5.setCell ⟨x, 1, none⟩ (.int .i64 mx) := ⟨_, rfl⟩
      rw [← hw6] at hR6 hK6 hX8 hW6 ⊢
      clear hw6 hR5 hK5 hX7 hW5' x1 fx
      have F := fin.out w6 r5 mx hX8 hK6 hW6 hR6
      have y0 := hX8.cell (j := 0) rfl
      have y1 := hX8.cell (j := 1) rfl
      have y2 := hX8.cell (j := 2) rfl
      have z0 := hK6.cell (j := 0) rfl
      have z1 := hK6.cell (j := 1) rfl
      have z2 := hK6.cell (j := 2) rfl
      have q0 := hK6.fr 0
      have q1 := hK6.fr 1
      have q2 := hK6.fr 2
      replace hfin := Lib.hid hfin
      replace F := Lib.hid F
      go_wp2_with fail
      refine bodyPost_ret (results_cell_row (P := Tryz.prog) rfl _ _ q 86 #[.int .i64 n, .int .i64 mx, .bool true] (0, 0) _ rfl F.out.2.1.row Tryz.underlying86 rfl info110) rfl ?_
      rw [hfin.out]
      exact ⟨F.out.1, _, rfl, rfl, F.out.2.2⟩
end Go.Proofs.YtkbfjkbokifgkaaGreatDoor
