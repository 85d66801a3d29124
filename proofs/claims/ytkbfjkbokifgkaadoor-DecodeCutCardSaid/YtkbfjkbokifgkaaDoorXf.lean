/- ends: where sections end. -/
import Derived.Test.YtkbfjkbokifgkaaDoorUa
import Derived.Test.YtkbfjkbokifgkaaDoorXa
import Derived.Maps.AppendAt
import Derived.OwnWalk
import Derived.Test.YtkbfjkbokifgkaaDoorLt
import Derived.SizedLaws
import Derived.ChangeMaps5
namespace Go.Proofs.YtkbfjkbokifgkaaDoor
open Go.RowKit
set_option linter.unusedVariables false
set_option linter.unusedSimpArgs false

def intsV (l : List Nat) : List Value := l.map fun (n : Nat) => Value.int .i64 (n : Int)
theorem gU_from {s : ByteArray} {a : Nat} : gU (strl s) s.size a = match grp 5 (from_ s a) with | some (n, c) => if n < 4294967296 then .ok ((n : Int), a + c) else .error 50 | none => .error 50 := by
  unfold gU win from_
  rw [List.take_of_length_le (by rw [strl_length]; exact Nat.le_refl _)]
  rfl
/-- The row that is being appended to. -/
structure EnAt (w0 w : World) (v : Value) (xs : List Nat) : Prop where
  own : w.ownsRow w0.heap.size 3 1 v xs.length (intsV xs)
  below : Below w0.heap.size w0 w
set_option maxRecDepth 100000 in
set_option maxHeartbeats 4000000 in
theorem ends_any {w : World} {s : ByteArray} (hs : s.size ≤ 262144) (h8 : 8 ≤ s.size) : Calls Tryd.prog 9 #[.string s] w fun e w' => ∃ v, e = .returned v ∧ EnAt w w' v (8 :: endsOf (strl s) (s.size + 1) 8) := by
  obtain ⟨i3, hi3, hz3, hs3, hb3⟩ := info_parts info3
  obtain ⟨X, hX⟩ : ∃ X, 8 :: endsOf (strl s) (s.size + 1) 8 = X := ⟨_, rfl⟩
  rw [hX]
  replace hX := Lib.hid hX
  have hB : Below w.heap.size w (w.alloc (.cells #[.int .i64 8] 3)) := (Below.refl _ _).alloc (Nat.le_refl _) _
  have hE0 : EnAt w (w.alloc (.cells #[.int .i64 8] 3)) (.slice (some ⟨w.heap.size, 0, none⟩) 1 1) [8] := ⟨⟨rfl, .inr ⟨w.heap.size, 1, _, rfl, Nat.le_refl _, heap_alloc_new _ _, Nat.le_refl _, by decide, rfl, rfl⟩⟩, hB⟩
  go_enter Tryd.func9, Tryd.ntmps9
  go_wp2_with fail
  obtain ⟨w1, hw1⟩ : ∃ w1, w1 = w.alloc (.cells #[.int .i64 8] 3) := ⟨_, rfl⟩
  rw [← hw1] at hE0 ⊢
  clear hw1 hB
  go_loopg [3, 4] (s.size + 1) (fun k v3 v4 wr => ∃ (a : Nat) (xs : List Nat), v4 = .int .i64 a ∧ a ≤ s.size ∧ s.size - a < k ∧ 1 ≤ xs.length ∧ xs.length + (s.size - a) ≤ s.size + 1 ∧ Hid (EnAt w wr v3 xs) ∧ Hid (xs ++ endsOf (strl s) k a = X))
  case atStart => exact ⟨8, [8], rfl, h8, by omega, by simp, by simp; omega, Lib.hid hE0, Lib.hid hX.out⟩
  case round =>
    obtain ⟨a, xs, rfl, ha, hk, hx1, hxl, hE, hXe⟩ := hrel
    clear hE0
    obtain ⟨k1, rfl⟩ : ∃ k1, gk = k1 + 1 := ⟨gk - 1, by omega⟩
    obtain ⟨g, cap, rfl⟩ : ∃ g cap, u3 = .slice (some ⟨g, 0, none⟩) xs.length cap := by
      rcases hE.out.own.2 with ⟨_, h0⟩ | ⟨g, cap, cur, h, _⟩
      · omega
      · exact ⟨g, cap, h⟩
    by_cases hlt : a < s.size
    · have hlt' : (a : Int) < (s.size : Int) := by omega
      have hwa : IntKind.i64.wrap ((a : Int) + 1) = ((a + 1 : Nat) : Int) := (wid64 _ (by omega) (by omega)).trans (by omega)
      go_wp2_with fail
      refine (rU_any s hs (a + 1) (by omega) wr).mono ?_
      rintro e' w2 ⟨hR, rfl⟩
      rcases hR with ⟨n, c, hg, hn, rfl⟩ | ⟨hbad, rfl⟩
      · have hlen : (strl s).length = s.size := strl_length s
        by_cases hfit : n ≤ s.size - (a + 1 + c)
        · have hac : a + 1 + c ≤ s.size := by
            obtain ⟨_, _, _, h4, _⟩ := grp_some _ _ _ _ hg
            rw [from_len] at h4
            omega
          have hXe2 : (xs ++ [a + 1 + c + n]) ++ endsOf (strl s) k1 (a + 1 + c + n) = X := by
            have h := hXe.out
            rw [endsOf, if_pos (by rw [strl_length]; exact hlt), strl_length, gU_from, hg] at h
            dsimp only at h
            rw [if_pos hn] at h
            dsimp only at h
            rw [if_pos (by omega), Int.toNat_natCast] at h
            rw [List.append_assoc]
            exact h
          replace hXe2 := Lib.hid hXe2
          have hc1 : 1 ≤ c := (grp_some _ _ _ _ hg).2.1
          have hq0 : IntKind.i64.wrap (n : Int) = (n : Int) := wid64 _ (by omega) (by omega)
          have hq1 : IntKind.i64.wrap ((s.size : Int) - ((a + 1 + c : Nat) : Int)) = ((s.size - (a + 1 + c) : Nat) : Int) := (wid64 _ (by omega) (by omega)).trans (by omega)
          have hq2 : IntKind.i64.wrap (((a + 1 + c : Nat) : Int) + (n : Int)) = ((a + 1 + c + n : Nat) : Int) := (wid64 _ (by omega) (by omega)).trans (by omega)
          have hq3 : ¬ ((s.size - (a + 1 + c) : Nat) : Int) < (n : Int) := by omega
          obtain ⟨c2, hc2⟩ : ∃ c2, c2 = a + 1 + c := ⟨_, rfl⟩
          rw [← hc2] at hq1 hq2 hq3 hXe2 ⊢
          have hYc : ((a : Int) + 1 + (c : Int) + (n : Int)) = ((c2 + n : Nat) : Int) := by omega
          replace hYc := Lib.hid hYc
          have hBa : Below w2.heap.size w2 (w2.alloc (.cells #[.int .i64 ((a : Int) + 1 + (c : Int) + (n : Int))] 3)) := (Below.refl _ _).alloc (Nat.le_refl _) _
          have hown := own_same (w' := w2.alloc (.cells #[.int .i64 ((a : Int) + 1 + (c : Int) + (n : Int))] 3)) hE.out.own fun g hg => hBa.block g (hE.out.own.lt g hg).2
          have hbs := hE.out.below.size
          replace hlen := Lib.hid hlen
          go_wp2_with (at_builtin; refine wpList_append_own_at _ rfl _ _ 29 rfl w.heap.size 3 i3 (.int .i64 0) 1 8 Tryd.underlying29 hi3 hz3 hs3 hb3 rfl (by decide) _ _ _ rfl hown ⟨w2.heap.size, 0, none⟩ 1 1 [.int .i64 ((a : Int) + 1 + (c : Int) + (n : Int))] rfl rfl (World.news_of_block (cs := #[.int .i64 ((a : Int) + 1 + (c : Int) + (n : Int))]) (t := 3) (fr := (0, 0)) (heap_alloc_new _ _)) (by intro u hu; simp only [List.mem_cons, List.mem_nil_iff, or_false] at hu; subst hu; rfl) (by unfold maxLen; omega) (by omega) (by simp; omega) ?_; intro v' w5 h1 h2 hnil h3)
          have hE5 : EnAt w w5 v' (xs ++ [c2 + n]) := by
            refine ⟨?_, ?_⟩
            · have := h1
              rw [List.length_append]
              unfold intsV at this ⊢
              rw [List.map_append]
              rw [hYc.out] at this
              exact this
            · have hgr := h2
              refine ⟨hgr.os.trans (hBa.os.trans hE.out.below.os), hgr.tape.trans (hBa.tape.trans hE.out.below.tape), hgr.output.trans (hBa.output.trans hE.out.below.output), ?_, fun j hj => ?_⟩
              · have := hgr.size; have := hBa.size; omega
              · rw [hgr.block j (by have := hBa.size; omega) (fun e => by have := (hE.out.own.lt j e.symm).1; omega), hBa.block j (by omega), hE.out.below.block j hj]
          replace hE5 := Lib.hid hE5
          go_roundg k1
          case measure => omega
          case rel => exact ⟨c2 + n, xs ++ [c2 + n], by rw [hYc.out], by omega, by omega, by rw [List.length_append]; omega, by rw [List.length_append]; simp only [List.length_cons, List.length_nil]; omega, hE5, hXe2⟩
        · have hfin : xs = X := by
            have h := hXe.out
            rw [endsOf, if_pos (by rw [strl_length]; exact hlt), strl_length, gU_from, hg] at h
            dsimp only at h
            rw [if_pos hn] at h
            dsimp only at h
            rw [if_neg (by obtain ⟨_, _, _, h4, _⟩ := grp_some _ _ _ _ hg; rw [from_len] at h4; omega)] at h
            simpa using h
          have hac : a + 1 + c ≤ s.size := by
            obtain ⟨_, _, _, h4, _⟩ := grp_some _ _ _ _ hg
            rw [from_len] at h4
            omega
          have hq0 : IntKind.i64.wrap (n : Int) = (n : Int) := wid64 _ (by omega) (by omega)
          have hq1 : IntKind.i64.wrap ((s.size : Int) - ((a + 1 + c : Nat) : Int)) = ((s.size - (a + 1 + c) : Nat) : Int) := (wid64 _ (by omega) (by omega)).trans (by omega)
          have hq3 : ((s.size - (a + 1 + c) : Nat) : Int) < (n : Int) := by omega
          obtain ⟨c2, hc2⟩ : ∃ c2, c2 = a + 1 + c := ⟨_, rfl⟩
          rw [← hc2] at hq1 hq3 ⊢
          replace hfin := Lib.hid hfin
          clear hg
          go_wp2_with fail
          go_ret
          exact ⟨_, rfl, by rw [← hfin.out]; exact hE.out⟩
      · have hfin : xs = X := by
          have h := hXe.out
          rw [endsOf, if_pos (by rw [strl_length]; exact hlt), strl_length, gU_from] at h
          cases hg : grp 5 (from_ s (a + 1)) with
          | none => rw [hg] at h; simpa using h
          | some q =>
            obtain ⟨n, c⟩ := q
            rw [hg] at h
            dsimp only at h
            rw [if_neg (hbad n c hg)] at h
            simpa using h
        replace hfin := Lib.hid hfin
        clear hbad
        go_wp2_with fail
        go_ret
        exact ⟨_, rfl, by rw [← hfin.out]; exact hE.out⟩
    · have hlt' : ¬ (a : Int) < (s.size : Int) := by omega
      have hfin : xs = X := by
        have h := hXe.out
        rw [endsOf, if_neg (by rw [strl_length]; exact hlt)] at h
        simpa using h
      replace hfin := Lib.hid hfin
      go_wp2_with fail
      go_ret
      exact ⟨_, rfl, by rw [← hfin.out]; exact hE.out⟩
end Go.Proofs.YtkbfjkbokifgkaaDoor

namespace Go.Proofs.YtkbfjkbokifgkaaDoor
open Go.RowKit
set_option linter.unusedVariables false
set_option linter.unusedSimpArgs false

set_option maxRecDepth 100000 in
set_option maxHeartbeats 4000000 in
theorem cut_any {w : World} {s : ByteArray} {a : Int} (hT : TabU w) : Calls Tryd.prog 3 #[.string s, .int .i64 a] w fun e w' => e = .returned (.bool true) ∧ Below w.heap.size w w' := by
  by_cases hbig : 20000 < s.size
  · have hb : (20000 : Int) < (s.size : Int) := by omega
    go_enter Tryd.func3, Tryd.ntmps3
    go_wp2_with fail
    refine (wakes_any hT).mono ?_
    rintro e' w1 ⟨rfl, hB⟩
    go_wp2_with fail
    go_ret
    exact ⟨rfl, hB⟩
  · have hb : ¬ (20000 : Int) < (s.size : Int) := by omega
    go_enter Tryd.func3, Tryd.ntmps3
    go_wp2_with fail
    refine (dec_any hT).mono ?_
    rintro e' w1 ⟨hB1, hD⟩
    cases hg : gModule (strl s) with
    | error n =>
      obtain rfl := decv_err hD hg
      have hn0 : n ≠ 0 := nzModule.out n hg
      have hnz : (n != 0) = true := by simpa using hn0
      have hT1 := hT.below hB1
      have hBz : Below w1.heap.size w1 (w1.alloc (.cells #[.slice none 0 0, .slice none 0 0, .slice none 0 0, .slice none 0 0, .slice none 0 0, .slice none 0 0, .slice none 0 0, .slice none 0 0, .slice none 0 0, .slice none 0 0] 33)) := (Below.refl _ _).alloc (Nat.le_refl _) _
      have hT2 := hT1.below hBz
      have hB2 := hB1.trans (hBz.mono hB1.size)
      clear hD hg
      unfold zeroM
      go_wp2_with fail
      refine (wakes_any hT2).mono ?_
      rintro e' w3 ⟨rfl, hB3⟩
      have hB4 := hB2.trans (hB3.mono hB2.size)
      go_wp2_with fail
      go_ret
      exact ⟨rfl, hB4⟩
    | ok m =>
      obtain ⟨a0, a1, a2, a3, a4, a5, a6, a7, a8, a9, k0, k1, k2, k3, k4, k5, k6, k7, k8, k9, rfl⟩ := decv_ok hD hg
      have hT1 := hT.below hB1
      have hBz : Below w1.heap.size w1 (w1.alloc (.cells #[.slice a0 m.types.length k0, .slice a1 m.imports.length k1, .slice a2 m.funcs.length k2, .slice a3 m.tables.length k3, .slice a4 m.mems.length k4, .slice a5 m.globals.length k5, .slice a6 m.exports.length k6, .slice a7 m.start.length k7, .slice a8 m.elems.length k8, .slice a9 m.datas.length k9] 33)) := (Below.refl _ _).alloc (Nat.le_refl _) _
      have hT2 := hT1.below hBz
      have hB2 := hB1.trans (hBz.mono hB1.size)
      clear hD hBz hT1
      replace hg := Lib.hid hg
      by_cases h8 : s.size < 8
      · have h8' : (s.size : Int) < 8 := by omega
        go_wp2_with fail
        refine (wakes_any hT2).mono ?_
        rintro e' w3 ⟨rfl, hB3⟩
        have hB4 := hB2.trans (hB3.mono hB2.size)
        go_wp2_with fail
        go_ret
        exact ⟨rfl, hB4⟩
      · have h8' : ¬ (s.size : Int) < 8 := by omega
        go_wp2_with fail
        refine (mod_any a s.size (by omega) (by omega) _).mono ?_
        rintro e' w2 ⟨⟨k, hk, rfl⟩, rfl⟩
        go_wp2_with fail
        refine (ends_any (by omega) (by omega)).mono ?_
        rintro e' w3 ⟨v, rfl, hE⟩
        have hT3 := hT2.below hE.below
        have hB3 := hB2.trans (hE.below.mono hB2.size)
        obtain ⟨X, hX⟩ : ∃ X, X = 8 :: endsOf (strl s) (s.size + 1) 8 := ⟨_, rfl⟩
        rw [← hX] at hE
        replace hX := Lib.hid hX
        have hown := hE.own
        clear hE hB1 hB2 hT2
        obtain ⟨g, cap, rfl⟩ : ∃ g cap, v = .slice (some ⟨g, 0, none⟩) X.length cap := by
          rcases hown.2 with ⟨_, h0⟩ | ⟨g, cap, cur, h, _⟩
          · rw [hX.out] at h0; cases h0
          · exact ⟨g, cap, h⟩
        have hcell : ∀ (i x : Nat), X[i]? = some x → w3.cell? ⟨g, i, none⟩ = some (.int .i64 (x : Int)) := fun i x h => by
          have := hown.cells (g := g) rfl i (.int .i64 (x : Int)) (by unfold intsV; rw [List.getElem?_map, h]; rfl)
          rw [show ((⟨g, 0, none⟩ : Addr).add i) = ⟨g, i, none⟩ from by cases i <;> simp [Addr.add]] at this
          exact this
        have hmax : X.length ≤ 9223372036854775807 := by
          rcases hown.2 with ⟨h0, _⟩ | ⟨g', cap', cur, h, _, _, h1, h2, _⟩
          · cases h0
          · unfold maxLen at h2
            omega
        replace hcell := Lib.hid hcell
        clear hown
        go_wp2_with fail
        go_loopg [8, 10] X.length (fun j v8 v10 wr => ∃ i : Nat, v10 = .int .i64 i ∧ i + j = X.length ∧ v8 = .bool (decide (k ∈ X.take i)) ∧ wr = w3)
        case atStart => exact ⟨0, rfl, by omega, by simp, rfl⟩
        case round =>
          obtain ⟨i, rfl, hij, rfl, rfl⟩ := hrel
          by_cases hi : i < X.length
          · obtain ⟨j1, rfl⟩ : ∃ j1, gk = j1 + 1 := ⟨gk - 1, by omega⟩
            have hi' : (i : Int) < (X.length : Int) := by omega
            have hwi : IntKind.i64.wrap ((i : Int) + 1) = ((i + 1 : Nat) : Int) := (wid64 _ (by omega) (by omega)).trans (by omega)
            obtain ⟨x, hx⟩ : ∃ x, X[i]? = some x := ⟨X[i], List.getElem?_eq_getElem hi⟩
            have hc := hcell.out i x hx
            have hmem : ∀ b : Bool, (b = true ↔ k ∈ X.take i ∨ x = k) → b = decide (k ∈ X.take (i + 1)) := fun b hb => by
              rw [List.take_add_one, hx]
              have : k ∈ X.take i ++ (some x).toList ↔ k ∈ X.take i ∨ x = k := by simp [eq_comm]
              rw [Bool.eq_iff_iff, hb, decide_eq_true_iff, this]
            by_cases hin : k ∈ X.take i
            · have hd : decide (k ∈ X.take i) = true := decide_eq_true hin
              rw [hd]
              have hr := hmem true (by simp [hin])
              replace hmem := Lib.hid hmem
              replace hr := Lib.hid hr
              go_wp2_with fail
              go_roundg j1
              case measure => omega
              case rel => exact ⟨i + 1, rfl, by omega, congrArg Value.bool hr.out, rfl⟩
            · have hd : decide (k ∈ X.take i) = false := decide_eq_false hin
              rw [hd]
              have hr := hmem ((x : Int) == (k : Int)) (by simp only [hin, false_or, beq_iff_eq]; omega)
              replace hmem := Lib.hid hmem
              replace hr := Lib.hid hr
              go_wp2_with fail
              go_roundg j1
              case measure => omega
              case rel => exact ⟨i + 1, rfl, by omega, congrArg Value.bool hr.out, rfl⟩
          · have hi' : ¬ (i : Int) < (X.length : Int) := by omega
            obtain rfl : i = X.length := by omega
            rw [List.take_length]
            have hk2 : (k : Int) ≤ (s.size : Int) := by omega
            go_wp2_with fail
            refine (dec_any (s := s.extract 0 k) hT3).mono ?_
            rintro e' w4 ⟨hB4, hD⟩
            have hst : strl (s.extract 0 k) = (strl s).take k := by
              rw [ext_win]
              simp [win, strl, mkb]
            have hcut := cut_module hg.out (K := k) (by rw [strl_length]; exact hk)
            rw [← hst] at hcut
            replace hst := Lib.hid hst
            rcases hcut with hcut | ⟨⟨m2, hcut⟩, hin⟩
            · obtain rfl := decv_err hD hcut
              clear hcut
              have hT4 := hT3.below hB4
              have hBz : Below w4.heap.size w4 (w4.alloc (.cells #[.slice none 0 0, .slice none 0 0, .slice none 0 0, .slice none 0 0, .slice none 0 0, .slice none 0 0, .slice none 0 0, .slice none 0 0, .slice none 0 0, .slice none 0 0] 33)) := (Below.refl _ _).alloc (Nat.le_refl _) _
              have hT5 := hT4.below hBz
              have hB5 := hB3.trans ((hB4.trans (hBz.mono hB4.size)).mono hB3.size)
              clear hD hBz hT4 hT3 hB3 hB4
              unfold zeroM
              go_wp2_with fail
              refine (wakes_any hT5).mono ?_
              rintro e' w6 ⟨rfl, hB6⟩
              have hB7 := hB5.trans (hB6.mono hB5.size)
              go_wp2_with fail
              go_ret
              exact ⟨rfl, hB7⟩
            · obtain ⟨a0, a1, a2, a3, a4, a5, a6, a7, a8, a9, k0, k1, k2, k3, k4, k5, k6, k7, k8, k9, rfl⟩ := decv_ok hD hcut
              have hmem : decide (k ∈ X) = true := by
                rw [decide_eq_true_iff, hX.out, List.mem_cons]
                rw [strl_length] at hin
                exact hin
              rw [hmem]
              clear hcut hin hmem
              have hT4 := hT3.below hB4
              have hBz : Below w4.heap.size w4 (w4.alloc (.cells #[.slice a0 m2.types.length k0, .slice a1 m2.imports.length k1, .slice a2 m2.funcs.length k2, .slice a3 m2.tables.length k3, .slice a4 m2.mems.length k4, .slice a5 m2.globals.length k5, .slice a6 m2.exports.length k6, .slice a7 m2.start.length k7, .slice a8 m2.elems.length k8, .slice a9 m2.datas.length k9] 33)) := (Below.refl _ _).alloc (Nat.le_refl _) _
              have hT5 := hT4.below hBz
              have hB5 := hB3.trans ((hB4.trans (hBz.mono hB4.size)).mono hB3.size)
              clear hD hBz hT4 hT3 hB3 hB4
              go_wp2_with fail
              refine (wakes_any hT5).mono ?_
              rintro e' w6 ⟨rfl, hB6⟩
              have hB7 := hB5.trans (hB6.mono hB5.size)
              go_wp2_with fail
              go_ret
              exact ⟨rfl, hB7⟩
end Go.Proofs.YtkbfjkbokifgkaaDoor

namespace Go.Proofs.YtkbfjkbokifgkaaDoor
open Go.ChangeShapes Go.WideShapes Go.ChangeAt Go.RowKit Go.ChangeMaps
set_option linter.unusedVariables false

set_option maxRecDepth 100000 in
theorem cut_walk {H : Type} {enc : TypeId × Value → H} (W : World) (base : Nat) (hT : TabU W)
    (v0 : Value) (d0 : DataW H) (p0 : List MemPlace) (o0 : Value.okWide Tryd.prog W .any base 9 v0) (h0 : DataW.Trod enc Tryd.prog W 0 (fun _ => true) true 9 v0 d0 p0)
    (v1 : Value) (d1 : DataW H) (p1 : List MemPlace) (o1 : Value.okWide Tryd.prog W .any base 3 v1) (h1 : DataW.Trod enc Tryd.prog W 0 (fun _ => true) true 3 v1 d1 p1) :
    Calls Tryd.prog 3 #[v0, v1] W fun e W' => e = .returned (.bool true) ∧ Below W.heap.size W W' := by
  obtain ⟨s, rfl, rfl, rfl, ws⟩ := open_string Tryd.underlying9 o0 h0
  obtain ⟨a0, rfl, rfl, rfl, w0⟩ := open_int Tryd.underlying3 o1 h1
  exact cut_any hT
end Go.Proofs.YtkbfjkbokifgkaaDoor
