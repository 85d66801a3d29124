/- EncodeLong: the walk. -/
import Derived.Test.YtanpjbbhhofkfaaGreatDoorHg
import Derived.Test.YtanpjbbhhofkfaaGreatDoorHt
import Derived.Laws.MakeOwn
import Derived.Test.YtanpjbbhhofkfaaGreatDoorLd
import Derived.SizedLaws
import Derived.ChangeMaps5
namespace Go.Proofs.YtanpjbbhhofkfaaGreatDoor
open Go.RowKit
set_option linter.unusedVariables false
set_option linter.unusedSimpArgs false

theorem make_bytes (k : Nat) (w : World) (hk : k ≤ 300000) :
    Sem.run Tryz.prog (Instr.makeSlice 47 (.int .i64 (k : Int)) (.int .i64 (k : Int))) w = .ok (.slice (some ⟨w.heap.size, 0, none⟩) k k) (w.alloc (.cells (madeCells #[.int .u8 0] k) 5)) := by
  obtain ⟨i, hi, hz, hs, hb⟩ := info5_parts
  have := run_makeSlice (P := Tryz.prog) w 47 5 i _ Tryz.underlying47 hi hz .i64 .i64 (k : Int) (k : Int) (by omega) (by omega) (by rw [hs]; simp; omega) (by rw [hb]; omega) (by omega)
  rw [hs, Nat.mul_one, Int.toNat_natCast] at this
  exact this
theorem zero_bytes (k : Nat) (w : World) : BIn (w.alloc (.cells (madeCells #[.int .u8 0] k) 5)) (.slice (some ⟨w.heap.size, 0, none⟩) (zl k).length k) (zl k) := by
  refine .inr ⟨w.heap.size, k, rfl, fun j hj => ?_⟩
  have hj2 : j < k := by simpa [zl] using hj
  refine (box_new w (madeCells #[.int .u8 0] k) 5 j _ ?_)
  unfold madeCells
  rw [Array.getElem?_map, Array.getElem?_range, if_pos hj2]
  have e : j % (#[Value.int .u8 0] : Array Value).size = 0 := by show j % 1 = 0; omega
  simp only [Option.map_some, e]
  simp [zl]
set_option maxRecDepth 100000 in
set_option maxHeartbeats 4000000 in
theorem long_law (n : Int) (w : World) (hT : TabU w) :
    Calls Tryz.prog 4 #[.int .i64 n] w fun e w' => e = .returned (.bool true) ∧ Below w.heap.size w w' := by
  by_cases hr : n < 0 ∨ 300000 < n
  · have hw := Lib.hid (wakes_any w hT)
    clear hT
    by_cases h0 : n < 0
    · go_enter Tryz.func4, Tryz.ntmps4
      go_wp2_with fail
      refine hw.out.mono ?_
      rintro e w1 ⟨rfl, hb⟩
      replace hb := Lib.hid hb
      go_wp2
      go_ret
      exact ⟨rfl, hb.out⟩
    · have h1 : 300000 < n := by omega
      go_enter Tryz.func4, Tryz.ntmps4
      go_wp2_with fail
      refine hw.out.mono ?_
      rintro e w1 ⟨rfl, hb⟩
      replace hb := Lib.hid hb
      go_wp2
      go_ret
      exact ⟨rfl, hb.out⟩
  · obtain ⟨k, rfl⟩ := Int.eq_ofNat_of_zero_le (show 0 ≤ n by omega)
    have hk : k ≤ 300000 := by omega
    clear hr
    obtain ⟨g1, hg1⟩ : ∃ g, w.heap.size = g := ⟨_, rfl⟩
    obtain ⟨w1, hw1⟩ : ∃ w1, w1 = w.alloc (.cells #[.int .i64 1, .int .i64 0, .bool false] 43) := ⟨_, rfl⟩
    have hb1 : Below w.heap.size w w1 := by rw [hw1]; exact (Below.refl _ _).alloc (Nat.le_refl _) _
    have bx1 : Box w1 g1 #[.int .i64 1, .int .i64 0, .bool false] := by rw [hw1, ← hg1]; exact box_new w _ _
    have hmk := make_bytes k w1 hk
    have hzb := zero_bytes k w1
    obtain ⟨w2, hw2⟩ : ∃ w2, w2 = w1.alloc (.cells (madeCells #[.int .u8 0] k) 5) := ⟨_, rfl⟩
    have hb2 : Below w.heap.size w w2 := by rw [hw2]; exact hb1.alloc hb1.size _
    have hb12 : Below w1.heap.size w1 w2 := by rw [hw2]; exact (Below.refl _ _).alloc (Nat.le_refl _) _
    rw [← hw2] at hmk hzb
    have hcv := hzb.conv
    have hzl : (zl k).length = k := by simp [zl]
    rw [hzl] at hcv
    obtain ⟨z2, hz2⟩ : ∃ z2, w1.heap.size = z2 := ⟨_, rfl⟩
    rw [hz2] at hmk hcv
    obtain ⟨str, hstr⟩ : ∃ str, mks (zl k) = str := ⟨_, rfl⟩
    rw [hstr] at hcv
    obtain ⟨g3, hg3⟩ : ∃ g3, w2.heap.size = g3 := ⟨_, rfl⟩
    obtain ⟨w3, hw3⟩ : ∃ w3, w3 = w2.alloc (.cells #[.int .i64 65, .int .i64 0, .int .i64 0, .int .i64 0, .slice none 0 0, .slice none 0 0, .slice none 0 0, .string str] 49) := ⟨_, rfl⟩
    have hb3 : Below w.heap.size w w3 := by rw [hw3]; exact hb2.alloc hb2.size _
    have hb23 : Below w2.heap.size w2 w3 := by rw [hw3]; exact (Below.refl _ _).alloc (Nat.le_refl _) _
    have bx3 : Box w3 g3 #[.int .i64 65, .int .i64 0, .int .i64 0, .int .i64 0, .slice none 0 0, .slice none 0 0, .slice none 0 0, .string str] := by rw [hw3, ← hg3]; exact box_new w2 _ _
    obtain ⟨q, hq⟩ : ∃ q, w3.heap.size = q := ⟨_, rfl⟩
    obtain ⟨w4, hw4⟩ : ∃ w4, w4 = w3.alloc (.cells #[.slice none 0 0, .slice none 0 0, .slice none 0 0, .slice none 0 0, .slice (some ⟨g1, 0, none⟩) 1 1, .slice none 0 0, .slice none 0 0, .slice none 0 0, .slice none 0 0, .slice (some ⟨g3, 0, none⟩) 1 1] 32) := ⟨_, rfl⟩
    have hb4 : Below w.heap.size w w4 := by rw [hw4]; exact hb3.alloc hb3.size _
    have hb34 : Below w3.heap.size w3 w4 := by rw [hw4]; exact (Below.refl _ _).alloc (Nat.le_refl _) _
    have bx4 : Box w4 q #[.slice none 0 0, .slice none 0 0, .slice none 0 0, .slice none 0 0, .slice (some ⟨g1, 0, none⟩) 1 1, .slice none 0 0, .slice none 0 0, .slice none 0 0, .slice none 0 0, .slice (some ⟨g3, 0, none⟩) 1 1] := by rw [hw4, ← hq]; exact box_new w3 _ _
    have bx14 : Box w4 g1 #[.int .i64 1, .int .i64 0, .bool false] := ((bx1.keep (keep_below hb12)).keep (keep_below hb23)).keep (keep_below hb34)
    have bx34 := bx3.keep (keep_below hb34)
    have hM : MdAt w4 (mL k) none 0 none 0 none 0 none 0 (some ⟨g1, 0, none⟩) 1 none 0 none 0 none 0 none 0 (some ⟨g3, 0, none⟩) 1 := by
      refine ⟨⟨Nat.zero_le _, .inl rfl⟩, ⟨Nat.zero_le _, .inl rfl⟩, ⟨Nat.zero_le _, .inl rfl⟩, ⟨Nat.zero_le _, .inl rfl⟩, ⟨(by show 1 ≤ 9223372036854775807; decide), .inr ⟨g1, 0, rfl, fun i x hx => ?_⟩⟩, ⟨Nat.zero_le _, .inl rfl⟩, ⟨Nat.zero_le _, .inl rfl⟩, ⟨Nat.zero_le _, .inl rfl⟩, ⟨Nat.zero_le _, .inl rfl⟩, ⟨(by show 1 ≤ 9223372036854775807; decide), .inr ⟨g3, 0, rfl, fun i x hx => ?_⟩⟩⟩
      · have hi : i = 0 := by
          have := (List.getElem?_eq_some_iff.1 hx).1
          simpa [mL] using this
        subst hi
        cases hx
        exact ⟨bx14 0 _ rfl, bx14 1 _ rfl, bx14 2 _ rfl⟩
      · have hi : i = 0 := by
          have := (List.getElem?_eq_some_iff.1 hx).1
          simpa [mL] using this
        subst hi
        cases hx
        refine ⟨⟨⟨bx34 0 _ rfl, bx34 1 _ rfl, bx34 2 _ rfl, bx34 3 _ rfl⟩, ⟨none, 0, bx34 4 _ rfl, Nat.zero_le _, .inl rfl⟩, ⟨none, 0, bx34 5 _ rfl, Nat.zero_le _, .inl rfl⟩, ⟨none, 0, bx34 6 _ rfl, Nat.zero_le _, .inl rfl⟩, trivial⟩, ?_, ?_⟩
        · show w4.cell? ⟨g3, 7, none⟩ = some (.string (mks (zl k)))
          rw [hstr]
          exact bx34 7 _ rfl
        · show (mks (zl k)).size ≤ 9223372036854775807
          rw [zl_size]
          omega
    have hT4 := hT.below hb4
    have hfit := fit_of (mL_nok k)
    have hds : ∀ t ∈ (mL k).datas, t.2.size ≤ 300000 := fun t ht => by
      simp only [mL, List.mem_cons, List.not_mem_nil, or_false] at ht
      subst ht
      rw [zl_size]
      exact hk
    have hcall1 := Lib.hid (enc_any (mL k) _ _ _ _ _ _ _ _ _ _ _ _ _ _ _ _ _ _ _ _ w4 hM hT4 hfit)
    have hcall2 := Lib.hid (fun (w5 : World) (hb : Below w4.heap.size w4 w5) => renc_any (mL k) _ _ _ _ _ _ _ _ _ _ _ _ _ _ _ _ _ _ _ _ w5 (hM.keep (keep_below hb)) hds hfit)
    have hwk := Lib.hid (fun (w5 : World) (hb : Below w4.heap.size w4 w5) => wakes_any w5 (hT4.below hb))
    obtain ⟨E, hE⟩ : ∃ E, encE (mL k) = E := ⟨_, rfl⟩
    obtain ⟨B, hB⟩ : ∃ B, encB (mL k) = B := ⟨_, rfl⟩
    have hmany : 262144 < k → E = 3 := fun h => by rw [← hE]; exact mL_many h
    have hgood : k < 262044 → E = 0 ∧ k < B.length ∧ B.length ≤ k + 39 := fun h => by rw [← hE, ← hB]; exact mL_good h
    rw [hE, hB] at hcall1
    replace hb4 := Lib.hid hb4
    replace bx4 := Lib.hid bx4
    replace hE := Lib.hid hE
    replace hB := Lib.hid hB
    replace hmany := Lib.hid hmany
    replace hgood := Lib.hid hgood
    clear hb1 bx1 hb2 hb12 hb3 hb23 bx3 hb34 bx14 bx34 hM hT4 hfit hds hT hzb hzl hstr
    replace hcv := Lib.hid hcv
    replace hw3 := Lib.hid hw3
    replace hw4 := Lib.hid hw4
    replace hw2 := Lib.hid hw2
    replace hmk := Lib.hid hmk
    replace hz2 := Lib.hid hz2
    replace hg3 := Lib.hid hg3
    replace hq := Lib.hid hq
    go_enter Tryz.func4, Tryz.ntmps4
    go_wp2_with fail
    rw [← hw1, hmk.out]
    clear hw1 hmk hw2 hz2 hg1
    have hcv' := hcv.out
    have hg3' := hg3.out
    go_wp2_with fail
    rw [← hw3.out, ← hw4.out]
    have hq1 : q = g3 + 1 := by rw [← hq.out, hw3.out]; simp [hg3.out]
    subst hq1
    clear hw3 hw4 hg3' hg3 hcv' hcv hq
    refine hcall1.out.mono ?_
    rintro e w5 ⟨rfl, hb5⟩
    have x0 : w5.cell? ⟨g3 + 1, 0, none⟩ = some (.slice none 0 0) := keep_below hb5 _ _ (bx4.out 0 _ rfl)
    have x1 : w5.cell? ⟨g3 + 1, 1, none⟩ = some (.slice none 0 0) := keep_below hb5 _ _ (bx4.out 1 _ rfl)
    have x2 : w5.cell? ⟨g3 + 1, 2, none⟩ = some (.slice none 0 0) := keep_below hb5 _ _ (bx4.out 2 _ rfl)
    have x3 : w5.cell? ⟨g3 + 1, 3, none⟩ = some (.slice none 0 0) := keep_below hb5 _ _ (bx4.out 3 _ rfl)
    have x4 : w5.cell? ⟨g3 + 1, 4, none⟩ = some (.slice (some ⟨g1, 0, none⟩) 1 1) := keep_below hb5 _ _ (bx4.out 4 _ rfl)
    have x5 : w5.cell? ⟨g3 + 1, 5, none⟩ = some (.slice none 0 0) := keep_below hb5 _ _ (bx4.out 5 _ rfl)
    have x6 : w5.cell? ⟨g3 + 1, 6, none⟩ = some (.slice none 0 0) := keep_below hb5 _ _ (bx4.out 6 _ rfl)
    have x7 : w5.cell? ⟨g3 + 1, 7, none⟩ = some (.slice none 0 0) := keep_below hb5 _ _ (bx4.out 7 _ rfl)
    have x8 : w5.cell? ⟨g3 + 1, 8, none⟩ = some (.slice none 0 0) := keep_below hb5 _ _ (bx4.out 8 _ rfl)
    have x9 : w5.cell? ⟨g3 + 1, 9, none⟩ = some (.slice (some ⟨g3, 0, none⟩) 1 1) := keep_below hb5 _ _ (bx4.out 9 _ rfl)
    have hc2 := Lib.hid (hcall2.out w5 hb5)
    replace hb5 := Lib.hid hb5
    go_wp2_with fail
    refine hc2.out.mono ?_
    rintro e w6 ⟨rfl, hb6⟩
    rw [hE.out, hB.out]
    have hb46 := Lib.hid (hb5.out.trans (hb6.mono hb5.out.size))
    clear x0 x1 x2 x3 x4 x5 x6 x7 x8 x9 hb6 hc2 hcall1 hcall2
    obtain ⟨n, hkn⟩ : ∃ n : Int, (k : Int) = n := ⟨_, rfl⟩
    rw [hkn]
    have hmany2 := Lib.hid (fun (h : 262144 < n) => hmany.out (by omega))
    have hgood2 := Lib.hid (fun (h : n < 262044) => (by obtain ⟨a, b, c⟩ := hgood.out (by omega); exact ⟨a, by omega, by omega⟩ : E = 0 ∧ n < (B.length : Int) ∧ (B.length : Int) ≤ n + 39))
    have hn0 : 0 ≤ n := by omega
    have hn3 : n ≤ 300000 := by omega
    clear hmany hgood hk
    replace hkn := Lib.hid hkn
    by_cases hA : 262144 < n
    · have hE3 := hmany2.out hA
      subst hE3
      have hn2 : ¬ n < 262044 := by omega
      go_wp2_with fail
      refine (hwk.out w6 hb46.out).mono ?_
      rintro e w7 ⟨rfl, hb7⟩
      have hfin := Lib.hid ((hb4.out.trans (hb46.out.mono hb4.out.size)).trans (hb7.mono (Nat.le_trans hb4.out.size hb46.out.size)))
      clear hb7
      go_wp2
      go_ret
      exact ⟨by simp, hfin.out⟩
    · by_cases hC : n < 262044
      · obtain ⟨hE0, hl1, hl2⟩ := hgood2.out hC
        subst hE0
        have hm1 : n < ((mks B).size : Int) := hl1
        have hm2 : ((mks B).size : Int) ≤ n + 39 := hl2
        clear hl1 hl2
        go_wp2_with fail
        refine (hwk.out w6 hb46.out).mono ?_
        rintro e w7 ⟨rfl, hb7⟩
        have hfin := Lib.hid ((hb4.out.trans (hb46.out.mono hb4.out.size)).trans (hb7.mono (Nat.le_trans hb4.out.size hb46.out.size)))
        clear hb7
        go_wp2
        go_ret
        exact ⟨by simp, hfin.out⟩
      · go_wp2_with fail
        refine (hwk.out w6 hb46.out).mono ?_
        rintro e w7 ⟨rfl, hb7⟩
        have hfin := Lib.hid ((hb4.out.trans (hb46.out.mono hb4.out.size)).trans (hb7.mono (Nat.le_trans hb4.out.size hb46.out.size)))
        clear hb7
        go_wp2
        go_ret
        exact ⟨by simp, hfin.out⟩
end Go.Proofs.YtanpjbbhhofkfaaGreatDoor

namespace Go.Proofs.YtanpjbbhhofkfaaGreatDoor
open Go.ChangeShapes Go.WideShapes Go.ChangeAt Go.RowKit Go.ChangeMaps
set_option linter.unusedVariables false

set_option maxRecDepth 100000 in
theorem long_walk {H : Type} {enc : TypeId × Value → H} (W : World) (base : Nat) (hT : TabU W)
    (v0 : Value) (d0 : DataW H) (p0 : List MemPlace) (o0 : Value.okWide Tryz.prog W .any base 3 v0) (h0 : DataW.Trod enc Tryz.prog W 0 (fun _ => true) true 3 v0 d0 p0) :
    Calls Tryz.prog 4 #[v0] W fun e W' => e = .returned (.bool true) ∧ Below W.heap.size W W' := by
  obtain ⟨a0, rfl, rfl, rfl, w0⟩ := open_int Tryz.underlying3 o0 h0
  exact long_law a0 W hT
end Go.Proofs.YtanpjbbhhofkfaaGreatDoor
