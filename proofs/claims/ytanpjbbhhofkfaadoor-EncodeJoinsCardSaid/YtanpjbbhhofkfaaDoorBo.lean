/- What Body tells: the walk. -/
import Derived.Test.YtanpjbbhhofkfaaDoorBp
namespace Go.Proofs.YtanpjbbhhofkfaaDoor
open Go.RowKit
set_option linter.unusedVariables false
set_option linter.unusedSimpArgs false

theorem mB_at (l : Il) (ao : Option Addr) (c : Nat) (w : World) (hl : l.len ≤ 9223372036854775807) (hi : IlIn w ao 0 l) :
    MdAt (w.alloc (.cells #[.int .i64 0, .slice none 0 0, .slice ao l.len c] 42)) (mB l) none 0 none 0 (some ⟨w.heap.size, 0, none⟩) 1 none 0 none 0 none 0 none 0 none 0 none 0 none 0 := by
  have hb : Below w.heap.size w (w.alloc (.cells #[.int .i64 0, .slice none 0 0, .slice ao l.len c] 42)) := (Below.refl _ _).alloc (Nat.le_refl _) _
  have hx := box_new w #[.int .i64 0, .slice none 0 0, .slice ao l.len c] 42
  refine ⟨⟨Nat.zero_le _, .inl rfl⟩, ⟨Nat.zero_le _, .inl rfl⟩, ⟨by show 1 ≤ 9223372036854775807; decide, .inr ⟨w.heap.size, 0, rfl, fun i x h => ?_⟩⟩, ⟨Nat.zero_le _, .inl rfl⟩, ⟨Nat.zero_le _, .inl rfl⟩, ⟨Nat.zero_le _, .inl rfl⟩, ⟨Nat.zero_le _, .inl rfl⟩, ⟨Nat.zero_le _, .inl rfl⟩, ⟨Nat.zero_le _, .inl rfl⟩, ⟨Nat.zero_le _, .inl rfl⟩⟩
  have hi0 : i = 0 := by
    have := (List.getElem?_eq_some_iff.1 h).1
    simpa [mB] using this
  subst hi0
  cases h
  exact ⟨hx 0 _ rfl, ⟨none, 0, hx 1 _ rfl, Nat.zero_le _, .inl rfl⟩, ⟨ao, c, hx 2 _ rfl, hl, hi.below hb⟩⟩
set_option maxRecDepth 100000 in
set_option maxHeartbeats 4000000 in
theorem body_any (l : Il) (ao : Option Addr) (c : Nat) (w : World) (hl : l.len ≤ 9223372036854775807) (hi : IlIn w ao 0 l) (ok : nOk l) (hT : TabU w) :
    Calls Tryd.prog 11 #[.slice ao l.len c] w fun e w' => e = .returned (.tuple #[.string (mks (bB l)), .int .i64 (bE l)]) ∧ Below w.heap.size w w' := by
  obtain ⟨wA, hwA⟩ : ∃ wA, wA = w.alloc (.cells #[.int .i64 0, .slice none 0 0, .slice ao l.len c] 42) := ⟨_, rfl⟩
  have hbel : Below w.heap.size w wA := by rw [hwA]; exact (Below.refl _ _).alloc (Nat.le_refl _) _
  have hM := mB_at l ao c w hl hi
  rw [← hwA] at hM
  replace hM := Lib.hid hM
  have HU := Lib.hid (hT.below hbel)
  replace hbel := Lib.hid hbel
  replace hi := Lib.hid hi
  replace ok := Lib.hid ok
  clear hT
  go_enter Tryd.func11, Tryd.ntmps11
  go_wp2_with fail
  rw [← hwA]
  clear hwA
  refine (check_any (mB l) _ _ _ _ _ _ _ _ _ _ _ _ _ _ _ _ _ _ _ _ wA hM.out HU.out).mono ?_
  rintro e w2 ⟨rfl, hb2⟩
  have hB2 := Lib.hid (hbel.out.trans (hb2.mono hbel.out.size))
  clear hb2
  obtain ⟨cv, hcv⟩ : ∃ cv, checkV (mB l) = cv := ⟨_, rfl⟩
  rw [hcv]
  by_cases hc0 : cv = 0
  · subst hc0
    have hfit := body_fit ok.out hcv
    replace hcv := Lib.hid hcv
    obtain ⟨p, hp⟩ : ∃ p, w2.heap.size = p := ⟨_, rfl⟩
    obtain ⟨wP, hwP⟩ : ∃ wP, wP = w2.alloc (.cells #[.slice none 0 0, .slice none 0 0, .slice none 0 0, .slice none 0 0, .slice none 0 0, .slice none 0 0, .slice none 0 0, .slice none 0 0, .slice none 0 0, .slice none 0 0, .slice none 0 0, .int .i64 0] 64) := ⟨_, rfl⟩
    have hW0 : WAt w.heap.size p wP [.slice none 0 0, .slice none 0 0, .slice none 0 0, .slice none 0 0, .slice none 0 0, .slice none 0 0, .slice none 0 0, .slice none 0 0, .slice none 0 0, .slice none 0 0] (.slice none 0 0) ⟨[], 0⟩ := by rw [hwP, ← hp]; exact WAt.new w2 [.slice none 0 0, .slice none 0 0, .slice none 0 0, .slice none 0 0, .slice none 0 0, .slice none 0 0, .slice none 0 0, .slice none 0 0, .slice none 0 0, .slice none 0 0] rfl hB2.out.size
    have hBP : Below w.heap.size w wP := by rw [hwP]; exact hB2.out.alloc hB2.out.size _
    have hV := Lib.hid (Vw.old hW0 hBP)
    replace hW0 := Lib.hid hW0
    replace hBP := Lib.hid hBP
    go_wp2_with fail
    rw [← hwP]
    clear hwP hp
    refine (expr_any l w _ p wP _ _ ⟨[], 0⟩ ao c hW0.out hV.out hl hi.out ok.out (by simp only; omega)).mono ?_
    rintro e w3 ⟨rfl, v3, h3, t3⟩
    obtain ⟨S, hS⟩ : ∃ S, wEx l ⟨[], 0⟩ = S := ⟨_, rfl⟩
    have h3' : WAt w.heap.size p w3 [.slice none 0 0, .slice none 0 0, .slice none 0 0, .slice none 0 0, .slice none 0 0, .slice none 0 0, .slice none 0 0, .slice none 0 0, .slice none 0 0, .slice none 0 0] v3 S := by rw [← hS]; exact h3
    have hB3 := Lib.hid (hBP.out.trans (t3.below hW0.out.hN (fun g e => by cases e) hBP.out.size))
    replace hS := Lib.hid hS.symm
    clear h3 t3
    obtain ⟨a3, c3, hv3⟩ := own_slice h3'.own
    subst hv3
    have x10 := h3'.c10
    have hcap := h3'.cap
    have hcv2 := conv_own h3'.own
    replace h3 := Lib.hid h3'
    clear h3'
    go_wp2_with fail
    refine (full_any h3.out).mono ?_
    rintro e wz ⟨rfl, rfl⟩
    by_cases hf : 1048576 < S.n
    · have hr := Lib.hid (body_full hS.out hcv.out hf)
      have hd : decide (1048576 < S.n) = true := decide_eq_true hf
      rw [hd]
      go_wp2
      go_ret2
      exact ⟨by rw [hr.out.1, hr.out.2]; rfl, hB3.out⟩
    · have hd : decide (1048576 < S.n) = false := decide_eq_false hf
      rw [hd]
      by_cases hlong : 262144 < S.l.length
      · have hr := Lib.hid (body_long hS.out hcv.out hf hlong)
        go_wp2
        go_ret2
        exact ⟨by rw [hr.out.1, hr.out.2]; rfl, hB3.out⟩
      · have hr := Lib.hid (body_good hS.out hcv.out hf hlong)
        go_wp2
        go_ret2
        exact ⟨by rw [hr.out.1, hr.out.2]; rfl, hB3.out⟩
  · have hr := Lib.hid (body_not hcv hc0)
    replace hcv := Lib.hid hcv
    have hne : (cv == 0) = false := by simp [hc0]
    go_wp2
    go_ret2
    exact ⟨by rw [hr.out.1, hr.out.2]; rfl, hB2.out⟩
end Go.Proofs.YtanpjbbhhofkfaaDoor
