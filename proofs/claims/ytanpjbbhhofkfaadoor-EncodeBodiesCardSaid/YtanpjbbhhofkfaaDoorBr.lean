/- What the reference's Body tells: the walk. -/
import Derived.Test.YtanpjbbhhofkfaaDoorBo
import Derived.Test.YtanpjbbhhofkfaaDoorHb
import Derived.Test.YtanpjbbhhofkfaaDoorRh
namespace Go.Proofs.YtanpjbbhhofkfaaDoor
open Go.RowKit
set_option linter.unusedVariables false
set_option linter.unusedSimpArgs false

theorem PAt.mono {N M p : Nat} {w : World} {v : Value} {s : PS} (h : PAt N p w v s) (hM : M ≤ N) : PAt M p w v s := by
  refine ⟨h.blk, ⟨h.own.1, ?_⟩, h.ne, Nat.le_trans hM h.hN, Nat.le_trans hM h.hw, h.cap⟩
  rcases h.own.2 with e | ⟨g, cap, cur, e, hg, r⟩
  · exact .inl e
  · exact .inr ⟨g, cap, cur, e, Nat.le_trans hM hg, r⟩
theorem rbody_over {l : Il} {s : PS} (hc : checkV (mB l) = 0) (h : Pen ⟨[], false⟩ (xEx l) s) (ho : s.o = true) : bE l = 2 ∧ bB l = [] := by
  have hn : ¬ (xEx l).length ≤ 262144 := fun hl => by
    have := h.goes (by simp only [List.nil_append]; omega) rfl
    rw [ho] at this
    cases this
  exact body_bad hc (by omega)
theorem rbody_long {l : Il} {s : PS} (hc : checkV (mB l) = 0) (h : Pen ⟨[], false⟩ (xEx l) s) (ho : s.o = false) (hl : 262144 < s.l.length) : bE l = 2 ∧ bB l = [] := by
  have he := (h.fits ho).1
  rw [List.nil_append] at he
  exact body_bad hc (by rw [← he]; omega)
theorem rbody_good {l : Il} {s : PS} (hc : checkV (mB l) = 0) (h : Pen ⟨[], false⟩ (xEx l) s) (ho : s.o = false) (hl : ¬ 262144 < s.l.length) : bE l = 0 ∧ bB l = s.l := by
  have he := (h.fits ho).1
  rw [List.nil_append] at he
  rw [he]
  exact body_ok hc (by rw [← he]; omega)
set_option maxRecDepth 100000 in
set_option maxHeartbeats 4000000 in
theorem rbody_any (l : Il) (ao : Option Addr) (c : Nat) (w : World) (hl : l.len ≤ 9223372036854775807) (hi : IlIn w ao 0 l) (ok : nOk l) :
    Calls Tryd.prog 13 #[.slice ao l.len c] w fun e w' => e = .returned (.tuple #[.string (mks (bB l)), .int .i64 (bE l)]) ∧ Below w.heap.size w w' := by
  obtain ⟨wA, hwA⟩ : ∃ wA, wA = w.alloc (.cells #[.int .i64 0, .slice none 0 0, .slice ao l.len c] 42) := ⟨_, rfl⟩
  have hbel : Below w.heap.size w wA := by rw [hwA]; exact (Below.refl _ _).alloc (Nat.le_refl _) _
  have hM := mB_at l ao c w hl hi
  rw [← hwA] at hM
  replace hM := Lib.hid hM
  replace hbel := Lib.hid hbel
  replace hi := Lib.hid hi
  replace ok := Lib.hid ok
  go_enter Tryd.func13, Tryd.ntmps13
  go_wp2_with fail
  rw [← hwA]
  clear hwA
  refine (rcheck_any (mB l) _ _ _ _ _ _ _ _ _ _ _ _ _ _ _ _ _ _ _ _ wA hM.out (fun t ht => by cases ht)).mono ?_
  rintro e w2 ⟨rfl, hb2⟩
  have hB2 := Lib.hid (hbel.out.trans (hb2.mono hbel.out.size))
  clear hb2
  obtain ⟨cv, hcv⟩ : ∃ cv, checkV (mB l) = cv := ⟨_, rfl⟩
  rw [hcv]
  by_cases hc0 : cv = 0
  · subst hc0
    replace hcv := Lib.hid hcv
    obtain ⟨p, hp⟩ : ∃ p, w2.heap.size = p := ⟨_, rfl⟩
    obtain ⟨wP, hwP⟩ : ∃ wP, wP = w2.alloc (.cells #[.slice none 0 0, .bool false] 81) := ⟨_, rfl⟩
    have hP0 : PAt w.heap.size p wP (.slice none 0 0) ⟨[], false⟩ := by rw [hwP, ← hp]; exact (PAt.new w2).mono hB2.out.size
    have hBP : Below w.heap.size w wP := by rw [hwP]; exact hB2.out.alloc hB2.out.size _
    have hV := Lib.hid (Vw.oldp hP0 hBP)
    replace hP0 := Lib.hid hP0
    replace hBP := Lib.hid hBP
    go_wp2_with fail
    rw [← hwP]
    clear hwP hp
    refine (pexpr_any l w _ p wP _ ⟨[], false⟩ ao c hP0.out hV.out hl hi.out ok.out).mono ?_
    rintro e w4 ⟨rfl, v4, s4, h4, t4, q4⟩
    have hpen := Lib.hid q4
    have hB4 := Lib.hid (hBP.out.trans (t4.below hP0.out.hN (fun g e => by cases e) hBP.out.size))
    obtain ⟨a4', c4', hv4⟩ := own_slice h4.own
    subst hv4
    have x0 := h4.c0
    have x1 := h4.c1
    have hcap := h4.cap
    have hcv2 := conv_own h4.own
    clear q4 t4
    by_cases hov : s4.o = true
    · have hr := Lib.hid (rbody_over hcv.out hpen.out hov)
      rw [hov] at x1
      go_wp2
      go_ret2
      exact ⟨by rw [hr.out.1, hr.out.2]; rfl, hB4.out⟩
    · have hov2 : s4.o = false := by simpa using hov
      rw [hov2] at x1
      clear hov
      by_cases hlong : 262144 < s4.l.length
      · have hr := Lib.hid (rbody_long hcv.out hpen.out hov2 hlong)
        go_wp2
        go_ret2
        exact ⟨by rw [hr.out.1, hr.out.2]; rfl, hB4.out⟩
      · have hr := Lib.hid (rbody_good hcv.out hpen.out hov2 hlong)
        go_wp2
        go_ret2
        exact ⟨by rw [hr.out.1, hr.out.2]; rfl, hB4.out⟩
  · have hr := Lib.hid (body_not hcv hc0)
    replace hcv := Lib.hid hcv
    have hne : (cv == 0) = false := by simp [hc0]
    go_wp2
    go_ret2
    exact ⟨by rw [hr.out.1, hr.out.2]; rfl, hB2.out⟩
end Go.Proofs.YtanpjbbhhofkfaaDoor
