/- What Body tells, plainly. -/
import Derived.Test.YtanpjbbhhofkfaaDoorGp
import Derived.Test.YtanpjbbhhofkfaaDoorOa
import Derived.Test.YtanpjbbhhofkfaaDoorHt
namespace Go.Proofs.YtanpjbbhhofkfaaDoor
open Go.RowKit
set_option linter.unusedVariables false

/-- A module of one function. -/
def mB (l : Il) : Md := ⟨[], [], [(0, [], l)], [], [], [], [], [], [], []⟩
def bE (l : Il) : Int := if checkV (mB l) = 0 then (if (xEx l).length ≤ 262144 then 0 else 2) else checkV (mB l)
def bB (l : Il) : List UInt8 := if checkV (mB l) = 0 then (if (xEx l).length ≤ 262144 then xEx l else []) else []
theorem body_fit {l : Il} (ok : nOk l) (hc : checkV (mB l) = 0) : cl l ≤ 1152921504606846976 := by
  have hf := fit_of (m := mB l) ⟨fun t h => (by cases h), fun t h => (by cases h), fun t h => (by cases h), fun t h => by
    obtain rfl := List.mem_singleton.1 h
    exact ok⟩ hc
  have h1 := hf.codes
  have h2 : cCodes ((0, [], l) : Int × List Int × Il) ≤ cs cCodes (mB l).funcs := by simp [cs, mB]
  have h3 : cl l ≤ cCodes ((0, [], l) : Int × List Int × Il) := by
    unfold cCodes cCode
    simp only
    omega
  omega
theorem body_bad {l : Il} (hc : checkV (mB l) = 0) (hl : 262144 < (xEx l).length) : bE l = 2 ∧ bB l = [] := by
  unfold bE bB
  rw [if_pos hc, if_neg (by omega), if_pos hc, if_neg (by omega)]
  exact ⟨rfl, rfl⟩
theorem body_ok {l : Il} (hc : checkV (mB l) = 0) (hl : (xEx l).length ≤ 262144) : bE l = 0 ∧ bB l = xEx l := by
  unfold bE bB
  rw [if_pos hc, if_pos hl, if_pos hc, if_pos hl]
  exact ⟨rfl, rfl⟩
theorem body_full {l : Il} {s : WS} (hs : s = wEx l ⟨[], 0⟩) (hc : checkV (mB l) = 0) (hf : 1048576 < s.n) : bE l = 2 ∧ bB l = [] := by
  refine body_bad hc ?_
  have h := (Wr.ex (Nat.le_refl 1) l ⟨[], 0⟩).2.2
  rw [← hs] at h
  simp only [Nat.one_mul] at h
  omega
theorem body_long {l : Il} {s : WS} (hs : s = wEx l ⟨[], 0⟩) (hc : checkV (mB l) = 0) (hf : ¬ 1048576 < s.n) (hl : 262144 < s.l.length) : bE l = 2 ∧ bB l = [] := by
  refine body_bad hc ?_
  have h := (Wr.ex (Nat.le_refl 1) l ⟨[], 0⟩).2.1
  rw [← hs] at h
  have e := (h (by omega)).1
  rw [List.nil_append] at e
  rw [← e]
  exact hl
theorem body_good {l : Il} {s : WS} (hs : s = wEx l ⟨[], 0⟩) (hc : checkV (mB l) = 0) (hf : ¬ 1048576 < s.n) (hl : ¬ 262144 < s.l.length) : bE l = 0 ∧ bB l = s.l := by
  have h := (Wr.ex (Nat.le_refl 1) l ⟨[], 0⟩).2.1
  rw [← hs] at h
  have e := (h (by omega)).1
  rw [List.nil_append] at e
  rw [e]
  exact body_ok hc (by rw [← e]; omega)
theorem body_not {l : Il} {c : Int} (hc : checkV (mB l) = c) (h : ¬ c = 0) : bE l = c ∧ bB l = [] := by
  unfold bE bB
  rw [hc, if_neg h, if_neg h]
  exact ⟨rfl, rfl⟩
end Go.Proofs.YtanpjbbhhofkfaaDoor
