/- The reference's reader, plainly: what the sections are made of reads as the program's. -/
import Derived.Test.YtkbfjkbokifgkaaGreatDoorTl
import Derived.Test.YtkbfjkbokifgkaaGreatDoorTo
import Derived.Test.YtkbfjkbokifgkaaGreatDoorTi
namespace Go.Proofs.YtkbfjkbokifgkaaGreatDoor
open Go.RowKit
set_option linter.unusedVariables false

def rTypeE (s : List UInt8) (r : RS) : Rg (List Int × List Int) :=
  let a := rEach s (rTyp s) (rMust s 96 r)
  let b := rEach s (rTyp s) a.2
  ((a.1, b.1), b.2)
theorem sim_type (s : List UInt8) : Sim (gType s) (rTypeE s) :=
  sim_then (sim_is s 96) fun _ => sim_then (sim_each s (sim_typ s)) fun a => sim_then (sim_each s (sim_typ s)) fun b => sim_pure (a, b)
def rImportE (s : List UInt8) (r : RS) : Rg (ByteArray × ByteArray × Int) := ((mkb (rImported s r).1.1, mkb (rImported s r).1.2.1, (rImported s r).1.2.2), (rImported s r).2)
theorem sim_import (s : List UInt8) : Sim (gImport s) (rImportE s) :=
  sim_then (sim_name s) fun m => sim_then (sim_name s) fun n => sim_then (sim_is s 0) fun _ => sim_then (sim_u s) fun t => sim_pure (mkb m, mkb n, t)
def rTableE (s : List UInt8) (r : RS) : Rg (Int × Int × Bool) := rLimits s (rMust s 112 r)
theorem sim_table (s : List UInt8) : Sim (gTable s) (rTableE s) := sim_then (sim_is s 112) fun _ => sim_limits s
def rFlag (s : List UInt8) (r : RS) : Rg Bool := ((rByte s r).1 == 1, if 1 < (rByte s r).1 then (rByte s r).2.bad 50 else (rByte s r).2)
theorem sim_flag (s : List UInt8) : Sim (gFlag s) (rFlag s) := by
  intro r
  have h := sim_byte s r
  have hb : ∀ (r1 : RS), r1.w ≠ 0 → (rByte s r).2 = r1 → (rFlag s r).2.w = r1.w := by
    intro r1 h1 h2
    show (if 1 < (rByte s r).1 then (rByte s r).2.bad 50 else (rByte s r).2).w = _
    rw [h2, bad_w1 h1]
    split <;> rfl
  refine ⟨fun hw => ?_, fun hw => ?_⟩
  · have h1 := h.1 hw
    rw [hb _ (by rw [h1]; exact hw) rfl, h1]
  · have h0 := h.2 hw
    unfold gFlag
    cases hg : gByte s r.e r.a with
    | error n =>
      obtain ⟨hn, h1⟩ := h0.2 n hg
      refine ⟨fun v a he => (by cases he), fun m he => ?_⟩
      cases he
      exact ⟨hn, by rw [hb _ (by rw [h1]; exact hn) rfl, h1]⟩
    | ok q =>
      obtain ⟨b, c⟩ := q
      have h1 := h0.1 b c hg
      have e2 : rFlag s r = (b == 1, if 1 < b then { r with a := c }.bad 50 else { r with a := c }) := by
        unfold rFlag
        rw [h1]
      rw [e2]
      refine ⟨fun v a he => ?_, fun m he => ?_⟩
      · change (if b ≤ 1 then Except.ok (b == 1, c) else .error 50) = _ at he
        split at he
        · cases he
          rw [if_neg (by omega)]
        · cases he
      · change (if b ≤ 1 then Except.ok (b == 1, c) else .error 50) = _ at he
        split at he
        · cases he
        · cases he
          rw [if_pos (by omega)]
          exact ⟨by decide, bad_w0 hw⟩
theorem sim_global (s : List UInt8) : Sim (gGlobal s) (rGlobal s) :=
  sim_then (sim_typ s) fun t => sim_then (sim_flag s) fun f => sim_then (sim_const s) fun c => sim_pure (t, f, c)
def rExportE (s : List UInt8) (r : RS) : Rg (ByteArray × Int × Int) := ((mkb (rExported s r).1.1, (rExported s r).1.2.1, (rExported s r).1.2.2), (rExported s r).2)
theorem sim_export (s : List UInt8) : Sim (gExport s) (rExportE s) := by
  refine sim_then (sim_name s) fun n => sim_then (gk := fun k e a => if k ≤ 3 then (gU s e a).bind fun i => .ok ((mkb n, k, i.1), i.2) else .error 50) (k := fun k r => ((mkb n, k, (rU s (if 3 < k then r.bad 50 else r)).1), (rU s (if 3 < k then r.bad 50 else r)).2)) (sim_byte s) fun k => ?_
  by_cases hk : k ≤ 3
  · simp only [if_pos hk, if_neg (show ¬ 3 < k by omega)]
    exact sim_then (sim_u s) fun i => sim_pure (mkb n, k, i)
  · simp only [if_neg hk, if_pos (show 3 < k by omega)]
    intro r
    refine ⟨fun hw => ?_, fun hw => ⟨fun v a he => (by cases he), fun m he => ?_⟩⟩
    · dsimp only
      rw [bad_w1 hw, rU_zero s r hw]
    · cases he
      have h50 : (r.bad 50).w = 50 := bad_w0 hw
      dsimp only
      rw [rU_zero s (r.bad 50) (by rw [h50]; decide)]
      exact ⟨by decide, h50⟩
def rElemE (s : List UInt8) (r : RS) : Rg (One × List Int) :=
  let c := rConst s (rMust s 0 r)
  let l := rEach s (rU s) c.2
  ((c.1, l.1), l.2)
theorem sim_elem (s : List UInt8) : Sim (gElem s) (rElemE s) :=
  sim_then (sim_is s 0) fun _ => sim_then (sim_const s) fun c => sim_then (sim_each s (sim_u s)) fun l => sim_pure (c, l)
def rDataE (s : List UInt8) (r : RS) : Rg (One × ByteArray) :=
  let c := rConst s (rMust s 0 r)
  let t := rText s c.2
  ((c.1, mkb t.1), t.2)
theorem sim_data (s : List UInt8) : Sim (gData s) (rDataE s) :=
  sim_then (sim_is s 0) fun _ => sim_then (sim_const s) fun c => sim_then (sim_text s) fun t => sim_pure (c, mkb t)
end Go.Proofs.YtkbfjkbokifgkaaGreatDoor

namespace Go.Proofs.YtkbfjkbokifgkaaGreatDoor
open Go.RowKit
set_option linter.unusedVariables false

/-- A section of the reader's own: its name. -/
def rCustom (s : List UInt8) (m : Md) (r : RS) : Rg Md :=
  (m, if (if Lib.validD (rText s r).1 = true then (rText s r).2 else (rText s r).2.bad 50).w = 0 then { (if Lib.validD (rText s r).1 = true then (rText s r).2 else (rText s r).2.bad 50) with a := (if Lib.validD (rText s r).1 = true then (rText s r).2 else (rText s r).2.bad 50).e } else (if Lib.validD (rText s r).1 = true then (rText s r).2 else (rText s r).2.bad 50))
/-- What stands in a section of a number other than ten. -/
def rSec (s : List UInt8) (id : Nat) (m : Md) (r : RS) : Rg Md :=
  match id with
  | 0 => rCustom s m r
  | 1 => ({ m with types := m.types ++ (rEach s (rTypeE s) r).1 }, (rEach s (rTypeE s) r).2)
  | 2 => ({ m with imports := m.imports ++ (rEach s (rImportE s) r).1 }, (rEach s (rImportE s) r).2)
  | 3 => ({ m with funcs := m.funcs ++ (rEach s (rU s) r).1.map fun t => (t, [], .nil) }, (rEach s (rU s) r).2)
  | 4 => ({ m with tables := m.tables ++ (rEach s (rTableE s) r).1 }, (rEach s (rTableE s) r).2)
  | 5 => ({ m with mems := m.mems ++ (rEach s (rLimits s) r).1 }, (rEach s (rLimits s) r).2)
  | 6 => ({ m with globals := m.globals ++ (rEach s (rGlobal s) r).1 }, (rEach s (rGlobal s) r).2)
  | 7 => ({ m with exports := m.exports ++ (rEach s (rExportE s) r).1 }, (rEach s (rExportE s) r).2)
  | 8 => ({ m with start := m.start ++ [(rU s r).1] }, (rU s r).2)
  | 9 => ({ m with elems := m.elems ++ (rEach s (rElemE s) r).1 }, (rEach s (rElemE s) r).2)
  | _ => ({ m with datas := m.datas ++ (rEach s (rDataE s) r).1 }, (rEach s (rDataE s) r).2)
theorem sim_custom (s : List UInt8) (m : Md) : Sim (gSection s 0 m) (rCustom s m) := by
  refine sim_then (gk := fun t e _ => if Lib.validD t = true then .ok (m, e) else .error 50) (k := fun t r => (m, if (if Lib.validD t = true then r else r.bad 50).w = 0 then { (if Lib.validD t = true then r else r.bad 50) with a := (if Lib.validD t = true then r else r.bad 50).e } else (if Lib.validD t = true then r else r.bad 50))) (sim_text s) fun t => ?_
  intro r
  by_cases hv : Lib.validD t = true
  · simp only [if_pos hv]
    refine ⟨fun hw => ?_, fun hw => ⟨fun v a he => ?_, fun n he => (by cases he)⟩⟩
    · rw [if_neg hw]
    · cases he
      rw [if_pos hw]
  · simp only [if_neg hv]
    refine ⟨fun hw => ?_, fun hw => ⟨fun v a he => (by cases he), fun n he => ?_⟩⟩
    · rw [bad_w1 hw, if_neg hw]
    · cases he
      have h50 : (r.bad 50).w = 50 := bad_w0 hw
      rw [if_neg (by rw [h50]; decide)]
      exact ⟨by decide, h50⟩
theorem sim_sect {α : Type} {g : Nat → Nat → Got α} {f : RS → Rg α} (h : Sim g f) (U : α → Md) : Sim (fun e a => (g e a).bind fun l => .ok (U l.1, l.2)) (fun r => (U (f r).1, (f r).2)) := sim_then h fun l => sim_pure (U l)
theorem sim_sec (s : List UInt8) (m : Md) : ∀ id, id ≤ 11 → id ≠ 10 → Sim (gSection s id m) (rSec s id m)
  | 0, _, _ => sim_custom s m
  | 1, _, _ => by
    have h := sim_sect (sim_each s (sim_type s)) (fun l => ({ m with types := m.types ++ l } : Md))
    exact h
  | 2, _, _ => by
    have h := sim_sect (sim_each s (sim_import s)) (fun l => ({ m with imports := m.imports ++ l } : Md))
    exact h
  | 3, _, _ => by
    have h := sim_sect (sim_each s (sim_u s)) (fun l => ({ m with funcs := m.funcs ++ l.map fun t => (t, [], Il.nil) } : Md))
    exact h
  | 4, _, _ => by
    have h := sim_sect (sim_each s (sim_table s)) (fun l => ({ m with tables := m.tables ++ l } : Md))
    exact h
  | 5, _, _ => by
    have h := sim_sect (sim_each s (sim_limits s)) (fun l => ({ m with mems := m.mems ++ l } : Md))
    exact h
  | 6, _, _ => by
    have h := sim_sect (sim_each s (sim_global s)) (fun l => ({ m with globals := m.globals ++ l } : Md))
    exact h
  | 7, _, _ => by
    have h := sim_sect (sim_each s (sim_export s)) (fun l => ({ m with exports := m.exports ++ l } : Md))
    exact h
  | 8, _, _ => by
    have h := sim_sect (sim_u s) (fun n => ({ m with start := m.start ++ [n] } : Md))
    exact h
  | 9, _, _ => by
    have h := sim_sect (sim_each s (sim_elem s)) (fun l => ({ m with elems := m.elems ++ l } : Md))
    exact h
  | 10, _, h => absurd rfl h
  | 11, _, _ => by
    have h := sim_sect (sim_each s (sim_data s)) (fun l => ({ m with datas := m.datas ++ l } : Md))
    exact h
  | n + 12, h, _ => absurd h (by omega)
/-- Codes, one for each type. -/
def rCodes (s : List UInt8) : List Int → RS → Rg (List (Int × List Int × Il))
  | [], r => ([], r)
  | t :: ts, r => if r.w ≠ 0 then ([], r) else ((t, (rCode s r).1.1, (rCode s r).1.2) :: (rCodes s ts (rCode s r).2).1, (rCodes s ts (rCode s r).2).2)
theorem codes_w (s : List UInt8) : ∀ (ts : List Int) (r : RS), r.w ≠ 0 → (rCodes s ts r).2.w = r.w
  | [], _, _ => rfl
  | t :: ts, r, h => by rw [rCodes, if_pos h]
theorem sim_codes (s : List UInt8) : ∀ (ts : List Int) (r : RS), r.w = 0 → r.i ≤ 65536 →
    (∀ v a, gCodes s r.e ts (65536 - r.i) r.a = .ok (v, a) → ∃ i, i ≤ 65536 ∧ rCodes s ts r = (v, { r with a := a, i := i })) ∧ (∀ n, gCodes s r.e ts (65536 - r.i) r.a = .error n → n ≠ 0 ∧ (rCodes s ts r).2.w = n)
  | [], r, hw, hi => ⟨fun v a h => by cases h; exact ⟨r.i, hi, rfl⟩, fun n h => by cases h⟩
  | t :: ts, r, hw, hi => by
    have hc := (simI_code s r).2 hw hi
    dsimp only at hc
    rw [rCodes, if_neg (by simp [hw]), gCodes]
    cases hg : gCode s (65536 - r.i) r.e r.a with
    | error n =>
      obtain ⟨hn, h1⟩ := hc.2 n hg
      refine ⟨fun v a he => (by cases he), fun m he => ?_⟩
      cases he
      exact ⟨hn, by rw [codes_w s ts _ (by rw [h1]; exact hn), h1]⟩
    | ok q =>
      obtain ⟨⟨v, l⟩, c⟩ := q
      obtain ⟨h1, h2⟩ := hc.1 v l c hg
      have ih := sim_codes s ts { r with a := c, i := 65536 - l } hw (by show 65536 - l ≤ 65536; omega)
      dsimp only at ih
      rw [show 65536 - (65536 - l) = l by omega] at ih
      rw [h2]
      dsimp only
      show (∀ v' a, ((gCodes s r.e ts l c).bind fun z => Except.ok ((t, v.1, v.2) :: z.1, z.2)) = .ok (v', a) → _) ∧ (∀ n, ((gCodes s r.e ts l c).bind fun z => Except.ok ((t, v.1, v.2) :: z.1, z.2)) = .error n → _)
      cases hk : gCodes s r.e ts l c with
      | error m =>
        obtain ⟨hm, h3⟩ := ih.2 m hk
        refine ⟨fun v a he => (by cases he), fun m' he => ?_⟩
        cases he
        exact ⟨hm, h3⟩
      | ok z =>
        obtain ⟨zs, d⟩ := z
        obtain ⟨i, h3, h4⟩ := ih.1 zs d hk
        refine ⟨fun v' a he => ?_, fun m' he => (by cases he)⟩
        cases he
        exact ⟨i, h3, by rw [h4]⟩
end Go.Proofs.YtkbfjkbokifgkaaGreatDoor
