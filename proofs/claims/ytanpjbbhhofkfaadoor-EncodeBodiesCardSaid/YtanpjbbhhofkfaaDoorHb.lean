/- What the reference's instr, instrs, expr write. -/
import Derived.Test.YtanpjbbhhofkfaaDoorGx
import Derived.Test.YtanpjbbhhofkfaaDoorFc
namespace Go.Proofs.YtanpjbbhhofkfaaDoor
open Go.RowKit
set_option linter.unusedVariables false
set_option linter.unusedSimpArgs false

def PinsC (l : Il) : Prop := ∀ (w0 : World) (N p : Nat) (w : World) (v : Value) (s : PS) (a : Option Addr) (c : Nat), PAt N p w v s → Vw w0 p v w → l.len ≤ 9223372036854775807 → IlIn w0 a 0 l → nOk l →
  Calls Tryd.prog 56 #[.pointer (some ⟨p, 0, none⟩), .slice a l.len c] w fun e w' => e = .returned (.tuple #[]) ∧ POut N p w v s (xl l) w'
set_option maxRecDepth 100000 in
set_option maxHeartbeats 4000000 in
theorem pinstr_any (op x y n : Int) (ls : List Int) (b e : Il) (hn : -9223372036854775808 ≤ n ∧ n ≤ 9223372036854775807) (ok5 : nOk b) (ok6 : nOk e) (sb : PinsC b) (se : PinsC e) (w0 : World) (N p : Nat) (w : World) (v : Value) (s : PS) (a4 : Option Addr) (k4 : Nat) (a5 : Option Addr) (k5 : Nat) (a6 : Option Addr) (k6 : Nat)
    (h : PAt N p w v s) (hb : Vw w0 p v w) (i4 : IntsIn w0 a4 ls) (l5 : b.len ≤ 9223372036854775807) (i5 : IlIn w0 a5 0 b) (l6 : e.len ≤ 9223372036854775807) (i6 : IlIn w0 a6 0 e) :
    Calls Tryd.prog 81 #[.pointer (some ⟨p, 0, none⟩), .agg #[.int .i64 op, .int .i64 x, .int .i64 y, .int .i64 n, .slice a4 ls.length k4, .slice a5 b.len k5, .slice a6 e.len k6]] w fun e' w' => e' = .returned (.tuple #[]) ∧ POut N p w v s (xi op x y n ls b e) w' := by
  have L4 : ls.length ≤ 9223372036854775807 := i4.1
  obtain ⟨q, hq⟩ : ∃ q, w.heap.size = q := ⟨_, rfl⟩
  obtain ⟨wA, hwA⟩ : ∃ wA, wA = w.alloc (.cells #[.int .i64 op, .int .i64 x, .int .i64 y, .int .i64 n, .slice a4 ls.length k4, .slice a5 b.len k5, .slice a6 e.len k6] 53) := ⟨_, rfl⟩
  have hbel : Below w.heap.size w wA := by rw [hwA]; exact (Below.refl _ _).alloc (Nat.le_refl _) _
  have hqp := Lib.hid (show q ≠ p by have := h.lt; omega)
  have hqv := Lib.hid (show v.ownBlock ≠ some q from fun e => by have := (h.own.lt q e).2; omega)
  have hbx : Box wA q #[.int .i64 op, .int .i64 x, .int .i64 y, .int .i64 n, .slice a4 ls.length k4, .slice a5 b.len k5, .slice a6 e.len k6] := by rw [hwA, ← hq]; exact box_new w _ _
  have h0 := Lib.hid (h.below hbel)
  have t0' := Lib.hid (Tr.of_below (p := p) (v := v) hbel)
  have hp0 : wA.cell? ⟨q, 0, none⟩ = some (.int .i64 op) := hbx 0 _ rfl
  replace hbx := Lib.hid hbx
  have t0 := Lib.hid (Tr.refl p v wA)
  replace h := Lib.hid h
  replace hb := Lib.hid hb
  replace i4 := Lib.hid i4
  replace i5 := Lib.hid i5
  replace i6 := Lib.hid i6
  replace sb := Lib.hid sb
  replace se := Lib.hid se
  go_enter Tryd.func81, Tryd.ntmps81
  rw [hwA] at hp0
  go_wp2_with fail
  rw [← hwA]
  refine (pbyte_any h0.out op).mono ?_
  rintro e' w1 ⟨rfl, v1, s1, hh, tt, qq⟩
  have h1 := Lib.hid hh
  have t1 := Lib.hid tt
  have q1 := Lib.hid qq
  clear hh tt qq hp0 hwA hbel
  have p0 : w1.cell? ⟨q, 0, none⟩ = some (.int .i64 op) := (t1.out.box hqp.out hqv.out hbx.out) 0 _ rfl
  go_wp2_with fail
  refine (rform_any op w1).mono ?_
  rintro e' w1x ⟨rfl, rfl⟩
  clear p0
  obtain ⟨f, hf⟩ : ∃ f, formV op = f := ⟨_, rfl⟩
  have hcs := formV_cases op
  rw [hf] at hcs ⊢
  replace hf := Lib.hid hf
  rcases hcs with hcs | hcs | hcs | hcs | hcs | hcs | hcs | hcs | hcs | hcs | hcs
  · subst hcs
    have hc63 : op ≠ 63 := fun e => by have h := hf.out; rw [e] at h; revert h; decide
    have hc64 : op ≠ 64 := fun e => by have h := hf.out; rw [e] at h; revert h; decide
    have p0 : w1.cell? ⟨q, 0, none⟩ = some (.int .i64 op) := (t1.out.box hqp.out hqv.out hbx.out) 0 _ rfl
    have hd1 : (op == 63) = false := by simp [hc63]
    have hd2 : (op == 64) = false := by simp [hc64]
    have hv : xTail 0 op x y n ls e.len (xl b) (xl e) = [] := by rfl
    replace hv := Lib.hid hv
    go_wp2
    go_end0
    exact ⟨rfl, by unfold xi; rw [hf.out, hv.out]; exact POut.trans t0'.out ⟨v1, s1, h1.out, t1.out, by simpa only [List.append_assoc, List.append_nil, List.nil_append, List.cons_append] using q1.out⟩⟩
  · subst hcs
    by_cases hc63 : op = 63
    · subst hc63
      have p0 : w1.cell? ⟨q, 0, none⟩ = some (.int .i64 63) := (t1.out.box hqp.out hqv.out hbx.out) 0 _ rfl
      go_wp2_with fail
      refine (pbyte_any h1.out 0).mono ?_
      rintro e' w2 ⟨rfl, v2, s2, hh, tt, qq⟩
      have h2 := Lib.hid hh
      have t2 := Lib.hid (t1.out.trans tt)
      have q2 := Lib.hid (q1.out.trans qq)
      clear hh tt qq
      clear p0
      have hv : xTail 1 63 x y n ls e.len (xl b) (xl e) = [b1 0] := by rfl
      replace hv := Lib.hid hv
      go_wp2
      go_end0
      exact ⟨rfl, by unfold xi; rw [hf.out, hv.out]; exact POut.trans t0'.out ⟨v2, s2, h2.out, t2.out, by simpa only [List.append_assoc, List.append_nil, List.nil_append, List.cons_append] using q2.out⟩⟩
    by_cases hc64 : op = 64
    · subst hc64
      have p0 : w1.cell? ⟨q, 0, none⟩ = some (.int .i64 64) := (t1.out.box hqp.out hqv.out hbx.out) 0 _ rfl
      go_wp2_with fail
      refine (pbyte_any h1.out 0).mono ?_
      rintro e' w2 ⟨rfl, v2, s2, hh, tt, qq⟩
      have h2 := Lib.hid hh
      have t2 := Lib.hid (t1.out.trans tt)
      have q2 := Lib.hid (q1.out.trans qq)
      clear hh tt qq
      clear p0
      have hv : xTail 1 64 x y n ls e.len (xl b) (xl e) = [b1 0] := by rfl
      replace hv := Lib.hid hv
      go_wp2
      go_end0
      exact ⟨rfl, by unfold xi; rw [hf.out, hv.out]; exact POut.trans t0'.out ⟨v2, s2, h2.out, t2.out, by simpa only [List.append_assoc, List.append_nil, List.nil_append, List.cons_append] using q2.out⟩⟩
    have p0 : w1.cell? ⟨q, 0, none⟩ = some (.int .i64 op) := (t1.out.box hqp.out hqv.out hbx.out) 0 _ rfl
    have hd1 : (op == 63) = false := by simp [hc63]
    have hd2 : (op == 64) = false := by simp [hc64]
    have hv : xTail 1 op x y n ls e.len (xl b) (xl e) = [] := by show (if op = 63 ∨ op = 64 then _ else _) = _; rw [if_neg (by omega)]
    replace hv := Lib.hid hv
    go_wp2
    go_end0
    exact ⟨rfl, by unfold xi; rw [hf.out, hv.out]; exact POut.trans t0'.out ⟨v1, s1, h1.out, t1.out, by simpa only [List.append_assoc, List.append_nil, List.nil_append, List.cons_append] using q1.out⟩⟩
  · subst hcs
    by_cases hx0 : x = 0
    · have p1' : w1.cell? ⟨q, 1, none⟩ = some (.int .i64 0) := (t1.out.box hqp.out hqv.out hbx.out) 1 _ (by rw [← hx0]; rfl)
      go_wp2_with fail
      refine (pbyte_any h1.out 64).mono ?_
      rintro e' w2 ⟨rfl, v2, s2, hh, tt, qq⟩
      have h2 := Lib.hid hh
      have t2 := Lib.hid (t1.out.trans tt)
      have q2 := Lib.hid (q1.out.trans qq)
      clear hh tt qq p1'
      have p5 : w2.cell? ⟨q, 5, none⟩ = some (.slice a5 b.len k5) := (t2.out.box hqp.out hqv.out hbx.out) 5 _ rfl
      go_wp2_with fail
      refine (sb.out w0 N p _ v2 s2 a5 k5 h2.out (hb.out.tr (t0'.out.trans t2.out)) l5 i5.out ok5).mono ?_
      rintro e' w3 ⟨rfl, v3, s3, hh, tt, qq⟩
      have h3 := Lib.hid hh
      have t3 := Lib.hid (t2.out.trans tt)
      have q3 := Lib.hid (q2.out.trans qq)
      clear hh tt qq p5
      by_cases he : 0 < e.len
      · have p6 : w3.cell? ⟨q, 6, none⟩ = some (.slice a6 e.len k6) := (t3.out.box hqp.out hqv.out hbx.out) 6 _ rfl
        go_wp2_with fail
        refine (pbyte_any h3.out 5).mono ?_
        rintro e' w4 ⟨rfl, v4, s4, hh, tt, qq⟩
        have h4 := Lib.hid hh
        have t4 := Lib.hid (t3.out.trans tt)
        have q4 := Lib.hid (q3.out.trans qq)
        clear hh tt qq p6
        have p6 : w4.cell? ⟨q, 6, none⟩ = some (.slice a6 e.len k6) := (t4.out.box hqp.out hqv.out hbx.out) 6 _ rfl
        go_wp2_with fail
        refine (se.out w0 N p _ v4 s4 a6 k6 h4.out (hb.out.tr (t0'.out.trans t4.out)) l6 i6.out ok6).mono ?_
        rintro e' w5 ⟨rfl, v5, s5, hh, tt, qq⟩
        have h5 := Lib.hid hh
        have t5 := Lib.hid (t4.out.trans tt)
        have q5 := Lib.hid (q4.out.trans qq)
        clear hh tt qq p6
        go_wp2_with fail
        refine (pbyte_any h5.out 11).mono ?_
        rintro e' w6 ⟨rfl, v6, s6, hh, tt, qq⟩
        have h6 := Lib.hid hh
        have t6 := Lib.hid (t5.out.trans tt)
        have q6 := Lib.hid (q5.out.trans qq)
        clear hh tt qq
        have hv : xTail 2 op x y n ls e.len (xl b) (xl e) = [b1 64] ++ xl b ++ ([b1 5] ++ xl e) ++ [b1 11] := by show [b1 (if x = 0 then 64 else x)] ++ xl b ++ (if 0 < e.len then _ else _) ++ [b1 11] = _; rw [if_pos he, if_pos hx0]
        replace hv := Lib.hid hv
        go_wp2
        go_end0
        exact ⟨rfl, by unfold xi; rw [hf.out, hv.out]; exact POut.trans t0'.out ⟨v6, s6, h6.out, t6.out, by simpa only [List.append_assoc, List.append_nil, List.nil_append, List.cons_append] using q6.out⟩⟩
      · have hez : e.len = 0 := by omega
        have hez2 : ((e.len : Nat) : Int) = 0 := by omega
        have p6 : w3.cell? ⟨q, 6, none⟩ = some (.slice a6 e.len k6) := (t3.out.box hqp.out hqv.out hbx.out) 6 _ rfl
        go_wp2_with fail
        refine (pbyte_any h3.out 11).mono ?_
        rintro e' w4 ⟨rfl, v4, s4, hh, tt, qq⟩
        have h4 := Lib.hid hh
        have t4 := Lib.hid (t3.out.trans tt)
        have q4 := Lib.hid (q3.out.trans qq)
        clear hh tt qq p6
        have hv : xTail 2 op x y n ls e.len (xl b) (xl e) = [b1 64] ++ xl b ++ [] ++ [b1 11] := by show [b1 (if x = 0 then 64 else x)] ++ xl b ++ (if 0 < e.len then _ else _) ++ [b1 11] = _; rw [if_neg he, if_pos hx0]
        replace hv := Lib.hid hv
        go_wp2
        go_end0
        exact ⟨rfl, by unfold xi; rw [hf.out, hv.out]; exact POut.trans t0'.out ⟨v4, s4, h4.out, t4.out, by simpa only [List.append_assoc, List.append_nil, List.nil_append, List.cons_append] using q4.out⟩⟩
    · have p1 : w1.cell? ⟨q, 1, none⟩ = some (.int .i64 x) := (t1.out.box hqp.out hqv.out hbx.out) 1 _ rfl
      have hx1 : (x == 0) = false := by simp [hx0]
      go_wp2_with fail
      refine (pbyte_any h1.out x).mono ?_
      rintro e' w2 ⟨rfl, v2, s2, hh, tt, qq⟩
      have h2 := Lib.hid hh
      have t2 := Lib.hid (t1.out.trans tt)
      have q2 := Lib.hid (q1.out.trans qq)
      clear hh tt qq p1 hx1
      have p5 : w2.cell? ⟨q, 5, none⟩ = some (.slice a5 b.len k5) := (t2.out.box hqp.out hqv.out hbx.out) 5 _ rfl
      go_wp2_with fail
      refine (sb.out w0 N p _ v2 s2 a5 k5 h2.out (hb.out.tr (t0'.out.trans t2.out)) l5 i5.out ok5).mono ?_
      rintro e' w3 ⟨rfl, v3, s3, hh, tt, qq⟩
      have h3 := Lib.hid hh
      have t3 := Lib.hid (t2.out.trans tt)
      have q3 := Lib.hid (q2.out.trans qq)
      clear hh tt qq p5
      by_cases he : 0 < e.len
      · have p6 : w3.cell? ⟨q, 6, none⟩ = some (.slice a6 e.len k6) := (t3.out.box hqp.out hqv.out hbx.out) 6 _ rfl
        go_wp2_with fail
        refine (pbyte_any h3.out 5).mono ?_
        rintro e' w4 ⟨rfl, v4, s4, hh, tt, qq⟩
        have h4 := Lib.hid hh
        have t4 := Lib.hid (t3.out.trans tt)
        have q4 := Lib.hid (q3.out.trans qq)
        clear hh tt qq p6
        have p6 : w4.cell? ⟨q, 6, none⟩ = some (.slice a6 e.len k6) := (t4.out.box hqp.out hqv.out hbx.out) 6 _ rfl
        go_wp2_with fail
        refine (se.out w0 N p _ v4 s4 a6 k6 h4.out (hb.out.tr (t0'.out.trans t4.out)) l6 i6.out ok6).mono ?_
        rintro e' w5 ⟨rfl, v5, s5, hh, tt, qq⟩
        have h5 := Lib.hid hh
        have t5 := Lib.hid (t4.out.trans tt)
        have q5 := Lib.hid (q4.out.trans qq)
        clear hh tt qq p6
        go_wp2_with fail
        refine (pbyte_any h5.out 11).mono ?_
        rintro e' w6 ⟨rfl, v6, s6, hh, tt, qq⟩
        have h6 := Lib.hid hh
        have t6 := Lib.hid (t5.out.trans tt)
        have q6 := Lib.hid (q5.out.trans qq)
        clear hh tt qq
        have hv : xTail 2 op x y n ls e.len (xl b) (xl e) = [b1 x] ++ xl b ++ ([b1 5] ++ xl e) ++ [b1 11] := by show [b1 (if x = 0 then 64 else x)] ++ xl b ++ (if 0 < e.len then _ else _) ++ [b1 11] = _; rw [if_pos he, if_neg hx0]
        replace hv := Lib.hid hv
        go_wp2
        go_end0
        exact ⟨rfl, by unfold xi; rw [hf.out, hv.out]; exact POut.trans t0'.out ⟨v6, s6, h6.out, t6.out, by simpa only [List.append_assoc, List.append_nil, List.nil_append, List.cons_append] using q6.out⟩⟩
      · have hez : e.len = 0 := by omega
        have hez2 : ((e.len : Nat) : Int) = 0 := by omega
        have p6 : w3.cell? ⟨q, 6, none⟩ = some (.slice a6 e.len k6) := (t3.out.box hqp.out hqv.out hbx.out) 6 _ rfl
        go_wp2_with fail
        refine (pbyte_any h3.out 11).mono ?_
        rintro e' w4 ⟨rfl, v4, s4, hh, tt, qq⟩
        have h4 := Lib.hid hh
        have t4 := Lib.hid (t3.out.trans tt)
        have q4 := Lib.hid (q3.out.trans qq)
        clear hh tt qq p6
        have hv : xTail 2 op x y n ls e.len (xl b) (xl e) = [b1 x] ++ xl b ++ [] ++ [b1 11] := by show [b1 (if x = 0 then 64 else x)] ++ xl b ++ (if 0 < e.len then _ else _) ++ [b1 11] = _; rw [if_neg he, if_neg hx0]
        replace hv := Lib.hid hv
        go_wp2
        go_end0
        exact ⟨rfl, by unfold xi; rw [hf.out, hv.out]; exact POut.trans t0'.out ⟨v4, s4, h4.out, t4.out, by simpa only [List.append_assoc, List.append_nil, List.nil_append, List.cons_append] using q4.out⟩⟩
  · subst hcs
    by_cases hx0 : x = 0
    · have p1' : w1.cell? ⟨q, 1, none⟩ = some (.int .i64 0) := (t1.out.box hqp.out hqv.out hbx.out) 1 _ (by rw [← hx0]; rfl)
      go_wp2_with fail
      refine (pbyte_any h1.out 64).mono ?_
      rintro e' w2 ⟨rfl, v2, s2, hh, tt, qq⟩
      have h2 := Lib.hid hh
      have t2 := Lib.hid (t1.out.trans tt)
      have q2 := Lib.hid (q1.out.trans qq)
      clear hh tt qq p1'
      have p5 : w2.cell? ⟨q, 5, none⟩ = some (.slice a5 b.len k5) := (t2.out.box hqp.out hqv.out hbx.out) 5 _ rfl
      go_wp2_with fail
      refine (sb.out w0 N p _ v2 s2 a5 k5 h2.out (hb.out.tr (t0'.out.trans t2.out)) l5 i5.out ok5).mono ?_
      rintro e' w3 ⟨rfl, v3, s3, hh, tt, qq⟩
      have h3 := Lib.hid hh
      have t3 := Lib.hid (t2.out.trans tt)
      have q3 := Lib.hid (q2.out.trans qq)
      clear hh tt qq p5
      by_cases he : 0 < e.len
      · have p6 : w3.cell? ⟨q, 6, none⟩ = some (.slice a6 e.len k6) := (t3.out.box hqp.out hqv.out hbx.out) 6 _ rfl
        go_wp2_with fail
        refine (pbyte_any h3.out 5).mono ?_
        rintro e' w4 ⟨rfl, v4, s4, hh, tt, qq⟩
        have h4 := Lib.hid hh
        have t4 := Lib.hid (t3.out.trans tt)
        have q4 := Lib.hid (q3.out.trans qq)
        clear hh tt qq p6
        have p6 : w4.cell? ⟨q, 6, none⟩ = some (.slice a6 e.len k6) := (t4.out.box hqp.out hqv.out hbx.out) 6 _ rfl
        go_wp2_with fail
        refine (se.out w0 N p _ v4 s4 a6 k6 h4.out (hb.out.tr (t0'.out.trans t4.out)) l6 i6.out ok6).mono ?_
        rintro e' w5 ⟨rfl, v5, s5, hh, tt, qq⟩
        have h5 := Lib.hid hh
        have t5 := Lib.hid (t4.out.trans tt)
        have q5 := Lib.hid (q4.out.trans qq)
        clear hh tt qq p6
        go_wp2_with fail
        refine (pbyte_any h5.out 11).mono ?_
        rintro e' w6 ⟨rfl, v6, s6, hh, tt, qq⟩
        have h6 := Lib.hid hh
        have t6 := Lib.hid (t5.out.trans tt)
        have q6 := Lib.hid (q5.out.trans qq)
        clear hh tt qq
        have hv : xTail 3 op x y n ls e.len (xl b) (xl e) = [b1 64] ++ xl b ++ ([b1 5] ++ xl e) ++ [b1 11] := by show [b1 (if x = 0 then 64 else x)] ++ xl b ++ (if 0 < e.len then _ else _) ++ [b1 11] = _; rw [if_pos he, if_pos hx0]
        replace hv := Lib.hid hv
        go_wp2
        go_end0
        exact ⟨rfl, by unfold xi; rw [hf.out, hv.out]; exact POut.trans t0'.out ⟨v6, s6, h6.out, t6.out, by simpa only [List.append_assoc, List.append_nil, List.nil_append, List.cons_append] using q6.out⟩⟩
      · have hez : e.len = 0 := by omega
        have hez2 : ((e.len : Nat) : Int) = 0 := by omega
        have p6 : w3.cell? ⟨q, 6, none⟩ = some (.slice a6 e.len k6) := (t3.out.box hqp.out hqv.out hbx.out) 6 _ rfl
        go_wp2_with fail
        refine (pbyte_any h3.out 11).mono ?_
        rintro e' w4 ⟨rfl, v4, s4, hh, tt, qq⟩
        have h4 := Lib.hid hh
        have t4 := Lib.hid (t3.out.trans tt)
        have q4 := Lib.hid (q3.out.trans qq)
        clear hh tt qq p6
        have hv : xTail 3 op x y n ls e.len (xl b) (xl e) = [b1 64] ++ xl b ++ [] ++ [b1 11] := by show [b1 (if x = 0 then 64 else x)] ++ xl b ++ (if 0 < e.len then _ else _) ++ [b1 11] = _; rw [if_neg he, if_pos hx0]
        replace hv := Lib.hid hv
        go_wp2
        go_end0
        exact ⟨rfl, by unfold xi; rw [hf.out, hv.out]; exact POut.trans t0'.out ⟨v4, s4, h4.out, t4.out, by simpa only [List.append_assoc, List.append_nil, List.nil_append, List.cons_append] using q4.out⟩⟩
    · have p1 : w1.cell? ⟨q, 1, none⟩ = some (.int .i64 x) := (t1.out.box hqp.out hqv.out hbx.out) 1 _ rfl
      have hx1 : (x == 0) = false := by simp [hx0]
      go_wp2_with fail
      refine (pbyte_any h1.out x).mono ?_
      rintro e' w2 ⟨rfl, v2, s2, hh, tt, qq⟩
      have h2 := Lib.hid hh
      have t2 := Lib.hid (t1.out.trans tt)
      have q2 := Lib.hid (q1.out.trans qq)
      clear hh tt qq p1 hx1
      have p5 : w2.cell? ⟨q, 5, none⟩ = some (.slice a5 b.len k5) := (t2.out.box hqp.out hqv.out hbx.out) 5 _ rfl
      go_wp2_with fail
      refine (sb.out w0 N p _ v2 s2 a5 k5 h2.out (hb.out.tr (t0'.out.trans t2.out)) l5 i5.out ok5).mono ?_
      rintro e' w3 ⟨rfl, v3, s3, hh, tt, qq⟩
      have h3 := Lib.hid hh
      have t3 := Lib.hid (t2.out.trans tt)
      have q3 := Lib.hid (q2.out.trans qq)
      clear hh tt qq p5
      by_cases he : 0 < e.len
      · have p6 : w3.cell? ⟨q, 6, none⟩ = some (.slice a6 e.len k6) := (t3.out.box hqp.out hqv.out hbx.out) 6 _ rfl
        go_wp2_with fail
        refine (pbyte_any h3.out 5).mono ?_
        rintro e' w4 ⟨rfl, v4, s4, hh, tt, qq⟩
        have h4 := Lib.hid hh
        have t4 := Lib.hid (t3.out.trans tt)
        have q4 := Lib.hid (q3.out.trans qq)
        clear hh tt qq p6
        have p6 : w4.cell? ⟨q, 6, none⟩ = some (.slice a6 e.len k6) := (t4.out.box hqp.out hqv.out hbx.out) 6 _ rfl
        go_wp2_with fail
        refine (se.out w0 N p _ v4 s4 a6 k6 h4.out (hb.out.tr (t0'.out.trans t4.out)) l6 i6.out ok6).mono ?_
        rintro e' w5 ⟨rfl, v5, s5, hh, tt, qq⟩
        have h5 := Lib.hid hh
        have t5 := Lib.hid (t4.out.trans tt)
        have q5 := Lib.hid (q4.out.trans qq)
        clear hh tt qq p6
        go_wp2_with fail
        refine (pbyte_any h5.out 11).mono ?_
        rintro e' w6 ⟨rfl, v6, s6, hh, tt, qq⟩
        have h6 := Lib.hid hh
        have t6 := Lib.hid (t5.out.trans tt)
        have q6 := Lib.hid (q5.out.trans qq)
        clear hh tt qq
        have hv : xTail 3 op x y n ls e.len (xl b) (xl e) = [b1 x] ++ xl b ++ ([b1 5] ++ xl e) ++ [b1 11] := by show [b1 (if x = 0 then 64 else x)] ++ xl b ++ (if 0 < e.len then _ else _) ++ [b1 11] = _; rw [if_pos he, if_neg hx0]
        replace hv := Lib.hid hv
        go_wp2
        go_end0
        exact ⟨rfl, by unfold xi; rw [hf.out, hv.out]; exact POut.trans t0'.out ⟨v6, s6, h6.out, t6.out, by simpa only [List.append_assoc, List.append_nil, List.nil_append, List.cons_append] using q6.out⟩⟩
      · have hez : e.len = 0 := by omega
        have hez2 : ((e.len : Nat) : Int) = 0 := by omega
        have p6 : w3.cell? ⟨q, 6, none⟩ = some (.slice a6 e.len k6) := (t3.out.box hqp.out hqv.out hbx.out) 6 _ rfl
        go_wp2_with fail
        refine (pbyte_any h3.out 11).mono ?_
        rintro e' w4 ⟨rfl, v4, s4, hh, tt, qq⟩
        have h4 := Lib.hid hh
        have t4 := Lib.hid (t3.out.trans tt)
        have q4 := Lib.hid (q3.out.trans qq)
        clear hh tt qq p6
        have hv : xTail 3 op x y n ls e.len (xl b) (xl e) = [b1 x] ++ xl b ++ [] ++ [b1 11] := by show [b1 (if x = 0 then 64 else x)] ++ xl b ++ (if 0 < e.len then _ else _) ++ [b1 11] = _; rw [if_neg he, if_neg hx0]
        replace hv := Lib.hid hv
        go_wp2
        go_end0
        exact ⟨rfl, by unfold xi; rw [hf.out, hv.out]; exact POut.trans t0'.out ⟨v4, s4, h4.out, t4.out, by simpa only [List.append_assoc, List.append_nil, List.nil_append, List.cons_append] using q4.out⟩⟩
  · subst hcs
    have p1 : w1.cell? ⟨q, 1, none⟩ = some (.int .i64 x) := (t1.out.box hqp.out hqv.out hbx.out) 1 _ rfl
    go_wp2_with fail
    refine (pu_any h1.out x).mono ?_
    rintro e' w2 ⟨rfl, v2, s2, hh, tt, qq⟩
    have h2 := Lib.hid hh
    have t2 := Lib.hid (t1.out.trans tt)
    have q2 := Lib.hid (q1.out.trans qq)
    clear hh tt qq p1
    have hv : xTail 4 op x y n ls e.len (xl b) (xl e) = uB x := by rfl
    replace hv := Lib.hid hv
    go_wp2
    go_end0
    exact ⟨rfl, by unfold xi; rw [hf.out, hv.out]; exact POut.trans t0'.out ⟨v2, s2, h2.out, t2.out, by simpa only [List.append_assoc, List.append_nil, List.nil_append, List.cons_append] using q2.out⟩⟩
  · subst hcs
    have p4 : w1.cell? ⟨q, 4, none⟩ = some (.slice a4 ls.length k4) := (t1.out.box hqp.out hqv.out hbx.out) 4 _ rfl
    go_wp2_with fail
    refine (plist_any h1.out (hb.out.tr (t0'.out.trans t1.out)) ls a4 k4 i4.out).mono ?_
    rintro e' w2 ⟨rfl, v2, s2, hh, tt, qq⟩
    have h2 := Lib.hid hh
    have t2 := Lib.hid (t1.out.trans tt)
    have q2 := Lib.hid (q1.out.trans qq)
    clear hh tt qq p4
    have p1 : w2.cell? ⟨q, 1, none⟩ = some (.int .i64 x) := (t2.out.box hqp.out hqv.out hbx.out) 1 _ rfl
    go_wp2_with fail
    refine (pu_any h2.out x).mono ?_
    rintro e' w3 ⟨rfl, v3, s3, hh, tt, qq⟩
    have h3 := Lib.hid hh
    have t3 := Lib.hid (t2.out.trans tt)
    have q3 := Lib.hid (q2.out.trans qq)
    clear hh tt qq p1
    have hv : xTail 5 op x y n ls e.len (xl b) (xl e) = (numsC ls).flatten ++ uB x := by rfl
    replace hv := Lib.hid hv
    go_wp2
    go_end0
    exact ⟨rfl, by unfold xi; rw [hf.out, hv.out]; exact POut.trans t0'.out ⟨v3, s3, h3.out, t3.out, by simpa only [List.append_assoc, List.append_nil, List.nil_append, List.cons_append] using q3.out⟩⟩
  · subst hcs
    have p1 : w1.cell? ⟨q, 1, none⟩ = some (.int .i64 x) := (t1.out.box hqp.out hqv.out hbx.out) 1 _ rfl
    go_wp2_with fail
    refine (pu_any h1.out x).mono ?_
    rintro e' w2 ⟨rfl, v2, s2, hh, tt, qq⟩
    have h2 := Lib.hid hh
    have t2 := Lib.hid (t1.out.trans tt)
    have q2 := Lib.hid (q1.out.trans qq)
    clear hh tt qq p1
    have hv : xTail 6 op x y n ls e.len (xl b) (xl e) = uB x := by rfl
    replace hv := Lib.hid hv
    go_wp2
    go_end0
    exact ⟨rfl, by unfold xi; rw [hf.out, hv.out]; exact POut.trans t0'.out ⟨v2, s2, h2.out, t2.out, by simpa only [List.append_assoc, List.append_nil, List.nil_append, List.cons_append] using q2.out⟩⟩
  · subst hcs
    have p1 : w1.cell? ⟨q, 1, none⟩ = some (.int .i64 x) := (t1.out.box hqp.out hqv.out hbx.out) 1 _ rfl
    go_wp2_with fail
    refine (pu_any h1.out x).mono ?_
    rintro e' w2 ⟨rfl, v2, s2, hh, tt, qq⟩
    have h2 := Lib.hid hh
    have t2 := Lib.hid (t1.out.trans tt)
    have q2 := Lib.hid (q1.out.trans qq)
    clear hh tt qq p1
    go_wp2_with fail
    refine (pbyte_any h2.out 0).mono ?_
    rintro e' w3 ⟨rfl, v3, s3, hh, tt, qq⟩
    have h3 := Lib.hid hh
    have t3 := Lib.hid (t2.out.trans tt)
    have q3 := Lib.hid (q2.out.trans qq)
    clear hh tt qq
    have hv : xTail 7 op x y n ls e.len (xl b) (xl e) = uB x ++ [b1 0] := by rfl
    replace hv := Lib.hid hv
    go_wp2
    go_end0
    exact ⟨rfl, by unfold xi; rw [hf.out, hv.out]; exact POut.trans t0'.out ⟨v3, s3, h3.out, t3.out, by simpa only [List.append_assoc, List.append_nil, List.nil_append, List.cons_append] using q3.out⟩⟩
  · subst hcs
    have p1 : w1.cell? ⟨q, 1, none⟩ = some (.int .i64 x) := (t1.out.box hqp.out hqv.out hbx.out) 1 _ rfl
    go_wp2_with fail
    refine (pu_any h1.out x).mono ?_
    rintro e' w2 ⟨rfl, v2, s2, hh, tt, qq⟩
    have h2 := Lib.hid hh
    have t2 := Lib.hid (t1.out.trans tt)
    have q2 := Lib.hid (q1.out.trans qq)
    clear hh tt qq p1
    have p2 : w2.cell? ⟨q, 2, none⟩ = some (.int .i64 y) := (t2.out.box hqp.out hqv.out hbx.out) 2 _ rfl
    go_wp2_with fail
    refine (pu_any h2.out y).mono ?_
    rintro e' w3 ⟨rfl, v3, s3, hh, tt, qq⟩
    have h3 := Lib.hid hh
    have t3 := Lib.hid (t2.out.trans tt)
    have q3 := Lib.hid (q2.out.trans qq)
    clear hh tt qq p2
    have hv : xTail 8 op x y n ls e.len (xl b) (xl e) = uB x ++ uB y := by rfl
    replace hv := Lib.hid hv
    go_wp2
    go_end0
    exact ⟨rfl, by unfold xi; rw [hf.out, hv.out]; exact POut.trans t0'.out ⟨v3, s3, h3.out, t3.out, by simpa only [List.append_assoc, List.append_nil, List.nil_append, List.cons_append] using q3.out⟩⟩
  · subst hcs
    have p3 : w1.cell? ⟨q, 3, none⟩ = some (.int .i64 n) := (t1.out.box hqp.out hqv.out hbx.out) 3 _ rfl
    go_wp2_with fail
    refine (ps_any h1.out n hn.1 hn.2).mono ?_
    rintro e' w2 ⟨rfl, v2, s2, hh, tt, qq⟩
    have h2 := Lib.hid hh
    have t2 := Lib.hid (t1.out.trans tt)
    have q2 := Lib.hid (q1.out.trans qq)
    clear hh tt qq p3
    have hv : xTail 9 op x y n ls e.len (xl b) (xl e) = lebS n := by rfl
    replace hv := Lib.hid hv
    go_wp2
    go_end0
    exact ⟨rfl, by unfold xi; rw [hf.out, hv.out]; exact POut.trans t0'.out ⟨v2, s2, h2.out, t2.out, by simpa only [List.append_assoc, List.append_nil, List.nil_append, List.cons_append] using q2.out⟩⟩
  · subst hcs
    have hc63 : op ≠ 63 := fun e => by have h := hf.out; rw [e] at h; revert h; decide
    have hc64 : op ≠ 64 := fun e => by have h := hf.out; rw [e] at h; revert h; decide
    have p0 : w1.cell? ⟨q, 0, none⟩ = some (.int .i64 op) := (t1.out.box hqp.out hqv.out hbx.out) 0 _ rfl
    have hd1 : (op == 63) = false := by simp [hc63]
    have hd2 : (op == 64) = false := by simp [hc64]
    have hv : xTail 10 op x y n ls e.len (xl b) (xl e) = [] := by rfl
    replace hv := Lib.hid hv
    go_wp2
    go_end0
    exact ⟨rfl, by unfold xi; rw [hf.out, hv.out]; exact POut.trans t0'.out ⟨v1, s1, h1.out, t1.out, by simpa only [List.append_assoc, List.append_nil, List.nil_append, List.cons_append] using q1.out⟩⟩

set_option maxRecDepth 100000 in
set_option maxHeartbeats 4000000 in
theorem pins_step (l : Il) (hs : Sub PinsC l) : PinsC l := by
  intro w0 N p w v s a c h hb hl hi ok
  obtain ⟨M, hM⟩ : ∃ M, l.len = M := ⟨_, rfl⟩
  rw [hM] at hl ⊢
  have hcap := h.cap
  replace h := Lib.hid h
  replace hb := Lib.hid hb
  go_enter Tryd.func56, Tryd.ntmps56
  go_wp2_with fail
  go_loopw [4] (fun vi wr => ∃ (i : Nat) (r : Il) (v2 : Value) (s2 : PS) (B : List UInt8), vi = .int .i64 i ∧ i + r.len = M ∧ Hid (IlIn w0 a i r) ∧ Hid (nOk r) ∧ Hid (Sub PinsC r) ∧ Hid (PAt N p wr v2 s2) ∧ Hid (Tr p v v2 w wr) ∧ Hid (Pen s B s2) ∧ Hid (xl l = B ++ xl r)) (fun vi _ => M - (intOf vi).toNat)
  case atStart => exact ⟨0, l, v, s, [], rfl, by omega, Lib.hid hi, Lib.hid ok, Lib.hid hs, h, Lib.hid (Tr.refl _ _ _), Lib.hid (Pen.refl hcap), Lib.hid rfl⟩
  case round =>
    clear hi ok hs
    obtain ⟨i, r, v2, s2, B, rfl, hir, hi, ok, hs, h2, t2, q2, hc⟩ := hrel
    have hB := Lib.hid (hb.out.tr t2.out)
    cases r with
    | nil =>
      have hiN : i = M := by simpa [Il.len] using hir
      go_wp2
      go_end0
      exact ⟨rfl, by rw [hc.out]; exact ⟨v2, s2, h2.out, t2.out, by simpa [xl] using q2.out⟩⟩
    | cons op x y n ls b e rest =>
      have hlen : i + (rest.len + 1) = M := hir
      have hlt : i < M := by omega
      have ov := h2.out.c1
      by_cases hov : s2.o = true
      · rw [hov] at ov
        go_wp2
        go_end0
        exact ⟨rfl, by rw [hc.out]; exact ⟨v2, s2, h2.out, t2.out, q2.out.stop hov⟩⟩
      · have hov2 : s2.o = false := by simpa using hov
        rw [hov2] at ov
        obtain ⟨blk, o, a4, k4, a5, k5, a6, k6, rfl, hh, hrest⟩ := hi.out.head
        obtain ⟨c0, c1, c2, c3, c4, c5, c6, i4, l5, i5, l6, i6⟩ := hh
        replace hrest := Lib.hid hrest
        obtain ⟨okn, ok5, ok6, okr⟩ := ok.out
        have d0 : wr.cell? ⟨blk, o + i * 7, none⟩ = some (.int .i64 op) := hB.out.keeps _ _ c0
        have d1 : wr.cell? ⟨blk, o + i * 7 + 1, none⟩ = some (.int .i64 x) := hB.out.keeps _ _ c1
        have d2 : wr.cell? ⟨blk, o + i * 7 + 2, none⟩ = some (.int .i64 y) := hB.out.keeps _ _ c2
        have d3 : wr.cell? ⟨blk, o + i * 7 + 3, none⟩ = some (.int .i64 n) := hB.out.keeps _ _ c3
        have d4 : wr.cell? ⟨blk, o + i * 7 + 4, none⟩ = some (.slice a4 ls.length k4) := hB.out.keeps _ _ c4
        have d5 : wr.cell? ⟨blk, o + i * 7 + 5, none⟩ = some (.slice a5 b.len k5) := hB.out.keeps _ _ c5
        have d6 : wr.cell? ⟨blk, o + i * 7 + 6, none⟩ = some (.slice a6 e.len k6) := hB.out.keeps _ _ c6
        clear c0 c1 c2 c3 c4 c5 c6 hi hir ok hov hov2
        replace i4 := Lib.hid i4
        replace i5 := Lib.hid i5
        replace i6 := Lib.hid i6
        replace l5 := Lib.hid l5
        replace l6 := Lib.hid l6
        replace okn := Lib.hid okn
        replace ok5 := Lib.hid ok5
        replace ok6 := Lib.hid ok6
        replace okr := Lib.hid okr
        have hv := Lib.hid (show xl l = (B ++ xi op x y n ls b e) ++ xl rest by rw [hc.out, xl, xi, ← List.append_assoc B])
        clear hc
        go_wp2_with fail
        refine (pinstr_any op x y n ls b e okn.out ok5.out ok6.out hs.out.1 hs.out.2.1 w0 N p wr v2 s2 a4 k4 a5 k5 a6 k6 h2.out hB.out i4.out l5.out i5.out l6.out i6.out).mono ?_
        rintro e' w5 ⟨rfl, v5, s5, h5, t5, q5⟩
        replace h5 := Lib.hid h5
        have hfb := Lib.hid (t2.out.trans t5)
        have hsr := Lib.hid hs.out.2.2
        have hq5 := Lib.hid (q2.out.trans q5)
        clear t5 d0 d1 d2 d3 d4 d5 d6 hs ov q5
        go_wp2
        exact ⟨⟨i + 1, rest, v5, s5, _, by simp, by omega, hrest, okr, hsr, h5, hfb, hq5, hv⟩, by simp [intOf]; omega⟩
theorem pins_any (l : Il) : PinsC l := Il.each pins_step l
set_option maxRecDepth 100000 in
set_option maxHeartbeats 1000000 in
theorem pexpr_any (l : Il) (w0 : World) (N p : Nat) (w : World) (v : Value) (s : PS) (a : Option Addr) (c : Nat) (h : PAt N p w v s) (hb : Vw w0 p v w) (hl : l.len ≤ 9223372036854775807) (hi : IlIn w0 a 0 l) (ok : nOk l) :
    Calls Tryd.prog 38 #[.pointer (some ⟨p, 0, none⟩), .slice a l.len c] w fun e w' => e = .returned (.tuple #[]) ∧ POut N p w v s (xEx l) w' := by
  go_enter Tryd.func38, Tryd.ntmps38
  go_wp2_with fail
  refine (pins_any l w0 N p w v s a c h hb hl hi ok).mono ?_
  rintro e w1 ⟨rfl, v1, s1, h1, t1, q1⟩
  replace h1 := Lib.hid h1
  replace t1 := Lib.hid t1
  replace q1 := Lib.hid q1
  go_wp2_with fail
  refine (pbyte_any h1.out 11).mono ?_
  rintro e w2 ⟨rfl, ho⟩
  replace ho := Lib.hid ho
  go_wp2
  go_end0
  exact ⟨rfl, POut.step t1.out q1.out ho.out⟩
end Go.Proofs.YtanpjbbhhofkfaaDoor
