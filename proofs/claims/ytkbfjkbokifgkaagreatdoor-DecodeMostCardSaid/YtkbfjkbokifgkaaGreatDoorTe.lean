/- The reference's reader: what has a length ahead: enter and leave. -/
import Derived.Test.YtkbfjkbokifgkaaGreatDoorTm
import Derived.Lib.MinMax
namespace Go.Proofs.YtkbfjkbokifgkaaGreatDoor
open Go.RowKit
set_option linter.unusedVariables false
set_option linter.unusedSimpArgs false

/-- Where what begins here ends, where the reader ended; its end is drawn in. -/
def rEnter (s : List UInt8) (r : RS) : Rg (Nat × Nat) :=
  let n := rU s r
  ((n.2.a + n.1.toNat, n.2.e), if n.2.w = 0 then { n.2 with e := min n.2.e (n.2.a + n.1.toNat) } else n.2)
def rLeave (stop was : Nat) (r : RS) : RS := if r.w = 0 ∧ r.a ≠ stop then { r with e := was }.bad 50 else { r with e := was }
theorem rEnter_le (s : List UInt8) (r : RS) (h : r.a ≤ r.e) : (rEnter s r).2.a ≤ (rEnter s r).2.e ∧ (rEnter s r).2.e ≤ r.e ∧ (rEnter s r).1.2 = r.e := by
  have h1 := rU_le s r h
  have h2 := (go_u s r).e
  unfold rEnter
  dsimp only
  split
  · dsimp only
    omega
  · omega
set_option maxRecDepth 100000 in
set_option maxHeartbeats 4000000 in
theorem qenter_any {w : World} {p : Nat} {s : ByteArray} {r : RS} (h : RrAt w p s r) (hs : s.size ≤ 262144) (ha : r.a ≤ r.e) (he : r.e ≤ s.size) :
    Calls Tryz.prog 29 #[.pointer (some ⟨p, 0, none⟩)] w fun e' w' => Wr (· = p) w w' ∧ e' = .returned (.tuple #[.int .i64 (((rEnter (strl s) r).1.1 : Nat) : Int), .int .i64 (((rEnter (strl s) r).1.2 : Nat) : Int)]) ∧ RrAt w' p s (rEnter (strl s) r).2 := by
  obtain ⟨X, hX⟩ : ∃ X, X = rEnter (strl s) r := ⟨_, rfl⟩
  rw [← hX]
  unfold rEnter at hX
  dsimp only at hX
  replace hX := Lib.hid hX
  have hin := rU_in (strl s) r
  have hle := rU_le (strl s) r ha
  have hge := (go_u (strl s) r).e
  go_enter Tryz.func29, Tryz.ntmps29
  go_wp2_with fail
  refine (qu_any h hs ha he).mono ?_
  rintro e' w1 ⟨hW, v', rfl, rfl, hR⟩
  have hX2 := hX.out
  change RrAt w1 p s (rU (strl s) r).2 at hR
  have hBv : rNum (gU (strl s)) r = rU (strl s) r := rfl
  rw [hBv]
  obtain ⟨B, hBB⟩ : ∃ B, B = rU (strl s) r := ⟨_, rfl⟩
  rw [← hBB] at hR hX2 hin hle hge ⊢
  clear hBB hBv hX h
  obtain ⟨n, b⟩ := B
  dsimp only at hR hX2 hin hle hge ⊢
  obtain ⟨m, rfl⟩ : ∃ m : Nat, n = (m : Int) := ⟨n.toNat, by omega⟩
  rw [Int.toNat_natCast] at hX2
  obtain ⟨q, hq⟩ : ∃ q : Nat, q = b.a + m := ⟨_, rfl⟩
  rw [← hq] at hX2
  have c1 := hR.c1
  have c2 := hR.c2
  have hw1 : IntKind.i64.wrap ((b.a : Int) + (m : Int)) = (b.a : Int) + (m : Int) := wid64 _ (by omega) (by omega)
  have hqi : (b.a : Int) + (m : Int) = (q : Int) := by omega
  replace hX2 := Lib.hid hX2
  replace hqi := Lib.hid hqi
  replace hq := Lib.hid hq
  replace hge := Lib.hid hge
  go_wp2_with fail
  go_quiet (fail)
  rw [hqi.out]
  obtain ⟨w2, hw2⟩ : ∃ w2, w2 = w1.drewN nq := ⟨_, rfl⟩
  have hd := hR.drewN nq
  have td := hW.drewN nq
  rw [← hw2] at hd td ⊢
  clear hw2 hR hW c1 c2
  have c4 := hd.c4
  by_cases hw : b.w = 0
  · have hb : (b.w == 0) = true := by rw [hw]; rfl
    have hX3 := hX2.out
    rw [if_pos hw] at hX3
    replace hX3 := Lib.hid hX3
    replace hw := Lib.hid hw
    have f2 := hd.fr 2
    have c2 := hd.c2
    have hmin : min (b.e : Int) (q : Int) = ((min b.e q : Nat) : Int) := by omega
    go_upto_region 5 with (fail)
    have h2' := hd.set2 (min b.e q)
    have t2 := td.set (S := (· = p)) rfl 2 (.int .i64 ((min b.e q : Nat) : Int))
    obtain ⟨w3, hw3⟩ : ∃ w3, w3 = w2.setCell ⟨p, 2, none⟩ (.int .i64 ((min b.e q : Nat) : Int)) := ⟨_, rfl⟩
    rw [← hw3] at h2' t2 ⊢
    clear hw3 hd td c4 c2 f2
    go_wp2_with fail
    refine bodyPost_ret (by simp [results, Tryz.results29, go_sem] <;> rfl) rfl ?_
    rw [hX3.out]
    exact ⟨t2, rfl, h2'⟩
  · have hb : (b.w == 0) = false := beq_eq_false_iff_ne.2 hw
    have hX3 := hX2.out
    rw [if_neg hw] at hX3
    replace hX3 := Lib.hid hX3
    replace hw := Lib.hid hw
    go_wp2_with fail
    refine bodyPost_ret (by simp [results, Tryz.results29, go_sem] <;> rfl) rfl ?_
    rw [hX3.out]
    exact ⟨td, rfl, hd⟩
set_option maxRecDepth 100000 in
set_option maxHeartbeats 4000000 in
theorem qleave_any {w : World} {p : Nat} {s : ByteArray} {r : RS} (h : RrAt w p s r) (stop was : Nat) :
    Calls Tryz.prog 31 #[.pointer (some ⟨p, 0, none⟩), .int .i64 (stop : Int), .int .i64 (was : Int)] w fun e' w' => Wr (· = p) w w' ∧ e' = .returned (.tuple #[]) ∧ RrAt w' p s (rLeave stop was r) := by
  have f2 := h.fr 2
  have c2 := h.c2
  obtain ⟨X, hX⟩ : ∃ X, X = rLeave stop was r := ⟨_, rfl⟩
  rw [← hX]
  unfold rLeave at hX
  replace hX := Lib.hid hX
  go_enter Tryz.func31, Tryz.ntmps31
  go_upto_region 1 with (fail)
  have h2' := h.set2 was
  have t2 := (Wr.refl (· = p) w).set (S := (· = p)) rfl 2 (.int .i64 (was : Int))
  obtain ⟨w3, hw3⟩ : ∃ w3, w3 = w.setCell ⟨p, 2, none⟩ (.int .i64 (was : Int)) := ⟨_, rfl⟩
  rw [← hw3] at h2' t2 ⊢
  clear hw3 h c2 f2
  have c4 := h2'.c4
  have c1 := h2'.c1
  dsimp only at c4 c1
  by_cases hw : r.w = 0
  · have hb : (r.w == 0) = true := by rw [hw]; rfl
    by_cases hz : r.a = stop
    · have hX3 := hX.out
      rw [if_neg (fun hh => hh.2 hz)] at hX3
      have hb2 : ((r.a : Int) != (stop : Int)) = false := by rw [hz]; simp
      replace hX3 := Lib.hid hX3
      replace hz := Lib.hid hz
      replace hw := Lib.hid hw
      go_wp2_with fail
      go_end0
      rw [hX3.out]
      exact ⟨t2, rfl, h2'⟩
    · have hX3 := hX.out
      rw [if_pos ⟨hw, hz⟩] at hX3
      have hb2 : ((r.a : Int) != (stop : Int)) = true := by simp; omega
      replace hX3 := Lib.hid hX3
      replace hz := Lib.hid hz
      replace hw := Lib.hid hw
      go_wp2_with fail
      refine (qbad_any h2' 50).mono ?_
      rintro e' w4 ⟨rfl, hW4, hR4⟩
      go_wp2_with fail
      go_end0
      rw [hX3.out]
      exact ⟨t2.trans hW4, rfl, hR4⟩
  · have hX3 := hX.out
    rw [if_neg (fun hh => hw hh.1)] at hX3
    have hb : (r.w == 0) = false := beq_eq_false_iff_ne.2 hw
    replace hX3 := Lib.hid hX3
    replace hw := Lib.hid hw
    go_wp2_with fail
    go_end0
    rw [hX3.out]
    exact ⟨t2, rfl, h2'⟩
end Go.Proofs.YtkbfjkbokifgkaaGreatDoor
