/- Expr, of the program and of the reference. -/
import Derived.Test.YtkbfjkbokifgkaaDoorQd
import Derived.Test.YtkbfjkbokifgkaaDoorRe
import Derived.Test.YtkbfjkbokifgkaaDoorFc
import Derived.Test.YtkbfjkbokifgkaaDoorVa
import Derived.Test.YtkbfjkbokifgkaaDoorRows
import Derived.ProofKit
import Derived.LaidMore
import Derived.OpenShut
import Derived.MakeChecks
import Derived.LaidLaws
import Derived.Lib.LaidU8T
import Derived.Lay
import Derived.SizedLaws
import Derived.ChangeMaps5
namespace Go.Proofs.YtkbfjkbokifgkaaDoor
open Go.RowKit
set_option linter.unusedVariables false
set_option linter.unusedSimpArgs false

theorem bl_drewN {k : Nat} {w w' : World} (h : Below k w w') (n : Nat) : Below k w (w'.drewN n) := ⟨h.os, h.tape, h.output, h.size, h.block⟩
/-- An expression from a place on. -/
def gExpr (s : List UInt8) (x : Int) : Except Int (Il × Nat) := if 262144 < s.length then .error 2 else if x < 0 ∨ (s.length : Int) < x then .error 1 else (gList s s.length (s.length + 1) 0 false 65536 x.toNat).bind fun q => .ok (q.1.1, q.2)
/-- What Expr tells. -/
def ExprV (s : ByteArray) (x : Int) (e : Ending) (w' : World) : Prop :=
  (∃ il n ao c, gExpr (strl s) x = .ok (il, n) ∧ e = .returned (.tuple #[.slice ao il.len c, .int .i64 ((n : Nat) : Int), .int .i64 0]) ∧ il.len ≤ 9223372036854775807 ∧ IlIn w' ao 0 il) ∨
  (∃ n, n ≠ 0 ∧ gExpr (strl s) x = .error n ∧ e = .returned (.tuple #[.slice none 0 0, .int .i64 0, .int .i64 n]))
theorem gExpr_big {s : ByteArray} {x : Int} (h : 262144 < s.size) : gExpr (strl s) x = .error 2 := by
  unfold gExpr
  rw [if_pos (by rw [strl_length]; omega)]
theorem gExpr_arg {s : ByteArray} {x : Int} (h : ¬ 262144 < s.size) (h2 : x < 0 ∨ (s.size : Int) < x) : gExpr (strl s) x = .error 1 := by
  unfold gExpr
  rw [if_neg (by rw [strl_length]; omega), if_pos (by rw [strl_length]; exact h2)]
theorem gExpr_in {s : ByteArray} {a : Nat} (h : ¬ 262144 < s.size) (h2 : a ≤ s.size) : gExpr (strl s) (a : Int) = (gList (strl s) s.size (s.size + 1) 0 false 65536 a).bind fun q => .ok (q.1.1, q.2) := by
  unfold gExpr
  rw [if_neg (by rw [strl_length]; omega), if_neg (by rw [strl_length]; omega), strl_length, Int.toNat_natCast]
/-- The document's reader of lists, at its start. -/
theorem exprs_start (s : ByteArray) (a : Nat) (ha : a ≤ s.size) :
    (∀ (v : Il × Bool) (l b : Nat), gList (strl s) s.size (s.size + 1) 0 false 65536 a = .ok ((v.1, v.2, l), b) → (rExprs (strl s) (s.size + 1) 0 false ⟨a, s.size, 0, 0⟩).1.1 = v.1 ∧ (rExprs (strl s) (s.size + 1) 0 false ⟨a, s.size, 0, 0⟩).2.w = 0 ∧ (rExprs (strl s) (s.size + 1) 0 false ⟨a, s.size, 0, 0⟩).2.a = b) ∧
    (∀ n, gList (strl s) s.size (s.size + 1) 0 false 65536 a = .error n → n ≠ 0 ∧ (rExprs (strl s) (s.size + 1) 0 false ⟨a, s.size, 0, 0⟩).2.w = n) := by
  have h := (sim_exprs (strl s) (s.size + 1) 0 false ⟨a, s.size, 0, 0⟩).2 rfl (Nat.zero_le _)
  refine ⟨fun v l b hg => ?_, fun n hg => ?_⟩
  · have h1 := h.1 (v.1, (if v.2 = true then 5 else 11)) l b (by show (gList (strl s) s.size (s.size + 1) 0 false 65536 a).bind _ = _; rw [hg]; rfl)
    rw [h1.2]
    exact ⟨rfl, rfl, rfl⟩
  · exact h.2 n (by show (gList (strl s) s.size (s.size + 1) 0 false 65536 a).bind _ = _; rw [hg]; rfl)
set_option maxRecDepth 100000 in
set_option maxHeartbeats 4000000 in
theorem rexpr_any (s : ByteArray) (x : Int) (w : World) :
    Calls Tryd.prog 11 #[.string s, .int .i64 x] w fun e w' => Below w.heap.size w w' ∧ ExprV s x e w' := by
  by_cases hs : 262144 < s.size
  · have hi1 : (262144 : Int) < (s.size : Int) := by omega
    have hg := Lib.hid (gExpr_big (x := x) hs)
    go_enter Tryd.func11, Tryd.ntmps11
    go_wp2_with fail
    refine bodyPost_ret (v := .tuple #[.slice none 0 0, .int .i64 0, .int .i64 2]) (by simp [results, Tryd.results11, go_sem]) rfl ?_
    exact ⟨Below.refl _ _, .inr ⟨2, by decide, hg.out, rfl⟩⟩
  · have hi1 : ¬ (262144 : Int) < (s.size : Int) := by omega
    by_cases hx : x < 0 ∨ (s.size : Int) < x
    · have hg := Lib.hid (gExpr_arg hs hx)
      have hx' : x < 0 ∨ (¬ x < 0 ∧ (s.size : Int) < x) := by omega
      rcases hx' with h1 | ⟨h1, h2⟩
      all_goals
        go_enter Tryd.func11, Tryd.ntmps11
        go_wp2_with fail
        refine bodyPost_ret (v := .tuple #[.slice none 0 0, .int .i64 0, .int .i64 1]) (by simp [results, Tryd.results11, go_sem]) rfl ?_
        exact ⟨Below.refl _ _, .inr ⟨1, by decide, hg.out, rfl⟩⟩
    · obtain ⟨a, rfl⟩ : ∃ a : Nat, x = a := ⟨x.toNat, by omega⟩
      have ha : a ≤ s.size := by omega
      have h1 : ¬ (a : Int) < 0 := by omega
      have h2 : ¬ (s.size : Int) < (a : Int) := by omega
      have hg := gExpr_in hs ha
      have hst := exprs_start s a ha
      have hR : RrAt (w.alloc (.cells #[.string s, .int .i64 (a : Int), .int .i64 (s.size : Int), .int .i64 0, .int .i64 0] 66)) w.heap.size s ⟨a, s.size, 0, 0⟩ := ⟨heap_alloc_new _ _⟩
      have hB : Below w.heap.size w (w.alloc (.cells #[.string s, .int .i64 (a : Int), .int .i64 (s.size : Int), .int .i64 0, .int .i64 0] 66)) := (Below.refl _ _).alloc (Nat.le_refl _) _
      replace hg := Lib.hid hg
      replace hst := Lib.hid hst
      clear hx
      go_enter Tryd.func11, Tryd.ntmps11
      go_upto_region 6 with (fail)
      obtain ⟨w1, hw1⟩ : ∃ w1, w1 = w.alloc (.cells #[.string s, .int .i64 (a : Int), .int .i64 (s.size : Int), .int .i64 0, .int .i64 0] 66) := ⟨_, rfl⟩
      rw [← hw1] at hR hB ⊢
      clear hw1
      go_wp2_with fail
      refine (ex_any s (s.size + 1) w1 w.heap.size ⟨a, s.size, 0, 0⟩ 0 false hR (by omega) ⟨ha, show (0 : Nat) ≤ 65537 by decide, fun _ => Nat.zero_le _⟩ (Nat.le_refl _) (by show s.size - a < s.size + 1; omega) (by decide)).mono ?_
      rintro e' w2 ⟨hW, hR2, ao, c, rfl, hl, hsl⟩
      obtain ⟨E, hE⟩ : ∃ E, E = rExprs (strl s) (s.size + 1) 0 false ⟨a, s.size, 0, 0⟩ := ⟨_, rfl⟩
      have hst' := hst.out
      rw [← hE] at hR2 hl hsl hst' ⊢
      have hB2 : Below w.heap.size w w2 := Wr.below_of hB hW (fun b e => by have : b = w.heap.size := e; omega) hB.size
      have hil := hsl.il
      have c1 := hR2.c1
      have c4 := hR2.c4
      clear hE hst hW hR hsl
      cases hgl : gList (strl s) s.size (s.size + 1) 0 false 65536 a with
      | error n =>
        obtain ⟨hn0, hn⟩ := hst'.2 n hgl
        have hq : (E.2.w != 0) = true := by rw [hn]; simp [hn0]
        have hge : gExpr (strl s) (a : Int) = .error n := by rw [hg.out, hgl]; rfl
        rw [hn] at c4 hq
        replace hge := Lib.hid hge
        replace hgl := Lib.hid hgl
        clear hst' hn
        go_wp2_with fail
        go_quiet (fail)
        go_wp2_with fail
        refine bodyPost_ret (v := .tuple #[.slice none 0 0, .int .i64 0, .int .i64 n]) (by simp [results, Tryd.results11, go_sem]) rfl ?_
        exact ⟨bl_drewN hB2 _, .inr ⟨n, hn0, hge.out, rfl⟩⟩
      | ok q =>
        obtain ⟨⟨il, b, l⟩, b'⟩ := q
        obtain ⟨e1, e2, e3⟩ := hst'.1 (il, b) l b' hgl
        have hge : gExpr (strl s) (a : Int) = .ok (il, b') := by rw [hg.out, hgl]; rfl
        have e1 : E.1.1 = il := e1
        rw [e1] at hl hil ⊢
        rw [e2] at c4
        rw [e3] at c1
        replace hge := Lib.hid hge
        replace hgl := Lib.hid hgl
        clear hst' e1 e2 e3
        go_wp2_with fail
        go_quiet (fail)
        go_wp2_with fail
        refine bodyPost_ret (v := .tuple #[.slice ao il.len c, .int .i64 (b' : Int), .int .i64 0]) (by simp [results, Tryd.results11, go_sem]) rfl ?_
        exact ⟨bl_drewN hB2 _, .inl ⟨il, b', ao, c, hge.out, rfl, hl, hil.drewN _⟩⟩
end Go.Proofs.YtkbfjkbokifgkaaDoor

namespace Go.Proofs.YtkbfjkbokifgkaaDoor
open Go.RowKit
set_option linter.unusedVariables false
set_option linter.unusedSimpArgs false

set_option maxRecDepth 100000 in
set_option maxHeartbeats 4000000 in
theorem read_arg {w : World} {s : ByteArray} {a : Int} {v : Value} (hs : ¬ 262144 < s.size) (ha : a < 0 ∨ (¬ a < 0 ∧ (s.size : Int) < a)) :
    Calls Tryd.prog 16 #[.string s, .int .i64 a, v] w fun e' w' => e' = .returned (.tuple #[.pointer none, .int .i64 1]) ∧ Below w.heap.size w w' := by
  have hi1 : ¬ (262144 : Int) < (s.size : Int) := by omega
  have hb : Below w.heap.size w ((w.alloc (.cells #[.pointer none] 53)).alloc (.cells #[.int .i64 1] 34)) := ((Below.refl _ _).alloc (Nat.le_refl _) _).alloc (by simp) _
  have c0 : ((w.alloc (.cells #[.pointer none] 53)).alloc (.cells #[.int .i64 1] 34)).cell? ⟨w.heap.size, 0, none⟩ = some (.pointer none) := by
    rw [World.cell?_alloc_past _ _ _ (by simp)]
    exact World.cell?_alloc_at _ _ _ _ rfl
  have c1 : ((w.alloc (.cells #[.pointer none] 53)).alloc (.cells #[.int .i64 1] 34)).cell? ⟨w.heap.size + 1, 0, none⟩ = some (.int .i64 1) := World.cell?_alloc_at _ _ _ _ (by simp)
  replace hb := Lib.hid hb
  replace c0 := Lib.hid c0
  replace c1 := Lib.hid c1
  rcases ha with h1 | ⟨h1, h2⟩
  all_goals
    go_enter Tryd.func16, Tryd.ntmps16
    go_wp2_with fail
    obtain ⟨wz, hwz⟩ : ∃ wz, wz = (w.alloc (.cells #[.pointer none] 53)).alloc (.cells #[.int .i64 1] 34) := ⟨_, rfl⟩
    have hb := hb.out
    have c0 := c0.out
    have c1 := c1.out
    rw [← hwz] at hb c0 c1 ⊢
    simp [bodyPost, results, Tryd.results16, go_sem, c0, c1]
    exact hb
set_option maxRecDepth 100000 in
set_option maxHeartbeats 4000000 in
theorem expr1_any {w : World} {p q : Nat} {s : ByteArray} {a e l : Nat} {cs : List Value} {v : Value} (h : RdAt w p s (a : Int) (e : Int) (l : Int) cs) (hq : Bk w q [v] 40) (hpq : p ≠ q) (hs : s.size ≤ 262144) (he : e ≤ s.size) (ha : a ≤ e) (hl : l ≤ 65536) {k : Nat} (hk : e - a < k) :
    Calls Tryd.prog 19 #[.pointer (some ⟨p, 0, none⟩), .pointer (some ⟨q, 0, none⟩)] w fun e' w' => Wr (Spq p q) w w' ∧
      ((∃ il b l' a' ao c, gList (strl s) e k 0 false l a = .ok ((il, b, l'), a') ∧ e' = .returned (.tuple #[]) ∧ RdAt w' p s ((a' : Nat) : Int) (e : Int) ((l' : Nat) : Int) cs ∧ Bk w' q [.slice ao il.len c] 40 ∧ il.len ≤ 9223372036854775807 ∧ SlR (fun b => w.heap.size ≤ b) w' ao il) ∨
       (∃ n, gList (strl s) e k 0 false l a = .error n ∧ e' = .panicked (flt n))) := by
  have hql := hq.lt
  replace hq := Lib.hid hq
  go_enter Tryd.func19, Tryd.ntmps19
  go_wp2_with fail
  refine (list_any s k w p a e l cs 0 false h hs he ha hk (by decide) hl).mono ?_
  rintro e' w1 ⟨hW, ⟨il, b, l', a', ao, c, hg, ha', hl', rfl, hR, hn, hsl⟩ | ⟨n, hg, rfl⟩⟩
  · have hq1 := hq.out.wr hW (fun e => hpq e.symm)
    have c0 := hq1.cell (j := 0) rfl
    have f0 := hq1.fr 0
    replace hg := Lib.hid hg
    replace hsl := Lib.hid hsl
    go_wp2_with fail
    go_end0
    exact ⟨(hW.mono fun _ e => .inl e).set (S := Spq p q) (.inr rfl) 0 _, .inl ⟨il, b, l', a', ao, c, hg.out, rfl, hR.far hpq 0 _, hq1.set 0 _, hn, hsl.out.keep (keeps_set hql)⟩⟩
  · exact ⟨rfl, hW.mono fun _ e => .inl e, .inr ⟨n, hg, rfl⟩⟩
/-- What is left of the reader, where there was an expression. -/
def XJ (w : World) (s : ByteArray) (a : Nat) (w2 : World) : Prop := ∃ il b l' a' ao c, gList (strl s) s.size (s.size + 1) 0 false 65536 a = .ok ((il, b, l'), a') ∧ Below w.heap.size w w2 ∧ RdAt w2 (w.heap.size + 1 + 1 + 1) s ((a' : Nat) : Int) (s.size : Int) ((l' : Nat) : Int) csN ∧ Bk w2 w.heap.size [.slice ao il.len c] 40 ∧ il.len ≤ 9223372036854775807 ∧ SlR (fun b => w.heap.size + 1 + 1 + 1 + 1 ≤ b) w2 ao il
set_option maxRecDepth 100000 in
set_option maxHeartbeats 4000000 in
theorem readX_any {w wB : World} {s : ByteArray} {a : Nat} (hwB : wB.heap.size = w.heap.size + 1) (hB : Below w.heap.size w wB) (hbx : Bk wB w.heap.size [.slice none 0 0] 40) (hs : s.size ≤ 262144) (ha : a ≤ s.size) :
    Calls Tryd.prog 16 #[.string s, .int .i64 (a : Int), .func (Fn.func 19) #[] #[.pointer (some ⟨w.heap.size, 0, none⟩)]] wB fun e' w' =>
      (XJ w s a w' ∧ e' = .returned (.tuple #[.pointer (some ⟨wB.heap.size + 1 + 1, 0, none⟩), .int .i64 0])) ∨
      (∃ n, gList (strl s) s.size (s.size + 1) 0 false 65536 a = .error n ∧ e' = .returned (.tuple #[.pointer none, .int .i64 n]) ∧ ∃ w2, Below w.heap.size w w2 ∧ ReadB wB.heap.size w2 ∧ w' = caughtW w2 wB.heap.size (wB.heap.size + 1) n) := by
  refine read_any (a := a) (K := 19) (caps := #[.pointer (some ⟨w.heap.size, 0, none⟩)]) (J := XJ w s a) (F := fun n => gList (strl s) s.size (s.size + 1) 0 false 65536 a = .error n) (V := fun w2 => Below w.heap.size w w2) hs ha (fun w' => rfl) fun w1 hQ => ?_
  have hbx1 := hbx.below hQ.below
  have hB1 := hB.trans (hQ.below.mono (by omega))
  have hlt := hQ.size
  refine (expr1_any (w := w1) (p := wB.heap.size + 1 + 1) (q := w.heap.size) (l := 65536) (k := s.size + 1) (by exact hQ.rd) hbx1 (by omega) hs (Nat.le_refl _) ha (Nat.le_refl _) (by omega)).mono ?_
  rintro e' w2 ⟨hW, hO⟩
  have hB2 : Below w.heap.size w w2 := Wr.below_of hB1 hW (fun b e => by rcases e with e | e <;> omega) (by omega)
  have hRB : ReadB wB.heap.size w2 := ⟨hQ.bk.b0.wr hW (fun e => by rcases e with e | e <;> omega), hQ.bk.b1.wr hW (fun e => by rcases e with e | e <;> omega)⟩
  refine ⟨hRB, ?_⟩
  rcases hO with ⟨il, b, l', a', ao, c, hg, rfl, hR, hk, hl, hsl⟩ | ⟨n, hg, rfl⟩
  · refine .inl ⟨⟨il, b, l', a', ao, c, hg, hB2, ?_, hk, hl, ?_⟩, rfl⟩
    · rw [← hwB]; exact hR
    · have e : w1.heap.size = w.heap.size + 1 + 1 + 1 + 1 := by omega
      rw [← e]
      exact hsl
  · exact .inr ⟨n, hg, rfl, hB2⟩
theorem gList_nz {s : ByteArray} {a : Nat} (ha : a ≤ s.size) {n : Int} (h : gList (strl s) s.size (s.size + 1) 0 false 65536 a = .error n) : n ≠ 0 := ((exprs_start s a ha).2 n h).1
set_option maxRecDepth 100000 in
set_option maxHeartbeats 4000000 in
theorem expr_any (s : ByteArray) (x : Int) (w : World) :
    Calls Tryd.prog 10 #[.string s, .int .i64 x] w fun e w' => Below w.heap.size w w' ∧ ExprV s x e w' := by
  have hB : Below w.heap.size w (w.alloc (.cells #[.slice none 0 0] 40)) := (Below.refl _ _).alloc (Nat.le_refl _) _
  have hbx : Bk (w.alloc (.cells #[.slice none 0 0] 40)) w.heap.size [.slice none 0 0] 40 := Bk.new w [.slice none 0 0] 40
  have hz : (w.alloc (.cells #[.slice none 0 0] 40)).heap.size = w.heap.size + 1 := by simp
  replace hB := Lib.hid hB
  replace hbx := Lib.hid hbx
  replace hz := Lib.hid hz
  go_enter Tryd.func10, Tryd.ntmps10
  go_upto_region 2 with (fail)
  obtain ⟨w1, hw1⟩ : ∃ w1, w1 = w.alloc (.cells #[.slice none 0 0] 40) := ⟨_, rfl⟩
  rw [← hw1] at hB hbx hz ⊢
  clear hw1
  go_wp2_with fail
  by_cases hs : 262144 < s.size
  · have hg := Lib.hid (gExpr_big (x := x) hs)
    refine (read_big hs).mono ?_
    rintro e' w2 ⟨rfl, hB2⟩
    have hB3 := Lib.hid (hB.out.trans (hB2.mono hB.out.size))
    clear hB2
    go_wp2_with fail
    refine bodyPost_ret (v := .tuple #[.slice none 0 0, .int .i64 0, .int .i64 2]) (by simp [results, Tryd.results10, go_sem]) rfl ?_
    exact ⟨hB3.out, .inr ⟨2, by decide, hg.out, rfl⟩⟩
  · by_cases hx : x < 0 ∨ (s.size : Int) < x
    · have hg := Lib.hid (gExpr_arg hs hx)
      refine (read_arg hs (by omega)).mono ?_
      rintro e' w2 ⟨rfl, hB2⟩
      have hB3 := Lib.hid (hB.out.trans (hB2.mono hB.out.size))
      clear hB2
      go_wp2_with fail
      refine bodyPost_ret (v := .tuple #[.slice none 0 0, .int .i64 0, .int .i64 1]) (by simp [results, Tryd.results10, go_sem]) rfl ?_
      exact ⟨hB3.out, .inr ⟨1, by decide, hg.out, rfl⟩⟩
    · obtain ⟨a, rfl⟩ : ∃ a : Nat, x = a := ⟨x.toNat, by omega⟩
      have ha : a ≤ s.size := by omega
      have hg := gExpr_in hs ha
      replace hg := Lib.hid hg
      refine (readX_any hz.out hB.out hbx.out (by omega) ha).mono ?_
      rintro e' w2 (⟨hJ, rfl⟩ | ⟨n, hn, rfl, w3, hV, hR, rfl⟩)
      · obtain ⟨il, b, l', a', ao, c, hgl, hB2, hR2, hk2, hl2, hsl2⟩ := hJ
        have hge : gExpr (strl s) (a : Int) = .ok (il, a') := by rw [hg.out, hgl]; rfl
        have c0 := hk2.cell (j := 0) rfl
        have hz1 := hz.out
        have c1 : w2.cell? ⟨w1.heap.size + 1 + 1, 1, none⟩ = some (.int .i64 (a' : Int)) := by rw [hz1]; exact hR2.c1
        have hil := Lib.hid hsl2.il
        replace hge := Lib.hid hge
        replace hB2 := Lib.hid hB2
        clear hgl hR2 hk2 hsl2 hz1
        go_wp2_with fail
        go_quiet (fail)
        go_wp2_with fail
        refine bodyPost_ret (v := .tuple #[.slice ao il.len c, .int .i64 (a' : Int), .int .i64 0]) (by simp [results, Tryd.results10, go_sem]) rfl ?_
        exact ⟨bl_drewN hB2.out _, .inl ⟨il, a', ao, c, hge.out, rfl, hl2, hil.out.drewN _⟩⟩
      · have hge : gExpr (strl s) (a : Int) = .error n := by rw [hg.out, hn]; rfl
        have hn0 := gList_nz ha hn
        have hz1 := hz.out
        have hB3 : Below w.heap.size w (caughtW w3 w1.heap.size (w1.heap.size + 1) n) := Wr.below_of hV (caught_wr (N := w1.heap.size) (n := n)) (fun b hb => by omega) hV.size
        have hq : (n != 0) = true := by simp [hn0]
        obtain ⟨w2, hw2⟩ : ∃ w2, w2 = caughtW w3 w1.heap.size (w1.heap.size + 1) n := ⟨_, rfl⟩
        rw [← hw2] at hB3 ⊢
        replace hge := Lib.hid hge
        replace hn0 := Lib.hid hn0
        replace hB3 := Lib.hid hB3
        clear hw2 hn hz1 hV hR
        go_wp2_with fail
        refine bodyPost_ret (v := .tuple #[.slice none 0 0, .int .i64 0, .int .i64 n]) (by simp [results, Tryd.results10, go_sem]) rfl ?_
        exact ⟨hB3.out, .inr ⟨n, hn0.out, hge.out, rfl⟩⟩
end Go.Proofs.YtkbfjkbokifgkaaDoor

namespace Go.Proofs.YtkbfjkbokifgkaaDoor
open Go.ChangeShapes Go.WideShapes Go.ChangeAt Go.RowKit
set_option linter.unusedVariables false

def laidTwo : List (String × DataW Unit) := [("unicode/utf8.acceptRanges", Rows.laid_unicode_utf8_acceptRanges), ("unicode/utf8.first", Rows.laid_unicode_utf8_first)]
theorem first_data : (Rows.laid_unicode_utf8_first : DataW Unit) = Lib.firstData := by kernel_rfl
theorem accept_data : (Rows.laid_unicode_utf8_acceptRanges : DataW Unit) = Lib.acceptData := by kernel_rfl
theorem tab_of_laid {W : World} (h : laidMetH Tryd.prog laidTwo W) : TabU W := by
  rw [MakeChecks.laidMetH_plain _ _ _ (by kernel_rfl)] at h
  have h1 := Lib.laidMet.reads h (List.mem_cons_self ..)
  have h2 := Lib.laidMet.reads h (List.mem_cons_of_mem _ (List.mem_cons_self ..))
  rw [accept_data] at h1
  rw [first_data] at h2
  exact utf8Tabs_of_readsT (U8Types.of196 Tryd.laysValid) ⟨by kernel_rfl, by kernel_rfl, by kernel_rfl, by kernel_rfl, by kernel_rfl, by kernel_rfl, by kernel_rfl⟩ h2 h1
set_option maxRecDepth 100000 in
theorem door_met (os : Os) (args : Array Value) : laidMetH Tryd.prog laidTwo ((World.laidAll Tryd.prog os laidTwo).forCall (fun _ _ => 0) ⟨#[], args, []⟩).memory := by
  rw [MakeChecks.laidMetH_plain _ _ _ (by kernel_rfl)]
  exact laidMet_laidAll _ (by kernel_rfl) (by kernel_rfl)
end Go.Proofs.YtkbfjkbokifgkaaDoor

namespace Go.Proofs.YtkbfjkbokifgkaaDoor
open Go.ChangeShapes Go.WideShapes Go.ChangeAt Go.RowKit Go.ChangeMaps
set_option linter.unusedVariables false
set_option linter.unusedSimpArgs false

set_option maxRecDepth 100000 in
set_option maxHeartbeats 4000000 in
theorem exprs_law {w : World} {s : ByteArray} {a : Int} (hT : TabU w) : Calls Tryd.prog 4 #[.string s, .int .i64 a] w fun e w' => e = .returned (.bool true) ∧ Below w.heap.size w w' := by
  by_cases hbig : 20000 < s.size
  · have hb : (20000 : Int) < (s.size : Int) := by omega
    go_enter Tryd.func4, Tryd.ntmps4
    go_wp2_with fail
    refine (wakes_any hT).mono ?_
    rintro e' w1 ⟨rfl, hB⟩
    go_wp2_with fail
    go_ret
    exact ⟨rfl, hB⟩
  · have hb : ¬ (20000 : Int) < (s.size : Int) := by omega
    go_enter Tryd.func4, Tryd.ntmps4
    go_wp2_with fail
    refine (expr_any s a w).mono ?_
    rintro e' w1 ⟨hB1, hV1⟩
    have hT1 := Lib.hid (hT.below hB1)
    cases hg : gExpr (strl s) a with
    | error n =>
      rcases hV1 with ⟨il, n', ao, c, hg', _⟩ | ⟨n', hn0, hg', rfl⟩
      · rw [hg] at hg'; cases hg'
      rw [hg] at hg'
      cases hg'
      replace hg := Lib.hid hg
      go_wp2_with fail
      refine (rexpr_any s a w1).mono ?_
      rintro e' w2 ⟨hB2, hV2⟩
      rcases hV2 with ⟨il, n', ao, c, hg', _⟩ | ⟨n', hn0, hg', rfl⟩
      · rw [hg.out] at hg'; cases hg'
      rw [hg.out] at hg'
      cases hg'
      have hT2 := Lib.hid (hT1.out.below hB2)
      have hB3 := Lib.hid (hB1.trans (hB2.mono hB1.size))
      clear hB1 hB2
      go_wp2_with fail
      refine (instrs_any .nil .nil none none 0 0 w2 (by decide) (by decide) (.inl rfl) (.inl rfl)).mono ?_
      rintro e' w3 ⟨rfl, hB4⟩
      have hB5 := Lib.hid (hB3.out.trans (hB4.mono hB3.out.size))
      have hT3 := hT2.out.below hB4
      rw [ilEq_self]
      clear hB4 hB3
      go_wp2_with fail
      refine (wakes_any hT3).mono ?_
      rintro e' w4 ⟨rfl, hB6⟩
      have hB7 := hB5.out.trans (hB6.mono hB5.out.size)
      clear hB6 hB5
      go_wp2_with fail
      go_ret
      exact ⟨rfl, hB7⟩
    | ok q =>
      obtain ⟨il, n⟩ := q
      rcases hV1 with ⟨il', n', ao, c, hg', rfl, hl, hil⟩ | ⟨n', hn0, hg', rfl⟩
      rotate_left
      · rw [hg] at hg'; cases hg'
      rw [hg] at hg'
      cases hg'
      replace hg := Lib.hid hg
      replace hil := Lib.hid hil
      go_wp2_with fail
      refine (rexpr_any s a w1).mono ?_
      rintro e' w2 ⟨hB2, hV2⟩
      rcases hV2 with ⟨il', n', ao', c', hg', rfl, hl', hil'⟩ | ⟨n', hn0, hg', rfl⟩
      rotate_left
      · rw [hg.out] at hg'; cases hg'
      rw [hg.out] at hg'
      cases hg'
      have hT2 := Lib.hid (hT1.out.below hB2)
      have hil2 := Lib.hid (hil.out.below hB2)
      replace hil' := Lib.hid hil'
      have hB3 := Lib.hid (hB1.trans (hB2.mono hB1.size))
      clear hB1 hB2 hil
      go_wp2_with fail
      refine (instrs_any il il ao ao' c c' w2 hl hl hil2.out hil'.out).mono ?_
      rintro e' w3 ⟨rfl, hB4⟩
      have hB5 := Lib.hid (hB3.out.trans (hB4.mono hB3.out.size))
      have hT3 := hT2.out.below hB4
      rw [ilEq_self]
      clear hB4 hB3
      go_wp2_with fail
      refine (wakes_any hT3).mono ?_
      rintro e' w4 ⟨rfl, hB6⟩
      have hB7 := hB5.out.trans (hB6.mono hB5.out.size)
      clear hB6 hB5
      go_wp2_with fail
      go_ret
      exact ⟨rfl, hB7⟩
set_option maxRecDepth 100000 in
theorem exprs_walk {H : Type} {enc : TypeId × Value → H} (W : World) (base : Nat) (hT : TabU W)
    (v0 : Value) (d0 : DataW H) (p0 : List MemPlace) (o0 : Value.okWide Tryd.prog W .any base 9 v0) (h0 : DataW.Trod enc Tryd.prog W 0 (fun _ => true) true 9 v0 d0 p0)
    (v1 : Value) (d1 : DataW H) (p1 : List MemPlace) (o1 : Value.okWide Tryd.prog W .any base 3 v1) (h1 : DataW.Trod enc Tryd.prog W 0 (fun _ => true) true 3 v1 d1 p1) :
    Calls Tryd.prog 4 #[v0, v1] W fun e W' => e = .returned (.bool true) ∧ Below W.heap.size W W' := by
  obtain ⟨s, rfl, rfl, rfl, ws⟩ := open_string Tryd.underlying9 o0 h0
  obtain ⟨a0, rfl, rfl, rfl, w0⟩ := open_int Tryd.underlying3 o1 h1
  exact exprs_law hT
end Go.Proofs.YtkbfjkbokifgkaaDoor
