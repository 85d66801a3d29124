/- What the writer's instr, list, expr write. -/
import Derived.Test.YtanpjbbhhofkfaaDoorGf
import Derived.Test.YtanpjbbhhofkfaaDoorFb
import Derived.Test.YtanpjbbhhofkfaaDoorMi
import Derived.Test.YtanpjbbhhofkfaaDoorSb
import Derived.Deep.Cut
namespace Go.Proofs.YtanpjbbhhofkfaaDoor
open Go.RowKit
set_option linter.unusedVariables false
set_option linter.unusedSimpArgs false

/-- What stands behind an instruction's byte. -/
def wTail (f op x y n : Int) (ls : List Int) (elen : Nat) (B E : WS → WS) (s : WS) : WS :=
  if f = 1 then (if op = 63 ∨ op = 64 then put [b1 0] s else s)
  else if f = 2 ∨ f = 3 then
    put [b1 11] (if 0 < elen then E (put [b1 5] (B (put [b1 (if x = 0 then 64 else x)] s))) else B (put [b1 (if x = 0 then 64 else x)] s))
  else if f = 4 ∨ f = 6 then put (uB x) s
  else if f = 5 then put (uB x) (puts (numsC ls) s)
  else if f = 7 then put [b1 0] (put (uB x) s)
  else if f = 8 then put (uB y) (put (uB x) s)
  else if f = 9 then put (lebS n) s
  else s
def wl : Il → WS → WS
  | .nil, s => s
  | .cons op x y n ls b e r, s => if 1048576 < s.n then s else wl r (wTail (formV op) op x y n ls e.len (wl b) (wl e) (put [b1 op] s))
/-- How many bytes at most. -/
def cl : Il → Nat
  | .nil => 0
  | .cons op x y n ls b e r => 40 + 10 * ls.length + cl b + cl e + cl r
def wi (op x y n : Int) (ls : List Int) (b e : Il) (s : WS) : WS := wTail (formV op) op x y n ls e.len (wl b) (wl e) (put [b1 op] s)
def InR (f : WS → WS) (c : Nat) : Prop := ∀ s, s.n ≤ (f s).n ∧ (f s).n ≤ s.n + c
theorem wTail_n (f op x y n : Int) (hn : -9223372036854775808 ≤ n ∧ n ≤ 9223372036854775807) (ls : List Int) (elen : Nat) (B E : WS → WS) (cB cE : Nat) (hB : InR B cB) (hE : InR E cE) : InR (wTail f op x y n ls elen B E) (35 + 10 * ls.length + cB + cE) := by
  intro s
  have hx := uB_len x
  have hy := uB_len y
  have hs := lebS_ten hn.1 hn.2
  have ht := numsC_tot ls
  unfold wTail
  generalize (if x = 0 then (64 : Int) else x) = z
  have b1s := hB (put [b1 z] s)
  have e1s := hE (put [b1 5] (B (put [b1 z] s)))
  simp only [put_n, List.length_cons, List.length_nil] at b1s e1s
  (repeat' split) <;> (try simp only [put_n, puts_n, List.length_cons, List.length_nil]) <;> omega
theorem formV_range (op : Int) : 0 ≤ formV op ∧ formV op ≤ 10 := by
  unfold formV
  constructor <;> (repeat' split) <;> omega
theorem formV_cases (op : Int) : formV op = 0 ∨ formV op = 1 ∨ formV op = 2 ∨ formV op = 3 ∨ formV op = 4 ∨ formV op = 5 ∨ formV op = 6 ∨ formV op = 7 ∨ formV op = 8 ∨ formV op = 9 ∨ formV op = 10 := by
  have := formV_range op
  omega
/-- Constants that an int holds. -/
def nOk : Il → Prop
  | .nil => True
  | .cons _ _ _ n _ b e r => (-9223372036854775808 ≤ n ∧ n ≤ 9223372036854775807) ∧ nOk b ∧ nOk e ∧ nOk r
theorem wl_n : ∀ l : Il, nOk l → InR (wl l) (cl l)
  | .nil, _, s => ⟨Int.le_refl _, by simp [wl, cl]⟩
  | .cons op x y n ls b e r, h, s => by
    have hT := wTail_n (formV op) op x y n h.1 ls e.len (wl b) (wl e) (cl b) (cl e) (wl_n b h.2.1) (wl_n e h.2.2.1) (put [b1 op] s)
    have hR := wl_n r h.2.2.2 (wTail (formV op) op x y n ls e.len (wl b) (wl e) (put [b1 op] s))
    simp only [put_n, List.length_cons, List.length_nil] at hT
    unfold wl cl
    split <;> omega
theorem Tr.box {p : Nat} {v v' : Value} {w w' : World} (h : Tr p v v' w w') {q : Nat} {vs : Array Value} (hp : q ≠ p) (hv : v.ownBlock ≠ some q) (hb : Box w q vs) : Box w' q vs := fun j u hu => h.cell hp hv (hb j u hu)
def ListC (l : Il) : Prop := ∀ (w0 : World) (N p : Nat) (w : World) (mv : List Value) (v : Value) (s : WS) (a : Option Addr) (c : Nat), WAt N p w mv v s → Vw w0 p v w → l.len ≤ 9223372036854775807 → IlIn w0 a 0 l → nOk l → s.n + cl l ≤ 4611686018427387904 →
  Calls Tryd.prog 50 #[.pointer (some ⟨p, 0, none⟩), .slice a l.len c] w fun e w' => e = .returned (.tuple #[]) ∧ WOut N p w mv v (wl l s) w'
set_option maxRecDepth 100000 in
set_option maxHeartbeats 4000000 in
theorem winstr_any (op x y n : Int) (ls : List Int) (b e : Il) (hn : -9223372036854775808 ≤ n ∧ n ≤ 9223372036854775807) (ok5 : nOk b) (ok6 : nOk e) (sb : ListC b) (se : ListC e) (w0 : World) (N p : Nat) (w : World) (mv : List Value) (v : Value) (s : WS) (a4 : Option Addr) (k4 : Nat) (a5 : Option Addr) (k5 : Nat) (a6 : Option Addr) (k6 : Nat)
    (h : WAt N p w mv v s) (hb : Vw w0 p v w) (i4 : IntsIn w0 a4 ls) (l5 : b.len ≤ 9223372036854775807) (i5 : IlIn w0 a5 0 b) (l6 : e.len ≤ 9223372036854775807) (i6 : IlIn w0 a6 0 e)
    (hs : s.n + (40 + 10 * ls.length + cl b + cl e) ≤ 4611686018427387904) :
    Calls Tryd.prog 71 #[.pointer (some ⟨p, 0, none⟩), .agg #[.int .i64 op, .int .i64 x, .int .i64 y, .int .i64 n, .slice a4 ls.length k4, .slice a5 b.len k5, .slice a6 e.len k6]] w fun e' w' => e' = .returned (.tuple #[]) ∧ WOut N p w mv v (wi op x y n ls b e s) w' := by
  have L4 : ls.length ≤ 9223372036854775807 := i4.1
  have hux := uB_len x
  have huy := uB_len y
  have hsl := lebS_ten hn.1 hn.2
  have hct := numsC_tot ls
  have hlow := h.low
  obtain ⟨q, hq⟩ : ∃ q, w.heap.size = q := ⟨_, rfl⟩
  obtain ⟨wA, hwA⟩ : ∃ wA, wA = w.alloc (.cells #[.int .i64 op, .int .i64 x, .int .i64 y, .int .i64 n, .slice a4 ls.length k4, .slice a5 b.len k5, .slice a6 e.len k6] 53) := ⟨_, rfl⟩
  have hbel : Below w.heap.size w wA := by rw [hwA]; exact (Below.refl _ _).alloc (Nat.le_refl _) _
  have hqp := Lib.hid (show q ≠ p by have := h.lt; omega)
  have hqv := Lib.hid (show v.ownBlock ≠ some q from fun e => by have := (h.own.lt q e).2; omega)
  have hbx : Box wA q #[.int .i64 op, .int .i64 x, .int .i64 y, .int .i64 n, .slice a4 ls.length k4, .slice a5 b.len k5, .slice a6 e.len k6] := by rw [hwA, ← hq]; exact box_new w _ _
  have h0 := Lib.hid (h.below hbel)
  have t0' := Lib.hid (Tr.of_below (p := p) (v := v) hbel)
  have hp0 : wA.cell? ⟨q, 0, none⟩ = some (.int .i64 op) := hbx 0 _ rfl
  replace hbx := Lib.hid hbx
  have t0 := Lib.hid (Tr.refl p v wA)
  replace h := Lib.hid h
  replace hb := Lib.hid hb
  replace i4 := Lib.hid i4
  replace i5 := Lib.hid i5
  replace i6 := Lib.hid i6
  replace sb := Lib.hid sb
  replace se := Lib.hid se
  go_enter Tryd.func71, Tryd.ntmps71
  rw [hwA] at hp0
  go_wp2_with fail
  rw [← hwA]
  refine (byte_any h0.out op (by omega)).mono ?_
  rintro e' w1 ⟨rfl, v1, hh, tt⟩
  have h1 := Lib.hid hh
  have t1 := Lib.hid tt
  clear hh tt hp0 hwA hbel
  have p0 : w1.cell? ⟨q, 0, none⟩ = some (.int .i64 op) := (t1.out.box hqp.out hqv.out hbx.out) 0 _ rfl
  go_wp2_with fail
  refine (form_any op w1).mono ?_
  rintro e' w1x ⟨rfl, hbF⟩
  clear p0
  replace h1 := Lib.hid (h1.out.below hbF)
  replace t1 := Lib.hid (t1.out.trans (Tr.of_below hbF))
  clear hbF w1
  rename World => w1
  obtain ⟨f, hf⟩ : ∃ f, formV op = f := ⟨_, rfl⟩
  have hcs := formV_cases op
  rw [hf] at hcs ⊢
  replace hf := Lib.hid hf
  rcases hcs with hcs | hcs | hcs | hcs | hcs | hcs | hcs | hcs | hcs | hcs | hcs
  · subst hcs
    have hv : wTail 0 op x y n ls e.len (wl b) (wl e) (put [b1 op] s) = put [b1 op] s := rfl
    replace hv := Lib.hid hv
    go_wp2
    go_end0
    exact ⟨rfl, by unfold wi; rw [hf.out, hv.out]; exact WOut.trans t0'.out ⟨v1, h1.out, t1.out⟩⟩
  · subst hcs
    by_cases hc63 : op = 63
    · subst hc63
      have p0 : w1.cell? ⟨q, 0, none⟩ = some (.int .i64 63) := (t1.out.box hqp.out hqv.out hbx.out) 0 _ rfl
      go_wp2_with fail
      refine (byte_any h1.out 0 (by (try simp only [put_n, puts_n, List.length_cons, List.length_nil]); omega)).mono ?_
      rintro e' w2 ⟨rfl, v2, hh, tt⟩
      have h2 := Lib.hid hh
      have t2 := Lib.hid (t1.out.trans tt)
      clear hh tt
      clear p0
      have hv : wTail 1 63 x y n ls e.len (wl b) (wl e) (put [b1 63] s) = put [b1 0] (put [b1 63] s) := rfl
      replace hv := Lib.hid hv
      go_wp2
      go_end0
      exact ⟨rfl, by unfold wi; rw [hf.out, hv.out]; exact WOut.trans t0'.out ⟨v2, h2.out, t2.out⟩⟩
    by_cases hc64 : op = 64
    · subst hc64
      have p0 : w1.cell? ⟨q, 0, none⟩ = some (.int .i64 64) := (t1.out.box hqp.out hqv.out hbx.out) 0 _ rfl
      go_wp2_with fail
      refine (byte_any h1.out 0 (by (try simp only [put_n, puts_n, List.length_cons, List.length_nil]); omega)).mono ?_
      rintro e' w2 ⟨rfl, v2, hh, tt⟩
      have h2 := Lib.hid hh
      have t2 := Lib.hid (t1.out.trans tt)
      clear hh tt
      clear p0
      have hv : wTail 1 64 x y n ls e.len (wl b) (wl e) (put [b1 64] s) = put [b1 0] (put [b1 64] s) := rfl
      replace hv := Lib.hid hv
      go_wp2
      go_end0
      exact ⟨rfl, by unfold wi; rw [hf.out, hv.out]; exact WOut.trans t0'.out ⟨v2, h2.out, t2.out⟩⟩
    have p0 : w1.cell? ⟨q, 0, none⟩ = some (.int .i64 op) := (t1.out.box hqp.out hqv.out hbx.out) 0 _ rfl
    have hd1 : (op == 63) = false := by simp [hc63]
    have hd2 : (op == 64) = false := by simp [hc64]
    have hv : wTail 1 op x y n ls e.len (wl b) (wl e) (put [b1 op] s) = put [b1 op] s := by show (if op = 63 ∨ op = 64 then _ else _) = _; rw [if_neg (by omega)]
    replace hv := Lib.hid hv
    go_wp2
    go_end0
    exact ⟨rfl, by unfold wi; rw [hf.out, hv.out]; exact WOut.trans t0'.out ⟨v1, h1.out, t1.out⟩⟩
  · subst hcs
    by_cases hx0 : x = 0
    · have p1' : w1.cell? ⟨q, 1, none⟩ = some (.int .i64 0) := (t1.out.box hqp.out hqv.out hbx.out) 1 _ (by rw [← hx0]; rfl)
      go_wp2_with fail
      refine (byte_any h1.out 64 (by (try simp only [put_n, puts_n, List.length_cons, List.length_nil]); omega)).mono ?_
      rintro e' w2 ⟨rfl, v2, hh, tt⟩
      have h2 := Lib.hid hh
      have t2 := Lib.hid (t1.out.trans tt)
      clear hh tt
      clear p1'
      have nB := wl_n b ok5 (put [b1 64] (put [b1 op] s))
      simp only [put_n, List.length_cons, List.length_nil] at nB
      have p5 : w2.cell? ⟨q, 5, none⟩ = some (.slice a5 b.len k5) := (t2.out.box hqp.out hqv.out hbx.out) 5 _ rfl
      go_wp2_with fail
      refine (sb.out w0 N p _ mv v2 _ a5 k5 h2.out (hb.out.tr (t0'.out.trans t2.out)) l5 i5.out ok5 (by (try simp only [put_n, puts_n, List.length_cons, List.length_nil]); omega)).mono ?_
      rintro e' w3 ⟨rfl, v3, hh, tt⟩
      have h3 := Lib.hid hh
      have t3 := Lib.hid (t2.out.trans tt)
      clear hh tt p5
      by_cases he : 0 < e.len
      · have nE := wl_n e ok6 (put [b1 5] (wl b (put [b1 64] (put [b1 op] s))))
        simp only [put_n, List.length_cons, List.length_nil] at nE
        have p6 : w3.cell? ⟨q, 6, none⟩ = some (.slice a6 e.len k6) := (t3.out.box hqp.out hqv.out hbx.out) 6 _ rfl
        go_wp2_with fail
        refine (byte_any h3.out 5 (by (try simp only [put_n, puts_n, List.length_cons, List.length_nil]); omega)).mono ?_
        rintro e' w4 ⟨rfl, v4, hh, tt⟩
        have h4 := Lib.hid hh
        have t4 := Lib.hid (t3.out.trans tt)
        clear hh tt p6
        have p6 : w4.cell? ⟨q, 6, none⟩ = some (.slice a6 e.len k6) := (t4.out.box hqp.out hqv.out hbx.out) 6 _ rfl
        go_wp2_with fail
        refine (se.out w0 N p _ mv v4 _ a6 k6 h4.out (hb.out.tr (t0'.out.trans t4.out)) l6 i6.out ok6 (by (try simp only [put_n, puts_n, List.length_cons, List.length_nil]); omega)).mono ?_
        rintro e' w5 ⟨rfl, v5, hh, tt⟩
        have h5 := Lib.hid hh
        have t5 := Lib.hid (t4.out.trans tt)
        clear hh tt p6
        go_wp2_with fail
        refine (byte_any h5.out 11 (by (try simp only [put_n, puts_n, List.length_cons, List.length_nil]); omega)).mono ?_
        rintro e' w6 ⟨rfl, v6, hh, tt⟩
        have h6 := Lib.hid hh
        have t6 := Lib.hid (t5.out.trans tt)
        clear hh tt
        have hv : wTail 2 op x y n ls e.len (wl b) (wl e) (put [b1 op] s) = put [b1 11] (wl e (put [b1 5] (wl b (put [b1 64] (put [b1 op] s))))) := by show put [b1 11] (if 0 < e.len then _ else _) = _; rw [if_pos he, if_pos hx0]
        replace hv := Lib.hid hv
        go_wp2
        go_end0
        exact ⟨rfl, by unfold wi; rw [hf.out, hv.out]; exact WOut.trans t0'.out ⟨v6, h6.out, t6.out⟩⟩
      · have hez : e.len = 0 := by omega
        have hez2 : ((e.len : Nat) : Int) = 0 := by omega
        have p6 : w3.cell? ⟨q, 6, none⟩ = some (.slice a6 e.len k6) := (t3.out.box hqp.out hqv.out hbx.out) 6 _ rfl
        go_wp2_with fail
        refine (byte_any h3.out 11 (by (try simp only [put_n, puts_n, List.length_cons, List.length_nil]); omega)).mono ?_
        rintro e' w4 ⟨rfl, v4, hh, tt⟩
        have h4 := Lib.hid hh
        have t4 := Lib.hid (t3.out.trans tt)
        clear hh tt p6
        have hv : wTail 2 op x y n ls e.len (wl b) (wl e) (put [b1 op] s) = put [b1 11] (wl b (put [b1 64] (put [b1 op] s))) := by show put [b1 11] (if 0 < e.len then _ else _) = _; rw [if_neg he, if_pos hx0]
        replace hv := Lib.hid hv
        go_wp2
        go_end0
        exact ⟨rfl, by unfold wi; rw [hf.out, hv.out]; exact WOut.trans t0'.out ⟨v4, h4.out, t4.out⟩⟩
    · have p1 : w1.cell? ⟨q, 1, none⟩ = some (.int .i64 x) := (t1.out.box hqp.out hqv.out hbx.out) 1 _ rfl
      have hx1 : (x == 0) = false := by simp [hx0]
      go_wp2_with fail
      refine (byte_any h1.out x (by (try simp only [put_n, puts_n, List.length_cons, List.length_nil]); omega)).mono ?_
      rintro e' w2 ⟨rfl, v2, hh, tt⟩
      have h2 := Lib.hid hh
      have t2 := Lib.hid (t1.out.trans tt)
      clear hh tt p1 hx1
      have nB := wl_n b ok5 (put [b1 x] (put [b1 op] s))
      simp only [put_n, List.length_cons, List.length_nil] at nB
      have p5 : w2.cell? ⟨q, 5, none⟩ = some (.slice a5 b.len k5) := (t2.out.box hqp.out hqv.out hbx.out) 5 _ rfl
      go_wp2_with fail
      refine (sb.out w0 N p _ mv v2 _ a5 k5 h2.out (hb.out.tr (t0'.out.trans t2.out)) l5 i5.out ok5 (by (try simp only [put_n, puts_n, List.length_cons, List.length_nil]); omega)).mono ?_
      rintro e' w3 ⟨rfl, v3, hh, tt⟩
      have h3 := Lib.hid hh
      have t3 := Lib.hid (t2.out.trans tt)
      clear hh tt p5
      by_cases he : 0 < e.len
      · have nE := wl_n e ok6 (put [b1 5] (wl b (put [b1 x] (put [b1 op] s))))
        simp only [put_n, List.length_cons, List.length_nil] at nE
        have p6 : w3.cell? ⟨q, 6, none⟩ = some (.slice a6 e.len k6) := (t3.out.box hqp.out hqv.out hbx.out) 6 _ rfl
        go_wp2_with fail
        refine (byte_any h3.out 5 (by (try simp only [put_n, puts_n, List.length_cons, List.length_nil]); omega)).mono ?_
        rintro e' w4 ⟨rfl, v4, hh, tt⟩
        have h4 := Lib.hid hh
        have t4 := Lib.hid (t3.out.trans tt)
        clear hh tt p6
        have p6 : w4.cell? ⟨q, 6, none⟩ = some (.slice a6 e.len k6) := (t4.out.box hqp.out hqv.out hbx.out) 6 _ rfl
        go_wp2_with fail
        refine (se.out w0 N p _ mv v4 _ a6 k6 h4.out (hb.out.tr (t0'.out.trans t4.out)) l6 i6.out ok6 (by (try simp only [put_n, puts_n, List.length_cons, List.length_nil]); omega)).mono ?_
        rintro e' w5 ⟨rfl, v5, hh, tt⟩
        have h5 := Lib.hid hh
        have t5 := Lib.hid (t4.out.trans tt)
        clear hh tt p6
        go_wp2_with fail
        refine (byte_any h5.out 11 (by (try simp only [put_n, puts_n, List.length_cons, List.length_nil]); omega)).mono ?_
        rintro e' w6 ⟨rfl, v6, hh, tt⟩
        have h6 := Lib.hid hh
        have t6 := Lib.hid (t5.out.trans tt)
        clear hh tt
        have hv : wTail 2 op x y n ls e.len (wl b) (wl e) (put [b1 op] s) = put [b1 11] (wl e (put [b1 5] (wl b (put [b1 x] (put [b1 op] s))))) := by show put [b1 11] (if 0 < e.len then _ else _) = _; rw [if_pos he, if_neg hx0]
        replace hv := Lib.hid hv
        go_wp2
        go_end0
        exact ⟨rfl, by unfold wi; rw [hf.out, hv.out]; exact WOut.trans t0'.out ⟨v6, h6.out, t6.out⟩⟩
      · have hez : e.len = 0 := by omega
        have hez2 : ((e.len : Nat) : Int) = 0 := by omega
        have p6 : w3.cell? ⟨q, 6, none⟩ = some (.slice a6 e.len k6) := (t3.out.box hqp.out hqv.out hbx.out) 6 _ rfl
        go_wp2_with fail
        refine (byte_any h3.out 11 (by (try simp only [put_n, puts_n, List.length_cons, List.length_nil]); omega)).mono ?_
        rintro e' w4 ⟨rfl, v4, hh, tt⟩
        have h4 := Lib.hid hh
        have t4 := Lib.hid (t3.out.trans tt)
        clear hh tt p6
        have hv : wTail 2 op x y n ls e.len (wl b) (wl e) (put [b1 op] s) = put [b1 11] (wl b (put [b1 x] (put [b1 op] s))) := by show put [b1 11] (if 0 < e.len then _ else _) = _; rw [if_neg he, if_neg hx0]
        replace hv := Lib.hid hv
        go_wp2
        go_end0
        exact ⟨rfl, by unfold wi; rw [hf.out, hv.out]; exact WOut.trans t0'.out ⟨v4, h4.out, t4.out⟩⟩
  · subst hcs
    by_cases hx0 : x = 0
    · have p1' : w1.cell? ⟨q, 1, none⟩ = some (.int .i64 0) := (t1.out.box hqp.out hqv.out hbx.out) 1 _ (by rw [← hx0]; rfl)
      go_wp2_with fail
      refine (byte_any h1.out 64 (by (try simp only [put_n, puts_n, List.length_cons, List.length_nil]); omega)).mono ?_
      rintro e' w2 ⟨rfl, v2, hh, tt⟩
      have h2 := Lib.hid hh
      have t2 := Lib.hid (t1.out.trans tt)
      clear hh tt
      clear p1'
      have nB := wl_n b ok5 (put [b1 64] (put [b1 op] s))
      simp only [put_n, List.length_cons, List.length_nil] at nB
      have p5 : w2.cell? ⟨q, 5, none⟩ = some (.slice a5 b.len k5) := (t2.out.box hqp.out hqv.out hbx.out) 5 _ rfl
      go_wp2_with fail
      refine (sb.out w0 N p _ mv v2 _ a5 k5 h2.out (hb.out.tr (t0'.out.trans t2.out)) l5 i5.out ok5 (by (try simp only [put_n, puts_n, List.length_cons, List.length_nil]); omega)).mono ?_
      rintro e' w3 ⟨rfl, v3, hh, tt⟩
      have h3 := Lib.hid hh
      have t3 := Lib.hid (t2.out.trans tt)
      clear hh tt p5
      by_cases he : 0 < e.len
      · have nE := wl_n e ok6 (put [b1 5] (wl b (put [b1 64] (put [b1 op] s))))
        simp only [put_n, List.length_cons, List.length_nil] at nE
        have p6 : w3.cell? ⟨q, 6, none⟩ = some (.slice a6 e.len k6) := (t3.out.box hqp.out hqv.out hbx.out) 6 _ rfl
        go_wp2_with fail
        refine (byte_any h3.out 5 (by (try simp only [put_n, puts_n, List.length_cons, List.length_nil]); omega)).mono ?_
        rintro e' w4 ⟨rfl, v4, hh, tt⟩
        have h4 := Lib.hid hh
        have t4 := Lib.hid (t3.out.trans tt)
        clear hh tt p6
        have p6 : w4.cell? ⟨q, 6, none⟩ = some (.slice a6 e.len k6) := (t4.out.box hqp.out hqv.out hbx.out) 6 _ rfl
        go_wp2_with fail
        refine (se.out w0 N p _ mv v4 _ a6 k6 h4.out (hb.out.tr (t0'.out.trans t4.out)) l6 i6.out ok6 (by (try simp only [put_n, puts_n, List.length_cons, List.length_nil]); omega)).mono ?_
        rintro e' w5 ⟨rfl, v5, hh, tt⟩
        have h5 := Lib.hid hh
        have t5 := Lib.hid (t4.out.trans tt)
        clear hh tt p6
        go_wp2_with fail
        refine (byte_any h5.out 11 (by (try simp only [put_n, puts_n, List.length_cons, List.length_nil]); omega)).mono ?_
        rintro e' w6 ⟨rfl, v6, hh, tt⟩
        have h6 := Lib.hid hh
        have t6 := Lib.hid (t5.out.trans tt)
        clear hh tt
        have hv : wTail 3 op x y n ls e.len (wl b) (wl e) (put [b1 op] s) = put [b1 11] (wl e (put [b1 5] (wl b (put [b1 64] (put [b1 op] s))))) := by show put [b1 11] (if 0 < e.len then _ else _) = _; rw [if_pos he, if_pos hx0]
        replace hv := Lib.hid hv
        go_wp2
        go_end0
        exact ⟨rfl, by unfold wi; rw [hf.out, hv.out]; exact WOut.trans t0'.out ⟨v6, h6.out, t6.out⟩⟩
      · have hez : e.len = 0 := by omega
        have hez2 : ((e.len : Nat) : Int) = 0 := by omega
        have p6 : w3.cell? ⟨q, 6, none⟩ = some (.slice a6 e.len k6) := (t3.out.box hqp.out hqv.out hbx.out) 6 _ rfl
        go_wp2_with fail
        refine (byte_any h3.out 11 (by (try simp only [put_n, puts_n, List.length_cons, List.length_nil]); omega)).mono ?_
        rintro e' w4 ⟨rfl, v4, hh, tt⟩
        have h4 := Lib.hid hh
        have t4 := Lib.hid (t3.out.trans tt)
        clear hh tt p6
        have hv : wTail 3 op x y n ls e.len (wl b) (wl e) (put [b1 op] s) = put [b1 11] (wl b (put [b1 64] (put [b1 op] s))) := by show put [b1 11] (if 0 < e.len then _ else _) = _; rw [if_neg he, if_pos hx0]
        replace hv := Lib.hid hv
        go_wp2
        go_end0
        exact ⟨rfl, by unfold wi; rw [hf.out, hv.out]; exact WOut.trans t0'.out ⟨v4, h4.out, t4.out⟩⟩
    · have p1 : w1.cell? ⟨q, 1, none⟩ = some (.int .i64 x) := (t1.out.box hqp.out hqv.out hbx.out) 1 _ rfl
      have hx1 : (x == 0) = false := by simp [hx0]
      go_wp2_with fail
      refine (byte_any h1.out x (by (try simp only [put_n, puts_n, List.length_cons, List.length_nil]); omega)).mono ?_
      rintro e' w2 ⟨rfl, v2, hh, tt⟩
      have h2 := Lib.hid hh
      have t2 := Lib.hid (t1.out.trans tt)
      clear hh tt p1 hx1
      have nB := wl_n b ok5 (put [b1 x] (put [b1 op] s))
      simp only [put_n, List.length_cons, List.length_nil] at nB
      have p5 : w2.cell? ⟨q, 5, none⟩ = some (.slice a5 b.len k5) := (t2.out.box hqp.out hqv.out hbx.out) 5 _ rfl
      go_wp2_with fail
      refine (sb.out w0 N p _ mv v2 _ a5 k5 h2.out (hb.out.tr (t0'.out.trans t2.out)) l5 i5.out ok5 (by (try simp only [put_n, puts_n, List.length_cons, List.length_nil]); omega)).mono ?_
      rintro e' w3 ⟨rfl, v3, hh, tt⟩
      have h3 := Lib.hid hh
      have t3 := Lib.hid (t2.out.trans tt)
      clear hh tt p5
      by_cases he : 0 < e.len
      · have nE := wl_n e ok6 (put [b1 5] (wl b (put [b1 x] (put [b1 op] s))))
        simp only [put_n, List.length_cons, List.length_nil] at nE
        have p6 : w3.cell? ⟨q, 6, none⟩ = some (.slice a6 e.len k6) := (t3.out.box hqp.out hqv.out hbx.out) 6 _ rfl
        go_wp2_with fail
        refine (byte_any h3.out 5 (by (try simp only [put_n, puts_n, List.length_cons, List.length_nil]); omega)).mono ?_
        rintro e' w4 ⟨rfl, v4, hh, tt⟩
        have h4 := Lib.hid hh
        have t4 := Lib.hid (t3.out.trans tt)
        clear hh tt p6
        have p6 : w4.cell? ⟨q, 6, none⟩ = some (.slice a6 e.len k6) := (t4.out.box hqp.out hqv.out hbx.out) 6 _ rfl
        go_wp2_with fail
        refine (se.out w0 N p _ mv v4 _ a6 k6 h4.out (hb.out.tr (t0'.out.trans t4.out)) l6 i6.out ok6 (by (try simp only [put_n, puts_n, List.length_cons, List.length_nil]); omega)).mono ?_
        rintro e' w5 ⟨rfl, v5, hh, tt⟩
        have h5 := Lib.hid hh
        have t5 := Lib.hid (t4.out.trans tt)
        clear hh tt p6
        go_wp2_with fail
        refine (byte_any h5.out 11 (by (try simp only [put_n, puts_n, List.length_cons, List.length_nil]); omega)).mono ?_
        rintro e' w6 ⟨rfl, v6, hh, tt⟩
        have h6 := Lib.hid hh
        have t6 := Lib.hid (t5.out.trans tt)
        clear hh tt
        have hv : wTail 3 op x y n ls e.len (wl b) (wl e) (put [b1 op] s) = put [b1 11] (wl e (put [b1 5] (wl b (put [b1 x] (put [b1 op] s))))) := by show put [b1 11] (if 0 < e.len then _ else _) = _; rw [if_pos he, if_neg hx0]
        replace hv := Lib.hid hv
        go_wp2
        go_end0
        exact ⟨rfl, by unfold wi; rw [hf.out, hv.out]; exact WOut.trans t0'.out ⟨v6, h6.out, t6.out⟩⟩
      · have hez : e.len = 0 := by omega
        have hez2 : ((e.len : Nat) : Int) = 0 := by omega
        have p6 : w3.cell? ⟨q, 6, none⟩ = some (.slice a6 e.len k6) := (t3.out.box hqp.out hqv.out hbx.out) 6 _ rfl
        go_wp2_with fail
        refine (byte_any h3.out 11 (by (try simp only [put_n, puts_n, List.length_cons, List.length_nil]); omega)).mono ?_
        rintro e' w4 ⟨rfl, v4, hh, tt⟩
        have h4 := Lib.hid hh
        have t4 := Lib.hid (t3.out.trans tt)
        clear hh tt p6
        have hv : wTail 3 op x y n ls e.len (wl b) (wl e) (put [b1 op] s) = put [b1 11] (wl b (put [b1 x] (put [b1 op] s))) := by show put [b1 11] (if 0 < e.len then _ else _) = _; rw [if_neg he, if_neg hx0]
        replace hv := Lib.hid hv
        go_wp2
        go_end0
        exact ⟨rfl, by unfold wi; rw [hf.out, hv.out]; exact WOut.trans t0'.out ⟨v4, h4.out, t4.out⟩⟩
  · subst hcs
    have p1 : w1.cell? ⟨q, 1, none⟩ = some (.int .i64 x) := (t1.out.box hqp.out hqv.out hbx.out) 1 _ rfl
    go_wp2_with fail
    refine (u_any h1.out x (by (try simp only [put_n, puts_n, List.length_cons, List.length_nil]); omega)).mono ?_
    rintro e' w2 ⟨rfl, v2, hh, tt⟩
    have h2 := Lib.hid hh
    have t2 := Lib.hid (t1.out.trans tt)
    clear hh tt p1
    have hv : wTail 4 op x y n ls e.len (wl b) (wl e) (put [b1 op] s) = put (uB x) (put [b1 op] s) := by rfl
    replace hv := Lib.hid hv
    go_wp2
    go_end0
    exact ⟨rfl, by unfold wi; rw [hf.out, hv.out]; exact WOut.trans t0'.out ⟨v2, h2.out, t2.out⟩⟩
  · subst hcs
    have p4 : w1.cell? ⟨q, 4, none⟩ = some (.slice a4 ls.length k4) := (t1.out.box hqp.out hqv.out hbx.out) 4 _ rfl
    go_wp2_with fail
    refine (numbers_any h1.out (hb.out.tr (t0'.out.trans t1.out)) ls a4 k4 i4.out (by (try simp only [put_n, puts_n, List.length_cons, List.length_nil]); omega)).mono ?_
    rintro e' w2 ⟨rfl, v2, hh, tt⟩
    have h2 := Lib.hid hh
    have t2 := Lib.hid (t1.out.trans tt)
    clear hh tt p4
    have p1 : w2.cell? ⟨q, 1, none⟩ = some (.int .i64 x) := (t2.out.box hqp.out hqv.out hbx.out) 1 _ rfl
    go_wp2_with fail
    refine (u_any h2.out x (by (try simp only [put_n, puts_n, List.length_cons, List.length_nil]); omega)).mono ?_
    rintro e' w3 ⟨rfl, v3, hh, tt⟩
    have h3 := Lib.hid hh
    have t3 := Lib.hid (t2.out.trans tt)
    clear hh tt p1
    have hv : wTail 5 op x y n ls e.len (wl b) (wl e) (put [b1 op] s) = put (uB x) (puts (numsC ls) (put [b1 op] s)) := by rfl
    replace hv := Lib.hid hv
    go_wp2
    go_end0
    exact ⟨rfl, by unfold wi; rw [hf.out, hv.out]; exact WOut.trans t0'.out ⟨v3, h3.out, t3.out⟩⟩
  · subst hcs
    have p1 : w1.cell? ⟨q, 1, none⟩ = some (.int .i64 x) := (t1.out.box hqp.out hqv.out hbx.out) 1 _ rfl
    go_wp2_with fail
    refine (u_any h1.out x (by (try simp only [put_n, puts_n, List.length_cons, List.length_nil]); omega)).mono ?_
    rintro e' w2 ⟨rfl, v2, hh, tt⟩
    have h2 := Lib.hid hh
    have t2 := Lib.hid (t1.out.trans tt)
    clear hh tt p1
    have hv : wTail 6 op x y n ls e.len (wl b) (wl e) (put [b1 op] s) = put (uB x) (put [b1 op] s) := by rfl
    replace hv := Lib.hid hv
    go_wp2
    go_end0
    exact ⟨rfl, by unfold wi; rw [hf.out, hv.out]; exact WOut.trans t0'.out ⟨v2, h2.out, t2.out⟩⟩
  · subst hcs
    have p1 : w1.cell? ⟨q, 1, none⟩ = some (.int .i64 x) := (t1.out.box hqp.out hqv.out hbx.out) 1 _ rfl
    go_wp2_with fail
    refine (u_any h1.out x (by (try simp only [put_n, puts_n, List.length_cons, List.length_nil]); omega)).mono ?_
    rintro e' w2 ⟨rfl, v2, hh, tt⟩
    have h2 := Lib.hid hh
    have t2 := Lib.hid (t1.out.trans tt)
    clear hh tt p1
    go_wp2_with fail
    refine (byte_any h2.out 0 (by (try simp only [put_n, puts_n, List.length_cons, List.length_nil]); omega)).mono ?_
    rintro e' w3 ⟨rfl, v3, hh, tt⟩
    have h3 := Lib.hid hh
    have t3 := Lib.hid (t2.out.trans tt)
    clear hh tt
    have hv : wTail 7 op x y n ls e.len (wl b) (wl e) (put [b1 op] s) = put [b1 0] (put (uB x) (put [b1 op] s)) := by rfl
    replace hv := Lib.hid hv
    go_wp2
    go_end0
    exact ⟨rfl, by unfold wi; rw [hf.out, hv.out]; exact WOut.trans t0'.out ⟨v3, h3.out, t3.out⟩⟩
  · subst hcs
    have p1 : w1.cell? ⟨q, 1, none⟩ = some (.int .i64 x) := (t1.out.box hqp.out hqv.out hbx.out) 1 _ rfl
    go_wp2_with fail
    refine (u_any h1.out x (by (try simp only [put_n, puts_n, List.length_cons, List.length_nil]); omega)).mono ?_
    rintro e' w2 ⟨rfl, v2, hh, tt⟩
    have h2 := Lib.hid hh
    have t2 := Lib.hid (t1.out.trans tt)
    clear hh tt p1
    have p2 : w2.cell? ⟨q, 2, none⟩ = some (.int .i64 y) := (t2.out.box hqp.out hqv.out hbx.out) 2 _ rfl
    go_wp2_with fail
    refine (u_any h2.out y (by (try simp only [put_n, puts_n, List.length_cons, List.length_nil]); omega)).mono ?_
    rintro e' w3 ⟨rfl, v3, hh, tt⟩
    have h3 := Lib.hid hh
    have t3 := Lib.hid (t2.out.trans tt)
    clear hh tt p2
    have hv : wTail 8 op x y n ls e.len (wl b) (wl e) (put [b1 op] s) = put (uB y) (put (uB x) (put [b1 op] s)) := by rfl
    replace hv := Lib.hid hv
    go_wp2
    go_end0
    exact ⟨rfl, by unfold wi; rw [hf.out, hv.out]; exact WOut.trans t0'.out ⟨v3, h3.out, t3.out⟩⟩
  · subst hcs
    have p3 : w1.cell? ⟨q, 3, none⟩ = some (.int .i64 n) := (t1.out.box hqp.out hqv.out hbx.out) 3 _ rfl
    go_wp2_with fail
    refine (putS_any n hn.1 hn.2 w1).mono ?_
    rintro e' wx ⟨rfl, hbx1⟩
    clear p3
    have hx1 := Lib.hid (h1.out.below hbx1)
    have tx1 := Lib.hid (t1.out.trans (Tr.of_below hbx1))
    clear hbx1
    go_wp2_with fail
    refine (text_any hx1.out (mks (lebS n)) (by rw [strl_mks_len, put_n]; simp only [List.length_cons, List.length_nil]; omega)).mono ?_
    rintro e' w2 ⟨rfl, v2, hh, tt⟩
    have h2 := Lib.hid hh
    have t2 := Lib.hid (tx1.out.trans tt)
    clear hh tt
    have hv : wTail 9 op x y n ls e.len (wl b) (wl e) (put [b1 op] s) = put (lebS n) (put [b1 op] s) := by rfl
    replace hv := Lib.hid hv
    go_wp2
    go_end0
    exact ⟨rfl, by unfold wi; rw [hf.out, hv.out]; exact WOut.trans t0'.out ⟨v2, h2.out, t2.out⟩⟩
  · subst hcs
    have hv : wTail 10 op x y n ls e.len (wl b) (wl e) (put [b1 op] s) = put [b1 op] s := rfl
    replace hv := Lib.hid hv
    go_wp2
    go_end0
    exact ⟨rfl, by unfold wi; rw [hf.out, hv.out]; exact WOut.trans t0'.out ⟨v1, h1.out, t1.out⟩⟩

set_option maxRecDepth 100000 in
set_option maxHeartbeats 4000000 in
theorem list_step (l : Il) (hs : Sub ListC l) : ListC l := by
  intro w0 N p w mv v s a c h hb hl hi ok hn
  obtain ⟨M, hM⟩ : ∃ M, l.len = M := ⟨_, rfl⟩
  rw [hM] at hl ⊢
  replace h := Lib.hid h
  replace hb := Lib.hid hb
  go_enter Tryd.func50, Tryd.ntmps50
  go_wp2_with fail
  go_loopw [8] (fun vi wr => ∃ (i : Nat) (r : Il) (v2 : Value) (s2 : WS), vi = .int .i64 i ∧ i + r.len = M ∧ Hid (IlIn w0 a i r) ∧ Hid (nOk r) ∧ Hid (Sub ListC r) ∧ Hid (WAt N p wr mv v2 s2) ∧ Hid (Tr p v v2 w wr) ∧ Hid (wl l s = wl r s2) ∧ Hid (s2.n + cl r ≤ 4611686018427387904)) (fun vi _ => M - (intOf vi).toNat)
  case atStart => exact ⟨0, l, v, s, rfl, by omega, Lib.hid hi, Lib.hid ok, Lib.hid hs, h, Lib.hid (Tr.refl _ _ _), Lib.hid rfl, Lib.hid hn⟩
  case round =>
    clear hi ok hs hn
    obtain ⟨i, r, v2, s2, rfl, hir, hi, ok, hs, h2, t2, hc, hn⟩ := hrel
    have hB := Lib.hid (hb.out.tr t2.out)
    cases r with
    | nil =>
      have hiN : i = M := by simpa [Il.len] using hir
      go_wp2
      go_end0
      exact ⟨rfl, by rw [hc.out]; exact ⟨v2, h2.out, t2.out⟩⟩
    | cons op x y n ls b e rest =>
      have hlen : i + (rest.len + 1) = M := hir
      have hlt : i < M := by omega
      obtain ⟨blk, o, a4, k4, a5, k5, a6, k6, rfl, hh, hrest⟩ := hi.out.head
      obtain ⟨c0, c1, c2, c3, c4, c5, c6, i4, l5, i5, l6, i6⟩ := hh
      replace hrest := Lib.hid hrest
      obtain ⟨okn, ok5, ok6, okr⟩ := ok.out
      have d0 : wr.cell? ⟨blk, o + i * 7, none⟩ = some (.int .i64 op) := hB.out.keeps _ _ c0
      have d1 : wr.cell? ⟨blk, o + i * 7 + 1, none⟩ = some (.int .i64 x) := hB.out.keeps _ _ c1
      have d2 : wr.cell? ⟨blk, o + i * 7 + 2, none⟩ = some (.int .i64 y) := hB.out.keeps _ _ c2
      have d3 : wr.cell? ⟨blk, o + i * 7 + 3, none⟩ = some (.int .i64 n) := hB.out.keeps _ _ c3
      have d4 : wr.cell? ⟨blk, o + i * 7 + 4, none⟩ = some (.slice a4 ls.length k4) := hB.out.keeps _ _ c4
      have d5 : wr.cell? ⟨blk, o + i * 7 + 5, none⟩ = some (.slice a5 b.len k5) := hB.out.keeps _ _ c5
      have d6 : wr.cell? ⟨blk, o + i * 7 + 6, none⟩ = some (.slice a6 e.len k6) := hB.out.keeps _ _ c6
      clear c0 c1 c2 c3 c4 c5 c6 hi hir ok
      replace i4 := Lib.hid i4
      replace i5 := Lib.hid i5
      replace i6 := Lib.hid i6
      replace l5 := Lib.hid l5
      replace l6 := Lib.hid l6
      replace okn := Lib.hid okn
      replace ok5 := Lib.hid ok5
      replace ok6 := Lib.hid ok6
      replace okr := Lib.hid okr
      have hbel := Lib.hid ((Below.refl wr.heap.size wr).alloc (Nat.le_refl _) (.cells #[.int .i64 op, .int .i64 x, .int .i64 y, .int .i64 n, .slice a4 ls.length k4, .slice a5 b.len k5, .slice a6 e.len k6] 53))
      obtain ⟨q, hq⟩ : ∃ q, wr.heap.size = q := ⟨_, rfl⟩
      obtain ⟨wA, hwA⟩ : ∃ wA, wA = wr.alloc (.cells #[.int .i64 op, .int .i64 x, .int .i64 y, .int .i64 n, .slice a4 ls.length k4, .slice a5 b.len k5, .slice a6 e.len k6] 53) := ⟨_, rfl⟩
      have hbx : Hid (Box wA q #[.int .i64 op, .int .i64 x, .int .i64 y, .int .i64 n, .slice a4 ls.length k4, .slice a5 b.len k5, .slice a6 e.len k6]) := Lib.hid (by rw [hwA, ← hq]; exact box_new wr _ _)
      rw [← hwA] at hbel
      have h3 := Lib.hid (h2.out.below hbel.out)
      have t3 := Lib.hid (t2.out.trans (Tr.of_below hbel.out))
      have hB3 := Lib.hid (hB.out.tr (Tr.of_below hbel.out))
      replace hwA := Lib.hid hwA
      go_wp2_with fail
      rw [← hwA.out]
      refine (full_any h3.out).mono ?_
      rintro e' w1 ⟨rfl, rfl⟩
      clear d0 d1 d2 d3 d4 d5 d6
      by_cases hfull : 1048576 < s2.n
      · have hd : decide (1048576 < s2.n) = true := decide_eq_true hfull
        have hv := Lib.hid (hc.out.trans (show wl (.cons op x y n ls b e rest) s2 = s2 by rw [wl, if_pos hfull]))
        rw [hd]
        go_wp2
        refine bodyPost_ret (results_none rfl _ _ _) rfl ?_
        exact ⟨rfl, by rw [hv.out]; exact ⟨v2, h3.out, t3.out⟩⟩
      · have hd : decide (1048576 < s2.n) = false := decide_eq_false hfull
        have hv := Lib.hid (hc.out.trans (show wl (.cons op x y n ls b e rest) s2 = wl rest (wi op x y n ls b e s2) by rw [wl, if_neg hfull]; rfl))
        rw [hd]
        have p0 : w1.cell? ⟨q, 0, none⟩ = some (.int .i64 op) := hbx.out 0 _ rfl
        have p1 : w1.cell? ⟨q, 1, none⟩ = some (.int .i64 x) := hbx.out 1 _ rfl
        have p2 : w1.cell? ⟨q, 2, none⟩ = some (.int .i64 y) := hbx.out 2 _ rfl
        have p3 : w1.cell? ⟨q, 3, none⟩ = some (.int .i64 n) := hbx.out 3 _ rfl
        have p4 : w1.cell? ⟨q, 4, none⟩ = some (.slice a4 ls.length k4) := hbx.out 4 _ rfl
        have p5 : w1.cell? ⟨q, 5, none⟩ = some (.slice a5 b.len k5) := hbx.out 5 _ rfl
        have p6 : w1.cell? ⟨q, 6, none⟩ = some (.slice a6 e.len k6) := hbx.out 6 _ rfl
        have hcl : s2.n + (40 + 10 * ls.length + cl b + cl e + cl rest) ≤ 4611686018427387904 := by have := hn.out; rw [cl] at this; omega
        replace hcl := Lib.hid hcl
        clear hn hc
        go_wp2_with fail
        refine (winstr_any op x y n ls b e okn.out ok5.out ok6.out hs.out.1 hs.out.2.1 w0 N p w1 mv v2 s2 a4 k4 a5 k5 a6 k6 h3.out hB3.out i4.out l5.out i5.out l6.out i6.out (by have := hcl.out; omega)).mono ?_
        rintro e' w5 ⟨rfl, v5, h5, t5⟩
        have hbd := Lib.hid (show (wi op x y n ls b e s2).n + cl rest ≤ 4611686018427387904 from by
          have := (wTail_n (formV op) op x y n okn.out ls e.len (wl b) (wl e) (cl b) (cl e) (wl_n b ok5.out) (wl_n e ok6.out) (put [b1 op] s2)).2
          rw [put_n] at this
          have h' := hcl.out
          simp only [List.length_cons, List.length_nil] at this
          unfold wi
          omega)
        replace h5 := Lib.hid h5
        have hfb := Lib.hid (t3.out.trans t5)
        have hsr := Lib.hid hs.out.2.2
        clear t5 p0 p1 p2 p3 p4 p5 p6 hcl hs
        go_wp2
        exact ⟨⟨i + 1, rest, v5, _, by simp, by omega, hrest, okr, hsr, h5, hfb, hv, hbd⟩, by simp [intOf]; omega⟩
theorem list_any (l : Il) : ListC l := Il.each list_step l
set_option maxRecDepth 100000 in
set_option maxHeartbeats 1000000 in
theorem expr_any (l : Il) (w0 : World) (N p : Nat) (w : World) (mv : List Value) (v : Value) (s : WS) (a : Option Addr) (c : Nat) (h : WAt N p w mv v s) (hb : Vw w0 p v w) (hl : l.len ≤ 9223372036854775807) (hi : IlIn w0 a 0 l) (ok : nOk l) (hn : s.n + cl l + 1 ≤ 4611686018427387904) :
    Calls Tryd.prog 36 #[.pointer (some ⟨p, 0, none⟩), .slice a l.len c] w fun e w' => e = .returned (.tuple #[]) ∧ WOut N p w mv v (put [b1 11] (wl l s)) w' := by
  have hr := (wl_n l ok s).2
  go_enter Tryd.func36, Tryd.ntmps36
  go_wp2_with fail
  refine (list_any l w0 N p w mv v s a c h hb hl hi ok (by omega)).mono ?_
  rintro e w1 ⟨rfl, v1, h1, t1⟩
  replace h1 := Lib.hid h1
  replace t1 := Lib.hid t1
  go_wp2_with fail
  refine (byte_any h1.out 11 (by omega)).mono ?_
  rintro e w2 ⟨rfl, ho⟩
  go_wp2
  go_end0
  exact ⟨rfl, WOut.trans t1.out ho⟩
end Go.Proofs.YtanpjbbhhofkfaaDoor
