/- Buffers of bytes that grow, and what is written with them. -/
import Derived.Test.YtkbfjkbokifgkaaGreatDoorRows
import Derived.WalkKit
import Derived.Below
import Derived.Lib.Hide
import Derived.Lib.AppendStr
import Derived.Laws.AppendOwn
import Derived.Laws.IdiomStrings
import Derived.OwnWalk
import Derived.Laws.Rows
import Derived.OneCell
import Derived.KernelRfl
import Derived.RegionTactic
import Derived.BigRegion
import Derived.Deep.Cut
import Derived.Deep.CutRange
import Derived.Deep.RegionHeld3
import Derived.Deep.AppendLies
import Derived.WalkLawsBesides
namespace Go.Proofs.YtkbfjkbokifgkaaGreatDoor
open Go.RowKit
set_option linter.unusedVariables false

def strl (s : ByteArray) : List UInt8 := s.data.toList
def mks (l : List UInt8) : ByteArray := ⟨l.toArray⟩
theorem strl_mks (l : List UInt8) : strl (mks l) = l := rfl
theorem mks_strl (s : ByteArray) : mks (strl s) = s := rfl
theorem mks_size (l : List UInt8) : (mks l).size = l.length := rfl
theorem strl_length (s : ByteArray) : (strl s).length = s.size := rfl
/-- Bytes as cells. -/
def cb (l : List UInt8) : List Value := l.map fun b => .int .u8 b.toNat
theorem cb_str (s : ByteArray) : Lib.strCells s = cb (strl s) := rfl
theorem cb_length (l : List UInt8) : (cb l).length = l.length := by simp [cb]
theorem cb_append (l t : List UInt8) : cb (l ++ t) = cb l ++ cb t := by simp [cb]

/-- append of a string onto a row of the call's own, and where the new one lies. -/
theorem run_append_str {P : Program} (w : World) (base : Nat) (t u ty e : TypeId) (i : TypeInfo) (ht : P.underlying t = some (.slice e)) (hu : P.underlying u = some .string) (hi : P.info? e = some i) (hz : i.zero = some (.int .u8 0))
    (hsize : i.size = 1) (hby : i.bytes = 1)
    (v : Value) (n : Nat) (xs : List Value) (hown : w.ownsRow base e 1 v n xs) (s : ByteArray)
    (h63 : n + s.size ≤ maxLen) (hbytes : n + s.size ≤ 140737488355328) (hbase : base ≤ w.heap.size) :
    ∃ v' w', (Builtin.append_ #[t, u] ty #[v, .string s]).run P w = .ok v' w' ∧ w'.ownsRow base e 1 v' (n + s.size) (xs ++ Lib.strCells s) ∧ w.grownBy w' v.ownBlock ∧
      (v'.ownBlock = v.ownBlock ∨ v'.ownBlock = some w.heap.size) := by
  obtain ⟨v', w', hr, h2, h3, h4⟩ := Lib.run_append_own_string (P := P) w base t u ty e i ht hu hi hz hsize hby v n xs hown s h63 hbytes hbase
  refine ⟨v', w', hr, h2, h3, ?_⟩
  have hsmall : n + s.size ≤ 9223372036854775807 := by simp only [maxLen] at h63; omega
  have hxl : xs.length = n := by simpa using hown.1
  rcases hown.2 with ⟨rfl, rfl⟩ | ⟨g, cap, cur, rfl, hbg, hg, hnc, hcm, hcs, htake⟩
  · by_cases hm : s.size = 0
    · left
      rw [h4.2 ⟨rfl, hm⟩]
    · have hr2 := run_append_nil_string (P := P) w t u ty e i (.int .u8 0) ht hu hi hz s (by omega) (by omega) (by rw [hby]; omega)
      rw [hr] at hr2
      have := congrArg (fun r => match r with | Result.ok v _ => v | _ => undef) hr2
      right
      simp only at this
      rw [this]
      rfl
  · by_cases hroom : n + s.size ≤ cap
    · have hcs' : cur.size = cap := by simpa using hcs
      have hr2 := Lib.run_append_room_string (P := P) w t u ty e i ht hu hi hsize g n cap cur hg s hroom (by omega)
      rw [hr] at hr2
      have := congrArg (fun r => match r with | Result.ok v _ => v | _ => undef) hr2
      left
      simp only at this
      rw [this]
      rfl
    · have holds : ∀ j u, xs[j]? = some u → w.cell? ((⟨g, 0, none⟩ : Addr).add j) = some u := hown.cells (g := g) rfl
      have hr2 := Lib.run_append_grow_string (P := P) w t u ty e i (.int .u8 0) ht hu hi hz ⟨g, 0, none⟩ n cap xs (by rw [hsize]; simpa using hxl) holds s (by omega) (by omega) (by rw [hby]; exact growslice_fits (by omega) (by omega))
      rw [hr] at hr2
      have := congrArg (fun r => match r with | Result.ok v _ => v | _ => undef) hr2
      right
      simp only at this
      rw [this]
      rfl
theorem wpList_append_str {P : Program} (w : World) {ops : Array Oper} {rest : List Oper} {o : Oper} {a : Act} {Q : Exit → Act → World → Prop} (hgd : o.guard = none) (sl x : Operand) (t u : TypeId)
    (ho : o.op = .call { callee := .builtin .append, args := #[sl, x], argTypes := #[t, u] })
    (base : Nat) (e : TypeId) (i : TypeInfo) (ht : P.underlying t = some (.slice e)) (hu : P.underlying u = some .string) (hi : P.info? e = some i) (hz : i.zero = some (.int .u8 0))
    (hsize : i.size = 1) (hby : i.bytes = 1)
    (v : Value) (n : Nat) (xs : List Value) (hs : a.eval sl = v) (hown : w.ownsRow base e 1 v n xs) (s : ByteArray) (hx : a.eval x = .string s)
    (h63 : n + s.size ≤ maxLen) (hbytes : n + s.size ≤ 140737488355328) (hbase : base ≤ w.heap.size)
    (h : ∀ v' w', w'.ownsRow base e 1 v' (n + s.size) (xs ++ Lib.strCells s) → w.grownBy w' v.ownBlock → (v'.ownBlock = v.ownBlock ∨ v'.ownBlock = some w.heap.size) → wpList P ops Q rest (a.put o.dst v') w') : wpList P ops Q (o :: rest) a w := by
  refine wpList_plain hgd fun K hK => ?_
  obtain ⟨v', w', hr, h2, h3, h4⟩ := run_append_str (P := P) w base t u o.type e i ht hu hi hz hsize hby v n xs hown s h63 hbytes hbase
  unfold Oper.wp execOp
  simp only [ho, resolve, invoke, builtin, Sem.run_bind, Sem.run_pure, Result.andThen_ok, List.map_toArray, List.map_cons, List.map_nil, hs, hx, hr]
  exact hK _ _ (h v' w' h2 h3 h4)

/-- What was written, and how much in all. -/
structure WS where
  l : List UInt8
  n : Int
def put (t : List UInt8) (s : WS) : WS := if s.n + t.length ≤ 1048576 then ⟨s.l ++ t, s.n + t.length⟩ else ⟨s.l, s.n + t.length⟩
def puts : List (List UInt8) → WS → WS
  | [], s => s
  | t :: r, s => puts r (put t s)
def tot : List (List UInt8) → Nat
  | [] => 0
  | t :: r => t.length + tot r
theorem put_n (t : List UInt8) (s : WS) : (put t s).n = s.n + t.length := by unfold put; split <;> rfl
theorem puts_n : ∀ (cs : List (List UInt8)) (s : WS), (puts cs s).n = s.n + tot cs
  | [], s => by simp [puts, tot]
  | t :: r, s => by
    rw [puts, puts_n r, put_n, tot]
    omega
theorem puts_append : ∀ (a b : List (List UInt8)) (s : WS), puts (a ++ b) s = puts b (puts a s)
  | [], b, s => rfl
  | t :: r, b, s => by rw [List.cons_append, puts, puts, puts_append r b]
theorem tot_append : ∀ (a b : List (List UInt8)), tot (a ++ b) = tot a + tot b
  | [], b => by simp [tot]
  | t :: r, b => by
    rw [List.cons_append, tot, tot, tot_append r b]
    omega

/-- From a block that may be written on (and a row that may), to another world, and another row. -/
structure Tr (p : Nat) (v v' : Value) (w w' : World) : Prop where
  os : w'.os = w.os
  tape : w'.tape = w.tape
  output : w'.output = w.output
  size : w.heap.size ≤ w'.heap.size
  block : ∀ k, k < w.heap.size → k ≠ p → v.ownBlock ≠ some k → w'.heap[k]? = w.heap[k]?
  own : v'.ownBlock = v.ownBlock ∨ ∀ g, v'.ownBlock = some g → w.heap.size ≤ g
theorem Tr.refl (p : Nat) (v : Value) (w : World) : Tr p v v w w := ⟨rfl, rfl, rfl, Nat.le_refl _, fun _ _ _ _ => rfl, .inl rfl⟩
theorem Tr.trans {p : Nat} {v v' v'' : Value} {a b c : World} (h : Tr p v v' a b) (k : Tr p v' v'' b c) : Tr p v v'' a c := by
  refine ⟨k.os.trans h.os, k.tape.trans h.tape, k.output.trans h.output, Nat.le_trans h.size k.size, fun i hi hp hv => ?_, ?_⟩
  · rw [k.block i (Nat.lt_of_lt_of_le hi h.size) hp ?_]
    · exact h.block i hi hp hv
    · rcases h.own with e | e
      · rw [e]; exact hv
      · intro e2
        have := e i e2
        omega
  · rcases k.own with e | e
    · rcases h.own with e2 | e2
      · exact .inl (e.trans e2)
      · exact .inr fun g hg => e2 g (e ▸ hg)
    · exact .inr fun g hg => Nat.le_trans h.size (e g hg)
theorem Tr.below {p N : Nat} {v v' : Value} {w w' : World} (h : Tr p v v' w w') (hp : N ≤ p) (hv : ∀ g, v.ownBlock = some g → N ≤ g) (hN : N ≤ w.heap.size) : Below N w w' :=
  ⟨h.os, h.tape, h.output, h.size, fun k hk => h.block k (by omega) (by omega) (fun e => by have := hv k e; omega)⟩
theorem Tr.drew {p : Nat} {v v' : Value} {a b : World} (h : Tr p v v' a b) : Tr p v v' a b.drew := ⟨h.os, h.tape, h.output, h.size, h.block, h.own⟩
theorem Tr.alloc {p : Nat} {v v' : Value} {a b : World} (h : Tr p v v' a b) (o : Obj) : Tr p v v' a (b.alloc o) :=
  ⟨h.os, h.tape, h.output, by have := h.size; simp; omega, fun k hk hp hv => (Below.heap_alloc _ _ _ (by have := h.size; omega)).trans (h.block k hk hp hv), h.own⟩
/-- What only makes memory goes from one writing to another. -/
theorem Tr.of_below {p : Nat} {v : Value} {w w' : World} (h : Below w.heap.size w w') : Tr p v v w w' :=
  ⟨h.os, h.tape, h.output, h.size, fun k hk _ _ => h.block k hk, .inl rfl⟩
end Go.Proofs.YtkbfjkbokifgkaaGreatDoor

namespace Go.Proofs.YtkbfjkbokifgkaaGreatDoor
open Go.RowKit
set_option linter.unusedVariables false

/-- The writer at block p: its module's ten values, its bytes, how many were written in all. Its row of bytes lies from block N on. -/
structure WAt (N p : Nat) (w : World) (mv : List Value) (v : Value) (s : WS) : Prop where
  mvl : mv.length = 10
  blk : w.heap[p]? = some (.cells (mv ++ [v, .int .i64 s.n]).toArray 111 (0, 0))
  own : w.ownsRow N 5 1 v s.l.length (cb s.l)
  ne : v.ownBlock ≠ some p
  hN : N ≤ p
  hw : N ≤ w.heap.size
  len : (s.l.length : Int) ≤ s.n
  cap : s.l.length ≤ 1048576
theorem WAt.lt {N p : Nat} {w : World} {mv : List Value} {v : Value} {s : WS} (h : WAt N p w mv v s) : p < w.heap.size := lt_of_block h.blk
theorem WAt.cell {N p : Nat} {w : World} {mv : List Value} {v : Value} {s : WS} (h : WAt N p w mv v s) (j : Nat) : w.cell? ⟨p, j, none⟩ = (mv ++ [v, .int .i64 s.n])[j]? := by
  rw [cell_of_row w p j _ _ _ h.blk]
  simp
theorem WAt.c10 {N p : Nat} {w : World} {mv : List Value} {v : Value} {s : WS} (h : WAt N p w mv v s) : w.cell? ⟨p, 10, none⟩ = some v := by
  rw [h.cell, List.getElem?_append_right (by rw [h.mvl]; omega), h.mvl]
  rfl
theorem WAt.c11 {N p : Nat} {w : World} {mv : List Value} {v : Value} {s : WS} (h : WAt N p w mv v s) : w.cell? ⟨p, 11, none⟩ = some (.int .i64 s.n) := by
  rw [h.cell, List.getElem?_append_right (by rw [h.mvl]; omega), h.mvl]
  rfl
theorem WAt.cm {N p : Nat} {w : World} {mv : List Value} {v : Value} {s : WS} (h : WAt N p w mv v s) {j : Nat} {u : Value} (hj : mv[j]? = some u) : w.cell? ⟨p, j, none⟩ = some u := by
  have hlt : j < mv.length := (List.getElem?_eq_some_iff.1 hj).1
  rw [h.cell, List.getElem?_append_left hlt, hj]
theorem WAt.free {N p : Nat} {w : World} {mv : List Value} {v : Value} {s : WS} (h : WAt N p w mv v s) (j : Nat) : w.frozen? ⟨p, j, none⟩ = false := frozen_of_row w p j _ _ h.blk
theorem WAt.ownN {N p : Nat} {w : World} {mv : List Value} {v : Value} {s : WS} (h : WAt N p w mv v s) : ∀ g, v.ownBlock = some g → N ≤ g := fun g e => (h.own.lt g e).1
theorem WAt.low {N p : Nat} {w : World} {mv : List Value} {v : Value} {s : WS} (h : WAt N p w mv v s) : 0 ≤ s.n := by have := h.len; omega
/-- Where only memory was made, the writer is as it was. -/
theorem WAt.below {N p : Nat} {w w' : World} {mv : List Value} {v : Value} {s : WS} (h : WAt N p w mv v s) (hb : Below w.heap.size w w') : WAt N p w' mv v s := by
  refine ⟨h.mvl, (hb.block p h.lt).trans h.blk, ?_, h.ne, h.hN, Nat.le_trans h.hw hb.size, h.len, h.cap⟩
  refine ⟨h.own.1, ?_⟩
  rcases h.own.2 with e | ⟨g, cap, cur, e, hg, hh, r⟩
  · exact .inl e
  · exact .inr ⟨g, cap, cur, e, hg, (hb.block g (lt_of_block hh)).trans hh, r⟩
theorem WAt.drew {N p : Nat} {w : World} {mv : List Value} {v : Value} {s : WS} (h : WAt N p w mv v s) : WAt N p w.drew mv v s := h.below (Below.refl _ _).drew
/-- The count is turned. -/
theorem WAt.count {N p : Nat} {w : World} {mv : List Value} {v : Value} {s : WS} (h : WAt N p w mv v s) (n : Int) (hn : (s.l.length : Int) ≤ n) : WAt N p (w.setCell ⟨p, 11, none⟩ (.int .i64 n)) mv v ⟨s.l, n⟩ := by
  refine ⟨h.mvl, ?_, ownsRow_setCell_other h.own h.ne _, h.ne, h.hN, by simpa using h.hw, hn, h.cap⟩
  rw [heap_setCell_same w p 11 _ _ _ h.blk]
  congr 2
  apply Array.ext'
  simp only [Array.toList_setIfInBounds]
  rw [List.set_append_right _ _ (by rw [h.mvl]; omega), h.mvl]
  rfl
/-- The bytes are turned. -/
theorem WAt.turn {N p : Nat} {w : World} {mv : List Value} {v v' : Value} {s : WS} {l : List UInt8} (h : WAt N p w mv v s) {w' : World} (hp : w'.heap[p]? = w.heap[p]?) (ho : w'.ownsRow N 5 1 v' l.length (cb l)) (hne : v'.ownBlock ≠ some p) (hw : w.heap.size ≤ w'.heap.size) (hl : (l.length : Int) ≤ s.n) (hc : l.length ≤ 1048576) :
    WAt N p (w'.setCell ⟨p, 10, none⟩ v') mv v' ⟨l, s.n⟩ := by
  refine ⟨h.mvl, ?_, ownsRow_setCell_other ho hne _, hne, h.hN, by have := h.hw; simp; omega, hl, hc⟩
  rw [heap_setCell_same w' p 10 _ _ _ (hp.trans h.blk)]
  congr 2
  apply Array.ext'
  simp only [Array.toList_setIfInBounds]
  rw [List.set_append_right _ _ (by rw [h.mvl]; omega), h.mvl]
  rfl
theorem Tr.set {p : Nat} {v v' : Value} {w w' : World} (h : Tr p v v' w w') (j : Nat) (u : Value) : Tr p v v' w (w'.setCell ⟨p, j, none⟩ u) :=
  ⟨h.os, h.tape, h.output, by have := h.size; simpa [World.setCell] using this, fun k hk hp hv => (Below.heap_setCell _ _ _ _ hp).trans (h.block k hk hp hv), h.own⟩
/-- Behind an append. -/
theorem Tr.grown {p : Nat} {v v' : Value} {w w' : World} (hg : w.grownBy w' v.ownBlock) (ho : v'.ownBlock = v.ownBlock ∨ v'.ownBlock = some w.heap.size) : Tr p v v' w w' :=
  ⟨hg.os, hg.tape, hg.output, hg.size, fun k hk _ hv => hg.block k hk (fun e => hv e.symm), by
    rcases ho with e | e
    · exact .inl e
    · exact .inr fun g hg => by rw [e] at hg; cases hg; exact Nat.le_refl _⟩
/-- The writer, told from what its text has. -/
def WOut (N p : Nat) (w : World) (mv : List Value) (v : Value) (s' : WS) (w' : World) : Prop := ∃ v', WAt N p w' mv v' s' ∧ Tr p v v' w w'
theorem WOut.trans {N p : Nat} {a b c : World} {mv : List Value} {v v' : Value} {s' : WS} (k : Tr p v v' a b) (h : WOut N p b mv v' s' c) : WOut N p a mv v s' c := by
  obtain ⟨v'', h1, h2⟩ := h
  exact ⟨v'', h1, k.trans h2⟩
end Go.Proofs.YtkbfjkbokifgkaaGreatDoor

namespace Go.Proofs.YtkbfjkbokifgkaaGreatDoor
open Go.RowKit
set_option linter.unusedVariables false

theorem info5 : (Tryz.prog.info? 5).map (fun i => (i.zero, i.size, i.bytes)) = some (some (.int .u8 0), 1, 1) := by kernel_rfl
theorem info5_parts : ∃ i, Tryz.prog.info? 5 = some i ∧ i.zero = some (.int .u8 0) ∧ i.size = 1 ∧ i.bytes = 1 := by
  have h := info5
  cases hi : Tryz.prog.info? 5 with
  | none => rw [hi] at h; cases h
  | some i =>
    rw [hi] at h
    simp only [Option.map_some, Option.some.injEq, Prod.mk.injEq] at h
    exact ⟨i, rfl, h.1, h.2.1, h.2.2⟩

theorem own_slice {w : World} {base : Nat} {e : TypeId} {size : Nat} {v : Value} {n : Nat} {xs : List Value} (h : w.ownsRow base e size v n xs) : ∃ a c, v = .slice a n c := by
  rcases h.2 with ⟨rfl, rfl⟩ | ⟨g, cap, cur, rfl, _⟩
  · exact ⟨_, _, rfl⟩
  · exact ⟨_, _, rfl⟩
theorem full_any {N p : Nat} {w : World} {mv : List Value} {v : Value} {s : WS} (h : WAt N p w mv v s) :
    Calls Tryz.prog 57 #[.pointer (some ⟨p, 0, none⟩)] w fun e w' => e = .returned (.bool (decide (1048576 < s.n))) ∧ w' = w := by
  have c := h.c11
  go_enter Tryz.func57, Tryz.ntmps57
  go_wp2
  go_ret
  exact ⟨rfl, rfl⟩

theorem text_done {N p : Nat} {w w2 w3 : World} {mv : List Value} {v v' : Value} {l : List UInt8} {n : Int} {t : ByteArray} (h1 : WAt N p w2 mv v ⟨l, n⟩) (ht : Tr p v v w w2)
    (hown : w3.ownsRow N 5 1 v' (l.length + t.size) (cb l ++ Lib.strCells t)) (hgrow : w2.grownBy w3 v.ownBlock) (hlies : v'.ownBlock = v.ownBlock ∨ v'.ownBlock = some w2.heap.size) (hlen : (l.length : Int) + t.size ≤ n) (hn : n ≤ 1048576) :
    WOut N p w mv v ⟨l ++ strl t, n⟩ (w3.setCell ⟨p, 10, none⟩ v') := by
  have ho : w3.ownsRow N 5 1 v' (l ++ strl t).length (cb (l ++ strl t)) := by
    rw [List.length_append, cb_append, strl_length]
    exact hown
  have hne : v'.ownBlock ≠ some p := by
    have := h1.lt
    rcases hlies with e | e
    · rw [e]; exact h1.ne
    · rw [e]; intro e2; cases e2; omega
  exact ⟨v', h1.turn (hgrow.block p h1.lt (fun e => h1.ne e.symm)) ho hne hgrow.size (by rw [List.length_append, strl_length]; simp only; omega) (by rw [List.length_append, strl_length]; omega), ht.trans ((Tr.grown hgrow hlies).set 10 v')⟩
set_option maxRecDepth 100000 in
set_option maxHeartbeats 1000000 in
theorem text_any {N p : Nat} {w : World} {mv : List Value} {v : Value} {s : WS} (h : WAt N p w mv v s) (t : ByteArray) (hb : s.n + t.size ≤ 4611686018427387904) :
    Calls Tryz.prog 43 #[.pointer (some ⟨p, 0, none⟩), .string t] w fun e w' => e = .returned (.tuple #[]) ∧ WOut N p w mv v (put (strl t) s) w' := by
  have c := h.c11
  have fr := h.free 11
  have low := h.low
  have len0 := h.len
  have h1 := Lib.hid (h.count (s.n + t.size) (by omega))
  have ht1 := Lib.hid ((Tr.refl p v w).set 11 (.int .i64 (s.n + t.size)))
  replace h := Lib.hid h
  obtain ⟨i5, hi5, hz5, hs5, hby5⟩ := info5_parts
  obtain ⟨w1, hw1⟩ : ∃ w1, w1 = w.setCell ⟨p, 11, none⟩ (.int .i64 (s.n + t.size)) := ⟨_, rfl⟩
  go_enter Tryz.func43, Tryz.ntmps43
  go_wp2_with fail
  rw [← hw1] at h1 ht1 ⊢
  clear hw1
  refine (full_any h1.out).mono ?_
  rintro e w2 ⟨rfl, rfl⟩
  simp only
  by_cases hf : s.n + t.size ≤ 1048576
  · have hd : decide (1048576 < s.n + t.size) = false := decide_eq_false (by omega)
    have c10 := h1.out.c10
    have hlen := h1.out.cap
    have hsz : (s.l ++ strl t).length ≤ 1048576 → True := fun _ => trivial
    rw [hd]
    go_wp2_with (first | (
      at_builtin
      refine wpList_append_str _ rfl _ _ _ _ rfl N 5 i5 Tryz.underlying54 Tryz.underlying9 hi5 hz5 hs5 hby5 v s.l.length (cb s.l) (by rfl) h1.out.own t (by rfl) (by unfold maxLen; simp only at hlen; omega) (by simp only at hlen; omega) h1.out.hw ?_
      intro v' w3 hown hgrow hlies
      obtain ⟨a', q', hv'⟩ := own_slice hown
      subst hv'
      have k10 : w3.cell? ⟨p, 10, none⟩ = some v := (hgrow.cell_far ⟨p, 10, none⟩ h1.out.lt (fun e => h1.out.ne e.symm)).trans c10
      have fr10 : w3.frozen? ⟨p, 10, none⟩ = false := (hgrow.frozen_far ⟨p, 10, none⟩ h1.out.lt (fun e => h1.out.ne e.symm)).trans (h1.out.free 10)))
    go_end0
    have hv : put (strl t) s = ⟨s.l ++ strl t, s.n + t.size⟩ := by unfold put; rw [if_pos (by rw [strl_length]; exact hf), strl_length]
    exact ⟨rfl, by rw [hv]; exact text_done h1.out ht1.out hown hgrow hlies (by omega) hf⟩
  · have hd : decide (1048576 < s.n + t.size) = true := decide_eq_true (by omega)
    rw [hd]
    go_wp2
    go_end0
    have hv : put (strl t) s = ⟨s.l, s.n + t.size⟩ := by unfold put; rw [if_neg (by rw [strl_length]; omega), strl_length]
    exact ⟨rfl, by rw [hv]; exact ⟨v, h1.out, ht1.out⟩⟩
end Go.Proofs.YtkbfjkbokifgkaaGreatDoor
