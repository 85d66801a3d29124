/- Buffers of bytes that grow, and what is written with them. -/
import Derived.Test.YtkbfjkbokifgkaaGreatDoorRows
import Derived.WalkKit
import Derived.Below
import Derived.Lib.Hide
import Derived.Lib.AppendStr
import Derived.Laws.AppendOwn
import Derived.Laws.IdiomStrings
import Derived.OwnWalk
import Derived.Laws.Rows
import Derived.OneCell
import Derived.KernelRfl
import Derived.RegionTactic
import Derived.BigRegion
import Derived.Deep.Cut
import Derived.Deep.CutRange
import Derived.Deep.RegionHeld3
import Derived.Deep.AppendLies
import Derived.WalkLawsBesides
import Derived.Laws.BitsAllLaws
import Derived.StillTailTactics
namespace Go.Proofs.YtkbfjkbokifgkaaGreatDoor
open Go.RowKit
set_option linter.unusedVariables false
set_option linter.unusedSimpArgs false
def strl (s : ByteArray) : List UInt8 := s.data.toList
def mks (l : List UInt8) : ByteArray := ⟨l.toArray⟩
theorem strl_mks (l : List UInt8) : strl (mks l) = l := rfl
theorem mks_strl (s : ByteArray) : mks (strl s) = s := rfl
theorem mks_size (l : List UInt8) : (mks l).size = l.length := rfl
theorem strl_length (s : ByteArray) : (strl s).length = s.size := rfl
def cb (l : List UInt8) : List Value := l.map fun b => .int .u8 b.toNat
theorem cb_append (l t : List UInt8) : cb (l ++ t) = cb l ++ cb t := by simp [cb]
theorem run_append_str {P : Program} (w : World) (base : Nat) (t u ty e : TypeId) (i : TypeInfo) (ht : P.underlying t = some (.slice e)) (hu : P.underlying u = some .string) (hi : P.info? e = some i) (hz : i.zero = some (.int .u8 0))
 (hsize : i.size = 1) (hby : i.bytes = 1)
 (v : Value) (n : Nat) (xs : List Value) (hown : w.ownsRow base e 1 v n xs) (s : ByteArray)
 (h63 : n + s.size ≤ maxLen) (hbytes : n + s.size ≤ 140737488355328) (hbase : base ≤ w.heap.size) :
 ∃ v' w', (Builtin.append_ #[t, u] ty #[v, .string s]).run P w = .ok v' w' ∧ w'.ownsRow base e 1 v' (n + s.size) (xs ++ Lib.strCells s) ∧ w.grownBy w' v.ownBlock ∧
  (v'.ownBlock = v.ownBlock ∨ v'.ownBlock = some w.heap.size) := by
 obtain ⟨v', w', hr, h2, h3, h4⟩ := Lib.run_append_own_string (P := P) w base t u ty e i ht hu hi hz hsize hby v n xs hown s h63 hbytes hbase; refine ⟨v', w', hr, h2, h3, ?_⟩; have hsmall : n + s.size ≤ 9223372036854775807 := (by simp only [maxLen] at h63; omega)
 have hxl : xs.length = n := (by simpa using hown.1)
 rcases hown.2 with ⟨rfl, rfl⟩ | ⟨g, cap, cur, rfl, hbg, hg, hnc, hcm, hcs, htake⟩
 · by_cases hm : s.size = 0
   · left; rw [h4.2 ⟨rfl, hm⟩]
   · have hr2 := run_append_nil_string (P := P) w t u ty e i (.int .u8 0) ht hu hi hz s (by omega) (by omega) (by rw [hby]; omega); rw [hr] at hr2; have := congrArg (fun r => match r with | Result.ok v _ => v | _ => undef) hr2; right; simp only at this; rw [this]; rfl
 · by_cases hroom : n + s.size ≤ cap
   · have hcs' : cur.size = cap := (by simpa using hcs)
     have hr2 := Lib.run_append_room_string (P := P) w t u ty e i ht hu hi hsize g n cap cur hg s hroom (by omega); rw [hr] at hr2; have := congrArg (fun r => match r with | Result.ok v _ => v | _ => undef) hr2; left; simp only at this; rw [this]; rfl
   · have holds : ∀ j u, xs[j]? = some u → w.cell? ((⟨g, 0, none⟩ : Addr).add j) = some u := hown.cells (g := g) rfl; have hr2 := Lib.run_append_grow_string (P := P) w t u ty e i (.int .u8 0) ht hu hi hz ⟨g, 0, none⟩ n cap xs (by rw [hsize]; simpa using hxl) holds s (by omega) (by omega) (by rw [hby]; exact growslice_fits (by omega) (by omega)); rw [hr] at hr2; have := congrArg (fun r => match r with | Result.ok v _ => v | _ => undef) hr2; right; simp only at this; rw [this]; rfl
theorem wpList_append_str {P : Program} (w : World) {ops : Array Oper} {rest : List Oper} {o : Oper} {a : Act} {Q : Exit → Act → World → Prop} (hgd : o.guard = none) (sl x : Operand) (t u : TypeId)
 (ho : o.op = .call { callee := .builtin .append, args := #[sl, x], argTypes := #[t, u] })
 (base : Nat) (e : TypeId) (i : TypeInfo) (ht : P.underlying t = some (.slice e)) (hu : P.underlying u = some .string) (hi : P.info? e = some i) (hz : i.zero = some (.int .u8 0))
 (hsize : i.size = 1) (hby : i.bytes = 1)
 (v : Value) (n : Nat) (xs : List Value) (hs : a.eval sl = v) (hown : w.ownsRow base e 1 v n xs) (s : ByteArray) (hx : a.eval x = .string s)
 (h63 : n + s.size ≤ maxLen) (hbytes : n + s.size ≤ 140737488355328) (hbase : base ≤ w.heap.size)
 (h : ∀ v' w', w'.ownsRow base e 1 v' (n + s.size) (xs ++ Lib.strCells s) → w.grownBy w' v.ownBlock → (v'.ownBlock = v.ownBlock ∨ v'.ownBlock = some w.heap.size) → wpList P ops Q rest (a.put o.dst v') w') : wpList P ops Q (o :: rest) a w := by
 refine wpList_plain hgd fun K hK => ?_; obtain ⟨v', w', hr, h2, h3, h4⟩ := run_append_str (P := P) w base t u o.type e i ht hu hi hz hsize hby v n xs hown s h63 hbytes hbase; unfold Oper.wp execOp; simp only [ho, resolve, invoke, builtin, Sem.run_bind, Sem.run_pure, Result.andThen_ok, List.map_toArray, List.map_cons, List.map_nil, hs, hx, hr]; exact hK _ _ (h v' w' h2 h3 h4)
structure WS where
 l : List UInt8
 n : Int
def put (t : List UInt8) (s : WS) : WS := if s.n + t.length ≤ 1048576 then ⟨s.l ++ t, s.n + t.length⟩ else ⟨s.l, s.n + t.length⟩
def puts : List (List UInt8) → WS → WS
 | [], s => s
 | t :: r, s => puts r (put t s)
structure Tr (p : Nat) (v v' : Value) (w w' : World) : Prop where
 os : w'.os = w.os
 tape : w'.tape = w.tape
 output : w'.output = w.output
 size : w.heap.size ≤ w'.heap.size
 block : ∀ k, k < w.heap.size → k ≠ p → v.ownBlock ≠ some k → w'.heap[k]? = w.heap[k]?
 own : v'.ownBlock = v.ownBlock ∨ ∀ g, v'.ownBlock = some g → w.heap.size ≤ g
theorem Tr.refl (p : Nat) (v : Value) (w : World) : Tr p v v w w := ⟨rfl, rfl, rfl, Nat.le_refl _, fun _ _ _ _ => rfl, .inl rfl⟩
theorem Tr.trans {p : Nat} {v v' v'' : Value} {a b c : World} (h : Tr p v v' a b) (k : Tr p v' v'' b c) : Tr p v v'' a c := by
 refine ⟨k.os.trans h.os, k.tape.trans h.tape, k.output.trans h.output, Nat.le_trans h.size k.size, fun i hi hp hv => ?_, ?_⟩
 · rw [k.block i (Nat.lt_of_lt_of_le hi h.size) hp ?_]
   · exact h.block i hi hp hv
   · rcases h.own with e | e
     · rw [e]; exact hv
     · intro e2; have := e i e2; omega
 · rcases k.own with e | e
   · rcases h.own with e2 | e2
     · exact .inl (e.trans e2)
     · exact .inr fun g hg => e2 g (e ▸ hg)
   · exact .inr fun g hg => Nat.le_trans h.size (e g hg)
theorem Tr.below {p N : Nat} {v v' : Value} {w w' : World} (h : Tr p v v' w w') (hp : N ≤ p) (hv : ∀ g, v.ownBlock = some g → N ≤ g) (hN : N ≤ w.heap.size) : Below N w w' :=
 ⟨h.os, h.tape, h.output, h.size, fun k hk => h.block k (by omega) (by omega) (fun e => by have := hv k e; omega)⟩
theorem Tr.of_below {p : Nat} {v : Value} {w w' : World} (h : Below w.heap.size w w') : Tr p v v w w' :=
 ⟨h.os, h.tape, h.output, h.size, fun k hk _ _ => h.block k hk, .inl rfl⟩
theorem Tr.set {p : Nat} {v v' : Value} {w w' : World} (h : Tr p v v' w w') (j : Nat) (u : Value) : Tr p v v' w (w'.setCell ⟨p, j, none⟩ u) :=
 ⟨h.os, h.tape, h.output, by have := h.size; simpa [World.setCell] using this, fun k hk hp hv => (Below.heap_setCell _ _ _ _ hp).trans (h.block k hk hp hv), h.own⟩
theorem Tr.grown {p : Nat} {v v' : Value} {w w' : World} (hg : w.grownBy w' v.ownBlock) (ho : v'.ownBlock = v.ownBlock ∨ v'.ownBlock = some w.heap.size) : Tr p v v' w w' :=
 ⟨hg.os, hg.tape, hg.output, hg.size, fun k hk _ hv => hg.block k hk (fun e => hv e.symm), by
  rcases ho with e | e
  · exact .inl e
  · exact .inr fun g hg => by rw [e] at hg; cases hg; exact Nat.le_refl _⟩
theorem info5 : (Tryz.prog.info? 5).map (fun i => (i.zero, i.size, i.bytes)) = some (some (.int .u8 0), 1, 1) := by kernel_rfl
theorem info5_parts : ∃ i, Tryz.prog.info? 5 = some i ∧ i.zero = some (.int .u8 0) ∧ i.size = 1 ∧ i.bytes = 1 := by
 have h := info5; cases hi : Tryz.prog.info? 5 with
 | none => rw [hi] at h; cases h
 | some i => rw [hi] at h; simp only [Option.map_some, Option.some.injEq, Prod.mk.injEq] at h; exact ⟨i, rfl, h.1, h.2.1, h.2.2⟩
theorem own_slice {w : World} {base : Nat} {e : TypeId} {size : Nat} {v : Value} {n : Nat} {xs : List Value} (h : w.ownsRow base e size v n xs) : ∃ a c, v = .slice a n c := by
 rcases h.2 with ⟨rfl, rfl⟩ | ⟨g, cap, cur, rfl, _⟩
 · exact ⟨_, _, rfl⟩
 · exact ⟨_, _, rfl⟩
end Go.Proofs.YtkbfjkbokifgkaaGreatDoor
namespace Go.Proofs.YtkbfjkbokifgkaaGreatDoor
open Go.RowKit
set_option linter.unusedVariables false
set_option linter.unusedSimpArgs false
structure GrpAt (w : World) (g : Nat) (s : ByteArray) (a : Int) (n many last most : Int) : Prop where
 b0 : w.heap[g]? = some (.cells #[.string s] 9 (0, 0))
 b1 : w.heap[g + 1]? = some (.cells #[.int .i64 a] 3 (0, 0))
 b2 : w.heap[g + 2]? = some (.cells #[.int .u64 n] 49 (0, 0))
 b3 : w.heap[g + 3]? = some (.cells #[.int .i64 many] 3 (0, 0))
 b4 : w.heap[g + 4]? = some (.cells #[.int .u8 last] 5 (0, 0))
 b5 : w.heap[g + 5]? = some (.cells #[.int .i64 most] 3 (0, 0))
theorem cell0 {w : World} {g : Nat} {v : Value} {t : TypeId} (h : w.heap[g]? = some (.cells #[v] t (0, 0))) : w.cell? ⟨g, 0, none⟩ = some v := by rw [cell_of_row w g 0 _ _ _ h]; rfl
theorem free0 {w : World} {g : Nat} {v : Value} {t : TypeId} (h : w.heap[g]? = some (.cells #[v] t (0, 0))) : w.frozen? ⟨g, 0, none⟩ = false := frozen_of_row w g 0 _ _ h
theorem set0 {w : World} {g : Nat} {v u : Value} {t : TypeId} (h : w.heap[g]? = some (.cells #[v] t (0, 0))) : (w.setCell ⟨g, 0, none⟩ u).heap[g]? = some (.cells #[u] t (0, 0)) := by rw [heap_setCell_same w g 0 _ _ _ h]; rfl
theorem far0 {w : World} {g k : Nat} {u : Value} (hk : k ≠ g) : (w.setCell ⟨g, 0, none⟩ u).heap[k]? = w.heap[k]? := Below.heap_setCell _ _ _ _ hk
structure GTr (g : Nat) (w w' : World) : Prop where
 os : w'.os = w.os
 tape : w'.tape = w.tape
 output : w'.output = w.output
 size : w.heap.size ≤ w'.heap.size
 block : ∀ k, k < w.heap.size → k < g ∨ g + 5 < k → w'.heap[k]? = w.heap[k]?
theorem GTr.refl (g : Nat) (w : World) : GTr g w w := ⟨rfl, rfl, rfl, Nat.le_refl _, fun _ _ _ => rfl⟩
theorem GTr.trans {g : Nat} {a b c : World} (h : GTr g a b) (k : GTr g b c) : GTr g a c :=
 ⟨k.os.trans h.os, k.tape.trans h.tape, k.output.trans h.output, Nat.le_trans h.size k.size, fun i hi hg => (k.block i (Nat.lt_of_lt_of_le hi h.size) hg).trans (h.block i hi hg)⟩
theorem GTr.drew {g : Nat} {a b : World} (h : GTr g a b) : GTr g a b.drew := ⟨h.os, h.tape, h.output, h.size, h.block⟩
theorem GTr.set {g : Nat} {a b : World} (h : GTr g a b) {j : Nat} (h1 : g ≤ j) (h2 : j ≤ g + 5) (u : Value) : GTr g a (b.setCell ⟨j, 0, none⟩ u) :=
 ⟨h.os, h.tape, h.output, by have := h.size; simpa [World.setCell] using this, fun k hk hg => (Below.heap_setCell _ _ _ _ (show k ≠ j by omega)).trans (h.block k hk hg)⟩
theorem wid64 (n : Int) (h0 : 0 ≤ n) (h1 : n < 9223372036854775808) : IntKind.i64.wrap n = n := by simp [IntKind.wrap, IntKind.bits, IntKind.signed]; omega
set_option maxRecDepth 100000 in
theorem next_end {w : World} {g : Nat} {s : ByteArray} {a n many last most : Int} (h : GrpAt w g s a n many last most) (hs : s.size ≤ 262144) (he : (s.size : Int) ≤ a ∨ many = most) :
 Calls Tryz.prog 196 #[.pointer (some ⟨g + 1, 0, none⟩), .pointer (some ⟨g, 0, none⟩), .pointer (some ⟨g + 3, 0, none⟩), .pointer (some ⟨g + 5, 0, none⟩), .pointer (some ⟨g + 4, 0, none⟩), .pointer (some ⟨g + 2, 0, none⟩)] w fun e w' => e = .returned (.bool false) ∧ w = w' := by
 have c0 := cell0 h.b0; have c1 := cell0 h.b1; have c3 := cell0 h.b3; have c5 := cell0 h.b5
 by_cases h1 : (s.size : Int) ≤ a
 · go_enter Tryz.func196, Tryz.ntmps196; go_wp2; go_ret; exact ⟨rfl, rfl⟩
 · have h2 : many = most := he.resolve_left h1; subst h2; go_enter Tryz.func196, Tryz.ntmps196; go_wp2; go_ret; exact ⟨rfl, rfl⟩
set_option maxRecDepth 100000 in
theorem next_more {w : World} {g : Nat} {s : ByteArray} {k : Nat} {n many last most : Int} (h : GrpAt w g s (k : Int) n many last most) (hs : s.size ≤ 262144) (hk : k < s.size) (hm : ¬ many = most) (hm0 : 0 ≤ many) (hm1 : many ≤ 9)
 {q m7 n2 : Int} (hA : bits BinOp.and .u8 (s[k].toNat : Int) 127 = q) (hB : IntKind.u64.wrap q = q) (hC : IntKind.i64.wrap (7 * many) = m7) (h70 : 0 ≤ m7) (h71 : m7 ≤ 64) (hD : bits BinOp.or .u64 n (IntKind.u64.wrap (q * 2 ^ m7.toNat)) = n2) :
 Calls Tryz.prog 196 #[.pointer (some ⟨g + 1, 0, none⟩), .pointer (some ⟨g, 0, none⟩), .pointer (some ⟨g + 3, 0, none⟩), .pointer (some ⟨g + 5, 0, none⟩), .pointer (some ⟨g + 4, 0, none⟩), .pointer (some ⟨g + 2, 0, none⟩)] w fun e w' =>
  e = .returned (.bool true) ∧ GrpAt w' g s (k + 1 : Int) n2 (many + 1) (s[k].toNat : Int) most ∧ GTr g w w' := by
 have c0 := cell0 h.b0; have c1 := cell0 h.b1; have c3 := cell0 h.b3; have c4 := cell0 h.b4; have c5 := cell0 h.b5; have f4 := free0 h.b4; have hmm : (many == most) = false := (by simp [hm])
 go_enter Tryz.func196, Tryz.ntmps196; go_wp2_with fail; obtain ⟨w4, hw4⟩ : ∃ w4, w4 = w.setCell ⟨g + 4, 0, none⟩ (.int .u8 (s[k].toNat : Int)) := ⟨_, rfl⟩
 rw [← hw4]
 have h4 : GrpAt w4 g s k n many (s[k].toNat : Int) most := by rw [hw4]; exact ⟨(far0 (by omega)).trans h.b0, (far0 (by omega)).trans h.b1, (far0 (by omega)).trans h.b2, (far0 (by omega)).trans h.b3, set0 h.b4, (far0 (by omega)).trans h.b5⟩
 have t4 : GTr g w w4 := by rw [hw4]; exact (GTr.refl g w).set (by omega) (by omega) _
 clear c0 c1 c3 c4 c5 f4 hw4 hmm hm; have c2 := cell0 h4.b2; have c3 := cell0 h4.b3; have c4 := cell0 h4.b4; refine wp_region_still_tail 8 (by kernel_rfl) (by kernel_rfl) ?_; simp only [List.take_succ_cons, List.take_zero, List.drop_succ_cons, List.drop_zero]
 repeat still_step
 refine wpStill_nil ?_; change wpList _ _ _ _ _ w4.drew; clear c2 c3 c4 hA hB hC hD; have h5 : GrpAt w4.drew g s k n many (s[k].toNat : Int) most := ⟨h4.b0, h4.b1, h4.b2, h4.b3, h4.b4, h4.b5⟩
 have t5 : GTr g w w4.drew := t4.drew; obtain ⟨w5, hw5⟩ : ∃ w5, w5 = w4.drew := ⟨_, rfl⟩
 rw [← hw5] at h5 t5 ⊢; clear hw5 h4 t4; have f2 := free0 h5.b2; have f1 := free0 h5.b1; have f3 := free0 h5.b3; have c1 := cell0 h5.b1; have c3 := cell0 h5.b3; have c2 := cell0 h5.b2; have hk1 : IntKind.i64.wrap ((k : Int) + 1) = (k : Int) + 1 := wid64 _ (by omega) (by omega); have hm2 : IntKind.i64.wrap (many + 1) = many + 1 := wid64 _ (by omega) (by omega); go_wp2; go_ret; refine ⟨rfl, ?_, ((t5.set (by omega) (by omega) _).set (by omega) (by omega) _).set (by omega) (by omega) _⟩; exact ⟨(far0 (by omega)).trans ((far0 (by omega)).trans ((far0 (by omega)).trans h5.b0)), (far0 (by omega)).trans (set0 ((far0 (by omega)).trans h5.b1)), (far0 (by omega)).trans ((far0 (by omega)).trans (set0 h5.b2)), set0 ((far0 (by omega)).trans ((far0 (by omega)).trans h5.b3)), (far0 (by omega)).trans ((far0 (by omega)).trans ((far0 (by omega)).trans h5.b4)), (far0 (by omega)).trans ((far0 (by omega)).trans ((far0 (by omega)).trans h5.b5))⟩
end Go.Proofs.YtkbfjkbokifgkaaGreatDoor
