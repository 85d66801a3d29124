/- A round of the reference's Copy: a function. -/
import Derived.Test.YtanpjbbhhofkfaaDoorCj
namespace Go.Proofs.YtanpjbbhhofkfaaDoor
open Go.RowKit
set_option linter.unusedVariables false
set_option linter.unusedSimpArgs false

/-- A function's number, locals and body. -/
structure funCT where
  n : Int
  l : List Int
  la : Option Addr
  lc : Nat
  b : Il
  ba : Option Addr
  bc : Nat
def funC : Rec funCT where
  enc t := [.int .i64 t.n, .slice t.la t.l.length t.lc, .slice t.ba t.b.len t.bc]
  ok R w t := IntsR R w t.la t.l ∧ SlR R w t.ba t.b
  keep R S w w' t f h := ⟨h.1.keep f, h.2.keep f⟩
theorem funC_one (t : funCT) : ∀ u ∈ funC.enc t, u.oneCell' = true := by
  intro u hu
  simp only [funC, List.mem_cons, List.mem_nil_iff, or_false] at hu
  rcases hu with rfl | rfl | rfl <;> rfl
def ops9 : Array Oper := #[{ dst := some 67, op := Op.fieldAddr 32 (Operand.tmp 3) 2, type := 0, pos := "ref.go:378", after := #[], guard := none }, { dst := some 68, op := Op.load 24 (Operand.tmp 67), type := 24, pos := "ref.go:378", after := #[{ on := 0, ground := Ground.data }], guard := none }, { dst := some 69, op := Op.fieldAddr 32 (Operand.tmp 1) 2, type := 0, pos := "ref.go:378", after := #[], guard := none }, { dst := some 70, op := Op.load 24 (Operand.tmp 69), type := 24, pos := "ref.go:378", after := #[{ on := 2, ground := Ground.data }], guard := none }, { dst := some 71, op := Op.move (Operand.tmp 5), type := 3, pos := "ref.go:378", after := #[], guard := none }, { dst := some 72, op := Op.indexAddr 24 (Operand.tmp 70) (Operand.tmp 71), type := 0, pos := "ref.go:378", after := #[{ on := 3, ground := Ground.data }, { on := 4, ground := Ground.data }], guard := none }, { dst := some 73, op := Op.fieldAddr 42 (Operand.tmp 72) 0, type := 0, pos := "ref.go:378", after := #[{ on := 5, ground := Ground.data }], guard := none }, { dst := some 74, op := Op.load 3 (Operand.tmp 73), type := 3, pos := "ref.go:378", after := #[{ on := 6, ground := Ground.data }], guard := none }, { dst := some 75, op := Op.buildSlice 28 0 #[], type := 28, pos := "ref.go:378", after := #[], guard := none }, { dst := some 76, op := Op.fieldAddr 32 (Operand.tmp 1) 2, type := 0, pos := "ref.go:378", after := #[], guard := none }, { dst := some 77, op := Op.load 24 (Operand.tmp 76), type := 24, pos := "ref.go:378", after := #[{ on := 9, ground := Ground.data }], guard := none }, { dst := some 78, op := Op.move (Operand.tmp 5), type := 3, pos := "ref.go:378", after := #[], guard := none }, { dst := some 79, op := Op.indexAddr 24 (Operand.tmp 77) (Operand.tmp 78), type := 0, pos := "ref.go:378", after := #[{ on := 10, ground := Ground.data }, { on := 11, ground := Ground.data }], guard := none }, { dst := some 80, op := Op.fieldAddr 42 (Operand.tmp 79) 1, type := 0, pos := "ref.go:378", after := #[{ on := 12, ground := Ground.data }], guard := none }, { dst := some 81, op := Op.load 28 (Operand.tmp 80), type := 28, pos := "ref.go:378", after := #[{ on := 13, ground := Ground.data }], guard := none }, { dst := some 82, op := Op.call { callee := Callee.builtin Builtin.append, args := #[Operand.tmp 75, Operand.tmp 81], argTypes := #[28, 28] }, type := 28, pos := "ref.go:378", after := #[{ on := 8, ground := Ground.data }, { on := 14, ground := Ground.data }], guard := none }, { dst := some 83, op := Op.fieldAddr 32 (Operand.tmp 1) 2, type := 0, pos := "ref.go:378", after := #[], guard := none }, { dst := some 84, op := Op.load 24 (Operand.tmp 83), type := 24, pos := "ref.go:378", after := #[{ on := 16, ground := Ground.data }], guard := none }, { dst := some 85, op := Op.move (Operand.tmp 5), type := 3, pos := "ref.go:378", after := #[], guard := none }, { dst := some 86, op := Op.indexAddr 24 (Operand.tmp 84) (Operand.tmp 85), type := 0, pos := "ref.go:378", after := #[{ on := 17, ground := Ground.data }, { on := 18, ground := Ground.data }], guard := none }, { dst := some 87, op := Op.fieldAddr 42 (Operand.tmp 86) 2, type := 0, pos := "ref.go:378", after := #[{ on := 19, ground := Ground.data }], guard := none }, { dst := some 88, op := Op.load 40 (Operand.tmp 87), type := 40, pos := "ref.go:378", after := #[{ on := 20, ground := Ground.data }], guard := none }, { dst := some 89, op := Op.call { callee := Callee.value (Operand.func 31), args := #[Operand.tmp 88], argTypes := #[40] }, type := 40, pos := "ref.go:378", after := #[{ on := 21, ground := Ground.data }, { on := 15, ground := Ground.chain }], guard := none }, { dst := some 90, op := Op.build 42 #[(0, Operand.tmp 74), (1, Operand.tmp 82), (2, Operand.tmp 89)], type := 42, pos := "ref.go:378", after := #[{ on := 7, ground := Ground.data }, { on := 15, ground := Ground.data }, { on := 22, ground := Ground.data }], guard := none }, { dst := some 91, op := Op.buildSlice 24 1 #[(0, Operand.tmp 90)], type := 24, pos := "ref.go:378", after := #[{ on := 23, ground := Ground.data }], guard := none }, { dst := some 92, op := Op.call { callee := Callee.builtin Builtin.append, args := #[Operand.tmp 68, Operand.tmp 91], argTypes := #[24, 24] }, type := 24, pos := "ref.go:378", after := #[{ on := 1, ground := Ground.data }, { on := 24, ground := Ground.data }, { on := 22, ground := Ground.chain }], guard := none }, { dst := some 93, op := Op.fieldAddr 32 (Operand.tmp 3) 2, type := 0, pos := "ref.go:378", after := #[{ on := 0, ground := Ground.phase }, { on := 1, ground := Ground.phase }, { on := 2, ground := Ground.phase }, { on := 3, ground := Ground.phase }, { on := 4, ground := Ground.phase }, { on := 5, ground := Ground.phase }, { on := 6, ground := Ground.phase }, { on := 7, ground := Ground.phase }, { on := 8, ground := Ground.phase }, { on := 9, ground := Ground.phase }, { on := 10, ground := Ground.phase }, { on := 11, ground := Ground.phase }, { on := 12, ground := Ground.phase }, { on := 13, ground := Ground.phase }, { on := 14, ground := Ground.phase }, { on := 15, ground := Ground.phase }, { on := 16, ground := Ground.phase }, { on := 17, ground := Ground.phase }, { on := 18, ground := Ground.phase }, { on := 19, ground := Ground.phase }, { on := 20, ground := Ground.phase }, { on := 21, ground := Ground.phase }, { on := 22, ground := Ground.phase }, { on := 23, ground := Ground.phase }, { on := 24, ground := Ground.phase }, { on := 25, ground := Ground.phase }], guard := none }, { dst := none, op := Op.store 24 (Operand.tmp 93) (Operand.tmp 92), type := 0, pos := "ref.go:378", after := #[{ on := 26, ground := Ground.data }, { on := 25, ground := Ground.data }, { on := 25, ground := Ground.chain }, { on := 0, ground := Ground.phase }, { on := 1, ground := Ground.phase }, { on := 2, ground := Ground.phase }, { on := 3, ground := Ground.phase }, { on := 4, ground := Ground.phase }, { on := 5, ground := Ground.phase }, { on := 6, ground := Ground.phase }, { on := 7, ground := Ground.phase }, { on := 8, ground := Ground.phase }, { on := 9, ground := Ground.phase }, { on := 10, ground := Ground.phase }, { on := 11, ground := Ground.phase }, { on := 12, ground := Ground.phase }, { on := 13, ground := Ground.phase }, { on := 14, ground := Ground.phase }, { on := 15, ground := Ground.phase }, { on := 16, ground := Ground.phase }, { on := 17, ground := Ground.phase }, { on := 18, ground := Ground.phase }, { on := 19, ground := Ground.phase }, { on := 20, ground := Ground.phase }, { on := 21, ground := Ground.phase }, { on := 22, ground := Ground.phase }, { on := 23, ground := Ground.phase }, { on := 24, ground := Ground.phase }, { on := 25, ground := Ground.phase }], guard := none }]
def D9 (j : Nat) : Nat := 67 + j
theorem D9_in : ∀ j, j < 27 → 67 ≤ D9 j ∧ D9 j ≤ 93 := by
  intro j hj
  unfold D9
  omega
theorem D9_inj {j q : Nat} (h : D9 q = D9 j) : q = j := by
  unfold D9 at h
  omega
theorem low9 : ∀ i, i < ops9.size → ((ops9[i]?).map fun o => o.after.all fun e => decide (e.on < i)) = some true := by
  have h : ∀ i : Fin 28, ((ops9[i.val]?).map fun o => o.after.all fun e => decide (e.on < i.val)) = some true := by decide +kernel
  exact fun i hi => h ⟨i, hi⟩
theorem last9 : ∀ j, j < 27 → ((ops9[27]?).map fun o => o.after.any fun e => decide (e.on = j) && Region.binds .any e) = some true := by
  have h : ∀ j : Fin 27, ((ops9[27]?).map fun o => o.after.any fun e => decide (e.on = j.val) && Region.binds .any e) = some true := by decide +kernel
  exact fun i hi => h ⟨i, hi⟩
def R9 (L : Nat) (M H b o N k0 i : Nat) (v0 : Value) (fn : Int) (ls : List Int) (la : Option Addr) (lc : Nat) (body : Il) (ba : Option Addr) (bc : Nat) : Nat → MR L
  | 0 => mEq L (.pointer (some ⟨M, 2, none⟩))
  | 1 => mEq L (v0)
  | 2 => mEq L (.pointer (some ⟨H, 2, none⟩))
  | 3 => mEq L (.slice (some ⟨b, o, none⟩) N k0)
  | 4 => mEq L (.int .i64 (i : Int))
  | 5 => mEq L (.pointer (some ⟨b, o + i * 3, none⟩))
  | 6 => mEq L (.pointer (some ⟨b, o + i * 3, none⟩))
  | 7 => mEq L (.int .i64 fn)
  | 8 => mNew L
  | 9 => mEq L (.pointer (some ⟨H, 2, none⟩))
  | 10 => mEq L (.slice (some ⟨b, o, none⟩) N k0)
  | 11 => mEq L (.int .i64 (i : Int))
  | 12 => mEq L (.pointer (some ⟨b, o + i * 3, none⟩))
  | 13 => mEq L (.pointer (some ⟨b, o + i * 3 + 1, none⟩))
  | 14 => mEq L (.slice la ls.length lc)
  | 15 => mInts L (ls)
  | 16 => mEq L (.pointer (some ⟨H, 2, none⟩))
  | 17 => mEq L (.slice (some ⟨b, o, none⟩) N k0)
  | 18 => mEq L (.int .i64 (i : Int))
  | 19 => mEq L (.pointer (some ⟨b, o + i * 3, none⟩))
  | 20 => mEq L (.pointer (some ⟨b, o + i * 3 + 2, none⟩))
  | 21 => mEq L (.slice ba body.len bc)
  | 22 => mIl L body
  | 23 => mRec L funC (fun t => (t.n, t.l, t.b) = (fn, ls, body))
  | 24 => mRow L funC (fun t => (t.n, t.l, t.b) = (fn, ls, body))
  | 25 => mEq L undef
  | 26 => mEq L (.pointer (some ⟨M, 2, none⟩))
  | _ => mEq L undef
set_option maxRecDepth 100000 in
set_option maxHeartbeats 4000000 in
theorem reg9 {Q : Exit → Act → World → Prop} {f0 : Nat → Value} {w1 V : World} (S : St) {B M : Nat} {vs : Array Value} {v0 : Value} {i : Nat} {ts : List funCT} {H b o N k0 : Nat} {fn : Int} {ls : List Int} {la : Option Addr} {lc : Nat} {body : Il} {ba : Option Addr} {bc : Nat}
    (hmix : Tryd.prog.follows .mixedOrders = true) (hB : w1.heap.size = B) (hBM : B ≤ M) (arg : Below B w1 V) (box : NBox M V vs) (hvs : vs[2]? = some v0) (own : OwnS funC S 42 3 B M V v0 i ts)
    (f1 : f0 1 = .pointer (some ⟨H, 0, none⟩)) (f3 : f0 3 = .pointer (some ⟨M, 0, none⟩)) (fi : f0 5 = .int .i64 (i : Int))
    (c0 : w1.cell? ⟨H, 2, none⟩ = some (.slice (some ⟨b, o, none⟩) N k0)) (hiN : i < N) (hN : N ≤ 5000)
    (cn : w1.cell? ⟨b, o + i * 3, none⟩ = some (.int .i64 fn)) (cl : w1.cell? ⟨b, o + i * 3 + 1, none⟩ = some (.slice la ls.length lc)) (il : IntsIn w1 la ls) (cb : w1.cell? ⟨b, o + i * 3 + 2, none⟩ = some (.slice ba body.len bc)) (ib : IlIn w1 ba 0 body) (hls : ls.length ≤ 200000) (hbl : body.len ≤ 1600) (hbs : Sml body)
    (fin : ∀ f w g cap t, (fun t => (t.n, t.l, t.b) = (fn, ls, body)) t → Below B w1 w → NBox M w (vs.setIfInBounds 2 (.slice (some ⟨g, 0, none⟩) (i + 1) cap)) → OwnS funC S 42 3 B M w (.slice (some ⟨g, 0, none⟩) (i + 1) cap) (i + 1) (ts ++ [t]) → Q .normal (Fn 180 (over f0 f 67 93)) w) :
    (Code.region 9 ops9 true).wp Tryd.prog Q (Fn 180 f0) V := by
  have hBL : B ≤ V.heap.size := by rw [← hB]; exact arg.size
  have hML : M < V.heap.size := box.hi
  have hoL : ∀ q, v0.ownBlock = some q → q < V.heap.size := fun q e => (own.own.lt q e).2
  refine region_inv hmix 180 27 rfl (fun listed f w => JJ funC S 42 3 B M V.heap.size w1 vs v0 i ts (fun t => (t.n, t.l, t.b) = (fn, ls, body)) (R9 V.heap.size M H b o N k0 i v0 fn ls la lc body ba bc) D9 67 93 25 27 f0 listed f w)
    (fun f w => (∀ t, ¬ (67 ≤ t ∧ t ≤ 93) → f t = f0 t) ∧ ∃ g cap t, (fun t => (t.n, t.l, t.b) = (fn, ls, body)) t ∧ Below B w1 w ∧ NBox M w (vs.setIfInBounds 2 (.slice (some ⟨g, 0, none⟩) (i + 1) cap)) ∧ OwnS funC S 42 3 B M w (.slice (some ⟨g, 0, none⟩) (i + 1) cap) (i + 1) (ts ++ [t])) low9 last9 ?_ ?_ ?_ ?_
  · refine ⟨fun _ _ => rfl, arg.drew, Nat.le_refl _, box.below (Below.refl _ _).drew, fun _ => own.below (Below.refl _ _).drew, fun j hj hjk hl => ?_, fun hl => ?_⟩
    all_goals
      rw [Array.getD_eq_getD_getElem?, Array.getElem?_replicate] at hl
      split at hl <;> cases hl
  · intro i' o hi ho listed f w hsz hl hall hJ
    have f1 : f 1 = _ := (hJ.others 1 (by decide)).trans f1
    have f3 : f 3 = _ := (hJ.others 3 (by decide)).trans f3
    have fi : f 5 = _ := (hJ.others 5 (by decide)).trans fi
    have kw := hJ.keeps hB
    have g1 := (fn_get (n := 180) (f := f) (t := 1) (by decide)).trans f1
    have g3 := (fn_get (n := 180) (f := f) (t := 3) (by decide)).trans f3
    have gi := (fn_get (n := 180) (f := f) (t := 5) (by decide)).trans fi
    match i', ho with
    | 0, ho =>
      obtain rfl : o = { dst := some 67, op := Op.fieldAddr 32 (Operand.tmp 3) 2, type := 0, pos := "ref.go:378", after := #[], guard := none } := Option.some.inj (ho.symm.trans rfl)
      refine wpOp_step (o := { dst := some 67, op := Op.fieldAddr 32 (Operand.tmp 3) 2, type := 0, pos := "ref.go:378", after := #[], guard := none }) rfl ?_
      intro K' hK'
      rw [if_pos (by rfl)]
      go_simp
      (try simp only [g3])
      (try go_simp)
      exact hK' _ _ ⟨_, fn_set _ _, hJ.next hBL 0 (by decide) (by decide) (D9_in 0 (by decide)) (fun q _ h => D9_inj h) (by decide) (Below.refl _ _) (rfl)⟩
    | 1, ho =>
      obtain rfl : o = { dst := some 68, op := Op.load 24 (Operand.tmp 67), type := 24, pos := "ref.go:378", after := #[{ on := 0, ground := Ground.data }], guard := none } := Option.some.inj (ho.symm.trans rfl)
      refine wpOp_step (o := { dst := some 68, op := Op.load 24 (Operand.tmp 67), type := 24, pos := "ref.go:378", after := #[{ on := 0, ground := Ground.data }], guard := none }) rfl ?_
      intro K' hK'
      have l0 : listed.getD 0 false = true := hall ⟨0, .data⟩ (by simp) rfl
      have e0 : f 67 = .pointer (some ⟨M, 2, none⟩) := hJ.r 0 (by decide) (by decide) l0
      have g0 := (fn_get (n := 180) (f := f) (t := 67) (by decide)).trans e0
      have hc := hJ.box.cells 2 _ hvs
      rw [if_pos (by rfl)]
      go_simp
      (try simp only [g0])
      (try go_simp)
      exact hK' _ _ ⟨_, fn_set _ _, hJ.next hBL 1 (by decide) (by decide) (D9_in 1 (by decide)) (fun q _ h => D9_inj h) (by decide) (Below.refl _ _) (rfl)⟩
    | 2, ho =>
      obtain rfl : o = { dst := some 69, op := Op.fieldAddr 32 (Operand.tmp 1) 2, type := 0, pos := "ref.go:378", after := #[], guard := none } := Option.some.inj (ho.symm.trans rfl)
      refine wpOp_step (o := { dst := some 69, op := Op.fieldAddr 32 (Operand.tmp 1) 2, type := 0, pos := "ref.go:378", after := #[], guard := none }) rfl ?_
      intro K' hK'
      rw [if_pos (by rfl)]
      go_simp
      (try simp only [g1])
      (try go_simp)
      exact hK' _ _ ⟨_, fn_set _ _, hJ.next hBL 2 (by decide) (by decide) (D9_in 2 (by decide)) (fun q _ h => D9_inj h) (by decide) (Below.refl _ _) (rfl)⟩
    | 3, ho =>
      obtain rfl : o = { dst := some 70, op := Op.load 24 (Operand.tmp 69), type := 24, pos := "ref.go:378", after := #[{ on := 2, ground := Ground.data }], guard := none } := Option.some.inj (ho.symm.trans rfl)
      refine wpOp_step (o := { dst := some 70, op := Op.load 24 (Operand.tmp 69), type := 24, pos := "ref.go:378", after := #[{ on := 2, ground := Ground.data }], guard := none }) rfl ?_
      intro K' hK'
      have l2 : listed.getD 2 false = true := hall ⟨2, .data⟩ (by simp) rfl
      have e2 : f 69 = .pointer (some ⟨H, 2, none⟩) := hJ.r 2 (by decide) (by decide) l2
      have g2 := (fn_get (n := 180) (f := f) (t := 69) (by decide)).trans e2
      have hc := kw _ _ c0
      rw [if_pos (by rfl)]
      go_simp
      (try simp only [g2])
      (try go_simp)
      exact hK' _ _ ⟨_, fn_set _ _, hJ.next hBL 3 (by decide) (by decide) (D9_in 3 (by decide)) (fun q _ h => D9_inj h) (by decide) (Below.refl _ _) (rfl)⟩
    | 4, ho =>
      obtain rfl : o = { dst := some 71, op := Op.move (Operand.tmp 5), type := 3, pos := "ref.go:378", after := #[], guard := none } := Option.some.inj (ho.symm.trans rfl)
      refine wpOp_step (o := { dst := some 71, op := Op.move (Operand.tmp 5), type := 3, pos := "ref.go:378", after := #[], guard := none }) rfl ?_
      intro K' hK'
      rw [if_pos (by rfl)]
      go_simp
      (try simp only [gi])
      (try go_simp)
      exact hK' _ _ ⟨_, fn_set _ _, hJ.next hBL 4 (by decide) (by decide) (D9_in 4 (by decide)) (fun q _ h => D9_inj h) (by decide) (Below.refl _ _) (rfl)⟩
    | 5, ho =>
      obtain rfl : o = { dst := some 72, op := Op.indexAddr 24 (Operand.tmp 70) (Operand.tmp 71), type := 0, pos := "ref.go:378", after := #[{ on := 3, ground := Ground.data }, { on := 4, ground := Ground.data }], guard := none } := Option.some.inj (ho.symm.trans rfl)
      refine wpOp_step (o := { dst := some 72, op := Op.indexAddr 24 (Operand.tmp 70) (Operand.tmp 71), type := 0, pos := "ref.go:378", after := #[{ on := 3, ground := Ground.data }, { on := 4, ground := Ground.data }], guard := none }) rfl ?_
      intro K' hK'
      have l3 : listed.getD 3 false = true := hall ⟨3, .data⟩ (by simp) rfl
      have e3 : f 70 = .slice (some ⟨b, o, none⟩) N k0 := hJ.r 3 (by decide) (by decide) l3
      have l4 : listed.getD 4 false = true := hall ⟨4, .data⟩ (by simp) rfl
      have e4 : f 71 = .int .i64 (i : Int) := hJ.r 4 (by decide) (by decide) l4
      have g3 := (fn_get (n := 180) (f := f) (t := 70) (by decide)).trans e3
      have g4 := (fn_get (n := 180) (f := f) (t := 71) (by decide)).trans e4
      rw [if_pos (by rfl)]
      go_simp
      (try simp only [g3, g4])
      (try go_simp)
      exact hK' _ _ ⟨_, fn_set _ _, hJ.next hBL 5 (by decide) (by decide) (D9_in 5 (by decide)) (fun q _ h => D9_inj h) (by decide) (Below.refl _ _) (rfl)⟩
    | 6, ho =>
      obtain rfl : o = { dst := some 73, op := Op.fieldAddr 42 (Operand.tmp 72) 0, type := 0, pos := "ref.go:378", after := #[{ on := 5, ground := Ground.data }], guard := none } := Option.some.inj (ho.symm.trans rfl)
      refine wpOp_step (o := { dst := some 73, op := Op.fieldAddr 42 (Operand.tmp 72) 0, type := 0, pos := "ref.go:378", after := #[{ on := 5, ground := Ground.data }], guard := none }) rfl ?_
      intro K' hK'
      have l5 : listed.getD 5 false = true := hall ⟨5, .data⟩ (by simp) rfl
      have e5 : f 72 = .pointer (some ⟨b, o + i * 3, none⟩) := hJ.r 5 (by decide) (by decide) l5
      have g5 := (fn_get (n := 180) (f := f) (t := 72) (by decide)).trans e5
      rw [if_pos (by rfl)]
      go_simp
      (try simp only [g5])
      (try go_simp)
      exact hK' _ _ ⟨_, fn_set _ _, hJ.next hBL 6 (by decide) (by decide) (D9_in 6 (by decide)) (fun q _ h => D9_inj h) (by decide) (Below.refl _ _) (rfl)⟩
    | 7, ho =>
      obtain rfl : o = { dst := some 74, op := Op.load 3 (Operand.tmp 73), type := 3, pos := "ref.go:378", after := #[{ on := 6, ground := Ground.data }], guard := none } := Option.some.inj (ho.symm.trans rfl)
      refine wpOp_step (o := { dst := some 74, op := Op.load 3 (Operand.tmp 73), type := 3, pos := "ref.go:378", after := #[{ on := 6, ground := Ground.data }], guard := none }) rfl ?_
      intro K' hK'
      have l6 : listed.getD 6 false = true := hall ⟨6, .data⟩ (by simp) rfl
      have e6 : f 73 = .pointer (some ⟨b, o + i * 3, none⟩) := hJ.r 6 (by decide) (by decide) l6
      have g6 := (fn_get (n := 180) (f := f) (t := 73) (by decide)).trans e6
      have hc := kw _ _ cn
      rw [if_pos (by rfl)]
      go_simp
      (try simp only [g6])
      (try go_simp)
      exact hK' _ _ ⟨_, fn_set _ _, hJ.next hBL 7 (by decide) (by decide) (D9_in 7 (by decide)) (fun q _ h => D9_inj h) (by decide) (Below.refl _ _) (rfl)⟩
    | 8, ho =>
      obtain rfl : o = { dst := some 75, op := Op.buildSlice 28 0 #[], type := 28, pos := "ref.go:378", after := #[], guard := none } := Option.some.inj (ho.symm.trans rfl)
      refine wpOp_step (o := { dst := some 75, op := Op.buildSlice 28 0 #[], type := 28, pos := "ref.go:378", after := #[], guard := none }) rfl ?_
      intro K' hK'
      rw [if_pos (by rfl)]
      go_simp
      exact hK' _ _ ⟨_, fn_set _ _, hJ.next hBL 8 (by decide) (by decide) (D9_in 8 (by decide)) (fun q _ h => D9_inj h) (by decide) ((Below.refl _ _).alloc (Nat.le_refl _) _) (⟨_, rfl, hJ.lsz⟩)⟩
    | 9, ho =>
      obtain rfl : o = { dst := some 76, op := Op.fieldAddr 32 (Operand.tmp 1) 2, type := 0, pos := "ref.go:378", after := #[], guard := none } := Option.some.inj (ho.symm.trans rfl)
      refine wpOp_step (o := { dst := some 76, op := Op.fieldAddr 32 (Operand.tmp 1) 2, type := 0, pos := "ref.go:378", after := #[], guard := none }) rfl ?_
      intro K' hK'
      rw [if_pos (by rfl)]
      go_simp
      (try simp only [g1])
      (try go_simp)
      exact hK' _ _ ⟨_, fn_set _ _, hJ.next hBL 9 (by decide) (by decide) (D9_in 9 (by decide)) (fun q _ h => D9_inj h) (by decide) (Below.refl _ _) (rfl)⟩
    | 10, ho =>
      obtain rfl : o = { dst := some 77, op := Op.load 24 (Operand.tmp 76), type := 24, pos := "ref.go:378", after := #[{ on := 9, ground := Ground.data }], guard := none } := Option.some.inj (ho.symm.trans rfl)
      refine wpOp_step (o := { dst := some 77, op := Op.load 24 (Operand.tmp 76), type := 24, pos := "ref.go:378", after := #[{ on := 9, ground := Ground.data }], guard := none }) rfl ?_
      intro K' hK'
      have l9 : listed.getD 9 false = true := hall ⟨9, .data⟩ (by simp) rfl
      have e9 : f 76 = .pointer (some ⟨H, 2, none⟩) := hJ.r 9 (by decide) (by decide) l9
      have g9 := (fn_get (n := 180) (f := f) (t := 76) (by decide)).trans e9
      have hc := kw _ _ c0
      rw [if_pos (by rfl)]
      go_simp
      (try simp only [g9])
      (try go_simp)
      exact hK' _ _ ⟨_, fn_set _ _, hJ.next hBL 10 (by decide) (by decide) (D9_in 10 (by decide)) (fun q _ h => D9_inj h) (by decide) (Below.refl _ _) (rfl)⟩
    | 11, ho =>
      obtain rfl : o = { dst := some 78, op := Op.move (Operand.tmp 5), type := 3, pos := "ref.go:378", after := #[], guard := none } := Option.some.inj (ho.symm.trans rfl)
      refine wpOp_step (o := { dst := some 78, op := Op.move (Operand.tmp 5), type := 3, pos := "ref.go:378", after := #[], guard := none }) rfl ?_
      intro K' hK'
      rw [if_pos (by rfl)]
      go_simp
      (try simp only [gi])
      (try go_simp)
      exact hK' _ _ ⟨_, fn_set _ _, hJ.next hBL 11 (by decide) (by decide) (D9_in 11 (by decide)) (fun q _ h => D9_inj h) (by decide) (Below.refl _ _) (rfl)⟩
    | 12, ho =>
      obtain rfl : o = { dst := some 79, op := Op.indexAddr 24 (Operand.tmp 77) (Operand.tmp 78), type := 0, pos := "ref.go:378", after := #[{ on := 10, ground := Ground.data }, { on := 11, ground := Ground.data }], guard := none } := Option.some.inj (ho.symm.trans rfl)
      refine wpOp_step (o := { dst := some 79, op := Op.indexAddr 24 (Operand.tmp 77) (Operand.tmp 78), type := 0, pos := "ref.go:378", after := #[{ on := 10, ground := Ground.data }, { on := 11, ground := Ground.data }], guard := none }) rfl ?_
      intro K' hK'
      have l10 : listed.getD 10 false = true := hall ⟨10, .data⟩ (by simp) rfl
      have e10 : f 77 = .slice (some ⟨b, o, none⟩) N k0 := hJ.r 10 (by decide) (by decide) l10
      have l11 : listed.getD 11 false = true := hall ⟨11, .data⟩ (by simp) rfl
      have e11 : f 78 = .int .i64 (i : Int) := hJ.r 11 (by decide) (by decide) l11
      have g10 := (fn_get (n := 180) (f := f) (t := 77) (by decide)).trans e10
      have g11 := (fn_get (n := 180) (f := f) (t := 78) (by decide)).trans e11
      rw [if_pos (by rfl)]
      go_simp
      (try simp only [g10, g11])
      (try go_simp)
      exact hK' _ _ ⟨_, fn_set _ _, hJ.next hBL 12 (by decide) (by decide) (D9_in 12 (by decide)) (fun q _ h => D9_inj h) (by decide) (Below.refl _ _) (rfl)⟩
    | 13, ho =>
      obtain rfl : o = { dst := some 80, op := Op.fieldAddr 42 (Operand.tmp 79) 1, type := 0, pos := "ref.go:378", after := #[{ on := 12, ground := Ground.data }], guard := none } := Option.some.inj (ho.symm.trans rfl)
      refine wpOp_step (o := { dst := some 80, op := Op.fieldAddr 42 (Operand.tmp 79) 1, type := 0, pos := "ref.go:378", after := #[{ on := 12, ground := Ground.data }], guard := none }) rfl ?_
      intro K' hK'
      have l12 : listed.getD 12 false = true := hall ⟨12, .data⟩ (by simp) rfl
      have e12 : f 79 = .pointer (some ⟨b, o + i * 3, none⟩) := hJ.r 12 (by decide) (by decide) l12
      have g12 := (fn_get (n := 180) (f := f) (t := 79) (by decide)).trans e12
      rw [if_pos (by rfl)]
      go_simp
      (try simp only [g12])
      (try go_simp)
      exact hK' _ _ ⟨_, fn_set _ _, hJ.next hBL 13 (by decide) (by decide) (D9_in 13 (by decide)) (fun q _ h => D9_inj h) (by decide) (Below.refl _ _) (rfl)⟩
    | 14, ho =>
      obtain rfl : o = { dst := some 81, op := Op.load 28 (Operand.tmp 80), type := 28, pos := "ref.go:378", after := #[{ on := 13, ground := Ground.data }], guard := none } := Option.some.inj (ho.symm.trans rfl)
      refine wpOp_step (o := { dst := some 81, op := Op.load 28 (Operand.tmp 80), type := 28, pos := "ref.go:378", after := #[{ on := 13, ground := Ground.data }], guard := none }) rfl ?_
      intro K' hK'
      have l13 : listed.getD 13 false = true := hall ⟨13, .data⟩ (by simp) rfl
      have e13 : f 80 = .pointer (some ⟨b, o + i * 3 + 1, none⟩) := hJ.r 13 (by decide) (by decide) l13
      have g13 := (fn_get (n := 180) (f := f) (t := 80) (by decide)).trans e13
      have hc := kw _ _ cl
      rw [if_pos (by rfl)]
      go_simp
      (try simp only [g13])
      (try go_simp)
      exact hK' _ _ ⟨_, fn_set _ _, hJ.next hBL 14 (by decide) (by decide) (D9_in 14 (by decide)) (fun q _ h => D9_inj h) (by decide) (Below.refl _ _) (rfl)⟩
    | 15, ho =>
      obtain rfl : o = { dst := some 82, op := Op.call { callee := Callee.builtin Builtin.append, args := #[Operand.tmp 75, Operand.tmp 81], argTypes := #[28, 28] }, type := 28, pos := "ref.go:378", after := #[{ on := 8, ground := Ground.data }, { on := 14, ground := Ground.data }], guard := none } := Option.some.inj (ho.symm.trans rfl)
      refine wpOp_step (o := { dst := some 82, op := Op.call { callee := Callee.builtin Builtin.append, args := #[Operand.tmp 75, Operand.tmp 81], argTypes := #[28, 28] }, type := 28, pos := "ref.go:378", after := #[{ on := 8, ground := Ground.data }, { on := 14, ground := Ground.data }], guard := none }) rfl ?_
      intro K' hK'
      have l8 : listed.getD 8 false = true := hall ⟨8, .data⟩ (by simp) rfl
      have e8 : ∃ h, f 75 = .slice (some ⟨h, 0, none⟩) 0 0 ∧ V.heap.size ≤ h := hJ.r 8 (by decide) (by decide) l8
      have l14 : listed.getD 14 false = true := hall ⟨14, .data⟩ (by simp) rfl
      have e14 : f 81 = .slice la ls.length lc := hJ.r 14 (by decide) (by decide) l14
      obtain ⟨h0, en, hL⟩ := e8
      obtain ⟨i3, hi3, hz3, hs3, hb3⟩ := info_parts info3
      refine step_app_fresh _ rfl _ _ _ rfl 3 i3 _ 1 8 Tryd.underlying28 hi3 hz3 hs3 hb3 h0 _ (ls).length (intCells (ls)) (by rw [fn_eval (by decide)]; exact en) (by rw [fn_eval (by decide)]; exact e14) (src_ints (il.keep kw)) (by omega) (by omega) ?_
      intro v w' hn hb
      obtain ⟨a, c, rfl, hi'⟩ := ints_newrow hn (by omega)
      exact hK' _ _ ⟨_, fn_put _ _, hJ.next hBL 15 (by decide) (by decide) (D9_in 15 (by decide)) (fun q _ h => D9_inj h) (by decide) hb ⟨a, c, rfl, hi'.keep ⟨fun _ _ _ h => h, fun b hb _ => Nat.le_trans (Nat.le_min.2 ⟨hL, hJ.lsz⟩) hb⟩⟩⟩
    | 16, ho =>
      obtain rfl : o = { dst := some 83, op := Op.fieldAddr 32 (Operand.tmp 1) 2, type := 0, pos := "ref.go:378", after := #[], guard := none } := Option.some.inj (ho.symm.trans rfl)
      refine wpOp_step (o := { dst := some 83, op := Op.fieldAddr 32 (Operand.tmp 1) 2, type := 0, pos := "ref.go:378", after := #[], guard := none }) rfl ?_
      intro K' hK'
      rw [if_pos (by rfl)]
      go_simp
      (try simp only [g1])
      (try go_simp)
      exact hK' _ _ ⟨_, fn_set _ _, hJ.next hBL 16 (by decide) (by decide) (D9_in 16 (by decide)) (fun q _ h => D9_inj h) (by decide) (Below.refl _ _) (rfl)⟩
    | 17, ho =>
      obtain rfl : o = { dst := some 84, op := Op.load 24 (Operand.tmp 83), type := 24, pos := "ref.go:378", after := #[{ on := 16, ground := Ground.data }], guard := none } := Option.some.inj (ho.symm.trans rfl)
      refine wpOp_step (o := { dst := some 84, op := Op.load 24 (Operand.tmp 83), type := 24, pos := "ref.go:378", after := #[{ on := 16, ground := Ground.data }], guard := none }) rfl ?_
      intro K' hK'
      have l16 : listed.getD 16 false = true := hall ⟨16, .data⟩ (by simp) rfl
      have e16 : f 83 = .pointer (some ⟨H, 2, none⟩) := hJ.r 16 (by decide) (by decide) l16
      have g16 := (fn_get (n := 180) (f := f) (t := 83) (by decide)).trans e16
      have hc := kw _ _ c0
      rw [if_pos (by rfl)]
      go_simp
      (try simp only [g16])
      (try go_simp)
      exact hK' _ _ ⟨_, fn_set _ _, hJ.next hBL 17 (by decide) (by decide) (D9_in 17 (by decide)) (fun q _ h => D9_inj h) (by decide) (Below.refl _ _) (rfl)⟩
    | 18, ho =>
      obtain rfl : o = { dst := some 85, op := Op.move (Operand.tmp 5), type := 3, pos := "ref.go:378", after := #[], guard := none } := Option.some.inj (ho.symm.trans rfl)
      refine wpOp_step (o := { dst := some 85, op := Op.move (Operand.tmp 5), type := 3, pos := "ref.go:378", after := #[], guard := none }) rfl ?_
      intro K' hK'
      rw [if_pos (by rfl)]
      go_simp
      (try simp only [gi])
      (try go_simp)
      exact hK' _ _ ⟨_, fn_set _ _, hJ.next hBL 18 (by decide) (by decide) (D9_in 18 (by decide)) (fun q _ h => D9_inj h) (by decide) (Below.refl _ _) (rfl)⟩
    | 19, ho =>
      obtain rfl : o = { dst := some 86, op := Op.indexAddr 24 (Operand.tmp 84) (Operand.tmp 85), type := 0, pos := "ref.go:378", after := #[{ on := 17, ground := Ground.data }, { on := 18, ground := Ground.data }], guard := none } := Option.some.inj (ho.symm.trans rfl)
      refine wpOp_step (o := { dst := some 86, op := Op.indexAddr 24 (Operand.tmp 84) (Operand.tmp 85), type := 0, pos := "ref.go:378", after := #[{ on := 17, ground := Ground.data }, { on := 18, ground := Ground.data }], guard := none }) rfl ?_
      intro K' hK'
      have l17 : listed.getD 17 false = true := hall ⟨17, .data⟩ (by simp) rfl
      have e17 : f 84 = .slice (some ⟨b, o, none⟩) N k0 := hJ.r 17 (by decide) (by decide) l17
      have l18 : listed.getD 18 false = true := hall ⟨18, .data⟩ (by simp) rfl
      have e18 : f 85 = .int .i64 (i : Int) := hJ.r 18 (by decide) (by decide) l18
      have g17 := (fn_get (n := 180) (f := f) (t := 84) (by decide)).trans e17
      have g18 := (fn_get (n := 180) (f := f) (t := 85) (by decide)).trans e18
      rw [if_pos (by rfl)]
      go_simp
      (try simp only [g17, g18])
      (try go_simp)
      exact hK' _ _ ⟨_, fn_set _ _, hJ.next hBL 19 (by decide) (by decide) (D9_in 19 (by decide)) (fun q _ h => D9_inj h) (by decide) (Below.refl _ _) (rfl)⟩
    | 20, ho =>
      obtain rfl : o = { dst := some 87, op := Op.fieldAddr 42 (Operand.tmp 86) 2, type := 0, pos := "ref.go:378", after := #[{ on := 19, ground := Ground.data }], guard := none } := Option.some.inj (ho.symm.trans rfl)
      refine wpOp_step (o := { dst := some 87, op := Op.fieldAddr 42 (Operand.tmp 86) 2, type := 0, pos := "ref.go:378", after := #[{ on := 19, ground := Ground.data }], guard := none }) rfl ?_
      intro K' hK'
      have l19 : listed.getD 19 false = true := hall ⟨19, .data⟩ (by simp) rfl
      have e19 : f 86 = .pointer (some ⟨b, o + i * 3, none⟩) := hJ.r 19 (by decide) (by decide) l19
      have g19 := (fn_get (n := 180) (f := f) (t := 86) (by decide)).trans e19
      rw [if_pos (by rfl)]
      go_simp
      (try simp only [g19])
      (try go_simp)
      exact hK' _ _ ⟨_, fn_set _ _, hJ.next hBL 20 (by decide) (by decide) (D9_in 20 (by decide)) (fun q _ h => D9_inj h) (by decide) (Below.refl _ _) (rfl)⟩
    | 21, ho =>
      obtain rfl : o = { dst := some 88, op := Op.load 40 (Operand.tmp 87), type := 40, pos := "ref.go:378", after := #[{ on := 20, ground := Ground.data }], guard := none } := Option.some.inj (ho.symm.trans rfl)
      refine wpOp_step (o := { dst := some 88, op := Op.load 40 (Operand.tmp 87), type := 40, pos := "ref.go:378", after := #[{ on := 20, ground := Ground.data }], guard := none }) rfl ?_
      intro K' hK'
      have l20 : listed.getD 20 false = true := hall ⟨20, .data⟩ (by simp) rfl
      have e20 : f 87 = .pointer (some ⟨b, o + i * 3 + 2, none⟩) := hJ.r 20 (by decide) (by decide) l20
      have g20 := (fn_get (n := 180) (f := f) (t := 87) (by decide)).trans e20
      have hc := kw _ _ cb
      rw [if_pos (by rfl)]
      go_simp
      (try simp only [g20])
      (try go_simp)
      exact hK' _ _ ⟨_, fn_set _ _, hJ.next hBL 21 (by decide) (by decide) (D9_in 21 (by decide)) (fun q _ h => D9_inj h) (by decide) (Below.refl _ _) (rfl)⟩
    | 22, ho =>
      obtain rfl : o = { dst := some 89, op := Op.call { callee := Callee.value (Operand.func 31), args := #[Operand.tmp 88], argTypes := #[40] }, type := 40, pos := "ref.go:378", after := #[{ on := 21, ground := Ground.data }, { on := 15, ground := Ground.chain }], guard := none } := Option.some.inj (ho.symm.trans rfl)
      refine wpOp_step (o := { dst := some 89, op := Op.call { callee := Callee.value (Operand.func 31), args := #[Operand.tmp 88], argTypes := #[40] }, type := 40, pos := "ref.go:378", after := #[{ on := 21, ground := Ground.data }, { on := 15, ground := Ground.chain }], guard := none }) rfl ?_
      intro K' hK'
      have l21 : listed.getD 21 false = true := hall ⟨21, .data⟩ (by simp) rfl
      have e21 : f 88 = .slice ba body.len bc := hJ.r 21 (by decide) (by decide) l21
      have g21 := (fn_get (n := 180) (f := f) (t := 88) (by decide)).trans e21
      rw [if_pos (by rfl)]
      go_simp
      (try simp only [g21])
      go_at_call 31
      refine (copies_any body _ _ w hbl hbs (ib.keep kw)).mono ?_
      rintro e u ⟨ao, c, rfl, hR, hb⟩
      go_simp
      exact hK' _ _ ⟨_, fn_set _ _, hJ.next hBL 22 (by decide) (by decide) (D9_in 22 (by decide)) (fun q _ h => D9_inj h) (by decide) (hb) (⟨ao, c, rfl, hR.keep ⟨fun _ _ _ h => h, fun b hb _ => Nat.le_trans hJ.lsz hb⟩⟩)⟩
    | 23, ho =>
      obtain rfl : o = { dst := some 90, op := Op.build 42 #[(0, Operand.tmp 74), (1, Operand.tmp 82), (2, Operand.tmp 89)], type := 42, pos := "ref.go:378", after := #[{ on := 7, ground := Ground.data }, { on := 15, ground := Ground.data }, { on := 22, ground := Ground.data }], guard := none } := Option.some.inj (ho.symm.trans rfl)
      refine wpOp_step (o := { dst := some 90, op := Op.build 42 #[(0, Operand.tmp 74), (1, Operand.tmp 82), (2, Operand.tmp 89)], type := 42, pos := "ref.go:378", after := #[{ on := 7, ground := Ground.data }, { on := 15, ground := Ground.data }, { on := 22, ground := Ground.data }], guard := none }) rfl ?_
      intro K' hK'
      have l7 : listed.getD 7 false = true := hall ⟨7, .data⟩ (by simp) rfl
      have e7 : f 74 = .int .i64 fn := hJ.r 7 (by decide) (by decide) l7
      have l15 : listed.getD 15 false = true := hall ⟨15, .data⟩ (by simp) rfl
      have e15 : ∃ a c, f 82 = .slice a (ls).length c ∧ IntsR (fun b => V.heap.size ≤ b) w a (ls) := hJ.r 15 (by decide) (by decide) l15
      have l22 : listed.getD 22 false = true := hall ⟨22, .data⟩ (by simp) rfl
      have e22 : ∃ a c, f 89 = .slice a body.len c ∧ SlR (fun b => V.heap.size ≤ b) w a body := hJ.r 22 (by decide) (by decide) l22
      obtain ⟨x1, y1, e15, h1⟩ := e15
      obtain ⟨x2, y2, e22, h2⟩ := e22
      have g7 := (fn_get (n := 180) (f := f) (t := 74) (by decide)).trans e7
      have g15 := (fn_get (n := 180) (f := f) (t := 82) (by decide)).trans e15
      have g22 := (fn_get (n := 180) (f := f) (t := 89) (by decide)).trans e22
      rw [if_pos (by rfl)]
      go_simp
      (try simp only [g7, g15, g22])
      (try go_simp)
      exact hK' _ _ ⟨_, fn_set _ _, hJ.next hBL 23 (by decide) (by decide) (D9_in 23 (by decide)) (fun q _ h => D9_inj h) (by decide) (Below.refl _ _) (⟨⟨fn, ls, x1, y1, body, x2, y2⟩, rfl, ⟨h1, h2⟩, rfl⟩)⟩
    | 24, ho =>
      obtain rfl : o = { dst := some 91, op := Op.buildSlice 24 1 #[(0, Operand.tmp 90)], type := 24, pos := "ref.go:378", after := #[{ on := 23, ground := Ground.data }], guard := none } := Option.some.inj (ho.symm.trans rfl)
      refine wpOp_step (o := { dst := some 91, op := Op.buildSlice 24 1 #[(0, Operand.tmp 90)], type := 24, pos := "ref.go:378", after := #[{ on := 23, ground := Ground.data }], guard := none }) rfl ?_
      intro K' hK'
      have l23 : listed.getD 23 false = true := hall ⟨23, .data⟩ (by simp) rfl
      have e23 : ∃ t, f 90 = .agg (funC.enc t).toArray ∧ funC.ok (fun b => V.heap.size ≤ b) w t ∧ (fun t => (t.n, t.l, t.b) = (fn, ls, body)) t := hJ.r 23 (by decide) (by decide) l23
      obtain ⟨t, et, hok, hp⟩ := e23
      replace hp := Lib.hid hp
      have et : f 90 = .agg #[.int .i64 t.n, .slice t.la t.l.length t.lc, .slice t.ba t.b.len t.bc] := et
      have gt := (fn_get (n := 180) (f := f) (t := 90) (by decide)).trans et
      rw [if_pos (by rfl)]
      go_simp
      (try simp only [gt])
      (try go_simp)
      exact hK' _ _ ⟨_, fn_set _ _, hJ.next hBL 24 (by decide) (by decide) (D9_in 24 (by decide)) (fun q _ h => D9_inj h) (by decide) ((Below.refl _ _).alloc (Nat.le_refl _) _) (⟨_, t, rfl, hJ.lsz, fun j u hj => (World.cell?_alloc_at _ _ _ j rfl).trans (by rw [← hj, ← List.getElem?_toArray, show funC.enc t = [.int .i64 t.n, .slice t.la t.l.length t.lc, .slice t.ba t.b.len t.bc] from rfl]), funC.keep _ _ _ _ _ (KeepsR.below ((Below.refl _ _).alloc (Nat.le_refl _) _)) hok, hp.out⟩)⟩
    | 25, ho =>
      obtain rfl : o = { dst := some 92, op := Op.call { callee := Callee.builtin Builtin.append, args := #[Operand.tmp 68, Operand.tmp 91], argTypes := #[24, 24] }, type := 24, pos := "ref.go:378", after := #[{ on := 1, ground := Ground.data }, { on := 24, ground := Ground.data }, { on := 22, ground := Ground.chain }], guard := none } := Option.some.inj (ho.symm.trans rfl)
      refine wpOp_step (o := { dst := some 92, op := Op.call { callee := Callee.builtin Builtin.append, args := #[Operand.tmp 68, Operand.tmp 91], argTypes := #[24, 24] }, type := 24, pos := "ref.go:378", after := #[{ on := 1, ground := Ground.data }, { on := 24, ground := Ground.data }, { on := 22, ground := Ground.chain }], guard := none }) rfl ?_
      intro K' hK'
      have l1 : listed.getD 1 false = true := hall ⟨1, .data⟩ (by simp) rfl
      have e1 : f 68 = v0 := hJ.r 1 (by decide) (by decide) l1
      have l24 : listed.getD 24 false = true := hall ⟨24, .data⟩ (by simp) rfl
      have e24 : ∃ h t, f 91 = .slice (some ⟨h, 0, none⟩) 1 1 ∧ V.heap.size ≤ h ∧ (∀ j u, (funC.enc t)[j]? = some u → w.cell? ⟨h, j, none⟩ = some u) ∧ funC.ok (fun b => V.heap.size ≤ b) w t ∧ (fun t => (t.n, t.l, t.b) = (fn, ls, body)) t := hJ.r 24 (by decide) (by decide) l24
      obtain ⟨h0, t, er, hL, hc, hok, hp⟩ := e24
      have hsl : listed.getD 25 false = false := hl
      have hown := hJ.own hsl
      obtain ⟨ie, hie, hze, hse, hbe⟩ := info_parts info49
      refine step_append_lies _ rfl _ _ _ rfl (M + 1) 42 ie _ 3 56 Tryd.underlying24 hie hze hse hbe rfl (by omega) v0 i (ts.flatMap funC.enc) (by rw [fn_eval (by decide)]; exact e1) hown.own
        ⟨h0, 0, none⟩ 1 1 (funC.enc t) (by rw [fn_eval (by decide)]; exact er) (by rfl) (fun j u hj => by rw [add_cell]; exact hc j u hj) (funC_one t) (by omega) (by unfold maxLen; omega) (by omega) (by have := hJ.lsz; omega) w.heap.size rfl ?_
      intro g cap w' ho hgrow hat hlt
      exact hK' _ _ ⟨_, fn_put _ _, hJ.nextk hBM hML hoL (D9_in 25 (by decide)) (fun q _ h => D9_inj h) (by decide) (by omega) hsl hp hok ho hgrow hat⟩
    | 26, ho =>
      obtain rfl : o = { dst := some 93, op := Op.fieldAddr 32 (Operand.tmp 3) 2, type := 0, pos := "ref.go:378", after := #[{ on := 0, ground := Ground.phase }, { on := 1, ground := Ground.phase }, { on := 2, ground := Ground.phase }, { on := 3, ground := Ground.phase }, { on := 4, ground := Ground.phase }, { on := 5, ground := Ground.phase }, { on := 6, ground := Ground.phase }, { on := 7, ground := Ground.phase }, { on := 8, ground := Ground.phase }, { on := 9, ground := Ground.phase }, { on := 10, ground := Ground.phase }, { on := 11, ground := Ground.phase }, { on := 12, ground := Ground.phase }, { on := 13, ground := Ground.phase }, { on := 14, ground := Ground.phase }, { on := 15, ground := Ground.phase }, { on := 16, ground := Ground.phase }, { on := 17, ground := Ground.phase }, { on := 18, ground := Ground.phase }, { on := 19, ground := Ground.phase }, { on := 20, ground := Ground.phase }, { on := 21, ground := Ground.phase }, { on := 22, ground := Ground.phase }, { on := 23, ground := Ground.phase }, { on := 24, ground := Ground.phase }, { on := 25, ground := Ground.phase }], guard := none } := Option.some.inj (ho.symm.trans rfl)
      refine wpOp_step (o := { dst := some 93, op := Op.fieldAddr 32 (Operand.tmp 3) 2, type := 0, pos := "ref.go:378", after := #[{ on := 0, ground := Ground.phase }, { on := 1, ground := Ground.phase }, { on := 2, ground := Ground.phase }, { on := 3, ground := Ground.phase }, { on := 4, ground := Ground.phase }, { on := 5, ground := Ground.phase }, { on := 6, ground := Ground.phase }, { on := 7, ground := Ground.phase }, { on := 8, ground := Ground.phase }, { on := 9, ground := Ground.phase }, { on := 10, ground := Ground.phase }, { on := 11, ground := Ground.phase }, { on := 12, ground := Ground.phase }, { on := 13, ground := Ground.phase }, { on := 14, ground := Ground.phase }, { on := 15, ground := Ground.phase }, { on := 16, ground := Ground.phase }, { on := 17, ground := Ground.phase }, { on := 18, ground := Ground.phase }, { on := 19, ground := Ground.phase }, { on := 20, ground := Ground.phase }, { on := 21, ground := Ground.phase }, { on := 22, ground := Ground.phase }, { on := 23, ground := Ground.phase }, { on := 24, ground := Ground.phase }, { on := 25, ground := Ground.phase }], guard := none }) rfl ?_
      intro K' hK'
      rw [if_pos (by rfl)]
      go_simp
      (try simp only [g3])
      (try go_simp)
      exact hK' _ _ ⟨_, fn_set _ _, hJ.next hBL 26 (by decide) (by decide) (D9_in 26 (by decide)) (fun q _ h => D9_inj h) (by decide) (Below.refl _ _) (rfl)⟩
    | n + 27, ho => exact absurd hi (by omega)
  · intro listed f w hbef hJ
    have hin := (D9_in 25 (by decide))
    obtain ⟨g, cap, t, ek, hP, ho⟩ := hJ.rk (hbef 25 (by decide))
    have e26 : f 93 = .pointer (some ⟨M, 2, none⟩) := hJ.r 26 (by decide) (by decide) (hbef 26 (by decide))
    have ek : f 92 = .slice (some ⟨g, 0, none⟩) (i + 1) cap := ek
    have ga := (fn_get (n := 180) (f := f) (t := 93) (by decide)).trans e26
    have gb := (fn_get (n := 180) (f := f) (t := 92) (by decide)).trans ek
    have hsz : 2 < vs.size := (Array.getElem?_eq_some_iff.1 hvs).1
    have hc := hJ.box.cells 2 _ hvs
    have hf := hJ.box.frozen 2
    refine wpOp_step (o := { dst := none, op := Op.store 24 (Operand.tmp 93) (Operand.tmp 92), type := 0, pos := "ref.go:378", after := #[{ on := 26, ground := Ground.data }, { on := 25, ground := Ground.data }, { on := 25, ground := Ground.chain }, { on := 0, ground := Ground.phase }, { on := 1, ground := Ground.phase }, { on := 2, ground := Ground.phase }, { on := 3, ground := Ground.phase }, { on := 4, ground := Ground.phase }, { on := 5, ground := Ground.phase }, { on := 6, ground := Ground.phase }, { on := 7, ground := Ground.phase }, { on := 8, ground := Ground.phase }, { on := 9, ground := Ground.phase }, { on := 10, ground := Ground.phase }, { on := 11, ground := Ground.phase }, { on := 12, ground := Ground.phase }, { on := 13, ground := Ground.phase }, { on := 14, ground := Ground.phase }, { on := 15, ground := Ground.phase }, { on := 16, ground := Ground.phase }, { on := 17, ground := Ground.phase }, { on := 18, ground := Ground.phase }, { on := 19, ground := Ground.phase }, { on := 20, ground := Ground.phase }, { on := 21, ground := Ground.phase }, { on := 22, ground := Ground.phase }, { on := 23, ground := Ground.phase }, { on := 24, ground := Ground.phase }, { on := 25, ground := Ground.phase }], guard := none }) rfl ?_
    intro K' hK'
    rw [if_pos (by rfl)]
    go_simp
    (try simp only [ga, gb])
    (try go_simp)
    exact hK' _ _ ⟨f, rfl, hJ.others, g, cap, t, hP, hJ.arg.setCell (p := ⟨M, 2, none⟩) hBM _, hJ.box.set hsz _, ho.set⟩
  · rintro f w ⟨ho, g, cap, t, hP, h1, h2, h3⟩
    rw [over_eq ho]
    exact fin f w g cap t hP h1 h2 h3
end Go.Proofs.YtanpjbbhhofkfaaDoor
