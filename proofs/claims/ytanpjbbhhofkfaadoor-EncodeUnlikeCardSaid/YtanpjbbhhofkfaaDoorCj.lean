/- A round of the reference's Copy: a type. -/
import Derived.Test.YtanpjbbhhofkfaaDoorCh
namespace Go.Proofs.YtanpjbbhhofkfaaDoor
open Go.RowKit
set_option linter.unusedVariables false
set_option linter.unusedSimpArgs false

/-- A type's two slices. -/
structure typCT where
  p : List Int
  pa : Option Addr
  pc : Nat
  r : List Int
  ra : Option Addr
  rc : Nat
def typC : Rec typCT where
  enc t := [.slice t.pa t.p.length t.pc, .slice t.ra t.r.length t.rc]
  ok R w t := IntsR R w t.pa t.p ∧ IntsR R w t.ra t.r
  keep R S w w' t f h := ⟨h.1.keep f, h.2.keep f⟩
theorem typC_one (t : typCT) : ∀ u ∈ typC.enc t, u.oneCell' = true := by
  intro u hu
  simp only [typC, List.mem_cons, List.mem_nil_iff, or_false] at hu
  rcases hu with rfl | rfl <;> rfl
theorem info47 : (Tryd.prog.info? 51).map (fun i => (i.zero, i.size, i.bytes)) = some (some (.agg #[.slice none 0 0, .slice none 0 0]), 2, 48) := by kernel_rfl
def ops5 : Array Oper := #[{ dst := some 38, op := Op.fieldAddr 32 (Operand.tmp 3) 0, type := 0, pos := "ref.go:375", after := #[], guard := none }, { dst := some 39, op := Op.load 22 (Operand.tmp 38), type := 22, pos := "ref.go:375", after := #[{ on := 0, ground := Ground.data }], guard := none }, { dst := some 40, op := Op.buildSlice 28 0 #[], type := 28, pos := "ref.go:375", after := #[], guard := none }, { dst := some 41, op := Op.fieldAddr 32 (Operand.tmp 1) 0, type := 0, pos := "ref.go:375", after := #[], guard := none }, { dst := some 42, op := Op.load 22 (Operand.tmp 41), type := 22, pos := "ref.go:375", after := #[{ on := 3, ground := Ground.data }], guard := none }, { dst := some 43, op := Op.move (Operand.tmp 4), type := 3, pos := "ref.go:375", after := #[], guard := none }, { dst := some 44, op := Op.indexAddr 22 (Operand.tmp 42) (Operand.tmp 43), type := 0, pos := "ref.go:375", after := #[{ on := 4, ground := Ground.data }, { on := 5, ground := Ground.data }], guard := none }, { dst := some 45, op := Op.fieldAddr 51 (Operand.tmp 44) 0, type := 0, pos := "ref.go:375", after := #[{ on := 6, ground := Ground.data }], guard := none }, { dst := some 46, op := Op.load 28 (Operand.tmp 45), type := 28, pos := "ref.go:375", after := #[{ on := 7, ground := Ground.data }], guard := none }, { dst := some 47, op := Op.call { callee := Callee.builtin Builtin.append, args := #[Operand.tmp 40, Operand.tmp 46], argTypes := #[28, 28] }, type := 28, pos := "ref.go:375", after := #[{ on := 2, ground := Ground.data }, { on := 8, ground := Ground.data }], guard := none }, { dst := some 48, op := Op.buildSlice 28 0 #[], type := 28, pos := "ref.go:375", after := #[], guard := none }, { dst := some 49, op := Op.fieldAddr 32 (Operand.tmp 1) 0, type := 0, pos := "ref.go:375", after := #[], guard := none }, { dst := some 50, op := Op.load 22 (Operand.tmp 49), type := 22, pos := "ref.go:375", after := #[{ on := 11, ground := Ground.data }], guard := none }, { dst := some 51, op := Op.move (Operand.tmp 4), type := 3, pos := "ref.go:375", after := #[], guard := none }, { dst := some 52, op := Op.indexAddr 22 (Operand.tmp 50) (Operand.tmp 51), type := 0, pos := "ref.go:375", after := #[{ on := 12, ground := Ground.data }, { on := 13, ground := Ground.data }], guard := none }, { dst := some 53, op := Op.fieldAddr 51 (Operand.tmp 52) 1, type := 0, pos := "ref.go:375", after := #[{ on := 14, ground := Ground.data }], guard := none }, { dst := some 54, op := Op.load 28 (Operand.tmp 53), type := 28, pos := "ref.go:375", after := #[{ on := 15, ground := Ground.data }], guard := none }, { dst := some 55, op := Op.call { callee := Callee.builtin Builtin.append, args := #[Operand.tmp 48, Operand.tmp 54], argTypes := #[28, 28] }, type := 28, pos := "ref.go:375", after := #[{ on := 10, ground := Ground.data }, { on := 16, ground := Ground.data }, { on := 9, ground := Ground.chain }], guard := none }, { dst := some 56, op := Op.build 51 #[(0, Operand.tmp 47), (1, Operand.tmp 55)], type := 51, pos := "ref.go:375", after := #[{ on := 9, ground := Ground.data }, { on := 17, ground := Ground.data }], guard := none }, { dst := some 57, op := Op.buildSlice 22 1 #[(0, Operand.tmp 56)], type := 22, pos := "ref.go:375", after := #[{ on := 18, ground := Ground.data }], guard := none }, { dst := some 58, op := Op.call { callee := Callee.builtin Builtin.append, args := #[Operand.tmp 39, Operand.tmp 57], argTypes := #[22, 22] }, type := 22, pos := "ref.go:375", after := #[{ on := 1, ground := Ground.data }, { on := 19, ground := Ground.data }, { on := 17, ground := Ground.chain }], guard := none }, { dst := some 59, op := Op.fieldAddr 32 (Operand.tmp 3) 0, type := 0, pos := "ref.go:375", after := #[{ on := 0, ground := Ground.phase }, { on := 1, ground := Ground.phase }, { on := 2, ground := Ground.phase }, { on := 3, ground := Ground.phase }, { on := 4, ground := Ground.phase }, { on := 5, ground := Ground.phase }, { on := 6, ground := Ground.phase }, { on := 7, ground := Ground.phase }, { on := 8, ground := Ground.phase }, { on := 9, ground := Ground.phase }, { on := 10, ground := Ground.phase }, { on := 11, ground := Ground.phase }, { on := 12, ground := Ground.phase }, { on := 13, ground := Ground.phase }, { on := 14, ground := Ground.phase }, { on := 15, ground := Ground.phase }, { on := 16, ground := Ground.phase }, { on := 17, ground := Ground.phase }, { on := 18, ground := Ground.phase }, { on := 19, ground := Ground.phase }, { on := 20, ground := Ground.phase }], guard := none }, { dst := none, op := Op.store 22 (Operand.tmp 59) (Operand.tmp 58), type := 0, pos := "ref.go:375", after := #[{ on := 21, ground := Ground.data }, { on := 20, ground := Ground.data }, { on := 20, ground := Ground.chain }, { on := 0, ground := Ground.phase }, { on := 1, ground := Ground.phase }, { on := 2, ground := Ground.phase }, { on := 3, ground := Ground.phase }, { on := 4, ground := Ground.phase }, { on := 5, ground := Ground.phase }, { on := 6, ground := Ground.phase }, { on := 7, ground := Ground.phase }, { on := 8, ground := Ground.phase }, { on := 9, ground := Ground.phase }, { on := 10, ground := Ground.phase }, { on := 11, ground := Ground.phase }, { on := 12, ground := Ground.phase }, { on := 13, ground := Ground.phase }, { on := 14, ground := Ground.phase }, { on := 15, ground := Ground.phase }, { on := 16, ground := Ground.phase }, { on := 17, ground := Ground.phase }, { on := 18, ground := Ground.phase }, { on := 19, ground := Ground.phase }, { on := 20, ground := Ground.phase }], guard := none }]
def D5 (j : Nat) : Nat := 38 + j
theorem D5_in : ∀ j, j < 22 → 38 ≤ D5 j ∧ D5 j ≤ 59 := by
  intro j hj
  unfold D5
  omega
theorem D5_inj {j q : Nat} (h : D5 q = D5 j) : q = j := by
  unfold D5 at h
  omega
theorem low5 : ∀ i, i < ops5.size → ((ops5[i]?).map fun o => o.after.all fun e => decide (e.on < i)) = some true := by
  have h : ∀ i : Fin 23, ((ops5[i.val]?).map fun o => o.after.all fun e => decide (e.on < i.val)) = some true := by decide +kernel
  exact fun i hi => h ⟨i, hi⟩
theorem last5 : ∀ j, j < 22 → ((ops5[22]?).map fun o => o.after.any fun e => decide (e.on = j) && Region.binds .any e) = some true := by
  have h : ∀ j : Fin 22, ((ops5[22]?).map fun o => o.after.any fun e => decide (e.on = j.val) && Region.binds .any e) = some true := by decide +kernel
  exact fun i hi => h ⟨i, hi⟩
def R5 (L : Nat) (M H b o N k0 i : Nat) (v0 : Value) (ps : List Int) (pa : Option Addr) (pc : Nat) (rs : List Int) (ra : Option Addr) (rc : Nat) : Nat → MR L
  | 0 => mEq L (.pointer (some ⟨M, 0, none⟩))
  | 1 => mEq L (v0)
  | 2 => mNew L
  | 3 => mEq L (.pointer (some ⟨H, 0, none⟩))
  | 4 => mEq L (.slice (some ⟨b, o, none⟩) N k0)
  | 5 => mEq L (.int .i64 (i : Int))
  | 6 => mEq L (.pointer (some ⟨b, o + i * 2, none⟩))
  | 7 => mEq L (.pointer (some ⟨b, o + i * 2, none⟩))
  | 8 => mEq L (.slice pa ps.length pc)
  | 9 => mInts L (ps)
  | 10 => mNew L
  | 11 => mEq L (.pointer (some ⟨H, 0, none⟩))
  | 12 => mEq L (.slice (some ⟨b, o, none⟩) N k0)
  | 13 => mEq L (.int .i64 (i : Int))
  | 14 => mEq L (.pointer (some ⟨b, o + i * 2, none⟩))
  | 15 => mEq L (.pointer (some ⟨b, o + i * 2 + 1, none⟩))
  | 16 => mEq L (.slice ra rs.length rc)
  | 17 => mInts L (rs)
  | 18 => mRec L typC (fun t => (t.p, t.r) = (ps, rs))
  | 19 => mRow L typC (fun t => (t.p, t.r) = (ps, rs))
  | 20 => mEq L undef
  | 21 => mEq L (.pointer (some ⟨M, 0, none⟩))
  | _ => mEq L undef
set_option maxRecDepth 100000 in
set_option maxHeartbeats 4000000 in
theorem reg5 {Q : Exit → Act → World → Prop} {f0 : Nat → Value} {w1 V : World} (S : St) {B M : Nat} {vs : Array Value} {v0 : Value} {i : Nat} {ts : List typCT} {H b o N k0 : Nat} {ps : List Int} {pa : Option Addr} {pc : Nat} {rs : List Int} {ra : Option Addr} {rc : Nat}
    (hmix : Tryd.prog.follows .mixedOrders = true) (hB : w1.heap.size = B) (hBM : B ≤ M) (arg : Below B w1 V) (box : NBox M V vs) (hvs : vs[0]? = some v0) (own : OwnS typC S 51 2 B M V v0 i ts)
    (f1 : f0 1 = .pointer (some ⟨H, 0, none⟩)) (f3 : f0 3 = .pointer (some ⟨M, 0, none⟩)) (fi : f0 4 = .int .i64 (i : Int))
    (c0 : w1.cell? ⟨H, 0, none⟩ = some (.slice (some ⟨b, o, none⟩) N k0)) (hiN : i < N) (hN : N ≤ 5000)
    (cp : w1.cell? ⟨b, o + i * 2, none⟩ = some (.slice pa ps.length pc)) (ip : IntsIn w1 pa ps) (cr : w1.cell? ⟨b, o + i * 2 + 1, none⟩ = some (.slice ra rs.length rc)) (ir : IntsIn w1 ra rs) (hps : ps.length ≤ 40000) (hrs : rs.length ≤ 40000)
    (fin : ∀ f w g cap t, (fun t => (t.p, t.r) = (ps, rs)) t → Below B w1 w → NBox M w (vs.setIfInBounds 0 (.slice (some ⟨g, 0, none⟩) (i + 1) cap)) → OwnS typC S 51 2 B M w (.slice (some ⟨g, 0, none⟩) (i + 1) cap) (i + 1) (ts ++ [t]) → Q .normal (Fn 180 (over f0 f 38 59)) w) :
    (Code.region 5 ops5 true).wp Tryd.prog Q (Fn 180 f0) V := by
  have hBL : B ≤ V.heap.size := by rw [← hB]; exact arg.size
  have hML : M < V.heap.size := box.hi
  have hoL : ∀ q, v0.ownBlock = some q → q < V.heap.size := fun q e => (own.own.lt q e).2
  refine region_inv hmix 180 22 rfl (fun listed f w => JJ typC S 51 2 B M V.heap.size w1 vs v0 i ts (fun t => (t.p, t.r) = (ps, rs)) (R5 V.heap.size M H b o N k0 i v0 ps pa pc rs ra rc) D5 38 59 20 22 f0 listed f w)
    (fun f w => (∀ t, ¬ (38 ≤ t ∧ t ≤ 59) → f t = f0 t) ∧ ∃ g cap t, (fun t => (t.p, t.r) = (ps, rs)) t ∧ Below B w1 w ∧ NBox M w (vs.setIfInBounds 0 (.slice (some ⟨g, 0, none⟩) (i + 1) cap)) ∧ OwnS typC S 51 2 B M w (.slice (some ⟨g, 0, none⟩) (i + 1) cap) (i + 1) (ts ++ [t])) low5 last5 ?_ ?_ ?_ ?_
  · refine ⟨fun _ _ => rfl, arg.drew, Nat.le_refl _, box.below (Below.refl _ _).drew, fun _ => own.below (Below.refl _ _).drew, fun j hj hjk hl => ?_, fun hl => ?_⟩
    all_goals
      rw [Array.getD_eq_getD_getElem?, Array.getElem?_replicate] at hl
      split at hl <;> cases hl
  · intro i' o hi ho listed f w hsz hl hall hJ
    have f1 : f 1 = _ := (hJ.others 1 (by decide)).trans f1
    have f3 : f 3 = _ := (hJ.others 3 (by decide)).trans f3
    have fi : f 4 = _ := (hJ.others 4 (by decide)).trans fi
    have kw := hJ.keeps hB
    have g1 := (fn_get (n := 180) (f := f) (t := 1) (by decide)).trans f1
    have g3 := (fn_get (n := 180) (f := f) (t := 3) (by decide)).trans f3
    have gi := (fn_get (n := 180) (f := f) (t := 4) (by decide)).trans fi
    match i', ho with
    | 0, ho =>
      obtain rfl : o = { dst := some 38, op := Op.fieldAddr 32 (Operand.tmp 3) 0, type := 0, pos := "ref.go:375", after := #[], guard := none } := Option.some.inj (ho.symm.trans rfl)
      refine wpOp_step (o := { dst := some 38, op := Op.fieldAddr 32 (Operand.tmp 3) 0, type := 0, pos := "ref.go:375", after := #[], guard := none }) rfl ?_
      intro K' hK'
      rw [if_pos (by rfl)]
      go_simp
      (try simp only [g3])
      (try go_simp)
      exact hK' _ _ ⟨_, fn_set _ _, hJ.next hBL 0 (by decide) (by decide) (D5_in 0 (by decide)) (fun q _ h => D5_inj h) (by decide) (Below.refl _ _) (rfl)⟩
    | 1, ho =>
      obtain rfl : o = { dst := some 39, op := Op.load 22 (Operand.tmp 38), type := 22, pos := "ref.go:375", after := #[{ on := 0, ground := Ground.data }], guard := none } := Option.some.inj (ho.symm.trans rfl)
      refine wpOp_step (o := { dst := some 39, op := Op.load 22 (Operand.tmp 38), type := 22, pos := "ref.go:375", after := #[{ on := 0, ground := Ground.data }], guard := none }) rfl ?_
      intro K' hK'
      have l0 : listed.getD 0 false = true := hall ⟨0, .data⟩ (by simp) rfl
      have e0 : f 38 = .pointer (some ⟨M, 0, none⟩) := hJ.r 0 (by decide) (by decide) l0
      have g0 := (fn_get (n := 180) (f := f) (t := 38) (by decide)).trans e0
      have hc := hJ.box.cells 0 _ hvs
      rw [if_pos (by rfl)]
      go_simp
      (try simp only [g0])
      (try go_simp)
      exact hK' _ _ ⟨_, fn_set _ _, hJ.next hBL 1 (by decide) (by decide) (D5_in 1 (by decide)) (fun q _ h => D5_inj h) (by decide) (Below.refl _ _) (rfl)⟩
    | 2, ho =>
      obtain rfl : o = { dst := some 40, op := Op.buildSlice 28 0 #[], type := 28, pos := "ref.go:375", after := #[], guard := none } := Option.some.inj (ho.symm.trans rfl)
      refine wpOp_step (o := { dst := some 40, op := Op.buildSlice 28 0 #[], type := 28, pos := "ref.go:375", after := #[], guard := none }) rfl ?_
      intro K' hK'
      rw [if_pos (by rfl)]
      go_simp
      exact hK' _ _ ⟨_, fn_set _ _, hJ.next hBL 2 (by decide) (by decide) (D5_in 2 (by decide)) (fun q _ h => D5_inj h) (by decide) ((Below.refl _ _).alloc (Nat.le_refl _) _) (⟨_, rfl, hJ.lsz⟩)⟩
    | 3, ho =>
      obtain rfl : o = { dst := some 41, op := Op.fieldAddr 32 (Operand.tmp 1) 0, type := 0, pos := "ref.go:375", after := #[], guard := none } := Option.some.inj (ho.symm.trans rfl)
      refine wpOp_step (o := { dst := some 41, op := Op.fieldAddr 32 (Operand.tmp 1) 0, type := 0, pos := "ref.go:375", after := #[], guard := none }) rfl ?_
      intro K' hK'
      rw [if_pos (by rfl)]
      go_simp
      (try simp only [g1])
      (try go_simp)
      exact hK' _ _ ⟨_, fn_set _ _, hJ.next hBL 3 (by decide) (by decide) (D5_in 3 (by decide)) (fun q _ h => D5_inj h) (by decide) (Below.refl _ _) (rfl)⟩
    | 4, ho =>
      obtain rfl : o = { dst := some 42, op := Op.load 22 (Operand.tmp 41), type := 22, pos := "ref.go:375", after := #[{ on := 3, ground := Ground.data }], guard := none } := Option.some.inj (ho.symm.trans rfl)
      refine wpOp_step (o := { dst := some 42, op := Op.load 22 (Operand.tmp 41), type := 22, pos := "ref.go:375", after := #[{ on := 3, ground := Ground.data }], guard := none }) rfl ?_
      intro K' hK'
      have l3 : listed.getD 3 false = true := hall ⟨3, .data⟩ (by simp) rfl
      have e3 : f 41 = .pointer (some ⟨H, 0, none⟩) := hJ.r 3 (by decide) (by decide) l3
      have g3 := (fn_get (n := 180) (f := f) (t := 41) (by decide)).trans e3
      have hc := kw _ _ c0
      rw [if_pos (by rfl)]
      go_simp
      (try simp only [g3])
      (try go_simp)
      exact hK' _ _ ⟨_, fn_set _ _, hJ.next hBL 4 (by decide) (by decide) (D5_in 4 (by decide)) (fun q _ h => D5_inj h) (by decide) (Below.refl _ _) (rfl)⟩
    | 5, ho =>
      obtain rfl : o = { dst := some 43, op := Op.move (Operand.tmp 4), type := 3, pos := "ref.go:375", after := #[], guard := none } := Option.some.inj (ho.symm.trans rfl)
      refine wpOp_step (o := { dst := some 43, op := Op.move (Operand.tmp 4), type := 3, pos := "ref.go:375", after := #[], guard := none }) rfl ?_
      intro K' hK'
      rw [if_pos (by rfl)]
      go_simp
      (try simp only [gi])
      (try go_simp)
      exact hK' _ _ ⟨_, fn_set _ _, hJ.next hBL 5 (by decide) (by decide) (D5_in 5 (by decide)) (fun q _ h => D5_inj h) (by decide) (Below.refl _ _) (rfl)⟩
    | 6, ho =>
      obtain rfl : o = { dst := some 44, op := Op.indexAddr 22 (Operand.tmp 42) (Operand.tmp 43), type := 0, pos := "ref.go:375", after := #[{ on := 4, ground := Ground.data }, { on := 5, ground := Ground.data }], guard := none } := Option.some.inj (ho.symm.trans rfl)
      refine wpOp_step (o := { dst := some 44, op := Op.indexAddr 22 (Operand.tmp 42) (Operand.tmp 43), type := 0, pos := "ref.go:375", after := #[{ on := 4, ground := Ground.data }, { on := 5, ground := Ground.data }], guard := none }) rfl ?_
      intro K' hK'
      have l4 : listed.getD 4 false = true := hall ⟨4, .data⟩ (by simp) rfl
      have e4 : f 42 = .slice (some ⟨b, o, none⟩) N k0 := hJ.r 4 (by decide) (by decide) l4
      have l5 : listed.getD 5 false = true := hall ⟨5, .data⟩ (by simp) rfl
      have e5 : f 43 = .int .i64 (i : Int) := hJ.r 5 (by decide) (by decide) l5
      have g4 := (fn_get (n := 180) (f := f) (t := 42) (by decide)).trans e4
      have g5 := (fn_get (n := 180) (f := f) (t := 43) (by decide)).trans e5
      rw [if_pos (by rfl)]
      go_simp
      (try simp only [g4, g5])
      (try go_simp)
      exact hK' _ _ ⟨_, fn_set _ _, hJ.next hBL 6 (by decide) (by decide) (D5_in 6 (by decide)) (fun q _ h => D5_inj h) (by decide) (Below.refl _ _) (rfl)⟩
    | 7, ho =>
      obtain rfl : o = { dst := some 45, op := Op.fieldAddr 51 (Operand.tmp 44) 0, type := 0, pos := "ref.go:375", after := #[{ on := 6, ground := Ground.data }], guard := none } := Option.some.inj (ho.symm.trans rfl)
      refine wpOp_step (o := { dst := some 45, op := Op.fieldAddr 51 (Operand.tmp 44) 0, type := 0, pos := "ref.go:375", after := #[{ on := 6, ground := Ground.data }], guard := none }) rfl ?_
      intro K' hK'
      have l6 : listed.getD 6 false = true := hall ⟨6, .data⟩ (by simp) rfl
      have e6 : f 44 = .pointer (some ⟨b, o + i * 2, none⟩) := hJ.r 6 (by decide) (by decide) l6
      have g6 := (fn_get (n := 180) (f := f) (t := 44) (by decide)).trans e6
      rw [if_pos (by rfl)]
      go_simp
      (try simp only [g6])
      (try go_simp)
      exact hK' _ _ ⟨_, fn_set _ _, hJ.next hBL 7 (by decide) (by decide) (D5_in 7 (by decide)) (fun q _ h => D5_inj h) (by decide) (Below.refl _ _) (rfl)⟩
    | 8, ho =>
      obtain rfl : o = { dst := some 46, op := Op.load 28 (Operand.tmp 45), type := 28, pos := "ref.go:375", after := #[{ on := 7, ground := Ground.data }], guard := none } := Option.some.inj (ho.symm.trans rfl)
      refine wpOp_step (o := { dst := some 46, op := Op.load 28 (Operand.tmp 45), type := 28, pos := "ref.go:375", after := #[{ on := 7, ground := Ground.data }], guard := none }) rfl ?_
      intro K' hK'
      have l7 : listed.getD 7 false = true := hall ⟨7, .data⟩ (by simp) rfl
      have e7 : f 45 = .pointer (some ⟨b, o + i * 2, none⟩) := hJ.r 7 (by decide) (by decide) l7
      have g7 := (fn_get (n := 180) (f := f) (t := 45) (by decide)).trans e7
      have hc := kw _ _ cp
      rw [if_pos (by rfl)]
      go_simp
      (try simp only [g7])
      (try go_simp)
      exact hK' _ _ ⟨_, fn_set _ _, hJ.next hBL 8 (by decide) (by decide) (D5_in 8 (by decide)) (fun q _ h => D5_inj h) (by decide) (Below.refl _ _) (rfl)⟩
    | 9, ho =>
      obtain rfl : o = { dst := some 47, op := Op.call { callee := Callee.builtin Builtin.append, args := #[Operand.tmp 40, Operand.tmp 46], argTypes := #[28, 28] }, type := 28, pos := "ref.go:375", after := #[{ on := 2, ground := Ground.data }, { on := 8, ground := Ground.data }], guard := none } := Option.some.inj (ho.symm.trans rfl)
      refine wpOp_step (o := { dst := some 47, op := Op.call { callee := Callee.builtin Builtin.append, args := #[Operand.tmp 40, Operand.tmp 46], argTypes := #[28, 28] }, type := 28, pos := "ref.go:375", after := #[{ on := 2, ground := Ground.data }, { on := 8, ground := Ground.data }], guard := none }) rfl ?_
      intro K' hK'
      have l2 : listed.getD 2 false = true := hall ⟨2, .data⟩ (by simp) rfl
      have e2 : ∃ h, f 40 = .slice (some ⟨h, 0, none⟩) 0 0 ∧ V.heap.size ≤ h := hJ.r 2 (by decide) (by decide) l2
      have l8 : listed.getD 8 false = true := hall ⟨8, .data⟩ (by simp) rfl
      have e8 : f 46 = .slice pa ps.length pc := hJ.r 8 (by decide) (by decide) l8
      obtain ⟨h0, en, hL⟩ := e2
      obtain ⟨i3, hi3, hz3, hs3, hb3⟩ := info_parts info3
      refine step_app_fresh _ rfl _ _ _ rfl 3 i3 _ 1 8 Tryd.underlying28 hi3 hz3 hs3 hb3 h0 _ (ps).length (intCells (ps)) (by rw [fn_eval (by decide)]; exact en) (by rw [fn_eval (by decide)]; exact e8) (src_ints (ip.keep kw)) (by omega) (by omega) ?_
      intro v w' hn hb
      obtain ⟨a, c, rfl, hi'⟩ := ints_newrow hn (by omega)
      exact hK' _ _ ⟨_, fn_put _ _, hJ.next hBL 9 (by decide) (by decide) (D5_in 9 (by decide)) (fun q _ h => D5_inj h) (by decide) hb ⟨a, c, rfl, hi'.keep ⟨fun _ _ _ h => h, fun b hb _ => Nat.le_trans (Nat.le_min.2 ⟨hL, hJ.lsz⟩) hb⟩⟩⟩
    | 10, ho =>
      obtain rfl : o = { dst := some 48, op := Op.buildSlice 28 0 #[], type := 28, pos := "ref.go:375", after := #[], guard := none } := Option.some.inj (ho.symm.trans rfl)
      refine wpOp_step (o := { dst := some 48, op := Op.buildSlice 28 0 #[], type := 28, pos := "ref.go:375", after := #[], guard := none }) rfl ?_
      intro K' hK'
      rw [if_pos (by rfl)]
      go_simp
      exact hK' _ _ ⟨_, fn_set _ _, hJ.next hBL 10 (by decide) (by decide) (D5_in 10 (by decide)) (fun q _ h => D5_inj h) (by decide) ((Below.refl _ _).alloc (Nat.le_refl _) _) (⟨_, rfl, hJ.lsz⟩)⟩
    | 11, ho =>
      obtain rfl : o = { dst := some 49, op := Op.fieldAddr 32 (Operand.tmp 1) 0, type := 0, pos := "ref.go:375", after := #[], guard := none } := Option.some.inj (ho.symm.trans rfl)
      refine wpOp_step (o := { dst := some 49, op := Op.fieldAddr 32 (Operand.tmp 1) 0, type := 0, pos := "ref.go:375", after := #[], guard := none }) rfl ?_
      intro K' hK'
      rw [if_pos (by rfl)]
      go_simp
      (try simp only [g1])
      (try go_simp)
      exact hK' _ _ ⟨_, fn_set _ _, hJ.next hBL 11 (by decide) (by decide) (D5_in 11 (by decide)) (fun q _ h => D5_inj h) (by decide) (Below.refl _ _) (rfl)⟩
    | 12, ho =>
      obtain rfl : o = { dst := some 50, op := Op.load 22 (Operand.tmp 49), type := 22, pos := "ref.go:375", after := #[{ on := 11, ground := Ground.data }], guard := none } := Option.some.inj (ho.symm.trans rfl)
      refine wpOp_step (o := { dst := some 50, op := Op.load 22 (Operand.tmp 49), type := 22, pos := "ref.go:375", after := #[{ on := 11, ground := Ground.data }], guard := none }) rfl ?_
      intro K' hK'
      have l11 : listed.getD 11 false = true := hall ⟨11, .data⟩ (by simp) rfl
      have e11 : f 49 = .pointer (some ⟨H, 0, none⟩) := hJ.r 11 (by decide) (by decide) l11
      have g11 := (fn_get (n := 180) (f := f) (t := 49) (by decide)).trans e11
      have hc := kw _ _ c0
      rw [if_pos (by rfl)]
      go_simp
      (try simp only [g11])
      (try go_simp)
      exact hK' _ _ ⟨_, fn_set _ _, hJ.next hBL 12 (by decide) (by decide) (D5_in 12 (by decide)) (fun q _ h => D5_inj h) (by decide) (Below.refl _ _) (rfl)⟩
    | 13, ho =>
      obtain rfl : o = { dst := some 51, op := Op.move (Operand.tmp 4), type := 3, pos := "ref.go:375", after := #[], guard := none } := Option.some.inj (ho.symm.trans rfl)
      refine wpOp_step (o := { dst := some 51, op := Op.move (Operand.tmp 4), type := 3, pos := "ref.go:375", after := #[], guard := none }) rfl ?_
      intro K' hK'
      rw [if_pos (by rfl)]
      go_simp
      (try simp only [gi])
      (try go_simp)
      exact hK' _ _ ⟨_, fn_set _ _, hJ.next hBL 13 (by decide) (by decide) (D5_in 13 (by decide)) (fun q _ h => D5_inj h) (by decide) (Below.refl _ _) (rfl)⟩
    | 14, ho =>
      obtain rfl : o = { dst := some 52, op := Op.indexAddr 22 (Operand.tmp 50) (Operand.tmp 51), type := 0, pos := "ref.go:375", after := #[{ on := 12, ground := Ground.data }, { on := 13, ground := Ground.data }], guard := none } := Option.some.inj (ho.symm.trans rfl)
      refine wpOp_step (o := { dst := some 52, op := Op.indexAddr 22 (Operand.tmp 50) (Operand.tmp 51), type := 0, pos := "ref.go:375", after := #[{ on := 12, ground := Ground.data }, { on := 13, ground := Ground.data }], guard := none }) rfl ?_
      intro K' hK'
      have l12 : listed.getD 12 false = true := hall ⟨12, .data⟩ (by simp) rfl
      have e12 : f 50 = .slice (some ⟨b, o, none⟩) N k0 := hJ.r 12 (by decide) (by decide) l12
      have l13 : listed.getD 13 false = true := hall ⟨13, .data⟩ (by simp) rfl
      have e13 : f 51 = .int .i64 (i : Int) := hJ.r 13 (by decide) (by decide) l13
      have g12 := (fn_get (n := 180) (f := f) (t := 50) (by decide)).trans e12
      have g13 := (fn_get (n := 180) (f := f) (t := 51) (by decide)).trans e13
      rw [if_pos (by rfl)]
      go_simp
      (try simp only [g12, g13])
      (try go_simp)
      exact hK' _ _ ⟨_, fn_set _ _, hJ.next hBL 14 (by decide) (by decide) (D5_in 14 (by decide)) (fun q _ h => D5_inj h) (by decide) (Below.refl _ _) (rfl)⟩
    | 15, ho =>
      obtain rfl : o = { dst := some 53, op := Op.fieldAddr 51 (Operand.tmp 52) 1, type := 0, pos := "ref.go:375", after := #[{ on := 14, ground := Ground.data }], guard := none } := Option.some.inj (ho.symm.trans rfl)
      refine wpOp_step (o := { dst := some 53, op := Op.fieldAddr 51 (Operand.tmp 52) 1, type := 0, pos := "ref.go:375", after := #[{ on := 14, ground := Ground.data }], guard := none }) rfl ?_
      intro K' hK'
      have l14 : listed.getD 14 false = true := hall ⟨14, .data⟩ (by simp) rfl
      have e14 : f 52 = .pointer (some ⟨b, o + i * 2, none⟩) := hJ.r 14 (by decide) (by decide) l14
      have g14 := (fn_get (n := 180) (f := f) (t := 52) (by decide)).trans e14
      rw [if_pos (by rfl)]
      go_simp
      (try simp only [g14])
      (try go_simp)
      exact hK' _ _ ⟨_, fn_set _ _, hJ.next hBL 15 (by decide) (by decide) (D5_in 15 (by decide)) (fun q _ h => D5_inj h) (by decide) (Below.refl _ _) (rfl)⟩
    | 16, ho =>
      obtain rfl : o = { dst := some 54, op := Op.load 28 (Operand.tmp 53), type := 28, pos := "ref.go:375", after := #[{ on := 15, ground := Ground.data }], guard := none } := Option.some.inj (ho.symm.trans rfl)
      refine wpOp_step (o := { dst := some 54, op := Op.load 28 (Operand.tmp 53), type := 28, pos := "ref.go:375", after := #[{ on := 15, ground := Ground.data }], guard := none }) rfl ?_
      intro K' hK'
      have l15 : listed.getD 15 false = true := hall ⟨15, .data⟩ (by simp) rfl
      have e15 : f 53 = .pointer (some ⟨b, o + i * 2 + 1, none⟩) := hJ.r 15 (by decide) (by decide) l15
      have g15 := (fn_get (n := 180) (f := f) (t := 53) (by decide)).trans e15
      have hc := kw _ _ cr
      rw [if_pos (by rfl)]
      go_simp
      (try simp only [g15])
      (try go_simp)
      exact hK' _ _ ⟨_, fn_set _ _, hJ.next hBL 16 (by decide) (by decide) (D5_in 16 (by decide)) (fun q _ h => D5_inj h) (by decide) (Below.refl _ _) (rfl)⟩
    | 17, ho =>
      obtain rfl : o = { dst := some 55, op := Op.call { callee := Callee.builtin Builtin.append, args := #[Operand.tmp 48, Operand.tmp 54], argTypes := #[28, 28] }, type := 28, pos := "ref.go:375", after := #[{ on := 10, ground := Ground.data }, { on := 16, ground := Ground.data }, { on := 9, ground := Ground.chain }], guard := none } := Option.some.inj (ho.symm.trans rfl)
      refine wpOp_step (o := { dst := some 55, op := Op.call { callee := Callee.builtin Builtin.append, args := #[Operand.tmp 48, Operand.tmp 54], argTypes := #[28, 28] }, type := 28, pos := "ref.go:375", after := #[{ on := 10, ground := Ground.data }, { on := 16, ground := Ground.data }, { on := 9, ground := Ground.chain }], guard := none }) rfl ?_
      intro K' hK'
      have l10 : listed.getD 10 false = true := hall ⟨10, .data⟩ (by simp) rfl
      have e10 : ∃ h, f 48 = .slice (some ⟨h, 0, none⟩) 0 0 ∧ V.heap.size ≤ h := hJ.r 10 (by decide) (by decide) l10
      have l16 : listed.getD 16 false = true := hall ⟨16, .data⟩ (by simp) rfl
      have e16 : f 54 = .slice ra rs.length rc := hJ.r 16 (by decide) (by decide) l16
      obtain ⟨h0, en, hL⟩ := e10
      obtain ⟨i3, hi3, hz3, hs3, hb3⟩ := info_parts info3
      refine step_app_fresh _ rfl _ _ _ rfl 3 i3 _ 1 8 Tryd.underlying28 hi3 hz3 hs3 hb3 h0 _ (rs).length (intCells (rs)) (by rw [fn_eval (by decide)]; exact en) (by rw [fn_eval (by decide)]; exact e16) (src_ints (ir.keep kw)) (by omega) (by omega) ?_
      intro v w' hn hb
      obtain ⟨a, c, rfl, hi'⟩ := ints_newrow hn (by omega)
      exact hK' _ _ ⟨_, fn_put _ _, hJ.next hBL 17 (by decide) (by decide) (D5_in 17 (by decide)) (fun q _ h => D5_inj h) (by decide) hb ⟨a, c, rfl, hi'.keep ⟨fun _ _ _ h => h, fun b hb _ => Nat.le_trans (Nat.le_min.2 ⟨hL, hJ.lsz⟩) hb⟩⟩⟩
    | 18, ho =>
      obtain rfl : o = { dst := some 56, op := Op.build 51 #[(0, Operand.tmp 47), (1, Operand.tmp 55)], type := 51, pos := "ref.go:375", after := #[{ on := 9, ground := Ground.data }, { on := 17, ground := Ground.data }], guard := none } := Option.some.inj (ho.symm.trans rfl)
      refine wpOp_step (o := { dst := some 56, op := Op.build 51 #[(0, Operand.tmp 47), (1, Operand.tmp 55)], type := 51, pos := "ref.go:375", after := #[{ on := 9, ground := Ground.data }, { on := 17, ground := Ground.data }], guard := none }) rfl ?_
      intro K' hK'
      have l9 : listed.getD 9 false = true := hall ⟨9, .data⟩ (by simp) rfl
      have e9 : ∃ a c, f 47 = .slice a (ps).length c ∧ IntsR (fun b => V.heap.size ≤ b) w a (ps) := hJ.r 9 (by decide) (by decide) l9
      have l17 : listed.getD 17 false = true := hall ⟨17, .data⟩ (by simp) rfl
      have e17 : ∃ a c, f 55 = .slice a (rs).length c ∧ IntsR (fun b => V.heap.size ≤ b) w a (rs) := hJ.r 17 (by decide) (by decide) l17
      obtain ⟨x1, y1, e9, h1⟩ := e9
      obtain ⟨x2, y2, e17, h2⟩ := e17
      have g9 := (fn_get (n := 180) (f := f) (t := 47) (by decide)).trans e9
      have g17 := (fn_get (n := 180) (f := f) (t := 55) (by decide)).trans e17
      rw [if_pos (by rfl)]
      go_simp
      (try simp only [g9, g17])
      (try go_simp)
      exact hK' _ _ ⟨_, fn_set _ _, hJ.next hBL 18 (by decide) (by decide) (D5_in 18 (by decide)) (fun q _ h => D5_inj h) (by decide) (Below.refl _ _) (⟨⟨ps, x1, y1, rs, x2, y2⟩, rfl, ⟨h1, h2⟩, rfl⟩)⟩
    | 19, ho =>
      obtain rfl : o = { dst := some 57, op := Op.buildSlice 22 1 #[(0, Operand.tmp 56)], type := 22, pos := "ref.go:375", after := #[{ on := 18, ground := Ground.data }], guard := none } := Option.some.inj (ho.symm.trans rfl)
      refine wpOp_step (o := { dst := some 57, op := Op.buildSlice 22 1 #[(0, Operand.tmp 56)], type := 22, pos := "ref.go:375", after := #[{ on := 18, ground := Ground.data }], guard := none }) rfl ?_
      intro K' hK'
      have l18 : listed.getD 18 false = true := hall ⟨18, .data⟩ (by simp) rfl
      have e18 : ∃ t, f 56 = .agg (typC.enc t).toArray ∧ typC.ok (fun b => V.heap.size ≤ b) w t ∧ (fun t => (t.p, t.r) = (ps, rs)) t := hJ.r 18 (by decide) (by decide) l18
      obtain ⟨t, et, hok, hp⟩ := e18
      replace hp := Lib.hid hp
      have et : f 56 = .agg #[.slice t.pa t.p.length t.pc, .slice t.ra t.r.length t.rc] := et
      have gt := (fn_get (n := 180) (f := f) (t := 56) (by decide)).trans et
      rw [if_pos (by rfl)]
      go_simp
      (try simp only [gt])
      (try go_simp)
      exact hK' _ _ ⟨_, fn_set _ _, hJ.next hBL 19 (by decide) (by decide) (D5_in 19 (by decide)) (fun q _ h => D5_inj h) (by decide) ((Below.refl _ _).alloc (Nat.le_refl _) _) (⟨_, t, rfl, hJ.lsz, fun j u hj => (World.cell?_alloc_at _ _ _ j rfl).trans (by rw [← hj, ← List.getElem?_toArray, show typC.enc t = [.slice t.pa t.p.length t.pc, .slice t.ra t.r.length t.rc] from rfl]), typC.keep _ _ _ _ _ (KeepsR.below ((Below.refl _ _).alloc (Nat.le_refl _) _)) hok, hp.out⟩)⟩
    | 20, ho =>
      obtain rfl : o = { dst := some 58, op := Op.call { callee := Callee.builtin Builtin.append, args := #[Operand.tmp 39, Operand.tmp 57], argTypes := #[22, 22] }, type := 22, pos := "ref.go:375", after := #[{ on := 1, ground := Ground.data }, { on := 19, ground := Ground.data }, { on := 17, ground := Ground.chain }], guard := none } := Option.some.inj (ho.symm.trans rfl)
      refine wpOp_step (o := { dst := some 58, op := Op.call { callee := Callee.builtin Builtin.append, args := #[Operand.tmp 39, Operand.tmp 57], argTypes := #[22, 22] }, type := 22, pos := "ref.go:375", after := #[{ on := 1, ground := Ground.data }, { on := 19, ground := Ground.data }, { on := 17, ground := Ground.chain }], guard := none }) rfl ?_
      intro K' hK'
      have l1 : listed.getD 1 false = true := hall ⟨1, .data⟩ (by simp) rfl
      have e1 : f 39 = v0 := hJ.r 1 (by decide) (by decide) l1
      have l19 : listed.getD 19 false = true := hall ⟨19, .data⟩ (by simp) rfl
      have e19 : ∃ h t, f 57 = .slice (some ⟨h, 0, none⟩) 1 1 ∧ V.heap.size ≤ h ∧ (∀ j u, (typC.enc t)[j]? = some u → w.cell? ⟨h, j, none⟩ = some u) ∧ typC.ok (fun b => V.heap.size ≤ b) w t ∧ (fun t => (t.p, t.r) = (ps, rs)) t := hJ.r 19 (by decide) (by decide) l19
      obtain ⟨h0, t, er, hL, hc, hok, hp⟩ := e19
      have hsl : listed.getD 20 false = false := hl
      have hown := hJ.own hsl
      obtain ⟨ie, hie, hze, hse, hbe⟩ := info_parts info47
      refine step_append_lies _ rfl _ _ _ rfl (M + 1) 51 ie _ 2 48 Tryd.underlying22 hie hze hse hbe rfl (by omega) v0 i (ts.flatMap typC.enc) (by rw [fn_eval (by decide)]; exact e1) hown.own
        ⟨h0, 0, none⟩ 1 1 (typC.enc t) (by rw [fn_eval (by decide)]; exact er) (by rfl) (fun j u hj => by rw [add_cell]; exact hc j u hj) (typC_one t) (by omega) (by unfold maxLen; omega) (by omega) (by have := hJ.lsz; omega) w.heap.size rfl ?_
      intro g cap w' ho hgrow hat hlt
      exact hK' _ _ ⟨_, fn_put _ _, hJ.nextk hBM hML hoL (D5_in 20 (by decide)) (fun q _ h => D5_inj h) (by decide) (by omega) hsl hp hok ho hgrow hat⟩
    | 21, ho =>
      obtain rfl : o = { dst := some 59, op := Op.fieldAddr 32 (Operand.tmp 3) 0, type := 0, pos := "ref.go:375", after := #[{ on := 0, ground := Ground.phase }, { on := 1, ground := Ground.phase }, { on := 2, ground := Ground.phase }, { on := 3, ground := Ground.phase }, { on := 4, ground := Ground.phase }, { on := 5, ground := Ground.phase }, { on := 6, ground := Ground.phase }, { on := 7, ground := Ground.phase }, { on := 8, ground := Ground.phase }, { on := 9, ground := Ground.phase }, { on := 10, ground := Ground.phase }, { on := 11, ground := Ground.phase }, { on := 12, ground := Ground.phase }, { on := 13, ground := Ground.phase }, { on := 14, ground := Ground.phase }, { on := 15, ground := Ground.phase }, { on := 16, ground := Ground.phase }, { on := 17, ground := Ground.phase }, { on := 18, ground := Ground.phase }, { on := 19, ground := Ground.phase }, { on := 20, ground := Ground.phase }], guard := none } := Option.some.inj (ho.symm.trans rfl)
      refine wpOp_step (o := { dst := some 59, op := Op.fieldAddr 32 (Operand.tmp 3) 0, type := 0, pos := "ref.go:375", after := #[{ on := 0, ground := Ground.phase }, { on := 1, ground := Ground.phase }, { on := 2, ground := Ground.phase }, { on := 3, ground := Ground.phase }, { on := 4, ground := Ground.phase }, { on := 5, ground := Ground.phase }, { on := 6, ground := Ground.phase }, { on := 7, ground := Ground.phase }, { on := 8, ground := Ground.phase }, { on := 9, ground := Ground.phase }, { on := 10, ground := Ground.phase }, { on := 11, ground := Ground.phase }, { on := 12, ground := Ground.phase }, { on := 13, ground := Ground.phase }, { on := 14, ground := Ground.phase }, { on := 15, ground := Ground.phase }, { on := 16, ground := Ground.phase }, { on := 17, ground := Ground.phase }, { on := 18, ground := Ground.phase }, { on := 19, ground := Ground.phase }, { on := 20, ground := Ground.phase }], guard := none }) rfl ?_
      intro K' hK'
      rw [if_pos (by rfl)]
      go_simp
      (try simp only [g3])
      (try go_simp)
      exact hK' _ _ ⟨_, fn_set _ _, hJ.next hBL 21 (by decide) (by decide) (D5_in 21 (by decide)) (fun q _ h => D5_inj h) (by decide) (Below.refl _ _) (rfl)⟩
    | n + 22, ho => exact absurd hi (by omega)
  · intro listed f w hbef hJ
    have hin := (D5_in 20 (by decide))
    obtain ⟨g, cap, t, ek, hP, ho⟩ := hJ.rk (hbef 20 (by decide))
    have e21 : f 59 = .pointer (some ⟨M, 0, none⟩) := hJ.r 21 (by decide) (by decide) (hbef 21 (by decide))
    have ek : f 58 = .slice (some ⟨g, 0, none⟩) (i + 1) cap := ek
    have ga := (fn_get (n := 180) (f := f) (t := 59) (by decide)).trans e21
    have gb := (fn_get (n := 180) (f := f) (t := 58) (by decide)).trans ek
    have hsz : 0 < vs.size := (Array.getElem?_eq_some_iff.1 hvs).1
    have hc := hJ.box.cells 0 _ hvs
    have hf := hJ.box.frozen 0
    refine wpOp_step (o := { dst := none, op := Op.store 22 (Operand.tmp 59) (Operand.tmp 58), type := 0, pos := "ref.go:375", after := #[{ on := 21, ground := Ground.data }, { on := 20, ground := Ground.data }, { on := 20, ground := Ground.chain }, { on := 0, ground := Ground.phase }, { on := 1, ground := Ground.phase }, { on := 2, ground := Ground.phase }, { on := 3, ground := Ground.phase }, { on := 4, ground := Ground.phase }, { on := 5, ground := Ground.phase }, { on := 6, ground := Ground.phase }, { on := 7, ground := Ground.phase }, { on := 8, ground := Ground.phase }, { on := 9, ground := Ground.phase }, { on := 10, ground := Ground.phase }, { on := 11, ground := Ground.phase }, { on := 12, ground := Ground.phase }, { on := 13, ground := Ground.phase }, { on := 14, ground := Ground.phase }, { on := 15, ground := Ground.phase }, { on := 16, ground := Ground.phase }, { on := 17, ground := Ground.phase }, { on := 18, ground := Ground.phase }, { on := 19, ground := Ground.phase }, { on := 20, ground := Ground.phase }], guard := none }) rfl ?_
    intro K' hK'
    rw [if_pos (by rfl)]
    go_simp
    (try simp only [ga, gb])
    (try go_simp)
    exact hK' _ _ ⟨f, rfl, hJ.others, g, cap, t, hP, hJ.arg.setCell (p := ⟨M, 0, none⟩) hBM _, hJ.box.set hsz _, ho.set⟩
  · rintro f w ⟨ho, g, cap, t, hP, h1, h2, h3⟩
    rw [over_eq ho]
    exact fin f w g cap t hP h1 h2 h3
end Go.Proofs.YtanpjbbhhofkfaaDoor
