/- A round of the reference's Copy: an element segment. -/
import Derived.Test.YtanpjbbhhofkfaaDoorCk
namespace Go.Proofs.YtanpjbbhhofkfaaDoor
open Go.RowKit
set_option linter.unusedVariables false
set_option linter.unusedSimpArgs false

theorem one_in {w : World} {h : Nat} {op x y n : Int} {ls : List Int} {body els : Il} {a4 : Option Addr} {k4 : Nat} {a5 : Option Addr} {k5 : Nat} {a6 : Option Addr} {k6 : Nat}
    (hc : ∀ j u, ([.int .i64 op, .int .i64 x, .int .i64 y, .int .i64 n, .slice a4 ls.length k4, .slice a5 body.len k5, .slice a6 els.len k6] : List Value)[j]? = some u → w.cell? ⟨h, j, none⟩ = some u)
    (i4 : IntsIn w a4 ls) (l5 : body.len ≤ 9223372036854775807) (i5 : IlIn w a5 0 body) (l6 : els.len ≤ 9223372036854775807) (i6 : IlIn w a6 0 els) : IlIn w (some ⟨h, 0, none⟩) 0 (.cons op x y n ls body els .nil) := by
  refine .inr ⟨h, 0, rfl, ?_⟩
  have c := fun j u hj => hc j u hj
  refine ⟨⟨c 0 _ rfl, c 1 _ rfl, c 2 _ rfl, c 3 _ rfl⟩, ⟨a4, k4, c 4 _ rfl, i4⟩, ⟨a5, k5, c 5 _ rfl, l5, ?_⟩, ⟨a6, k6, c 6 _ rfl, l6, ?_⟩, trivial⟩
  · rcases i5 with e | ⟨b2, o2, e, h⟩
    · exact .inl e
    · exact .inr ⟨b2, o2, e, by simpa using h⟩
  · rcases i6 with e | ⟨b2, o2, e, h⟩
    · exact .inl e
    · exact .inr ⟨b2, o2, e, by simpa using h⟩
def ercC : Rec ERec where
  enc := eV
  ok R w t := EOk R w t
  keep R S w w' t f h := h.keep f
theorem eV_one (t : ERec) : ∀ u ∈ eV t, u.oneCell' = true := by
  intro u hu
  simp only [eV, List.mem_cons, List.mem_nil_iff, or_false] at hu
  rcases hu with rfl | rfl | rfl | rfl | rfl | rfl | rfl <;> rfl
/-- An element segment's offset and functions. -/
structure elmCT where
  t : ERec
  l : List Int
  la : Option Addr
  lc : Nat
def elmC : Rec elmCT where
  enc t := eV t.t ++ [.slice t.la t.l.length t.lc]
  ok R w t := EOk R w t.t ∧ IntsR R w t.la t.l
  keep R S w w' t f h := ⟨h.1.keep f, h.2.keep f⟩
theorem elmC_one (t : elmCT) : ∀ u ∈ elmC.enc t, u.oneCell' = true := by
  intro u hu
  rcases List.mem_append.1 hu with h | h
  · exact eV_one _ u h
  · rw [List.mem_singleton.1 h]
    rfl
theorem info58 : (Tryd.prog.info? 55).map (fun i => (i.zero, i.size, i.bytes)) = some (some (.agg #[.int .i64 0, .int .i64 0, .int .i64 0, .int .i64 0, .slice none 0 0, .slice none 0 0, .slice none 0 0, .slice none 0 0]), 8, 128) := by kernel_rfl
def ops19 : Array Oper := #[{ dst := some 126, op := Op.fieldAddr 32 (Operand.tmp 3) 8, type := 0, pos := "ref.go:386", after := #[], guard := none }, { dst := some 127, op := Op.load 29 (Operand.tmp 126), type := 29, pos := "ref.go:386", after := #[{ on := 0, ground := Ground.data }], guard := none }, { dst := some 128, op := Op.fieldAddr 32 (Operand.tmp 1) 8, type := 0, pos := "ref.go:386", after := #[], guard := none }, { dst := some 129, op := Op.load 29 (Operand.tmp 128), type := 29, pos := "ref.go:386", after := #[{ on := 2, ground := Ground.data }], guard := none }, { dst := some 130, op := Op.move (Operand.tmp 8), type := 3, pos := "ref.go:386", after := #[], guard := none }, { dst := some 131, op := Op.indexAddr 29 (Operand.tmp 129) (Operand.tmp 130), type := 0, pos := "ref.go:386", after := #[{ on := 3, ground := Ground.data }, { on := 4, ground := Ground.data }], guard := none }, { dst := some 132, op := Op.fieldAddr 55 (Operand.tmp 131) 0, type := 0, pos := "ref.go:386", after := #[{ on := 5, ground := Ground.data }], guard := none }, { dst := some 133, op := Op.load 53 (Operand.tmp 132), type := 53, pos := "ref.go:386", after := #[{ on := 6, ground := Ground.data }], guard := none }, { dst := some 134, op := Op.buildSlice 40 1 #[(0, Operand.tmp 133)], type := 40, pos := "ref.go:386", after := #[{ on := 7, ground := Ground.data }], guard := none }, { dst := some 135, op := Op.call { callee := Callee.value (Operand.func 31), args := #[Operand.tmp 134], argTypes := #[40] }, type := 40, pos := "ref.go:386", after := #[{ on := 8, ground := Ground.data }], guard := none }, { dst := some 136, op := Op.indexAddr 40 (Operand.tmp 135) (Operand.const (Value.int IntKind.i64 0)), type := 0, pos := "ref.go:386", after := #[{ on := 9, ground := Ground.data }], guard := none }, { dst := some 137, op := Op.load 53 (Operand.tmp 136), type := 53, pos := "ref.go:386", after := #[{ on := 10, ground := Ground.data }], guard := none }, { dst := some 138, op := Op.buildSlice 28 0 #[], type := 28, pos := "ref.go:386", after := #[], guard := none }, { dst := some 139, op := Op.fieldAddr 32 (Operand.tmp 1) 8, type := 0, pos := "ref.go:386", after := #[], guard := none }, { dst := some 140, op := Op.load 29 (Operand.tmp 139), type := 29, pos := "ref.go:386", after := #[{ on := 13, ground := Ground.data }], guard := none }, { dst := some 141, op := Op.move (Operand.tmp 8), type := 3, pos := "ref.go:386", after := #[], guard := none }, { dst := some 142, op := Op.indexAddr 29 (Operand.tmp 140) (Operand.tmp 141), type := 0, pos := "ref.go:386", after := #[{ on := 14, ground := Ground.data }, { on := 15, ground := Ground.data }], guard := none }, { dst := some 143, op := Op.fieldAddr 55 (Operand.tmp 142) 1, type := 0, pos := "ref.go:386", after := #[{ on := 16, ground := Ground.data }], guard := none }, { dst := some 144, op := Op.load 28 (Operand.tmp 143), type := 28, pos := "ref.go:386", after := #[{ on := 17, ground := Ground.data }], guard := none }, { dst := some 145, op := Op.call { callee := Callee.builtin Builtin.append, args := #[Operand.tmp 138, Operand.tmp 144], argTypes := #[28, 28] }, type := 28, pos := "ref.go:386", after := #[{ on := 12, ground := Ground.data }, { on := 18, ground := Ground.data }, { on := 9, ground := Ground.chain }], guard := none }, { dst := some 146, op := Op.build 55 #[(0, Operand.tmp 137), (1, Operand.tmp 145)], type := 55, pos := "ref.go:386", after := #[{ on := 11, ground := Ground.data }, { on := 19, ground := Ground.data }], guard := none }, { dst := some 147, op := Op.buildSlice 29 1 #[(0, Operand.tmp 146)], type := 29, pos := "ref.go:386", after := #[{ on := 20, ground := Ground.data }], guard := none }, { dst := some 148, op := Op.call { callee := Callee.builtin Builtin.append, args := #[Operand.tmp 127, Operand.tmp 147], argTypes := #[29, 29] }, type := 29, pos := "ref.go:386", after := #[{ on := 1, ground := Ground.data }, { on := 21, ground := Ground.data }, { on := 19, ground := Ground.chain }], guard := none }, { dst := some 149, op := Op.fieldAddr 32 (Operand.tmp 3) 8, type := 0, pos := "ref.go:386", after := #[{ on := 0, ground := Ground.phase }, { on := 1, ground := Ground.phase }, { on := 2, ground := Ground.phase }, { on := 3, ground := Ground.phase }, { on := 4, ground := Ground.phase }, { on := 5, ground := Ground.phase }, { on := 6, ground := Ground.phase }, { on := 7, ground := Ground.phase }, { on := 8, ground := Ground.phase }, { on := 9, ground := Ground.phase }, { on := 10, ground := Ground.phase }, { on := 11, ground := Ground.phase }, { on := 12, ground := Ground.phase }, { on := 13, ground := Ground.phase }, { on := 14, ground := Ground.phase }, { on := 15, ground := Ground.phase }, { on := 16, ground := Ground.phase }, { on := 17, ground := Ground.phase }, { on := 18, ground := Ground.phase }, { on := 19, ground := Ground.phase }, { on := 20, ground := Ground.phase }, { on := 21, ground := Ground.phase }, { on := 22, ground := Ground.phase }], guard := none }, { dst := none, op := Op.store 29 (Operand.tmp 149) (Operand.tmp 148), type := 0, pos := "ref.go:386", after := #[{ on := 23, ground := Ground.data }, { on := 22, ground := Ground.data }, { on := 22, ground := Ground.chain }, { on := 0, ground := Ground.phase }, { on := 1, ground := Ground.phase }, { on := 2, ground := Ground.phase }, { on := 3, ground := Ground.phase }, { on := 4, ground := Ground.phase }, { on := 5, ground := Ground.phase }, { on := 6, ground := Ground.phase }, { on := 7, ground := Ground.phase }, { on := 8, ground := Ground.phase }, { on := 9, ground := Ground.phase }, { on := 10, ground := Ground.phase }, { on := 11, ground := Ground.phase }, { on := 12, ground := Ground.phase }, { on := 13, ground := Ground.phase }, { on := 14, ground := Ground.phase }, { on := 15, ground := Ground.phase }, { on := 16, ground := Ground.phase }, { on := 17, ground := Ground.phase }, { on := 18, ground := Ground.phase }, { on := 19, ground := Ground.phase }, { on := 20, ground := Ground.phase }, { on := 21, ground := Ground.phase }, { on := 22, ground := Ground.phase }], guard := none }]
def D19 (j : Nat) : Nat := 126 + j
theorem D19_in : ∀ j, j < 24 → 126 ≤ D19 j ∧ D19 j ≤ 149 := by
  intro j hj
  unfold D19
  omega
theorem D19_inj {j q : Nat} (h : D19 q = D19 j) : q = j := by
  unfold D19 at h
  omega
theorem low19 : ∀ i, i < ops19.size → ((ops19[i]?).map fun o => o.after.all fun e => decide (e.on < i)) = some true := by
  have h : ∀ i : Fin 25, ((ops19[i.val]?).map fun o => o.after.all fun e => decide (e.on < i.val)) = some true := by decide +kernel
  exact fun i hi => h ⟨i, hi⟩
theorem last19 : ∀ j, j < 24 → ((ops19[24]?).map fun o => o.after.any fun e => decide (e.on = j) && Region.binds .any e) = some true := by
  have h : ∀ j : Fin 24, ((ops19[24]?).map fun o => o.after.any fun e => decide (e.on = j.val) && Region.binds .any e) = some true := by decide +kernel
  exact fun i hi => h ⟨i, hi⟩
def R19 (L : Nat) (M H b o N k0 i : Nat) (v0 : Value) (op x y n : Int) (ls : List Int) (body els : Il) (a4 : Option Addr) (k4 : Nat) (a5 : Option Addr) (k5 : Nat) (a6 : Option Addr) (k6 : Nat) (l : List Int) (la : Option Addr) (lc : Nat) : Nat → MR L
  | 0 => mEq L (.pointer (some ⟨M, 8, none⟩))
  | 1 => mEq L (v0)
  | 2 => mEq L (.pointer (some ⟨H, 8, none⟩))
  | 3 => mEq L (.slice (some ⟨b, o, none⟩) N k0)
  | 4 => mEq L (.int .i64 (i : Int))
  | 5 => mEq L (.pointer (some ⟨b, o + i * 8, none⟩))
  | 6 => mEq L (.pointer (some ⟨b, o + i * 8, none⟩))
  | 7 => mEq L (.agg #[.int .i64 op, .int .i64 x, .int .i64 y, .int .i64 n, .slice a4 ls.length k4, .slice a5 body.len k5, .slice a6 els.len k6])
  | 8 => mCells L [.int .i64 op, .int .i64 x, .int .i64 y, .int .i64 n, .slice a4 ls.length k4, .slice a5 body.len k5, .slice a6 els.len k6]
  | 9 => mIl L (.cons op x y n ls body els .nil)
  | 10 => mElP L (.cons op x y n ls body els .nil)
  | 11 => mRec L ercC (fun t => ilOf [t] .nil = .cons op x y n ls body els .nil)
  | 12 => mNew L
  | 13 => mEq L (.pointer (some ⟨H, 8, none⟩))
  | 14 => mEq L (.slice (some ⟨b, o, none⟩) N k0)
  | 15 => mEq L (.int .i64 (i : Int))
  | 16 => mEq L (.pointer (some ⟨b, o + i * 8, none⟩))
  | 17 => mEq L (.pointer (some ⟨b, o + i * 8 + 7, none⟩))
  | 18 => mEq L (.slice la l.length lc)
  | 19 => mInts L (l)
  | 20 => mRec L elmC (fun t => ilOf [t.t] .nil = .cons op x y n ls body els .nil ∧ t.l = l)
  | 21 => mRow L elmC (fun t => ilOf [t.t] .nil = .cons op x y n ls body els .nil ∧ t.l = l)
  | 22 => mEq L undef
  | 23 => mEq L (.pointer (some ⟨M, 8, none⟩))
  | _ => mEq L undef
set_option maxRecDepth 100000 in
set_option maxHeartbeats 4000000 in
theorem reg19 {Q : Exit → Act → World → Prop} {f0 : Nat → Value} {w1 V : World} (S : St) {B M : Nat} {vs : Array Value} {v0 : Value} {i : Nat} {ts : List elmCT} {H b o N k0 : Nat} {op x y n : Int} {ls : List Int} {body els : Il} {a4 : Option Addr} {k4 : Nat} {a5 : Option Addr} {k5 : Nat} {a6 : Option Addr} {k6 : Nat} {l : List Int} {la : Option Addr} {lc : Nat}
    (hmix : Tryd.prog.follows .mixedOrders = true) (hB : w1.heap.size = B) (hBM : B ≤ M) (arg : Below B w1 V) (box : NBox M V vs) (hvs : vs[8]? = some v0) (own : OwnS elmC S 55 8 B M V v0 i ts)
    (f1 : f0 1 = .pointer (some ⟨H, 0, none⟩)) (f3 : f0 3 = .pointer (some ⟨M, 0, none⟩)) (fi : f0 8 = .int .i64 (i : Int))
    (c0 : w1.cell? ⟨H, 8, none⟩ = some (.slice (some ⟨b, o, none⟩) N k0)) (hiN : i < N) (hN : N ≤ 5000)
    (q0 : w1.cell? ⟨b, o + i * 8, none⟩ = some (.int .i64 op)) (q1 : w1.cell? ⟨b, o + i * 8 + 1, none⟩ = some (.int .i64 x)) (q2 : w1.cell? ⟨b, o + i * 8 + 2, none⟩ = some (.int .i64 y)) (q3 : w1.cell? ⟨b, o + i * 8 + 3, none⟩ = some (.int .i64 n))
    (q4 : w1.cell? ⟨b, o + i * 8 + 4, none⟩ = some (.slice a4 ls.length k4)) (q5 : w1.cell? ⟨b, o + i * 8 + 5, none⟩ = some (.slice a5 body.len k5)) (q6 : w1.cell? ⟨b, o + i * 8 + 6, none⟩ = some (.slice a6 els.len k6))
    (i4 : IntsIn w1 a4 ls) (l5 : body.len ≤ 9223372036854775807) (i5 : IlIn w1 a5 0 body) (l6 : els.len ≤ 9223372036854775807) (i6 : IlIn w1 a6 0 els) (hsm : Sml (.cons op x y n ls body els .nil))
    (cl : w1.cell? ⟨b, o + i * 8 + 7, none⟩ = some (.slice la l.length lc)) (il : IntsIn w1 la l) (hl' : l.length ≤ 40000)
    (fin : ∀ f w g cap t, (fun t => ilOf [t.t] .nil = .cons op x y n ls body els .nil ∧ t.l = l) t → Below B w1 w → NBox M w (vs.setIfInBounds 8 (.slice (some ⟨g, 0, none⟩) (i + 1) cap)) → OwnS elmC S 55 8 B M w (.slice (some ⟨g, 0, none⟩) (i + 1) cap) (i + 1) (ts ++ [t]) → Q .normal (Fn 180 (over f0 f 126 149)) w) :
    (Code.region 19 ops19 true).wp Tryd.prog Q (Fn 180 f0) V := by
  have hBL : B ≤ V.heap.size := by rw [← hB]; exact arg.size
  have hML : M < V.heap.size := box.hi
  have hoL : ∀ q, v0.ownBlock = some q → q < V.heap.size := fun q e => (own.own.lt q e).2
  refine region_inv hmix 180 24 rfl (fun listed f w => JJ elmC S 55 8 B M V.heap.size w1 vs v0 i ts (fun t => ilOf [t.t] .nil = .cons op x y n ls body els .nil ∧ t.l = l) (R19 V.heap.size M H b o N k0 i v0 op x y n ls body els a4 k4 a5 k5 a6 k6 l la lc) D19 126 149 22 24 f0 listed f w)
    (fun f w => (∀ t, ¬ (126 ≤ t ∧ t ≤ 149) → f t = f0 t) ∧ ∃ g cap t, (fun t => ilOf [t.t] .nil = .cons op x y n ls body els .nil ∧ t.l = l) t ∧ Below B w1 w ∧ NBox M w (vs.setIfInBounds 8 (.slice (some ⟨g, 0, none⟩) (i + 1) cap)) ∧ OwnS elmC S 55 8 B M w (.slice (some ⟨g, 0, none⟩) (i + 1) cap) (i + 1) (ts ++ [t])) low19 last19 ?_ ?_ ?_ ?_
  · refine ⟨fun _ _ => rfl, arg.drew, Nat.le_refl _, box.below (Below.refl _ _).drew, fun _ => own.below (Below.refl _ _).drew, fun j hj hjk hl => ?_, fun hl => ?_⟩
    all_goals
      rw [Array.getD_eq_getD_getElem?, Array.getElem?_replicate] at hl
      split at hl <;> cases hl
  · intro i' o hi ho listed f w hsz hl hall hJ
    have f1 : f 1 = _ := (hJ.others 1 (by decide)).trans f1
    have f3 : f 3 = _ := (hJ.others 3 (by decide)).trans f3
    have fi : f 8 = _ := (hJ.others 8 (by decide)).trans fi
    have kw := hJ.keeps hB
    have g1 := (fn_get (n := 180) (f := f) (t := 1) (by decide)).trans f1
    have g3 := (fn_get (n := 180) (f := f) (t := 3) (by decide)).trans f3
    have gi := (fn_get (n := 180) (f := f) (t := 8) (by decide)).trans fi
    match i', ho with
    | 0, ho =>
      obtain rfl : o = { dst := some 126, op := Op.fieldAddr 32 (Operand.tmp 3) 8, type := 0, pos := "ref.go:386", after := #[], guard := none } := Option.some.inj (ho.symm.trans rfl)
      refine wpOp_step (o := { dst := some 126, op := Op.fieldAddr 32 (Operand.tmp 3) 8, type := 0, pos := "ref.go:386", after := #[], guard := none }) rfl ?_
      intro K' hK'
      rw [if_pos (by rfl)]
      go_simp
      (try simp only [g3])
      (try go_simp)
      exact hK' _ _ ⟨_, fn_set _ _, hJ.next hBL 0 (by decide) (by decide) (D19_in 0 (by decide)) (fun q _ h => D19_inj h) (by decide) (Below.refl _ _) (rfl)⟩
    | 1, ho =>
      obtain rfl : o = { dst := some 127, op := Op.load 29 (Operand.tmp 126), type := 29, pos := "ref.go:386", after := #[{ on := 0, ground := Ground.data }], guard := none } := Option.some.inj (ho.symm.trans rfl)
      refine wpOp_step (o := { dst := some 127, op := Op.load 29 (Operand.tmp 126), type := 29, pos := "ref.go:386", after := #[{ on := 0, ground := Ground.data }], guard := none }) rfl ?_
      intro K' hK'
      have l0 : listed.getD 0 false = true := hall ⟨0, .data⟩ (by simp) rfl
      have e0 : f 126 = .pointer (some ⟨M, 8, none⟩) := hJ.r 0 (by decide) (by decide) l0
      have g0 := (fn_get (n := 180) (f := f) (t := 126) (by decide)).trans e0
      have hc := hJ.box.cells 8 _ hvs
      rw [if_pos (by rfl)]
      go_simp
      (try simp only [g0])
      (try go_simp)
      exact hK' _ _ ⟨_, fn_set _ _, hJ.next hBL 1 (by decide) (by decide) (D19_in 1 (by decide)) (fun q _ h => D19_inj h) (by decide) (Below.refl _ _) (rfl)⟩
    | 2, ho =>
      obtain rfl : o = { dst := some 128, op := Op.fieldAddr 32 (Operand.tmp 1) 8, type := 0, pos := "ref.go:386", after := #[], guard := none } := Option.some.inj (ho.symm.trans rfl)
      refine wpOp_step (o := { dst := some 128, op := Op.fieldAddr 32 (Operand.tmp 1) 8, type := 0, pos := "ref.go:386", after := #[], guard := none }) rfl ?_
      intro K' hK'
      rw [if_pos (by rfl)]
      go_simp
      (try simp only [g1])
      (try go_simp)
      exact hK' _ _ ⟨_, fn_set _ _, hJ.next hBL 2 (by decide) (by decide) (D19_in 2 (by decide)) (fun q _ h => D19_inj h) (by decide) (Below.refl _ _) (rfl)⟩
    | 3, ho =>
      obtain rfl : o = { dst := some 129, op := Op.load 29 (Operand.tmp 128), type := 29, pos := "ref.go:386", after := #[{ on := 2, ground := Ground.data }], guard := none } := Option.some.inj (ho.symm.trans rfl)
      refine wpOp_step (o := { dst := some 129, op := Op.load 29 (Operand.tmp 128), type := 29, pos := "ref.go:386", after := #[{ on := 2, ground := Ground.data }], guard := none }) rfl ?_
      intro K' hK'
      have l2 : listed.getD 2 false = true := hall ⟨2, .data⟩ (by simp) rfl
      have e2 : f 128 = .pointer (some ⟨H, 8, none⟩) := hJ.r 2 (by decide) (by decide) l2
      have g2 := (fn_get (n := 180) (f := f) (t := 128) (by decide)).trans e2
      have hc := kw _ _ c0
      rw [if_pos (by rfl)]
      go_simp
      (try simp only [g2])
      (try go_simp)
      exact hK' _ _ ⟨_, fn_set _ _, hJ.next hBL 3 (by decide) (by decide) (D19_in 3 (by decide)) (fun q _ h => D19_inj h) (by decide) (Below.refl _ _) (rfl)⟩
    | 4, ho =>
      obtain rfl : o = { dst := some 130, op := Op.move (Operand.tmp 8), type := 3, pos := "ref.go:386", after := #[], guard := none } := Option.some.inj (ho.symm.trans rfl)
      refine wpOp_step (o := { dst := some 130, op := Op.move (Operand.tmp 8), type := 3, pos := "ref.go:386", after := #[], guard := none }) rfl ?_
      intro K' hK'
      rw [if_pos (by rfl)]
      go_simp
      (try simp only [gi])
      (try go_simp)
      exact hK' _ _ ⟨_, fn_set _ _, hJ.next hBL 4 (by decide) (by decide) (D19_in 4 (by decide)) (fun q _ h => D19_inj h) (by decide) (Below.refl _ _) (rfl)⟩
    | 5, ho =>
      obtain rfl : o = { dst := some 131, op := Op.indexAddr 29 (Operand.tmp 129) (Operand.tmp 130), type := 0, pos := "ref.go:386", after := #[{ on := 3, ground := Ground.data }, { on := 4, ground := Ground.data }], guard := none } := Option.some.inj (ho.symm.trans rfl)
      refine wpOp_step (o := { dst := some 131, op := Op.indexAddr 29 (Operand.tmp 129) (Operand.tmp 130), type := 0, pos := "ref.go:386", after := #[{ on := 3, ground := Ground.data }, { on := 4, ground := Ground.data }], guard := none }) rfl ?_
      intro K' hK'
      have l3 : listed.getD 3 false = true := hall ⟨3, .data⟩ (by simp) rfl
      have e3 : f 129 = .slice (some ⟨b, o, none⟩) N k0 := hJ.r 3 (by decide) (by decide) l3
      have l4 : listed.getD 4 false = true := hall ⟨4, .data⟩ (by simp) rfl
      have e4 : f 130 = .int .i64 (i : Int) := hJ.r 4 (by decide) (by decide) l4
      have g3 := (fn_get (n := 180) (f := f) (t := 129) (by decide)).trans e3
      have g4 := (fn_get (n := 180) (f := f) (t := 130) (by decide)).trans e4
      rw [if_pos (by rfl)]
      go_simp
      (try simp only [g3, g4])
      (try go_simp)
      exact hK' _ _ ⟨_, fn_set _ _, hJ.next hBL 5 (by decide) (by decide) (D19_in 5 (by decide)) (fun q _ h => D19_inj h) (by decide) (Below.refl _ _) (rfl)⟩
    | 6, ho =>
      obtain rfl : o = { dst := some 132, op := Op.fieldAddr 55 (Operand.tmp 131) 0, type := 0, pos := "ref.go:386", after := #[{ on := 5, ground := Ground.data }], guard := none } := Option.some.inj (ho.symm.trans rfl)
      refine wpOp_step (o := { dst := some 132, op := Op.fieldAddr 55 (Operand.tmp 131) 0, type := 0, pos := "ref.go:386", after := #[{ on := 5, ground := Ground.data }], guard := none }) rfl ?_
      intro K' hK'
      have l5 : listed.getD 5 false = true := hall ⟨5, .data⟩ (by simp) rfl
      have e5 : f 131 = .pointer (some ⟨b, o + i * 8, none⟩) := hJ.r 5 (by decide) (by decide) l5
      have g5 := (fn_get (n := 180) (f := f) (t := 131) (by decide)).trans e5
      rw [if_pos (by rfl)]
      go_simp
      (try simp only [g5])
      (try go_simp)
      exact hK' _ _ ⟨_, fn_set _ _, hJ.next hBL 6 (by decide) (by decide) (D19_in 6 (by decide)) (fun q _ h => D19_inj h) (by decide) (Below.refl _ _) (rfl)⟩
    | 7, ho =>
      obtain rfl : o = { dst := some 133, op := Op.load 53 (Operand.tmp 132), type := 53, pos := "ref.go:386", after := #[{ on := 6, ground := Ground.data }], guard := none } := Option.some.inj (ho.symm.trans rfl)
      refine wpOp_step (o := { dst := some 133, op := Op.load 53 (Operand.tmp 132), type := 53, pos := "ref.go:386", after := #[{ on := 6, ground := Ground.data }], guard := none }) rfl ?_
      intro K' hK'
      have l6 : listed.getD 6 false = true := hall ⟨6, .data⟩ (by simp) rfl
      have e6 : f 132 = .pointer (some ⟨b, o + i * 8, none⟩) := hJ.r 6 (by decide) (by decide) l6
      have g6 := (fn_get (n := 180) (f := f) (t := 132) (by decide)).trans e6
      have z0 := kw _ _ q0
      have z1 := kw _ _ q1
      have z2 := kw _ _ q2
      have z3 := kw _ _ q3
      have z4 := kw _ _ q4
      have z5 := kw _ _ q5
      have z6 := kw _ _ q6
      rw [if_pos (by rfl)]
      go_simp
      (try simp only [g6])
      (try go_simp)
      exact hK' _ _ ⟨_, fn_set _ _, hJ.next hBL 7 (by decide) (by decide) (D19_in 7 (by decide)) (fun q _ h => D19_inj h) (by decide) (Below.refl _ _) (rfl)⟩
    | 8, ho =>
      obtain rfl : o = { dst := some 134, op := Op.buildSlice 40 1 #[(0, Operand.tmp 133)], type := 40, pos := "ref.go:386", after := #[{ on := 7, ground := Ground.data }], guard := none } := Option.some.inj (ho.symm.trans rfl)
      refine wpOp_step (o := { dst := some 134, op := Op.buildSlice 40 1 #[(0, Operand.tmp 133)], type := 40, pos := "ref.go:386", after := #[{ on := 7, ground := Ground.data }], guard := none }) rfl ?_
      intro K' hK'
      have l7 : listed.getD 7 false = true := hall ⟨7, .data⟩ (by simp) rfl
      have e7 : f 133 = .agg #[.int .i64 op, .int .i64 x, .int .i64 y, .int .i64 n, .slice a4 ls.length k4, .slice a5 body.len k5, .slice a6 els.len k6] := hJ.r 7 (by decide) (by decide) l7
      have g7 := (fn_get (n := 180) (f := f) (t := 133) (by decide)).trans e7
      rw [if_pos (by rfl)]
      go_simp
      (try simp only [g7])
      (try go_simp)
      exact hK' _ _ ⟨_, fn_set _ _, hJ.next hBL 8 (by decide) (by decide) (D19_in 8 (by decide)) (fun q _ h => D19_inj h) (by decide) ((Below.refl _ _).alloc (Nat.le_refl _) _) (⟨_, rfl, hJ.lsz, fun j u hj => (World.cell?_alloc_at _ _ _ j rfl).trans (by rw [← hj, ← List.getElem?_toArray])⟩)⟩
    | 9, ho =>
      obtain rfl : o = { dst := some 135, op := Op.call { callee := Callee.value (Operand.func 31), args := #[Operand.tmp 134], argTypes := #[40] }, type := 40, pos := "ref.go:386", after := #[{ on := 8, ground := Ground.data }], guard := none } := Option.some.inj (ho.symm.trans rfl)
      refine wpOp_step (o := { dst := some 135, op := Op.call { callee := Callee.value (Operand.func 31), args := #[Operand.tmp 134], argTypes := #[40] }, type := 40, pos := "ref.go:386", after := #[{ on := 8, ground := Ground.data }], guard := none }) rfl ?_
      intro K' hK'
      have l8 : listed.getD 8 false = true := hall ⟨8, .data⟩ (by simp) rfl
      have e8 : ∃ h, f 134 = .slice (some ⟨h, 0, none⟩) 1 1 ∧ V.heap.size ≤ h ∧ ∀ j u, ([.int .i64 op, .int .i64 x, .int .i64 y, .int .i64 n, .slice a4 ls.length k4, .slice a5 body.len k5, .slice a6 els.len k6] : List Value)[j]? = some u → w.cell? ⟨h, j, none⟩ = some u := hJ.r 8 (by decide) (by decide) l8
      obtain ⟨h0, e8, hL, hcells⟩ := e8
      have g8 := (fn_get (n := 180) (f := f) (t := 134) (by decide)).trans e8
      rw [if_pos (by rfl)]
      go_simp
      (try simp only [g8])
      go_at_call 31
      refine (copies_any (.cons op x y n ls body els .nil) _ _ w (by simp [Il.len]) hsm (one_in hcells (i4.keep kw) l5 (i5.keep kw) l6 (i6.keep kw))).mono ?_
      rintro e u ⟨ao, c, rfl, hR, hb⟩
      go_simp
      exact hK' _ _ ⟨_, fn_set _ _, hJ.next hBL 9 (by decide) (by decide) (D19_in 9 (by decide)) (fun q _ h => D19_inj h) (by decide) (hb) (⟨ao, c, rfl, hR.keep ⟨fun _ _ _ h => h, fun b hb _ => Nat.le_trans hJ.lsz hb⟩⟩)⟩
    | 10, ho =>
      obtain rfl : o = { dst := some 136, op := Op.indexAddr 40 (Operand.tmp 135) (Operand.const (Value.int IntKind.i64 0)), type := 0, pos := "ref.go:386", after := #[{ on := 9, ground := Ground.data }], guard := none } := Option.some.inj (ho.symm.trans rfl)
      refine wpOp_step (o := { dst := some 136, op := Op.indexAddr 40 (Operand.tmp 135) (Operand.const (Value.int IntKind.i64 0)), type := 0, pos := "ref.go:386", after := #[{ on := 9, ground := Ground.data }], guard := none }) rfl ?_
      intro K' hK'
      have l9 : listed.getD 9 false = true := hall ⟨9, .data⟩ (by simp) rfl
      have e9 : ∃ a c, f 135 = .slice a (Il.len (.cons op x y n ls body els .nil)) c ∧ SlR (fun b => V.heap.size ≤ b) w a (.cons op x y n ls body els .nil) := hJ.r 9 (by decide) (by decide) l9
      obtain ⟨a, c, e9, hs | ⟨b2, o2, rfl, hb2, hs⟩⟩ := e9
      · cases hs
      have e9 : f 135 = .slice (some ⟨b2, o2, none⟩) 1 c := e9
      have g9 := (fn_get (n := 180) (f := f) (t := 135) (by decide)).trans e9
      rw [if_pos (by rfl)]
      go_simp
      (try simp only [g9])
      (try go_simp)
      exact hK' _ _ ⟨_, fn_set _ _, hJ.next hBL 10 (by decide) (by decide) (D19_in 10 (by decide)) (fun q _ h => D19_inj h) (by decide) (Below.refl _ _) (⟨b2, o2, rfl, hb2, hs⟩)⟩
    | 11, ho =>
      obtain rfl : o = { dst := some 137, op := Op.load 53 (Operand.tmp 136), type := 53, pos := "ref.go:386", after := #[{ on := 10, ground := Ground.data }], guard := none } := Option.some.inj (ho.symm.trans rfl)
      refine wpOp_step (o := { dst := some 137, op := Op.load 53 (Operand.tmp 136), type := 53, pos := "ref.go:386", after := #[{ on := 10, ground := Ground.data }], guard := none }) rfl ?_
      intro K' hK'
      have l10 : listed.getD 10 false = true := hall ⟨10, .data⟩ (by simp) rfl
      have e10 : ∃ b o, f 136 = .pointer (some ⟨b, o, none⟩) ∧ V.heap.size ≤ b ∧ IlR (fun b => V.heap.size ≤ b) w b o (.cons op x y n ls body els .nil) := hJ.r 10 (by decide) (by decide) l10
      obtain ⟨b2, o2, e10, hb2, hs⟩ := e10
      have g10 := (fn_get (n := 180) (f := f) (t := 136) (by decide)).trans e10
      obtain ⟨⟨z0, z1, z2, z3⟩, ⟨x4, y4, z4, r4⟩, ⟨x5, y5, z5, m5, r5⟩, ⟨x6, y6, z6, m6, r6⟩, _⟩ := hs
      rw [if_pos (by rfl)]
      go_simp
      (try simp only [g10])
      (try go_simp)
      exact hK' _ _ ⟨_, fn_set _ _, hJ.next hBL 11 (by decide) (by decide) (D19_in 11 (by decide)) (fun q _ h => D19_inj h) (by decide) (Below.refl _ _) (⟨⟨op, x, y, n, ls, body, els, x4, y4, x5, y5, x6, y6⟩, rfl, ⟨r4, m5, r5, m6, r6⟩, rfl⟩)⟩
    | 12, ho =>
      obtain rfl : o = { dst := some 138, op := Op.buildSlice 28 0 #[], type := 28, pos := "ref.go:386", after := #[], guard := none } := Option.some.inj (ho.symm.trans rfl)
      refine wpOp_step (o := { dst := some 138, op := Op.buildSlice 28 0 #[], type := 28, pos := "ref.go:386", after := #[], guard := none }) rfl ?_
      intro K' hK'
      rw [if_pos (by rfl)]
      go_simp
      exact hK' _ _ ⟨_, fn_set _ _, hJ.next hBL 12 (by decide) (by decide) (D19_in 12 (by decide)) (fun q _ h => D19_inj h) (by decide) ((Below.refl _ _).alloc (Nat.le_refl _) _) (⟨_, rfl, hJ.lsz⟩)⟩
    | 13, ho =>
      obtain rfl : o = { dst := some 139, op := Op.fieldAddr 32 (Operand.tmp 1) 8, type := 0, pos := "ref.go:386", after := #[], guard := none } := Option.some.inj (ho.symm.trans rfl)
      refine wpOp_step (o := { dst := some 139, op := Op.fieldAddr 32 (Operand.tmp 1) 8, type := 0, pos := "ref.go:386", after := #[], guard := none }) rfl ?_
      intro K' hK'
      rw [if_pos (by rfl)]
      go_simp
      (try simp only [g1])
      (try go_simp)
      exact hK' _ _ ⟨_, fn_set _ _, hJ.next hBL 13 (by decide) (by decide) (D19_in 13 (by decide)) (fun q _ h => D19_inj h) (by decide) (Below.refl _ _) (rfl)⟩
    | 14, ho =>
      obtain rfl : o = { dst := some 140, op := Op.load 29 (Operand.tmp 139), type := 29, pos := "ref.go:386", after := #[{ on := 13, ground := Ground.data }], guard := none } := Option.some.inj (ho.symm.trans rfl)
      refine wpOp_step (o := { dst := some 140, op := Op.load 29 (Operand.tmp 139), type := 29, pos := "ref.go:386", after := #[{ on := 13, ground := Ground.data }], guard := none }) rfl ?_
      intro K' hK'
      have l13 : listed.getD 13 false = true := hall ⟨13, .data⟩ (by simp) rfl
      have e13 : f 139 = .pointer (some ⟨H, 8, none⟩) := hJ.r 13 (by decide) (by decide) l13
      have g13 := (fn_get (n := 180) (f := f) (t := 139) (by decide)).trans e13
      have hc := kw _ _ c0
      rw [if_pos (by rfl)]
      go_simp
      (try simp only [g13])
      (try go_simp)
      exact hK' _ _ ⟨_, fn_set _ _, hJ.next hBL 14 (by decide) (by decide) (D19_in 14 (by decide)) (fun q _ h => D19_inj h) (by decide) (Below.refl _ _) (rfl)⟩
    | 15, ho =>
      obtain rfl : o = { dst := some 141, op := Op.move (Operand.tmp 8), type := 3, pos := "ref.go:386", after := #[], guard := none } := Option.some.inj (ho.symm.trans rfl)
      refine wpOp_step (o := { dst := some 141, op := Op.move (Operand.tmp 8), type := 3, pos := "ref.go:386", after := #[], guard := none }) rfl ?_
      intro K' hK'
      rw [if_pos (by rfl)]
      go_simp
      (try simp only [gi])
      (try go_simp)
      exact hK' _ _ ⟨_, fn_set _ _, hJ.next hBL 15 (by decide) (by decide) (D19_in 15 (by decide)) (fun q _ h => D19_inj h) (by decide) (Below.refl _ _) (rfl)⟩
    | 16, ho =>
      obtain rfl : o = { dst := some 142, op := Op.indexAddr 29 (Operand.tmp 140) (Operand.tmp 141), type := 0, pos := "ref.go:386", after := #[{ on := 14, ground := Ground.data }, { on := 15, ground := Ground.data }], guard := none } := Option.some.inj (ho.symm.trans rfl)
      refine wpOp_step (o := { dst := some 142, op := Op.indexAddr 29 (Operand.tmp 140) (Operand.tmp 141), type := 0, pos := "ref.go:386", after := #[{ on := 14, ground := Ground.data }, { on := 15, ground := Ground.data }], guard := none }) rfl ?_
      intro K' hK'
      have l14 : listed.getD 14 false = true := hall ⟨14, .data⟩ (by simp) rfl
      have e14 : f 140 = .slice (some ⟨b, o, none⟩) N k0 := hJ.r 14 (by decide) (by decide) l14
      have l15 : listed.getD 15 false = true := hall ⟨15, .data⟩ (by simp) rfl
      have e15 : f 141 = .int .i64 (i : Int) := hJ.r 15 (by decide) (by decide) l15
      have g14 := (fn_get (n := 180) (f := f) (t := 140) (by decide)).trans e14
      have g15 := (fn_get (n := 180) (f := f) (t := 141) (by decide)).trans e15
      rw [if_pos (by rfl)]
      go_simp
      (try simp only [g14, g15])
      (try go_simp)
      exact hK' _ _ ⟨_, fn_set _ _, hJ.next hBL 16 (by decide) (by decide) (D19_in 16 (by decide)) (fun q _ h => D19_inj h) (by decide) (Below.refl _ _) (rfl)⟩
    | 17, ho =>
      obtain rfl : o = { dst := some 143, op := Op.fieldAddr 55 (Operand.tmp 142) 1, type := 0, pos := "ref.go:386", after := #[{ on := 16, ground := Ground.data }], guard := none } := Option.some.inj (ho.symm.trans rfl)
      refine wpOp_step (o := { dst := some 143, op := Op.fieldAddr 55 (Operand.tmp 142) 1, type := 0, pos := "ref.go:386", after := #[{ on := 16, ground := Ground.data }], guard := none }) rfl ?_
      intro K' hK'
      have l16 : listed.getD 16 false = true := hall ⟨16, .data⟩ (by simp) rfl
      have e16 : f 142 = .pointer (some ⟨b, o + i * 8, none⟩) := hJ.r 16 (by decide) (by decide) l16
      have g16 := (fn_get (n := 180) (f := f) (t := 142) (by decide)).trans e16
      rw [if_pos (by rfl)]
      go_simp
      (try simp only [g16])
      (try go_simp)
      exact hK' _ _ ⟨_, fn_set _ _, hJ.next hBL 17 (by decide) (by decide) (D19_in 17 (by decide)) (fun q _ h => D19_inj h) (by decide) (Below.refl _ _) (rfl)⟩
    | 18, ho =>
      obtain rfl : o = { dst := some 144, op := Op.load 28 (Operand.tmp 143), type := 28, pos := "ref.go:386", after := #[{ on := 17, ground := Ground.data }], guard := none } := Option.some.inj (ho.symm.trans rfl)
      refine wpOp_step (o := { dst := some 144, op := Op.load 28 (Operand.tmp 143), type := 28, pos := "ref.go:386", after := #[{ on := 17, ground := Ground.data }], guard := none }) rfl ?_
      intro K' hK'
      have l17 : listed.getD 17 false = true := hall ⟨17, .data⟩ (by simp) rfl
      have e17 : f 143 = .pointer (some ⟨b, o + i * 8 + 7, none⟩) := hJ.r 17 (by decide) (by decide) l17
      have g17 := (fn_get (n := 180) (f := f) (t := 143) (by decide)).trans e17
      have hc := kw _ _ cl
      rw [if_pos (by rfl)]
      go_simp
      (try simp only [g17])
      (try go_simp)
      exact hK' _ _ ⟨_, fn_set _ _, hJ.next hBL 18 (by decide) (by decide) (D19_in 18 (by decide)) (fun q _ h => D19_inj h) (by decide) (Below.refl _ _) (rfl)⟩
    | 19, ho =>
      obtain rfl : o = { dst := some 145, op := Op.call { callee := Callee.builtin Builtin.append, args := #[Operand.tmp 138, Operand.tmp 144], argTypes := #[28, 28] }, type := 28, pos := "ref.go:386", after := #[{ on := 12, ground := Ground.data }, { on := 18, ground := Ground.data }, { on := 9, ground := Ground.chain }], guard := none } := Option.some.inj (ho.symm.trans rfl)
      refine wpOp_step (o := { dst := some 145, op := Op.call { callee := Callee.builtin Builtin.append, args := #[Operand.tmp 138, Operand.tmp 144], argTypes := #[28, 28] }, type := 28, pos := "ref.go:386", after := #[{ on := 12, ground := Ground.data }, { on := 18, ground := Ground.data }, { on := 9, ground := Ground.chain }], guard := none }) rfl ?_
      intro K' hK'
      have l12 : listed.getD 12 false = true := hall ⟨12, .data⟩ (by simp) rfl
      have e12 : ∃ h, f 138 = .slice (some ⟨h, 0, none⟩) 0 0 ∧ V.heap.size ≤ h := hJ.r 12 (by decide) (by decide) l12
      have l18 : listed.getD 18 false = true := hall ⟨18, .data⟩ (by simp) rfl
      have e18 : f 144 = .slice la l.length lc := hJ.r 18 (by decide) (by decide) l18
      obtain ⟨h0, en, hL⟩ := e12
      obtain ⟨i3, hi3, hz3, hs3, hb3⟩ := info_parts info3
      refine step_app_fresh _ rfl _ _ _ rfl 3 i3 _ 1 8 Tryd.underlying28 hi3 hz3 hs3 hb3 h0 _ (l).length (intCells (l)) (by rw [fn_eval (by decide)]; exact en) (by rw [fn_eval (by decide)]; exact e18) (src_ints (il.keep kw)) (by omega) (by omega) ?_
      intro v w' hn hb
      obtain ⟨a, c, rfl, hi'⟩ := ints_newrow hn (by omega)
      exact hK' _ _ ⟨_, fn_put _ _, hJ.next hBL 19 (by decide) (by decide) (D19_in 19 (by decide)) (fun q _ h => D19_inj h) (by decide) hb ⟨a, c, rfl, hi'.keep ⟨fun _ _ _ h => h, fun b hb _ => Nat.le_trans (Nat.le_min.2 ⟨hL, hJ.lsz⟩) hb⟩⟩⟩
    | 20, ho =>
      obtain rfl : o = { dst := some 146, op := Op.build 55 #[(0, Operand.tmp 137), (1, Operand.tmp 145)], type := 55, pos := "ref.go:386", after := #[{ on := 11, ground := Ground.data }, { on := 19, ground := Ground.data }], guard := none } := Option.some.inj (ho.symm.trans rfl)
      refine wpOp_step (o := { dst := some 146, op := Op.build 55 #[(0, Operand.tmp 137), (1, Operand.tmp 145)], type := 55, pos := "ref.go:386", after := #[{ on := 11, ground := Ground.data }, { on := 19, ground := Ground.data }], guard := none }) rfl ?_
      intro K' hK'
      have l11 : listed.getD 11 false = true := hall ⟨11, .data⟩ (by simp) rfl
      have e11 : ∃ t, f 137 = .agg (eV t).toArray ∧ EOk (fun b => V.heap.size ≤ b) w t ∧ (fun t => ilOf [t] .nil = .cons op x y n ls body els .nil) t := hJ.r 11 (by decide) (by decide) l11
      have l19 : listed.getD 19 false = true := hall ⟨19, .data⟩ (by simp) rfl
      have e19 : ∃ a c, f 145 = .slice a (l).length c ∧ IntsR (fun b => V.heap.size ≤ b) w a (l) := hJ.r 19 (by decide) (by decide) l19
      obtain ⟨t1, e11, h0, p0⟩ := e11
      have e11 : f 137 = .agg #[.int .i64 t1.op, .int .i64 t1.x, .int .i64 t1.y, .int .i64 t1.n, .slice t1.a4 t1.ls.length t1.c4, .slice t1.a5 t1.body.len t1.c5, .slice t1.a6 t1.els.len t1.c6] := e11
      obtain ⟨x1, y1, e19, h1⟩ := e19
      have g11 := (fn_get (n := 180) (f := f) (t := 137) (by decide)).trans e11
      have g19 := (fn_get (n := 180) (f := f) (t := 145) (by decide)).trans e19
      rw [if_pos (by rfl)]
      go_simp
      (try simp only [g11, g19])
      (try go_simp)
      exact hK' _ _ ⟨_, fn_set _ _, hJ.next hBL 20 (by decide) (by decide) (D19_in 20 (by decide)) (fun q _ h => D19_inj h) (by decide) (Below.refl _ _) (⟨⟨t1, l, x1, y1⟩, rfl, ⟨h0, h1⟩, p0, rfl⟩)⟩
    | 21, ho =>
      obtain rfl : o = { dst := some 147, op := Op.buildSlice 29 1 #[(0, Operand.tmp 146)], type := 29, pos := "ref.go:386", after := #[{ on := 20, ground := Ground.data }], guard := none } := Option.some.inj (ho.symm.trans rfl)
      refine wpOp_step (o := { dst := some 147, op := Op.buildSlice 29 1 #[(0, Operand.tmp 146)], type := 29, pos := "ref.go:386", after := #[{ on := 20, ground := Ground.data }], guard := none }) rfl ?_
      intro K' hK'
      have l20 : listed.getD 20 false = true := hall ⟨20, .data⟩ (by simp) rfl
      have e20 : ∃ t, f 146 = .agg (elmC.enc t).toArray ∧ elmC.ok (fun b => V.heap.size ≤ b) w t ∧ (fun t => ilOf [t.t] .nil = .cons op x y n ls body els .nil ∧ t.l = l) t := hJ.r 20 (by decide) (by decide) l20
      obtain ⟨t, et, hok, hp⟩ := e20
      replace hp := Lib.hid hp
      have et : f 146 = .agg #[.int .i64 t.t.op, .int .i64 t.t.x, .int .i64 t.t.y, .int .i64 t.t.n, .slice t.t.a4 t.t.ls.length t.t.c4, .slice t.t.a5 t.t.body.len t.t.c5, .slice t.t.a6 t.t.els.len t.t.c6, .slice t.la t.l.length t.lc] := et
      have gt := (fn_get (n := 180) (f := f) (t := 146) (by decide)).trans et
      rw [if_pos (by rfl)]
      go_simp
      (try simp only [gt])
      (try go_simp)
      exact hK' _ _ ⟨_, fn_set _ _, hJ.next hBL 21 (by decide) (by decide) (D19_in 21 (by decide)) (fun q _ h => D19_inj h) (by decide) ((Below.refl _ _).alloc (Nat.le_refl _) _) (⟨_, t, rfl, hJ.lsz, fun j u hj => (World.cell?_alloc_at _ _ _ j rfl).trans (by rw [← hj, ← List.getElem?_toArray, show elmC.enc t = [.int .i64 t.t.op, .int .i64 t.t.x, .int .i64 t.t.y, .int .i64 t.t.n, .slice t.t.a4 t.t.ls.length t.t.c4, .slice t.t.a5 t.t.body.len t.t.c5, .slice t.t.a6 t.t.els.len t.t.c6, .slice t.la t.l.length t.lc] from rfl]), elmC.keep _ _ _ _ _ (KeepsR.below ((Below.refl _ _).alloc (Nat.le_refl _) _)) hok, hp.out⟩)⟩
    | 22, ho =>
      obtain rfl : o = { dst := some 148, op := Op.call { callee := Callee.builtin Builtin.append, args := #[Operand.tmp 127, Operand.tmp 147], argTypes := #[29, 29] }, type := 29, pos := "ref.go:386", after := #[{ on := 1, ground := Ground.data }, { on := 21, ground := Ground.data }, { on := 19, ground := Ground.chain }], guard := none } := Option.some.inj (ho.symm.trans rfl)
      refine wpOp_step (o := { dst := some 148, op := Op.call { callee := Callee.builtin Builtin.append, args := #[Operand.tmp 127, Operand.tmp 147], argTypes := #[29, 29] }, type := 29, pos := "ref.go:386", after := #[{ on := 1, ground := Ground.data }, { on := 21, ground := Ground.data }, { on := 19, ground := Ground.chain }], guard := none }) rfl ?_
      intro K' hK'
      have l1 : listed.getD 1 false = true := hall ⟨1, .data⟩ (by simp) rfl
      have e1 : f 127 = v0 := hJ.r 1 (by decide) (by decide) l1
      have l21 : listed.getD 21 false = true := hall ⟨21, .data⟩ (by simp) rfl
      have e21 : ∃ h t, f 147 = .slice (some ⟨h, 0, none⟩) 1 1 ∧ V.heap.size ≤ h ∧ (∀ j u, (elmC.enc t)[j]? = some u → w.cell? ⟨h, j, none⟩ = some u) ∧ elmC.ok (fun b => V.heap.size ≤ b) w t ∧ (fun t => ilOf [t.t] .nil = .cons op x y n ls body els .nil ∧ t.l = l) t := hJ.r 21 (by decide) (by decide) l21
      obtain ⟨h0, t, er, hL, hc, hok, hp⟩ := e21
      have hsl : listed.getD 22 false = false := hl
      have hown := hJ.own hsl
      obtain ⟨ie, hie, hze, hse, hbe⟩ := info_parts info58
      refine step_append_lies _ rfl _ _ _ rfl (M + 1) 55 ie _ 8 128 Tryd.underlying29 hie hze hse hbe rfl (by omega) v0 i (ts.flatMap elmC.enc) (by rw [fn_eval (by decide)]; exact e1) hown.own
        ⟨h0, 0, none⟩ 1 1 (elmC.enc t) (by rw [fn_eval (by decide)]; exact er) (by rfl) (fun j u hj => by rw [add_cell]; exact hc j u hj) (elmC_one t) (by omega) (by unfold maxLen; omega) (by omega) (by have := hJ.lsz; omega) w.heap.size rfl ?_
      intro g cap w' ho hgrow hat hlt
      exact hK' _ _ ⟨_, fn_put _ _, hJ.nextk hBM hML hoL (D19_in 22 (by decide)) (fun q _ h => D19_inj h) (by decide) (by omega) hsl hp hok ho hgrow hat⟩
    | 23, ho =>
      obtain rfl : o = { dst := some 149, op := Op.fieldAddr 32 (Operand.tmp 3) 8, type := 0, pos := "ref.go:386", after := #[{ on := 0, ground := Ground.phase }, { on := 1, ground := Ground.phase }, { on := 2, ground := Ground.phase }, { on := 3, ground := Ground.phase }, { on := 4, ground := Ground.phase }, { on := 5, ground := Ground.phase }, { on := 6, ground := Ground.phase }, { on := 7, ground := Ground.phase }, { on := 8, ground := Ground.phase }, { on := 9, ground := Ground.phase }, { on := 10, ground := Ground.phase }, { on := 11, ground := Ground.phase }, { on := 12, ground := Ground.phase }, { on := 13, ground := Ground.phase }, { on := 14, ground := Ground.phase }, { on := 15, ground := Ground.phase }, { on := 16, ground := Ground.phase }, { on := 17, ground := Ground.phase }, { on := 18, ground := Ground.phase }, { on := 19, ground := Ground.phase }, { on := 20, ground := Ground.phase }, { on := 21, ground := Ground.phase }, { on := 22, ground := Ground.phase }], guard := none } := Option.some.inj (ho.symm.trans rfl)
      refine wpOp_step (o := { dst := some 149, op := Op.fieldAddr 32 (Operand.tmp 3) 8, type := 0, pos := "ref.go:386", after := #[{ on := 0, ground := Ground.phase }, { on := 1, ground := Ground.phase }, { on := 2, ground := Ground.phase }, { on := 3, ground := Ground.phase }, { on := 4, ground := Ground.phase }, { on := 5, ground := Ground.phase }, { on := 6, ground := Ground.phase }, { on := 7, ground := Ground.phase }, { on := 8, ground := Ground.phase }, { on := 9, ground := Ground.phase }, { on := 10, ground := Ground.phase }, { on := 11, ground := Ground.phase }, { on := 12, ground := Ground.phase }, { on := 13, ground := Ground.phase }, { on := 14, ground := Ground.phase }, { on := 15, ground := Ground.phase }, { on := 16, ground := Ground.phase }, { on := 17, ground := Ground.phase }, { on := 18, ground := Ground.phase }, { on := 19, ground := Ground.phase }, { on := 20, ground := Ground.phase }, { on := 21, ground := Ground.phase }, { on := 22, ground := Ground.phase }], guard := none }) rfl ?_
      intro K' hK'
      rw [if_pos (by rfl)]
      go_simp
      (try simp only [g3])
      (try go_simp)
      exact hK' _ _ ⟨_, fn_set _ _, hJ.next hBL 23 (by decide) (by decide) (D19_in 23 (by decide)) (fun q _ h => D19_inj h) (by decide) (Below.refl _ _) (rfl)⟩
    | n + 24, ho => exact absurd hi (by omega)
  · intro listed f w hbef hJ
    have hin := (D19_in 22 (by decide))
    obtain ⟨g, cap, t, ek, hP, ho⟩ := hJ.rk (hbef 22 (by decide))
    have e23 : f 149 = .pointer (some ⟨M, 8, none⟩) := hJ.r 23 (by decide) (by decide) (hbef 23 (by decide))
    have ek : f 148 = .slice (some ⟨g, 0, none⟩) (i + 1) cap := ek
    have ga := (fn_get (n := 180) (f := f) (t := 149) (by decide)).trans e23
    have gb := (fn_get (n := 180) (f := f) (t := 148) (by decide)).trans ek
    have hsz : 8 < vs.size := (Array.getElem?_eq_some_iff.1 hvs).1
    have hc := hJ.box.cells 8 _ hvs
    have hf := hJ.box.frozen 8
    refine wpOp_step (o := { dst := none, op := Op.store 29 (Operand.tmp 149) (Operand.tmp 148), type := 0, pos := "ref.go:386", after := #[{ on := 23, ground := Ground.data }, { on := 22, ground := Ground.data }, { on := 22, ground := Ground.chain }, { on := 0, ground := Ground.phase }, { on := 1, ground := Ground.phase }, { on := 2, ground := Ground.phase }, { on := 3, ground := Ground.phase }, { on := 4, ground := Ground.phase }, { on := 5, ground := Ground.phase }, { on := 6, ground := Ground.phase }, { on := 7, ground := Ground.phase }, { on := 8, ground := Ground.phase }, { on := 9, ground := Ground.phase }, { on := 10, ground := Ground.phase }, { on := 11, ground := Ground.phase }, { on := 12, ground := Ground.phase }, { on := 13, ground := Ground.phase }, { on := 14, ground := Ground.phase }, { on := 15, ground := Ground.phase }, { on := 16, ground := Ground.phase }, { on := 17, ground := Ground.phase }, { on := 18, ground := Ground.phase }, { on := 19, ground := Ground.phase }, { on := 20, ground := Ground.phase }, { on := 21, ground := Ground.phase }, { on := 22, ground := Ground.phase }], guard := none }) rfl ?_
    intro K' hK'
    rw [if_pos (by rfl)]
    go_simp
    (try simp only [ga, gb])
    (try go_simp)
    exact hK' _ _ ⟨f, rfl, hJ.others, g, cap, t, hP, hJ.arg.setCell (p := ⟨M, 8, none⟩) hBM _, hJ.box.set hsz _, ho.set⟩
  · rintro f w ⟨ho, g, cap, t, hP, h1, h2, h3⟩
    rw [over_eq ho]
    exact fin f w g cap t hP h1 h2 h3
end Go.Proofs.YtanpjbbhhofkfaaDoor
