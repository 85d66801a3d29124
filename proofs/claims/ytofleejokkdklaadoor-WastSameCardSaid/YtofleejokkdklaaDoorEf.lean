/- WastSame: its drawn region. -/
import Derived.Test.YtofleejokkdklaaDoorSd
import Derived.Test.YtofleejokkdklaaDoorCn
import Derived.Test.YtofleejokkdklaaDoorEe
import Derived.KernelRfl
namespace Go.Proofs.YtofleejokkdklaaDoor
open Go.RowKit
set_option linter.unusedVariables false
set_option linter.unusedSimpArgs false

/-- A module, somewhere. -/
def pvMd (m : Md) : Pv := ⟨fun v w => ∃ d0 r0 d1 r1 d2 r2 d3 r3 d4 r4 d5 r5 d6 r6 d7 r7 d8 r8 d9 r9, v = mdV m d0 r0 d1 r1 d2 r2 d3 r3 d4 r4 d5 r5 d6 r6 d7 r7 d8 r8 d9 r9 ∧ MdAt w m d0 r0 d1 r1 d2 r2 d3 r3 d4 r4 d5 r5 d6 r6 d7 r7 d8 r8 d9 r9,
  fun v w w' hb ⟨d0, r0, d1, r1, d2, r2, d3, r3, d4, r4, d5, r5, d6, r6, d7, r7, d8, r8, d9, r9, e, h⟩ => ⟨d0, r0, d1, r1, d2, r2, d3, r3, d4, r4, d5, r5, d6, r6, d7, r7, d8, r8, d9, r9, e, h.keep (keep_below hb)⟩⟩
theorem ilEq_one (q : One) : ilEq q.il q.il = true := ilEq_self _
theorem zip_self {α : Type} {f : α × α → Bool} (h : ∀ x, f (x, x) = true) : ∀ l : List α, (l.zip l).all f = true
  | [] => rfl
  | x :: l => by rw [List.zip_cons_cons, List.all_cons, h, zip_self h l]; rfl
/-- A module is like itself. -/
theorem mdSame_self (m : Md) : mdSame m m = true := by
  unfold mdSame sm0 sm1 sm2 sm3 sm4 sm5 sm6 sm7 sm8
  rw [zip_self (fun x => by simp [typQ]), zip_self (fun x => by simp [impQ]), zip_self (fun x => by simp [funQ, ilEq_self]), zip_self (fun x => by simp [limQ]), zip_self (fun x => by simp [limQ]), zip_self (fun x => by simp [gloQ, ilEq_self]), zip_self (fun x => by simp [expQ]), zip_self (fun x => by simp [elmQ, ilEq_self]), zip_self (fun x => by simp [datQ, ilEq_self])]
  simp [sizesB]
/-- The program and the reference tell the same. -/
theorem pm_same (m m' : Md) : pm0 m m' = mdSame m m' := by
  unfold mdSame sizesB
  simp only [sm0, sm1, sm2, sm3, sm4, sm5, sm6, sm7, sm8, pm0, pm1, pm2, pm3, pm4, pm5, pm6, pm7, pm8, pm9, eqB]
  rw [Bool.eq_iff_iff]
  simp only [Bool.and_eq_true, decide_eq_true_eq]
  constructor
  · rintro ⟨⟨h0, q0⟩, ⟨h1, q1⟩, ⟨h2, q2⟩, ⟨h3, q3⟩, ⟨h4, q4⟩, ⟨h5, q5⟩, ⟨h6, q6⟩, h7, ⟨h8, q8⟩, ⟨h9, q9⟩⟩
    exact ⟨⟨h0, h1, h2, h3, h4, h5, h6, h7, h8, h9⟩, q0, q1, q2, q3, q4, q5, q6, q8, q9⟩
  · rintro ⟨⟨h0, h1, h2, h3, h4, h5, h6, h7, h8, h9⟩, q0, q1, q2, q3, q4, q5, q6, q8, q9⟩
    exact ⟨⟨h0, q0⟩, ⟨h1, q1⟩, ⟨h2, q2⟩, ⟨h3, q3⟩, ⟨h4, q4⟩, ⟨h5, q5⟩, ⟨h6, q6⟩, h7, ⟨h8, q8⟩, ⟨h9, q9⟩⟩
theorem pm_self (m : Md) : pm0 m m = true := (pm_same m m).trans (mdSame_self m)
def opsF7 : Array Oper := #[{ dst := some 12, op := Op.load 36 (Operand.tmp 2), type := 36, pos := "law.go:101", after := #[], guard := none }, { dst := some 13, op := Op.call { callee := Callee.value (Operand.func 14), args := #[Operand.tmp 12], argTypes := #[36] }, type := 36, pos := "law.go:101", after := #[{ on := 0, ground := Ground.data }], guard := none }, { dst := some 14, op := Op.load 36 (Operand.tmp 3), type := 36, pos := "law.go:101", after := #[], guard := none }, { dst := some 15, op := Op.call { callee := Callee.value (Operand.func 14), args := #[Operand.tmp 14], argTypes := #[36] }, type := 36, pos := "law.go:101", after := #[{ on := 2, ground := Ground.data }, { on := 1, ground := Ground.chain }], guard := none }, { dst := some 16, op := Op.call { callee := Callee.value (Operand.func 20), args := #[Operand.tmp 13, Operand.tmp 15], argTypes := #[36, 36] }, type := 4, pos := "law.go:101", after := #[{ on := 1, ground := Ground.data }, { on := 3, ground := Ground.data }, { on := 3, ground := Ground.chain }], guard := none }, { dst := some 17, op := Op.load 36 (Operand.tmp 2), type := 36, pos := "law.go:101", after := #[], guard := none }, { dst := some 18, op := Op.load 36 (Operand.tmp 3), type := 36, pos := "law.go:101", after := #[], guard := none }, { dst := some 19, op := Op.call { callee := Callee.value (Operand.func 19), args := #[Operand.tmp 17, Operand.tmp 18], argTypes := #[36, 36] }, type := 4, pos := "law.go:101", after := #[{ on := 5, ground := Ground.data }, { on := 6, ground := Ground.data }, { on := 4, ground := Ground.chain }], guard := none }, { dst := some 20, op := Op.binOp BinOp.eql 4 (Operand.tmp 16) (Operand.tmp 19) 4, type := 4, pos := "law.go:101", after := #[{ on := 4, ground := Ground.data }, { on := 7, ground := Ground.data }], guard := none }, { dst := some 21, op := Op.move (Operand.tmp 20), type := 4, pos := "law.go:101", after := #[{ on := 8, ground := Ground.data }, { on := 7, ground := Ground.chain }], guard := none }, { dst := some 22, op := Op.load 36 (Operand.tmp 2), type := 36, pos := "law.go:101", after := #[{ on := 9, ground := Ground.guard }], guard := some (9, true) }, { dst := some 23, op := Op.call { callee := Callee.value (Operand.func 14), args := #[Operand.tmp 22], argTypes := #[36] }, type := 36, pos := "law.go:101", after := #[{ on := 10, ground := Ground.data }, { on := 9, ground := Ground.chain }, { on := 9, ground := Ground.guard }], guard := some (9, true) }, { dst := some 24, op := Op.load 36 (Operand.tmp 2), type := 36, pos := "law.go:101", after := #[{ on := 9, ground := Ground.guard }], guard := some (9, true) }, { dst := some 25, op := Op.call { callee := Callee.value (Operand.func 14), args := #[Operand.tmp 24], argTypes := #[36] }, type := 36, pos := "law.go:101", after := #[{ on := 12, ground := Ground.data }, { on := 11, ground := Ground.chain }, { on := 9, ground := Ground.guard }], guard := some (9, true) }, { dst := some 26, op := Op.call { callee := Callee.value (Operand.func 20), args := #[Operand.tmp 23, Operand.tmp 25], argTypes := #[36, 36] }, type := 4, pos := "law.go:101", after := #[{ on := 11, ground := Ground.data }, { on := 13, ground := Ground.data }, { on := 13, ground := Ground.chain }, { on := 9, ground := Ground.guard }], guard := some (9, true) }, { dst := some 27, op := Op.pick (Operand.tmp 21) (Operand.tmp 26) (Operand.const (Value.bool false)), type := 4, pos := "law.go:101", after := #[{ on := 9, ground := Ground.data }, { on := 14, ground := Ground.data }], guard := none }, { dst := some 28, op := Op.move (Operand.tmp 27), type := 4, pos := "law.go:101", after := #[{ on := 15, ground := Ground.data }, { on := 14, ground := Ground.chain }], guard := none }, { dst := some 29, op := Op.call { callee := Callee.value (Operand.func 8), args := #[], argTypes := #[] }, type := 4, pos := "law.go:101", after := #[{ on := 16, ground := Ground.chain }, { on := 16, ground := Ground.guard }], guard := some (16, true) }, { dst := some 30, op := Op.pick (Operand.tmp 28) (Operand.tmp 29) (Operand.const (Value.bool false)), type := 4, pos := "law.go:101", after := #[{ on := 16, ground := Ground.data }, { on := 17, ground := Ground.data }], guard := none }, { dst := some 4, op := Op.assign (Operand.tmp 30), type := 4, pos := "law.go:101", after := #[{ on := 18, ground := Ground.data }, { on := 17, ground := Ground.chain }, { on := 0, ground := Ground.phase }, { on := 1, ground := Ground.phase }, { on := 2, ground := Ground.phase }, { on := 3, ground := Ground.phase }, { on := 4, ground := Ground.phase }, { on := 5, ground := Ground.phase }, { on := 6, ground := Ground.phase }, { on := 7, ground := Ground.phase }, { on := 8, ground := Ground.phase }, { on := 9, ground := Ground.phase }, { on := 10, ground := Ground.phase }, { on := 11, ground := Ground.phase }, { on := 12, ground := Ground.phase }, { on := 13, ground := Ground.phase }, { on := 14, ground := Ground.phase }, { on := 15, ground := Ground.phase }, { on := 16, ground := Ground.phase }, { on := 17, ground := Ground.phase }, { on := 18, ground := Ground.phase }], guard := none }]
set_option maxRecDepth 100000 in
set_option maxHeartbeats 4000000 in
theorem reg7 {Q : Exit → Act → World → Prop} {f0 : Nat → Value} {V : World} {m m' : Md} {H M : Nat} {g : Bool} {a0 : Option Addr} {k0 : Nat} {a1 : Option Addr} {k1 : Nat} {a2 : Option Addr} {k2 : Nat} {a3 : Option Addr} {k3 : Nat} {a4 : Option Addr} {k4 : Nat} {a5 : Option Addr} {k5 : Nat} {a6 : Option Addr} {k6 : Nat} {a7 : Option Addr} {k7 : Nat} {a8 : Option Addr} {k8 : Nat} {a9 : Option Addr} {k9 : Nat} {b0 : Option Addr} {q0 : Nat} {b1 : Option Addr} {q1 : Nat} {b2 : Option Addr} {q2 : Nat} {b3 : Option Addr} {q3 : Nat} {b4 : Option Addr} {q4 : Nat} {b5 : Option Addr} {q5 : Nat} {b6 : Option Addr} {q6 : Nat} {b7 : Option Addr} {q7 : Nat} {b8 : Option Addr} {q8 : Nat} {b9 : Option Addr} {q9 : Nat}
    (hmix : Tryd.prog.follows .mixedOrders = true) (f2 : f0 2 = .pointer (some ⟨H, 0, none⟩)) (f3 : f0 3 = .pointer (some ⟨M, 0, none⟩))
    (xA : Hid (Box V H #[.slice a0 m.types.length k0, .slice a1 m.imports.length k1, .slice a2 m.funcs.length k2, .slice a3 m.tables.length k3, .slice a4 m.mems.length k4, .slice a5 m.globals.length k5, .slice a6 m.exports.length k6, .slice a7 m.start.length k7, .slice a8 m.elems.length k8, .slice a9 m.datas.length k9])) (xB : Hid (Box V M #[.slice b0 m'.types.length q0, .slice b1 m'.imports.length q1, .slice b2 m'.funcs.length q2, .slice b3 m'.tables.length q3, .slice b4 m'.mems.length q4, .slice b5 m'.globals.length q5, .slice b6 m'.exports.length q6, .slice b7 m'.start.length q7, .slice b8 m'.elems.length q8, .slice b9 m'.datas.length q9])) (hA : Hid (MdAt V m a0 k0 a1 k1 a2 k2 a3 k3 a4 k4 a5 k5 a6 k6 a7 k7 a8 k8 a9 k9)) (hB : Hid (MdAt V m' b0 q0 b1 q1 b2 q2 b3 q3 b4 q4 b5 q5 b6 q6 b7 q7 b8 q8 b9 q9)) (hS : Hid (Small m)) (hS2 : Hid (Small m')) (hT : Hid (TabU V)) (self : Hid (pm0 m m = true)) (hg : Hid (pm0 m m' = g)) (hr : Hid (mdSame m m' = g))
    (fin : ∀ w' f, Below V.heap.size V w' → f 4 = .bool true → Q .normal (Fv 31 (ovl f0 f [12, 13, 14, 15, 16, 17, 18, 19, 20, 21, 22, 23, 24, 25, 26, 27, 28, 29, 30, 4])) w') :
    (Code.region 3 opsF7 true).wp Tryd.prog Q (Fv 31 f0) V := by
  have hD : ∀ j, j < 20 → (fun i => if i = 19 then 4 else 12 + i) j ∈ [12, 13, 14, 15, 16, 17, 18, 19, 20, 21, 22, 23, 24, 25, 26, 27, 28, 29, 30, 4] := by decide
  refine region_rels hmix 31 20 (fun i => if i = 19 then 4 else 12 + i) rfl (by kernel_rfl) (by kernel_rfl) (fun i => match i with | 0 => pvEq (.agg #[.slice a0 m.types.length k0, .slice a1 m.imports.length k1, .slice a2 m.funcs.length k2, .slice a3 m.tables.length k3, .slice a4 m.mems.length k4, .slice a5 m.globals.length k5, .slice a6 m.exports.length k6, .slice a7 m.start.length k7, .slice a8 m.elems.length k8, .slice a9 m.datas.length k9]) | 1 => pvMd m | 2 => pvEq (.agg #[.slice b0 m'.types.length q0, .slice b1 m'.imports.length q1, .slice b2 m'.funcs.length q2, .slice b3 m'.tables.length q3, .slice b4 m'.mems.length q4, .slice b5 m'.globals.length q5, .slice b6 m'.exports.length q6, .slice b7 m'.start.length q7, .slice b8 m'.elems.length q8, .slice b9 m'.datas.length q9]) | 3 => pvMd m' | 4 => pvEq (.bool g) | 5 => pvEq (.agg #[.slice a0 m.types.length k0, .slice a1 m.imports.length k1, .slice a2 m.funcs.length k2, .slice a3 m.tables.length k3, .slice a4 m.mems.length k4, .slice a5 m.globals.length k5, .slice a6 m.exports.length k6, .slice a7 m.start.length k7, .slice a8 m.elems.length k8, .slice a9 m.datas.length k9]) | 6 => pvEq (.agg #[.slice b0 m'.types.length q0, .slice b1 m'.imports.length q1, .slice b2 m'.funcs.length q2, .slice b3 m'.tables.length q3, .slice b4 m'.mems.length q4, .slice b5 m'.globals.length q5, .slice b6 m'.exports.length q6, .slice b7 m'.start.length q7, .slice b8 m'.elems.length q8, .slice b9 m'.datas.length q9]) | 7 => pvEq (.bool g) | 8 => pvEq (.bool true) | 9 => pvEq (.bool true) | 10 => pvEq (.agg #[.slice a0 m.types.length k0, .slice a1 m.imports.length k1, .slice a2 m.funcs.length k2, .slice a3 m.tables.length k3, .slice a4 m.mems.length k4, .slice a5 m.globals.length k5, .slice a6 m.exports.length k6, .slice a7 m.start.length k7, .slice a8 m.elems.length k8, .slice a9 m.datas.length k9]) | 11 => pvMd m | 12 => pvEq (.agg #[.slice a0 m.types.length k0, .slice a1 m.imports.length k1, .slice a2 m.funcs.length k2, .slice a3 m.tables.length k3, .slice a4 m.mems.length k4, .slice a5 m.globals.length k5, .slice a6 m.exports.length k6, .slice a7 m.start.length k7, .slice a8 m.elems.length k8, .slice a9 m.datas.length k9]) | 13 => pvMd m | 14 => pvEq (.bool true) | 15 => pvEq (.bool true) | 16 => pvEq (.bool true) | 17 => pvEq (.bool true) | 18 => pvEq (.bool true) | 19 => pvEq (.bool true) | _ => pvEq undef) ?_ (fun w' f hb ho hr => by rw [ovl_eq (ds := [12, 13, 14, 15, 16, 17, 18, 19, 20, 21, 22, 23, 24, 25, 26, 27, 28, 29, 30, 4]) (fun t ht => ho t (fun j hj e => ht (e ▸ hD j hj)))]; exact fin w' f hb (hr 19 (by decide)))
  intro i' hi' f w' hb ho' hv
  have ho : ∀ t, t ∉ [12, 13, 14, 15, 16, 17, 18, 19, 20, 21, 22, 23, 24, 25, 26, 27, 28, 29, 30, 4] → f t = f0 t := fun t ht => ho' t (fun j hj e => ht (e ▸ hD j hj))

  match i', hi' with
  | 0, _ =>
    have e2 : f 2 = .pointer (some ⟨H, 0, none⟩) := (ho 2 (by decide)).trans f2
    have g2 := fv_get (n := 31) (by decide) e2
    have c12_0 := keep_below hb _ _ (xA.out 0 _ rfl)
    have c12_1 := keep_below hb _ _ (xA.out 1 _ rfl)
    have c12_2 := keep_below hb _ _ (xA.out 2 _ rfl)
    have c12_3 := keep_below hb _ _ (xA.out 3 _ rfl)
    have c12_4 := keep_below hb _ _ (xA.out 4 _ rfl)
    have c12_5 := keep_below hb _ _ (xA.out 5 _ rfl)
    have c12_6 := keep_below hb _ _ (xA.out 6 _ rfl)
    have c12_7 := keep_below hb _ _ (xA.out 7 _ rfl)
    have c12_8 := keep_below hb _ _ (xA.out 8 _ rfl)
    have c12_9 := keep_below hb _ _ (xA.out 9 _ rfl)
    refine wpOp_step (o := { dst := some 12, op := Op.load 36 (Operand.tmp 2), type := 36, pos := "law.go:101", after := #[], guard := none }) rfl ?_
    intro K' hK'
    rw [if_pos (wanted_none rfl)]
    go_simp
    (try simp only [g2])
    (try go_simp)
    exact hK' _ _ ⟨_, fv_set _ _, rfl, Below.refl _ _⟩
  | 1, _ =>
    have e12 : f 12 = .agg #[.slice a0 m.types.length k0, .slice a1 m.imports.length k1, .slice a2 m.funcs.length k2, .slice a3 m.tables.length k3, .slice a4 m.mems.length k4, .slice a5 m.globals.length k5, .slice a6 m.exports.length k6, .slice a7 m.start.length k7, .slice a8 m.elems.length k8, .slice a9 m.datas.length k9] := hv 0 (by kernel_rfl)
    have g12 := fv_get (n := 31) (by decide) e12
    refine wpOp_step (o := { dst := some 13, op := Op.call { callee := Callee.value (Operand.func 14), args := #[Operand.tmp 12], argTypes := #[36] }, type := 36, pos := "law.go:101", after := #[{ on := 0, ground := Ground.data }], guard := none }) rfl ?_
    intro K' hK'
    rw [if_pos (wanted_none rfl)]
    go_simp
    (try simp only [g12])
    (try go_simp)
    go_at_call 14
    refine (copy_any m hS.out w' (hA.out.keep (keep_below hb))).mono ?_
    rintro e u ⟨c13_0, r13_0, c13_1, r13_1, c13_2, r13_2, c13_3, r13_3, c13_4, r13_4, c13_5, r13_5, c13_6, r13_6, c13_7, r13_7, c13_8, r13_8, c13_9, r13_9, rfl, hM, hu⟩
    go_simp
    exact hK' _ _ ⟨_, fv_set _ _, ⟨c13_0, r13_0, c13_1, r13_1, c13_2, r13_2, c13_3, r13_3, c13_4, r13_4, c13_5, r13_5, c13_6, r13_6, c13_7, r13_7, c13_8, r13_8, c13_9, r13_9, rfl, hM⟩, hu⟩
  | 2, _ =>
    have e3 : f 3 = .pointer (some ⟨M, 0, none⟩) := (ho 3 (by decide)).trans f3
    have g3 := fv_get (n := 31) (by decide) e3
    have c14_0 := keep_below hb _ _ (xB.out 0 _ rfl)
    have c14_1 := keep_below hb _ _ (xB.out 1 _ rfl)
    have c14_2 := keep_below hb _ _ (xB.out 2 _ rfl)
    have c14_3 := keep_below hb _ _ (xB.out 3 _ rfl)
    have c14_4 := keep_below hb _ _ (xB.out 4 _ rfl)
    have c14_5 := keep_below hb _ _ (xB.out 5 _ rfl)
    have c14_6 := keep_below hb _ _ (xB.out 6 _ rfl)
    have c14_7 := keep_below hb _ _ (xB.out 7 _ rfl)
    have c14_8 := keep_below hb _ _ (xB.out 8 _ rfl)
    have c14_9 := keep_below hb _ _ (xB.out 9 _ rfl)
    refine wpOp_step (o := { dst := some 14, op := Op.load 36 (Operand.tmp 3), type := 36, pos := "law.go:101", after := #[], guard := none }) rfl ?_
    intro K' hK'
    rw [if_pos (wanted_none rfl)]
    go_simp
    (try simp only [g3])
    (try go_simp)
    exact hK' _ _ ⟨_, fv_set _ _, rfl, Below.refl _ _⟩
  | 3, _ =>
    have e14 : f 14 = .agg #[.slice b0 m'.types.length q0, .slice b1 m'.imports.length q1, .slice b2 m'.funcs.length q2, .slice b3 m'.tables.length q3, .slice b4 m'.mems.length q4, .slice b5 m'.globals.length q5, .slice b6 m'.exports.length q6, .slice b7 m'.start.length q7, .slice b8 m'.elems.length q8, .slice b9 m'.datas.length q9] := hv 2 (by kernel_rfl)
    have g14 := fv_get (n := 31) (by decide) e14
    refine wpOp_step (o := { dst := some 15, op := Op.call { callee := Callee.value (Operand.func 14), args := #[Operand.tmp 14], argTypes := #[36] }, type := 36, pos := "law.go:101", after := #[{ on := 2, ground := Ground.data }, { on := 1, ground := Ground.chain }], guard := none }) rfl ?_
    intro K' hK'
    rw [if_pos (wanted_none rfl)]
    go_simp
    (try simp only [g14])
    (try go_simp)
    go_at_call 14
    refine (copy_any m' hS2.out w' (hB.out.keep (keep_below hb))).mono ?_
    rintro e u ⟨c15_0, r15_0, c15_1, r15_1, c15_2, r15_2, c15_3, r15_3, c15_4, r15_4, c15_5, r15_5, c15_6, r15_6, c15_7, r15_7, c15_8, r15_8, c15_9, r15_9, rfl, hM, hu⟩
    go_simp
    exact hK' _ _ ⟨_, fv_set _ _, ⟨c15_0, r15_0, c15_1, r15_1, c15_2, r15_2, c15_3, r15_3, c15_4, r15_4, c15_5, r15_5, c15_6, r15_6, c15_7, r15_7, c15_8, r15_8, c15_9, r15_9, rfl, hM⟩, hu⟩
  | 4, _ =>
    obtain ⟨c13_0, r13_0, c13_1, r13_1, c13_2, r13_2, c13_3, r13_3, c13_4, r13_4, c13_5, r13_5, c13_6, r13_6, c13_7, r13_7, c13_8, r13_8, c13_9, r13_9, e13, r13⟩ := hv 1 (by kernel_rfl)
    have e13 : f 13 = .agg #[.slice c13_0 m.types.length r13_0, .slice c13_1 m.imports.length r13_1, .slice c13_2 m.funcs.length r13_2, .slice c13_3 m.tables.length r13_3, .slice c13_4 m.mems.length r13_4, .slice c13_5 m.globals.length r13_5, .slice c13_6 m.exports.length r13_6, .slice c13_7 m.start.length r13_7, .slice c13_8 m.elems.length r13_8, .slice c13_9 m.datas.length r13_9] := e13
    have g13 := fv_get (n := 31) (by decide) e13
    obtain ⟨c15_0, r15_0, c15_1, r15_1, c15_2, r15_2, c15_3, r15_3, c15_4, r15_4, c15_5, r15_5, c15_6, r15_6, c15_7, r15_7, c15_8, r15_8, c15_9, r15_9, e15, r15⟩ := hv 3 (by kernel_rfl)
    have e15 : f 15 = .agg #[.slice c15_0 m'.types.length r15_0, .slice c15_1 m'.imports.length r15_1, .slice c15_2 m'.funcs.length r15_2, .slice c15_3 m'.tables.length r15_3, .slice c15_4 m'.mems.length r15_4, .slice c15_5 m'.globals.length r15_5, .slice c15_6 m'.exports.length r15_6, .slice c15_7 m'.start.length r15_7, .slice c15_8 m'.elems.length r15_8, .slice c15_9 m'.datas.length r15_9] := e15
    have g15 := fv_get (n := 31) (by decide) e15
    refine wpOp_step (o := { dst := some 16, op := Op.call { callee := Callee.value (Operand.func 20), args := #[Operand.tmp 13, Operand.tmp 15], argTypes := #[36, 36] }, type := 4, pos := "law.go:101", after := #[{ on := 1, ground := Ground.data }, { on := 3, ground := Ground.data }, { on := 3, ground := Ground.chain }], guard := none }) rfl ?_
    intro K' hK'
    rw [if_pos (wanted_none rfl)]
    go_simp
    (try simp only [g13, g15])
    (try go_simp)
    go_at_call 20
    refine (pSame_any m m' c13_0 r13_0 c13_1 r13_1 c13_2 r13_2 c13_3 r13_3 c13_4 r13_4 c13_5 r13_5 c13_6 r13_6 c13_7 r13_7 c13_8 r13_8 c13_9 r13_9 c15_0 r15_0 c15_1 r15_1 c15_2 r15_2 c15_3 r15_3 c15_4 r15_4 c15_5 r15_5 c15_6 r15_6 c15_7 r15_7 c15_8 r15_8 c15_9 r15_9 w' r13 r15).mono ?_
    rintro e u ⟨rfl, hu⟩
    rw [hg.out]
    go_simp
    exact hK' _ _ ⟨_, fv_set _ _, rfl, hu⟩
  | 5, _ =>
    have e2 : f 2 = .pointer (some ⟨H, 0, none⟩) := (ho 2 (by decide)).trans f2
    have g2 := fv_get (n := 31) (by decide) e2
    have c17_0 := keep_below hb _ _ (xA.out 0 _ rfl)
    have c17_1 := keep_below hb _ _ (xA.out 1 _ rfl)
    have c17_2 := keep_below hb _ _ (xA.out 2 _ rfl)
    have c17_3 := keep_below hb _ _ (xA.out 3 _ rfl)
    have c17_4 := keep_below hb _ _ (xA.out 4 _ rfl)
    have c17_5 := keep_below hb _ _ (xA.out 5 _ rfl)
    have c17_6 := keep_below hb _ _ (xA.out 6 _ rfl)
    have c17_7 := keep_below hb _ _ (xA.out 7 _ rfl)
    have c17_8 := keep_below hb _ _ (xA.out 8 _ rfl)
    have c17_9 := keep_below hb _ _ (xA.out 9 _ rfl)
    refine wpOp_step (o := { dst := some 17, op := Op.load 36 (Operand.tmp 2), type := 36, pos := "law.go:101", after := #[], guard := none }) rfl ?_
    intro K' hK'
    rw [if_pos (wanted_none rfl)]
    go_simp
    (try simp only [g2])
    (try go_simp)
    exact hK' _ _ ⟨_, fv_set _ _, rfl, Below.refl _ _⟩
  | 6, _ =>
    have e3 : f 3 = .pointer (some ⟨M, 0, none⟩) := (ho 3 (by decide)).trans f3
    have g3 := fv_get (n := 31) (by decide) e3
    have c18_0 := keep_below hb _ _ (xB.out 0 _ rfl)
    have c18_1 := keep_below hb _ _ (xB.out 1 _ rfl)
    have c18_2 := keep_below hb _ _ (xB.out 2 _ rfl)
    have c18_3 := keep_below hb _ _ (xB.out 3 _ rfl)
    have c18_4 := keep_below hb _ _ (xB.out 4 _ rfl)
    have c18_5 := keep_below hb _ _ (xB.out 5 _ rfl)
    have c18_6 := keep_below hb _ _ (xB.out 6 _ rfl)
    have c18_7 := keep_below hb _ _ (xB.out 7 _ rfl)
    have c18_8 := keep_below hb _ _ (xB.out 8 _ rfl)
    have c18_9 := keep_below hb _ _ (xB.out 9 _ rfl)
    refine wpOp_step (o := { dst := some 18, op := Op.load 36 (Operand.tmp 3), type := 36, pos := "law.go:101", after := #[], guard := none }) rfl ?_
    intro K' hK'
    rw [if_pos (wanted_none rfl)]
    go_simp
    (try simp only [g3])
    (try go_simp)
    exact hK' _ _ ⟨_, fv_set _ _, rfl, Below.refl _ _⟩
  | 7, _ =>
    have e17 : f 17 = .agg #[.slice a0 m.types.length k0, .slice a1 m.imports.length k1, .slice a2 m.funcs.length k2, .slice a3 m.tables.length k3, .slice a4 m.mems.length k4, .slice a5 m.globals.length k5, .slice a6 m.exports.length k6, .slice a7 m.start.length k7, .slice a8 m.elems.length k8, .slice a9 m.datas.length k9] := hv 5 (by kernel_rfl)
    have g17 := fv_get (n := 31) (by decide) e17
    have e18 : f 18 = .agg #[.slice b0 m'.types.length q0, .slice b1 m'.imports.length q1, .slice b2 m'.funcs.length q2, .slice b3 m'.tables.length q3, .slice b4 m'.mems.length q4, .slice b5 m'.globals.length q5, .slice b6 m'.exports.length q6, .slice b7 m'.start.length q7, .slice b8 m'.elems.length q8, .slice b9 m'.datas.length q9] := hv 6 (by kernel_rfl)
    have g18 := fv_get (n := 31) (by decide) e18
    refine wpOp_step (o := { dst := some 19, op := Op.call { callee := Callee.value (Operand.func 19), args := #[Operand.tmp 17, Operand.tmp 18], argTypes := #[36, 36] }, type := 4, pos := "law.go:101", after := #[{ on := 5, ground := Ground.data }, { on := 6, ground := Ground.data }, { on := 4, ground := Ground.chain }], guard := none }) rfl ?_
    intro K' hK'
    rw [if_pos (wanted_none rfl)]
    go_simp
    (try simp only [g17, g18])
    (try go_simp)
    go_at_call 19
    refine (rsame_any m m' a0 k0 a1 k1 a2 k2 a3 k3 a4 k4 a5 k5 a6 k6 a7 k7 a8 k8 a9 k9 b0 q0 b1 q1 b2 q2 b3 q3 b4 q4 b5 q5 b6 q6 b7 q7 b8 q8 b9 q9 w' (hA.out.keep (keep_below hb)) (hB.out.keep (keep_below hb))).mono ?_
    rintro e u ⟨rfl, hu⟩
    rw [hr.out]
    go_simp
    exact hK' _ _ ⟨_, fv_set _ _, rfl, hu⟩
  | 8, _ =>
    have e16 : f 16 = .bool g := hv 4 (by kernel_rfl)
    have g16 := fv_get (n := 31) (by decide) e16
    have e19 : f 19 = .bool g := hv 7 (by kernel_rfl)
    have g19 := fv_get (n := 31) (by decide) e19
    refine wpOp_step (o := { dst := some 20, op := Op.binOp BinOp.eql 4 (Operand.tmp 16) (Operand.tmp 19) 4, type := 4, pos := "law.go:101", after := #[{ on := 4, ground := Ground.data }, { on := 7, ground := Ground.data }], guard := none }) rfl ?_
    intro K' hK'
    rw [if_pos (wanted_none rfl)]
    go_simp
    (try simp only [g16, g19])
    (try go_simp)
    exact hK' _ _ ⟨_, fv_set _ _, rfl, Below.refl _ _⟩
  | 9, _ =>
    have e20 : f 20 = .bool true := hv 8 (by kernel_rfl)
    have g20 := fv_get (n := 31) (by decide) e20
    refine wpOp_step (o := { dst := some 21, op := Op.move (Operand.tmp 20), type := 4, pos := "law.go:101", after := #[{ on := 8, ground := Ground.data }, { on := 7, ground := Ground.chain }], guard := none }) rfl ?_
    intro K' hK'
    rw [if_pos (wanted_none rfl)]
    go_simp
    (try simp only [g20])
    (try go_simp)
    exact hK' _ _ ⟨_, fv_set _ _, rfl, Below.refl _ _⟩
  | 10, _ =>
    have e2 : f 2 = .pointer (some ⟨H, 0, none⟩) := (ho 2 (by decide)).trans f2
    have g2 := fv_get (n := 31) (by decide) e2
    have eg : f 21 = .bool true := hv 9 (by kernel_rfl)
    have c22_0 := keep_below hb _ _ (xA.out 0 _ rfl)
    have c22_1 := keep_below hb _ _ (xA.out 1 _ rfl)
    have c22_2 := keep_below hb _ _ (xA.out 2 _ rfl)
    have c22_3 := keep_below hb _ _ (xA.out 3 _ rfl)
    have c22_4 := keep_below hb _ _ (xA.out 4 _ rfl)
    have c22_5 := keep_below hb _ _ (xA.out 5 _ rfl)
    have c22_6 := keep_below hb _ _ (xA.out 6 _ rfl)
    have c22_7 := keep_below hb _ _ (xA.out 7 _ rfl)
    have c22_8 := keep_below hb _ _ (xA.out 8 _ rfl)
    have c22_9 := keep_below hb _ _ (xA.out 9 _ rfl)
    refine wpOp_step (o := { dst := some 22, op := Op.load 36 (Operand.tmp 2), type := 36, pos := "law.go:101", after := #[{ on := 9, ground := Ground.guard }], guard := some (9, true) }) rfl ?_
    intro K' hK'
    rw [if_pos (by rw [wanted_some (g := 9) (d := 21) (b := true) (c := true) rfl rfl (by decide) eg]; rfl)]
    go_simp
    (try simp only [g2])
    (try go_simp)
    exact hK' _ _ ⟨_, fv_set _ _, rfl, Below.refl _ _⟩
  | 11, _ =>
    have e22 : f 22 = .agg #[.slice a0 m.types.length k0, .slice a1 m.imports.length k1, .slice a2 m.funcs.length k2, .slice a3 m.tables.length k3, .slice a4 m.mems.length k4, .slice a5 m.globals.length k5, .slice a6 m.exports.length k6, .slice a7 m.start.length k7, .slice a8 m.elems.length k8, .slice a9 m.datas.length k9] := hv 10 (by kernel_rfl)
    have g22 := fv_get (n := 31) (by decide) e22
    have eg : f 21 = .bool true := hv 9 (by kernel_rfl)
    refine wpOp_step (o := { dst := some 23, op := Op.call { callee := Callee.value (Operand.func 14), args := #[Operand.tmp 22], argTypes := #[36] }, type := 36, pos := "law.go:101", after := #[{ on := 10, ground := Ground.data }, { on := 9, ground := Ground.chain }, { on := 9, ground := Ground.guard }], guard := some (9, true) }) rfl ?_
    intro K' hK'
    rw [if_pos (by rw [wanted_some (g := 9) (d := 21) (b := true) (c := true) rfl rfl (by decide) eg]; rfl)]
    go_simp
    (try simp only [g22])
    (try go_simp)
    go_at_call 14
    refine (copy_any m hS.out w' (hA.out.keep (keep_below hb))).mono ?_
    rintro e u ⟨c23_0, r23_0, c23_1, r23_1, c23_2, r23_2, c23_3, r23_3, c23_4, r23_4, c23_5, r23_5, c23_6, r23_6, c23_7, r23_7, c23_8, r23_8, c23_9, r23_9, rfl, hM, hu⟩
    go_simp
    exact hK' _ _ ⟨_, fv_set _ _, ⟨c23_0, r23_0, c23_1, r23_1, c23_2, r23_2, c23_3, r23_3, c23_4, r23_4, c23_5, r23_5, c23_6, r23_6, c23_7, r23_7, c23_8, r23_8, c23_9, r23_9, rfl, hM⟩, hu⟩
  | 12, _ =>
    have e2 : f 2 = .pointer (some ⟨H, 0, none⟩) := (ho 2 (by decide)).trans f2
    have g2 := fv_get (n := 31) (by decide) e2
    have eg : f 21 = .bool true := hv 9 (by kernel_rfl)
    have c24_0 := keep_below hb _ _ (xA.out 0 _ rfl)
    have c24_1 := keep_below hb _ _ (xA.out 1 _ rfl)
    have c24_2 := keep_below hb _ _ (xA.out 2 _ rfl)
    have c24_3 := keep_below hb _ _ (xA.out 3 _ rfl)
    have c24_4 := keep_below hb _ _ (xA.out 4 _ rfl)
    have c24_5 := keep_below hb _ _ (xA.out 5 _ rfl)
    have c24_6 := keep_below hb _ _ (xA.out 6 _ rfl)
    have c24_7 := keep_below hb _ _ (xA.out 7 _ rfl)
    have c24_8 := keep_below hb _ _ (xA.out 8 _ rfl)
    have c24_9 := keep_below hb _ _ (xA.out 9 _ rfl)
    refine wpOp_step (o := { dst := some 24, op := Op.load 36 (Operand.tmp 2), type := 36, pos := "law.go:101", after := #[{ on := 9, ground := Ground.guard }], guard := some (9, true) }) rfl ?_
    intro K' hK'
    rw [if_pos (by rw [wanted_some (g := 9) (d := 21) (b := true) (c := true) rfl rfl (by decide) eg]; rfl)]
    go_simp
    (try simp only [g2])
    (try go_simp)
    exact hK' _ _ ⟨_, fv_set _ _, rfl, Below.refl _ _⟩
  | 13, _ =>
    have e24 : f 24 = .agg #[.slice a0 m.types.length k0, .slice a1 m.imports.length k1, .slice a2 m.funcs.length k2, .slice a3 m.tables.length k3, .slice a4 m.mems.length k4, .slice a5 m.globals.length k5, .slice a6 m.exports.length k6, .slice a7 m.start.length k7, .slice a8 m.elems.length k8, .slice a9 m.datas.length k9] := hv 12 (by kernel_rfl)
    have g24 := fv_get (n := 31) (by decide) e24
    have eg : f 21 = .bool true := hv 9 (by kernel_rfl)
    refine wpOp_step (o := { dst := some 25, op := Op.call { callee := Callee.value (Operand.func 14), args := #[Operand.tmp 24], argTypes := #[36] }, type := 36, pos := "law.go:101", after := #[{ on := 12, ground := Ground.data }, { on := 11, ground := Ground.chain }, { on := 9, ground := Ground.guard }], guard := some (9, true) }) rfl ?_
    intro K' hK'
    rw [if_pos (by rw [wanted_some (g := 9) (d := 21) (b := true) (c := true) rfl rfl (by decide) eg]; rfl)]
    go_simp
    (try simp only [g24])
    (try go_simp)
    go_at_call 14
    refine (copy_any m hS.out w' (hA.out.keep (keep_below hb))).mono ?_
    rintro e u ⟨c25_0, r25_0, c25_1, r25_1, c25_2, r25_2, c25_3, r25_3, c25_4, r25_4, c25_5, r25_5, c25_6, r25_6, c25_7, r25_7, c25_8, r25_8, c25_9, r25_9, rfl, hM, hu⟩
    go_simp
    exact hK' _ _ ⟨_, fv_set _ _, ⟨c25_0, r25_0, c25_1, r25_1, c25_2, r25_2, c25_3, r25_3, c25_4, r25_4, c25_5, r25_5, c25_6, r25_6, c25_7, r25_7, c25_8, r25_8, c25_9, r25_9, rfl, hM⟩, hu⟩
  | 14, _ =>
    obtain ⟨c23_0, r23_0, c23_1, r23_1, c23_2, r23_2, c23_3, r23_3, c23_4, r23_4, c23_5, r23_5, c23_6, r23_6, c23_7, r23_7, c23_8, r23_8, c23_9, r23_9, e23, r23⟩ := hv 11 (by kernel_rfl)
    have e23 : f 23 = .agg #[.slice c23_0 m.types.length r23_0, .slice c23_1 m.imports.length r23_1, .slice c23_2 m.funcs.length r23_2, .slice c23_3 m.tables.length r23_3, .slice c23_4 m.mems.length r23_4, .slice c23_5 m.globals.length r23_5, .slice c23_6 m.exports.length r23_6, .slice c23_7 m.start.length r23_7, .slice c23_8 m.elems.length r23_8, .slice c23_9 m.datas.length r23_9] := e23
    have g23 := fv_get (n := 31) (by decide) e23
    obtain ⟨c25_0, r25_0, c25_1, r25_1, c25_2, r25_2, c25_3, r25_3, c25_4, r25_4, c25_5, r25_5, c25_6, r25_6, c25_7, r25_7, c25_8, r25_8, c25_9, r25_9, e25, r25⟩ := hv 13 (by kernel_rfl)
    have e25 : f 25 = .agg #[.slice c25_0 m.types.length r25_0, .slice c25_1 m.imports.length r25_1, .slice c25_2 m.funcs.length r25_2, .slice c25_3 m.tables.length r25_3, .slice c25_4 m.mems.length r25_4, .slice c25_5 m.globals.length r25_5, .slice c25_6 m.exports.length r25_6, .slice c25_7 m.start.length r25_7, .slice c25_8 m.elems.length r25_8, .slice c25_9 m.datas.length r25_9] := e25
    have g25 := fv_get (n := 31) (by decide) e25
    have eg : f 21 = .bool true := hv 9 (by kernel_rfl)
    refine wpOp_step (o := { dst := some 26, op := Op.call { callee := Callee.value (Operand.func 20), args := #[Operand.tmp 23, Operand.tmp 25], argTypes := #[36, 36] }, type := 4, pos := "law.go:101", after := #[{ on := 11, ground := Ground.data }, { on := 13, ground := Ground.data }, { on := 13, ground := Ground.chain }, { on := 9, ground := Ground.guard }], guard := some (9, true) }) rfl ?_
    intro K' hK'
    rw [if_pos (by rw [wanted_some (g := 9) (d := 21) (b := true) (c := true) rfl rfl (by decide) eg]; rfl)]
    go_simp
    (try simp only [g23, g25])
    (try go_simp)
    go_at_call 20
    refine (pSame_any m m c23_0 r23_0 c23_1 r23_1 c23_2 r23_2 c23_3 r23_3 c23_4 r23_4 c23_5 r23_5 c23_6 r23_6 c23_7 r23_7 c23_8 r23_8 c23_9 r23_9 c25_0 r25_0 c25_1 r25_1 c25_2 r25_2 c25_3 r25_3 c25_4 r25_4 c25_5 r25_5 c25_6 r25_6 c25_7 r25_7 c25_8 r25_8 c25_9 r25_9 w' r23 r25).mono ?_
    rintro e u ⟨rfl, hu⟩
    rw [self.out]
    go_simp
    exact hK' _ _ ⟨_, fv_set _ _, rfl, hu⟩
  | 15, _ =>
    have e21 : f 21 = .bool true := hv 9 (by kernel_rfl)
    have g21 := fv_get (n := 31) (by decide) e21
    have e26 : f 26 = .bool true := hv 14 (by kernel_rfl)
    have g26 := fv_get (n := 31) (by decide) e26
    refine wpOp_step (o := { dst := some 27, op := Op.pick (Operand.tmp 21) (Operand.tmp 26) (Operand.const (Value.bool false)), type := 4, pos := "law.go:101", after := #[{ on := 9, ground := Ground.data }, { on := 14, ground := Ground.data }], guard := none }) rfl ?_
    intro K' hK'
    rw [if_pos (wanted_none rfl)]
    go_simp
    (try simp only [g21, g26])
    (try go_simp)
    exact hK' _ _ ⟨_, fv_set _ _, rfl, Below.refl _ _⟩
  | 16, _ =>
    have e27 : f 27 = .bool true := hv 15 (by kernel_rfl)
    have g27 := fv_get (n := 31) (by decide) e27
    refine wpOp_step (o := { dst := some 28, op := Op.move (Operand.tmp 27), type := 4, pos := "law.go:101", after := #[{ on := 15, ground := Ground.data }, { on := 14, ground := Ground.chain }], guard := none }) rfl ?_
    intro K' hK'
    rw [if_pos (wanted_none rfl)]
    go_simp
    (try simp only [g27])
    (try go_simp)
    exact hK' _ _ ⟨_, fv_set _ _, rfl, Below.refl _ _⟩
  | 17, _ =>
    have eg : f 28 = .bool true := hv 16 (by kernel_rfl)
    refine wpOp_step (o := { dst := some 29, op := Op.call { callee := Callee.value (Operand.func 8), args := #[], argTypes := #[] }, type := 4, pos := "law.go:101", after := #[{ on := 16, ground := Ground.chain }, { on := 16, ground := Ground.guard }], guard := some (16, true) }) rfl ?_
    intro K' hK'
    rw [if_pos (by rw [wanted_some (g := 16) (d := 28) (b := true) (c := true) rfl rfl (by decide) eg]; rfl)]
    go_simp
    go_at_call 8
    refine (wakes_any w' (hT.out.below hb)).mono ?_
    rintro e u ⟨rfl, hu⟩
    go_simp
    exact hK' _ _ ⟨_, fv_set _ _, rfl, hu⟩
  | 18, _ =>
    have e28 : f 28 = .bool true := hv 16 (by kernel_rfl)
    have g28 := fv_get (n := 31) (by decide) e28
    have e29 : f 29 = .bool true := hv 17 (by kernel_rfl)
    have g29 := fv_get (n := 31) (by decide) e29
    refine wpOp_step (o := { dst := some 30, op := Op.pick (Operand.tmp 28) (Operand.tmp 29) (Operand.const (Value.bool false)), type := 4, pos := "law.go:101", after := #[{ on := 16, ground := Ground.data }, { on := 17, ground := Ground.data }], guard := none }) rfl ?_
    intro K' hK'
    rw [if_pos (wanted_none rfl)]
    go_simp
    (try simp only [g28, g29])
    (try go_simp)
    exact hK' _ _ ⟨_, fv_set _ _, rfl, Below.refl _ _⟩
  | 19, _ =>
    have e30 : f 30 = .bool true := hv 18 (by kernel_rfl)
    have g30 := fv_get (n := 31) (by decide) e30
    refine wpOp_step (o := { dst := some 4, op := Op.assign (Operand.tmp 30), type := 4, pos := "law.go:101", after := #[{ on := 18, ground := Ground.data }, { on := 17, ground := Ground.chain }, { on := 0, ground := Ground.phase }, { on := 1, ground := Ground.phase }, { on := 2, ground := Ground.phase }, { on := 3, ground := Ground.phase }, { on := 4, ground := Ground.phase }, { on := 5, ground := Ground.phase }, { on := 6, ground := Ground.phase }, { on := 7, ground := Ground.phase }, { on := 8, ground := Ground.phase }, { on := 9, ground := Ground.phase }, { on := 10, ground := Ground.phase }, { on := 11, ground := Ground.phase }, { on := 12, ground := Ground.phase }, { on := 13, ground := Ground.phase }, { on := 14, ground := Ground.phase }, { on := 15, ground := Ground.phase }, { on := 16, ground := Ground.phase }, { on := 17, ground := Ground.phase }, { on := 18, ground := Ground.phase }], guard := none }) rfl ?_
    intro K' hK'
    rw [if_pos (wanted_none rfl)]
    go_simp
    (try simp only [g30])
    (try go_simp)
    exact hK' _ _ ⟨_, fv_set _ _, rfl, Below.refl _ _⟩
  | k + 20, h => exact absurd h (by omega)
end Go.Proofs.YtofleejokkdklaaDoor
