/- WastChecks: its drawn region. -/
import Derived.Test.YtofleejokkdklaaDoorSd
import Derived.Test.YtofleejokkdklaaDoorCn
import Derived.Test.YtofleejokkdklaaDoorRh
import Derived.KernelRfl
namespace Go.Proofs.YtofleejokkdklaaDoor
open Go.RowKit
set_option linter.unusedVariables false
set_option linter.unusedSimpArgs false

/-- A module, somewhere. -/
def pvMd (m : Md) : Pv := ⟨fun v w => ∃ d0 r0 d1 r1 d2 r2 d3 r3 d4 r4 d5 r5 d6 r6 d7 r7 d8 r8 d9 r9, v = mdV m d0 r0 d1 r1 d2 r2 d3 r3 d4 r4 d5 r5 d6 r6 d7 r7 d8 r8 d9 r9 ∧ MdAt w m d0 r0 d1 r1 d2 r2 d3 r3 d4 r4 d5 r5 d6 r6 d7 r7 d8 r8 d9 r9,
  fun v w w' hb ⟨d0, r0, d1, r1, d2, r2, d3, r3, d4, r4, d5, r5, d6, r6, d7, r7, d8, r8, d9, r9, e, h⟩ => ⟨d0, r0, d1, r1, d2, r2, d3, r3, d4, r4, d5, r5, d6, r6, d7, r7, d8, r8, d9, r9, e, h.keep (keep_below hb)⟩⟩
theorem ilEq_one (q : One) : ilEq q.il q.il = true := ilEq_self _
theorem zip_self {α : Type} {f : α × α → Bool} (h : ∀ x, f (x, x) = true) : ∀ l : List α, (l.zip l).all f = true
  | [] => rfl
  | x :: l => by rw [List.zip_cons_cons, List.all_cons, h, zip_self h l]; rfl
/-- A module is like itself. -/
theorem mdSame_self (m : Md) : mdSame m m = true := by
  unfold mdSame sm0 sm1 sm2 sm3 sm4 sm5 sm6 sm7 sm8
  rw [zip_self (fun x => by simp [typQ]), zip_self (fun x => by simp [impQ]), zip_self (fun x => by simp [funQ, ilEq_self]), zip_self (fun x => by simp [limQ]), zip_self (fun x => by simp [limQ]), zip_self (fun x => by simp [gloQ, ilEq_self]), zip_self (fun x => by simp [expQ]), zip_self (fun x => by simp [elmQ, ilEq_self]), zip_self (fun x => by simp [datQ, ilEq_self])]
  simp [sizesB]
def opsF4 : Array Oper := #[{ dst := some 9, op := Op.load 36 (Operand.tmp 3), type := 36, pos := "law.go:93", after := #[], guard := none }, { dst := some 10, op := Op.call { callee := Callee.value (Operand.func 15), args := #[Operand.tmp 9], argTypes := #[36] }, type := 39, pos := "law.go:93", after := #[{ on := 0, ground := Ground.data }], guard := none }, { dst := some 11, op := Op.load 36 (Operand.tmp 1), type := 36, pos := "law.go:93", after := #[], guard := none }, { dst := some 12, op := Op.call { callee := Callee.value (Operand.func 16), args := #[Operand.tmp 11], argTypes := #[36] }, type := 3, pos := "law.go:93", after := #[{ on := 2, ground := Ground.data }, { on := 1, ground := Ground.chain }], guard := none }, { dst := some 13, op := Op.binOp BinOp.eql 3 (Operand.tmp 10) (Operand.tmp 12) 3, type := 4, pos := "law.go:93", after := #[{ on := 1, ground := Ground.data }, { on := 3, ground := Ground.data }], guard := none }, { dst := some 14, op := Op.move (Operand.tmp 13), type := 4, pos := "law.go:93", after := #[{ on := 4, ground := Ground.data }, { on := 3, ground := Ground.chain }], guard := none }, { dst := some 15, op := Op.load 36 (Operand.tmp 1), type := 36, pos := "law.go:93", after := #[{ on := 5, ground := Ground.guard }], guard := some (5, true) }, { dst := some 16, op := Op.call { callee := Callee.value (Operand.func 14), args := #[Operand.tmp 15], argTypes := #[36] }, type := 36, pos := "law.go:93", after := #[{ on := 6, ground := Ground.data }, { on := 5, ground := Ground.chain }, { on := 5, ground := Ground.guard }], guard := some (5, true) }, { dst := some 17, op := Op.call { callee := Callee.value (Operand.func 17), args := #[Operand.tmp 16], argTypes := #[36] }, type := 3, pos := "law.go:93", after := #[{ on := 7, ground := Ground.data }, { on := 7, ground := Ground.chain }, { on := 5, ground := Ground.guard }], guard := some (5, true) }, { dst := some 18, op := Op.load 36 (Operand.tmp 1), type := 36, pos := "law.go:93", after := #[{ on := 5, ground := Ground.guard }], guard := some (5, true) }, { dst := some 19, op := Op.call { callee := Callee.value (Operand.func 18), args := #[Operand.tmp 18], argTypes := #[36] }, type := 3, pos := "law.go:93", after := #[{ on := 9, ground := Ground.data }, { on := 8, ground := Ground.chain }, { on := 5, ground := Ground.guard }], guard := some (5, true) }, { dst := some 20, op := Op.binOp BinOp.eql 3 (Operand.tmp 17) (Operand.tmp 19) 3, type := 4, pos := "law.go:93", after := #[{ on := 8, ground := Ground.data }, { on := 10, ground := Ground.data }, { on := 5, ground := Ground.guard }], guard := some (5, true) }, { dst := some 21, op := Op.pick (Operand.tmp 14) (Operand.tmp 20) (Operand.const (Value.bool false)), type := 4, pos := "law.go:93", after := #[{ on := 5, ground := Ground.data }, { on := 11, ground := Ground.data }], guard := none }, { dst := some 22, op := Op.move (Operand.tmp 21), type := 4, pos := "law.go:93", after := #[{ on := 12, ground := Ground.data }, { on := 10, ground := Ground.chain }], guard := none }, { dst := some 23, op := Op.load 36 (Operand.tmp 3), type := 36, pos := "law.go:93", after := #[{ on := 13, ground := Ground.guard }], guard := some (13, true) }, { dst := some 24, op := Op.load 36 (Operand.tmp 1), type := 36, pos := "law.go:93", after := #[{ on := 13, ground := Ground.guard }], guard := some (13, true) }, { dst := some 25, op := Op.call { callee := Callee.value (Operand.func 19), args := #[Operand.tmp 23, Operand.tmp 24], argTypes := #[36, 36] }, type := 4, pos := "law.go:93", after := #[{ on := 14, ground := Ground.data }, { on := 15, ground := Ground.data }, { on := 13, ground := Ground.chain }, { on := 13, ground := Ground.guard }], guard := some (13, true) }, { dst := some 26, op := Op.pick (Operand.tmp 22) (Operand.tmp 25) (Operand.const (Value.bool false)), type := 4, pos := "law.go:93", after := #[{ on := 13, ground := Ground.data }, { on := 16, ground := Ground.data }], guard := none }, { dst := some 27, op := Op.move (Operand.tmp 26), type := 4, pos := "law.go:93", after := #[{ on := 17, ground := Ground.data }, { on := 16, ground := Ground.chain }], guard := none }, { dst := some 28, op := Op.call { callee := Callee.value (Operand.func 8), args := #[], argTypes := #[] }, type := 4, pos := "law.go:93", after := #[{ on := 18, ground := Ground.chain }, { on := 18, ground := Ground.guard }], guard := some (18, true) }, { dst := some 29, op := Op.pick (Operand.tmp 27) (Operand.tmp 28) (Operand.const (Value.bool false)), type := 4, pos := "law.go:93", after := #[{ on := 18, ground := Ground.data }, { on := 19, ground := Ground.data }], guard := none }, { dst := some 2, op := Op.assign (Operand.tmp 29), type := 4, pos := "law.go:93", after := #[{ on := 20, ground := Ground.data }, { on := 19, ground := Ground.chain }, { on := 0, ground := Ground.phase }, { on := 1, ground := Ground.phase }, { on := 2, ground := Ground.phase }, { on := 3, ground := Ground.phase }, { on := 4, ground := Ground.phase }, { on := 5, ground := Ground.phase }, { on := 6, ground := Ground.phase }, { on := 7, ground := Ground.phase }, { on := 8, ground := Ground.phase }, { on := 9, ground := Ground.phase }, { on := 10, ground := Ground.phase }, { on := 11, ground := Ground.phase }, { on := 12, ground := Ground.phase }, { on := 13, ground := Ground.phase }, { on := 14, ground := Ground.phase }, { on := 15, ground := Ground.phase }, { on := 16, ground := Ground.phase }, { on := 17, ground := Ground.phase }, { on := 18, ground := Ground.phase }, { on := 19, ground := Ground.phase }, { on := 20, ground := Ground.phase }], guard := none }]
set_option maxRecDepth 100000 in
set_option maxHeartbeats 4000000 in
theorem reg4 {Q : Exit → Act → World → Prop} {f0 : Nat → Value} {V : World} {m : Md} {H M : Nat} {a0 : Option Addr} {k0 : Nat} {a1 : Option Addr} {k1 : Nat} {a2 : Option Addr} {k2 : Nat} {a3 : Option Addr} {k3 : Nat} {a4 : Option Addr} {k4 : Nat} {a5 : Option Addr} {k5 : Nat} {a6 : Option Addr} {k6 : Nat} {a7 : Option Addr} {k7 : Nat} {a8 : Option Addr} {k8 : Nat} {a9 : Option Addr} {k9 : Nat} {b0 : Option Addr} {q0 : Nat} {b1 : Option Addr} {q1 : Nat} {b2 : Option Addr} {q2 : Nat} {b3 : Option Addr} {q3 : Nat} {b4 : Option Addr} {q4 : Nat} {b5 : Option Addr} {q5 : Nat} {b6 : Option Addr} {q6 : Nat} {b7 : Option Addr} {q7 : Nat} {b8 : Option Addr} {q8 : Nat} {b9 : Option Addr} {q9 : Nat}
    (hmix : Tryd.prog.follows .mixedOrders = true) (f1 : f0 1 = .pointer (some ⟨H, 0, none⟩)) (f3 : f0 3 = .pointer (some ⟨M, 0, none⟩))
    (xA : Hid (Box V H #[.slice a0 m.types.length k0, .slice a1 m.imports.length k1, .slice a2 m.funcs.length k2, .slice a3 m.tables.length k3, .slice a4 m.mems.length k4, .slice a5 m.globals.length k5, .slice a6 m.exports.length k6, .slice a7 m.start.length k7, .slice a8 m.elems.length k8, .slice a9 m.datas.length k9])) (xB : Hid (Box V M #[.slice b0 m.types.length q0, .slice b1 m.imports.length q1, .slice b2 m.funcs.length q2, .slice b3 m.tables.length q3, .slice b4 m.mems.length q4, .slice b5 m.globals.length q5, .slice b6 m.exports.length q6, .slice b7 m.start.length q7, .slice b8 m.elems.length q8, .slice b9 m.datas.length q9])) (hA : Hid (MdAt V m a0 k0 a1 k1 a2 k2 a3 k3 a4 k4 a5 k5 a6 k6 a7 k7 a8 k8 a9 k9)) (hB : Hid (MdAt V m b0 q0 b1 q1 b2 q2 b3 q3 b4 q4 b5 q5 b6 q6 b7 q7 b8 q8 b9 q9)) (hS : Hid (Small m)) (hds : Hid (∀ t ∈ m.datas, t.2.size ≤ 300000)) (hT : Hid (TabU V)) (self : Hid (mdSame m m = true))
    (fin : ∀ w' f, Below V.heap.size V w' → f 2 = .bool true → Q .normal (Fv 30 (ovl f0 f [9, 10, 11, 12, 13, 14, 15, 16, 17, 18, 19, 20, 21, 22, 23, 24, 25, 26, 27, 28, 29, 2])) w') :
    (Code.region 4 opsF4 true).wp Tryd.prog Q (Fv 30 f0) V := by
  have hD : ∀ j, j < 22 → (fun i => if i = 21 then 2 else 9 + i) j ∈ [9, 10, 11, 12, 13, 14, 15, 16, 17, 18, 19, 20, 21, 22, 23, 24, 25, 26, 27, 28, 29, 2] := by decide
  refine region_rels hmix 30 22 (fun i => if i = 21 then 2 else 9 + i) rfl (by kernel_rfl) (by kernel_rfl) (fun i => match i with | 0 => pvEq (.agg #[.slice b0 m.types.length q0, .slice b1 m.imports.length q1, .slice b2 m.funcs.length q2, .slice b3 m.tables.length q3, .slice b4 m.mems.length q4, .slice b5 m.globals.length q5, .slice b6 m.exports.length q6, .slice b7 m.start.length q7, .slice b8 m.elems.length q8, .slice b9 m.datas.length q9]) | 1 => pvEq (.int .i64 (checkV m)) | 2 => pvEq (.agg #[.slice a0 m.types.length k0, .slice a1 m.imports.length k1, .slice a2 m.funcs.length k2, .slice a3 m.tables.length k3, .slice a4 m.mems.length k4, .slice a5 m.globals.length k5, .slice a6 m.exports.length k6, .slice a7 m.start.length k7, .slice a8 m.elems.length k8, .slice a9 m.datas.length k9]) | 3 => pvEq (.int .i64 (checkV m)) | 4 => pvEq (.bool true) | 5 => pvEq (.bool true) | 6 => pvEq (.agg #[.slice a0 m.types.length k0, .slice a1 m.imports.length k1, .slice a2 m.funcs.length k2, .slice a3 m.tables.length k3, .slice a4 m.mems.length k4, .slice a5 m.globals.length k5, .slice a6 m.exports.length k6, .slice a7 m.start.length k7, .slice a8 m.elems.length k8, .slice a9 m.datas.length k9]) | 7 => pvMd m | 8 => pvEq (.int .i64 (65536 - cntF m.funcs 65536)) | 9 => pvEq (.agg #[.slice a0 m.types.length k0, .slice a1 m.imports.length k1, .slice a2 m.funcs.length k2, .slice a3 m.tables.length k3, .slice a4 m.mems.length k4, .slice a5 m.globals.length k5, .slice a6 m.exports.length k6, .slice a7 m.start.length k7, .slice a8 m.elems.length k8, .slice a9 m.datas.length k9]) | 10 => pvEq (.int .i64 (65536 - cntF m.funcs 65536)) | 11 => pvEq (.bool true) | 12 => pvEq (.bool true) | 13 => pvEq (.bool true) | 14 => pvEq (.agg #[.slice b0 m.types.length q0, .slice b1 m.imports.length q1, .slice b2 m.funcs.length q2, .slice b3 m.tables.length q3, .slice b4 m.mems.length q4, .slice b5 m.globals.length q5, .slice b6 m.exports.length q6, .slice b7 m.start.length q7, .slice b8 m.elems.length q8, .slice b9 m.datas.length q9]) | 15 => pvEq (.agg #[.slice a0 m.types.length k0, .slice a1 m.imports.length k1, .slice a2 m.funcs.length k2, .slice a3 m.tables.length k3, .slice a4 m.mems.length k4, .slice a5 m.globals.length k5, .slice a6 m.exports.length k6, .slice a7 m.start.length k7, .slice a8 m.elems.length k8, .slice a9 m.datas.length k9]) | 16 => pvEq (.bool true) | 17 => pvEq (.bool true) | 18 => pvEq (.bool true) | 19 => pvEq (.bool true) | 20 => pvEq (.bool true) | 21 => pvEq (.bool true) | _ => pvEq undef) ?_ (fun w' f hb ho hr => by rw [ovl_eq (ds := [9, 10, 11, 12, 13, 14, 15, 16, 17, 18, 19, 20, 21, 22, 23, 24, 25, 26, 27, 28, 29, 2]) (fun t ht => ho t (fun j hj e => ht (e ▸ hD j hj)))]; exact fin w' f hb (hr 21 (by decide)))
  intro i' hi' f w' hb ho' hv
  have ho : ∀ t, t ∉ [9, 10, 11, 12, 13, 14, 15, 16, 17, 18, 19, 20, 21, 22, 23, 24, 25, 26, 27, 28, 29, 2] → f t = f0 t := fun t ht => ho' t (fun j hj e => ht (e ▸ hD j hj))

  match i', hi' with
  | 0, _ =>
    have e3 : f 3 = .pointer (some ⟨M, 0, none⟩) := (ho 3 (by decide)).trans f3
    have g3 := fv_get (n := 30) (by decide) e3
    have c9_0 := keep_below hb _ _ (xB.out 0 _ rfl)
    have c9_1 := keep_below hb _ _ (xB.out 1 _ rfl)
    have c9_2 := keep_below hb _ _ (xB.out 2 _ rfl)
    have c9_3 := keep_below hb _ _ (xB.out 3 _ rfl)
    have c9_4 := keep_below hb _ _ (xB.out 4 _ rfl)
    have c9_5 := keep_below hb _ _ (xB.out 5 _ rfl)
    have c9_6 := keep_below hb _ _ (xB.out 6 _ rfl)
    have c9_7 := keep_below hb _ _ (xB.out 7 _ rfl)
    have c9_8 := keep_below hb _ _ (xB.out 8 _ rfl)
    have c9_9 := keep_below hb _ _ (xB.out 9 _ rfl)
    refine wpOp_step (o := { dst := some 9, op := Op.load 36 (Operand.tmp 3), type := 36, pos := "law.go:93", after := #[], guard := none }) rfl ?_
    intro K' hK'
    rw [if_pos (wanted_none rfl)]
    go_simp
    (try simp only [g3])
    (try go_simp)
    exact hK' _ _ ⟨_, fv_set _ _, rfl, Below.refl _ _⟩
  | 1, _ =>
    have e9 : f 9 = .agg #[.slice b0 m.types.length q0, .slice b1 m.imports.length q1, .slice b2 m.funcs.length q2, .slice b3 m.tables.length q3, .slice b4 m.mems.length q4, .slice b5 m.globals.length q5, .slice b6 m.exports.length q6, .slice b7 m.start.length q7, .slice b8 m.elems.length q8, .slice b9 m.datas.length q9] := hv 0 (by kernel_rfl)
    have g9 := fv_get (n := 30) (by decide) e9
    refine wpOp_step (o := { dst := some 10, op := Op.call { callee := Callee.value (Operand.func 15), args := #[Operand.tmp 9], argTypes := #[36] }, type := 39, pos := "law.go:93", after := #[{ on := 0, ground := Ground.data }], guard := none }) rfl ?_
    intro K' hK'
    rw [if_pos (wanted_none rfl)]
    go_simp
    (try simp only [g9])
    (try go_simp)
    go_at_call 15
    refine (check_any m b0 q0 b1 q1 b2 q2 b3 q3 b4 q4 b5 q5 b6 q6 b7 q7 b8 q8 b9 q9 w' (hB.out.keep (keep_below hb)) (hT.out.below hb)).mono ?_
    rintro e u ⟨rfl, hu⟩
    go_simp
    exact hK' _ _ ⟨_, fv_set _ _, rfl, hu⟩
  | 2, _ =>
    have e1 : f 1 = .pointer (some ⟨H, 0, none⟩) := (ho 1 (by decide)).trans f1
    have g1 := fv_get (n := 30) (by decide) e1
    have c11_0 := keep_below hb _ _ (xA.out 0 _ rfl)
    have c11_1 := keep_below hb _ _ (xA.out 1 _ rfl)
    have c11_2 := keep_below hb _ _ (xA.out 2 _ rfl)
    have c11_3 := keep_below hb _ _ (xA.out 3 _ rfl)
    have c11_4 := keep_below hb _ _ (xA.out 4 _ rfl)
    have c11_5 := keep_below hb _ _ (xA.out 5 _ rfl)
    have c11_6 := keep_below hb _ _ (xA.out 6 _ rfl)
    have c11_7 := keep_below hb _ _ (xA.out 7 _ rfl)
    have c11_8 := keep_below hb _ _ (xA.out 8 _ rfl)
    have c11_9 := keep_below hb _ _ (xA.out 9 _ rfl)
    refine wpOp_step (o := { dst := some 11, op := Op.load 36 (Operand.tmp 1), type := 36, pos := "law.go:93", after := #[], guard := none }) rfl ?_
    intro K' hK'
    rw [if_pos (wanted_none rfl)]
    go_simp
    (try simp only [g1])
    (try go_simp)
    exact hK' _ _ ⟨_, fv_set _ _, rfl, Below.refl _ _⟩
  | 3, _ =>
    have e11 : f 11 = .agg #[.slice a0 m.types.length k0, .slice a1 m.imports.length k1, .slice a2 m.funcs.length k2, .slice a3 m.tables.length k3, .slice a4 m.mems.length k4, .slice a5 m.globals.length k5, .slice a6 m.exports.length k6, .slice a7 m.start.length k7, .slice a8 m.elems.length k8, .slice a9 m.datas.length k9] := hv 2 (by kernel_rfl)
    have g11 := fv_get (n := 30) (by decide) e11
    refine wpOp_step (o := { dst := some 12, op := Op.call { callee := Callee.value (Operand.func 16), args := #[Operand.tmp 11], argTypes := #[36] }, type := 3, pos := "law.go:93", after := #[{ on := 2, ground := Ground.data }, { on := 1, ground := Ground.chain }], guard := none }) rfl ?_
    intro K' hK'
    rw [if_pos (wanted_none rfl)]
    go_simp
    (try simp only [g11])
    (try go_simp)
    go_at_call 16
    refine (rcheck_any m a0 k0 a1 k1 a2 k2 a3 k3 a4 k4 a5 k5 a6 k6 a7 k7 a8 k8 a9 k9 w' (hA.out.keep (keep_below hb)) hds.out).mono ?_
    rintro e u ⟨rfl, hu⟩
    go_simp
    exact hK' _ _ ⟨_, fv_set _ _, rfl, hu⟩
  | 4, _ =>
    have e10 : f 10 = .int .i64 (checkV m) := hv 1 (by kernel_rfl)
    have g10 := fv_get (n := 30) (by decide) e10
    have e12 : f 12 = .int .i64 (checkV m) := hv 3 (by kernel_rfl)
    have g12 := fv_get (n := 30) (by decide) e12
    refine wpOp_step (o := { dst := some 13, op := Op.binOp BinOp.eql 3 (Operand.tmp 10) (Operand.tmp 12) 3, type := 4, pos := "law.go:93", after := #[{ on := 1, ground := Ground.data }, { on := 3, ground := Ground.data }], guard := none }) rfl ?_
    intro K' hK'
    rw [if_pos (wanted_none rfl)]
    go_simp
    (try simp only [g10, g12])
    (try go_simp)
    exact hK' _ _ ⟨_, fv_set _ _, rfl, Below.refl _ _⟩
  | 5, _ =>
    have e13 : f 13 = .bool true := hv 4 (by kernel_rfl)
    have g13 := fv_get (n := 30) (by decide) e13
    refine wpOp_step (o := { dst := some 14, op := Op.move (Operand.tmp 13), type := 4, pos := "law.go:93", after := #[{ on := 4, ground := Ground.data }, { on := 3, ground := Ground.chain }], guard := none }) rfl ?_
    intro K' hK'
    rw [if_pos (wanted_none rfl)]
    go_simp
    (try simp only [g13])
    (try go_simp)
    exact hK' _ _ ⟨_, fv_set _ _, rfl, Below.refl _ _⟩
  | 6, _ =>
    have e1 : f 1 = .pointer (some ⟨H, 0, none⟩) := (ho 1 (by decide)).trans f1
    have g1 := fv_get (n := 30) (by decide) e1
    have eg : f 14 = .bool true := hv 5 (by kernel_rfl)
    have c15_0 := keep_below hb _ _ (xA.out 0 _ rfl)
    have c15_1 := keep_below hb _ _ (xA.out 1 _ rfl)
    have c15_2 := keep_below hb _ _ (xA.out 2 _ rfl)
    have c15_3 := keep_below hb _ _ (xA.out 3 _ rfl)
    have c15_4 := keep_below hb _ _ (xA.out 4 _ rfl)
    have c15_5 := keep_below hb _ _ (xA.out 5 _ rfl)
    have c15_6 := keep_below hb _ _ (xA.out 6 _ rfl)
    have c15_7 := keep_below hb _ _ (xA.out 7 _ rfl)
    have c15_8 := keep_below hb _ _ (xA.out 8 _ rfl)
    have c15_9 := keep_below hb _ _ (xA.out 9 _ rfl)
    refine wpOp_step (o := { dst := some 15, op := Op.load 36 (Operand.tmp 1), type := 36, pos := "law.go:93", after := #[{ on := 5, ground := Ground.guard }], guard := some (5, true) }) rfl ?_
    intro K' hK'
    rw [if_pos (by rw [wanted_some (g := 5) (d := 14) (b := true) (c := true) rfl rfl (by decide) eg]; rfl)]
    go_simp
    (try simp only [g1])
    (try go_simp)
    exact hK' _ _ ⟨_, fv_set _ _, rfl, Below.refl _ _⟩
  | 7, _ =>
    have e15 : f 15 = .agg #[.slice a0 m.types.length k0, .slice a1 m.imports.length k1, .slice a2 m.funcs.length k2, .slice a3 m.tables.length k3, .slice a4 m.mems.length k4, .slice a5 m.globals.length k5, .slice a6 m.exports.length k6, .slice a7 m.start.length k7, .slice a8 m.elems.length k8, .slice a9 m.datas.length k9] := hv 6 (by kernel_rfl)
    have g15 := fv_get (n := 30) (by decide) e15
    have eg : f 14 = .bool true := hv 5 (by kernel_rfl)
    refine wpOp_step (o := { dst := some 16, op := Op.call { callee := Callee.value (Operand.func 14), args := #[Operand.tmp 15], argTypes := #[36] }, type := 36, pos := "law.go:93", after := #[{ on := 6, ground := Ground.data }, { on := 5, ground := Ground.chain }, { on := 5, ground := Ground.guard }], guard := some (5, true) }) rfl ?_
    intro K' hK'
    rw [if_pos (by rw [wanted_some (g := 5) (d := 14) (b := true) (c := true) rfl rfl (by decide) eg]; rfl)]
    go_simp
    (try simp only [g15])
    (try go_simp)
    go_at_call 14
    refine (copy_any m hS.out w' (hA.out.keep (keep_below hb))).mono ?_
    rintro e u ⟨d0, r0, d1, r1, d2, r2, d3, r3, d4, r4, d5, r5, d6, r6, d7, r7, d8, r8, d9, r9, rfl, hM, hu⟩
    go_simp
    exact hK' _ _ ⟨_, fv_set _ _, ⟨d0, r0, d1, r1, d2, r2, d3, r3, d4, r4, d5, r5, d6, r6, d7, r7, d8, r8, d9, r9, rfl, hM⟩, hu⟩
  | 8, _ =>
    obtain ⟨d0, r0, d1, r1, d2, r2, d3, r3, d4, r4, d5, r5, d6, r6, d7, r7, d8, r8, d9, r9, e16, r16⟩ := hv 7 (by kernel_rfl)
    have e16 : f 16 = .agg #[.slice d0 m.types.length r0, .slice d1 m.imports.length r1, .slice d2 m.funcs.length r2, .slice d3 m.tables.length r3, .slice d4 m.mems.length r4, .slice d5 m.globals.length r5, .slice d6 m.exports.length r6, .slice d7 m.start.length r7, .slice d8 m.elems.length r8, .slice d9 m.datas.length r9] := e16
    have g16 := fv_get (n := 30) (by decide) e16
    have eg : f 14 = .bool true := hv 5 (by kernel_rfl)
    refine wpOp_step (o := { dst := some 17, op := Op.call { callee := Callee.value (Operand.func 17), args := #[Operand.tmp 16], argTypes := #[36] }, type := 3, pos := "law.go:93", after := #[{ on := 7, ground := Ground.data }, { on := 7, ground := Ground.chain }, { on := 5, ground := Ground.guard }], guard := some (5, true) }) rfl ?_
    intro K' hK'
    rw [if_pos (by rw [wanted_some (g := 5) (d := 14) (b := true) (c := true) rfl rfl (by decide) eg]; rfl)]
    go_simp
    (try simp only [g16])
    (try go_simp)
    go_at_call 17
    refine (count_core m _ _ _ _ _ _ _ _ _ d2 r2 w' r16.funcs).mono ?_
    rintro e u ⟨rfl, hu⟩
    go_simp
    exact hK' _ _ ⟨_, fv_set _ _, rfl, hu⟩
  | 9, _ =>
    have e1 : f 1 = .pointer (some ⟨H, 0, none⟩) := (ho 1 (by decide)).trans f1
    have g1 := fv_get (n := 30) (by decide) e1
    have eg : f 14 = .bool true := hv 5 (by kernel_rfl)
    have c18_0 := keep_below hb _ _ (xA.out 0 _ rfl)
    have c18_1 := keep_below hb _ _ (xA.out 1 _ rfl)
    have c18_2 := keep_below hb _ _ (xA.out 2 _ rfl)
    have c18_3 := keep_below hb _ _ (xA.out 3 _ rfl)
    have c18_4 := keep_below hb _ _ (xA.out 4 _ rfl)
    have c18_5 := keep_below hb _ _ (xA.out 5 _ rfl)
    have c18_6 := keep_below hb _ _ (xA.out 6 _ rfl)
    have c18_7 := keep_below hb _ _ (xA.out 7 _ rfl)
    have c18_8 := keep_below hb _ _ (xA.out 8 _ rfl)
    have c18_9 := keep_below hb _ _ (xA.out 9 _ rfl)
    refine wpOp_step (o := { dst := some 18, op := Op.load 36 (Operand.tmp 1), type := 36, pos := "law.go:93", after := #[{ on := 5, ground := Ground.guard }], guard := some (5, true) }) rfl ?_
    intro K' hK'
    rw [if_pos (by rw [wanted_some (g := 5) (d := 14) (b := true) (c := true) rfl rfl (by decide) eg]; rfl)]
    go_simp
    (try simp only [g1])
    (try go_simp)
    exact hK' _ _ ⟨_, fv_set _ _, rfl, Below.refl _ _⟩
  | 10, _ =>
    have e18 : f 18 = .agg #[.slice a0 m.types.length k0, .slice a1 m.imports.length k1, .slice a2 m.funcs.length k2, .slice a3 m.tables.length k3, .slice a4 m.mems.length k4, .slice a5 m.globals.length k5, .slice a6 m.exports.length k6, .slice a7 m.start.length k7, .slice a8 m.elems.length k8, .slice a9 m.datas.length k9] := hv 9 (by kernel_rfl)
    have g18 := fv_get (n := 30) (by decide) e18
    have eg : f 14 = .bool true := hv 5 (by kernel_rfl)
    refine wpOp_step (o := { dst := some 19, op := Op.call { callee := Callee.value (Operand.func 18), args := #[Operand.tmp 18], argTypes := #[36] }, type := 3, pos := "law.go:93", after := #[{ on := 9, ground := Ground.data }, { on := 8, ground := Ground.chain }, { on := 5, ground := Ground.guard }], guard := some (5, true) }) rfl ?_
    intro K' hK'
    rw [if_pos (by rw [wanted_some (g := 5) (d := 14) (b := true) (c := true) rfl rfl (by decide) eg]; rfl)]
    go_simp
    (try simp only [g18])
    (try go_simp)
    go_at_call 18
    refine (rcountM_any m a0 k0 a1 k1 a2 k2 a3 k3 a4 k4 a5 k5 a6 k6 a7 k7 a8 k8 a9 k9 w' (hA.out.keep (keep_below hb))).mono ?_
    rintro e u ⟨rfl, hu⟩
    go_simp
    exact hK' _ _ ⟨_, fv_set _ _, rfl, hu⟩
  | 11, _ =>
    have e17 : f 17 = .int .i64 (65536 - cntF m.funcs 65536) := hv 8 (by kernel_rfl)
    have g17 := fv_get (n := 30) (by decide) e17
    have e19 : f 19 = .int .i64 (65536 - cntF m.funcs 65536) := hv 10 (by kernel_rfl)
    have g19 := fv_get (n := 30) (by decide) e19
    have eg : f 14 = .bool true := hv 5 (by kernel_rfl)
    refine wpOp_step (o := { dst := some 20, op := Op.binOp BinOp.eql 3 (Operand.tmp 17) (Operand.tmp 19) 3, type := 4, pos := "law.go:93", after := #[{ on := 8, ground := Ground.data }, { on := 10, ground := Ground.data }, { on := 5, ground := Ground.guard }], guard := some (5, true) }) rfl ?_
    intro K' hK'
    rw [if_pos (by rw [wanted_some (g := 5) (d := 14) (b := true) (c := true) rfl rfl (by decide) eg]; rfl)]
    go_simp
    (try simp only [g17, g19])
    (try go_simp)
    exact hK' _ _ ⟨_, fv_set _ _, rfl, Below.refl _ _⟩
  | 12, _ =>
    have e14 : f 14 = .bool true := hv 5 (by kernel_rfl)
    have g14 := fv_get (n := 30) (by decide) e14
    have e20 : f 20 = .bool true := hv 11 (by kernel_rfl)
    have g20 := fv_get (n := 30) (by decide) e20
    refine wpOp_step (o := { dst := some 21, op := Op.pick (Operand.tmp 14) (Operand.tmp 20) (Operand.const (Value.bool false)), type := 4, pos := "law.go:93", after := #[{ on := 5, ground := Ground.data }, { on := 11, ground := Ground.data }], guard := none }) rfl ?_
    intro K' hK'
    rw [if_pos (wanted_none rfl)]
    go_simp
    (try simp only [g14, g20])
    (try go_simp)
    exact hK' _ _ ⟨_, fv_set _ _, rfl, Below.refl _ _⟩
  | 13, _ =>
    have e21 : f 21 = .bool true := hv 12 (by kernel_rfl)
    have g21 := fv_get (n := 30) (by decide) e21
    refine wpOp_step (o := { dst := some 22, op := Op.move (Operand.tmp 21), type := 4, pos := "law.go:93", after := #[{ on := 12, ground := Ground.data }, { on := 10, ground := Ground.chain }], guard := none }) rfl ?_
    intro K' hK'
    rw [if_pos (wanted_none rfl)]
    go_simp
    (try simp only [g21])
    (try go_simp)
    exact hK' _ _ ⟨_, fv_set _ _, rfl, Below.refl _ _⟩
  | 14, _ =>
    have e3 : f 3 = .pointer (some ⟨M, 0, none⟩) := (ho 3 (by decide)).trans f3
    have g3 := fv_get (n := 30) (by decide) e3
    have eg : f 22 = .bool true := hv 13 (by kernel_rfl)
    have c23_0 := keep_below hb _ _ (xB.out 0 _ rfl)
    have c23_1 := keep_below hb _ _ (xB.out 1 _ rfl)
    have c23_2 := keep_below hb _ _ (xB.out 2 _ rfl)
    have c23_3 := keep_below hb _ _ (xB.out 3 _ rfl)
    have c23_4 := keep_below hb _ _ (xB.out 4 _ rfl)
    have c23_5 := keep_below hb _ _ (xB.out 5 _ rfl)
    have c23_6 := keep_below hb _ _ (xB.out 6 _ rfl)
    have c23_7 := keep_below hb _ _ (xB.out 7 _ rfl)
    have c23_8 := keep_below hb _ _ (xB.out 8 _ rfl)
    have c23_9 := keep_below hb _ _ (xB.out 9 _ rfl)
    refine wpOp_step (o := { dst := some 23, op := Op.load 36 (Operand.tmp 3), type := 36, pos := "law.go:93", after := #[{ on := 13, ground := Ground.guard }], guard := some (13, true) }) rfl ?_
    intro K' hK'
    rw [if_pos (by rw [wanted_some (g := 13) (d := 22) (b := true) (c := true) rfl rfl (by decide) eg]; rfl)]
    go_simp
    (try simp only [g3])
    (try go_simp)
    exact hK' _ _ ⟨_, fv_set _ _, rfl, Below.refl _ _⟩
  | 15, _ =>
    have e1 : f 1 = .pointer (some ⟨H, 0, none⟩) := (ho 1 (by decide)).trans f1
    have g1 := fv_get (n := 30) (by decide) e1
    have eg : f 22 = .bool true := hv 13 (by kernel_rfl)
    have c24_0 := keep_below hb _ _ (xA.out 0 _ rfl)
    have c24_1 := keep_below hb _ _ (xA.out 1 _ rfl)
    have c24_2 := keep_below hb _ _ (xA.out 2 _ rfl)
    have c24_3 := keep_below hb _ _ (xA.out 3 _ rfl)
    have c24_4 := keep_below hb _ _ (xA.out 4 _ rfl)
    have c24_5 := keep_below hb _ _ (xA.out 5 _ rfl)
    have c24_6 := keep_below hb _ _ (xA.out 6 _ rfl)
    have c24_7 := keep_below hb _ _ (xA.out 7 _ rfl)
    have c24_8 := keep_below hb _ _ (xA.out 8 _ rfl)
    have c24_9 := keep_below hb _ _ (xA.out 9 _ rfl)
    refine wpOp_step (o := { dst := some 24, op := Op.load 36 (Operand.tmp 1), type := 36, pos := "law.go:93", after := #[{ on := 13, ground := Ground.guard }], guard := some (13, true) }) rfl ?_
    intro K' hK'
    rw [if_pos (by rw [wanted_some (g := 13) (d := 22) (b := true) (c := true) rfl rfl (by decide) eg]; rfl)]
    go_simp
    (try simp only [g1])
    (try go_simp)
    exact hK' _ _ ⟨_, fv_set _ _, rfl, Below.refl _ _⟩
  | 16, _ =>
    have e23 : f 23 = .agg #[.slice b0 m.types.length q0, .slice b1 m.imports.length q1, .slice b2 m.funcs.length q2, .slice b3 m.tables.length q3, .slice b4 m.mems.length q4, .slice b5 m.globals.length q5, .slice b6 m.exports.length q6, .slice b7 m.start.length q7, .slice b8 m.elems.length q8, .slice b9 m.datas.length q9] := hv 14 (by kernel_rfl)
    have g23 := fv_get (n := 30) (by decide) e23
    have e24 : f 24 = .agg #[.slice a0 m.types.length k0, .slice a1 m.imports.length k1, .slice a2 m.funcs.length k2, .slice a3 m.tables.length k3, .slice a4 m.mems.length k4, .slice a5 m.globals.length k5, .slice a6 m.exports.length k6, .slice a7 m.start.length k7, .slice a8 m.elems.length k8, .slice a9 m.datas.length k9] := hv 15 (by kernel_rfl)
    have g24 := fv_get (n := 30) (by decide) e24
    have eg : f 22 = .bool true := hv 13 (by kernel_rfl)
    refine wpOp_step (o := { dst := some 25, op := Op.call { callee := Callee.value (Operand.func 19), args := #[Operand.tmp 23, Operand.tmp 24], argTypes := #[36, 36] }, type := 4, pos := "law.go:93", after := #[{ on := 14, ground := Ground.data }, { on := 15, ground := Ground.data }, { on := 13, ground := Ground.chain }, { on := 13, ground := Ground.guard }], guard := some (13, true) }) rfl ?_
    intro K' hK'
    rw [if_pos (by rw [wanted_some (g := 13) (d := 22) (b := true) (c := true) rfl rfl (by decide) eg]; rfl)]
    go_simp
    (try simp only [g23, g24])
    (try go_simp)
    go_at_call 19
    refine (rsame_any m m b0 q0 b1 q1 b2 q2 b3 q3 b4 q4 b5 q5 b6 q6 b7 q7 b8 q8 b9 q9 a0 k0 a1 k1 a2 k2 a3 k3 a4 k4 a5 k5 a6 k6 a7 k7 a8 k8 a9 k9 w' (hB.out.keep (keep_below hb)) (hA.out.keep (keep_below hb))).mono ?_
    rintro e u ⟨rfl, hu⟩
    rw [self.out]
    go_simp
    exact hK' _ _ ⟨_, fv_set _ _, rfl, hu⟩
  | 17, _ =>
    have e22 : f 22 = .bool true := hv 13 (by kernel_rfl)
    have g22 := fv_get (n := 30) (by decide) e22
    have e25 : f 25 = .bool true := hv 16 (by kernel_rfl)
    have g25 := fv_get (n := 30) (by decide) e25
    refine wpOp_step (o := { dst := some 26, op := Op.pick (Operand.tmp 22) (Operand.tmp 25) (Operand.const (Value.bool false)), type := 4, pos := "law.go:93", after := #[{ on := 13, ground := Ground.data }, { on := 16, ground := Ground.data }], guard := none }) rfl ?_
    intro K' hK'
    rw [if_pos (wanted_none rfl)]
    go_simp
    (try simp only [g22, g25])
    (try go_simp)
    exact hK' _ _ ⟨_, fv_set _ _, rfl, Below.refl _ _⟩
  | 18, _ =>
    have e26 : f 26 = .bool true := hv 17 (by kernel_rfl)
    have g26 := fv_get (n := 30) (by decide) e26
    refine wpOp_step (o := { dst := some 27, op := Op.move (Operand.tmp 26), type := 4, pos := "law.go:93", after := #[{ on := 17, ground := Ground.data }, { on := 16, ground := Ground.chain }], guard := none }) rfl ?_
    intro K' hK'
    rw [if_pos (wanted_none rfl)]
    go_simp
    (try simp only [g26])
    (try go_simp)
    exact hK' _ _ ⟨_, fv_set _ _, rfl, Below.refl _ _⟩
  | 19, _ =>
    have eg : f 27 = .bool true := hv 18 (by kernel_rfl)
    refine wpOp_step (o := { dst := some 28, op := Op.call { callee := Callee.value (Operand.func 8), args := #[], argTypes := #[] }, type := 4, pos := "law.go:93", after := #[{ on := 18, ground := Ground.chain }, { on := 18, ground := Ground.guard }], guard := some (18, true) }) rfl ?_
    intro K' hK'
    rw [if_pos (by rw [wanted_some (g := 18) (d := 27) (b := true) (c := true) rfl rfl (by decide) eg]; rfl)]
    go_simp
    go_at_call 8
    refine (wakes_any w' (hT.out.below hb)).mono ?_
    rintro e u ⟨rfl, hu⟩
    go_simp
    exact hK' _ _ ⟨_, fv_set _ _, rfl, hu⟩
  | 20, _ =>
    have e27 : f 27 = .bool true := hv 18 (by kernel_rfl)
    have g27 := fv_get (n := 30) (by decide) e27
    have e28 : f 28 = .bool true := hv 19 (by kernel_rfl)
    have g28 := fv_get (n := 30) (by decide) e28
    refine wpOp_step (o := { dst := some 29, op := Op.pick (Operand.tmp 27) (Operand.tmp 28) (Operand.const (Value.bool false)), type := 4, pos := "law.go:93", after := #[{ on := 18, ground := Ground.data }, { on := 19, ground := Ground.data }], guard := none }) rfl ?_
    intro K' hK'
    rw [if_pos (wanted_none rfl)]
    go_simp
    (try simp only [g27, g28])
    (try go_simp)
    exact hK' _ _ ⟨_, fv_set _ _, rfl, Below.refl _ _⟩
  | 21, _ =>
    have e29 : f 29 = .bool true := hv 20 (by kernel_rfl)
    have g29 := fv_get (n := 30) (by decide) e29
    refine wpOp_step (o := { dst := some 2, op := Op.assign (Operand.tmp 29), type := 4, pos := "law.go:93", after := #[{ on := 20, ground := Ground.data }, { on := 19, ground := Ground.chain }, { on := 0, ground := Ground.phase }, { on := 1, ground := Ground.phase }, { on := 2, ground := Ground.phase }, { on := 3, ground := Ground.phase }, { on := 4, ground := Ground.phase }, { on := 5, ground := Ground.phase }, { on := 6, ground := Ground.phase }, { on := 7, ground := Ground.phase }, { on := 8, ground := Ground.phase }, { on := 9, ground := Ground.phase }, { on := 10, ground := Ground.phase }, { on := 11, ground := Ground.phase }, { on := 12, ground := Ground.phase }, { on := 13, ground := Ground.phase }, { on := 14, ground := Ground.phase }, { on := 15, ground := Ground.phase }, { on := 16, ground := Ground.phase }, { on := 17, ground := Ground.phase }, { on := 18, ground := Ground.phase }, { on := 19, ground := Ground.phase }, { on := 20, ground := Ground.phase }], guard := none }) rfl ?_
    intro K' hK'
    rw [if_pos (wanted_none rfl)]
    go_simp
    (try simp only [g29])
    (try go_simp)
    exact hK' _ _ ⟨_, fv_set _ _, rfl, Below.refl _ _⟩
  | k + 22, h => exact absurd h (by omega)
end Go.Proofs.YtofleejokkdklaaDoor

namespace Go.Proofs.YtofleejokkdklaaDoor
open Go.RowKit
set_option linter.unusedVariables false
set_option linter.unusedSimpArgs false

set_option maxRecDepth 100000 in
set_option maxHeartbeats 4000000 in
theorem checks_any (m : Md) (a0 : Option Addr) (k0 : Nat) (a1 : Option Addr) (k1 : Nat) (a2 : Option Addr) (k2 : Nat) (a3 : Option Addr) (k3 : Nat) (a4 : Option Addr) (k4 : Nat) (a5 : Option Addr) (k5 : Nat) (a6 : Option Addr) (k6 : Nat) (a7 : Option Addr) (k7 : Nat) (a8 : Option Addr) (k8 : Nat) (a9 : Option Addr) (k9 : Nat) (w : World) (h : MdAt w m a0 k0 a1 k1 a2 k2 a3 k3 a4 k4 a5 k5 a6 k6 a7 k7 a8 k8 a9 k9) (hT : TabU w) :
    Calls Tryd.prog 4 #[mdV m a0 k0 a1 k1 a2 k2 a3 k3 a4 k4 a5 k5 a6 k6 a7 k7 a8 k8 a9 k9] w fun e w' => e = .returned (.bool true) ∧ Below w.heap.size w w' := by
  have hmix : Tryd.prog.follows .mixedOrders = true := by kernel_rfl
  have hB0 : Below w.heap.size w (w.alloc (.cells #[.slice a0 m.types.length k0, .slice a1 m.imports.length k1, .slice a2 m.funcs.length k2, .slice a3 m.tables.length k3, .slice a4 m.mems.length k4, .slice a5 m.globals.length k5, .slice a6 m.exports.length k6, .slice a7 m.start.length k7, .slice a8 m.elems.length k8, .slice a9 m.datas.length k9] 36)) := (Below.refl _ _).alloc (Nat.le_refl _) _
  have HM := Lib.hid (h.keep (keep_below hB0))
  have HT := Lib.hid (hT.below hB0)
  have hbx : Hid (Box (w.alloc (.cells #[.slice a0 m.types.length k0, .slice a1 m.imports.length k1, .slice a2 m.funcs.length k2, .slice a3 m.tables.length k3, .slice a4 m.mems.length k4, .slice a5 m.globals.length k5, .slice a6 m.exports.length k6, .slice a7 m.start.length k7, .slice a8 m.elems.length k8, .slice a9 m.datas.length k9] 36)) w.heap.size #[.slice a0 m.types.length k0, .slice a1 m.imports.length k1, .slice a2 m.funcs.length k2, .slice a3 m.tables.length k3, .slice a4 m.mems.length k4, .slice a5 m.globals.length k5, .slice a6 m.exports.length k6, .slice a7 m.start.length k7, .slice a8 m.elems.length k8, .slice a9 m.datas.length k9]) := Lib.hid (box_new w _ _)
  have hs0 : w.heap.size < (w.alloc (.cells #[.slice a0 m.types.length k0, .slice a1 m.imports.length k1, .slice a2 m.funcs.length k2, .slice a3 m.tables.length k3, .slice a4 m.mems.length k4, .slice a5 m.globals.length k5, .slice a6 m.exports.length k6, .slice a7 m.start.length k7, .slice a8 m.elems.length k8, .slice a9 m.datas.length k9] 36)).heap.size := by simp
  replace hB0 := Lib.hid hB0
  clear h hT
  unfold mdV
  go_enter Tryd.func4, Tryd.ntmps4
  go_wp2_with fail
  obtain ⟨w0, hw0⟩ : ∃ w0, w0 = w.alloc (.cells #[.slice a0 m.types.length k0, .slice a1 m.imports.length k1, .slice a2 m.funcs.length k2, .slice a3 m.tables.length k3, .slice a4 m.mems.length k4, .slice a5 m.globals.length k5, .slice a6 m.exports.length k6, .slice a7 m.start.length k7, .slice a8 m.elems.length k8, .slice a9 m.datas.length k9] 36) := ⟨_, rfl⟩
  rw [← hw0] at HM HT hbx hs0 hB0 ⊢
  clear hw0
  refine (large_any m a0 k0 a1 k1 a2 k2 a3 k3 a4 k4 a5 k5 a6 k6 a7 k7 a8 k8 a9 k9 w0 HM.out).mono ?_
  rintro e w1 ⟨L, rfl, hS, hb1⟩
  replace hb1 := Lib.hid hb1
  replace hS := Lib.hid hS
  have hB1 := Lib.hid (hB0.out.trans (hb1.out.mono (Nat.le_of_lt hs0)))
  have HM1 := Lib.hid (HM.out.keep (keep_below hb1.out))
  have HT1 := Lib.hid (HT.out.below hb1.out)
  have hbx1 := Lib.hid (hbx.out.keep (keep_below hb1.out))
  cases L
  · have hS2 := Lib.hid (hS.out rfl)
    have x0 : w1.cell? ⟨w.heap.size, 0, none⟩ = _ := hbx1.out 0 _ rfl
    have x1 : w1.cell? ⟨w.heap.size, 1, none⟩ = _ := hbx1.out 1 _ rfl
    have x2 : w1.cell? ⟨w.heap.size, 2, none⟩ = _ := hbx1.out 2 _ rfl
    have x3 : w1.cell? ⟨w.heap.size, 3, none⟩ = _ := hbx1.out 3 _ rfl
    have x4 : w1.cell? ⟨w.heap.size, 4, none⟩ = _ := hbx1.out 4 _ rfl
    have x5 : w1.cell? ⟨w.heap.size, 5, none⟩ = _ := hbx1.out 5 _ rfl
    have x6 : w1.cell? ⟨w.heap.size, 6, none⟩ = _ := hbx1.out 6 _ rfl
    have x7 : w1.cell? ⟨w.heap.size, 7, none⟩ = _ := hbx1.out 7 _ rfl
    have x8 : w1.cell? ⟨w.heap.size, 8, none⟩ = _ := hbx1.out 8 _ rfl
    have x9 : w1.cell? ⟨w.heap.size, 9, none⟩ = _ := hbx1.out 9 _ rfl
    go_wp2_with fail
    refine (copy_any m hS2.out w1 HM1.out).mono ?_
    rintro e w2 ⟨b0, q0, b1, q1, b2, q2, b3, q3, b4, q4, b5, q5, b6, q6, b7, q7, b8, q8, b9, q9, rfl, hM2, hb2⟩
    have hB2 := Lib.hid (hB1.out.trans (hb2.mono hB1.out.size))
    have HM2 := Lib.hid (HM1.out.keep (keep_below hb2))
    have HT2 := Lib.hid (HT1.out.below hb2)
    have hbx2 := Lib.hid (hbx1.out.keep (keep_below hb2))
    have HN2 := Lib.hid hM2
    have hB2' := Lib.hid hb2
    clear hb2 hM2 x0 x1 x2 x3 x4 x5 x6 x7 x8 x9
    unfold mdV
    go_upto_region 4 with fail
    obtain ⟨w3, hw3⟩ : ∃ w3, w3 = w2.alloc (.cells #[.slice b0 m.types.length q0, .slice b1 m.imports.length q1, .slice b2 m.funcs.length q2, .slice b3 m.tables.length q3, .slice b4 m.mems.length q4, .slice b5 m.globals.length q5, .slice b6 m.exports.length q6, .slice b7 m.start.length q7, .slice b8 m.elems.length q8, .slice b9 m.datas.length q9] 36) := ⟨_, rfl⟩
    rw [← hw3]
    have hb3 : Below w2.heap.size w2 w3 := by rw [hw3]; exact (Below.refl _ _).alloc (Nat.le_refl _) _
    have hn3 : Box w3 w2.heap.size #[.slice b0 m.types.length q0, .slice b1 m.imports.length q1, .slice b2 m.funcs.length q2, .slice b3 m.tables.length q3, .slice b4 m.mems.length q4, .slice b5 m.globals.length q5, .slice b6 m.exports.length q6, .slice b7 m.start.length q7, .slice b8 m.elems.length q8, .slice b9 m.datas.length q9] := by rw [hw3]; exact box_new w2 _ _
    have hB3 := Lib.hid (hB2.out.trans (hb3.mono hB2.out.size))
    have HM3 := Lib.hid (HM2.out.keep (keep_below hb3))
    have HN3 := Lib.hid (HN2.out.keep (keep_below hb3))
    have HT3 := Lib.hid (HT2.out.below hb3)
    have hbx3 := Lib.hid (hbx2.out.keep (keep_below hb3))
    have hby3 := Lib.hid hn3
    clear hb3 hn3 hw3
    refine wpv_then ?_
    intro K hK
    go_cut [2] from 9 to 29 (fun v wx => v = .bool true ∧ Hid (Below w3.heap.size w3 wx))
    case first =>
      refine wp_fv _ 30 rfl (reg4 hmix rfl rfl hbx3 hby3 HM3 HN3 hS2 (Lib.hid fun t ht => (hS2.out.datas t ht).1) HT3 (Lib.hid (mdSame_self m)) ?_)
      intro w' f hb hf
      go_wp2_with fail
      go_meet
      exact ⟨hf, Lib.hid hb⟩
    case rest =>
      obtain ⟨rfl, hb⟩ := hcut
      refine (hK _ _).2 ?_
      clear hK
      go_wp2
      go_ret
      exact ⟨rfl, hB3.out.trans (hb.out.mono hB3.out.size)⟩
  · go_wp2_with fail
    refine (wakes_any _ HT1.out).mono ?_
    rintro e w2 ⟨rfl, hb2⟩
    have hB2 := Lib.hid (hB1.out.trans (hb2.mono hB1.out.size))
    go_wp2
    go_ret
    exact ⟨rfl, hB2.out⟩
end Go.Proofs.YtofleejokkdklaaDoor
