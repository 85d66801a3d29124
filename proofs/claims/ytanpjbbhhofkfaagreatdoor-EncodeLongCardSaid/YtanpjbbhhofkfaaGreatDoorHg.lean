/- The regions of the reference's sections that draw their order. -/
import Derived.Test.YtanpjbbhhofkfaaGreatDoorGn
import Derived.Test.YtanpjbbhhofkfaaGreatDoorHsTypes
import Derived.Test.YtanpjbbhhofkfaaGreatDoorHsCodes
import Derived.Test.YtanpjbbhhofkfaaGreatDoorRh
namespace Go.Proofs.YtanpjbbhhofkfaaGreatDoor
open Go.RowKit
set_option linter.unusedVariables false
set_option linter.unusedSimpArgs false

theorem cs_mem {α : Type} (c : α → Nat) : ∀ {l : List α} {x : α}, x ∈ l → c x ≤ cs c l
  | y :: l, x, h => by
    have e : cs c (y :: l) = c y + cs c l := by simp [cs]
    rw [e]
    rcases List.mem_cons.1 h with rfl | h
    · omega
    · have := cs_mem c h
      omega
theorem Fit.zi {m : Md} (fit : Fit m) : ∀ t ∈ m.imports, t.1.size ≤ 4611686018427387904 ∧ t.2.1.size ≤ 4611686018427387904 := fun t ht => by
  have h1 := cs_mem cImports ht
  have h2 := fit.imports
  unfold cImports at h1 h2
  omega
theorem Fit.ze {m : Md} (fit : Fit m) : ∀ t ∈ m.exports, t.1.size ≤ 4611686018427387904 := fun t ht => by
  have h1 := cs_mem cExports ht
  have h2 := fit.exports
  unfold cExports at h1 h2
  omega
theorem Fit.zd {m : Md} (fit : Fit m) : ∀ t ∈ m.datas, t.2.size ≤ 4611686018427387904 := fun t ht => by
  have h1 := cs_mem cDatas ht
  have h2 := fit.datas
  unfold cDatas at h1 h2
  omega
/-- A pen of its own, in a slot. -/
def pwPen (M : Nat) (B : List UInt8) : Pw := ⟨fun v w => ∃ q u s, v = .pointer (some ⟨q, 0, none⟩) ∧ PAt M q w u s ∧ Pen ⟨[], false⟩ B s, fun v w w' hb ⟨q, u, s, e, h, hp⟩ => ⟨q, u, s, e, h.below hb, hp⟩⟩
def opsS1 : Array Oper := #[{ dst := some 4, op := Op.move (Operand.tmp 0), type := 70, pos := "ref.go:247", after := #[], guard := none }, { dst := some 5, op := Op.fieldAddr 32 (Operand.tmp 3) 0, type := 0, pos := "ref.go:247", after := #[], guard := none }, { dst := some 6, op := Op.load 22 (Operand.tmp 5), type := 22, pos := "ref.go:247", after := #[{ on := 1, ground := Ground.data }], guard := none }, { dst := some 7, op := Op.call { callee := Callee.builtin Builtin.len, args := #[Operand.tmp 6], argTypes := #[22] }, type := 3, pos := "ref.go:247", after := #[{ on := 2, ground := Ground.data }], guard := none }, { dst := some 8, op := Op.load 32 (Operand.tmp 3), type := 32, pos := "ref.go:247", after := #[], guard := none }, { dst := some 9, op := Op.call { callee := Callee.value (Operand.func 54), args := #[Operand.tmp 8], argTypes := #[32] }, type := 70, pos := "ref.go:247", after := #[{ on := 4, ground := Ground.data }], guard := none }, { dst := some 10, op := Op.call { callee := Callee.value (Operand.func 53), args := #[Operand.tmp 4, Operand.const (Value.int IntKind.i64 1), Operand.tmp 7, Operand.tmp 9], argTypes := #[70, 3, 3, 70] }, type := 0, pos := "ref.go:247", after := #[{ on := 0, ground := Ground.data }, { on := 3, ground := Ground.data }, { on := 5, ground := Ground.data }, { on := 5, ground := Ground.chain }], guard := none }]
set_option maxRecDepth 100000 in
set_option maxHeartbeats 4000000 in
theorem regS1 {Q : Exit → Act → World → Prop} {f0 : Nat → Value} {W : World} {m : Md} {a0 : Option Addr} {k0 : Nat} {a1 : Option Addr} {k1 : Nat} {a2 : Option Addr} {k2 : Nat} {a3 : Option Addr} {k3 : Nat} {a4 : Option Addr} {k4 : Nat} {a5 : Option Addr} {k5 : Nat} {a6 : Option Addr} {k6 : Nat} {a7 : Option Addr} {k7 : Nat} {a8 : Option Addr} {k8 : Nat} {a9 : Option Addr} {k9 : Nat} {N p c : Nat} {v : Value} {s : PS} (hmix : Tryz.prog.follows .mixedOrders = true) (f0' : f0 0 = .pointer (some ⟨p, 0, none⟩)) (f3' : f0 3 = .pointer (some ⟨c, 0, none⟩))
    (xB : Box W c #[.slice a0 m.types.length k0, .slice a1 m.imports.length k1, .slice a2 m.funcs.length k2, .slice a3 m.tables.length k3, .slice a4 m.mems.length k4, .slice a5 m.globals.length k5, .slice a6 m.exports.length k6, .slice a7 m.start.length k7, .slice a8 m.elems.length k8, .slice a9 m.datas.length k9]) (HM : MdAt W m a0 k0 a1 k1 a2 k2 a3 k3 a4 k4 a5 k5 a6 k6 a7 k7 a8 k8 a9 k9) (fit : Fit m) (hP : PAt N p W v s)
    (fin : ∀ f w', POut N p W v s (xS 1 (m.types.length : Int) (xSec xTypes m.types)) w' → Q .normal (Fv 87 (ovk f0 f [4, 5, 6, 7, 8, 9, 10])) w') : (Code.region 1 opsS1 true).wp Tryz.prog Q (Fv 87 f0) W := by
  refine region_last (ops := opsS1) hmix 87 6 (fun j => 4 + j) rfl (by kernel_rfl) (by kernel_rfl) (by kernel_rfl) (by kernel_rfl) (fun i => match i with | 0 => pwEq (.pointer (some ⟨p, 0, none⟩)) | 1 => pwEq (.pointer (some ⟨c, 0, none⟩)) | 2 => pwEq (.slice a0 m.types.length k0) | 3 => pwEq (.int .i64 (m.types.length : Int)) | 4 => pwEq (.agg #[.slice a0 m.types.length k0, .slice a1 m.imports.length k1, .slice a2 m.funcs.length k2, .slice a3 m.tables.length k3, .slice a4 m.mems.length k4, .slice a5 m.globals.length k5, .slice a6 m.exports.length k6, .slice a7 m.start.length k7, .slice a8 m.elems.length k8, .slice a9 m.datas.length k9]) | 5 => pwPen W.heap.size (xSec xTypes m.types) | _ => pwEq undef) ?_ ?_
  · intro i' hi' f w' hb hoth hv
    have f0' := fv_get (n := 87) (by decide) ((hoth 0 (fun j hj e => by omega)).trans f0')
    have f3' := fv_get (n := 87) (by decide) ((hoth 3 (fun j hj e => by omega)).trans f3')
    match i', hi' with
    | 0, _ =>

      refine wpOp_step (o := { dst := some 4, op := Op.move (Operand.tmp 0), type := 70, pos := "ref.go:247", after := #[], guard := none }) rfl ?_
      intro K' hK'
      rw [if_pos (wanted_none rfl)]
      go_simp
      (try simp only [f0'])
      (try go_simp)
      exact hK' _ _ ⟨_, fv_set _ _, rfl, Below.refl _ _⟩
    | 1, _ =>

      refine wpOp_step (o := { dst := some 5, op := Op.fieldAddr 32 (Operand.tmp 3) 0, type := 0, pos := "ref.go:247", after := #[], guard := none }) rfl ?_
      intro K' hK'
      rw [if_pos (wanted_none rfl)]
      go_simp
      (try simp only [f3'])
      (try go_simp)
      exact hK' _ _ ⟨_, fv_set _ _, rfl, Below.refl _ _⟩
    | 2, _ =>
      have e5 : f 5 = .pointer (some ⟨c, 0, none⟩) := hv 1 (by kernel_rfl)
      have g := fv_get (n := 87) (by decide) e5
      have hcell := keep_below hb _ _ (xB 0 _ rfl)
      refine wpOp_step (o := { dst := some 6, op := Op.load 22 (Operand.tmp 5), type := 22, pos := "ref.go:247", after := #[{ on := 1, ground := Ground.data }], guard := none }) rfl ?_
      intro K' hK'
      rw [if_pos (wanted_none rfl)]
      go_simp
      (try simp only [g])
      (try go_simp)
      exact hK' _ _ ⟨_, fv_set _ _, rfl, Below.refl _ _⟩
    | 3, _ =>
      have e : f 6 = .slice a0 m.types.length k0 := hv 2 (by kernel_rfl)
      have g := fv_get (n := 87) (by decide) e
      have hL := HM.types.1
      refine wpOp_step (o := { dst := some 7, op := Op.call { callee := Callee.builtin Builtin.len, args := #[Operand.tmp 6], argTypes := #[22] }, type := 3, pos := "ref.go:247", after := #[{ on := 2, ground := Ground.data }], guard := none }) rfl ?_
      intro K' hK'
      rw [if_pos (wanted_none rfl)]
      go_simp
      (try simp only [g])
      (try go_simp)
      exact hK' _ _ ⟨_, fv_set _ _, rfl, Below.refl _ _⟩
    | 4, _ =>
      have c0 := keep_below hb _ _ (xB 0 _ rfl)
      have c1 := keep_below hb _ _ (xB 1 _ rfl)
      have c2 := keep_below hb _ _ (xB 2 _ rfl)
      have c3 := keep_below hb _ _ (xB 3 _ rfl)
      have c4 := keep_below hb _ _ (xB 4 _ rfl)
      have c5 := keep_below hb _ _ (xB 5 _ rfl)
      have c6 := keep_below hb _ _ (xB 6 _ rfl)
      have c7 := keep_below hb _ _ (xB 7 _ rfl)
      have c8 := keep_below hb _ _ (xB 8 _ rfl)
      have c9 := keep_below hb _ _ (xB 9 _ rfl)
      refine wpOp_step (o := { dst := some 8, op := Op.load 32 (Operand.tmp 3), type := 32, pos := "ref.go:247", after := #[], guard := none }) rfl ?_
      intro K' hK'
      rw [if_pos (wanted_none rfl)]
      go_simp
      (try simp only [f3'])
      (try go_simp)
      exact hK' _ _ ⟨_, fv_set _ _, rfl, Below.refl _ _⟩
    | 5, _ =>
      have e : f 8 = .agg #[.slice a0 m.types.length k0, .slice a1 m.imports.length k1, .slice a2 m.funcs.length k2, .slice a3 m.tables.length k3, .slice a4 m.mems.length k4, .slice a5 m.globals.length k5, .slice a6 m.exports.length k6, .slice a7 m.start.length k7, .slice a8 m.elems.length k8, .slice a9 m.datas.length k9] := hv 4 (by kernel_rfl)
      have g := fv_get (n := 87) (by decide) e
      have HM' := HM.keep (keep_below hb)
      refine wpOp_step (o := { dst := some 9, op := Op.call { callee := Callee.value (Operand.func 54), args := #[Operand.tmp 8], argTypes := #[32] }, type := 70, pos := "ref.go:247", after := #[{ on := 4, ground := Ground.data }], guard := none }) rfl ?_
      intro K' hK'
      rw [if_pos (wanted_none rfl)]
      go_simp
      (try simp only [g])
      (try go_simp)
      go_at_call 54
      refine (pTypes_any m a0 k0 a1 k1 a2 k2 a3 k3 a4 k4 a5 k5 a6 k6 a7 k7 a8 k8 a9 k9 w' HM').mono ?_
      rintro e u ⟨q, v', s', rfl, hq, hu, hp⟩
      go_simp
      exact hK' _ _ ⟨_, fv_set _ _, ⟨q, v', s', rfl, hq.mono hb.size, hp⟩, hu⟩
    | t + 6, h => exact absurd h (by omega)
  · intro f w' hb hoth hv
    have e0 : f 4 = .pointer (some ⟨p, 0, none⟩) := hv 0 (by decide)
    have e3 : f 7 = .int .i64 (m.types.length : Int) := hv 3 (by decide)
    obtain ⟨q, v', s', e5, hq, hp⟩ := hv 5 (by decide)
    have e5' : f 9 = .pointer (some ⟨q, 0, none⟩) := e5
    have g0 := fv_get (n := 87) (by decide) e0
    have g3 := fv_get (n := 87) (by decide) e3
    have g5 := fv_get (n := 87) (by decide) e5'
    refine wpOp_step (o := { dst := some 10, op := Op.call { callee := Callee.value (Operand.func 53), args := #[Operand.tmp 4, Operand.const (Value.int IntKind.i64 1), Operand.tmp 7, Operand.tmp 9], argTypes := #[70, 3, 3, 70] }, type := 0, pos := "ref.go:247", after := #[{ on := 0, ground := Ground.data }, { on := 3, ground := Ground.data }, { on := 5, ground := Ground.data }, { on := 5, ground := Ground.chain }], guard := none }) rfl ?_
    intro K' hK'
    rw [if_pos (wanted_none rfl)]
    go_simp
    (try simp only [g0, g3, g5])
    (try go_simp)
    go_at_call 53
    refine (section_any 1 (m.types.length : Int) (hP.below hb) hq hp hP.lt (fun g e => (hP.own.lt g e).2)).mono ?_
    rintro e u ⟨rfl, ho⟩
    go_simp
    refine hK' _ _ ?_
    rw [fv_set]
    have hq := fin (upv f 10 (.tuple #[])) u (POut.trans (Tr.of_below hb) ho)
    rw [← ovk_eq (f0 := f0) (f := upv f 10 (.tuple #[])) (ds := [4, 5, 6, 7, 8, 9, 10]) (fun t ht => ?_)] at hq
    · exact hq
    · simp only [List.mem_cons, List.not_mem_nil, or_false, not_or] at ht
      rw [show upv f 10 (.tuple #[]) t = f t by simp [upv, ht]]
      exact hoth t (fun j hj e => by omega)
def opsS2 : Array Oper := #[{ dst := some 11, op := Op.move (Operand.tmp 0), type := 70, pos := "ref.go:248", after := #[], guard := none }, { dst := some 12, op := Op.fieldAddr 32 (Operand.tmp 3) 1, type := 0, pos := "ref.go:248", after := #[], guard := none }, { dst := some 13, op := Op.load 23 (Operand.tmp 12), type := 23, pos := "ref.go:248", after := #[{ on := 1, ground := Ground.data }], guard := none }, { dst := some 14, op := Op.call { callee := Callee.builtin Builtin.len, args := #[Operand.tmp 13], argTypes := #[23] }, type := 3, pos := "ref.go:248", after := #[{ on := 2, ground := Ground.data }], guard := none }, { dst := some 15, op := Op.load 32 (Operand.tmp 3), type := 32, pos := "ref.go:248", after := #[], guard := none }, { dst := some 16, op := Op.call { callee := Callee.value (Operand.func 55), args := #[Operand.tmp 15], argTypes := #[32] }, type := 70, pos := "ref.go:248", after := #[{ on := 4, ground := Ground.data }], guard := none }, { dst := some 17, op := Op.call { callee := Callee.value (Operand.func 53), args := #[Operand.tmp 11, Operand.const (Value.int IntKind.i64 2), Operand.tmp 14, Operand.tmp 16], argTypes := #[70, 3, 3, 70] }, type := 0, pos := "ref.go:248", after := #[{ on := 0, ground := Ground.data }, { on := 3, ground := Ground.data }, { on := 5, ground := Ground.data }, { on := 5, ground := Ground.chain }], guard := none }]
set_option maxRecDepth 100000 in
set_option maxHeartbeats 4000000 in
theorem regS2 {Q : Exit → Act → World → Prop} {f0 : Nat → Value} {W : World} {m : Md} {a0 : Option Addr} {k0 : Nat} {a1 : Option Addr} {k1 : Nat} {a2 : Option Addr} {k2 : Nat} {a3 : Option Addr} {k3 : Nat} {a4 : Option Addr} {k4 : Nat} {a5 : Option Addr} {k5 : Nat} {a6 : Option Addr} {k6 : Nat} {a7 : Option Addr} {k7 : Nat} {a8 : Option Addr} {k8 : Nat} {a9 : Option Addr} {k9 : Nat} {N p c : Nat} {v : Value} {s : PS} (hmix : Tryz.prog.follows .mixedOrders = true) (f0' : f0 0 = .pointer (some ⟨p, 0, none⟩)) (f3' : f0 3 = .pointer (some ⟨c, 0, none⟩))
    (xB : Box W c #[.slice a0 m.types.length k0, .slice a1 m.imports.length k1, .slice a2 m.funcs.length k2, .slice a3 m.tables.length k3, .slice a4 m.mems.length k4, .slice a5 m.globals.length k5, .slice a6 m.exports.length k6, .slice a7 m.start.length k7, .slice a8 m.elems.length k8, .slice a9 m.datas.length k9]) (HM : MdAt W m a0 k0 a1 k1 a2 k2 a3 k3 a4 k4 a5 k5 a6 k6 a7 k7 a8 k8 a9 k9) (fit : Fit m) (hP : PAt N p W v s)
    (fin : ∀ f w', POut N p W v s (xS 2 (m.imports.length : Int) (xSec xImports m.imports)) w' → Q .normal (Fv 87 (ovk f0 f [11, 12, 13, 14, 15, 16, 17])) w') : (Code.region 2 opsS2 true).wp Tryz.prog Q (Fv 87 f0) W := by
  refine region_last (ops := opsS2) hmix 87 6 (fun j => 11 + j) rfl (by kernel_rfl) (by kernel_rfl) (by kernel_rfl) (by kernel_rfl) (fun i => match i with | 0 => pwEq (.pointer (some ⟨p, 0, none⟩)) | 1 => pwEq (.pointer (some ⟨c, 1, none⟩)) | 2 => pwEq (.slice a1 m.imports.length k1) | 3 => pwEq (.int .i64 (m.imports.length : Int)) | 4 => pwEq (.agg #[.slice a0 m.types.length k0, .slice a1 m.imports.length k1, .slice a2 m.funcs.length k2, .slice a3 m.tables.length k3, .slice a4 m.mems.length k4, .slice a5 m.globals.length k5, .slice a6 m.exports.length k6, .slice a7 m.start.length k7, .slice a8 m.elems.length k8, .slice a9 m.datas.length k9]) | 5 => pwPen W.heap.size (xSec xImports m.imports) | _ => pwEq undef) ?_ ?_
  · intro i' hi' f w' hb hoth hv
    have f0' := fv_get (n := 87) (by decide) ((hoth 0 (fun j hj e => by omega)).trans f0')
    have f3' := fv_get (n := 87) (by decide) ((hoth 3 (fun j hj e => by omega)).trans f3')
    match i', hi' with
    | 0, _ =>

      refine wpOp_step (o := { dst := some 11, op := Op.move (Operand.tmp 0), type := 70, pos := "ref.go:248", after := #[], guard := none }) rfl ?_
      intro K' hK'
      rw [if_pos (wanted_none rfl)]
      go_simp
      (try simp only [f0'])
      (try go_simp)
      exact hK' _ _ ⟨_, fv_set _ _, rfl, Below.refl _ _⟩
    | 1, _ =>

      refine wpOp_step (o := { dst := some 12, op := Op.fieldAddr 32 (Operand.tmp 3) 1, type := 0, pos := "ref.go:248", after := #[], guard := none }) rfl ?_
      intro K' hK'
      rw [if_pos (wanted_none rfl)]
      go_simp
      (try simp only [f3'])
      (try go_simp)
      exact hK' _ _ ⟨_, fv_set _ _, rfl, Below.refl _ _⟩
    | 2, _ =>
      have e12 : f 12 = .pointer (some ⟨c, 1, none⟩) := hv 1 (by kernel_rfl)
      have g := fv_get (n := 87) (by decide) e12
      have hcell := keep_below hb _ _ (xB 1 _ rfl)
      refine wpOp_step (o := { dst := some 13, op := Op.load 23 (Operand.tmp 12), type := 23, pos := "ref.go:248", after := #[{ on := 1, ground := Ground.data }], guard := none }) rfl ?_
      intro K' hK'
      rw [if_pos (wanted_none rfl)]
      go_simp
      (try simp only [g])
      (try go_simp)
      exact hK' _ _ ⟨_, fv_set _ _, rfl, Below.refl _ _⟩
    | 3, _ =>
      have e : f 13 = .slice a1 m.imports.length k1 := hv 2 (by kernel_rfl)
      have g := fv_get (n := 87) (by decide) e
      have hL := HM.imports.1
      refine wpOp_step (o := { dst := some 14, op := Op.call { callee := Callee.builtin Builtin.len, args := #[Operand.tmp 13], argTypes := #[23] }, type := 3, pos := "ref.go:248", after := #[{ on := 2, ground := Ground.data }], guard := none }) rfl ?_
      intro K' hK'
      rw [if_pos (wanted_none rfl)]
      go_simp
      (try simp only [g])
      (try go_simp)
      exact hK' _ _ ⟨_, fv_set _ _, rfl, Below.refl _ _⟩
    | 4, _ =>
      have c0 := keep_below hb _ _ (xB 0 _ rfl)
      have c1 := keep_below hb _ _ (xB 1 _ rfl)
      have c2 := keep_below hb _ _ (xB 2 _ rfl)
      have c3 := keep_below hb _ _ (xB 3 _ rfl)
      have c4 := keep_below hb _ _ (xB 4 _ rfl)
      have c5 := keep_below hb _ _ (xB 5 _ rfl)
      have c6 := keep_below hb _ _ (xB 6 _ rfl)
      have c7 := keep_below hb _ _ (xB 7 _ rfl)
      have c8 := keep_below hb _ _ (xB 8 _ rfl)
      have c9 := keep_below hb _ _ (xB 9 _ rfl)
      refine wpOp_step (o := { dst := some 15, op := Op.load 32 (Operand.tmp 3), type := 32, pos := "ref.go:248", after := #[], guard := none }) rfl ?_
      intro K' hK'
      rw [if_pos (wanted_none rfl)]
      go_simp
      (try simp only [f3'])
      (try go_simp)
      exact hK' _ _ ⟨_, fv_set _ _, rfl, Below.refl _ _⟩
    | 5, _ =>
      have e : f 15 = .agg #[.slice a0 m.types.length k0, .slice a1 m.imports.length k1, .slice a2 m.funcs.length k2, .slice a3 m.tables.length k3, .slice a4 m.mems.length k4, .slice a5 m.globals.length k5, .slice a6 m.exports.length k6, .slice a7 m.start.length k7, .slice a8 m.elems.length k8, .slice a9 m.datas.length k9] := hv 4 (by kernel_rfl)
      have g := fv_get (n := 87) (by decide) e
      have HM' := HM.keep (keep_below hb)
      refine wpOp_step (o := { dst := some 16, op := Op.call { callee := Callee.value (Operand.func 55), args := #[Operand.tmp 15], argTypes := #[32] }, type := 70, pos := "ref.go:248", after := #[{ on := 4, ground := Ground.data }], guard := none }) rfl ?_
      intro K' hK'
      rw [if_pos (wanted_none rfl)]
      go_simp
      (try simp only [g])
      (try go_simp)
      go_at_call 55
      refine (pImports_any m a0 k0 a1 k1 a2 k2 a3 k3 a4 k4 a5 k5 a6 k6 a7 k7 a8 k8 a9 k9 w' HM' fit.zi).mono ?_
      rintro e u ⟨q, v', s', rfl, hq, hu, hp⟩
      go_simp
      exact hK' _ _ ⟨_, fv_set _ _, ⟨q, v', s', rfl, hq.mono hb.size, hp⟩, hu⟩
    | t + 6, h => exact absurd h (by omega)
  · intro f w' hb hoth hv
    have e0 : f 11 = .pointer (some ⟨p, 0, none⟩) := hv 0 (by decide)
    have e3 : f 14 = .int .i64 (m.imports.length : Int) := hv 3 (by decide)
    obtain ⟨q, v', s', e5, hq, hp⟩ := hv 5 (by decide)
    have e5' : f 16 = .pointer (some ⟨q, 0, none⟩) := e5
    have g0 := fv_get (n := 87) (by decide) e0
    have g3 := fv_get (n := 87) (by decide) e3
    have g5 := fv_get (n := 87) (by decide) e5'
    refine wpOp_step (o := { dst := some 17, op := Op.call { callee := Callee.value (Operand.func 53), args := #[Operand.tmp 11, Operand.const (Value.int IntKind.i64 2), Operand.tmp 14, Operand.tmp 16], argTypes := #[70, 3, 3, 70] }, type := 0, pos := "ref.go:248", after := #[{ on := 0, ground := Ground.data }, { on := 3, ground := Ground.data }, { on := 5, ground := Ground.data }, { on := 5, ground := Ground.chain }], guard := none }) rfl ?_
    intro K' hK'
    rw [if_pos (wanted_none rfl)]
    go_simp
    (try simp only [g0, g3, g5])
    (try go_simp)
    go_at_call 53
    refine (section_any 2 (m.imports.length : Int) (hP.below hb) hq hp hP.lt (fun g e => (hP.own.lt g e).2)).mono ?_
    rintro e u ⟨rfl, ho⟩
    go_simp
    refine hK' _ _ ?_
    rw [fv_set]
    have hq := fin (upv f 17 (.tuple #[])) u (POut.trans (Tr.of_below hb) ho)
    rw [← ovk_eq (f0 := f0) (f := upv f 17 (.tuple #[])) (ds := [11, 12, 13, 14, 15, 16, 17]) (fun t ht => ?_)] at hq
    · exact hq
    · simp only [List.mem_cons, List.not_mem_nil, or_false, not_or] at ht
      rw [show upv f 17 (.tuple #[]) t = f t by simp [upv, ht]]
      exact hoth t (fun j hj e => by omega)
def opsS3 : Array Oper := #[{ dst := some 18, op := Op.move (Operand.tmp 0), type := 70, pos := "ref.go:249", after := #[], guard := none }, { dst := some 19, op := Op.fieldAddr 32 (Operand.tmp 3) 2, type := 0, pos := "ref.go:249", after := #[], guard := none }, { dst := some 20, op := Op.load 24 (Operand.tmp 19), type := 24, pos := "ref.go:249", after := #[{ on := 1, ground := Ground.data }], guard := none }, { dst := some 21, op := Op.call { callee := Callee.builtin Builtin.len, args := #[Operand.tmp 20], argTypes := #[24] }, type := 3, pos := "ref.go:249", after := #[{ on := 2, ground := Ground.data }], guard := none }, { dst := some 22, op := Op.load 32 (Operand.tmp 3), type := 32, pos := "ref.go:249", after := #[], guard := none }, { dst := some 23, op := Op.call { callee := Callee.value (Operand.func 56), args := #[Operand.tmp 22], argTypes := #[32] }, type := 70, pos := "ref.go:249", after := #[{ on := 4, ground := Ground.data }], guard := none }, { dst := some 24, op := Op.call { callee := Callee.value (Operand.func 53), args := #[Operand.tmp 18, Operand.const (Value.int IntKind.i64 3), Operand.tmp 21, Operand.tmp 23], argTypes := #[70, 3, 3, 70] }, type := 0, pos := "ref.go:249", after := #[{ on := 0, ground := Ground.data }, { on := 3, ground := Ground.data }, { on := 5, ground := Ground.data }, { on := 5, ground := Ground.chain }], guard := none }]
set_option maxRecDepth 100000 in
set_option maxHeartbeats 4000000 in
theorem regS3 {Q : Exit → Act → World → Prop} {f0 : Nat → Value} {W : World} {m : Md} {a0 : Option Addr} {k0 : Nat} {a1 : Option Addr} {k1 : Nat} {a2 : Option Addr} {k2 : Nat} {a3 : Option Addr} {k3 : Nat} {a4 : Option Addr} {k4 : Nat} {a5 : Option Addr} {k5 : Nat} {a6 : Option Addr} {k6 : Nat} {a7 : Option Addr} {k7 : Nat} {a8 : Option Addr} {k8 : Nat} {a9 : Option Addr} {k9 : Nat} {N p c : Nat} {v : Value} {s : PS} (hmix : Tryz.prog.follows .mixedOrders = true) (f0' : f0 0 = .pointer (some ⟨p, 0, none⟩)) (f3' : f0 3 = .pointer (some ⟨c, 0, none⟩))
    (xB : Box W c #[.slice a0 m.types.length k0, .slice a1 m.imports.length k1, .slice a2 m.funcs.length k2, .slice a3 m.tables.length k3, .slice a4 m.mems.length k4, .slice a5 m.globals.length k5, .slice a6 m.exports.length k6, .slice a7 m.start.length k7, .slice a8 m.elems.length k8, .slice a9 m.datas.length k9]) (HM : MdAt W m a0 k0 a1 k1 a2 k2 a3 k3 a4 k4 a5 k5 a6 k6 a7 k7 a8 k8 a9 k9) (fit : Fit m) (hP : PAt N p W v s)
    (fin : ∀ f w', POut N p W v s (xS 3 (m.funcs.length : Int) (xSec xFuncs m.funcs)) w' → Q .normal (Fv 87 (ovk f0 f [18, 19, 20, 21, 22, 23, 24])) w') : (Code.region 3 opsS3 true).wp Tryz.prog Q (Fv 87 f0) W := by
  refine region_last (ops := opsS3) hmix 87 6 (fun j => 18 + j) rfl (by kernel_rfl) (by kernel_rfl) (by kernel_rfl) (by kernel_rfl) (fun i => match i with | 0 => pwEq (.pointer (some ⟨p, 0, none⟩)) | 1 => pwEq (.pointer (some ⟨c, 2, none⟩)) | 2 => pwEq (.slice a2 m.funcs.length k2) | 3 => pwEq (.int .i64 (m.funcs.length : Int)) | 4 => pwEq (.agg #[.slice a0 m.types.length k0, .slice a1 m.imports.length k1, .slice a2 m.funcs.length k2, .slice a3 m.tables.length k3, .slice a4 m.mems.length k4, .slice a5 m.globals.length k5, .slice a6 m.exports.length k6, .slice a7 m.start.length k7, .slice a8 m.elems.length k8, .slice a9 m.datas.length k9]) | 5 => pwPen W.heap.size (xSec xFuncs m.funcs) | _ => pwEq undef) ?_ ?_
  · intro i' hi' f w' hb hoth hv
    have f0' := fv_get (n := 87) (by decide) ((hoth 0 (fun j hj e => by omega)).trans f0')
    have f3' := fv_get (n := 87) (by decide) ((hoth 3 (fun j hj e => by omega)).trans f3')
    match i', hi' with
    | 0, _ =>

      refine wpOp_step (o := { dst := some 18, op := Op.move (Operand.tmp 0), type := 70, pos := "ref.go:249", after := #[], guard := none }) rfl ?_
      intro K' hK'
      rw [if_pos (wanted_none rfl)]
      go_simp
      (try simp only [f0'])
      (try go_simp)
      exact hK' _ _ ⟨_, fv_set _ _, rfl, Below.refl _ _⟩
    | 1, _ =>

      refine wpOp_step (o := { dst := some 19, op := Op.fieldAddr 32 (Operand.tmp 3) 2, type := 0, pos := "ref.go:249", after := #[], guard := none }) rfl ?_
      intro K' hK'
      rw [if_pos (wanted_none rfl)]
      go_simp
      (try simp only [f3'])
      (try go_simp)
      exact hK' _ _ ⟨_, fv_set _ _, rfl, Below.refl _ _⟩
    | 2, _ =>
      have e19 : f 19 = .pointer (some ⟨c, 2, none⟩) := hv 1 (by kernel_rfl)
      have g := fv_get (n := 87) (by decide) e19
      have hcell := keep_below hb _ _ (xB 2 _ rfl)
      refine wpOp_step (o := { dst := some 20, op := Op.load 24 (Operand.tmp 19), type := 24, pos := "ref.go:249", after := #[{ on := 1, ground := Ground.data }], guard := none }) rfl ?_
      intro K' hK'
      rw [if_pos (wanted_none rfl)]
      go_simp
      (try simp only [g])
      (try go_simp)
      exact hK' _ _ ⟨_, fv_set _ _, rfl, Below.refl _ _⟩
    | 3, _ =>
      have e : f 20 = .slice a2 m.funcs.length k2 := hv 2 (by kernel_rfl)
      have g := fv_get (n := 87) (by decide) e
      have hL := HM.funcs.1
      refine wpOp_step (o := { dst := some 21, op := Op.call { callee := Callee.builtin Builtin.len, args := #[Operand.tmp 20], argTypes := #[24] }, type := 3, pos := "ref.go:249", after := #[{ on := 2, ground := Ground.data }], guard := none }) rfl ?_
      intro K' hK'
      rw [if_pos (wanted_none rfl)]
      go_simp
      (try simp only [g])
      (try go_simp)
      exact hK' _ _ ⟨_, fv_set _ _, rfl, Below.refl _ _⟩
    | 4, _ =>
      have c0 := keep_below hb _ _ (xB 0 _ rfl)
      have c1 := keep_below hb _ _ (xB 1 _ rfl)
      have c2 := keep_below hb _ _ (xB 2 _ rfl)
      have c3 := keep_below hb _ _ (xB 3 _ rfl)
      have c4 := keep_below hb _ _ (xB 4 _ rfl)
      have c5 := keep_below hb _ _ (xB 5 _ rfl)
      have c6 := keep_below hb _ _ (xB 6 _ rfl)
      have c7 := keep_below hb _ _ (xB 7 _ rfl)
      have c8 := keep_below hb _ _ (xB 8 _ rfl)
      have c9 := keep_below hb _ _ (xB 9 _ rfl)
      refine wpOp_step (o := { dst := some 22, op := Op.load 32 (Operand.tmp 3), type := 32, pos := "ref.go:249", after := #[], guard := none }) rfl ?_
      intro K' hK'
      rw [if_pos (wanted_none rfl)]
      go_simp
      (try simp only [f3'])
      (try go_simp)
      exact hK' _ _ ⟨_, fv_set _ _, rfl, Below.refl _ _⟩
    | 5, _ =>
      have e : f 22 = .agg #[.slice a0 m.types.length k0, .slice a1 m.imports.length k1, .slice a2 m.funcs.length k2, .slice a3 m.tables.length k3, .slice a4 m.mems.length k4, .slice a5 m.globals.length k5, .slice a6 m.exports.length k6, .slice a7 m.start.length k7, .slice a8 m.elems.length k8, .slice a9 m.datas.length k9] := hv 4 (by kernel_rfl)
      have g := fv_get (n := 87) (by decide) e
      have HM' := HM.keep (keep_below hb)
      refine wpOp_step (o := { dst := some 23, op := Op.call { callee := Callee.value (Operand.func 56), args := #[Operand.tmp 22], argTypes := #[32] }, type := 70, pos := "ref.go:249", after := #[{ on := 4, ground := Ground.data }], guard := none }) rfl ?_
      intro K' hK'
      rw [if_pos (wanted_none rfl)]
      go_simp
      (try simp only [g])
      (try go_simp)
      go_at_call 56
      refine (pFuncs_any m a0 k0 a1 k1 a2 k2 a3 k3 a4 k4 a5 k5 a6 k6 a7 k7 a8 k8 a9 k9 w' HM').mono ?_
      rintro e u ⟨q, v', s', rfl, hq, hu, hp⟩
      go_simp
      exact hK' _ _ ⟨_, fv_set _ _, ⟨q, v', s', rfl, hq.mono hb.size, hp⟩, hu⟩
    | t + 6, h => exact absurd h (by omega)
  · intro f w' hb hoth hv
    have e0 : f 18 = .pointer (some ⟨p, 0, none⟩) := hv 0 (by decide)
    have e3 : f 21 = .int .i64 (m.funcs.length : Int) := hv 3 (by decide)
    obtain ⟨q, v', s', e5, hq, hp⟩ := hv 5 (by decide)
    have e5' : f 23 = .pointer (some ⟨q, 0, none⟩) := e5
    have g0 := fv_get (n := 87) (by decide) e0
    have g3 := fv_get (n := 87) (by decide) e3
    have g5 := fv_get (n := 87) (by decide) e5'
    refine wpOp_step (o := { dst := some 24, op := Op.call { callee := Callee.value (Operand.func 53), args := #[Operand.tmp 18, Operand.const (Value.int IntKind.i64 3), Operand.tmp 21, Operand.tmp 23], argTypes := #[70, 3, 3, 70] }, type := 0, pos := "ref.go:249", after := #[{ on := 0, ground := Ground.data }, { on := 3, ground := Ground.data }, { on := 5, ground := Ground.data }, { on := 5, ground := Ground.chain }], guard := none }) rfl ?_
    intro K' hK'
    rw [if_pos (wanted_none rfl)]
    go_simp
    (try simp only [g0, g3, g5])
    (try go_simp)
    go_at_call 53
    refine (section_any 3 (m.funcs.length : Int) (hP.below hb) hq hp hP.lt (fun g e => (hP.own.lt g e).2)).mono ?_
    rintro e u ⟨rfl, ho⟩
    go_simp
    refine hK' _ _ ?_
    rw [fv_set]
    have hq := fin (upv f 24 (.tuple #[])) u (POut.trans (Tr.of_below hb) ho)
    rw [← ovk_eq (f0 := f0) (f := upv f 24 (.tuple #[])) (ds := [18, 19, 20, 21, 22, 23, 24]) (fun t ht => ?_)] at hq
    · exact hq
    · simp only [List.mem_cons, List.not_mem_nil, or_false, not_or] at ht
      rw [show upv f 24 (.tuple #[]) t = f t by simp [upv, ht]]
      exact hoth t (fun j hj e => by omega)
def opsS4 : Array Oper := #[{ dst := some 25, op := Op.move (Operand.tmp 0), type := 70, pos := "ref.go:250", after := #[], guard := none }, { dst := some 26, op := Op.fieldAddr 32 (Operand.tmp 3) 3, type := 0, pos := "ref.go:250", after := #[], guard := none }, { dst := some 27, op := Op.load 25 (Operand.tmp 26), type := 25, pos := "ref.go:250", after := #[{ on := 1, ground := Ground.data }], guard := none }, { dst := some 28, op := Op.call { callee := Callee.builtin Builtin.len, args := #[Operand.tmp 27], argTypes := #[25] }, type := 3, pos := "ref.go:250", after := #[{ on := 2, ground := Ground.data }], guard := none }, { dst := some 29, op := Op.fieldAddr 32 (Operand.tmp 3) 3, type := 0, pos := "ref.go:250", after := #[], guard := none }, { dst := some 30, op := Op.load 25 (Operand.tmp 29), type := 25, pos := "ref.go:250", after := #[{ on := 4, ground := Ground.data }], guard := none }, { dst := some 31, op := Op.call { callee := Callee.value (Operand.func 57), args := #[Operand.tmp 30, Operand.const (Value.string { data := #[112] })], argTypes := #[25, 9] }, type := 70, pos := "ref.go:250", after := #[{ on := 5, ground := Ground.data }], guard := none }, { dst := some 32, op := Op.call { callee := Callee.value (Operand.func 53), args := #[Operand.tmp 25, Operand.const (Value.int IntKind.i64 4), Operand.tmp 28, Operand.tmp 31], argTypes := #[70, 3, 3, 70] }, type := 0, pos := "ref.go:250", after := #[{ on := 0, ground := Ground.data }, { on := 3, ground := Ground.data }, { on := 6, ground := Ground.data }, { on := 6, ground := Ground.chain }], guard := none }]
set_option maxRecDepth 100000 in
set_option maxHeartbeats 4000000 in
theorem regS4 {Q : Exit → Act → World → Prop} {f0 : Nat → Value} {W : World} {m : Md} {a0 : Option Addr} {k0 : Nat} {a1 : Option Addr} {k1 : Nat} {a2 : Option Addr} {k2 : Nat} {a3 : Option Addr} {k3 : Nat} {a4 : Option Addr} {k4 : Nat} {a5 : Option Addr} {k5 : Nat} {a6 : Option Addr} {k6 : Nat} {a7 : Option Addr} {k7 : Nat} {a8 : Option Addr} {k8 : Nat} {a9 : Option Addr} {k9 : Nat} {N p c : Nat} {v : Value} {s : PS} (hmix : Tryz.prog.follows .mixedOrders = true) (f0' : f0 0 = .pointer (some ⟨p, 0, none⟩)) (f3' : f0 3 = .pointer (some ⟨c, 0, none⟩))
    (xB : Box W c #[.slice a0 m.types.length k0, .slice a1 m.imports.length k1, .slice a2 m.funcs.length k2, .slice a3 m.tables.length k3, .slice a4 m.mems.length k4, .slice a5 m.globals.length k5, .slice a6 m.exports.length k6, .slice a7 m.start.length k7, .slice a8 m.elems.length k8, .slice a9 m.datas.length k9]) (HM : MdAt W m a0 k0 a1 k1 a2 k2 a3 k3 a4 k4 a5 k5 a6 k6 a7 k7 a8 k8 a9 k9) (fit : Fit m) (hP : PAt N p W v s)
    (fin : ∀ f w', POut N p W v s (xS 4 (m.tables.length : Int) (xSec xTables m.tables)) w' → Q .normal (Fv 87 (ovk f0 f [25, 26, 27, 28, 29, 30, 31, 32])) w') : (Code.region 4 opsS4 true).wp Tryz.prog Q (Fv 87 f0) W := by
  refine region_last (ops := opsS4) hmix 87 7 (fun j => 25 + j) rfl (by kernel_rfl) (by kernel_rfl) (by kernel_rfl) (by kernel_rfl) (fun i => match i with | 0 => pwEq (.pointer (some ⟨p, 0, none⟩)) | 1 => pwEq (.pointer (some ⟨c, 3, none⟩)) | 2 => pwEq (.slice a3 m.tables.length k3) | 3 => pwEq (.int .i64 (m.tables.length : Int)) | 4 => pwEq (.pointer (some ⟨c, 3, none⟩)) | 5 => pwEq (.slice a3 m.tables.length k3) | 6 => pwPen W.heap.size (xSec xTables m.tables) | _ => pwEq undef) ?_ ?_
  · intro i' hi' f w' hb hoth hv
    have f0' := fv_get (n := 87) (by decide) ((hoth 0 (fun j hj e => by omega)).trans f0')
    have f3' := fv_get (n := 87) (by decide) ((hoth 3 (fun j hj e => by omega)).trans f3')
    match i', hi' with
    | 0, _ =>

      refine wpOp_step (o := { dst := some 25, op := Op.move (Operand.tmp 0), type := 70, pos := "ref.go:250", after := #[], guard := none }) rfl ?_
      intro K' hK'
      rw [if_pos (wanted_none rfl)]
      go_simp
      (try simp only [f0'])
      (try go_simp)
      exact hK' _ _ ⟨_, fv_set _ _, rfl, Below.refl _ _⟩
    | 1, _ =>

      refine wpOp_step (o := { dst := some 26, op := Op.fieldAddr 32 (Operand.tmp 3) 3, type := 0, pos := "ref.go:250", after := #[], guard := none }) rfl ?_
      intro K' hK'
      rw [if_pos (wanted_none rfl)]
      go_simp
      (try simp only [f3'])
      (try go_simp)
      exact hK' _ _ ⟨_, fv_set _ _, rfl, Below.refl _ _⟩
    | 2, _ =>
      have e26 : f 26 = .pointer (some ⟨c, 3, none⟩) := hv 1 (by kernel_rfl)
      have g := fv_get (n := 87) (by decide) e26
      have hcell := keep_below hb _ _ (xB 3 _ rfl)
      refine wpOp_step (o := { dst := some 27, op := Op.load 25 (Operand.tmp 26), type := 25, pos := "ref.go:250", after := #[{ on := 1, ground := Ground.data }], guard := none }) rfl ?_
      intro K' hK'
      rw [if_pos (wanted_none rfl)]
      go_simp
      (try simp only [g])
      (try go_simp)
      exact hK' _ _ ⟨_, fv_set _ _, rfl, Below.refl _ _⟩
    | 3, _ =>
      have e : f 27 = .slice a3 m.tables.length k3 := hv 2 (by kernel_rfl)
      have g := fv_get (n := 87) (by decide) e
      have hL := HM.tables.1
      refine wpOp_step (o := { dst := some 28, op := Op.call { callee := Callee.builtin Builtin.len, args := #[Operand.tmp 27], argTypes := #[25] }, type := 3, pos := "ref.go:250", after := #[{ on := 2, ground := Ground.data }], guard := none }) rfl ?_
      intro K' hK'
      rw [if_pos (wanted_none rfl)]
      go_simp
      (try simp only [g])
      (try go_simp)
      exact hK' _ _ ⟨_, fv_set _ _, rfl, Below.refl _ _⟩
    | 4, _ =>

      refine wpOp_step (o := { dst := some 29, op := Op.fieldAddr 32 (Operand.tmp 3) 3, type := 0, pos := "ref.go:250", after := #[], guard := none }) rfl ?_
      intro K' hK'
      rw [if_pos (wanted_none rfl)]
      go_simp
      (try simp only [f3'])
      (try go_simp)
      exact hK' _ _ ⟨_, fv_set _ _, rfl, Below.refl _ _⟩
    | 5, _ =>
      have e29 : f 29 = .pointer (some ⟨c, 3, none⟩) := hv 4 (by kernel_rfl)
      have g := fv_get (n := 87) (by decide) e29
      have hcell := keep_below hb _ _ (xB 3 _ rfl)
      refine wpOp_step (o := { dst := some 30, op := Op.load 25 (Operand.tmp 29), type := 25, pos := "ref.go:250", after := #[{ on := 4, ground := Ground.data }], guard := none }) rfl ?_
      intro K' hK'
      rw [if_pos (wanted_none rfl)]
      go_simp
      (try simp only [g])
      (try go_simp)
      exact hK' _ _ ⟨_, fv_set _ _, rfl, Below.refl _ _⟩
    | 6, _ =>
      have e : f 30 = .slice a3 m.tables.length k3 := hv 5 (by kernel_rfl)
      have g := fv_get (n := 87) (by decide) e
      have HM' := HM.keep (keep_below hb)
      refine wpOp_step (o := { dst := some 31, op := Op.call { callee := Callee.value (Operand.func 57), args := #[Operand.tmp 30, Operand.const (Value.string { data := #[112] })], argTypes := #[25, 9] }, type := 70, pos := "ref.go:250", after := #[{ on := 5, ground := Ground.data }], guard := none }) rfl ?_
      intro K' hK'
      rw [if_pos (wanted_none rfl)]
      go_simp
      (try simp only [g])
      (try go_simp)
      go_at_call 57
      refine (limited_any w' m.tables a3 k3 HM'.tables _ (by decide)).mono ?_
      rintro e u ⟨q, v', s', rfl, hq, hu, hp⟩
      go_simp
      exact hK' _ _ ⟨_, fv_set _ _, ⟨q, v', s', rfl, hq.mono hb.size, by first | exact hp | simpa [xSec, xTables, strl, show b1 112 = 112 from rfl] using hp⟩, hu⟩
    | t + 7, h => exact absurd h (by omega)
  · intro f w' hb hoth hv
    have e0 : f 25 = .pointer (some ⟨p, 0, none⟩) := hv 0 (by decide)
    have e3 : f 28 = .int .i64 (m.tables.length : Int) := hv 3 (by decide)
    obtain ⟨q, v', s', e5, hq, hp⟩ := hv 6 (by decide)
    have e5' : f 31 = .pointer (some ⟨q, 0, none⟩) := e5
    have g0 := fv_get (n := 87) (by decide) e0
    have g3 := fv_get (n := 87) (by decide) e3
    have g5 := fv_get (n := 87) (by decide) e5'
    refine wpOp_step (o := { dst := some 32, op := Op.call { callee := Callee.value (Operand.func 53), args := #[Operand.tmp 25, Operand.const (Value.int IntKind.i64 4), Operand.tmp 28, Operand.tmp 31], argTypes := #[70, 3, 3, 70] }, type := 0, pos := "ref.go:250", after := #[{ on := 0, ground := Ground.data }, { on := 3, ground := Ground.data }, { on := 6, ground := Ground.data }, { on := 6, ground := Ground.chain }], guard := none }) rfl ?_
    intro K' hK'
    rw [if_pos (wanted_none rfl)]
    go_simp
    (try simp only [g0, g3, g5])
    (try go_simp)
    go_at_call 53
    refine (section_any 4 (m.tables.length : Int) (hP.below hb) hq hp hP.lt (fun g e => (hP.own.lt g e).2)).mono ?_
    rintro e u ⟨rfl, ho⟩
    go_simp
    refine hK' _ _ ?_
    rw [fv_set]
    have hq := fin (upv f 32 (.tuple #[])) u (POut.trans (Tr.of_below hb) ho)
    rw [← ovk_eq (f0 := f0) (f := upv f 32 (.tuple #[])) (ds := [25, 26, 27, 28, 29, 30, 31, 32]) (fun t ht => ?_)] at hq
    · exact hq
    · simp only [List.mem_cons, List.not_mem_nil, or_false, not_or] at ht
      rw [show upv f 32 (.tuple #[]) t = f t by simp [upv, ht]]
      exact hoth t (fun j hj e => by omega)
def opsS5 : Array Oper := #[{ dst := some 33, op := Op.move (Operand.tmp 0), type := 70, pos := "ref.go:251", after := #[], guard := none }, { dst := some 34, op := Op.fieldAddr 32 (Operand.tmp 3) 4, type := 0, pos := "ref.go:251", after := #[], guard := none }, { dst := some 35, op := Op.load 25 (Operand.tmp 34), type := 25, pos := "ref.go:251", after := #[{ on := 1, ground := Ground.data }], guard := none }, { dst := some 36, op := Op.call { callee := Callee.builtin Builtin.len, args := #[Operand.tmp 35], argTypes := #[25] }, type := 3, pos := "ref.go:251", after := #[{ on := 2, ground := Ground.data }], guard := none }, { dst := some 37, op := Op.fieldAddr 32 (Operand.tmp 3) 4, type := 0, pos := "ref.go:251", after := #[], guard := none }, { dst := some 38, op := Op.load 25 (Operand.tmp 37), type := 25, pos := "ref.go:251", after := #[{ on := 4, ground := Ground.data }], guard := none }, { dst := some 39, op := Op.call { callee := Callee.value (Operand.func 57), args := #[Operand.tmp 38, Operand.const (Value.string { data := #[] })], argTypes := #[25, 9] }, type := 70, pos := "ref.go:251", after := #[{ on := 5, ground := Ground.data }], guard := none }, { dst := some 40, op := Op.call { callee := Callee.value (Operand.func 53), args := #[Operand.tmp 33, Operand.const (Value.int IntKind.i64 5), Operand.tmp 36, Operand.tmp 39], argTypes := #[70, 3, 3, 70] }, type := 0, pos := "ref.go:251", after := #[{ on := 0, ground := Ground.data }, { on := 3, ground := Ground.data }, { on := 6, ground := Ground.data }, { on := 6, ground := Ground.chain }], guard := none }]
set_option maxRecDepth 100000 in
set_option maxHeartbeats 4000000 in
theorem regS5 {Q : Exit → Act → World → Prop} {f0 : Nat → Value} {W : World} {m : Md} {a0 : Option Addr} {k0 : Nat} {a1 : Option Addr} {k1 : Nat} {a2 : Option Addr} {k2 : Nat} {a3 : Option Addr} {k3 : Nat} {a4 : Option Addr} {k4 : Nat} {a5 : Option Addr} {k5 : Nat} {a6 : Option Addr} {k6 : Nat} {a7 : Option Addr} {k7 : Nat} {a8 : Option Addr} {k8 : Nat} {a9 : Option Addr} {k9 : Nat} {N p c : Nat} {v : Value} {s : PS} (hmix : Tryz.prog.follows .mixedOrders = true) (f0' : f0 0 = .pointer (some ⟨p, 0, none⟩)) (f3' : f0 3 = .pointer (some ⟨c, 0, none⟩))
    (xB : Box W c #[.slice a0 m.types.length k0, .slice a1 m.imports.length k1, .slice a2 m.funcs.length k2, .slice a3 m.tables.length k3, .slice a4 m.mems.length k4, .slice a5 m.globals.length k5, .slice a6 m.exports.length k6, .slice a7 m.start.length k7, .slice a8 m.elems.length k8, .slice a9 m.datas.length k9]) (HM : MdAt W m a0 k0 a1 k1 a2 k2 a3 k3 a4 k4 a5 k5 a6 k6 a7 k7 a8 k8 a9 k9) (fit : Fit m) (hP : PAt N p W v s)
    (fin : ∀ f w', POut N p W v s (xS 5 (m.mems.length : Int) (xSec xLim m.mems)) w' → Q .normal (Fv 87 (ovk f0 f [33, 34, 35, 36, 37, 38, 39, 40])) w') : (Code.region 5 opsS5 true).wp Tryz.prog Q (Fv 87 f0) W := by
  refine region_last (ops := opsS5) hmix 87 7 (fun j => 33 + j) rfl (by kernel_rfl) (by kernel_rfl) (by kernel_rfl) (by kernel_rfl) (fun i => match i with | 0 => pwEq (.pointer (some ⟨p, 0, none⟩)) | 1 => pwEq (.pointer (some ⟨c, 4, none⟩)) | 2 => pwEq (.slice a4 m.mems.length k4) | 3 => pwEq (.int .i64 (m.mems.length : Int)) | 4 => pwEq (.pointer (some ⟨c, 4, none⟩)) | 5 => pwEq (.slice a4 m.mems.length k4) | 6 => pwPen W.heap.size (xSec xLim m.mems) | _ => pwEq undef) ?_ ?_
  · intro i' hi' f w' hb hoth hv
    have f0' := fv_get (n := 87) (by decide) ((hoth 0 (fun j hj e => by omega)).trans f0')
    have f3' := fv_get (n := 87) (by decide) ((hoth 3 (fun j hj e => by omega)).trans f3')
    match i', hi' with
    | 0, _ =>

      refine wpOp_step (o := { dst := some 33, op := Op.move (Operand.tmp 0), type := 70, pos := "ref.go:251", after := #[], guard := none }) rfl ?_
      intro K' hK'
      rw [if_pos (wanted_none rfl)]
      go_simp
      (try simp only [f0'])
      (try go_simp)
      exact hK' _ _ ⟨_, fv_set _ _, rfl, Below.refl _ _⟩
    | 1, _ =>

      refine wpOp_step (o := { dst := some 34, op := Op.fieldAddr 32 (Operand.tmp 3) 4, type := 0, pos := "ref.go:251", after := #[], guard := none }) rfl ?_
      intro K' hK'
      rw [if_pos (wanted_none rfl)]
      go_simp
      (try simp only [f3'])
      (try go_simp)
      exact hK' _ _ ⟨_, fv_set _ _, rfl, Below.refl _ _⟩
    | 2, _ =>
      have e34 : f 34 = .pointer (some ⟨c, 4, none⟩) := hv 1 (by kernel_rfl)
      have g := fv_get (n := 87) (by decide) e34
      have hcell := keep_below hb _ _ (xB 4 _ rfl)
      refine wpOp_step (o := { dst := some 35, op := Op.load 25 (Operand.tmp 34), type := 25, pos := "ref.go:251", after := #[{ on := 1, ground := Ground.data }], guard := none }) rfl ?_
      intro K' hK'
      rw [if_pos (wanted_none rfl)]
      go_simp
      (try simp only [g])
      (try go_simp)
      exact hK' _ _ ⟨_, fv_set _ _, rfl, Below.refl _ _⟩
    | 3, _ =>
      have e : f 35 = .slice a4 m.mems.length k4 := hv 2 (by kernel_rfl)
      have g := fv_get (n := 87) (by decide) e
      have hL := HM.mems.1
      refine wpOp_step (o := { dst := some 36, op := Op.call { callee := Callee.builtin Builtin.len, args := #[Operand.tmp 35], argTypes := #[25] }, type := 3, pos := "ref.go:251", after := #[{ on := 2, ground := Ground.data }], guard := none }) rfl ?_
      intro K' hK'
      rw [if_pos (wanted_none rfl)]
      go_simp
      (try simp only [g])
      (try go_simp)
      exact hK' _ _ ⟨_, fv_set _ _, rfl, Below.refl _ _⟩
    | 4, _ =>

      refine wpOp_step (o := { dst := some 37, op := Op.fieldAddr 32 (Operand.tmp 3) 4, type := 0, pos := "ref.go:251", after := #[], guard := none }) rfl ?_
      intro K' hK'
      rw [if_pos (wanted_none rfl)]
      go_simp
      (try simp only [f3'])
      (try go_simp)
      exact hK' _ _ ⟨_, fv_set _ _, rfl, Below.refl _ _⟩
    | 5, _ =>
      have e37 : f 37 = .pointer (some ⟨c, 4, none⟩) := hv 4 (by kernel_rfl)
      have g := fv_get (n := 87) (by decide) e37
      have hcell := keep_below hb _ _ (xB 4 _ rfl)
      refine wpOp_step (o := { dst := some 38, op := Op.load 25 (Operand.tmp 37), type := 25, pos := "ref.go:251", after := #[{ on := 4, ground := Ground.data }], guard := none }) rfl ?_
      intro K' hK'
      rw [if_pos (wanted_none rfl)]
      go_simp
      (try simp only [g])
      (try go_simp)
      exact hK' _ _ ⟨_, fv_set _ _, rfl, Below.refl _ _⟩
    | 6, _ =>
      have e : f 38 = .slice a4 m.mems.length k4 := hv 5 (by kernel_rfl)
      have g := fv_get (n := 87) (by decide) e
      have HM' := HM.keep (keep_below hb)
      refine wpOp_step (o := { dst := some 39, op := Op.call { callee := Callee.value (Operand.func 57), args := #[Operand.tmp 38, Operand.const (Value.string { data := #[] })], argTypes := #[25, 9] }, type := 70, pos := "ref.go:251", after := #[{ on := 5, ground := Ground.data }], guard := none }) rfl ?_
      intro K' hK'
      rw [if_pos (wanted_none rfl)]
      go_simp
      (try simp only [g])
      (try go_simp)
      go_at_call 57
      refine (limited_any w' m.mems a4 k4 HM'.mems _ (by decide)).mono ?_
      rintro e u ⟨q, v', s', rfl, hq, hu, hp⟩
      go_simp
      exact hK' _ _ ⟨_, fv_set _ _, ⟨q, v', s', rfl, hq.mono hb.size, by first | exact hp | simpa [xSec, xTables, strl, show b1 112 = 112 from rfl] using hp⟩, hu⟩
    | t + 7, h => exact absurd h (by omega)
  · intro f w' hb hoth hv
    have e0 : f 33 = .pointer (some ⟨p, 0, none⟩) := hv 0 (by decide)
    have e3 : f 36 = .int .i64 (m.mems.length : Int) := hv 3 (by decide)
    obtain ⟨q, v', s', e5, hq, hp⟩ := hv 6 (by decide)
    have e5' : f 39 = .pointer (some ⟨q, 0, none⟩) := e5
    have g0 := fv_get (n := 87) (by decide) e0
    have g3 := fv_get (n := 87) (by decide) e3
    have g5 := fv_get (n := 87) (by decide) e5'
    refine wpOp_step (o := { dst := some 40, op := Op.call { callee := Callee.value (Operand.func 53), args := #[Operand.tmp 33, Operand.const (Value.int IntKind.i64 5), Operand.tmp 36, Operand.tmp 39], argTypes := #[70, 3, 3, 70] }, type := 0, pos := "ref.go:251", after := #[{ on := 0, ground := Ground.data }, { on := 3, ground := Ground.data }, { on := 6, ground := Ground.data }, { on := 6, ground := Ground.chain }], guard := none }) rfl ?_
    intro K' hK'
    rw [if_pos (wanted_none rfl)]
    go_simp
    (try simp only [g0, g3, g5])
    (try go_simp)
    go_at_call 53
    refine (section_any 5 (m.mems.length : Int) (hP.below hb) hq hp hP.lt (fun g e => (hP.own.lt g e).2)).mono ?_
    rintro e u ⟨rfl, ho⟩
    go_simp
    refine hK' _ _ ?_
    rw [fv_set]
    have hq := fin (upv f 40 (.tuple #[])) u (POut.trans (Tr.of_below hb) ho)
    rw [← ovk_eq (f0 := f0) (f := upv f 40 (.tuple #[])) (ds := [33, 34, 35, 36, 37, 38, 39, 40]) (fun t ht => ?_)] at hq
    · exact hq
    · simp only [List.mem_cons, List.not_mem_nil, or_false, not_or] at ht
      rw [show upv f 40 (.tuple #[]) t = f t by simp [upv, ht]]
      exact hoth t (fun j hj e => by omega)
def opsS6 : Array Oper := #[{ dst := some 41, op := Op.move (Operand.tmp 0), type := 70, pos := "ref.go:252", after := #[], guard := none }, { dst := some 42, op := Op.fieldAddr 32 (Operand.tmp 3) 5, type := 0, pos := "ref.go:252", after := #[], guard := none }, { dst := some 43, op := Op.load 26 (Operand.tmp 42), type := 26, pos := "ref.go:252", after := #[{ on := 1, ground := Ground.data }], guard := none }, { dst := some 44, op := Op.call { callee := Callee.builtin Builtin.len, args := #[Operand.tmp 43], argTypes := #[26] }, type := 3, pos := "ref.go:252", after := #[{ on := 2, ground := Ground.data }], guard := none }, { dst := some 45, op := Op.load 32 (Operand.tmp 3), type := 32, pos := "ref.go:252", after := #[], guard := none }, { dst := some 46, op := Op.call { callee := Callee.value (Operand.func 58), args := #[Operand.tmp 45], argTypes := #[32] }, type := 70, pos := "ref.go:252", after := #[{ on := 4, ground := Ground.data }], guard := none }, { dst := some 47, op := Op.call { callee := Callee.value (Operand.func 53), args := #[Operand.tmp 41, Operand.const (Value.int IntKind.i64 6), Operand.tmp 44, Operand.tmp 46], argTypes := #[70, 3, 3, 70] }, type := 0, pos := "ref.go:252", after := #[{ on := 0, ground := Ground.data }, { on := 3, ground := Ground.data }, { on := 5, ground := Ground.data }, { on := 5, ground := Ground.chain }], guard := none }]
set_option maxRecDepth 100000 in
set_option maxHeartbeats 4000000 in
theorem regS6 {Q : Exit → Act → World → Prop} {f0 : Nat → Value} {W : World} {m : Md} {a0 : Option Addr} {k0 : Nat} {a1 : Option Addr} {k1 : Nat} {a2 : Option Addr} {k2 : Nat} {a3 : Option Addr} {k3 : Nat} {a4 : Option Addr} {k4 : Nat} {a5 : Option Addr} {k5 : Nat} {a6 : Option Addr} {k6 : Nat} {a7 : Option Addr} {k7 : Nat} {a8 : Option Addr} {k8 : Nat} {a9 : Option Addr} {k9 : Nat} {N p c : Nat} {v : Value} {s : PS} (hmix : Tryz.prog.follows .mixedOrders = true) (f0' : f0 0 = .pointer (some ⟨p, 0, none⟩)) (f3' : f0 3 = .pointer (some ⟨c, 0, none⟩))
    (xB : Box W c #[.slice a0 m.types.length k0, .slice a1 m.imports.length k1, .slice a2 m.funcs.length k2, .slice a3 m.tables.length k3, .slice a4 m.mems.length k4, .slice a5 m.globals.length k5, .slice a6 m.exports.length k6, .slice a7 m.start.length k7, .slice a8 m.elems.length k8, .slice a9 m.datas.length k9]) (HM : MdAt W m a0 k0 a1 k1 a2 k2 a3 k3 a4 k4 a5 k5 a6 k6 a7 k7 a8 k8 a9 k9) (fit : Fit m) (hP : PAt N p W v s)
    (fin : ∀ f w', POut N p W v s (xS 6 (m.globals.length : Int) (xSec xGlobals m.globals)) w' → Q .normal (Fv 87 (ovk f0 f [41, 42, 43, 44, 45, 46, 47])) w') : (Code.region 6 opsS6 true).wp Tryz.prog Q (Fv 87 f0) W := by
  refine region_last (ops := opsS6) hmix 87 6 (fun j => 41 + j) rfl (by kernel_rfl) (by kernel_rfl) (by kernel_rfl) (by kernel_rfl) (fun i => match i with | 0 => pwEq (.pointer (some ⟨p, 0, none⟩)) | 1 => pwEq (.pointer (some ⟨c, 5, none⟩)) | 2 => pwEq (.slice a5 m.globals.length k5) | 3 => pwEq (.int .i64 (m.globals.length : Int)) | 4 => pwEq (.agg #[.slice a0 m.types.length k0, .slice a1 m.imports.length k1, .slice a2 m.funcs.length k2, .slice a3 m.tables.length k3, .slice a4 m.mems.length k4, .slice a5 m.globals.length k5, .slice a6 m.exports.length k6, .slice a7 m.start.length k7, .slice a8 m.elems.length k8, .slice a9 m.datas.length k9]) | 5 => pwPen W.heap.size (xSec xGlobals m.globals) | _ => pwEq undef) ?_ ?_
  · intro i' hi' f w' hb hoth hv
    have f0' := fv_get (n := 87) (by decide) ((hoth 0 (fun j hj e => by omega)).trans f0')
    have f3' := fv_get (n := 87) (by decide) ((hoth 3 (fun j hj e => by omega)).trans f3')
    match i', hi' with
    | 0, _ =>

      refine wpOp_step (o := { dst := some 41, op := Op.move (Operand.tmp 0), type := 70, pos := "ref.go:252", after := #[], guard := none }) rfl ?_
      intro K' hK'
      rw [if_pos (wanted_none rfl)]
      go_simp
      (try simp only [f0'])
      (try go_simp)
      exact hK' _ _ ⟨_, fv_set _ _, rfl, Below.refl _ _⟩
    | 1, _ =>

      refine wpOp_step (o := { dst := some 42, op := Op.fieldAddr 32 (Operand.tmp 3) 5, type := 0, pos := "ref.go:252", after := #[], guard := none }) rfl ?_
      intro K' hK'
      rw [if_pos (wanted_none rfl)]
      go_simp
      (try simp only [f3'])
      (try go_simp)
      exact hK' _ _ ⟨_, fv_set _ _, rfl, Below.refl _ _⟩
    | 2, _ =>
      have e42 : f 42 = .pointer (some ⟨c, 5, none⟩) := hv 1 (by kernel_rfl)
      have g := fv_get (n := 87) (by decide) e42
      have hcell := keep_below hb _ _ (xB 5 _ rfl)
      refine wpOp_step (o := { dst := some 43, op := Op.load 26 (Operand.tmp 42), type := 26, pos := "ref.go:252", after := #[{ on := 1, ground := Ground.data }], guard := none }) rfl ?_
      intro K' hK'
      rw [if_pos (wanted_none rfl)]
      go_simp
      (try simp only [g])
      (try go_simp)
      exact hK' _ _ ⟨_, fv_set _ _, rfl, Below.refl _ _⟩
    | 3, _ =>
      have e : f 43 = .slice a5 m.globals.length k5 := hv 2 (by kernel_rfl)
      have g := fv_get (n := 87) (by decide) e
      have hL := HM.globals.1
      refine wpOp_step (o := { dst := some 44, op := Op.call { callee := Callee.builtin Builtin.len, args := #[Operand.tmp 43], argTypes := #[26] }, type := 3, pos := "ref.go:252", after := #[{ on := 2, ground := Ground.data }], guard := none }) rfl ?_
      intro K' hK'
      rw [if_pos (wanted_none rfl)]
      go_simp
      (try simp only [g])
      (try go_simp)
      exact hK' _ _ ⟨_, fv_set _ _, rfl, Below.refl _ _⟩
    | 4, _ =>
      have c0 := keep_below hb _ _ (xB 0 _ rfl)
      have c1 := keep_below hb _ _ (xB 1 _ rfl)
      have c2 := keep_below hb _ _ (xB 2 _ rfl)
      have c3 := keep_below hb _ _ (xB 3 _ rfl)
      have c4 := keep_below hb _ _ (xB 4 _ rfl)
      have c5 := keep_below hb _ _ (xB 5 _ rfl)
      have c6 := keep_below hb _ _ (xB 6 _ rfl)
      have c7 := keep_below hb _ _ (xB 7 _ rfl)
      have c8 := keep_below hb _ _ (xB 8 _ rfl)
      have c9 := keep_below hb _ _ (xB 9 _ rfl)
      refine wpOp_step (o := { dst := some 45, op := Op.load 32 (Operand.tmp 3), type := 32, pos := "ref.go:252", after := #[], guard := none }) rfl ?_
      intro K' hK'
      rw [if_pos (wanted_none rfl)]
      go_simp
      (try simp only [f3'])
      (try go_simp)
      exact hK' _ _ ⟨_, fv_set _ _, rfl, Below.refl _ _⟩
    | 5, _ =>
      have e : f 45 = .agg #[.slice a0 m.types.length k0, .slice a1 m.imports.length k1, .slice a2 m.funcs.length k2, .slice a3 m.tables.length k3, .slice a4 m.mems.length k4, .slice a5 m.globals.length k5, .slice a6 m.exports.length k6, .slice a7 m.start.length k7, .slice a8 m.elems.length k8, .slice a9 m.datas.length k9] := hv 4 (by kernel_rfl)
      have g := fv_get (n := 87) (by decide) e
      have HM' := HM.keep (keep_below hb)
      refine wpOp_step (o := { dst := some 46, op := Op.call { callee := Callee.value (Operand.func 58), args := #[Operand.tmp 45], argTypes := #[32] }, type := 70, pos := "ref.go:252", after := #[{ on := 4, ground := Ground.data }], guard := none }) rfl ?_
      intro K' hK'
      rw [if_pos (wanted_none rfl)]
      go_simp
      (try simp only [g])
      (try go_simp)
      go_at_call 58
      refine (pGlobals_any m a0 k0 a1 k1 a2 k2 a3 k3 a4 k4 a5 k5 a6 k6 a7 k7 a8 k8 a9 k9 w' HM' fit.ng).mono ?_
      rintro e u ⟨q, v', s', rfl, hq, hu, hp⟩
      go_simp
      exact hK' _ _ ⟨_, fv_set _ _, ⟨q, v', s', rfl, hq.mono hb.size, hp⟩, hu⟩
    | t + 6, h => exact absurd h (by omega)
  · intro f w' hb hoth hv
    have e0 : f 41 = .pointer (some ⟨p, 0, none⟩) := hv 0 (by decide)
    have e3 : f 44 = .int .i64 (m.globals.length : Int) := hv 3 (by decide)
    obtain ⟨q, v', s', e5, hq, hp⟩ := hv 5 (by decide)
    have e5' : f 46 = .pointer (some ⟨q, 0, none⟩) := e5
    have g0 := fv_get (n := 87) (by decide) e0
    have g3 := fv_get (n := 87) (by decide) e3
    have g5 := fv_get (n := 87) (by decide) e5'
    refine wpOp_step (o := { dst := some 47, op := Op.call { callee := Callee.value (Operand.func 53), args := #[Operand.tmp 41, Operand.const (Value.int IntKind.i64 6), Operand.tmp 44, Operand.tmp 46], argTypes := #[70, 3, 3, 70] }, type := 0, pos := "ref.go:252", after := #[{ on := 0, ground := Ground.data }, { on := 3, ground := Ground.data }, { on := 5, ground := Ground.data }, { on := 5, ground := Ground.chain }], guard := none }) rfl ?_
    intro K' hK'
    rw [if_pos (wanted_none rfl)]
    go_simp
    (try simp only [g0, g3, g5])
    (try go_simp)
    go_at_call 53
    refine (section_any 6 (m.globals.length : Int) (hP.below hb) hq hp hP.lt (fun g e => (hP.own.lt g e).2)).mono ?_
    rintro e u ⟨rfl, ho⟩
    go_simp
    refine hK' _ _ ?_
    rw [fv_set]
    have hq := fin (upv f 47 (.tuple #[])) u (POut.trans (Tr.of_below hb) ho)
    rw [← ovk_eq (f0 := f0) (f := upv f 47 (.tuple #[])) (ds := [41, 42, 43, 44, 45, 46, 47]) (fun t ht => ?_)] at hq
    · exact hq
    · simp only [List.mem_cons, List.not_mem_nil, or_false, not_or] at ht
      rw [show upv f 47 (.tuple #[]) t = f t by simp [upv, ht]]
      exact hoth t (fun j hj e => by omega)
def opsS7 : Array Oper := #[{ dst := some 48, op := Op.move (Operand.tmp 0), type := 70, pos := "ref.go:253", after := #[], guard := none }, { dst := some 49, op := Op.fieldAddr 32 (Operand.tmp 3) 6, type := 0, pos := "ref.go:253", after := #[], guard := none }, { dst := some 50, op := Op.load 27 (Operand.tmp 49), type := 27, pos := "ref.go:253", after := #[{ on := 1, ground := Ground.data }], guard := none }, { dst := some 51, op := Op.call { callee := Callee.builtin Builtin.len, args := #[Operand.tmp 50], argTypes := #[27] }, type := 3, pos := "ref.go:253", after := #[{ on := 2, ground := Ground.data }], guard := none }, { dst := some 52, op := Op.load 32 (Operand.tmp 3), type := 32, pos := "ref.go:253", after := #[], guard := none }, { dst := some 53, op := Op.call { callee := Callee.value (Operand.func 59), args := #[Operand.tmp 52], argTypes := #[32] }, type := 70, pos := "ref.go:253", after := #[{ on := 4, ground := Ground.data }], guard := none }, { dst := some 54, op := Op.call { callee := Callee.value (Operand.func 53), args := #[Operand.tmp 48, Operand.const (Value.int IntKind.i64 7), Operand.tmp 51, Operand.tmp 53], argTypes := #[70, 3, 3, 70] }, type := 0, pos := "ref.go:253", after := #[{ on := 0, ground := Ground.data }, { on := 3, ground := Ground.data }, { on := 5, ground := Ground.data }, { on := 5, ground := Ground.chain }], guard := none }]
set_option maxRecDepth 100000 in
set_option maxHeartbeats 4000000 in
theorem regS7 {Q : Exit → Act → World → Prop} {f0 : Nat → Value} {W : World} {m : Md} {a0 : Option Addr} {k0 : Nat} {a1 : Option Addr} {k1 : Nat} {a2 : Option Addr} {k2 : Nat} {a3 : Option Addr} {k3 : Nat} {a4 : Option Addr} {k4 : Nat} {a5 : Option Addr} {k5 : Nat} {a6 : Option Addr} {k6 : Nat} {a7 : Option Addr} {k7 : Nat} {a8 : Option Addr} {k8 : Nat} {a9 : Option Addr} {k9 : Nat} {N p c : Nat} {v : Value} {s : PS} (hmix : Tryz.prog.follows .mixedOrders = true) (f0' : f0 0 = .pointer (some ⟨p, 0, none⟩)) (f3' : f0 3 = .pointer (some ⟨c, 0, none⟩))
    (xB : Box W c #[.slice a0 m.types.length k0, .slice a1 m.imports.length k1, .slice a2 m.funcs.length k2, .slice a3 m.tables.length k3, .slice a4 m.mems.length k4, .slice a5 m.globals.length k5, .slice a6 m.exports.length k6, .slice a7 m.start.length k7, .slice a8 m.elems.length k8, .slice a9 m.datas.length k9]) (HM : MdAt W m a0 k0 a1 k1 a2 k2 a3 k3 a4 k4 a5 k5 a6 k6 a7 k7 a8 k8 a9 k9) (fit : Fit m) (hP : PAt N p W v s)
    (fin : ∀ f w', POut N p W v s (xS 7 (m.exports.length : Int) (xSec xExports m.exports)) w' → Q .normal (Fv 87 (ovk f0 f [48, 49, 50, 51, 52, 53, 54])) w') : (Code.region 7 opsS7 true).wp Tryz.prog Q (Fv 87 f0) W := by
  refine region_last (ops := opsS7) hmix 87 6 (fun j => 48 + j) rfl (by kernel_rfl) (by kernel_rfl) (by kernel_rfl) (by kernel_rfl) (fun i => match i with | 0 => pwEq (.pointer (some ⟨p, 0, none⟩)) | 1 => pwEq (.pointer (some ⟨c, 6, none⟩)) | 2 => pwEq (.slice a6 m.exports.length k6) | 3 => pwEq (.int .i64 (m.exports.length : Int)) | 4 => pwEq (.agg #[.slice a0 m.types.length k0, .slice a1 m.imports.length k1, .slice a2 m.funcs.length k2, .slice a3 m.tables.length k3, .slice a4 m.mems.length k4, .slice a5 m.globals.length k5, .slice a6 m.exports.length k6, .slice a7 m.start.length k7, .slice a8 m.elems.length k8, .slice a9 m.datas.length k9]) | 5 => pwPen W.heap.size (xSec xExports m.exports) | _ => pwEq undef) ?_ ?_
  · intro i' hi' f w' hb hoth hv
    have f0' := fv_get (n := 87) (by decide) ((hoth 0 (fun j hj e => by omega)).trans f0')
    have f3' := fv_get (n := 87) (by decide) ((hoth 3 (fun j hj e => by omega)).trans f3')
    match i', hi' with
    | 0, _ =>

      refine wpOp_step (o := { dst := some 48, op := Op.move (Operand.tmp 0), type := 70, pos := "ref.go:253", after := #[], guard := none }) rfl ?_
      intro K' hK'
      rw [if_pos (wanted_none rfl)]
      go_simp
      (try simp only [f0'])
      (try go_simp)
      exact hK' _ _ ⟨_, fv_set _ _, rfl, Below.refl _ _⟩
    | 1, _ =>

      refine wpOp_step (o := { dst := some 49, op := Op.fieldAddr 32 (Operand.tmp 3) 6, type := 0, pos := "ref.go:253", after := #[], guard := none }) rfl ?_
      intro K' hK'
      rw [if_pos (wanted_none rfl)]
      go_simp
      (try simp only [f3'])
      (try go_simp)
      exact hK' _ _ ⟨_, fv_set _ _, rfl, Below.refl _ _⟩
    | 2, _ =>
      have e49 : f 49 = .pointer (some ⟨c, 6, none⟩) := hv 1 (by kernel_rfl)
      have g := fv_get (n := 87) (by decide) e49
      have hcell := keep_below hb _ _ (xB 6 _ rfl)
      refine wpOp_step (o := { dst := some 50, op := Op.load 27 (Operand.tmp 49), type := 27, pos := "ref.go:253", after := #[{ on := 1, ground := Ground.data }], guard := none }) rfl ?_
      intro K' hK'
      rw [if_pos (wanted_none rfl)]
      go_simp
      (try simp only [g])
      (try go_simp)
      exact hK' _ _ ⟨_, fv_set _ _, rfl, Below.refl _ _⟩
    | 3, _ =>
      have e : f 50 = .slice a6 m.exports.length k6 := hv 2 (by kernel_rfl)
      have g := fv_get (n := 87) (by decide) e
      have hL := HM.exports.1
      refine wpOp_step (o := { dst := some 51, op := Op.call { callee := Callee.builtin Builtin.len, args := #[Operand.tmp 50], argTypes := #[27] }, type := 3, pos := "ref.go:253", after := #[{ on := 2, ground := Ground.data }], guard := none }) rfl ?_
      intro K' hK'
      rw [if_pos (wanted_none rfl)]
      go_simp
      (try simp only [g])
      (try go_simp)
      exact hK' _ _ ⟨_, fv_set _ _, rfl, Below.refl _ _⟩
    | 4, _ =>
      have c0 := keep_below hb _ _ (xB 0 _ rfl)
      have c1 := keep_below hb _ _ (xB 1 _ rfl)
      have c2 := keep_below hb _ _ (xB 2 _ rfl)
      have c3 := keep_below hb _ _ (xB 3 _ rfl)
      have c4 := keep_below hb _ _ (xB 4 _ rfl)
      have c5 := keep_below hb _ _ (xB 5 _ rfl)
      have c6 := keep_below hb _ _ (xB 6 _ rfl)
      have c7 := keep_below hb _ _ (xB 7 _ rfl)
      have c8 := keep_below hb _ _ (xB 8 _ rfl)
      have c9 := keep_below hb _ _ (xB 9 _ rfl)
      refine wpOp_step (o := { dst := some 52, op := Op.load 32 (Operand.tmp 3), type := 32, pos := "ref.go:253", after := #[], guard := none }) rfl ?_
      intro K' hK'
      rw [if_pos (wanted_none rfl)]
      go_simp
      (try simp only [f3'])
      (try go_simp)
      exact hK' _ _ ⟨_, fv_set _ _, rfl, Below.refl _ _⟩
    | 5, _ =>
      have e : f 52 = .agg #[.slice a0 m.types.length k0, .slice a1 m.imports.length k1, .slice a2 m.funcs.length k2, .slice a3 m.tables.length k3, .slice a4 m.mems.length k4, .slice a5 m.globals.length k5, .slice a6 m.exports.length k6, .slice a7 m.start.length k7, .slice a8 m.elems.length k8, .slice a9 m.datas.length k9] := hv 4 (by kernel_rfl)
      have g := fv_get (n := 87) (by decide) e
      have HM' := HM.keep (keep_below hb)
      refine wpOp_step (o := { dst := some 53, op := Op.call { callee := Callee.value (Operand.func 59), args := #[Operand.tmp 52], argTypes := #[32] }, type := 70, pos := "ref.go:253", after := #[{ on := 4, ground := Ground.data }], guard := none }) rfl ?_
      intro K' hK'
      rw [if_pos (wanted_none rfl)]
      go_simp
      (try simp only [g])
      (try go_simp)
      go_at_call 59
      refine (pExports_any m a0 k0 a1 k1 a2 k2 a3 k3 a4 k4 a5 k5 a6 k6 a7 k7 a8 k8 a9 k9 w' HM' fit.ze).mono ?_
      rintro e u ⟨q, v', s', rfl, hq, hu, hp⟩
      go_simp
      exact hK' _ _ ⟨_, fv_set _ _, ⟨q, v', s', rfl, hq.mono hb.size, hp⟩, hu⟩
    | t + 6, h => exact absurd h (by omega)
  · intro f w' hb hoth hv
    have e0 : f 48 = .pointer (some ⟨p, 0, none⟩) := hv 0 (by decide)
    have e3 : f 51 = .int .i64 (m.exports.length : Int) := hv 3 (by decide)
    obtain ⟨q, v', s', e5, hq, hp⟩ := hv 5 (by decide)
    have e5' : f 53 = .pointer (some ⟨q, 0, none⟩) := e5
    have g0 := fv_get (n := 87) (by decide) e0
    have g3 := fv_get (n := 87) (by decide) e3
    have g5 := fv_get (n := 87) (by decide) e5'
    refine wpOp_step (o := { dst := some 54, op := Op.call { callee := Callee.value (Operand.func 53), args := #[Operand.tmp 48, Operand.const (Value.int IntKind.i64 7), Operand.tmp 51, Operand.tmp 53], argTypes := #[70, 3, 3, 70] }, type := 0, pos := "ref.go:253", after := #[{ on := 0, ground := Ground.data }, { on := 3, ground := Ground.data }, { on := 5, ground := Ground.data }, { on := 5, ground := Ground.chain }], guard := none }) rfl ?_
    intro K' hK'
    rw [if_pos (wanted_none rfl)]
    go_simp
    (try simp only [g0, g3, g5])
    (try go_simp)
    go_at_call 53
    refine (section_any 7 (m.exports.length : Int) (hP.below hb) hq hp hP.lt (fun g e => (hP.own.lt g e).2)).mono ?_
    rintro e u ⟨rfl, ho⟩
    go_simp
    refine hK' _ _ ?_
    rw [fv_set]
    have hq := fin (upv f 54 (.tuple #[])) u (POut.trans (Tr.of_below hb) ho)
    rw [← ovk_eq (f0 := f0) (f := upv f 54 (.tuple #[])) (ds := [48, 49, 50, 51, 52, 53, 54]) (fun t ht => ?_)] at hq
    · exact hq
    · simp only [List.mem_cons, List.not_mem_nil, or_false, not_or] at ht
      rw [show upv f 54 (.tuple #[]) t = f t by simp [upv, ht]]
      exact hoth t (fun j hj e => by omega)
def opsS10 : Array Oper := #[{ dst := some 66, op := Op.move (Operand.tmp 0), type := 70, pos := "ref.go:257", after := #[], guard := none }, { dst := some 67, op := Op.fieldAddr 32 (Operand.tmp 3) 8, type := 0, pos := "ref.go:257", after := #[], guard := none }, { dst := some 68, op := Op.load 29 (Operand.tmp 67), type := 29, pos := "ref.go:257", after := #[{ on := 1, ground := Ground.data }], guard := none }, { dst := some 69, op := Op.call { callee := Callee.builtin Builtin.len, args := #[Operand.tmp 68], argTypes := #[29] }, type := 3, pos := "ref.go:257", after := #[{ on := 2, ground := Ground.data }], guard := none }, { dst := some 70, op := Op.load 32 (Operand.tmp 3), type := 32, pos := "ref.go:257", after := #[], guard := none }, { dst := some 71, op := Op.call { callee := Callee.value (Operand.func 61), args := #[Operand.tmp 70], argTypes := #[32] }, type := 70, pos := "ref.go:257", after := #[{ on := 4, ground := Ground.data }], guard := none }, { dst := some 72, op := Op.call { callee := Callee.value (Operand.func 53), args := #[Operand.tmp 66, Operand.const (Value.int IntKind.i64 9), Operand.tmp 69, Operand.tmp 71], argTypes := #[70, 3, 3, 70] }, type := 0, pos := "ref.go:257", after := #[{ on := 0, ground := Ground.data }, { on := 3, ground := Ground.data }, { on := 5, ground := Ground.data }, { on := 5, ground := Ground.chain }], guard := none }]
set_option maxRecDepth 100000 in
set_option maxHeartbeats 4000000 in
theorem regS10 {Q : Exit → Act → World → Prop} {f0 : Nat → Value} {W : World} {m : Md} {a0 : Option Addr} {k0 : Nat} {a1 : Option Addr} {k1 : Nat} {a2 : Option Addr} {k2 : Nat} {a3 : Option Addr} {k3 : Nat} {a4 : Option Addr} {k4 : Nat} {a5 : Option Addr} {k5 : Nat} {a6 : Option Addr} {k6 : Nat} {a7 : Option Addr} {k7 : Nat} {a8 : Option Addr} {k8 : Nat} {a9 : Option Addr} {k9 : Nat} {N p c : Nat} {v : Value} {s : PS} (hmix : Tryz.prog.follows .mixedOrders = true) (f0' : f0 0 = .pointer (some ⟨p, 0, none⟩)) (f3' : f0 3 = .pointer (some ⟨c, 0, none⟩))
    (xB : Box W c #[.slice a0 m.types.length k0, .slice a1 m.imports.length k1, .slice a2 m.funcs.length k2, .slice a3 m.tables.length k3, .slice a4 m.mems.length k4, .slice a5 m.globals.length k5, .slice a6 m.exports.length k6, .slice a7 m.start.length k7, .slice a8 m.elems.length k8, .slice a9 m.datas.length k9]) (HM : MdAt W m a0 k0 a1 k1 a2 k2 a3 k3 a4 k4 a5 k5 a6 k6 a7 k7 a8 k8 a9 k9) (fit : Fit m) (hP : PAt N p W v s)
    (fin : ∀ f w', POut N p W v s (xS 9 (m.elems.length : Int) (xSec xElems m.elems)) w' → Q .normal (Fv 87 (ovk f0 f [66, 67, 68, 69, 70, 71, 72])) w') : (Code.region 10 opsS10 true).wp Tryz.prog Q (Fv 87 f0) W := by
  refine region_last (ops := opsS10) hmix 87 6 (fun j => 66 + j) rfl (by kernel_rfl) (by kernel_rfl) (by kernel_rfl) (by kernel_rfl) (fun i => match i with | 0 => pwEq (.pointer (some ⟨p, 0, none⟩)) | 1 => pwEq (.pointer (some ⟨c, 8, none⟩)) | 2 => pwEq (.slice a8 m.elems.length k8) | 3 => pwEq (.int .i64 (m.elems.length : Int)) | 4 => pwEq (.agg #[.slice a0 m.types.length k0, .slice a1 m.imports.length k1, .slice a2 m.funcs.length k2, .slice a3 m.tables.length k3, .slice a4 m.mems.length k4, .slice a5 m.globals.length k5, .slice a6 m.exports.length k6, .slice a7 m.start.length k7, .slice a8 m.elems.length k8, .slice a9 m.datas.length k9]) | 5 => pwPen W.heap.size (xSec xElems m.elems) | _ => pwEq undef) ?_ ?_
  · intro i' hi' f w' hb hoth hv
    have f0' := fv_get (n := 87) (by decide) ((hoth 0 (fun j hj e => by omega)).trans f0')
    have f3' := fv_get (n := 87) (by decide) ((hoth 3 (fun j hj e => by omega)).trans f3')
    match i', hi' with
    | 0, _ =>

      refine wpOp_step (o := { dst := some 66, op := Op.move (Operand.tmp 0), type := 70, pos := "ref.go:257", after := #[], guard := none }) rfl ?_
      intro K' hK'
      rw [if_pos (wanted_none rfl)]
      go_simp
      (try simp only [f0'])
      (try go_simp)
      exact hK' _ _ ⟨_, fv_set _ _, rfl, Below.refl _ _⟩
    | 1, _ =>

      refine wpOp_step (o := { dst := some 67, op := Op.fieldAddr 32 (Operand.tmp 3) 8, type := 0, pos := "ref.go:257", after := #[], guard := none }) rfl ?_
      intro K' hK'
      rw [if_pos (wanted_none rfl)]
      go_simp
      (try simp only [f3'])
      (try go_simp)
      exact hK' _ _ ⟨_, fv_set _ _, rfl, Below.refl _ _⟩
    | 2, _ =>
      have e67 : f 67 = .pointer (some ⟨c, 8, none⟩) := hv 1 (by kernel_rfl)
      have g := fv_get (n := 87) (by decide) e67
      have hcell := keep_below hb _ _ (xB 8 _ rfl)
      refine wpOp_step (o := { dst := some 68, op := Op.load 29 (Operand.tmp 67), type := 29, pos := "ref.go:257", after := #[{ on := 1, ground := Ground.data }], guard := none }) rfl ?_
      intro K' hK'
      rw [if_pos (wanted_none rfl)]
      go_simp
      (try simp only [g])
      (try go_simp)
      exact hK' _ _ ⟨_, fv_set _ _, rfl, Below.refl _ _⟩
    | 3, _ =>
      have e : f 68 = .slice a8 m.elems.length k8 := hv 2 (by kernel_rfl)
      have g := fv_get (n := 87) (by decide) e
      have hL := HM.elems.1
      refine wpOp_step (o := { dst := some 69, op := Op.call { callee := Callee.builtin Builtin.len, args := #[Operand.tmp 68], argTypes := #[29] }, type := 3, pos := "ref.go:257", after := #[{ on := 2, ground := Ground.data }], guard := none }) rfl ?_
      intro K' hK'
      rw [if_pos (wanted_none rfl)]
      go_simp
      (try simp only [g])
      (try go_simp)
      exact hK' _ _ ⟨_, fv_set _ _, rfl, Below.refl _ _⟩
    | 4, _ =>
      have c0 := keep_below hb _ _ (xB 0 _ rfl)
      have c1 := keep_below hb _ _ (xB 1 _ rfl)
      have c2 := keep_below hb _ _ (xB 2 _ rfl)
      have c3 := keep_below hb _ _ (xB 3 _ rfl)
      have c4 := keep_below hb _ _ (xB 4 _ rfl)
      have c5 := keep_below hb _ _ (xB 5 _ rfl)
      have c6 := keep_below hb _ _ (xB 6 _ rfl)
      have c7 := keep_below hb _ _ (xB 7 _ rfl)
      have c8 := keep_below hb _ _ (xB 8 _ rfl)
      have c9 := keep_below hb _ _ (xB 9 _ rfl)
      refine wpOp_step (o := { dst := some 70, op := Op.load 32 (Operand.tmp 3), type := 32, pos := "ref.go:257", after := #[], guard := none }) rfl ?_
      intro K' hK'
      rw [if_pos (wanted_none rfl)]
      go_simp
      (try simp only [f3'])
      (try go_simp)
      exact hK' _ _ ⟨_, fv_set _ _, rfl, Below.refl _ _⟩
    | 5, _ =>
      have e : f 70 = .agg #[.slice a0 m.types.length k0, .slice a1 m.imports.length k1, .slice a2 m.funcs.length k2, .slice a3 m.tables.length k3, .slice a4 m.mems.length k4, .slice a5 m.globals.length k5, .slice a6 m.exports.length k6, .slice a7 m.start.length k7, .slice a8 m.elems.length k8, .slice a9 m.datas.length k9] := hv 4 (by kernel_rfl)
      have g := fv_get (n := 87) (by decide) e
      have HM' := HM.keep (keep_below hb)
      refine wpOp_step (o := { dst := some 71, op := Op.call { callee := Callee.value (Operand.func 61), args := #[Operand.tmp 70], argTypes := #[32] }, type := 70, pos := "ref.go:257", after := #[{ on := 4, ground := Ground.data }], guard := none }) rfl ?_
      intro K' hK'
      rw [if_pos (wanted_none rfl)]
      go_simp
      (try simp only [g])
      (try go_simp)
      go_at_call 61
      refine (pElems_any m a0 k0 a1 k1 a2 k2 a3 k3 a4 k4 a5 k5 a6 k6 a7 k7 a8 k8 a9 k9 w' HM' fit.ne).mono ?_
      rintro e u ⟨q, v', s', rfl, hq, hu, hp⟩
      go_simp
      exact hK' _ _ ⟨_, fv_set _ _, ⟨q, v', s', rfl, hq.mono hb.size, hp⟩, hu⟩
    | t + 6, h => exact absurd h (by omega)
  · intro f w' hb hoth hv
    have e0 : f 66 = .pointer (some ⟨p, 0, none⟩) := hv 0 (by decide)
    have e3 : f 69 = .int .i64 (m.elems.length : Int) := hv 3 (by decide)
    obtain ⟨q, v', s', e5, hq, hp⟩ := hv 5 (by decide)
    have e5' : f 71 = .pointer (some ⟨q, 0, none⟩) := e5
    have g0 := fv_get (n := 87) (by decide) e0
    have g3 := fv_get (n := 87) (by decide) e3
    have g5 := fv_get (n := 87) (by decide) e5'
    refine wpOp_step (o := { dst := some 72, op := Op.call { callee := Callee.value (Operand.func 53), args := #[Operand.tmp 66, Operand.const (Value.int IntKind.i64 9), Operand.tmp 69, Operand.tmp 71], argTypes := #[70, 3, 3, 70] }, type := 0, pos := "ref.go:257", after := #[{ on := 0, ground := Ground.data }, { on := 3, ground := Ground.data }, { on := 5, ground := Ground.data }, { on := 5, ground := Ground.chain }], guard := none }) rfl ?_
    intro K' hK'
    rw [if_pos (wanted_none rfl)]
    go_simp
    (try simp only [g0, g3, g5])
    (try go_simp)
    go_at_call 53
    refine (section_any 9 (m.elems.length : Int) (hP.below hb) hq hp hP.lt (fun g e => (hP.own.lt g e).2)).mono ?_
    rintro e u ⟨rfl, ho⟩
    go_simp
    refine hK' _ _ ?_
    rw [fv_set]
    have hq := fin (upv f 72 (.tuple #[])) u (POut.trans (Tr.of_below hb) ho)
    rw [← ovk_eq (f0 := f0) (f := upv f 72 (.tuple #[])) (ds := [66, 67, 68, 69, 70, 71, 72]) (fun t ht => ?_)] at hq
    · exact hq
    · simp only [List.mem_cons, List.not_mem_nil, or_false, not_or] at ht
      rw [show upv f 72 (.tuple #[]) t = f t by simp [upv, ht]]
      exact hoth t (fun j hj e => by omega)
def opsS11 : Array Oper := #[{ dst := some 73, op := Op.move (Operand.tmp 0), type := 70, pos := "ref.go:258", after := #[], guard := none }, { dst := some 74, op := Op.fieldAddr 32 (Operand.tmp 3) 2, type := 0, pos := "ref.go:258", after := #[], guard := none }, { dst := some 75, op := Op.load 24 (Operand.tmp 74), type := 24, pos := "ref.go:258", after := #[{ on := 1, ground := Ground.data }], guard := none }, { dst := some 76, op := Op.call { callee := Callee.builtin Builtin.len, args := #[Operand.tmp 75], argTypes := #[24] }, type := 3, pos := "ref.go:258", after := #[{ on := 2, ground := Ground.data }], guard := none }, { dst := some 77, op := Op.load 32 (Operand.tmp 3), type := 32, pos := "ref.go:258", after := #[], guard := none }, { dst := some 78, op := Op.call { callee := Callee.value (Operand.func 62), args := #[Operand.tmp 77], argTypes := #[32] }, type := 70, pos := "ref.go:258", after := #[{ on := 4, ground := Ground.data }], guard := none }, { dst := some 79, op := Op.call { callee := Callee.value (Operand.func 53), args := #[Operand.tmp 73, Operand.const (Value.int IntKind.i64 10), Operand.tmp 76, Operand.tmp 78], argTypes := #[70, 3, 3, 70] }, type := 0, pos := "ref.go:258", after := #[{ on := 0, ground := Ground.data }, { on := 3, ground := Ground.data }, { on := 5, ground := Ground.data }, { on := 5, ground := Ground.chain }], guard := none }]
set_option maxRecDepth 100000 in
set_option maxHeartbeats 4000000 in
theorem regS11 {Q : Exit → Act → World → Prop} {f0 : Nat → Value} {W : World} {m : Md} {a0 : Option Addr} {k0 : Nat} {a1 : Option Addr} {k1 : Nat} {a2 : Option Addr} {k2 : Nat} {a3 : Option Addr} {k3 : Nat} {a4 : Option Addr} {k4 : Nat} {a5 : Option Addr} {k5 : Nat} {a6 : Option Addr} {k6 : Nat} {a7 : Option Addr} {k7 : Nat} {a8 : Option Addr} {k8 : Nat} {a9 : Option Addr} {k9 : Nat} {N p c : Nat} {v : Value} {s : PS} (hmix : Tryz.prog.follows .mixedOrders = true) (f0' : f0 0 = .pointer (some ⟨p, 0, none⟩)) (f3' : f0 3 = .pointer (some ⟨c, 0, none⟩))
    (xB : Box W c #[.slice a0 m.types.length k0, .slice a1 m.imports.length k1, .slice a2 m.funcs.length k2, .slice a3 m.tables.length k3, .slice a4 m.mems.length k4, .slice a5 m.globals.length k5, .slice a6 m.exports.length k6, .slice a7 m.start.length k7, .slice a8 m.elems.length k8, .slice a9 m.datas.length k9]) (HM : MdAt W m a0 k0 a1 k1 a2 k2 a3 k3 a4 k4 a5 k5 a6 k6 a7 k7 a8 k8 a9 k9) (fit : Fit m) (hP : PAt N p W v s)
    (fin : ∀ f w', POut N p W v s (xS 10 (m.funcs.length : Int) (xSec xCodes m.funcs)) w' → Q .normal (Fv 87 (ovk f0 f [73, 74, 75, 76, 77, 78, 79])) w') : (Code.region 11 opsS11 true).wp Tryz.prog Q (Fv 87 f0) W := by
  refine region_last (ops := opsS11) hmix 87 6 (fun j => 73 + j) rfl (by kernel_rfl) (by kernel_rfl) (by kernel_rfl) (by kernel_rfl) (fun i => match i with | 0 => pwEq (.pointer (some ⟨p, 0, none⟩)) | 1 => pwEq (.pointer (some ⟨c, 2, none⟩)) | 2 => pwEq (.slice a2 m.funcs.length k2) | 3 => pwEq (.int .i64 (m.funcs.length : Int)) | 4 => pwEq (.agg #[.slice a0 m.types.length k0, .slice a1 m.imports.length k1, .slice a2 m.funcs.length k2, .slice a3 m.tables.length k3, .slice a4 m.mems.length k4, .slice a5 m.globals.length k5, .slice a6 m.exports.length k6, .slice a7 m.start.length k7, .slice a8 m.elems.length k8, .slice a9 m.datas.length k9]) | 5 => pwPen W.heap.size (xSec xCodes m.funcs) | _ => pwEq undef) ?_ ?_
  · intro i' hi' f w' hb hoth hv
    have f0' := fv_get (n := 87) (by decide) ((hoth 0 (fun j hj e => by omega)).trans f0')
    have f3' := fv_get (n := 87) (by decide) ((hoth 3 (fun j hj e => by omega)).trans f3')
    match i', hi' with
    | 0, _ =>

      refine wpOp_step (o := { dst := some 73, op := Op.move (Operand.tmp 0), type := 70, pos := "ref.go:258", after := #[], guard := none }) rfl ?_
      intro K' hK'
      rw [if_pos (wanted_none rfl)]
      go_simp
      (try simp only [f0'])
      (try go_simp)
      exact hK' _ _ ⟨_, fv_set _ _, rfl, Below.refl _ _⟩
    | 1, _ =>

      refine wpOp_step (o := { dst := some 74, op := Op.fieldAddr 32 (Operand.tmp 3) 2, type := 0, pos := "ref.go:258", after := #[], guard := none }) rfl ?_
      intro K' hK'
      rw [if_pos (wanted_none rfl)]
      go_simp
      (try simp only [f3'])
      (try go_simp)
      exact hK' _ _ ⟨_, fv_set _ _, rfl, Below.refl _ _⟩
    | 2, _ =>
      have e74 : f 74 = .pointer (some ⟨c, 2, none⟩) := hv 1 (by kernel_rfl)
      have g := fv_get (n := 87) (by decide) e74
      have hcell := keep_below hb _ _ (xB 2 _ rfl)
      refine wpOp_step (o := { dst := some 75, op := Op.load 24 (Operand.tmp 74), type := 24, pos := "ref.go:258", after := #[{ on := 1, ground := Ground.data }], guard := none }) rfl ?_
      intro K' hK'
      rw [if_pos (wanted_none rfl)]
      go_simp
      (try simp only [g])
      (try go_simp)
      exact hK' _ _ ⟨_, fv_set _ _, rfl, Below.refl _ _⟩
    | 3, _ =>
      have e : f 75 = .slice a2 m.funcs.length k2 := hv 2 (by kernel_rfl)
      have g := fv_get (n := 87) (by decide) e
      have hL := HM.funcs.1
      refine wpOp_step (o := { dst := some 76, op := Op.call { callee := Callee.builtin Builtin.len, args := #[Operand.tmp 75], argTypes := #[24] }, type := 3, pos := "ref.go:258", after := #[{ on := 2, ground := Ground.data }], guard := none }) rfl ?_
      intro K' hK'
      rw [if_pos (wanted_none rfl)]
      go_simp
      (try simp only [g])
      (try go_simp)
      exact hK' _ _ ⟨_, fv_set _ _, rfl, Below.refl _ _⟩
    | 4, _ =>
      have c0 := keep_below hb _ _ (xB 0 _ rfl)
      have c1 := keep_below hb _ _ (xB 1 _ rfl)
      have c2 := keep_below hb _ _ (xB 2 _ rfl)
      have c3 := keep_below hb _ _ (xB 3 _ rfl)
      have c4 := keep_below hb _ _ (xB 4 _ rfl)
      have c5 := keep_below hb _ _ (xB 5 _ rfl)
      have c6 := keep_below hb _ _ (xB 6 _ rfl)
      have c7 := keep_below hb _ _ (xB 7 _ rfl)
      have c8 := keep_below hb _ _ (xB 8 _ rfl)
      have c9 := keep_below hb _ _ (xB 9 _ rfl)
      refine wpOp_step (o := { dst := some 77, op := Op.load 32 (Operand.tmp 3), type := 32, pos := "ref.go:258", after := #[], guard := none }) rfl ?_
      intro K' hK'
      rw [if_pos (wanted_none rfl)]
      go_simp
      (try simp only [f3'])
      (try go_simp)
      exact hK' _ _ ⟨_, fv_set _ _, rfl, Below.refl _ _⟩
    | 5, _ =>
      have e : f 77 = .agg #[.slice a0 m.types.length k0, .slice a1 m.imports.length k1, .slice a2 m.funcs.length k2, .slice a3 m.tables.length k3, .slice a4 m.mems.length k4, .slice a5 m.globals.length k5, .slice a6 m.exports.length k6, .slice a7 m.start.length k7, .slice a8 m.elems.length k8, .slice a9 m.datas.length k9] := hv 4 (by kernel_rfl)
      have g := fv_get (n := 87) (by decide) e
      have HM' := HM.keep (keep_below hb)
      refine wpOp_step (o := { dst := some 78, op := Op.call { callee := Callee.value (Operand.func 62), args := #[Operand.tmp 77], argTypes := #[32] }, type := 70, pos := "ref.go:258", after := #[{ on := 4, ground := Ground.data }], guard := none }) rfl ?_
      intro K' hK'
      rw [if_pos (wanted_none rfl)]
      go_simp
      (try simp only [g])
      (try go_simp)
      go_at_call 62
      refine (pCodes_any m a0 k0 a1 k1 a2 k2 a3 k3 a4 k4 a5 k5 a6 k6 a7 k7 a8 k8 a9 k9 w' HM' fit.nf fit.lo).mono ?_
      rintro e u ⟨q, v', s', rfl, hq, hu, hp⟩
      go_simp
      exact hK' _ _ ⟨_, fv_set _ _, ⟨q, v', s', rfl, hq.mono hb.size, hp⟩, hu⟩
    | t + 6, h => exact absurd h (by omega)
  · intro f w' hb hoth hv
    have e0 : f 73 = .pointer (some ⟨p, 0, none⟩) := hv 0 (by decide)
    have e3 : f 76 = .int .i64 (m.funcs.length : Int) := hv 3 (by decide)
    obtain ⟨q, v', s', e5, hq, hp⟩ := hv 5 (by decide)
    have e5' : f 78 = .pointer (some ⟨q, 0, none⟩) := e5
    have g0 := fv_get (n := 87) (by decide) e0
    have g3 := fv_get (n := 87) (by decide) e3
    have g5 := fv_get (n := 87) (by decide) e5'
    refine wpOp_step (o := { dst := some 79, op := Op.call { callee := Callee.value (Operand.func 53), args := #[Operand.tmp 73, Operand.const (Value.int IntKind.i64 10), Operand.tmp 76, Operand.tmp 78], argTypes := #[70, 3, 3, 70] }, type := 0, pos := "ref.go:258", after := #[{ on := 0, ground := Ground.data }, { on := 3, ground := Ground.data }, { on := 5, ground := Ground.data }, { on := 5, ground := Ground.chain }], guard := none }) rfl ?_
    intro K' hK'
    rw [if_pos (wanted_none rfl)]
    go_simp
    (try simp only [g0, g3, g5])
    (try go_simp)
    go_at_call 53
    refine (section_any 10 (m.funcs.length : Int) (hP.below hb) hq hp hP.lt (fun g e => (hP.own.lt g e).2)).mono ?_
    rintro e u ⟨rfl, ho⟩
    go_simp
    refine hK' _ _ ?_
    rw [fv_set]
    have hq := fin (upv f 79 (.tuple #[])) u (POut.trans (Tr.of_below hb) ho)
    rw [← ovk_eq (f0 := f0) (f := upv f 79 (.tuple #[])) (ds := [73, 74, 75, 76, 77, 78, 79]) (fun t ht => ?_)] at hq
    · exact hq
    · simp only [List.mem_cons, List.not_mem_nil, or_false, not_or] at ht
      rw [show upv f 79 (.tuple #[]) t = f t by simp [upv, ht]]
      exact hoth t (fun j hj e => by omega)
def opsS12 : Array Oper := #[{ dst := some 80, op := Op.move (Operand.tmp 0), type := 70, pos := "ref.go:259", after := #[], guard := none }, { dst := some 81, op := Op.fieldAddr 32 (Operand.tmp 3) 9, type := 0, pos := "ref.go:259", after := #[], guard := none }, { dst := some 82, op := Op.load 30 (Operand.tmp 81), type := 30, pos := "ref.go:259", after := #[{ on := 1, ground := Ground.data }], guard := none }, { dst := some 83, op := Op.call { callee := Callee.builtin Builtin.len, args := #[Operand.tmp 82], argTypes := #[30] }, type := 3, pos := "ref.go:259", after := #[{ on := 2, ground := Ground.data }], guard := none }, { dst := some 84, op := Op.load 32 (Operand.tmp 3), type := 32, pos := "ref.go:259", after := #[], guard := none }, { dst := some 85, op := Op.call { callee := Callee.value (Operand.func 63), args := #[Operand.tmp 84], argTypes := #[32] }, type := 70, pos := "ref.go:259", after := #[{ on := 4, ground := Ground.data }], guard := none }, { dst := some 86, op := Op.call { callee := Callee.value (Operand.func 53), args := #[Operand.tmp 80, Operand.const (Value.int IntKind.i64 11), Operand.tmp 83, Operand.tmp 85], argTypes := #[70, 3, 3, 70] }, type := 0, pos := "ref.go:259", after := #[{ on := 0, ground := Ground.data }, { on := 3, ground := Ground.data }, { on := 5, ground := Ground.data }, { on := 5, ground := Ground.chain }], guard := none }]
set_option maxRecDepth 100000 in
set_option maxHeartbeats 4000000 in
theorem regS12 {Q : Exit → Act → World → Prop} {f0 : Nat → Value} {W : World} {m : Md} {a0 : Option Addr} {k0 : Nat} {a1 : Option Addr} {k1 : Nat} {a2 : Option Addr} {k2 : Nat} {a3 : Option Addr} {k3 : Nat} {a4 : Option Addr} {k4 : Nat} {a5 : Option Addr} {k5 : Nat} {a6 : Option Addr} {k6 : Nat} {a7 : Option Addr} {k7 : Nat} {a8 : Option Addr} {k8 : Nat} {a9 : Option Addr} {k9 : Nat} {N p c : Nat} {v : Value} {s : PS} (hmix : Tryz.prog.follows .mixedOrders = true) (f0' : f0 0 = .pointer (some ⟨p, 0, none⟩)) (f3' : f0 3 = .pointer (some ⟨c, 0, none⟩))
    (xB : Box W c #[.slice a0 m.types.length k0, .slice a1 m.imports.length k1, .slice a2 m.funcs.length k2, .slice a3 m.tables.length k3, .slice a4 m.mems.length k4, .slice a5 m.globals.length k5, .slice a6 m.exports.length k6, .slice a7 m.start.length k7, .slice a8 m.elems.length k8, .slice a9 m.datas.length k9]) (HM : MdAt W m a0 k0 a1 k1 a2 k2 a3 k3 a4 k4 a5 k5 a6 k6 a7 k7 a8 k8 a9 k9) (fit : Fit m) (hP : PAt N p W v s)
    (fin : ∀ f w', POut N p W v s (xS 11 (m.datas.length : Int) (xSec xDatas m.datas)) w' → Q .normal (Fv 87 (ovk f0 f [80, 81, 82, 83, 84, 85, 86])) w') : (Code.region 12 opsS12 true).wp Tryz.prog Q (Fv 87 f0) W := by
  refine region_last (ops := opsS12) hmix 87 6 (fun j => 80 + j) rfl (by kernel_rfl) (by kernel_rfl) (by kernel_rfl) (by kernel_rfl) (fun i => match i with | 0 => pwEq (.pointer (some ⟨p, 0, none⟩)) | 1 => pwEq (.pointer (some ⟨c, 9, none⟩)) | 2 => pwEq (.slice a9 m.datas.length k9) | 3 => pwEq (.int .i64 (m.datas.length : Int)) | 4 => pwEq (.agg #[.slice a0 m.types.length k0, .slice a1 m.imports.length k1, .slice a2 m.funcs.length k2, .slice a3 m.tables.length k3, .slice a4 m.mems.length k4, .slice a5 m.globals.length k5, .slice a6 m.exports.length k6, .slice a7 m.start.length k7, .slice a8 m.elems.length k8, .slice a9 m.datas.length k9]) | 5 => pwPen W.heap.size (xSec xDatas m.datas) | _ => pwEq undef) ?_ ?_
  · intro i' hi' f w' hb hoth hv
    have f0' := fv_get (n := 87) (by decide) ((hoth 0 (fun j hj e => by omega)).trans f0')
    have f3' := fv_get (n := 87) (by decide) ((hoth 3 (fun j hj e => by omega)).trans f3')
    match i', hi' with
    | 0, _ =>

      refine wpOp_step (o := { dst := some 80, op := Op.move (Operand.tmp 0), type := 70, pos := "ref.go:259", after := #[], guard := none }) rfl ?_
      intro K' hK'
      rw [if_pos (wanted_none rfl)]
      go_simp
      (try simp only [f0'])
      (try go_simp)
      exact hK' _ _ ⟨_, fv_set _ _, rfl, Below.refl _ _⟩
    | 1, _ =>

      refine wpOp_step (o := { dst := some 81, op := Op.fieldAddr 32 (Operand.tmp 3) 9, type := 0, pos := "ref.go:259", after := #[], guard := none }) rfl ?_
      intro K' hK'
      rw [if_pos (wanted_none rfl)]
      go_simp
      (try simp only [f3'])
      (try go_simp)
      exact hK' _ _ ⟨_, fv_set _ _, rfl, Below.refl _ _⟩
    | 2, _ =>
      have e81 : f 81 = .pointer (some ⟨c, 9, none⟩) := hv 1 (by kernel_rfl)
      have g := fv_get (n := 87) (by decide) e81
      have hcell := keep_below hb _ _ (xB 9 _ rfl)
      refine wpOp_step (o := { dst := some 82, op := Op.load 30 (Operand.tmp 81), type := 30, pos := "ref.go:259", after := #[{ on := 1, ground := Ground.data }], guard := none }) rfl ?_
      intro K' hK'
      rw [if_pos (wanted_none rfl)]
      go_simp
      (try simp only [g])
      (try go_simp)
      exact hK' _ _ ⟨_, fv_set _ _, rfl, Below.refl _ _⟩
    | 3, _ =>
      have e : f 82 = .slice a9 m.datas.length k9 := hv 2 (by kernel_rfl)
      have g := fv_get (n := 87) (by decide) e
      have hL := HM.datas.1
      refine wpOp_step (o := { dst := some 83, op := Op.call { callee := Callee.builtin Builtin.len, args := #[Operand.tmp 82], argTypes := #[30] }, type := 3, pos := "ref.go:259", after := #[{ on := 2, ground := Ground.data }], guard := none }) rfl ?_
      intro K' hK'
      rw [if_pos (wanted_none rfl)]
      go_simp
      (try simp only [g])
      (try go_simp)
      exact hK' _ _ ⟨_, fv_set _ _, rfl, Below.refl _ _⟩
    | 4, _ =>
      have c0 := keep_below hb _ _ (xB 0 _ rfl)
      have c1 := keep_below hb _ _ (xB 1 _ rfl)
      have c2 := keep_below hb _ _ (xB 2 _ rfl)
      have c3 := keep_below hb _ _ (xB 3 _ rfl)
      have c4 := keep_below hb _ _ (xB 4 _ rfl)
      have c5 := keep_below hb _ _ (xB 5 _ rfl)
      have c6 := keep_below hb _ _ (xB 6 _ rfl)
      have c7 := keep_below hb _ _ (xB 7 _ rfl)
      have c8 := keep_below hb _ _ (xB 8 _ rfl)
      have c9 := keep_below hb _ _ (xB 9 _ rfl)
      refine wpOp_step (o := { dst := some 84, op := Op.load 32 (Operand.tmp 3), type := 32, pos := "ref.go:259", after := #[], guard := none }) rfl ?_
      intro K' hK'
      rw [if_pos (wanted_none rfl)]
      go_simp
      (try simp only [f3'])
      (try go_simp)
      exact hK' _ _ ⟨_, fv_set _ _, rfl, Below.refl _ _⟩
    | 5, _ =>
      have e : f 84 = .agg #[.slice a0 m.types.length k0, .slice a1 m.imports.length k1, .slice a2 m.funcs.length k2, .slice a3 m.tables.length k3, .slice a4 m.mems.length k4, .slice a5 m.globals.length k5, .slice a6 m.exports.length k6, .slice a7 m.start.length k7, .slice a8 m.elems.length k8, .slice a9 m.datas.length k9] := hv 4 (by kernel_rfl)
      have g := fv_get (n := 87) (by decide) e
      have HM' := HM.keep (keep_below hb)
      refine wpOp_step (o := { dst := some 85, op := Op.call { callee := Callee.value (Operand.func 63), args := #[Operand.tmp 84], argTypes := #[32] }, type := 70, pos := "ref.go:259", after := #[{ on := 4, ground := Ground.data }], guard := none }) rfl ?_
      intro K' hK'
      rw [if_pos (wanted_none rfl)]
      go_simp
      (try simp only [g])
      (try go_simp)
      go_at_call 63
      refine (pDatas_any m a0 k0 a1 k1 a2 k2 a3 k3 a4 k4 a5 k5 a6 k6 a7 k7 a8 k8 a9 k9 w' HM' fit.nd fit.zd).mono ?_
      rintro e u ⟨q, v', s', rfl, hq, hu, hp⟩
      go_simp
      exact hK' _ _ ⟨_, fv_set _ _, ⟨q, v', s', rfl, hq.mono hb.size, hp⟩, hu⟩
    | t + 6, h => exact absurd h (by omega)
  · intro f w' hb hoth hv
    have e0 : f 80 = .pointer (some ⟨p, 0, none⟩) := hv 0 (by decide)
    have e3 : f 83 = .int .i64 (m.datas.length : Int) := hv 3 (by decide)
    obtain ⟨q, v', s', e5, hq, hp⟩ := hv 5 (by decide)
    have e5' : f 85 = .pointer (some ⟨q, 0, none⟩) := e5
    have g0 := fv_get (n := 87) (by decide) e0
    have g3 := fv_get (n := 87) (by decide) e3
    have g5 := fv_get (n := 87) (by decide) e5'
    refine wpOp_step (o := { dst := some 86, op := Op.call { callee := Callee.value (Operand.func 53), args := #[Operand.tmp 80, Operand.const (Value.int IntKind.i64 11), Operand.tmp 83, Operand.tmp 85], argTypes := #[70, 3, 3, 70] }, type := 0, pos := "ref.go:259", after := #[{ on := 0, ground := Ground.data }, { on := 3, ground := Ground.data }, { on := 5, ground := Ground.data }, { on := 5, ground := Ground.chain }], guard := none }) rfl ?_
    intro K' hK'
    rw [if_pos (wanted_none rfl)]
    go_simp
    (try simp only [g0, g3, g5])
    (try go_simp)
    go_at_call 53
    refine (section_any 11 (m.datas.length : Int) (hP.below hb) hq hp hP.lt (fun g e => (hP.own.lt g e).2)).mono ?_
    rintro e u ⟨rfl, ho⟩
    go_simp
    refine hK' _ _ ?_
    rw [fv_set]
    have hq := fin (upv f 86 (.tuple #[])) u (POut.trans (Tr.of_below hb) ho)
    rw [← ovk_eq (f0 := f0) (f := upv f 86 (.tuple #[])) (ds := [80, 81, 82, 83, 84, 85, 86]) (fun t ht => ?_)] at hq
    · exact hq
    · simp only [List.mem_cons, List.not_mem_nil, or_false, not_or] at ht
      rw [show upv f 86 (.tuple #[]) t = f t by simp [upv, ht]]
      exact hoth t (fun j hj e => by omega)
end Go.Proofs.YtanpjbbhhofkfaaGreatDoor

namespace Go.Proofs.YtanpjbbhhofkfaaGreatDoor
open Go.RowKit
set_option linter.unusedVariables false
set_option linter.unusedSimpArgs false

theorem xS_nat (id : Int) (n : Nat) (B : List UInt8) : xS id (n : Int) B = if decide (0 < n) = true then b1 id :: xLg B else [] := by
  unfold xS
  by_cases h : n = 0
  · subst h
    rfl
  · rw [if_neg (by omega), if_pos (decide_eq_true (by omega))]
    rfl
/-- The section of the start function. -/
def xSt : List Int → List UInt8
  | [] => []
  | n :: _ => xS 8 1 (uB n)
theorem xSt_eq {l : List Int} (h : l.length ≤ 1) : (if decide (0 < l.length) = true then b1 8 :: xLg (xStart l) else []) = xSt l := by
  match l, h with
  | [], _ => rfl
  | [n], _ =>
    have hx : xStart [n] = uB n := by simp [xStart]
    rw [hx]
    rfl
theorem xScs_eq (m : Md) (h : m.start.length ≤ 1) : xScs 0 (scs m) = xS 1 (m.types.length : Int) (xSec xTypes m.types) ++ (xS 2 (m.imports.length : Int) (xSec xImports m.imports) ++ (xS 3 (m.funcs.length : Int) (xSec xFuncs m.funcs) ++ (xS 4 (m.tables.length : Int) (xSec xTables m.tables) ++ (xS 5 (m.mems.length : Int) (xSec xLim m.mems) ++ (xS 6 (m.globals.length : Int) (xSec xGlobals m.globals) ++ (xS 7 (m.exports.length : Int) (xSec xExports m.exports) ++ (xSt m.start ++ (xS 9 (m.elems.length : Int) (xSec xElems m.elems) ++ (xS 10 (m.funcs.length : Int) (xSec xCodes m.funcs) ++ (xS 11 (m.datas.length : Int) (xSec xDatas m.datas))))))))))) := by
  simp only [xS_nat, ← xSt_eq h]
  unfold scs
  simp only [xScs]
  rw [List.append_nil]
  rfl
theorem Vw.boxes {V w : World} {p q : Nat} {v : Value} {vs : Array Value} (h : Vw V p v w) (hb : Box V q vs) : Box w q vs := fun j u hj => h.keeps _ _ (hb j u hj)
set_option maxRecDepth 100000 in
set_option maxHeartbeats 8000000 in
theorem psections_any (m : Md) (a0 : Option Addr) (k0 : Nat) (a1 : Option Addr) (k1 : Nat) (a2 : Option Addr) (k2 : Nat) (a3 : Option Addr) (k3 : Nat) (a4 : Option Addr) (k4 : Nat) (a5 : Option Addr) (k5 : Nat) (a6 : Option Addr) (k6 : Nat) (a7 : Option Addr) (k7 : Nat) (a8 : Option Addr) (k8 : Nat) (a9 : Option Addr) (k9 : Nat) {N p : Nat} {w0 w : World} {v : Value} {s : PS} (h : PAt N p w v s) (hv : Vw w0 p v w) (HM0 : MdAt w0 m a0 k0 a1 k1 a2 k2 a3 k3 a4 k4 a5 k5 a6 k6 a7 k7 a8 k8 a9 k9) (fit : Fit m) :
    Calls Tryz.prog 31 #[.pointer (some ⟨p, 0, none⟩), mdV m a0 k0 a1 k1 a2 k2 a3 k3 a4 k4 a5 k5 a6 k6 a7 k7 a8 k8 a9 k9] w fun e w' => e = .returned (.tuple #[]) ∧ POut N p w v s (xScs 0 (scs m)) w' := by
  have hmix : Tryz.prog.follows .mixedOrders = true := by kernel_rfl
  rw [xScs_eq m fit.one]
  unfold mdV
  obtain ⟨c, hc⟩ : ∃ c, w.heap.size = c := ⟨_, rfl⟩
  obtain ⟨wA, hwA⟩ : ∃ wA, wA = w.alloc (.cells #[.slice a0 m.types.length k0, .slice a1 m.imports.length k1, .slice a2 m.funcs.length k2, .slice a3 m.tables.length k3, .slice a4 m.mems.length k4, .slice a5 m.globals.length k5, .slice a6 m.exports.length k6, .slice a7 m.start.length k7, .slice a8 m.elems.length k8, .slice a9 m.datas.length k9] 32) := ⟨_, rfl⟩
  have hbel : Below w.heap.size w wA := by rw [hwA]; exact (Below.refl _ _).alloc (Nat.le_refl _) _
  have hbx : Box wA c #[.slice a0 m.types.length k0, .slice a1 m.imports.length k1, .slice a2 m.funcs.length k2, .slice a3 m.tables.length k3, .slice a4 m.mems.length k4, .slice a5 m.globals.length k5, .slice a6 m.exports.length k6, .slice a7 m.start.length k7, .slice a8 m.elems.length k8, .slice a9 m.datas.length k9] := by rw [hwA, ← hc]; exact box_new w _ _
  have hcp := Lib.hid (show c ≠ p by have := h.lt; omega)
  have hcv := Lib.hid (show v.ownBlock ≠ some c from fun e => by have := (h.own.lt c e).2; omega)
  have hcs := Lib.hid (show c < wA.heap.size by rw [hwA, ← hc]; simp)
  have L7 := HM0.start.1
  have T0 := Lib.hid (Tr.of_below (p := p) (v := v) hbel)
  have H0 := Lib.hid (h.below hbel)
  have V0 := Lib.hid (hv.tr T0.out)
  have Z0 := Lib.hid (Tr.refl p v wA)
  have Q0 := Lib.hid (Pen.refl h.cap)
  replace hbx := Lib.hid hbx
  replace HM0 := Lib.hid HM0
  replace fit := Lib.hid fit
  clear h hv hbel
  go_enter Tryz.func31, Tryz.ntmps31
  go_upto_region 1 with fail
  rw [← hwA]
  clear hwA hc
  have xB := Z0.out.box hcp.out hcv.out hbx.out
  refine wpk_then ?_
  intro K hK
  go_cut [] from 4 to 10 (fun wx => ∃ v' s', Hid (PAt N p wx v' s') ∧ Hid (Tr p v v' wA wx) ∧ Hid (Pen s (xS 1 (m.types.length : Int) (xSec xTypes m.types)) s'))
  case first =>
    refine wp_fv _ 87 rfl (regS1 hmix rfl rfl xB (HM0.out.keep V0.out.keeps) fit.out H0.out ?_)
    rintro f w' ⟨v', s', z1, z2, z3⟩
    replace z1 := Lib.hid z1
    replace z2 := Lib.hid z2
    replace z3 := Lib.hid z3
    go_wp2_with fail
    go_meet
    exact ⟨v', s', z1, z2, z3⟩
  case rest =>
  rename World => w1_
  obtain ⟨v1_, s1_, H1, z2, z3⟩ := hcut
  refine (hK _ _).2 ?_
  clear hK xB
  have T1 := Lib.hid (T0.out.trans z2.out)
  have Z1 := Lib.hid (Z0.out.trans z2.out)
  have V1 := Lib.hid (V0.out.tr z2.out)
  have Q1 := Lib.hid (Q0.out.trans z3.out)
  clear z2 z3
  go_upto_region 2 with fail
  have xB := Z1.out.box hcp.out hcv.out hbx.out
  refine wpk_then ?_
  intro K hK
  go_cut [] from 11 to 17 (fun wx => ∃ v' s', Hid (PAt N p wx v' s') ∧ Hid (Tr p v1_ v' w1_ wx) ∧ Hid (Pen s1_ (xS 2 (m.imports.length : Int) (xSec xImports m.imports)) s'))
  case first =>
    refine wp_fv _ 87 rfl (regS2 hmix rfl rfl xB (HM0.out.keep V1.out.keeps) fit.out H1.out ?_)
    rintro f w' ⟨v', s', z1, z2, z3⟩
    replace z1 := Lib.hid z1
    replace z2 := Lib.hid z2
    replace z3 := Lib.hid z3
    go_wp2_with fail
    go_meet
    exact ⟨v', s', z1, z2, z3⟩
  case rest =>
  rename World => w2_
  obtain ⟨v2_, s2_, H2, z2, z3⟩ := hcut
  refine (hK _ _).2 ?_
  clear hK xB
  have T2 := Lib.hid (T1.out.trans z2.out)
  have Z2 := Lib.hid (Z1.out.trans z2.out)
  have V2 := Lib.hid (V1.out.tr z2.out)
  have Q2 := Lib.hid (Q1.out.trans z3.out)
  clear z2 z3
  go_upto_region 3 with fail
  have xB := Z2.out.box hcp.out hcv.out hbx.out
  refine wpk_then ?_
  intro K hK
  go_cut [] from 18 to 24 (fun wx => ∃ v' s', Hid (PAt N p wx v' s') ∧ Hid (Tr p v2_ v' w2_ wx) ∧ Hid (Pen s2_ (xS 3 (m.funcs.length : Int) (xSec xFuncs m.funcs)) s'))
  case first =>
    refine wp_fv _ 87 rfl (regS3 hmix rfl rfl xB (HM0.out.keep V2.out.keeps) fit.out H2.out ?_)
    rintro f w' ⟨v', s', z1, z2, z3⟩
    replace z1 := Lib.hid z1
    replace z2 := Lib.hid z2
    replace z3 := Lib.hid z3
    go_wp2_with fail
    go_meet
    exact ⟨v', s', z1, z2, z3⟩
  case rest =>
  rename World => w3_
  obtain ⟨v3_, s3_, H3, z2, z3⟩ := hcut
  refine (hK _ _).2 ?_
  clear hK xB
  have T3 := Lib.hid (T2.out.trans z2.out)
  have Z3 := Lib.hid (Z2.out.trans z2.out)
  have V3 := Lib.hid (V2.out.tr z2.out)
  have Q3 := Lib.hid (Q2.out.trans z3.out)
  clear z2 z3
  go_upto_region 4 with fail
  have xB := Z3.out.box hcp.out hcv.out hbx.out
  refine wpk_then ?_
  intro K hK
  go_cut [] from 25 to 32 (fun wx => ∃ v' s', Hid (PAt N p wx v' s') ∧ Hid (Tr p v3_ v' w3_ wx) ∧ Hid (Pen s3_ (xS 4 (m.tables.length : Int) (xSec xTables m.tables)) s'))
  case first =>
    refine wp_fv _ 87 rfl (regS4 hmix rfl rfl xB (HM0.out.keep V3.out.keeps) fit.out H3.out ?_)
    rintro f w' ⟨v', s', z1, z2, z3⟩
    replace z1 := Lib.hid z1
    replace z2 := Lib.hid z2
    replace z3 := Lib.hid z3
    go_wp2_with fail
    go_meet
    exact ⟨v', s', z1, z2, z3⟩
  case rest =>
  rename World => w4_
  obtain ⟨v4_, s4_, H4, z2, z3⟩ := hcut
  refine (hK _ _).2 ?_
  clear hK xB
  have T4 := Lib.hid (T3.out.trans z2.out)
  have Z4 := Lib.hid (Z3.out.trans z2.out)
  have V4 := Lib.hid (V3.out.tr z2.out)
  have Q4 := Lib.hid (Q3.out.trans z3.out)
  clear z2 z3
  go_upto_region 5 with fail
  have xB := Z4.out.box hcp.out hcv.out hbx.out
  refine wpk_then ?_
  intro K hK
  go_cut [] from 33 to 40 (fun wx => ∃ v' s', Hid (PAt N p wx v' s') ∧ Hid (Tr p v4_ v' w4_ wx) ∧ Hid (Pen s4_ (xS 5 (m.mems.length : Int) (xSec xLim m.mems)) s'))
  case first =>
    refine wp_fv _ 87 rfl (regS5 hmix rfl rfl xB (HM0.out.keep V4.out.keeps) fit.out H4.out ?_)
    rintro f w' ⟨v', s', z1, z2, z3⟩
    replace z1 := Lib.hid z1
    replace z2 := Lib.hid z2
    replace z3 := Lib.hid z3
    go_wp2_with fail
    go_meet
    exact ⟨v', s', z1, z2, z3⟩
  case rest =>
  rename World => w5_
  obtain ⟨v5_, s5_, H5, z2, z3⟩ := hcut
  refine (hK _ _).2 ?_
  clear hK xB
  have T5 := Lib.hid (T4.out.trans z2.out)
  have Z5 := Lib.hid (Z4.out.trans z2.out)
  have V5 := Lib.hid (V4.out.tr z2.out)
  have Q5 := Lib.hid (Q4.out.trans z3.out)
  clear z2 z3
  go_upto_region 6 with fail
  have xB := Z5.out.box hcp.out hcv.out hbx.out
  refine wpk_then ?_
  intro K hK
  go_cut [] from 41 to 47 (fun wx => ∃ v' s', Hid (PAt N p wx v' s') ∧ Hid (Tr p v5_ v' w5_ wx) ∧ Hid (Pen s5_ (xS 6 (m.globals.length : Int) (xSec xGlobals m.globals)) s'))
  case first =>
    refine wp_fv _ 87 rfl (regS6 hmix rfl rfl xB (HM0.out.keep V5.out.keeps) fit.out H5.out ?_)
    rintro f w' ⟨v', s', z1, z2, z3⟩
    replace z1 := Lib.hid z1
    replace z2 := Lib.hid z2
    replace z3 := Lib.hid z3
    go_wp2_with fail
    go_meet
    exact ⟨v', s', z1, z2, z3⟩
  case rest =>
  rename World => w6_
  obtain ⟨v6_, s6_, H6, z2, z3⟩ := hcut
  refine (hK _ _).2 ?_
  clear hK xB
  have T6 := Lib.hid (T5.out.trans z2.out)
  have Z6 := Lib.hid (Z5.out.trans z2.out)
  have V6 := Lib.hid (V5.out.tr z2.out)
  have Q6 := Lib.hid (Q5.out.trans z3.out)
  clear z2 z3
  go_upto_region 7 with fail
  have xB := Z6.out.box hcp.out hcv.out hbx.out
  refine wpk_then ?_
  intro K hK
  go_cut [] from 48 to 54 (fun wx => ∃ v' s', Hid (PAt N p wx v' s') ∧ Hid (Tr p v6_ v' w6_ wx) ∧ Hid (Pen s6_ (xS 7 (m.exports.length : Int) (xSec xExports m.exports)) s'))
  case first =>
    refine wp_fv _ 87 rfl (regS7 hmix rfl rfl xB (HM0.out.keep V6.out.keeps) fit.out H6.out ?_)
    rintro f w' ⟨v', s', z1, z2, z3⟩
    replace z1 := Lib.hid z1
    replace z2 := Lib.hid z2
    replace z3 := Lib.hid z3
    go_wp2_with fail
    go_meet
    exact ⟨v', s', z1, z2, z3⟩
  case rest =>
  rename World => w7_
  obtain ⟨v7_, s7_, H7, z2, z3⟩ := hcut
  refine (hK _ _).2 ?_
  clear hK xB
  have T7 := Lib.hid (T6.out.trans z2.out)
  have Z7 := Lib.hid (Z6.out.trans z2.out)
  have V7 := Lib.hid (V6.out.tr z2.out)
  have Q7 := Lib.hid (Q6.out.trans z3.out)
  clear z2 z3
  obtain ⟨st, hst⟩ : ∃ st, m.start = st := ⟨_, rfl⟩
  have hone := fit.out.one
  rw [hst] at hone
  replace hst := Lib.hid hst
  match st, hone with
  | [], _ =>
    have X7 : w7_.cell? ⟨c, 7, none⟩ = some (.slice a7 m.start.length k7) := (Z7.out.box hcp.out hcv.out hbx.out) 7 _ rfl
    have hs0 : m.start.length = 0 := by rw [hst.out]; rfl
    have hL0 : decide ((0 : Int) < ((m.start.length : Nat) : Int)) = false := decide_eq_false (by omega)
    go_upto_region 10 with fail
    clear X7 hs0 hL0
    have xB := Z7.out.box hcp.out hcv.out hbx.out
    refine wpk_then ?_
    intro K hK
    go_cut [] from 66 to 72 (fun wx => ∃ v' s', Hid (PAt N p wx v' s') ∧ Hid (Tr p v7_ v' w7_ wx) ∧ Hid (Pen s7_ (xS 9 (m.elems.length : Int) (xSec xElems m.elems)) s'))
    case first =>
      refine wp_fv _ 87 rfl (regS10 hmix rfl rfl xB (HM0.out.keep V7.out.keeps) fit.out H7.out ?_)
      rintro f w' ⟨v', s', z1, z2, z3⟩
      replace z1 := Lib.hid z1
      replace z2 := Lib.hid z2
      replace z3 := Lib.hid z3
      go_wp2_with fail
      go_meet
      exact ⟨v', s', z1, z2, z3⟩
    case rest =>
    rename World => w8_
    obtain ⟨v8_, s8_, H8, z2, z3⟩ := hcut
    refine (hK _ _).2 ?_
    clear hK xB
    have T8 := Lib.hid (T7.out.trans z2.out)
    have Z8 := Lib.hid (Z7.out.trans z2.out)
    have V8 := Lib.hid (V7.out.tr z2.out)
    have Q8 := Lib.hid (Q7.out.trans z3.out)
    clear z2 z3
    go_upto_region 11 with fail
    have xB := Z8.out.box hcp.out hcv.out hbx.out
    refine wpk_then ?_
    intro K hK
    go_cut [] from 73 to 79 (fun wx => ∃ v' s', Hid (PAt N p wx v' s') ∧ Hid (Tr p v8_ v' w8_ wx) ∧ Hid (Pen s8_ (xS 10 (m.funcs.length : Int) (xSec xCodes m.funcs)) s'))
    case first =>
      refine wp_fv _ 87 rfl (regS11 hmix rfl rfl xB (HM0.out.keep V8.out.keeps) fit.out H8.out ?_)
      rintro f w' ⟨v', s', z1, z2, z3⟩
      replace z1 := Lib.hid z1
      replace z2 := Lib.hid z2
      replace z3 := Lib.hid z3
      go_wp2_with fail
      go_meet
      exact ⟨v', s', z1, z2, z3⟩
    case rest =>
    rename World => w9_
    obtain ⟨v9_, s9_, H9, z2, z3⟩ := hcut
    refine (hK _ _).2 ?_
    clear hK xB
    have T9 := Lib.hid (T8.out.trans z2.out)
    have Z9 := Lib.hid (Z8.out.trans z2.out)
    have V9 := Lib.hid (V8.out.tr z2.out)
    have Q9 := Lib.hid (Q8.out.trans z3.out)
    clear z2 z3
    go_upto_region 12 with fail
    have xB := Z9.out.box hcp.out hcv.out hbx.out
    refine wpk_then ?_
    intro K hK
    go_cut [] from 80 to 86 (fun wx => ∃ v' s', Hid (PAt N p wx v' s') ∧ Hid (Tr p v9_ v' w9_ wx) ∧ Hid (Pen s9_ (xS 11 (m.datas.length : Int) (xSec xDatas m.datas)) s'))
    case first =>
      refine wp_fv _ 87 rfl (regS12 hmix rfl rfl xB (HM0.out.keep V9.out.keeps) fit.out H9.out ?_)
      rintro f w' ⟨v', s', z1, z2, z3⟩
      replace z1 := Lib.hid z1
      replace z2 := Lib.hid z2
      replace z3 := Lib.hid z3
      go_wp2_with fail
      go_meet
      exact ⟨v', s', z1, z2, z3⟩
    case rest =>
    rename World => w10_
    obtain ⟨v10_, s10_, H10, z2, z3⟩ := hcut
    refine (hK _ _).2 ?_
    clear hK xB
    have T10 := Lib.hid (T9.out.trans z2.out)
    have Z10 := Lib.hid (Z9.out.trans z2.out)
    have V10 := Lib.hid (V9.out.tr z2.out)
    have Q10 := Lib.hid (Q9.out.trans z3.out)
    clear z2 z3
    go_wp2
    go_end0
    exact ⟨rfl, v10_, s10_, H10.out, T10.out, by have := Q10.out; rw [hst.out]; simpa only [List.append_assoc, List.nil_append, xSt] using this⟩
  | [n0], _ =>
    have X7 : w7_.cell? ⟨c, 7, none⟩ = some (.slice a7 m.start.length k7) := (Z7.out.box hcp.out hcv.out hbx.out) 7 _ rfl
    have hs0 : m.start.length = 1 := by rw [hst.out]; rfl
    have hL0 : decide ((0 : Int) < ((m.start.length : Nat) : Int)) = true := decide_eq_true (by omega)
    obtain ⟨b7, o7, e7, hc7⟩ := (HM0.out.start.keep V7.out.keeps).cell (i := 0) (x := n0) (by rw [hst.out]; rfl)
    rw [e7] at X7
    have hc7' : w7_.cell? ⟨b7, o7, none⟩ = some (.int .i64 n0) := hc7
    clear hc7
    rw [hs0] at X7
    go_wp2_with fail
    clear X7 hc7' hL0
    refine (pcounted_any n0 w7_).mono ?_
    rintro e w' ⟨q, u, sq, rfl, hq, hbq, hpq⟩
    go_wp2_with fail
    refine (section_any 8 1 (H7.out.below hbq) hq hpq H7.out.lt (fun g e => (H7.out.own.lt g e).2)).mono ?_
    rintro e w8_ ⟨rfl, v8_, s8_, z1, z2, z3⟩
    have H8 := Lib.hid z1
    have T8 := Lib.hid ((T7.out.trans (Tr.of_below hbq)).trans z2)
    have Z8 := Lib.hid ((Z7.out.trans (Tr.of_below hbq)).trans z2)
    have V8 := Lib.hid ((V7.out.tr (Tr.of_below hbq)).tr z2)
    have Q8 := Lib.hid (Q7.out.trans z3)
    clear z1 z2 z3 hq hbq hpq hs0 e7
    go_upto_region 10 with fail
    have xB := Z8.out.box hcp.out hcv.out hbx.out
    refine wpk_then ?_
    intro K hK
    go_cut [] from 66 to 72 (fun wx => ∃ v' s', Hid (PAt N p wx v' s') ∧ Hid (Tr p v8_ v' w8_ wx) ∧ Hid (Pen s8_ (xS 9 (m.elems.length : Int) (xSec xElems m.elems)) s'))
    case first =>
      refine wp_fv _ 87 rfl (regS10 hmix rfl rfl xB (HM0.out.keep V8.out.keeps) fit.out H8.out ?_)
      rintro f w' ⟨v', s', z1, z2, z3⟩
      replace z1 := Lib.hid z1
      replace z2 := Lib.hid z2
      replace z3 := Lib.hid z3
      go_wp2_with fail
      go_meet
      exact ⟨v', s', z1, z2, z3⟩
    case rest =>
    rename World => w9_
    obtain ⟨v9_, s9_, H9, z2, z3⟩ := hcut
    refine (hK _ _).2 ?_
    clear hK xB
    have T9 := Lib.hid (T8.out.trans z2.out)
    have Z9 := Lib.hid (Z8.out.trans z2.out)
    have V9 := Lib.hid (V8.out.tr z2.out)
    have Q9 := Lib.hid (Q8.out.trans z3.out)
    clear z2 z3
    go_upto_region 11 with fail
    have xB := Z9.out.box hcp.out hcv.out hbx.out
    refine wpk_then ?_
    intro K hK
    go_cut [] from 73 to 79 (fun wx => ∃ v' s', Hid (PAt N p wx v' s') ∧ Hid (Tr p v9_ v' w9_ wx) ∧ Hid (Pen s9_ (xS 10 (m.funcs.length : Int) (xSec xCodes m.funcs)) s'))
    case first =>
      refine wp_fv _ 87 rfl (regS11 hmix rfl rfl xB (HM0.out.keep V9.out.keeps) fit.out H9.out ?_)
      rintro f w' ⟨v', s', z1, z2, z3⟩
      replace z1 := Lib.hid z1
      replace z2 := Lib.hid z2
      replace z3 := Lib.hid z3
      go_wp2_with fail
      go_meet
      exact ⟨v', s', z1, z2, z3⟩
    case rest =>
    rename World => w10_
    obtain ⟨v10_, s10_, H10, z2, z3⟩ := hcut
    refine (hK _ _).2 ?_
    clear hK xB
    have T10 := Lib.hid (T9.out.trans z2.out)
    have Z10 := Lib.hid (Z9.out.trans z2.out)
    have V10 := Lib.hid (V9.out.tr z2.out)
    have Q10 := Lib.hid (Q9.out.trans z3.out)
    clear z2 z3
    go_upto_region 12 with fail
    have xB := Z10.out.box hcp.out hcv.out hbx.out
    refine wpk_then ?_
    intro K hK
    go_cut [] from 80 to 86 (fun wx => ∃ v' s', Hid (PAt N p wx v' s') ∧ Hid (Tr p v10_ v' w10_ wx) ∧ Hid (Pen s10_ (xS 11 (m.datas.length : Int) (xSec xDatas m.datas)) s'))
    case first =>
      refine wp_fv _ 87 rfl (regS12 hmix rfl rfl xB (HM0.out.keep V10.out.keeps) fit.out H10.out ?_)
      rintro f w' ⟨v', s', z1, z2, z3⟩
      replace z1 := Lib.hid z1
      replace z2 := Lib.hid z2
      replace z3 := Lib.hid z3
      go_wp2_with fail
      go_meet
      exact ⟨v', s', z1, z2, z3⟩
    case rest =>
    rename World => w11_
    obtain ⟨v11_, s11_, H11, z2, z3⟩ := hcut
    refine (hK _ _).2 ?_
    clear hK xB
    have T11 := Lib.hid (T10.out.trans z2.out)
    have Z11 := Lib.hid (Z10.out.trans z2.out)
    have V11 := Lib.hid (V10.out.tr z2.out)
    have Q11 := Lib.hid (Q10.out.trans z3.out)
    clear z2 z3
    go_wp2
    go_end0
    exact ⟨rfl, v11_, s11_, H11.out, T11.out, by have := Q11.out; rw [hst.out]; simpa only [List.append_assoc, List.nil_append, xSt] using this⟩
end Go.Proofs.YtanpjbbhhofkfaaGreatDoor

namespace Go.Proofs.YtanpjbbhhofkfaaGreatDoor
open Go.RowKit
set_option linter.unusedVariables false
set_option linter.unusedSimpArgs false

theorem renc_over {m : Md} {s : PS} (hc : checkV m = 0) (h : Pen ⟨[], false⟩ (xMd m) s) (ho : s.o = true) : encE m = 2 ∧ encB m = [] := by
  have hn : ¬ (xMd m).length ≤ 262144 := fun hl => by
    have := h.goes (by simp only [List.nil_append]; omega) rfl
    rw [ho] at this
    cases this
  unfold encE encB
  rw [if_pos hc, if_neg hn, if_pos hc, if_neg hn]
  exact ⟨rfl, rfl⟩
theorem renc_long {m : Md} {s : PS} (hc : checkV m = 0) (h : Pen ⟨[], false⟩ (xMd m) s) (ho : s.o = false) (hl : 262144 < s.l.length) : encE m = 2 ∧ encB m = [] := by
  have he := (h.fits ho).1
  rw [List.nil_append] at he
  have hn : ¬ (xMd m).length ≤ 262144 := by rw [← he]; omega
  unfold encE encB
  rw [if_pos hc, if_neg hn, if_pos hc, if_neg hn]
  exact ⟨rfl, rfl⟩
theorem renc_good {m : Md} {s : PS} (hc : checkV m = 0) (h : Pen ⟨[], false⟩ (xMd m) s) (ho : s.o = false) (hl : ¬ 262144 < s.l.length) : encE m = 0 ∧ encB m = s.l := by
  have he := (h.fits ho).1
  rw [List.nil_append] at he
  have hn : (xMd m).length ≤ 262144 := by rw [← he]; omega
  unfold encE encB
  rw [if_pos hc, if_pos hn, if_pos hc, if_pos hn]
  exact ⟨rfl, he.symm⟩
set_option maxRecDepth 100000 in
set_option maxHeartbeats 4000000 in
theorem renc_any (m : Md) (a0 : Option Addr) (k0 : Nat) (a1 : Option Addr) (k1 : Nat) (a2 : Option Addr) (k2 : Nat) (a3 : Option Addr) (k3 : Nat) (a4 : Option Addr) (k4 : Nat) (a5 : Option Addr) (k5 : Nat) (a6 : Option Addr) (k6 : Nat) (a7 : Option Addr) (k7 : Nat) (a8 : Option Addr) (k8 : Nat) (a9 : Option Addr) (k9 : Nat) (w : World) (h : MdAt w m a0 k0 a1 k1 a2 k2 a3 k3 a4 k4 a5 k5 a6 k6 a7 k7 a8 k8 a9 k9) (hds : ∀ t ∈ m.datas, t.2.size ≤ 300000) (hfit : checkV m = 0 → Fit m) :
    Calls Tryz.prog 9 #[mdV m a0 k0 a1 k1 a2 k2 a3 k3 a4 k4 a5 k5 a6 k6 a7 k7 a8 k8 a9 k9] w fun e w' => e = .returned (.tuple #[.string (mks (encB m)), .int .i64 (encE m)]) ∧ Below w.heap.size w w' := by
  unfold mdV
  obtain ⟨q, hq⟩ : ∃ q, w.heap.size = q := ⟨_, rfl⟩
  obtain ⟨wA, hwA⟩ : ∃ wA, wA = w.alloc (.cells #[.slice a0 m.types.length k0, .slice a1 m.imports.length k1, .slice a2 m.funcs.length k2, .slice a3 m.tables.length k3, .slice a4 m.mems.length k4, .slice a5 m.globals.length k5, .slice a6 m.exports.length k6, .slice a7 m.start.length k7, .slice a8 m.elems.length k8, .slice a9 m.datas.length k9] 32) := ⟨_, rfl⟩
  have hbel : Below w.heap.size w wA := by rw [hwA]; exact (Below.refl _ _).alloc (Nat.le_refl _) _
  have hbx : Box wA q #[.slice a0 m.types.length k0, .slice a1 m.imports.length k1, .slice a2 m.funcs.length k2, .slice a3 m.tables.length k3, .slice a4 m.mems.length k4, .slice a5 m.globals.length k5, .slice a6 m.exports.length k6, .slice a7 m.start.length k7, .slice a8 m.elems.length k8, .slice a9 m.datas.length k9] := by rw [hwA, ← hq]; exact box_new w _ _
  have HM := Lib.hid (h.keep (keep_below hbel))
  have b0 : wA.cell? ⟨q, 0, none⟩ = some (.slice a0 m.types.length k0) := hbx 0 _ rfl
  have b1 : wA.cell? ⟨q, 1, none⟩ = some (.slice a1 m.imports.length k1) := hbx 1 _ rfl
  have b2 : wA.cell? ⟨q, 2, none⟩ = some (.slice a2 m.funcs.length k2) := hbx 2 _ rfl
  have b3 : wA.cell? ⟨q, 3, none⟩ = some (.slice a3 m.tables.length k3) := hbx 3 _ rfl
  have b4 : wA.cell? ⟨q, 4, none⟩ = some (.slice a4 m.mems.length k4) := hbx 4 _ rfl
  have b5 : wA.cell? ⟨q, 5, none⟩ = some (.slice a5 m.globals.length k5) := hbx 5 _ rfl
  have b6 : wA.cell? ⟨q, 6, none⟩ = some (.slice a6 m.exports.length k6) := hbx 6 _ rfl
  have b7 : wA.cell? ⟨q, 7, none⟩ = some (.slice a7 m.start.length k7) := hbx 7 _ rfl
  have b8 : wA.cell? ⟨q, 8, none⟩ = some (.slice a8 m.elems.length k8) := hbx 8 _ rfl
  have b9 : wA.cell? ⟨q, 9, none⟩ = some (.slice a9 m.datas.length k9) := hbx 9 _ rfl
  replace hbel := Lib.hid hbel
  replace hbx := Lib.hid hbx
  replace hfit := Lib.hid hfit
  replace h := Lib.hid h
  replace hds := Lib.hid hds
  go_enter Tryz.func9, Tryz.ntmps9
  rw [hwA] at b0 b1 b2 b3 b4 b5 b6 b7 b8 b9
  go_wp2_with fail
  rw [← hwA]
  clear b0 b1 b2 b3 b4 b5 b6 b7 b8 b9 hwA hq
  refine (rcheck_any m a0 k0 a1 k1 a2 k2 a3 k3 a4 k4 a5 k5 a6 k6 a7 k7 a8 k8 a9 k9 wA HM.out hds.out).mono ?_
  rintro e w2 ⟨rfl, hb2⟩
  have hbx2 := Lib.hid (hbx.out.keep (keep_below hb2))
  have hB2 := Lib.hid (hbel.out.trans (hb2.mono hbel.out.size))
  clear hb2
  obtain ⟨cv, hcv⟩ : ∃ cv, checkV m = cv := ⟨_, rfl⟩
  rw [hcv]
  by_cases hc0 : cv = 0
  · subst hc0
    have fit := Lib.hid (hfit.out hcv)
    replace hcv := Lib.hid hcv
    obtain ⟨p, hp⟩ : ∃ p, w2.heap.size = p := ⟨_, rfl⟩
    obtain ⟨wP, hwP⟩ : ∃ wP, wP = w2.alloc (.cells #[.slice none 0 0, .bool false] 72) := ⟨_, rfl⟩
    have hP0 : PAt w.heap.size p wP (.slice none 0 0) ⟨[], false⟩ := by rw [hwP, ← hp]; exact (PAt.new w2).mono hB2.out.size
    have hBP : Below w.heap.size w wP := by rw [hwP]; exact hB2.out.alloc hB2.out.size _
    have hbxP := hbx2.out.keep (show ∀ a v, w2.cell? a = some v → wP.cell? a = some v from fun a v hc => by rw [hwP]; exact keep_below ((Below.refl w2.heap.size w2).alloc (Nat.le_refl _) _) a v hc)
    have hqp := Lib.hid (show q ≠ p by have := World.block_lt_of_cell? _ _ (hbx2.out 0 _ rfl); simp only at this; omega)
    replace hbxP := Lib.hid hbxP
    replace hP0 := Lib.hid hP0
    replace hBP := Lib.hid hBP
    go_wp2_with fail
    rw [← hwP]
    clear hwP hp
    refine (pput_any hP0.out _ (by decide)).mono ?_
    rintro e w3 ⟨rfl, v3, s3, h3, t3, q3⟩
    have q3' : Pen ⟨[], false⟩ headB s3 := q3
    replace q3 := Lib.hid q3'
    clear q3'
    have hB3 := Lib.hid (hBP.out.trans (t3.below hP0.out.hN (fun g e => by cases e) hBP.out.size))
    have hbx3 := Lib.hid (t3.box hqp.out (fun e => by cases e) hbxP.out)
    have hV3 := Lib.hid (Vw.oldp h3 hB3.out)
    replace h3 := Lib.hid h3
    clear t3
    have d0 : w3.cell? ⟨q, 0, none⟩ = some (.slice a0 m.types.length k0) := hbx3.out 0 _ rfl
    have d1 : w3.cell? ⟨q, 1, none⟩ = some (.slice a1 m.imports.length k1) := hbx3.out 1 _ rfl
    have d2 : w3.cell? ⟨q, 2, none⟩ = some (.slice a2 m.funcs.length k2) := hbx3.out 2 _ rfl
    have d3 : w3.cell? ⟨q, 3, none⟩ = some (.slice a3 m.tables.length k3) := hbx3.out 3 _ rfl
    have d4 : w3.cell? ⟨q, 4, none⟩ = some (.slice a4 m.mems.length k4) := hbx3.out 4 _ rfl
    have d5 : w3.cell? ⟨q, 5, none⟩ = some (.slice a5 m.globals.length k5) := hbx3.out 5 _ rfl
    have d6 : w3.cell? ⟨q, 6, none⟩ = some (.slice a6 m.exports.length k6) := hbx3.out 6 _ rfl
    have d7 : w3.cell? ⟨q, 7, none⟩ = some (.slice a7 m.start.length k7) := hbx3.out 7 _ rfl
    have d8 : w3.cell? ⟨q, 8, none⟩ = some (.slice a8 m.elems.length k8) := hbx3.out 8 _ rfl
    have d9 : w3.cell? ⟨q, 9, none⟩ = some (.slice a9 m.datas.length k9) := hbx3.out 9 _ rfl
    go_wp2_with fail
    clear d0 d1 d2 d3 d4 d5 d6 d7 d8 d9
    refine (psections_any m a0 k0 a1 k1 a2 k2 a3 k3 a4 k4 a5 k5 a6 k6 a7 k7 a8 k8 a9 k9 h3.out hV3.out h.out fit.out).mono ?_
    rintro e w4 ⟨rfl, v4, s4, h4, t4, q4⟩
    have hpen := Lib.hid (q3.out.trans q4 : Pen ⟨[], false⟩ (xMd m) s4)
    have hB4 := Lib.hid (hB3.out.trans (t4.below h3.out.hN (fun g e => h3.out.ownN g e) hB3.out.size))
    obtain ⟨a4', c4', hv4⟩ := own_slice h4.own
    subst hv4
    have x0 := h4.c0
    have x1 := h4.c1
    have hcap := h4.cap
    have hcv2 := conv_own h4.own
    clear q4 t4
    by_cases hov : s4.o = true
    · have hr := Lib.hid (renc_over hcv.out hpen.out hov)
      rw [hov] at x1
      go_wp2
      go_ret2
      exact ⟨by rw [hr.out.1, hr.out.2]; rfl, hB4.out⟩
    · have hov2 : s4.o = false := by simpa using hov
      rw [hov2] at x1
      clear hov
      by_cases hlong : 262144 < s4.l.length
      · have hr := Lib.hid (renc_long hcv.out hpen.out hov2 hlong)
        go_wp2
        go_ret2
        exact ⟨by rw [hr.out.1, hr.out.2]; rfl, hB4.out⟩
      · have hr := Lib.hid (renc_good hcv.out hpen.out hov2 hlong)
        go_wp2
        go_ret2
        exact ⟨by rw [hr.out.1, hr.out.2]; rfl, hB4.out⟩
  · have hE : encE m = cv := by unfold encE; rw [if_neg (by rw [hcv]; exact hc0), hcv]
    have hS : encB m = [] := by unfold encB; rw [if_neg (by rw [hcv]; exact hc0)]
    replace hE := Lib.hid hE
    replace hS := Lib.hid hS
    replace hcv := Lib.hid hcv
    have hne : (cv == 0) = false := by simp [hc0]
    go_wp2
    go_ret2
    exact ⟨by rw [hE.out, hS.out]; rfl, hB2.out⟩
end Go.Proofs.YtanpjbbhhofkfaaGreatDoor
