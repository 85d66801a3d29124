/- The drawn regions of the reference's Same. -/
import Derived.Test.YtanpjbbhhofkfaaDoorSc
import Derived.Test.YtanpjbbhhofkfaaDoorDv
import Derived.KernelRfl
namespace Go.Proofs.YtanpjbbhhofkfaaDoor
open Go.RowKit
set_option linter.unusedVariables false
set_option linter.unusedSimpArgs false

def ops6 : Array Oper := #[{ dst := some 25, op := Op.fieldAddr 32 (Operand.tmp 2) 0, type := 0, pos := "ref.go:312", after := #[], guard := none }, { dst := some 26, op := Op.load 22 (Operand.tmp 25), type := 22, pos := "ref.go:312", after := #[{ on := 0, ground := Ground.data }], guard := none }, { dst := some 27, op := Op.move (Operand.tmp 5), type := 3, pos := "ref.go:312", after := #[], guard := none }, { dst := some 28, op := Op.indexAddr 22 (Operand.tmp 26) (Operand.tmp 27), type := 0, pos := "ref.go:312", after := #[{ on := 1, ground := Ground.data }, { on := 2, ground := Ground.data }], guard := none }, { dst := some 29, op := Op.fieldAddr 51 (Operand.tmp 28) 0, type := 0, pos := "ref.go:312", after := #[{ on := 3, ground := Ground.data }], guard := none }, { dst := some 30, op := Op.load 28 (Operand.tmp 29), type := 28, pos := "ref.go:312", after := #[{ on := 4, ground := Ground.data }], guard := none }, { dst := some 31, op := Op.fieldAddr 32 (Operand.tmp 3) 0, type := 0, pos := "ref.go:312", after := #[], guard := none }, { dst := some 32, op := Op.load 22 (Operand.tmp 31), type := 22, pos := "ref.go:312", after := #[{ on := 6, ground := Ground.data }], guard := none }, { dst := some 33, op := Op.move (Operand.tmp 5), type := 3, pos := "ref.go:312", after := #[], guard := none }, { dst := some 34, op := Op.indexAddr 22 (Operand.tmp 32) (Operand.tmp 33), type := 0, pos := "ref.go:312", after := #[{ on := 7, ground := Ground.data }, { on := 8, ground := Ground.data }], guard := none }, { dst := some 35, op := Op.fieldAddr 51 (Operand.tmp 34) 0, type := 0, pos := "ref.go:312", after := #[{ on := 9, ground := Ground.data }], guard := none }, { dst := some 36, op := Op.load 28 (Operand.tmp 35), type := 28, pos := "ref.go:312", after := #[{ on := 10, ground := Ground.data }], guard := none }, { dst := some 37, op := Op.call { callee := Callee.value (Operand.func 33), args := #[Operand.tmp 30, Operand.tmp 36], argTypes := #[28, 28] }, type := 4, pos := "ref.go:312", after := #[{ on := 5, ground := Ground.data }, { on := 11, ground := Ground.data }], guard := none }, { dst := some 38, op := Op.unOp UnOp.not 4 (Operand.tmp 37), type := 4, pos := "ref.go:312", after := #[{ on := 12, ground := Ground.data }], guard := none }, { dst := some 39, op := Op.move (Operand.tmp 38), type := 4, pos := "ref.go:312", after := #[{ on := 13, ground := Ground.data }, { on := 12, ground := Ground.chain }], guard := none }, { dst := some 40, op := Op.fieldAddr 32 (Operand.tmp 2) 0, type := 0, pos := "ref.go:312", after := #[{ on := 14, ground := Ground.guard }], guard := some (14, false) }, { dst := some 41, op := Op.load 22 (Operand.tmp 40), type := 22, pos := "ref.go:312", after := #[{ on := 15, ground := Ground.data }, { on := 14, ground := Ground.guard }], guard := some (14, false) }, { dst := some 42, op := Op.move (Operand.tmp 5), type := 3, pos := "ref.go:312", after := #[{ on := 14, ground := Ground.guard }], guard := some (14, false) }, { dst := some 43, op := Op.indexAddr 22 (Operand.tmp 41) (Operand.tmp 42), type := 0, pos := "ref.go:312", after := #[{ on := 16, ground := Ground.data }, { on := 17, ground := Ground.data }, { on := 14, ground := Ground.guard }], guard := some (14, false) }, { dst := some 44, op := Op.fieldAddr 51 (Operand.tmp 43) 1, type := 0, pos := "ref.go:312", after := #[{ on := 18, ground := Ground.data }, { on := 14, ground := Ground.guard }], guard := some (14, false) }, { dst := some 45, op := Op.load 28 (Operand.tmp 44), type := 28, pos := "ref.go:312", after := #[{ on := 19, ground := Ground.data }, { on := 14, ground := Ground.guard }], guard := some (14, false) }, { dst := some 46, op := Op.fieldAddr 32 (Operand.tmp 3) 0, type := 0, pos := "ref.go:312", after := #[{ on := 14, ground := Ground.guard }], guard := some (14, false) }, { dst := some 47, op := Op.load 22 (Operand.tmp 46), type := 22, pos := "ref.go:312", after := #[{ on := 21, ground := Ground.data }, { on := 14, ground := Ground.guard }], guard := some (14, false) }, { dst := some 48, op := Op.move (Operand.tmp 5), type := 3, pos := "ref.go:312", after := #[{ on := 14, ground := Ground.guard }], guard := some (14, false) }, { dst := some 49, op := Op.indexAddr 22 (Operand.tmp 47) (Operand.tmp 48), type := 0, pos := "ref.go:312", after := #[{ on := 22, ground := Ground.data }, { on := 23, ground := Ground.data }, { on := 14, ground := Ground.guard }], guard := some (14, false) }, { dst := some 50, op := Op.fieldAddr 51 (Operand.tmp 49) 1, type := 0, pos := "ref.go:312", after := #[{ on := 24, ground := Ground.data }, { on := 14, ground := Ground.guard }], guard := some (14, false) }, { dst := some 51, op := Op.load 28 (Operand.tmp 50), type := 28, pos := "ref.go:312", after := #[{ on := 25, ground := Ground.data }, { on := 14, ground := Ground.guard }], guard := some (14, false) }, { dst := some 52, op := Op.call { callee := Callee.value (Operand.func 33), args := #[Operand.tmp 45, Operand.tmp 51], argTypes := #[28, 28] }, type := 4, pos := "ref.go:312", after := #[{ on := 20, ground := Ground.data }, { on := 26, ground := Ground.data }, { on := 14, ground := Ground.chain }, { on := 14, ground := Ground.guard }], guard := some (14, false) }, { dst := some 53, op := Op.unOp UnOp.not 4 (Operand.tmp 52), type := 4, pos := "ref.go:312", after := #[{ on := 27, ground := Ground.data }, { on := 14, ground := Ground.guard }], guard := some (14, false) }, { dst := some 54, op := Op.pick (Operand.tmp 39) (Operand.const (Value.bool true)) (Operand.tmp 53), type := 4, pos := "ref.go:312", after := #[{ on := 14, ground := Ground.data }, { on := 28, ground := Ground.data }], guard := none }]
set_option maxRecDepth 100000 in
set_option maxHeartbeats 4000000 in
theorem reg6 {Q : Exit → Act → World → Prop} {f0 : Nat → Value} {V : World} {H H2 : Nat} {b o N k0 : Nat} {b' o' N' k0' : Nat} {i : Nat} {ps ps' : List Int} {a_ps a_ps' : Option Addr} {k_ps k_ps' : Nat} {rs rs' : List Int} {a_rs a_rs' : Option Addr} {k_rs k_rs' : Nat} {c1 c2 : Bool}
    (hmix : Tryd.prog.follows .mixedOrders = true) (f2 : f0 2 = .pointer (some ⟨H, 0, none⟩)) (f3 : f0 3 = .pointer (some ⟨H2, 0, none⟩)) (fi : f0 5 = .int .i64 (i : Int))
    (x : V.cell? ⟨H, 0, none⟩ = some (.slice (some ⟨b, o, none⟩) N k0)) (x' : V.cell? ⟨H2, 0, none⟩ = some (.slice (some ⟨b', o', none⟩) N' k0')) (hiN : i < N) (hiN' : i < N') (hN : N ≤ 9223372036854775807) (hN' : N' ≤ 9223372036854775807)
     (c_0 : V.cell? ⟨b, o + i * 2, none⟩ = some (.slice a_ps ps.length k_ps)) (c2_0 : V.cell? ⟨b', o' + i * 2, none⟩ = some (.slice a_ps' ps'.length k_ps')) (c_1 : V.cell? ⟨b, o + i * 2 + 1, none⟩ = some (.slice a_rs rs.length k_rs)) (c2_1 : V.cell? ⟨b', o' + i * 2 + 1, none⟩ = some (.slice a_rs' rs'.length k_rs')) (i_ps : IntsIn V a_ps ps) (i_ps2 : IntsIn V a_ps' ps') (i_rs : IntsIn V a_rs rs) (i_rs2 : IntsIn V a_rs' rs') (d_ps : decide (ps = ps') = c1) (d_rs : decide (rs = rs') = c2)
    (fin : ∀ w' f, Below V.heap.size V w' → f 54 = cond c1 (.bool (!c2)) (.bool true) → Q .normal (Fv 303 (ovv f0 f 25 30)) w') :
    (Code.region 6 ops6 true).wp Tryd.prog Q (Fv 303 f0) V := by
  refine region_vals hmix 303 25 30 rfl (by kernel_rfl) (fun t => match t with | 25 => .pointer (some ⟨H, 0, none⟩) | 26 => .slice (some ⟨b, o, none⟩) N k0 | 27 => .int .i64 (i : Int) | 28 => .pointer (some ⟨b, o + i * 2, none⟩) | 29 => .pointer (some ⟨b, o + i * 2, none⟩) | 30 => .slice a_ps ps.length k_ps | 31 => .pointer (some ⟨H2, 0, none⟩) | 32 => .slice (some ⟨b', o', none⟩) N' k0' | 33 => .int .i64 (i : Int) | 34 => .pointer (some ⟨b', o' + i * 2, none⟩) | 35 => .pointer (some ⟨b', o' + i * 2, none⟩) | 36 => .slice a_ps' ps'.length k_ps' | 37 => .bool c1 | 38 => .bool (!c1) | 39 => .bool (!c1) | 40 => cond c1 (.pointer (some ⟨H, 0, none⟩)) (undef) | 41 => cond c1 (.slice (some ⟨b, o, none⟩) N k0) (undef) | 42 => cond c1 (.int .i64 (i : Int)) (undef) | 43 => cond c1 (.pointer (some ⟨b, o + i * 2, none⟩)) (undef) | 44 => cond c1 (.pointer (some ⟨b, o + i * 2 + 1, none⟩)) (undef) | 45 => cond c1 (.slice a_rs rs.length k_rs) (undef) | 46 => cond c1 (.pointer (some ⟨H2, 0, none⟩)) (undef) | 47 => cond c1 (.slice (some ⟨b', o', none⟩) N' k0') (undef) | 48 => cond c1 (.int .i64 (i : Int)) (undef) | 49 => cond c1 (.pointer (some ⟨b', o' + i * 2, none⟩)) (undef) | 50 => cond c1 (.pointer (some ⟨b', o' + i * 2 + 1, none⟩)) (undef) | 51 => cond c1 (.slice a_rs' rs'.length k_rs') (undef) | 52 => cond c1 (.bool c2) (undef) | 53 => cond c1 (.bool (!c2)) (undef) | 54 => cond c1 (.bool (!c2)) (.bool true) | _ => undef) ?_ (fun w' hb => fin w' _ hb rfl)
  intro i' hi' f w' hb ho hv
  have l1 : (i : Int) < (N : Int) := by omega
  have l2 : (i : Int) < (N' : Int) := by omega
  match i', hi' with
  | 0, _ =>
    have e2 : f 2 = .pointer (some ⟨H, 0, none⟩) := (ho 2 (by decide)).trans f2
    have g2 := fv_get (n := 303) (by decide) e2
    refine wpOp_step (o := { dst := some 25, op := Op.fieldAddr 32 (Operand.tmp 2) 0, type := 0, pos := "ref.go:312", after := #[], guard := none }) rfl ?_
    intro K' hK'
    rw [if_pos (wanted_none rfl)]
    go_simp
    (try simp only [g2])
    (try go_simp)
    exact hK' _ _ ⟨fv_set _ _, Below.refl _ _⟩
  | 1, _ =>
    have e25 : f 25 = .pointer (some ⟨H, 0, none⟩) := hv 0 (by kernel_rfl)
    have g25 := fv_get (n := 303) (by decide) e25
    have c26_0 := keep_below hb _ _ x
    refine wpOp_step (o := { dst := some 26, op := Op.load 22 (Operand.tmp 25), type := 22, pos := "ref.go:312", after := #[{ on := 0, ground := Ground.data }], guard := none }) rfl ?_
    intro K' hK'
    rw [if_pos (wanted_none rfl)]
    go_simp
    (try simp only [g25])
    (try go_simp)
    exact hK' _ _ ⟨fv_set _ _, Below.refl _ _⟩
  | 2, _ =>
    have e5 : f 5 = .int .i64 (i : Int) := (ho 5 (by decide)).trans fi
    have g5 := fv_get (n := 303) (by decide) e5
    refine wpOp_step (o := { dst := some 27, op := Op.move (Operand.tmp 5), type := 3, pos := "ref.go:312", after := #[], guard := none }) rfl ?_
    intro K' hK'
    rw [if_pos (wanted_none rfl)]
    go_simp
    (try simp only [g5])
    (try go_simp)
    exact hK' _ _ ⟨fv_set _ _, Below.refl _ _⟩
  | 3, _ =>
    have e26 : f 26 = .slice (some ⟨b, o, none⟩) N k0 := hv 1 (by kernel_rfl)
    have g26 := fv_get (n := 303) (by decide) e26
    have e27 : f 27 = .int .i64 (i : Int) := hv 2 (by kernel_rfl)
    have g27 := fv_get (n := 303) (by decide) e27
    refine wpOp_step (o := { dst := some 28, op := Op.indexAddr 22 (Operand.tmp 26) (Operand.tmp 27), type := 0, pos := "ref.go:312", after := #[{ on := 1, ground := Ground.data }, { on := 2, ground := Ground.data }], guard := none }) rfl ?_
    intro K' hK'
    rw [if_pos (wanted_none rfl)]
    go_simp
    (try simp only [g26, g27])
    (try go_simp)
    exact hK' _ _ ⟨fv_set _ _, Below.refl _ _⟩
  | 4, _ =>
    have e28 : f 28 = .pointer (some ⟨b, o + i * 2, none⟩) := hv 3 (by kernel_rfl)
    have g28 := fv_get (n := 303) (by decide) e28
    refine wpOp_step (o := { dst := some 29, op := Op.fieldAddr 51 (Operand.tmp 28) 0, type := 0, pos := "ref.go:312", after := #[{ on := 3, ground := Ground.data }], guard := none }) rfl ?_
    intro K' hK'
    rw [if_pos (wanted_none rfl)]
    go_simp
    (try simp only [g28])
    (try go_simp)
    exact hK' _ _ ⟨fv_set _ _, Below.refl _ _⟩
  | 5, _ =>
    have e29 : f 29 = .pointer (some ⟨b, o + i * 2, none⟩) := hv 4 (by kernel_rfl)
    have g29 := fv_get (n := 303) (by decide) e29
    have c30_0 := keep_below hb _ _ c_0
    refine wpOp_step (o := { dst := some 30, op := Op.load 28 (Operand.tmp 29), type := 28, pos := "ref.go:312", after := #[{ on := 4, ground := Ground.data }], guard := none }) rfl ?_
    intro K' hK'
    rw [if_pos (wanted_none rfl)]
    go_simp
    (try simp only [g29])
    (try go_simp)
    exact hK' _ _ ⟨fv_set _ _, Below.refl _ _⟩
  | 6, _ =>
    have e3 : f 3 = .pointer (some ⟨H2, 0, none⟩) := (ho 3 (by decide)).trans f3
    have g3 := fv_get (n := 303) (by decide) e3
    refine wpOp_step (o := { dst := some 31, op := Op.fieldAddr 32 (Operand.tmp 3) 0, type := 0, pos := "ref.go:312", after := #[], guard := none }) rfl ?_
    intro K' hK'
    rw [if_pos (wanted_none rfl)]
    go_simp
    (try simp only [g3])
    (try go_simp)
    exact hK' _ _ ⟨fv_set _ _, Below.refl _ _⟩
  | 7, _ =>
    have e31 : f 31 = .pointer (some ⟨H2, 0, none⟩) := hv 6 (by kernel_rfl)
    have g31 := fv_get (n := 303) (by decide) e31
    have c32_0 := keep_below hb _ _ x'
    refine wpOp_step (o := { dst := some 32, op := Op.load 22 (Operand.tmp 31), type := 22, pos := "ref.go:312", after := #[{ on := 6, ground := Ground.data }], guard := none }) rfl ?_
    intro K' hK'
    rw [if_pos (wanted_none rfl)]
    go_simp
    (try simp only [g31])
    (try go_simp)
    exact hK' _ _ ⟨fv_set _ _, Below.refl _ _⟩
  | 8, _ =>
    have e5 : f 5 = .int .i64 (i : Int) := (ho 5 (by decide)).trans fi
    have g5 := fv_get (n := 303) (by decide) e5
    refine wpOp_step (o := { dst := some 33, op := Op.move (Operand.tmp 5), type := 3, pos := "ref.go:312", after := #[], guard := none }) rfl ?_
    intro K' hK'
    rw [if_pos (wanted_none rfl)]
    go_simp
    (try simp only [g5])
    (try go_simp)
    exact hK' _ _ ⟨fv_set _ _, Below.refl _ _⟩
  | 9, _ =>
    have e32 : f 32 = .slice (some ⟨b', o', none⟩) N' k0' := hv 7 (by kernel_rfl)
    have g32 := fv_get (n := 303) (by decide) e32
    have e33 : f 33 = .int .i64 (i : Int) := hv 8 (by kernel_rfl)
    have g33 := fv_get (n := 303) (by decide) e33
    refine wpOp_step (o := { dst := some 34, op := Op.indexAddr 22 (Operand.tmp 32) (Operand.tmp 33), type := 0, pos := "ref.go:312", after := #[{ on := 7, ground := Ground.data }, { on := 8, ground := Ground.data }], guard := none }) rfl ?_
    intro K' hK'
    rw [if_pos (wanted_none rfl)]
    go_simp
    (try simp only [g32, g33])
    (try go_simp)
    exact hK' _ _ ⟨fv_set _ _, Below.refl _ _⟩
  | 10, _ =>
    have e34 : f 34 = .pointer (some ⟨b', o' + i * 2, none⟩) := hv 9 (by kernel_rfl)
    have g34 := fv_get (n := 303) (by decide) e34
    refine wpOp_step (o := { dst := some 35, op := Op.fieldAddr 51 (Operand.tmp 34) 0, type := 0, pos := "ref.go:312", after := #[{ on := 9, ground := Ground.data }], guard := none }) rfl ?_
    intro K' hK'
    rw [if_pos (wanted_none rfl)]
    go_simp
    (try simp only [g34])
    (try go_simp)
    exact hK' _ _ ⟨fv_set _ _, Below.refl _ _⟩
  | 11, _ =>
    have e35 : f 35 = .pointer (some ⟨b', o' + i * 2, none⟩) := hv 10 (by kernel_rfl)
    have g35 := fv_get (n := 303) (by decide) e35
    have c36_0 := keep_below hb _ _ c2_0
    refine wpOp_step (o := { dst := some 36, op := Op.load 28 (Operand.tmp 35), type := 28, pos := "ref.go:312", after := #[{ on := 10, ground := Ground.data }], guard := none }) rfl ?_
    intro K' hK'
    rw [if_pos (wanted_none rfl)]
    go_simp
    (try simp only [g35])
    (try go_simp)
    exact hK' _ _ ⟨fv_set _ _, Below.refl _ _⟩
  | 12, _ =>
    have e30 : f 30 = .slice a_ps ps.length k_ps := hv 5 (by kernel_rfl)
    have g30 := fv_get (n := 303) (by decide) e30
    have e36 : f 36 = .slice a_ps' ps'.length k_ps' := hv 11 (by kernel_rfl)
    have g36 := fv_get (n := 303) (by decide) e36
    refine wpOp_step (o := { dst := some 37, op := Op.call { callee := Callee.value (Operand.func 33), args := #[Operand.tmp 30, Operand.tmp 36], argTypes := #[28, 28] }, type := 4, pos := "ref.go:312", after := #[{ on := 5, ground := Ground.data }, { on := 11, ground := Ground.data }], guard := none }) rfl ?_
    intro K' hK'
    rw [if_pos (wanted_none rfl)]
    go_simp
    (try simp only [g30, g36])
    (try go_simp)
    go_at_call 33
    refine (keepSame_any ps ps' _ _ _ _ _ (i_ps.below hb) (i_ps2.below hb)).mono ?_
    rintro e u ⟨rfl, mm, rfl⟩
    rw [d_ps]
    go_simp
    exact hK' _ _ ⟨fv_set _ _, below_drewN (Below.refl _ _) mm⟩
  | 13, _ =>
    have e37 : f 37 = .bool c1 := hv 12 (by kernel_rfl)
    have g37 := fv_get (n := 303) (by decide) e37
    refine wpOp_step (o := { dst := some 38, op := Op.unOp UnOp.not 4 (Operand.tmp 37), type := 4, pos := "ref.go:312", after := #[{ on := 12, ground := Ground.data }], guard := none }) rfl ?_
    intro K' hK'
    rw [if_pos (wanted_none rfl)]
    go_simp
    (try simp only [g37])
    (try go_simp)
    exact hK' _ _ ⟨fv_set _ _, Below.refl _ _⟩
  | 14, _ =>
    have e38 : f 38 = .bool (!c1) := hv 13 (by kernel_rfl)
    have g38 := fv_get (n := 303) (by decide) e38
    refine wpOp_step (o := { dst := some 39, op := Op.move (Operand.tmp 38), type := 4, pos := "ref.go:312", after := #[{ on := 13, ground := Ground.data }, { on := 12, ground := Ground.chain }], guard := none }) rfl ?_
    intro K' hK'
    rw [if_pos (wanted_none rfl)]
    go_simp
    (try simp only [g38])
    (try go_simp)
    exact hK' _ _ ⟨fv_set _ _, Below.refl _ _⟩
  | 15, _ =>
    cases c1
    · exact step_off (o := { dst := some 40, op := Op.fieldAddr 32 (Operand.tmp 2) 0, type := 0, pos := "ref.go:312", after := #[{ on := 14, ground := Ground.guard }], guard := some (14, false) }) (g := 14) (d := 39) (c := true) rfl rfl rfl rfl (by decide) (hv 14 (by kernel_rfl)) rfl rfl
    · have e2 : f 2 = .pointer (some ⟨H, 0, none⟩) := (ho 2 (by decide)).trans f2
      have g2 := fv_get (n := 303) (by decide) e2
      have eg : f 39 = .bool false := hv 14 (by kernel_rfl)
      refine wpOp_step (o := { dst := some 40, op := Op.fieldAddr 32 (Operand.tmp 2) 0, type := 0, pos := "ref.go:312", after := #[{ on := 14, ground := Ground.guard }], guard := some (14, false) }) rfl ?_
      intro K' hK'
      rw [if_pos (by rw [wanted_some (g := 14) (d := 39) (b := false) (c := false) rfl rfl (by decide) eg]; rfl)]
      go_simp
      (try simp only [g2])
      (try go_simp)
      exact hK' _ _ ⟨fv_set _ _, Below.refl _ _⟩
  | 16, _ =>
    cases c1
    · exact step_off (o := { dst := some 41, op := Op.load 22 (Operand.tmp 40), type := 22, pos := "ref.go:312", after := #[{ on := 15, ground := Ground.data }, { on := 14, ground := Ground.guard }], guard := some (14, false) }) (g := 14) (d := 39) (c := true) rfl rfl rfl rfl (by decide) (hv 14 (by kernel_rfl)) rfl rfl
    · have e40 : f 40 = .pointer (some ⟨H, 0, none⟩) := hv 15 (by kernel_rfl)
      have g40 := fv_get (n := 303) (by decide) e40
      have eg : f 39 = .bool false := hv 14 (by kernel_rfl)
      have c41_0 := keep_below hb _ _ x
      refine wpOp_step (o := { dst := some 41, op := Op.load 22 (Operand.tmp 40), type := 22, pos := "ref.go:312", after := #[{ on := 15, ground := Ground.data }, { on := 14, ground := Ground.guard }], guard := some (14, false) }) rfl ?_
      intro K' hK'
      rw [if_pos (by rw [wanted_some (g := 14) (d := 39) (b := false) (c := false) rfl rfl (by decide) eg]; rfl)]
      go_simp
      (try simp only [g40])
      (try go_simp)
      exact hK' _ _ ⟨fv_set _ _, Below.refl _ _⟩
  | 17, _ =>
    cases c1
    · exact step_off (o := { dst := some 42, op := Op.move (Operand.tmp 5), type := 3, pos := "ref.go:312", after := #[{ on := 14, ground := Ground.guard }], guard := some (14, false) }) (g := 14) (d := 39) (c := true) rfl rfl rfl rfl (by decide) (hv 14 (by kernel_rfl)) rfl rfl
    · have e5 : f 5 = .int .i64 (i : Int) := (ho 5 (by decide)).trans fi
      have g5 := fv_get (n := 303) (by decide) e5
      have eg : f 39 = .bool false := hv 14 (by kernel_rfl)
      refine wpOp_step (o := { dst := some 42, op := Op.move (Operand.tmp 5), type := 3, pos := "ref.go:312", after := #[{ on := 14, ground := Ground.guard }], guard := some (14, false) }) rfl ?_
      intro K' hK'
      rw [if_pos (by rw [wanted_some (g := 14) (d := 39) (b := false) (c := false) rfl rfl (by decide) eg]; rfl)]
      go_simp
      (try simp only [g5])
      (try go_simp)
      exact hK' _ _ ⟨fv_set _ _, Below.refl _ _⟩
  | 18, _ =>
    cases c1
    · exact step_off (o := { dst := some 43, op := Op.indexAddr 22 (Operand.tmp 41) (Operand.tmp 42), type := 0, pos := "ref.go:312", after := #[{ on := 16, ground := Ground.data }, { on := 17, ground := Ground.data }, { on := 14, ground := Ground.guard }], guard := some (14, false) }) (g := 14) (d := 39) (c := true) rfl rfl rfl rfl (by decide) (hv 14 (by kernel_rfl)) rfl rfl
    · have e41 : f 41 = .slice (some ⟨b, o, none⟩) N k0 := hv 16 (by kernel_rfl)
      have g41 := fv_get (n := 303) (by decide) e41
      have e42 : f 42 = .int .i64 (i : Int) := hv 17 (by kernel_rfl)
      have g42 := fv_get (n := 303) (by decide) e42
      have eg : f 39 = .bool false := hv 14 (by kernel_rfl)
      refine wpOp_step (o := { dst := some 43, op := Op.indexAddr 22 (Operand.tmp 41) (Operand.tmp 42), type := 0, pos := "ref.go:312", after := #[{ on := 16, ground := Ground.data }, { on := 17, ground := Ground.data }, { on := 14, ground := Ground.guard }], guard := some (14, false) }) rfl ?_
      intro K' hK'
      rw [if_pos (by rw [wanted_some (g := 14) (d := 39) (b := false) (c := false) rfl rfl (by decide) eg]; rfl)]
      go_simp
      (try simp only [g41, g42])
      (try go_simp)
      exact hK' _ _ ⟨fv_set _ _, Below.refl _ _⟩
  | 19, _ =>
    cases c1
    · exact step_off (o := { dst := some 44, op := Op.fieldAddr 51 (Operand.tmp 43) 1, type := 0, pos := "ref.go:312", after := #[{ on := 18, ground := Ground.data }, { on := 14, ground := Ground.guard }], guard := some (14, false) }) (g := 14) (d := 39) (c := true) rfl rfl rfl rfl (by decide) (hv 14 (by kernel_rfl)) rfl rfl
    · have e43 : f 43 = .pointer (some ⟨b, o + i * 2, none⟩) := hv 18 (by kernel_rfl)
      have g43 := fv_get (n := 303) (by decide) e43
      have eg : f 39 = .bool false := hv 14 (by kernel_rfl)
      refine wpOp_step (o := { dst := some 44, op := Op.fieldAddr 51 (Operand.tmp 43) 1, type := 0, pos := "ref.go:312", after := #[{ on := 18, ground := Ground.data }, { on := 14, ground := Ground.guard }], guard := some (14, false) }) rfl ?_
      intro K' hK'
      rw [if_pos (by rw [wanted_some (g := 14) (d := 39) (b := false) (c := false) rfl rfl (by decide) eg]; rfl)]
      go_simp
      (try simp only [g43])
      (try go_simp)
      exact hK' _ _ ⟨fv_set _ _, Below.refl _ _⟩
  | 20, _ =>
    cases c1
    · exact step_off (o := { dst := some 45, op := Op.load 28 (Operand.tmp 44), type := 28, pos := "ref.go:312", after := #[{ on := 19, ground := Ground.data }, { on := 14, ground := Ground.guard }], guard := some (14, false) }) (g := 14) (d := 39) (c := true) rfl rfl rfl rfl (by decide) (hv 14 (by kernel_rfl)) rfl rfl
    · have e44 : f 44 = .pointer (some ⟨b, o + i * 2 + 1, none⟩) := hv 19 (by kernel_rfl)
      have g44 := fv_get (n := 303) (by decide) e44
      have eg : f 39 = .bool false := hv 14 (by kernel_rfl)
      have c45_0 := keep_below hb _ _ c_1
      refine wpOp_step (o := { dst := some 45, op := Op.load 28 (Operand.tmp 44), type := 28, pos := "ref.go:312", after := #[{ on := 19, ground := Ground.data }, { on := 14, ground := Ground.guard }], guard := some (14, false) }) rfl ?_
      intro K' hK'
      rw [if_pos (by rw [wanted_some (g := 14) (d := 39) (b := false) (c := false) rfl rfl (by decide) eg]; rfl)]
      go_simp
      (try simp only [g44])
      (try go_simp)
      exact hK' _ _ ⟨fv_set _ _, Below.refl _ _⟩
  | 21, _ =>
    cases c1
    · exact step_off (o := { dst := some 46, op := Op.fieldAddr 32 (Operand.tmp 3) 0, type := 0, pos := "ref.go:312", after := #[{ on := 14, ground := Ground.guard }], guard := some (14, false) }) (g := 14) (d := 39) (c := true) rfl rfl rfl rfl (by decide) (hv 14 (by kernel_rfl)) rfl rfl
    · have e3 : f 3 = .pointer (some ⟨H2, 0, none⟩) := (ho 3 (by decide)).trans f3
      have g3 := fv_get (n := 303) (by decide) e3
      have eg : f 39 = .bool false := hv 14 (by kernel_rfl)
      refine wpOp_step (o := { dst := some 46, op := Op.fieldAddr 32 (Operand.tmp 3) 0, type := 0, pos := "ref.go:312", after := #[{ on := 14, ground := Ground.guard }], guard := some (14, false) }) rfl ?_
      intro K' hK'
      rw [if_pos (by rw [wanted_some (g := 14) (d := 39) (b := false) (c := false) rfl rfl (by decide) eg]; rfl)]
      go_simp
      (try simp only [g3])
      (try go_simp)
      exact hK' _ _ ⟨fv_set _ _, Below.refl _ _⟩
  | 22, _ =>
    cases c1
    · exact step_off (o := { dst := some 47, op := Op.load 22 (Operand.tmp 46), type := 22, pos := "ref.go:312", after := #[{ on := 21, ground := Ground.data }, { on := 14, ground := Ground.guard }], guard := some (14, false) }) (g := 14) (d := 39) (c := true) rfl rfl rfl rfl (by decide) (hv 14 (by kernel_rfl)) rfl rfl
    · have e46 : f 46 = .pointer (some ⟨H2, 0, none⟩) := hv 21 (by kernel_rfl)
      have g46 := fv_get (n := 303) (by decide) e46
      have eg : f 39 = .bool false := hv 14 (by kernel_rfl)
      have c47_0 := keep_below hb _ _ x'
      refine wpOp_step (o := { dst := some 47, op := Op.load 22 (Operand.tmp 46), type := 22, pos := "ref.go:312", after := #[{ on := 21, ground := Ground.data }, { on := 14, ground := Ground.guard }], guard := some (14, false) }) rfl ?_
      intro K' hK'
      rw [if_pos (by rw [wanted_some (g := 14) (d := 39) (b := false) (c := false) rfl rfl (by decide) eg]; rfl)]
      go_simp
      (try simp only [g46])
      (try go_simp)
      exact hK' _ _ ⟨fv_set _ _, Below.refl _ _⟩
  | 23, _ =>
    cases c1
    · exact step_off (o := { dst := some 48, op := Op.move (Operand.tmp 5), type := 3, pos := "ref.go:312", after := #[{ on := 14, ground := Ground.guard }], guard := some (14, false) }) (g := 14) (d := 39) (c := true) rfl rfl rfl rfl (by decide) (hv 14 (by kernel_rfl)) rfl rfl
    · have e5 : f 5 = .int .i64 (i : Int) := (ho 5 (by decide)).trans fi
      have g5 := fv_get (n := 303) (by decide) e5
      have eg : f 39 = .bool false := hv 14 (by kernel_rfl)
      refine wpOp_step (o := { dst := some 48, op := Op.move (Operand.tmp 5), type := 3, pos := "ref.go:312", after := #[{ on := 14, ground := Ground.guard }], guard := some (14, false) }) rfl ?_
      intro K' hK'
      rw [if_pos (by rw [wanted_some (g := 14) (d := 39) (b := false) (c := false) rfl rfl (by decide) eg]; rfl)]
      go_simp
      (try simp only [g5])
      (try go_simp)
      exact hK' _ _ ⟨fv_set _ _, Below.refl _ _⟩
  | 24, _ =>
    cases c1
    · exact step_off (o := { dst := some 49, op := Op.indexAddr 22 (Operand.tmp 47) (Operand.tmp 48), type := 0, pos := "ref.go:312", after := #[{ on := 22, ground := Ground.data }, { on := 23, ground := Ground.data }, { on := 14, ground := Ground.guard }], guard := some (14, false) }) (g := 14) (d := 39) (c := true) rfl rfl rfl rfl (by decide) (hv 14 (by kernel_rfl)) rfl rfl
    · have e47 : f 47 = .slice (some ⟨b', o', none⟩) N' k0' := hv 22 (by kernel_rfl)
      have g47 := fv_get (n := 303) (by decide) e47
      have e48 : f 48 = .int .i64 (i : Int) := hv 23 (by kernel_rfl)
      have g48 := fv_get (n := 303) (by decide) e48
      have eg : f 39 = .bool false := hv 14 (by kernel_rfl)
      refine wpOp_step (o := { dst := some 49, op := Op.indexAddr 22 (Operand.tmp 47) (Operand.tmp 48), type := 0, pos := "ref.go:312", after := #[{ on := 22, ground := Ground.data }, { on := 23, ground := Ground.data }, { on := 14, ground := Ground.guard }], guard := some (14, false) }) rfl ?_
      intro K' hK'
      rw [if_pos (by rw [wanted_some (g := 14) (d := 39) (b := false) (c := false) rfl rfl (by decide) eg]; rfl)]
      go_simp
      (try simp only [g47, g48])
      (try go_simp)
      exact hK' _ _ ⟨fv_set _ _, Below.refl _ _⟩
  | 25, _ =>
    cases c1
    · exact step_off (o := { dst := some 50, op := Op.fieldAddr 51 (Operand.tmp 49) 1, type := 0, pos := "ref.go:312", after := #[{ on := 24, ground := Ground.data }, { on := 14, ground := Ground.guard }], guard := some (14, false) }) (g := 14) (d := 39) (c := true) rfl rfl rfl rfl (by decide) (hv 14 (by kernel_rfl)) rfl rfl
    · have e49 : f 49 = .pointer (some ⟨b', o' + i * 2, none⟩) := hv 24 (by kernel_rfl)
      have g49 := fv_get (n := 303) (by decide) e49
      have eg : f 39 = .bool false := hv 14 (by kernel_rfl)
      refine wpOp_step (o := { dst := some 50, op := Op.fieldAddr 51 (Operand.tmp 49) 1, type := 0, pos := "ref.go:312", after := #[{ on := 24, ground := Ground.data }, { on := 14, ground := Ground.guard }], guard := some (14, false) }) rfl ?_
      intro K' hK'
      rw [if_pos (by rw [wanted_some (g := 14) (d := 39) (b := false) (c := false) rfl rfl (by decide) eg]; rfl)]
      go_simp
      (try simp only [g49])
      (try go_simp)
      exact hK' _ _ ⟨fv_set _ _, Below.refl _ _⟩
  | 26, _ =>
    cases c1
    · exact step_off (o := { dst := some 51, op := Op.load 28 (Operand.tmp 50), type := 28, pos := "ref.go:312", after := #[{ on := 25, ground := Ground.data }, { on := 14, ground := Ground.guard }], guard := some (14, false) }) (g := 14) (d := 39) (c := true) rfl rfl rfl rfl (by decide) (hv 14 (by kernel_rfl)) rfl rfl
    · have e50 : f 50 = .pointer (some ⟨b', o' + i * 2 + 1, none⟩) := hv 25 (by kernel_rfl)
      have g50 := fv_get (n := 303) (by decide) e50
      have eg : f 39 = .bool false := hv 14 (by kernel_rfl)
      have c51_0 := keep_below hb _ _ c2_1
      refine wpOp_step (o := { dst := some 51, op := Op.load 28 (Operand.tmp 50), type := 28, pos := "ref.go:312", after := #[{ on := 25, ground := Ground.data }, { on := 14, ground := Ground.guard }], guard := some (14, false) }) rfl ?_
      intro K' hK'
      rw [if_pos (by rw [wanted_some (g := 14) (d := 39) (b := false) (c := false) rfl rfl (by decide) eg]; rfl)]
      go_simp
      (try simp only [g50])
      (try go_simp)
      exact hK' _ _ ⟨fv_set _ _, Below.refl _ _⟩
  | 27, _ =>
    cases c1
    · exact step_off (o := { dst := some 52, op := Op.call { callee := Callee.value (Operand.func 33), args := #[Operand.tmp 45, Operand.tmp 51], argTypes := #[28, 28] }, type := 4, pos := "ref.go:312", after := #[{ on := 20, ground := Ground.data }, { on := 26, ground := Ground.data }, { on := 14, ground := Ground.chain }, { on := 14, ground := Ground.guard }], guard := some (14, false) }) (g := 14) (d := 39) (c := true) rfl rfl rfl rfl (by decide) (hv 14 (by kernel_rfl)) rfl rfl
    · have e45 : f 45 = .slice a_rs rs.length k_rs := hv 20 (by kernel_rfl)
      have g45 := fv_get (n := 303) (by decide) e45
      have e51 : f 51 = .slice a_rs' rs'.length k_rs' := hv 26 (by kernel_rfl)
      have g51 := fv_get (n := 303) (by decide) e51
      have eg : f 39 = .bool false := hv 14 (by kernel_rfl)
      refine wpOp_step (o := { dst := some 52, op := Op.call { callee := Callee.value (Operand.func 33), args := #[Operand.tmp 45, Operand.tmp 51], argTypes := #[28, 28] }, type := 4, pos := "ref.go:312", after := #[{ on := 20, ground := Ground.data }, { on := 26, ground := Ground.data }, { on := 14, ground := Ground.chain }, { on := 14, ground := Ground.guard }], guard := some (14, false) }) rfl ?_
      intro K' hK'
      rw [if_pos (by rw [wanted_some (g := 14) (d := 39) (b := false) (c := false) rfl rfl (by decide) eg]; rfl)]
      go_simp
      (try simp only [g45, g51])
      (try go_simp)
      go_at_call 33
      refine (keepSame_any rs rs' _ _ _ _ _ (i_rs.below hb) (i_rs2.below hb)).mono ?_
      rintro e u ⟨rfl, mm, rfl⟩
      rw [d_rs]
      go_simp
      exact hK' _ _ ⟨fv_set _ _, below_drewN (Below.refl _ _) mm⟩
  | 28, _ =>
    cases c1
    · exact step_off (o := { dst := some 53, op := Op.unOp UnOp.not 4 (Operand.tmp 52), type := 4, pos := "ref.go:312", after := #[{ on := 27, ground := Ground.data }, { on := 14, ground := Ground.guard }], guard := some (14, false) }) (g := 14) (d := 39) (c := true) rfl rfl rfl rfl (by decide) (hv 14 (by kernel_rfl)) rfl rfl
    · have e52 : f 52 = .bool c2 := hv 27 (by kernel_rfl)
      have g52 := fv_get (n := 303) (by decide) e52
      have eg : f 39 = .bool false := hv 14 (by kernel_rfl)
      refine wpOp_step (o := { dst := some 53, op := Op.unOp UnOp.not 4 (Operand.tmp 52), type := 4, pos := "ref.go:312", after := #[{ on := 27, ground := Ground.data }, { on := 14, ground := Ground.guard }], guard := some (14, false) }) rfl ?_
      intro K' hK'
      rw [if_pos (by rw [wanted_some (g := 14) (d := 39) (b := false) (c := false) rfl rfl (by decide) eg]; rfl)]
      go_simp
      (try simp only [g52])
      (try go_simp)
      exact hK' _ _ ⟨fv_set _ _, Below.refl _ _⟩
  | 29, _ =>
    cases c1
    · have e39 : f 39 = .bool true := hv 14 (by kernel_rfl)
      have g39 := fv_get (n := 303) (by decide) e39
      refine wpOp_step (o := { dst := some 54, op := Op.pick (Operand.tmp 39) (Operand.const (Value.bool true)) (Operand.tmp 53), type := 4, pos := "ref.go:312", after := #[{ on := 14, ground := Ground.data }, { on := 28, ground := Ground.data }], guard := none }) rfl ?_
      intro K' hK'
      rw [if_pos (wanted_none rfl)]
      go_simp
      (try simp only [g39])
      (try go_simp)
      exact hK' _ _ ⟨fv_set _ _, Below.refl _ _⟩
    · have e39 : f 39 = .bool false := hv 14 (by kernel_rfl)
      have g39 := fv_get (n := 303) (by decide) e39
      have e53 : f 53 = .bool (!c2) := hv 28 (by kernel_rfl)
      have g53 := fv_get (n := 303) (by decide) e53
      refine wpOp_step (o := { dst := some 54, op := Op.pick (Operand.tmp 39) (Operand.const (Value.bool true)) (Operand.tmp 53), type := 4, pos := "ref.go:312", after := #[{ on := 14, ground := Ground.data }, { on := 28, ground := Ground.data }], guard := none }) rfl ?_
      intro K' hK'
      rw [if_pos (wanted_none rfl)]
      go_simp
      (try simp only [g39, g53])
      (try go_simp)
      exact hK' _ _ ⟨fv_set _ _, Below.refl _ _⟩
  | k + 30, h => exact absurd h (by omega)
def ops11 : Array Oper := #[{ dst := some 62, op := Op.fieldAddr 32 (Operand.tmp 2) 1, type := 0, pos := "ref.go:317", after := #[], guard := none }, { dst := some 63, op := Op.load 23 (Operand.tmp 62), type := 23, pos := "ref.go:317", after := #[{ on := 0, ground := Ground.data }], guard := none }, { dst := some 64, op := Op.move (Operand.tmp 6), type := 3, pos := "ref.go:317", after := #[], guard := none }, { dst := some 65, op := Op.indexAddr 23 (Operand.tmp 63) (Operand.tmp 64), type := 0, pos := "ref.go:317", after := #[{ on := 1, ground := Ground.data }, { on := 2, ground := Ground.data }], guard := none }, { dst := some 66, op := Op.load 71 (Operand.tmp 65), type := 71, pos := "ref.go:317", after := #[{ on := 3, ground := Ground.data }], guard := none }, { dst := some 67, op := Op.fieldAddr 32 (Operand.tmp 3) 1, type := 0, pos := "ref.go:317", after := #[], guard := none }, { dst := some 68, op := Op.load 23 (Operand.tmp 67), type := 23, pos := "ref.go:317", after := #[{ on := 5, ground := Ground.data }], guard := none }, { dst := some 69, op := Op.move (Operand.tmp 6), type := 3, pos := "ref.go:317", after := #[], guard := none }, { dst := some 70, op := Op.indexAddr 23 (Operand.tmp 68) (Operand.tmp 69), type := 0, pos := "ref.go:317", after := #[{ on := 6, ground := Ground.data }, { on := 7, ground := Ground.data }], guard := none }, { dst := some 71, op := Op.load 71 (Operand.tmp 70), type := 71, pos := "ref.go:317", after := #[{ on := 8, ground := Ground.data }], guard := none }, { dst := some 72, op := Op.binOp BinOp.neq 71 (Operand.tmp 66) (Operand.tmp 71) 71, type := 4, pos := "ref.go:317", after := #[{ on := 4, ground := Ground.data }, { on := 9, ground := Ground.data }], guard := none }]
set_option maxRecDepth 100000 in
set_option maxHeartbeats 4000000 in
theorem reg11 {Q : Exit → Act → World → Prop} {f0 : Nat → Value} {V : World} {H H2 : Nat} {b o N k0 : Nat} {b' o' N' k0' : Nat} {i : Nat} {s0 s0' s1 s1' : ByteArray} {n0 n0' : Int} {c1 : Bool}
    (hmix : Tryd.prog.follows .mixedOrders = true) (f2 : f0 2 = .pointer (some ⟨H, 0, none⟩)) (f3 : f0 3 = .pointer (some ⟨H2, 0, none⟩)) (fi : f0 6 = .int .i64 (i : Int))
    (x : V.cell? ⟨H, 1, none⟩ = some (.slice (some ⟨b, o, none⟩) N k0)) (x' : V.cell? ⟨H2, 1, none⟩ = some (.slice (some ⟨b', o', none⟩) N' k0')) (hiN : i < N) (hiN' : i < N') (hN : N ≤ 9223372036854775807) (hN' : N' ≤ 9223372036854775807)
     (c_0 : V.cell? ⟨b, o + i * 3, none⟩ = some (.string s0)) (c2_0 : V.cell? ⟨b', o' + i * 3, none⟩ = some (.string s0')) (c_1 : V.cell? ⟨b, o + i * 3 + 1, none⟩ = some (.string s1)) (c2_1 : V.cell? ⟨b', o' + i * 3 + 1, none⟩ = some (.string s1')) (c_2 : V.cell? ⟨b, o + i * 3 + 2, none⟩ = some (.int .i64 n0)) (c2_2 : V.cell? ⟨b', o' + i * 3 + 2, none⟩ = some (.int .i64 n0')) (z_agg : Hid (cond c1 (s0.toList = s0'.toList ∧ s1.toList = s1'.toList ∧ n0 = n0') (¬ (s0.toList = s0'.toList ∧ s1.toList = s1'.toList ∧ n0 = n0'))))
    (fin : ∀ w' f, Below V.heap.size V w' → f 72 = cond c1 (.bool false) (.bool true) → Q .normal (Fv 303 (ovv f0 f 62 11)) w') :
    (Code.region 11 ops11 true).wp Tryd.prog Q (Fv 303 f0) V := by
  refine region_vals hmix 303 62 11 rfl (by kernel_rfl) (fun t => match t with | 62 => .pointer (some ⟨H, 1, none⟩) | 63 => .slice (some ⟨b, o, none⟩) N k0 | 64 => .int .i64 (i : Int) | 65 => .pointer (some ⟨b, o + i * 3, none⟩) | 66 => .agg #[.string s0, .string s1, .int .i64 n0] | 67 => .pointer (some ⟨H2, 1, none⟩) | 68 => .slice (some ⟨b', o', none⟩) N' k0' | 69 => .int .i64 (i : Int) | 70 => .pointer (some ⟨b', o' + i * 3, none⟩) | 71 => .agg #[.string s0', .string s1', .int .i64 n0'] | 72 => cond c1 (.bool false) (.bool true) | _ => undef) ?_ (fun w' hb => fin w' _ hb rfl)
  intro i' hi' f w' hb ho hv
  have l1 : (i : Int) < (N : Int) := by omega
  have l2 : (i : Int) < (N' : Int) := by omega
  match i', hi' with
  | 0, _ =>
    have e2 : f 2 = .pointer (some ⟨H, 0, none⟩) := (ho 2 (by decide)).trans f2
    have g2 := fv_get (n := 303) (by decide) e2
    refine wpOp_step (o := { dst := some 62, op := Op.fieldAddr 32 (Operand.tmp 2) 1, type := 0, pos := "ref.go:317", after := #[], guard := none }) rfl ?_
    intro K' hK'
    rw [if_pos (wanted_none rfl)]
    go_simp
    (try simp only [g2])
    (try go_simp)
    exact hK' _ _ ⟨fv_set _ _, Below.refl _ _⟩
  | 1, _ =>
    have e62 : f 62 = .pointer (some ⟨H, 1, none⟩) := hv 0 (by kernel_rfl)
    have g62 := fv_get (n := 303) (by decide) e62
    have c63_0 := keep_below hb _ _ x
    refine wpOp_step (o := { dst := some 63, op := Op.load 23 (Operand.tmp 62), type := 23, pos := "ref.go:317", after := #[{ on := 0, ground := Ground.data }], guard := none }) rfl ?_
    intro K' hK'
    rw [if_pos (wanted_none rfl)]
    go_simp
    (try simp only [g62])
    (try go_simp)
    exact hK' _ _ ⟨fv_set _ _, Below.refl _ _⟩
  | 2, _ =>
    have e6 : f 6 = .int .i64 (i : Int) := (ho 6 (by decide)).trans fi
    have g6 := fv_get (n := 303) (by decide) e6
    refine wpOp_step (o := { dst := some 64, op := Op.move (Operand.tmp 6), type := 3, pos := "ref.go:317", after := #[], guard := none }) rfl ?_
    intro K' hK'
    rw [if_pos (wanted_none rfl)]
    go_simp
    (try simp only [g6])
    (try go_simp)
    exact hK' _ _ ⟨fv_set _ _, Below.refl _ _⟩
  | 3, _ =>
    have e63 : f 63 = .slice (some ⟨b, o, none⟩) N k0 := hv 1 (by kernel_rfl)
    have g63 := fv_get (n := 303) (by decide) e63
    have e64 : f 64 = .int .i64 (i : Int) := hv 2 (by kernel_rfl)
    have g64 := fv_get (n := 303) (by decide) e64
    refine wpOp_step (o := { dst := some 65, op := Op.indexAddr 23 (Operand.tmp 63) (Operand.tmp 64), type := 0, pos := "ref.go:317", after := #[{ on := 1, ground := Ground.data }, { on := 2, ground := Ground.data }], guard := none }) rfl ?_
    intro K' hK'
    rw [if_pos (wanted_none rfl)]
    go_simp
    (try simp only [g63, g64])
    (try go_simp)
    exact hK' _ _ ⟨fv_set _ _, Below.refl _ _⟩
  | 4, _ =>
    have e65 : f 65 = .pointer (some ⟨b, o + i * 3, none⟩) := hv 3 (by kernel_rfl)
    have g65 := fv_get (n := 303) (by decide) e65
    have c66_0 := keep_below hb _ _ c_0
    have c66_1 := keep_below hb _ _ c_1
    have c66_2 := keep_below hb _ _ c_2
    refine wpOp_step (o := { dst := some 66, op := Op.load 71 (Operand.tmp 65), type := 71, pos := "ref.go:317", after := #[{ on := 3, ground := Ground.data }], guard := none }) rfl ?_
    intro K' hK'
    rw [if_pos (wanted_none rfl)]
    go_simp
    (try simp only [g65])
    (try go_simp)
    exact hK' _ _ ⟨fv_set _ _, Below.refl _ _⟩
  | 5, _ =>
    have e3 : f 3 = .pointer (some ⟨H2, 0, none⟩) := (ho 3 (by decide)).trans f3
    have g3 := fv_get (n := 303) (by decide) e3
    refine wpOp_step (o := { dst := some 67, op := Op.fieldAddr 32 (Operand.tmp 3) 1, type := 0, pos := "ref.go:317", after := #[], guard := none }) rfl ?_
    intro K' hK'
    rw [if_pos (wanted_none rfl)]
    go_simp
    (try simp only [g3])
    (try go_simp)
    exact hK' _ _ ⟨fv_set _ _, Below.refl _ _⟩
  | 6, _ =>
    have e67 : f 67 = .pointer (some ⟨H2, 1, none⟩) := hv 5 (by kernel_rfl)
    have g67 := fv_get (n := 303) (by decide) e67
    have c68_0 := keep_below hb _ _ x'
    refine wpOp_step (o := { dst := some 68, op := Op.load 23 (Operand.tmp 67), type := 23, pos := "ref.go:317", after := #[{ on := 5, ground := Ground.data }], guard := none }) rfl ?_
    intro K' hK'
    rw [if_pos (wanted_none rfl)]
    go_simp
    (try simp only [g67])
    (try go_simp)
    exact hK' _ _ ⟨fv_set _ _, Below.refl _ _⟩
  | 7, _ =>
    have e6 : f 6 = .int .i64 (i : Int) := (ho 6 (by decide)).trans fi
    have g6 := fv_get (n := 303) (by decide) e6
    refine wpOp_step (o := { dst := some 69, op := Op.move (Operand.tmp 6), type := 3, pos := "ref.go:317", after := #[], guard := none }) rfl ?_
    intro K' hK'
    rw [if_pos (wanted_none rfl)]
    go_simp
    (try simp only [g6])
    (try go_simp)
    exact hK' _ _ ⟨fv_set _ _, Below.refl _ _⟩
  | 8, _ =>
    have e68 : f 68 = .slice (some ⟨b', o', none⟩) N' k0' := hv 6 (by kernel_rfl)
    have g68 := fv_get (n := 303) (by decide) e68
    have e69 : f 69 = .int .i64 (i : Int) := hv 7 (by kernel_rfl)
    have g69 := fv_get (n := 303) (by decide) e69
    refine wpOp_step (o := { dst := some 70, op := Op.indexAddr 23 (Operand.tmp 68) (Operand.tmp 69), type := 0, pos := "ref.go:317", after := #[{ on := 6, ground := Ground.data }, { on := 7, ground := Ground.data }], guard := none }) rfl ?_
    intro K' hK'
    rw [if_pos (wanted_none rfl)]
    go_simp
    (try simp only [g68, g69])
    (try go_simp)
    exact hK' _ _ ⟨fv_set _ _, Below.refl _ _⟩
  | 9, _ =>
    have e70 : f 70 = .pointer (some ⟨b', o' + i * 3, none⟩) := hv 8 (by kernel_rfl)
    have g70 := fv_get (n := 303) (by decide) e70
    have c71_0 := keep_below hb _ _ c2_0
    have c71_1 := keep_below hb _ _ c2_1
    have c71_2 := keep_below hb _ _ c2_2
    refine wpOp_step (o := { dst := some 71, op := Op.load 71 (Operand.tmp 70), type := 71, pos := "ref.go:317", after := #[{ on := 8, ground := Ground.data }], guard := none }) rfl ?_
    intro K' hK'
    rw [if_pos (wanted_none rfl)]
    go_simp
    (try simp only [g70])
    (try go_simp)
    exact hK' _ _ ⟨fv_set _ _, Below.refl _ _⟩
  | 10, _ =>
    cases c1
    · have e66 : f 66 = .agg #[.string s0, .string s1, .int .i64 n0] := hv 4 (by kernel_rfl)
      have g66 := fv_get (n := 303) (by decide) e66
      have e71 : f 71 = .agg #[.string s0', .string s1', .int .i64 n0'] := hv 9 (by kernel_rfl)
      have g71 := fv_get (n := 303) (by decide) e71
      refine wpOp_step (o := { dst := some 72, op := Op.binOp BinOp.neq 71 (Operand.tmp 66) (Operand.tmp 71) 71, type := 4, pos := "ref.go:317", after := #[{ on := 4, ground := Ground.data }, { on := 9, ground := Ground.data }], guard := none }) rfl ?_
      intro K' hK'
      rw [if_pos (wanted_none rfl)]
      go_simp
      (try simp only [g66, g71])
      (try go_simp)
      (repeat' split)
      all_goals first | (exfalso; exact z_agg.out ⟨‹_›, ‹_›, ‹_›⟩) | (go_simp; exact hK' _ _ ⟨fv_set _ _, Below.refl _ _⟩)
    · have e66 : f 66 = .agg #[.string s0, .string s1, .int .i64 n0] := hv 4 (by kernel_rfl)
      have g66 := fv_get (n := 303) (by decide) e66
      have e71 : f 71 = .agg #[.string s0', .string s1', .int .i64 n0'] := hv 9 (by kernel_rfl)
      have g71 := fv_get (n := 303) (by decide) e71
      refine wpOp_step (o := { dst := some 72, op := Op.binOp BinOp.neq 71 (Operand.tmp 66) (Operand.tmp 71) 71, type := 4, pos := "ref.go:317", after := #[{ on := 4, ground := Ground.data }, { on := 9, ground := Ground.data }], guard := none }) rfl ?_
      intro K' hK'
      rw [if_pos (wanted_none rfl)]
      go_simp
      (try simp only [g66, g71])
      (try go_simp)
      rw [if_pos z_agg.out.1, if_pos z_agg.out.2.1, if_pos z_agg.out.2.2]
      go_simp
      exact hK' _ _ ⟨fv_set _ _, Below.refl _ _⟩
  | k + 11, h => exact absurd h (by omega)
def ops21 : Array Oper := #[{ dst := some 132, op := Op.fieldAddr 32 (Operand.tmp 2) 3, type := 0, pos := "ref.go:327", after := #[], guard := none }, { dst := some 133, op := Op.load 25 (Operand.tmp 132), type := 25, pos := "ref.go:327", after := #[{ on := 0, ground := Ground.data }], guard := none }, { dst := some 134, op := Op.move (Operand.tmp 8), type := 3, pos := "ref.go:327", after := #[], guard := none }, { dst := some 135, op := Op.indexAddr 25 (Operand.tmp 133) (Operand.tmp 134), type := 0, pos := "ref.go:327", after := #[{ on := 1, ground := Ground.data }, { on := 2, ground := Ground.data }], guard := none }, { dst := some 136, op := Op.load 73 (Operand.tmp 135), type := 73, pos := "ref.go:327", after := #[{ on := 3, ground := Ground.data }], guard := none }, { dst := some 137, op := Op.fieldAddr 32 (Operand.tmp 3) 3, type := 0, pos := "ref.go:327", after := #[], guard := none }, { dst := some 138, op := Op.load 25 (Operand.tmp 137), type := 25, pos := "ref.go:327", after := #[{ on := 5, ground := Ground.data }], guard := none }, { dst := some 139, op := Op.move (Operand.tmp 8), type := 3, pos := "ref.go:327", after := #[], guard := none }, { dst := some 140, op := Op.indexAddr 25 (Operand.tmp 138) (Operand.tmp 139), type := 0, pos := "ref.go:327", after := #[{ on := 6, ground := Ground.data }, { on := 7, ground := Ground.data }], guard := none }, { dst := some 141, op := Op.load 73 (Operand.tmp 140), type := 73, pos := "ref.go:327", after := #[{ on := 8, ground := Ground.data }], guard := none }, { dst := some 142, op := Op.binOp BinOp.neq 73 (Operand.tmp 136) (Operand.tmp 141) 73, type := 4, pos := "ref.go:327", after := #[{ on := 4, ground := Ground.data }, { on := 9, ground := Ground.data }], guard := none }]
set_option maxRecDepth 100000 in
set_option maxHeartbeats 4000000 in
theorem reg21 {Q : Exit → Act → World → Prop} {f0 : Nat → Value} {V : World} {H H2 : Nat} {b o N k0 : Nat} {b' o' N' k0' : Nat} {i : Nat} {n0 n0' n1 n1' : Int} {q0 q0' : Bool} {c1 : Bool}
    (hmix : Tryd.prog.follows .mixedOrders = true) (f2 : f0 2 = .pointer (some ⟨H, 0, none⟩)) (f3 : f0 3 = .pointer (some ⟨H2, 0, none⟩)) (fi : f0 8 = .int .i64 (i : Int))
    (x : V.cell? ⟨H, 3, none⟩ = some (.slice (some ⟨b, o, none⟩) N k0)) (x' : V.cell? ⟨H2, 3, none⟩ = some (.slice (some ⟨b', o', none⟩) N' k0')) (hiN : i < N) (hiN' : i < N') (hN : N ≤ 9223372036854775807) (hN' : N' ≤ 9223372036854775807)
     (c_0 : V.cell? ⟨b, o + i * 3, none⟩ = some (.int .i64 n0)) (c2_0 : V.cell? ⟨b', o' + i * 3, none⟩ = some (.int .i64 n0')) (c_1 : V.cell? ⟨b, o + i * 3 + 1, none⟩ = some (.int .i64 n1)) (c2_1 : V.cell? ⟨b', o' + i * 3 + 1, none⟩ = some (.int .i64 n1')) (c_2 : V.cell? ⟨b, o + i * 3 + 2, none⟩ = some (.bool q0)) (c2_2 : V.cell? ⟨b', o' + i * 3 + 2, none⟩ = some (.bool q0')) (z_agg : Hid (cond c1 (n0 = n0' ∧ n1 = n1' ∧ q0 = q0') (¬ (n0 = n0' ∧ n1 = n1' ∧ q0 = q0'))))
    (fin : ∀ w' f, Below V.heap.size V w' → f 142 = cond c1 (.bool false) (.bool true) → Q .normal (Fv 303 (ovv f0 f 132 11)) w') :
    (Code.region 21 ops21 true).wp Tryd.prog Q (Fv 303 f0) V := by
  refine region_vals hmix 303 132 11 rfl (by kernel_rfl) (fun t => match t with | 132 => .pointer (some ⟨H, 3, none⟩) | 133 => .slice (some ⟨b, o, none⟩) N k0 | 134 => .int .i64 (i : Int) | 135 => .pointer (some ⟨b, o + i * 3, none⟩) | 136 => .agg #[.int .i64 n0, .int .i64 n1, .bool q0] | 137 => .pointer (some ⟨H2, 3, none⟩) | 138 => .slice (some ⟨b', o', none⟩) N' k0' | 139 => .int .i64 (i : Int) | 140 => .pointer (some ⟨b', o' + i * 3, none⟩) | 141 => .agg #[.int .i64 n0', .int .i64 n1', .bool q0'] | 142 => cond c1 (.bool false) (.bool true) | _ => undef) ?_ (fun w' hb => fin w' _ hb rfl)
  intro i' hi' f w' hb ho hv
  have l1 : (i : Int) < (N : Int) := by omega
  have l2 : (i : Int) < (N' : Int) := by omega
  match i', hi' with
  | 0, _ =>
    have e2 : f 2 = .pointer (some ⟨H, 0, none⟩) := (ho 2 (by decide)).trans f2
    have g2 := fv_get (n := 303) (by decide) e2
    refine wpOp_step (o := { dst := some 132, op := Op.fieldAddr 32 (Operand.tmp 2) 3, type := 0, pos := "ref.go:327", after := #[], guard := none }) rfl ?_
    intro K' hK'
    rw [if_pos (wanted_none rfl)]
    go_simp
    (try simp only [g2])
    (try go_simp)
    exact hK' _ _ ⟨fv_set _ _, Below.refl _ _⟩
  | 1, _ =>
    have e132 : f 132 = .pointer (some ⟨H, 3, none⟩) := hv 0 (by kernel_rfl)
    have g132 := fv_get (n := 303) (by decide) e132
    have c133_0 := keep_below hb _ _ x
    refine wpOp_step (o := { dst := some 133, op := Op.load 25 (Operand.tmp 132), type := 25, pos := "ref.go:327", after := #[{ on := 0, ground := Ground.data }], guard := none }) rfl ?_
    intro K' hK'
    rw [if_pos (wanted_none rfl)]
    go_simp
    (try simp only [g132])
    (try go_simp)
    exact hK' _ _ ⟨fv_set _ _, Below.refl _ _⟩
  | 2, _ =>
    have e8 : f 8 = .int .i64 (i : Int) := (ho 8 (by decide)).trans fi
    have g8 := fv_get (n := 303) (by decide) e8
    refine wpOp_step (o := { dst := some 134, op := Op.move (Operand.tmp 8), type := 3, pos := "ref.go:327", after := #[], guard := none }) rfl ?_
    intro K' hK'
    rw [if_pos (wanted_none rfl)]
    go_simp
    (try simp only [g8])
    (try go_simp)
    exact hK' _ _ ⟨fv_set _ _, Below.refl _ _⟩
  | 3, _ =>
    have e133 : f 133 = .slice (some ⟨b, o, none⟩) N k0 := hv 1 (by kernel_rfl)
    have g133 := fv_get (n := 303) (by decide) e133
    have e134 : f 134 = .int .i64 (i : Int) := hv 2 (by kernel_rfl)
    have g134 := fv_get (n := 303) (by decide) e134
    refine wpOp_step (o := { dst := some 135, op := Op.indexAddr 25 (Operand.tmp 133) (Operand.tmp 134), type := 0, pos := "ref.go:327", after := #[{ on := 1, ground := Ground.data }, { on := 2, ground := Ground.data }], guard := none }) rfl ?_
    intro K' hK'
    rw [if_pos (wanted_none rfl)]
    go_simp
    (try simp only [g133, g134])
    (try go_simp)
    exact hK' _ _ ⟨fv_set _ _, Below.refl _ _⟩
  | 4, _ =>
    have e135 : f 135 = .pointer (some ⟨b, o + i * 3, none⟩) := hv 3 (by kernel_rfl)
    have g135 := fv_get (n := 303) (by decide) e135
    have c136_0 := keep_below hb _ _ c_0
    have c136_1 := keep_below hb _ _ c_1
    have c136_2 := keep_below hb _ _ c_2
    refine wpOp_step (o := { dst := some 136, op := Op.load 73 (Operand.tmp 135), type := 73, pos := "ref.go:327", after := #[{ on := 3, ground := Ground.data }], guard := none }) rfl ?_
    intro K' hK'
    rw [if_pos (wanted_none rfl)]
    go_simp
    (try simp only [g135])
    (try go_simp)
    exact hK' _ _ ⟨fv_set _ _, Below.refl _ _⟩
  | 5, _ =>
    have e3 : f 3 = .pointer (some ⟨H2, 0, none⟩) := (ho 3 (by decide)).trans f3
    have g3 := fv_get (n := 303) (by decide) e3
    refine wpOp_step (o := { dst := some 137, op := Op.fieldAddr 32 (Operand.tmp 3) 3, type := 0, pos := "ref.go:327", after := #[], guard := none }) rfl ?_
    intro K' hK'
    rw [if_pos (wanted_none rfl)]
    go_simp
    (try simp only [g3])
    (try go_simp)
    exact hK' _ _ ⟨fv_set _ _, Below.refl _ _⟩
  | 6, _ =>
    have e137 : f 137 = .pointer (some ⟨H2, 3, none⟩) := hv 5 (by kernel_rfl)
    have g137 := fv_get (n := 303) (by decide) e137
    have c138_0 := keep_below hb _ _ x'
    refine wpOp_step (o := { dst := some 138, op := Op.load 25 (Operand.tmp 137), type := 25, pos := "ref.go:327", after := #[{ on := 5, ground := Ground.data }], guard := none }) rfl ?_
    intro K' hK'
    rw [if_pos (wanted_none rfl)]
    go_simp
    (try simp only [g137])
    (try go_simp)
    exact hK' _ _ ⟨fv_set _ _, Below.refl _ _⟩
  | 7, _ =>
    have e8 : f 8 = .int .i64 (i : Int) := (ho 8 (by decide)).trans fi
    have g8 := fv_get (n := 303) (by decide) e8
    refine wpOp_step (o := { dst := some 139, op := Op.move (Operand.tmp 8), type := 3, pos := "ref.go:327", after := #[], guard := none }) rfl ?_
    intro K' hK'
    rw [if_pos (wanted_none rfl)]
    go_simp
    (try simp only [g8])
    (try go_simp)
    exact hK' _ _ ⟨fv_set _ _, Below.refl _ _⟩
  | 8, _ =>
    have e138 : f 138 = .slice (some ⟨b', o', none⟩) N' k0' := hv 6 (by kernel_rfl)
    have g138 := fv_get (n := 303) (by decide) e138
    have e139 : f 139 = .int .i64 (i : Int) := hv 7 (by kernel_rfl)
    have g139 := fv_get (n := 303) (by decide) e139
    refine wpOp_step (o := { dst := some 140, op := Op.indexAddr 25 (Operand.tmp 138) (Operand.tmp 139), type := 0, pos := "ref.go:327", after := #[{ on := 6, ground := Ground.data }, { on := 7, ground := Ground.data }], guard := none }) rfl ?_
    intro K' hK'
    rw [if_pos (wanted_none rfl)]
    go_simp
    (try simp only [g138, g139])
    (try go_simp)
    exact hK' _ _ ⟨fv_set _ _, Below.refl _ _⟩
  | 9, _ =>
    have e140 : f 140 = .pointer (some ⟨b', o' + i * 3, none⟩) := hv 8 (by kernel_rfl)
    have g140 := fv_get (n := 303) (by decide) e140
    have c141_0 := keep_below hb _ _ c2_0
    have c141_1 := keep_below hb _ _ c2_1
    have c141_2 := keep_below hb _ _ c2_2
    refine wpOp_step (o := { dst := some 141, op := Op.load 73 (Operand.tmp 140), type := 73, pos := "ref.go:327", after := #[{ on := 8, ground := Ground.data }], guard := none }) rfl ?_
    intro K' hK'
    rw [if_pos (wanted_none rfl)]
    go_simp
    (try simp only [g140])
    (try go_simp)
    exact hK' _ _ ⟨fv_set _ _, Below.refl _ _⟩
  | 10, _ =>
    cases c1
    · have e136 : f 136 = .agg #[.int .i64 n0, .int .i64 n1, .bool q0] := hv 4 (by kernel_rfl)
      have g136 := fv_get (n := 303) (by decide) e136
      have e141 : f 141 = .agg #[.int .i64 n0', .int .i64 n1', .bool q0'] := hv 9 (by kernel_rfl)
      have g141 := fv_get (n := 303) (by decide) e141
      refine wpOp_step (o := { dst := some 142, op := Op.binOp BinOp.neq 73 (Operand.tmp 136) (Operand.tmp 141) 73, type := 4, pos := "ref.go:327", after := #[{ on := 4, ground := Ground.data }, { on := 9, ground := Ground.data }], guard := none }) rfl ?_
      intro K' hK'
      rw [if_pos (wanted_none rfl)]
      go_simp
      (try simp only [g136, g141])
      (try go_simp)
      (repeat' split)
      all_goals first | (exfalso; exact z_agg.out ⟨‹_›, ‹_›, ‹_›⟩) | (go_simp; exact hK' _ _ ⟨fv_set _ _, Below.refl _ _⟩)
    · have e136 : f 136 = .agg #[.int .i64 n0, .int .i64 n1, .bool q0] := hv 4 (by kernel_rfl)
      have g136 := fv_get (n := 303) (by decide) e136
      have e141 : f 141 = .agg #[.int .i64 n0', .int .i64 n1', .bool q0'] := hv 9 (by kernel_rfl)
      have g141 := fv_get (n := 303) (by decide) e141
      refine wpOp_step (o := { dst := some 142, op := Op.binOp BinOp.neq 73 (Operand.tmp 136) (Operand.tmp 141) 73, type := 4, pos := "ref.go:327", after := #[{ on := 4, ground := Ground.data }, { on := 9, ground := Ground.data }], guard := none }) rfl ?_
      intro K' hK'
      rw [if_pos (wanted_none rfl)]
      go_simp
      (try simp only [g136, g141])
      (try go_simp)
      rw [if_pos z_agg.out.1, if_pos z_agg.out.2.1, if_pos z_agg.out.2.2]
      go_simp
      exact hK' _ _ ⟨fv_set _ _, Below.refl _ _⟩
  | k + 11, h => exact absurd h (by omega)
def ops26 : Array Oper := #[{ dst := some 150, op := Op.fieldAddr 32 (Operand.tmp 2) 4, type := 0, pos := "ref.go:332", after := #[], guard := none }, { dst := some 151, op := Op.load 25 (Operand.tmp 150), type := 25, pos := "ref.go:332", after := #[{ on := 0, ground := Ground.data }], guard := none }, { dst := some 152, op := Op.move (Operand.tmp 9), type := 3, pos := "ref.go:332", after := #[], guard := none }, { dst := some 153, op := Op.indexAddr 25 (Operand.tmp 151) (Operand.tmp 152), type := 0, pos := "ref.go:332", after := #[{ on := 1, ground := Ground.data }, { on := 2, ground := Ground.data }], guard := none }, { dst := some 154, op := Op.load 73 (Operand.tmp 153), type := 73, pos := "ref.go:332", after := #[{ on := 3, ground := Ground.data }], guard := none }, { dst := some 155, op := Op.fieldAddr 32 (Operand.tmp 3) 4, type := 0, pos := "ref.go:332", after := #[], guard := none }, { dst := some 156, op := Op.load 25 (Operand.tmp 155), type := 25, pos := "ref.go:332", after := #[{ on := 5, ground := Ground.data }], guard := none }, { dst := some 157, op := Op.move (Operand.tmp 9), type := 3, pos := "ref.go:332", after := #[], guard := none }, { dst := some 158, op := Op.indexAddr 25 (Operand.tmp 156) (Operand.tmp 157), type := 0, pos := "ref.go:332", after := #[{ on := 6, ground := Ground.data }, { on := 7, ground := Ground.data }], guard := none }, { dst := some 159, op := Op.load 73 (Operand.tmp 158), type := 73, pos := "ref.go:332", after := #[{ on := 8, ground := Ground.data }], guard := none }, { dst := some 160, op := Op.binOp BinOp.neq 73 (Operand.tmp 154) (Operand.tmp 159) 73, type := 4, pos := "ref.go:332", after := #[{ on := 4, ground := Ground.data }, { on := 9, ground := Ground.data }], guard := none }]
set_option maxRecDepth 100000 in
set_option maxHeartbeats 4000000 in
theorem reg26 {Q : Exit → Act → World → Prop} {f0 : Nat → Value} {V : World} {H H2 : Nat} {b o N k0 : Nat} {b' o' N' k0' : Nat} {i : Nat} {n0 n0' n1 n1' : Int} {q0 q0' : Bool} {c1 : Bool}
    (hmix : Tryd.prog.follows .mixedOrders = true) (f2 : f0 2 = .pointer (some ⟨H, 0, none⟩)) (f3 : f0 3 = .pointer (some ⟨H2, 0, none⟩)) (fi : f0 9 = .int .i64 (i : Int))
    (x : V.cell? ⟨H, 4, none⟩ = some (.slice (some ⟨b, o, none⟩) N k0)) (x' : V.cell? ⟨H2, 4, none⟩ = some (.slice (some ⟨b', o', none⟩) N' k0')) (hiN : i < N) (hiN' : i < N') (hN : N ≤ 9223372036854775807) (hN' : N' ≤ 9223372036854775807)
     (c_0 : V.cell? ⟨b, o + i * 3, none⟩ = some (.int .i64 n0)) (c2_0 : V.cell? ⟨b', o' + i * 3, none⟩ = some (.int .i64 n0')) (c_1 : V.cell? ⟨b, o + i * 3 + 1, none⟩ = some (.int .i64 n1)) (c2_1 : V.cell? ⟨b', o' + i * 3 + 1, none⟩ = some (.int .i64 n1')) (c_2 : V.cell? ⟨b, o + i * 3 + 2, none⟩ = some (.bool q0)) (c2_2 : V.cell? ⟨b', o' + i * 3 + 2, none⟩ = some (.bool q0')) (z_agg : Hid (cond c1 (n0 = n0' ∧ n1 = n1' ∧ q0 = q0') (¬ (n0 = n0' ∧ n1 = n1' ∧ q0 = q0'))))
    (fin : ∀ w' f, Below V.heap.size V w' → f 160 = cond c1 (.bool false) (.bool true) → Q .normal (Fv 303 (ovv f0 f 150 11)) w') :
    (Code.region 26 ops26 true).wp Tryd.prog Q (Fv 303 f0) V := by
  refine region_vals hmix 303 150 11 rfl (by kernel_rfl) (fun t => match t with | 150 => .pointer (some ⟨H, 4, none⟩) | 151 => .slice (some ⟨b, o, none⟩) N k0 | 152 => .int .i64 (i : Int) | 153 => .pointer (some ⟨b, o + i * 3, none⟩) | 154 => .agg #[.int .i64 n0, .int .i64 n1, .bool q0] | 155 => .pointer (some ⟨H2, 4, none⟩) | 156 => .slice (some ⟨b', o', none⟩) N' k0' | 157 => .int .i64 (i : Int) | 158 => .pointer (some ⟨b', o' + i * 3, none⟩) | 159 => .agg #[.int .i64 n0', .int .i64 n1', .bool q0'] | 160 => cond c1 (.bool false) (.bool true) | _ => undef) ?_ (fun w' hb => fin w' _ hb rfl)
  intro i' hi' f w' hb ho hv
  have l1 : (i : Int) < (N : Int) := by omega
  have l2 : (i : Int) < (N' : Int) := by omega
  match i', hi' with
  | 0, _ =>
    have e2 : f 2 = .pointer (some ⟨H, 0, none⟩) := (ho 2 (by decide)).trans f2
    have g2 := fv_get (n := 303) (by decide) e2
    refine wpOp_step (o := { dst := some 150, op := Op.fieldAddr 32 (Operand.tmp 2) 4, type := 0, pos := "ref.go:332", after := #[], guard := none }) rfl ?_
    intro K' hK'
    rw [if_pos (wanted_none rfl)]
    go_simp
    (try simp only [g2])
    (try go_simp)
    exact hK' _ _ ⟨fv_set _ _, Below.refl _ _⟩
  | 1, _ =>
    have e150 : f 150 = .pointer (some ⟨H, 4, none⟩) := hv 0 (by kernel_rfl)
    have g150 := fv_get (n := 303) (by decide) e150
    have c151_0 := keep_below hb _ _ x
    refine wpOp_step (o := { dst := some 151, op := Op.load 25 (Operand.tmp 150), type := 25, pos := "ref.go:332", after := #[{ on := 0, ground := Ground.data }], guard := none }) rfl ?_
    intro K' hK'
    rw [if_pos (wanted_none rfl)]
    go_simp
    (try simp only [g150])
    (try go_simp)
    exact hK' _ _ ⟨fv_set _ _, Below.refl _ _⟩
  | 2, _ =>
    have e9 : f 9 = .int .i64 (i : Int) := (ho 9 (by decide)).trans fi
    have g9 := fv_get (n := 303) (by decide) e9
    refine wpOp_step (o := { dst := some 152, op := Op.move (Operand.tmp 9), type := 3, pos := "ref.go:332", after := #[], guard := none }) rfl ?_
    intro K' hK'
    rw [if_pos (wanted_none rfl)]
    go_simp
    (try simp only [g9])
    (try go_simp)
    exact hK' _ _ ⟨fv_set _ _, Below.refl _ _⟩
  | 3, _ =>
    have e151 : f 151 = .slice (some ⟨b, o, none⟩) N k0 := hv 1 (by kernel_rfl)
    have g151 := fv_get (n := 303) (by decide) e151
    have e152 : f 152 = .int .i64 (i : Int) := hv 2 (by kernel_rfl)
    have g152 := fv_get (n := 303) (by decide) e152
    refine wpOp_step (o := { dst := some 153, op := Op.indexAddr 25 (Operand.tmp 151) (Operand.tmp 152), type := 0, pos := "ref.go:332", after := #[{ on := 1, ground := Ground.data }, { on := 2, ground := Ground.data }], guard := none }) rfl ?_
    intro K' hK'
    rw [if_pos (wanted_none rfl)]
    go_simp
    (try simp only [g151, g152])
    (try go_simp)
    exact hK' _ _ ⟨fv_set _ _, Below.refl _ _⟩
  | 4, _ =>
    have e153 : f 153 = .pointer (some ⟨b, o + i * 3, none⟩) := hv 3 (by kernel_rfl)
    have g153 := fv_get (n := 303) (by decide) e153
    have c154_0 := keep_below hb _ _ c_0
    have c154_1 := keep_below hb _ _ c_1
    have c154_2 := keep_below hb _ _ c_2
    refine wpOp_step (o := { dst := some 154, op := Op.load 73 (Operand.tmp 153), type := 73, pos := "ref.go:332", after := #[{ on := 3, ground := Ground.data }], guard := none }) rfl ?_
    intro K' hK'
    rw [if_pos (wanted_none rfl)]
    go_simp
    (try simp only [g153])
    (try go_simp)
    exact hK' _ _ ⟨fv_set _ _, Below.refl _ _⟩
  | 5, _ =>
    have e3 : f 3 = .pointer (some ⟨H2, 0, none⟩) := (ho 3 (by decide)).trans f3
    have g3 := fv_get (n := 303) (by decide) e3
    refine wpOp_step (o := { dst := some 155, op := Op.fieldAddr 32 (Operand.tmp 3) 4, type := 0, pos := "ref.go:332", after := #[], guard := none }) rfl ?_
    intro K' hK'
    rw [if_pos (wanted_none rfl)]
    go_simp
    (try simp only [g3])
    (try go_simp)
    exact hK' _ _ ⟨fv_set _ _, Below.refl _ _⟩
  | 6, _ =>
    have e155 : f 155 = .pointer (some ⟨H2, 4, none⟩) := hv 5 (by kernel_rfl)
    have g155 := fv_get (n := 303) (by decide) e155
    have c156_0 := keep_below hb _ _ x'
    refine wpOp_step (o := { dst := some 156, op := Op.load 25 (Operand.tmp 155), type := 25, pos := "ref.go:332", after := #[{ on := 5, ground := Ground.data }], guard := none }) rfl ?_
    intro K' hK'
    rw [if_pos (wanted_none rfl)]
    go_simp
    (try simp only [g155])
    (try go_simp)
    exact hK' _ _ ⟨fv_set _ _, Below.refl _ _⟩
  | 7, _ =>
    have e9 : f 9 = .int .i64 (i : Int) := (ho 9 (by decide)).trans fi
    have g9 := fv_get (n := 303) (by decide) e9
    refine wpOp_step (o := { dst := some 157, op := Op.move (Operand.tmp 9), type := 3, pos := "ref.go:332", after := #[], guard := none }) rfl ?_
    intro K' hK'
    rw [if_pos (wanted_none rfl)]
    go_simp
    (try simp only [g9])
    (try go_simp)
    exact hK' _ _ ⟨fv_set _ _, Below.refl _ _⟩
  | 8, _ =>
    have e156 : f 156 = .slice (some ⟨b', o', none⟩) N' k0' := hv 6 (by kernel_rfl)
    have g156 := fv_get (n := 303) (by decide) e156
    have e157 : f 157 = .int .i64 (i : Int) := hv 7 (by kernel_rfl)
    have g157 := fv_get (n := 303) (by decide) e157
    refine wpOp_step (o := { dst := some 158, op := Op.indexAddr 25 (Operand.tmp 156) (Operand.tmp 157), type := 0, pos := "ref.go:332", after := #[{ on := 6, ground := Ground.data }, { on := 7, ground := Ground.data }], guard := none }) rfl ?_
    intro K' hK'
    rw [if_pos (wanted_none rfl)]
    go_simp
    (try simp only [g156, g157])
    (try go_simp)
    exact hK' _ _ ⟨fv_set _ _, Below.refl _ _⟩
  | 9, _ =>
    have e158 : f 158 = .pointer (some ⟨b', o' + i * 3, none⟩) := hv 8 (by kernel_rfl)
    have g158 := fv_get (n := 303) (by decide) e158
    have c159_0 := keep_below hb _ _ c2_0
    have c159_1 := keep_below hb _ _ c2_1
    have c159_2 := keep_below hb _ _ c2_2
    refine wpOp_step (o := { dst := some 159, op := Op.load 73 (Operand.tmp 158), type := 73, pos := "ref.go:332", after := #[{ on := 8, ground := Ground.data }], guard := none }) rfl ?_
    intro K' hK'
    rw [if_pos (wanted_none rfl)]
    go_simp
    (try simp only [g158])
    (try go_simp)
    exact hK' _ _ ⟨fv_set _ _, Below.refl _ _⟩
  | 10, _ =>
    cases c1
    · have e154 : f 154 = .agg #[.int .i64 n0, .int .i64 n1, .bool q0] := hv 4 (by kernel_rfl)
      have g154 := fv_get (n := 303) (by decide) e154
      have e159 : f 159 = .agg #[.int .i64 n0', .int .i64 n1', .bool q0'] := hv 9 (by kernel_rfl)
      have g159 := fv_get (n := 303) (by decide) e159
      refine wpOp_step (o := { dst := some 160, op := Op.binOp BinOp.neq 73 (Operand.tmp 154) (Operand.tmp 159) 73, type := 4, pos := "ref.go:332", after := #[{ on := 4, ground := Ground.data }, { on := 9, ground := Ground.data }], guard := none }) rfl ?_
      intro K' hK'
      rw [if_pos (wanted_none rfl)]
      go_simp
      (try simp only [g154, g159])
      (try go_simp)
      (repeat' split)
      all_goals first | (exfalso; exact z_agg.out ⟨‹_›, ‹_›, ‹_›⟩) | (go_simp; exact hK' _ _ ⟨fv_set _ _, Below.refl _ _⟩)
    · have e154 : f 154 = .agg #[.int .i64 n0, .int .i64 n1, .bool q0] := hv 4 (by kernel_rfl)
      have g154 := fv_get (n := 303) (by decide) e154
      have e159 : f 159 = .agg #[.int .i64 n0', .int .i64 n1', .bool q0'] := hv 9 (by kernel_rfl)
      have g159 := fv_get (n := 303) (by decide) e159
      refine wpOp_step (o := { dst := some 160, op := Op.binOp BinOp.neq 73 (Operand.tmp 154) (Operand.tmp 159) 73, type := 4, pos := "ref.go:332", after := #[{ on := 4, ground := Ground.data }, { on := 9, ground := Ground.data }], guard := none }) rfl ?_
      intro K' hK'
      rw [if_pos (wanted_none rfl)]
      go_simp
      (try simp only [g154, g159])
      (try go_simp)
      rw [if_pos z_agg.out.1, if_pos z_agg.out.2.1, if_pos z_agg.out.2.2]
      go_simp
      exact hK' _ _ ⟨fv_set _ _, Below.refl _ _⟩
  | k + 11, h => exact absurd h (by omega)
def ops36 : Array Oper := #[{ dst := some 219, op := Op.fieldAddr 32 (Operand.tmp 2) 6, type := 0, pos := "ref.go:342", after := #[], guard := none }, { dst := some 220, op := Op.load 27 (Operand.tmp 219), type := 27, pos := "ref.go:342", after := #[{ on := 0, ground := Ground.data }], guard := none }, { dst := some 221, op := Op.move (Operand.tmp 11), type := 3, pos := "ref.go:342", after := #[], guard := none }, { dst := some 222, op := Op.indexAddr 27 (Operand.tmp 220) (Operand.tmp 221), type := 0, pos := "ref.go:342", after := #[{ on := 1, ground := Ground.data }, { on := 2, ground := Ground.data }], guard := none }, { dst := some 223, op := Op.load 76 (Operand.tmp 222), type := 76, pos := "ref.go:342", after := #[{ on := 3, ground := Ground.data }], guard := none }, { dst := some 224, op := Op.fieldAddr 32 (Operand.tmp 3) 6, type := 0, pos := "ref.go:342", after := #[], guard := none }, { dst := some 225, op := Op.load 27 (Operand.tmp 224), type := 27, pos := "ref.go:342", after := #[{ on := 5, ground := Ground.data }], guard := none }, { dst := some 226, op := Op.move (Operand.tmp 11), type := 3, pos := "ref.go:342", after := #[], guard := none }, { dst := some 227, op := Op.indexAddr 27 (Operand.tmp 225) (Operand.tmp 226), type := 0, pos := "ref.go:342", after := #[{ on := 6, ground := Ground.data }, { on := 7, ground := Ground.data }], guard := none }, { dst := some 228, op := Op.load 76 (Operand.tmp 227), type := 76, pos := "ref.go:342", after := #[{ on := 8, ground := Ground.data }], guard := none }, { dst := some 229, op := Op.binOp BinOp.neq 76 (Operand.tmp 223) (Operand.tmp 228) 76, type := 4, pos := "ref.go:342", after := #[{ on := 4, ground := Ground.data }, { on := 9, ground := Ground.data }], guard := none }]
set_option maxRecDepth 100000 in
set_option maxHeartbeats 4000000 in
theorem reg36 {Q : Exit → Act → World → Prop} {f0 : Nat → Value} {V : World} {H H2 : Nat} {b o N k0 : Nat} {b' o' N' k0' : Nat} {i : Nat} {s0 s0' : ByteArray} {n0 n0' n1 n1' : Int} {c1 : Bool}
    (hmix : Tryd.prog.follows .mixedOrders = true) (f2 : f0 2 = .pointer (some ⟨H, 0, none⟩)) (f3 : f0 3 = .pointer (some ⟨H2, 0, none⟩)) (fi : f0 11 = .int .i64 (i : Int))
    (x : V.cell? ⟨H, 6, none⟩ = some (.slice (some ⟨b, o, none⟩) N k0)) (x' : V.cell? ⟨H2, 6, none⟩ = some (.slice (some ⟨b', o', none⟩) N' k0')) (hiN : i < N) (hiN' : i < N') (hN : N ≤ 9223372036854775807) (hN' : N' ≤ 9223372036854775807)
     (c_0 : V.cell? ⟨b, o + i * 3, none⟩ = some (.string s0)) (c2_0 : V.cell? ⟨b', o' + i * 3, none⟩ = some (.string s0')) (c_1 : V.cell? ⟨b, o + i * 3 + 1, none⟩ = some (.int .i64 n0)) (c2_1 : V.cell? ⟨b', o' + i * 3 + 1, none⟩ = some (.int .i64 n0')) (c_2 : V.cell? ⟨b, o + i * 3 + 2, none⟩ = some (.int .i64 n1)) (c2_2 : V.cell? ⟨b', o' + i * 3 + 2, none⟩ = some (.int .i64 n1')) (z_agg : Hid (cond c1 (s0.toList = s0'.toList ∧ n0 = n0' ∧ n1 = n1') (¬ (s0.toList = s0'.toList ∧ n0 = n0' ∧ n1 = n1'))))
    (fin : ∀ w' f, Below V.heap.size V w' → f 229 = cond c1 (.bool false) (.bool true) → Q .normal (Fv 303 (ovv f0 f 219 11)) w') :
    (Code.region 36 ops36 true).wp Tryd.prog Q (Fv 303 f0) V := by
  refine region_vals hmix 303 219 11 rfl (by kernel_rfl) (fun t => match t with | 219 => .pointer (some ⟨H, 6, none⟩) | 220 => .slice (some ⟨b, o, none⟩) N k0 | 221 => .int .i64 (i : Int) | 222 => .pointer (some ⟨b, o + i * 3, none⟩) | 223 => .agg #[.string s0, .int .i64 n0, .int .i64 n1] | 224 => .pointer (some ⟨H2, 6, none⟩) | 225 => .slice (some ⟨b', o', none⟩) N' k0' | 226 => .int .i64 (i : Int) | 227 => .pointer (some ⟨b', o' + i * 3, none⟩) | 228 => .agg #[.string s0', .int .i64 n0', .int .i64 n1'] | 229 => cond c1 (.bool false) (.bool true) | _ => undef) ?_ (fun w' hb => fin w' _ hb rfl)
  intro i' hi' f w' hb ho hv
  have l1 : (i : Int) < (N : Int) := by omega
  have l2 : (i : Int) < (N' : Int) := by omega
  match i', hi' with
  | 0, _ =>
    have e2 : f 2 = .pointer (some ⟨H, 0, none⟩) := (ho 2 (by decide)).trans f2
    have g2 := fv_get (n := 303) (by decide) e2
    refine wpOp_step (o := { dst := some 219, op := Op.fieldAddr 32 (Operand.tmp 2) 6, type := 0, pos := "ref.go:342", after := #[], guard := none }) rfl ?_
    intro K' hK'
    rw [if_pos (wanted_none rfl)]
    go_simp
    (try simp only [g2])
    (try go_simp)
    exact hK' _ _ ⟨fv_set _ _, Below.refl _ _⟩
  | 1, _ =>
    have e219 : f 219 = .pointer (some ⟨H, 6, none⟩) := hv 0 (by kernel_rfl)
    have g219 := fv_get (n := 303) (by decide) e219
    have c220_0 := keep_below hb _ _ x
    refine wpOp_step (o := { dst := some 220, op := Op.load 27 (Operand.tmp 219), type := 27, pos := "ref.go:342", after := #[{ on := 0, ground := Ground.data }], guard := none }) rfl ?_
    intro K' hK'
    rw [if_pos (wanted_none rfl)]
    go_simp
    (try simp only [g219])
    (try go_simp)
    exact hK' _ _ ⟨fv_set _ _, Below.refl _ _⟩
  | 2, _ =>
    have e11 : f 11 = .int .i64 (i : Int) := (ho 11 (by decide)).trans fi
    have g11 := fv_get (n := 303) (by decide) e11
    refine wpOp_step (o := { dst := some 221, op := Op.move (Operand.tmp 11), type := 3, pos := "ref.go:342", after := #[], guard := none }) rfl ?_
    intro K' hK'
    rw [if_pos (wanted_none rfl)]
    go_simp
    (try simp only [g11])
    (try go_simp)
    exact hK' _ _ ⟨fv_set _ _, Below.refl _ _⟩
  | 3, _ =>
    have e220 : f 220 = .slice (some ⟨b, o, none⟩) N k0 := hv 1 (by kernel_rfl)
    have g220 := fv_get (n := 303) (by decide) e220
    have e221 : f 221 = .int .i64 (i : Int) := hv 2 (by kernel_rfl)
    have g221 := fv_get (n := 303) (by decide) e221
    refine wpOp_step (o := { dst := some 222, op := Op.indexAddr 27 (Operand.tmp 220) (Operand.tmp 221), type := 0, pos := "ref.go:342", after := #[{ on := 1, ground := Ground.data }, { on := 2, ground := Ground.data }], guard := none }) rfl ?_
    intro K' hK'
    rw [if_pos (wanted_none rfl)]
    go_simp
    (try simp only [g220, g221])
    (try go_simp)
    exact hK' _ _ ⟨fv_set _ _, Below.refl _ _⟩
  | 4, _ =>
    have e222 : f 222 = .pointer (some ⟨b, o + i * 3, none⟩) := hv 3 (by kernel_rfl)
    have g222 := fv_get (n := 303) (by decide) e222
    have c223_0 := keep_below hb _ _ c_0
    have c223_1 := keep_below hb _ _ c_1
    have c223_2 := keep_below hb _ _ c_2
    refine wpOp_step (o := { dst := some 223, op := Op.load 76 (Operand.tmp 222), type := 76, pos := "ref.go:342", after := #[{ on := 3, ground := Ground.data }], guard := none }) rfl ?_
    intro K' hK'
    rw [if_pos (wanted_none rfl)]
    go_simp
    (try simp only [g222])
    (try go_simp)
    exact hK' _ _ ⟨fv_set _ _, Below.refl _ _⟩
  | 5, _ =>
    have e3 : f 3 = .pointer (some ⟨H2, 0, none⟩) := (ho 3 (by decide)).trans f3
    have g3 := fv_get (n := 303) (by decide) e3
    refine wpOp_step (o := { dst := some 224, op := Op.fieldAddr 32 (Operand.tmp 3) 6, type := 0, pos := "ref.go:342", after := #[], guard := none }) rfl ?_
    intro K' hK'
    rw [if_pos (wanted_none rfl)]
    go_simp
    (try simp only [g3])
    (try go_simp)
    exact hK' _ _ ⟨fv_set _ _, Below.refl _ _⟩
  | 6, _ =>
    have e224 : f 224 = .pointer (some ⟨H2, 6, none⟩) := hv 5 (by kernel_rfl)
    have g224 := fv_get (n := 303) (by decide) e224
    have c225_0 := keep_below hb _ _ x'
    refine wpOp_step (o := { dst := some 225, op := Op.load 27 (Operand.tmp 224), type := 27, pos := "ref.go:342", after := #[{ on := 5, ground := Ground.data }], guard := none }) rfl ?_
    intro K' hK'
    rw [if_pos (wanted_none rfl)]
    go_simp
    (try simp only [g224])
    (try go_simp)
    exact hK' _ _ ⟨fv_set _ _, Below.refl _ _⟩
  | 7, _ =>
    have e11 : f 11 = .int .i64 (i : Int) := (ho 11 (by decide)).trans fi
    have g11 := fv_get (n := 303) (by decide) e11
    refine wpOp_step (o := { dst := some 226, op := Op.move (Operand.tmp 11), type := 3, pos := "ref.go:342", after := #[], guard := none }) rfl ?_
    intro K' hK'
    rw [if_pos (wanted_none rfl)]
    go_simp
    (try simp only [g11])
    (try go_simp)
    exact hK' _ _ ⟨fv_set _ _, Below.refl _ _⟩
  | 8, _ =>
    have e225 : f 225 = .slice (some ⟨b', o', none⟩) N' k0' := hv 6 (by kernel_rfl)
    have g225 := fv_get (n := 303) (by decide) e225
    have e226 : f 226 = .int .i64 (i : Int) := hv 7 (by kernel_rfl)
    have g226 := fv_get (n := 303) (by decide) e226
    refine wpOp_step (o := { dst := some 227, op := Op.indexAddr 27 (Operand.tmp 225) (Operand.tmp 226), type := 0, pos := "ref.go:342", after := #[{ on := 6, ground := Ground.data }, { on := 7, ground := Ground.data }], guard := none }) rfl ?_
    intro K' hK'
    rw [if_pos (wanted_none rfl)]
    go_simp
    (try simp only [g225, g226])
    (try go_simp)
    exact hK' _ _ ⟨fv_set _ _, Below.refl _ _⟩
  | 9, _ =>
    have e227 : f 227 = .pointer (some ⟨b', o' + i * 3, none⟩) := hv 8 (by kernel_rfl)
    have g227 := fv_get (n := 303) (by decide) e227
    have c228_0 := keep_below hb _ _ c2_0
    have c228_1 := keep_below hb _ _ c2_1
    have c228_2 := keep_below hb _ _ c2_2
    refine wpOp_step (o := { dst := some 228, op := Op.load 76 (Operand.tmp 227), type := 76, pos := "ref.go:342", after := #[{ on := 8, ground := Ground.data }], guard := none }) rfl ?_
    intro K' hK'
    rw [if_pos (wanted_none rfl)]
    go_simp
    (try simp only [g227])
    (try go_simp)
    exact hK' _ _ ⟨fv_set _ _, Below.refl _ _⟩
  | 10, _ =>
    cases c1
    · have e223 : f 223 = .agg #[.string s0, .int .i64 n0, .int .i64 n1] := hv 4 (by kernel_rfl)
      have g223 := fv_get (n := 303) (by decide) e223
      have e228 : f 228 = .agg #[.string s0', .int .i64 n0', .int .i64 n1'] := hv 9 (by kernel_rfl)
      have g228 := fv_get (n := 303) (by decide) e228
      refine wpOp_step (o := { dst := some 229, op := Op.binOp BinOp.neq 76 (Operand.tmp 223) (Operand.tmp 228) 76, type := 4, pos := "ref.go:342", after := #[{ on := 4, ground := Ground.data }, { on := 9, ground := Ground.data }], guard := none }) rfl ?_
      intro K' hK'
      rw [if_pos (wanted_none rfl)]
      go_simp
      (try simp only [g223, g228])
      (try go_simp)
      (repeat' split)
      all_goals first | (exfalso; exact z_agg.out ⟨‹_›, ‹_›, ‹_›⟩) | (go_simp; exact hK' _ _ ⟨fv_set _ _, Below.refl _ _⟩)
    · have e223 : f 223 = .agg #[.string s0, .int .i64 n0, .int .i64 n1] := hv 4 (by kernel_rfl)
      have g223 := fv_get (n := 303) (by decide) e223
      have e228 : f 228 = .agg #[.string s0', .int .i64 n0', .int .i64 n1'] := hv 9 (by kernel_rfl)
      have g228 := fv_get (n := 303) (by decide) e228
      refine wpOp_step (o := { dst := some 229, op := Op.binOp BinOp.neq 76 (Operand.tmp 223) (Operand.tmp 228) 76, type := 4, pos := "ref.go:342", after := #[{ on := 4, ground := Ground.data }, { on := 9, ground := Ground.data }], guard := none }) rfl ?_
      intro K' hK'
      rw [if_pos (wanted_none rfl)]
      go_simp
      (try simp only [g223, g228])
      (try go_simp)
      rw [if_pos z_agg.out.1, if_pos z_agg.out.2.1, if_pos z_agg.out.2.2]
      go_simp
      exact hK' _ _ ⟨fv_set _ _, Below.refl _ _⟩
  | k + 11, h => exact absurd h (by omega)
def ops16 : Array Oper := #[{ dst := some 80, op := Op.fieldAddr 32 (Operand.tmp 2) 2, type := 0, pos := "ref.go:322", after := #[], guard := none }, { dst := some 81, op := Op.load 24 (Operand.tmp 80), type := 24, pos := "ref.go:322", after := #[{ on := 0, ground := Ground.data }], guard := none }, { dst := some 82, op := Op.move (Operand.tmp 7), type := 3, pos := "ref.go:322", after := #[], guard := none }, { dst := some 83, op := Op.indexAddr 24 (Operand.tmp 81) (Operand.tmp 82), type := 0, pos := "ref.go:322", after := #[{ on := 1, ground := Ground.data }, { on := 2, ground := Ground.data }], guard := none }, { dst := some 84, op := Op.fieldAddr 42 (Operand.tmp 83) 0, type := 0, pos := "ref.go:322", after := #[{ on := 3, ground := Ground.data }], guard := none }, { dst := some 85, op := Op.load 3 (Operand.tmp 84), type := 3, pos := "ref.go:322", after := #[{ on := 4, ground := Ground.data }], guard := none }, { dst := some 86, op := Op.fieldAddr 32 (Operand.tmp 3) 2, type := 0, pos := "ref.go:322", after := #[], guard := none }, { dst := some 87, op := Op.load 24 (Operand.tmp 86), type := 24, pos := "ref.go:322", after := #[{ on := 6, ground := Ground.data }], guard := none }, { dst := some 88, op := Op.move (Operand.tmp 7), type := 3, pos := "ref.go:322", after := #[], guard := none }, { dst := some 89, op := Op.indexAddr 24 (Operand.tmp 87) (Operand.tmp 88), type := 0, pos := "ref.go:322", after := #[{ on := 7, ground := Ground.data }, { on := 8, ground := Ground.data }], guard := none }, { dst := some 90, op := Op.fieldAddr 42 (Operand.tmp 89) 0, type := 0, pos := "ref.go:322", after := #[{ on := 9, ground := Ground.data }], guard := none }, { dst := some 91, op := Op.load 3 (Operand.tmp 90), type := 3, pos := "ref.go:322", after := #[{ on := 10, ground := Ground.data }], guard := none }, { dst := some 92, op := Op.binOp BinOp.neq 3 (Operand.tmp 85) (Operand.tmp 91) 3, type := 4, pos := "ref.go:322", after := #[{ on := 5, ground := Ground.data }, { on := 11, ground := Ground.data }], guard := none }, { dst := some 93, op := Op.move (Operand.tmp 92), type := 4, pos := "ref.go:322", after := #[{ on := 12, ground := Ground.data }], guard := none }, { dst := some 94, op := Op.fieldAddr 32 (Operand.tmp 2) 2, type := 0, pos := "ref.go:322", after := #[{ on := 13, ground := Ground.guard }], guard := some (13, false) }, { dst := some 95, op := Op.load 24 (Operand.tmp 94), type := 24, pos := "ref.go:322", after := #[{ on := 14, ground := Ground.data }, { on := 13, ground := Ground.guard }], guard := some (13, false) }, { dst := some 96, op := Op.move (Operand.tmp 7), type := 3, pos := "ref.go:322", after := #[{ on := 13, ground := Ground.guard }], guard := some (13, false) }, { dst := some 97, op := Op.indexAddr 24 (Operand.tmp 95) (Operand.tmp 96), type := 0, pos := "ref.go:322", after := #[{ on := 15, ground := Ground.data }, { on := 16, ground := Ground.data }, { on := 13, ground := Ground.guard }], guard := some (13, false) }, { dst := some 98, op := Op.fieldAddr 42 (Operand.tmp 97) 1, type := 0, pos := "ref.go:322", after := #[{ on := 17, ground := Ground.data }, { on := 13, ground := Ground.guard }], guard := some (13, false) }, { dst := some 99, op := Op.load 28 (Operand.tmp 98), type := 28, pos := "ref.go:322", after := #[{ on := 18, ground := Ground.data }, { on := 13, ground := Ground.guard }], guard := some (13, false) }, { dst := some 100, op := Op.fieldAddr 32 (Operand.tmp 3) 2, type := 0, pos := "ref.go:322", after := #[{ on := 13, ground := Ground.guard }], guard := some (13, false) }, { dst := some 101, op := Op.load 24 (Operand.tmp 100), type := 24, pos := "ref.go:322", after := #[{ on := 20, ground := Ground.data }, { on := 13, ground := Ground.guard }], guard := some (13, false) }, { dst := some 102, op := Op.move (Operand.tmp 7), type := 3, pos := "ref.go:322", after := #[{ on := 13, ground := Ground.guard }], guard := some (13, false) }, { dst := some 103, op := Op.indexAddr 24 (Operand.tmp 101) (Operand.tmp 102), type := 0, pos := "ref.go:322", after := #[{ on := 21, ground := Ground.data }, { on := 22, ground := Ground.data }, { on := 13, ground := Ground.guard }], guard := some (13, false) }, { dst := some 104, op := Op.fieldAddr 42 (Operand.tmp 103) 1, type := 0, pos := "ref.go:322", after := #[{ on := 23, ground := Ground.data }, { on := 13, ground := Ground.guard }], guard := some (13, false) }, { dst := some 105, op := Op.load 28 (Operand.tmp 104), type := 28, pos := "ref.go:322", after := #[{ on := 24, ground := Ground.data }, { on := 13, ground := Ground.guard }], guard := some (13, false) }, { dst := some 106, op := Op.call { callee := Callee.value (Operand.func 33), args := #[Operand.tmp 99, Operand.tmp 105], argTypes := #[28, 28] }, type := 4, pos := "ref.go:322", after := #[{ on := 19, ground := Ground.data }, { on := 25, ground := Ground.data }, { on := 13, ground := Ground.chain }, { on := 13, ground := Ground.guard }], guard := some (13, false) }, { dst := some 107, op := Op.unOp UnOp.not 4 (Operand.tmp 106), type := 4, pos := "ref.go:322", after := #[{ on := 26, ground := Ground.data }, { on := 13, ground := Ground.guard }], guard := some (13, false) }, { dst := some 108, op := Op.pick (Operand.tmp 93) (Operand.const (Value.bool true)) (Operand.tmp 107), type := 4, pos := "ref.go:322", after := #[{ on := 13, ground := Ground.data }, { on := 27, ground := Ground.data }], guard := none }, { dst := some 109, op := Op.move (Operand.tmp 108), type := 4, pos := "ref.go:322", after := #[{ on := 28, ground := Ground.data }, { on := 26, ground := Ground.chain }], guard := none }, { dst := some 110, op := Op.fieldAddr 32 (Operand.tmp 2) 2, type := 0, pos := "ref.go:322", after := #[{ on := 29, ground := Ground.guard }], guard := some (29, false) }, { dst := some 111, op := Op.load 24 (Operand.tmp 110), type := 24, pos := "ref.go:322", after := #[{ on := 30, ground := Ground.data }, { on := 29, ground := Ground.guard }], guard := some (29, false) }, { dst := some 112, op := Op.move (Operand.tmp 7), type := 3, pos := "ref.go:322", after := #[{ on := 29, ground := Ground.guard }], guard := some (29, false) }, { dst := some 113, op := Op.indexAddr 24 (Operand.tmp 111) (Operand.tmp 112), type := 0, pos := "ref.go:322", after := #[{ on := 31, ground := Ground.data }, { on := 32, ground := Ground.data }, { on := 29, ground := Ground.guard }], guard := some (29, false) }, { dst := some 114, op := Op.fieldAddr 42 (Operand.tmp 113) 2, type := 0, pos := "ref.go:322", after := #[{ on := 33, ground := Ground.data }, { on := 29, ground := Ground.guard }], guard := some (29, false) }, { dst := some 115, op := Op.load 40 (Operand.tmp 114), type := 40, pos := "ref.go:322", after := #[{ on := 34, ground := Ground.data }, { on := 29, ground := Ground.guard }], guard := some (29, false) }, { dst := some 116, op := Op.fieldAddr 32 (Operand.tmp 3) 2, type := 0, pos := "ref.go:322", after := #[{ on := 29, ground := Ground.guard }], guard := some (29, false) }, { dst := some 117, op := Op.load 24 (Operand.tmp 116), type := 24, pos := "ref.go:322", after := #[{ on := 36, ground := Ground.data }, { on := 29, ground := Ground.guard }], guard := some (29, false) }, { dst := some 118, op := Op.move (Operand.tmp 7), type := 3, pos := "ref.go:322", after := #[{ on := 29, ground := Ground.guard }], guard := some (29, false) }, { dst := some 119, op := Op.indexAddr 24 (Operand.tmp 117) (Operand.tmp 118), type := 0, pos := "ref.go:322", after := #[{ on := 37, ground := Ground.data }, { on := 38, ground := Ground.data }, { on := 29, ground := Ground.guard }], guard := some (29, false) }, { dst := some 120, op := Op.fieldAddr 42 (Operand.tmp 119) 2, type := 0, pos := "ref.go:322", after := #[{ on := 39, ground := Ground.data }, { on := 29, ground := Ground.guard }], guard := some (29, false) }, { dst := some 121, op := Op.load 40 (Operand.tmp 120), type := 40, pos := "ref.go:322", after := #[{ on := 40, ground := Ground.data }, { on := 29, ground := Ground.guard }], guard := some (29, false) }, { dst := some 122, op := Op.call { callee := Callee.value (Operand.func 34), args := #[Operand.tmp 115, Operand.tmp 121], argTypes := #[40, 40] }, type := 4, pos := "ref.go:322", after := #[{ on := 35, ground := Ground.data }, { on := 41, ground := Ground.data }, { on := 29, ground := Ground.chain }, { on := 29, ground := Ground.guard }], guard := some (29, false) }, { dst := some 123, op := Op.unOp UnOp.not 4 (Operand.tmp 122), type := 4, pos := "ref.go:322", after := #[{ on := 42, ground := Ground.data }, { on := 29, ground := Ground.guard }], guard := some (29, false) }, { dst := some 124, op := Op.pick (Operand.tmp 109) (Operand.const (Value.bool true)) (Operand.tmp 123), type := 4, pos := "ref.go:322", after := #[{ on := 29, ground := Ground.data }, { on := 43, ground := Ground.data }], guard := none }]
set_option maxRecDepth 100000 in
set_option maxHeartbeats 4000000 in
theorem reg16 {Q : Exit → Act → World → Prop} {f0 : Nat → Value} {V : World} {H H2 : Nat} {b o N k0 : Nat} {b' o' N' k0' : Nat} {i : Nat} {ty ty' : Int} {lo lo' : List Int} {a_lo a_lo' : Option Addr} {k_lo k_lo' : Nat} {bo bo' : Il} {a_bo a_bo' : Option Addr} {k_bo k_bo' : Nat} {c1 c2 c3 : Bool}
    (hmix : Tryd.prog.follows .mixedOrders = true) (f2 : f0 2 = .pointer (some ⟨H, 0, none⟩)) (f3 : f0 3 = .pointer (some ⟨H2, 0, none⟩)) (fi : f0 7 = .int .i64 (i : Int))
    (x : V.cell? ⟨H, 2, none⟩ = some (.slice (some ⟨b, o, none⟩) N k0)) (x' : V.cell? ⟨H2, 2, none⟩ = some (.slice (some ⟨b', o', none⟩) N' k0')) (hiN : i < N) (hiN' : i < N') (hN : N ≤ 9223372036854775807) (hN' : N' ≤ 9223372036854775807)
     (c_0 : V.cell? ⟨b, o + i * 3, none⟩ = some (.int .i64 ty)) (c2_0 : V.cell? ⟨b', o' + i * 3, none⟩ = some (.int .i64 ty')) (c_1 : V.cell? ⟨b, o + i * 3 + 1, none⟩ = some (.slice a_lo lo.length k_lo)) (c2_1 : V.cell? ⟨b', o' + i * 3 + 1, none⟩ = some (.slice a_lo' lo'.length k_lo')) (c_2 : V.cell? ⟨b, o + i * 3 + 2, none⟩ = some (.slice a_bo bo.len k_bo)) (c2_2 : V.cell? ⟨b', o' + i * 3 + 2, none⟩ = some (.slice a_bo' bo'.len k_bo')) (i_lo : IntsIn V a_lo lo) (i_lo2 : IntsIn V a_lo' lo') (n_bo : bo.len ≤ 9223372036854775807) (n_bo2 : bo'.len ≤ 9223372036854775807) (i_bo : IlIn V a_bo 0 bo) (i_bo2 : IlIn V a_bo' 0 bo') (z_ty : (ty != ty') = !c1) (d_lo : decide (lo = lo') = c2) (d_bo : ilEq bo bo' = c3)
    (fin : ∀ w' f, Below V.heap.size V w' → f 124 = cond c1 (cond c2 (.bool (!c3)) (.bool true)) (.bool true) → Q .normal (Fv 303 (ovv f0 f 80 45)) w') :
    (Code.region 16 ops16 true).wp Tryd.prog Q (Fv 303 f0) V := by
  refine region_vals hmix 303 80 45 rfl (by kernel_rfl) (fun t => match t with | 80 => .pointer (some ⟨H, 2, none⟩) | 81 => .slice (some ⟨b, o, none⟩) N k0 | 82 => .int .i64 (i : Int) | 83 => .pointer (some ⟨b, o + i * 3, none⟩) | 84 => .pointer (some ⟨b, o + i * 3, none⟩) | 85 => .int .i64 ty | 86 => .pointer (some ⟨H2, 2, none⟩) | 87 => .slice (some ⟨b', o', none⟩) N' k0' | 88 => .int .i64 (i : Int) | 89 => .pointer (some ⟨b', o' + i * 3, none⟩) | 90 => .pointer (some ⟨b', o' + i * 3, none⟩) | 91 => .int .i64 ty' | 92 => cond c1 (.bool (!c1)) (.bool (!c1)) | 93 => cond c1 (.bool (!c1)) (.bool (!c1)) | 94 => cond c1 (.pointer (some ⟨H, 2, none⟩)) (undef) | 95 => cond c1 (.slice (some ⟨b, o, none⟩) N k0) (undef) | 96 => cond c1 (.int .i64 (i : Int)) (undef) | 97 => cond c1 (.pointer (some ⟨b, o + i * 3, none⟩)) (undef) | 98 => cond c1 (.pointer (some ⟨b, o + i * 3 + 1, none⟩)) (undef) | 99 => cond c1 (.slice a_lo lo.length k_lo) (undef) | 100 => cond c1 (.pointer (some ⟨H2, 2, none⟩)) (undef) | 101 => cond c1 (.slice (some ⟨b', o', none⟩) N' k0') (undef) | 102 => cond c1 (.int .i64 (i : Int)) (undef) | 103 => cond c1 (.pointer (some ⟨b', o' + i * 3, none⟩)) (undef) | 104 => cond c1 (.pointer (some ⟨b', o' + i * 3 + 1, none⟩)) (undef) | 105 => cond c1 (.slice a_lo' lo'.length k_lo') (undef) | 106 => cond c1 (.bool c2) (undef) | 107 => cond c1 (.bool (!c2)) (undef) | 108 => cond c1 (.bool (!c2)) (.bool true) | 109 => cond c1 (.bool (!c2)) (.bool true) | 110 => cond c1 (cond c2 (.pointer (some ⟨H, 2, none⟩)) (undef)) (undef) | 111 => cond c1 (cond c2 (.slice (some ⟨b, o, none⟩) N k0) (undef)) (undef) | 112 => cond c1 (cond c2 (.int .i64 (i : Int)) (undef)) (undef) | 113 => cond c1 (cond c2 (.pointer (some ⟨b, o + i * 3, none⟩)) (undef)) (undef) | 114 => cond c1 (cond c2 (.pointer (some ⟨b, o + i * 3 + 2, none⟩)) (undef)) (undef) | 115 => cond c1 (cond c2 (.slice a_bo bo.len k_bo) (undef)) (undef) | 116 => cond c1 (cond c2 (.pointer (some ⟨H2, 2, none⟩)) (undef)) (undef) | 117 => cond c1 (cond c2 (.slice (some ⟨b', o', none⟩) N' k0') (undef)) (undef) | 118 => cond c1 (cond c2 (.int .i64 (i : Int)) (undef)) (undef) | 119 => cond c1 (cond c2 (.pointer (some ⟨b', o' + i * 3, none⟩)) (undef)) (undef) | 120 => cond c1 (cond c2 (.pointer (some ⟨b', o' + i * 3 + 2, none⟩)) (undef)) (undef) | 121 => cond c1 (cond c2 (.slice a_bo' bo'.len k_bo') (undef)) (undef) | 122 => cond c1 (cond c2 (.bool c3) (undef)) (undef) | 123 => cond c1 (cond c2 (.bool (!c3)) (undef)) (undef) | 124 => cond c1 (cond c2 (.bool (!c3)) (.bool true)) (.bool true) | _ => undef) ?_ (fun w' hb => fin w' _ hb rfl)
  intro i' hi' f w' hb ho hv
  have l1 : (i : Int) < (N : Int) := by omega
  have l2 : (i : Int) < (N' : Int) := by omega
  match i', hi' with
  | 0, _ =>
    have e2 : f 2 = .pointer (some ⟨H, 0, none⟩) := (ho 2 (by decide)).trans f2
    have g2 := fv_get (n := 303) (by decide) e2
    refine wpOp_step (o := { dst := some 80, op := Op.fieldAddr 32 (Operand.tmp 2) 2, type := 0, pos := "ref.go:322", after := #[], guard := none }) rfl ?_
    intro K' hK'
    rw [if_pos (wanted_none rfl)]
    go_simp
    (try simp only [g2])
    (try go_simp)
    exact hK' _ _ ⟨fv_set _ _, Below.refl _ _⟩
  | 1, _ =>
    have e80 : f 80 = .pointer (some ⟨H, 2, none⟩) := hv 0 (by kernel_rfl)
    have g80 := fv_get (n := 303) (by decide) e80
    have c81_0 := keep_below hb _ _ x
    refine wpOp_step (o := { dst := some 81, op := Op.load 24 (Operand.tmp 80), type := 24, pos := "ref.go:322", after := #[{ on := 0, ground := Ground.data }], guard := none }) rfl ?_
    intro K' hK'
    rw [if_pos (wanted_none rfl)]
    go_simp
    (try simp only [g80])
    (try go_simp)
    exact hK' _ _ ⟨fv_set _ _, Below.refl _ _⟩
  | 2, _ =>
    have e7 : f 7 = .int .i64 (i : Int) := (ho 7 (by decide)).trans fi
    have g7 := fv_get (n := 303) (by decide) e7
    refine wpOp_step (o := { dst := some 82, op := Op.move (Operand.tmp 7), type := 3, pos := "ref.go:322", after := #[], guard := none }) rfl ?_
    intro K' hK'
    rw [if_pos (wanted_none rfl)]
    go_simp
    (try simp only [g7])
    (try go_simp)
    exact hK' _ _ ⟨fv_set _ _, Below.refl _ _⟩
  | 3, _ =>
    have e81 : f 81 = .slice (some ⟨b, o, none⟩) N k0 := hv 1 (by kernel_rfl)
    have g81 := fv_get (n := 303) (by decide) e81
    have e82 : f 82 = .int .i64 (i : Int) := hv 2 (by kernel_rfl)
    have g82 := fv_get (n := 303) (by decide) e82
    refine wpOp_step (o := { dst := some 83, op := Op.indexAddr 24 (Operand.tmp 81) (Operand.tmp 82), type := 0, pos := "ref.go:322", after := #[{ on := 1, ground := Ground.data }, { on := 2, ground := Ground.data }], guard := none }) rfl ?_
    intro K' hK'
    rw [if_pos (wanted_none rfl)]
    go_simp
    (try simp only [g81, g82])
    (try go_simp)
    exact hK' _ _ ⟨fv_set _ _, Below.refl _ _⟩
  | 4, _ =>
    have e83 : f 83 = .pointer (some ⟨b, o + i * 3, none⟩) := hv 3 (by kernel_rfl)
    have g83 := fv_get (n := 303) (by decide) e83
    refine wpOp_step (o := { dst := some 84, op := Op.fieldAddr 42 (Operand.tmp 83) 0, type := 0, pos := "ref.go:322", after := #[{ on := 3, ground := Ground.data }], guard := none }) rfl ?_
    intro K' hK'
    rw [if_pos (wanted_none rfl)]
    go_simp
    (try simp only [g83])
    (try go_simp)
    exact hK' _ _ ⟨fv_set _ _, Below.refl _ _⟩
  | 5, _ =>
    have e84 : f 84 = .pointer (some ⟨b, o + i * 3, none⟩) := hv 4 (by kernel_rfl)
    have g84 := fv_get (n := 303) (by decide) e84
    have c85_0 := keep_below hb _ _ c_0
    refine wpOp_step (o := { dst := some 85, op := Op.load 3 (Operand.tmp 84), type := 3, pos := "ref.go:322", after := #[{ on := 4, ground := Ground.data }], guard := none }) rfl ?_
    intro K' hK'
    rw [if_pos (wanted_none rfl)]
    go_simp
    (try simp only [g84])
    (try go_simp)
    exact hK' _ _ ⟨fv_set _ _, Below.refl _ _⟩
  | 6, _ =>
    have e3 : f 3 = .pointer (some ⟨H2, 0, none⟩) := (ho 3 (by decide)).trans f3
    have g3 := fv_get (n := 303) (by decide) e3
    refine wpOp_step (o := { dst := some 86, op := Op.fieldAddr 32 (Operand.tmp 3) 2, type := 0, pos := "ref.go:322", after := #[], guard := none }) rfl ?_
    intro K' hK'
    rw [if_pos (wanted_none rfl)]
    go_simp
    (try simp only [g3])
    (try go_simp)
    exact hK' _ _ ⟨fv_set _ _, Below.refl _ _⟩
  | 7, _ =>
    have e86 : f 86 = .pointer (some ⟨H2, 2, none⟩) := hv 6 (by kernel_rfl)
    have g86 := fv_get (n := 303) (by decide) e86
    have c87_0 := keep_below hb _ _ x'
    refine wpOp_step (o := { dst := some 87, op := Op.load 24 (Operand.tmp 86), type := 24, pos := "ref.go:322", after := #[{ on := 6, ground := Ground.data }], guard := none }) rfl ?_
    intro K' hK'
    rw [if_pos (wanted_none rfl)]
    go_simp
    (try simp only [g86])
    (try go_simp)
    exact hK' _ _ ⟨fv_set _ _, Below.refl _ _⟩
  | 8, _ =>
    have e7 : f 7 = .int .i64 (i : Int) := (ho 7 (by decide)).trans fi
    have g7 := fv_get (n := 303) (by decide) e7
    refine wpOp_step (o := { dst := some 88, op := Op.move (Operand.tmp 7), type := 3, pos := "ref.go:322", after := #[], guard := none }) rfl ?_
    intro K' hK'
    rw [if_pos (wanted_none rfl)]
    go_simp
    (try simp only [g7])
    (try go_simp)
    exact hK' _ _ ⟨fv_set _ _, Below.refl _ _⟩
  | 9, _ =>
    have e87 : f 87 = .slice (some ⟨b', o', none⟩) N' k0' := hv 7 (by kernel_rfl)
    have g87 := fv_get (n := 303) (by decide) e87
    have e88 : f 88 = .int .i64 (i : Int) := hv 8 (by kernel_rfl)
    have g88 := fv_get (n := 303) (by decide) e88
    refine wpOp_step (o := { dst := some 89, op := Op.indexAddr 24 (Operand.tmp 87) (Operand.tmp 88), type := 0, pos := "ref.go:322", after := #[{ on := 7, ground := Ground.data }, { on := 8, ground := Ground.data }], guard := none }) rfl ?_
    intro K' hK'
    rw [if_pos (wanted_none rfl)]
    go_simp
    (try simp only [g87, g88])
    (try go_simp)
    exact hK' _ _ ⟨fv_set _ _, Below.refl _ _⟩
  | 10, _ =>
    have e89 : f 89 = .pointer (some ⟨b', o' + i * 3, none⟩) := hv 9 (by kernel_rfl)
    have g89 := fv_get (n := 303) (by decide) e89
    refine wpOp_step (o := { dst := some 90, op := Op.fieldAddr 42 (Operand.tmp 89) 0, type := 0, pos := "ref.go:322", after := #[{ on := 9, ground := Ground.data }], guard := none }) rfl ?_
    intro K' hK'
    rw [if_pos (wanted_none rfl)]
    go_simp
    (try simp only [g89])
    (try go_simp)
    exact hK' _ _ ⟨fv_set _ _, Below.refl _ _⟩
  | 11, _ =>
    have e90 : f 90 = .pointer (some ⟨b', o' + i * 3, none⟩) := hv 10 (by kernel_rfl)
    have g90 := fv_get (n := 303) (by decide) e90
    have c91_0 := keep_below hb _ _ c2_0
    refine wpOp_step (o := { dst := some 91, op := Op.load 3 (Operand.tmp 90), type := 3, pos := "ref.go:322", after := #[{ on := 10, ground := Ground.data }], guard := none }) rfl ?_
    intro K' hK'
    rw [if_pos (wanted_none rfl)]
    go_simp
    (try simp only [g90])
    (try go_simp)
    exact hK' _ _ ⟨fv_set _ _, Below.refl _ _⟩
  | 12, _ =>
    cases c1
    · have e85 : f 85 = .int .i64 ty := hv 5 (by kernel_rfl)
      have g85 := fv_get (n := 303) (by decide) e85
      have e91 : f 91 = .int .i64 ty' := hv 11 (by kernel_rfl)
      have g91 := fv_get (n := 303) (by decide) e91
      have dq := z_ty
      refine wpOp_step (o := { dst := some 92, op := Op.binOp BinOp.neq 3 (Operand.tmp 85) (Operand.tmp 91) 3, type := 4, pos := "ref.go:322", after := #[{ on := 5, ground := Ground.data }, { on := 11, ground := Ground.data }], guard := none }) rfl ?_
      intro K' hK'
      rw [if_pos (wanted_none rfl)]
      go_simp
      (try simp only [g85, g91])
      (try go_simp)
      exact hK' _ _ ⟨fv_set _ _, Below.refl _ _⟩
    · have e85 : f 85 = .int .i64 ty := hv 5 (by kernel_rfl)
      have g85 := fv_get (n := 303) (by decide) e85
      have e91 : f 91 = .int .i64 ty' := hv 11 (by kernel_rfl)
      have g91 := fv_get (n := 303) (by decide) e91
      have dq := z_ty
      refine wpOp_step (o := { dst := some 92, op := Op.binOp BinOp.neq 3 (Operand.tmp 85) (Operand.tmp 91) 3, type := 4, pos := "ref.go:322", after := #[{ on := 5, ground := Ground.data }, { on := 11, ground := Ground.data }], guard := none }) rfl ?_
      intro K' hK'
      rw [if_pos (wanted_none rfl)]
      go_simp
      (try simp only [g85, g91])
      (try go_simp)
      exact hK' _ _ ⟨fv_set _ _, Below.refl _ _⟩
  | 13, _ =>
    cases c1
    · have e92 : f 92 = .bool true := hv 12 (by kernel_rfl)
      have g92 := fv_get (n := 303) (by decide) e92
      refine wpOp_step (o := { dst := some 93, op := Op.move (Operand.tmp 92), type := 4, pos := "ref.go:322", after := #[{ on := 12, ground := Ground.data }], guard := none }) rfl ?_
      intro K' hK'
      rw [if_pos (wanted_none rfl)]
      go_simp
      (try simp only [g92])
      (try go_simp)
      exact hK' _ _ ⟨fv_set _ _, Below.refl _ _⟩
    · have e92 : f 92 = .bool false := hv 12 (by kernel_rfl)
      have g92 := fv_get (n := 303) (by decide) e92
      refine wpOp_step (o := { dst := some 93, op := Op.move (Operand.tmp 92), type := 4, pos := "ref.go:322", after := #[{ on := 12, ground := Ground.data }], guard := none }) rfl ?_
      intro K' hK'
      rw [if_pos (wanted_none rfl)]
      go_simp
      (try simp only [g92])
      (try go_simp)
      exact hK' _ _ ⟨fv_set _ _, Below.refl _ _⟩
  | 14, _ =>
    cases c1
    · exact step_off (o := { dst := some 94, op := Op.fieldAddr 32 (Operand.tmp 2) 2, type := 0, pos := "ref.go:322", after := #[{ on := 13, ground := Ground.guard }], guard := some (13, false) }) (g := 13) (d := 93) (c := true) rfl rfl rfl rfl (by decide) (hv 13 (by kernel_rfl)) rfl rfl
    · have e2 : f 2 = .pointer (some ⟨H, 0, none⟩) := (ho 2 (by decide)).trans f2
      have g2 := fv_get (n := 303) (by decide) e2
      have eg : f 93 = .bool false := hv 13 (by kernel_rfl)
      refine wpOp_step (o := { dst := some 94, op := Op.fieldAddr 32 (Operand.tmp 2) 2, type := 0, pos := "ref.go:322", after := #[{ on := 13, ground := Ground.guard }], guard := some (13, false) }) rfl ?_
      intro K' hK'
      rw [if_pos (by rw [wanted_some (g := 13) (d := 93) (b := false) (c := false) rfl rfl (by decide) eg]; rfl)]
      go_simp
      (try simp only [g2])
      (try go_simp)
      exact hK' _ _ ⟨fv_set _ _, Below.refl _ _⟩
  | 15, _ =>
    cases c1
    · exact step_off (o := { dst := some 95, op := Op.load 24 (Operand.tmp 94), type := 24, pos := "ref.go:322", after := #[{ on := 14, ground := Ground.data }, { on := 13, ground := Ground.guard }], guard := some (13, false) }) (g := 13) (d := 93) (c := true) rfl rfl rfl rfl (by decide) (hv 13 (by kernel_rfl)) rfl rfl
    · have e94 : f 94 = .pointer (some ⟨H, 2, none⟩) := hv 14 (by kernel_rfl)
      have g94 := fv_get (n := 303) (by decide) e94
      have eg : f 93 = .bool false := hv 13 (by kernel_rfl)
      have c95_0 := keep_below hb _ _ x
      refine wpOp_step (o := { dst := some 95, op := Op.load 24 (Operand.tmp 94), type := 24, pos := "ref.go:322", after := #[{ on := 14, ground := Ground.data }, { on := 13, ground := Ground.guard }], guard := some (13, false) }) rfl ?_
      intro K' hK'
      rw [if_pos (by rw [wanted_some (g := 13) (d := 93) (b := false) (c := false) rfl rfl (by decide) eg]; rfl)]
      go_simp
      (try simp only [g94])
      (try go_simp)
      exact hK' _ _ ⟨fv_set _ _, Below.refl _ _⟩
  | 16, _ =>
    cases c1
    · exact step_off (o := { dst := some 96, op := Op.move (Operand.tmp 7), type := 3, pos := "ref.go:322", after := #[{ on := 13, ground := Ground.guard }], guard := some (13, false) }) (g := 13) (d := 93) (c := true) rfl rfl rfl rfl (by decide) (hv 13 (by kernel_rfl)) rfl rfl
    · have e7 : f 7 = .int .i64 (i : Int) := (ho 7 (by decide)).trans fi
      have g7 := fv_get (n := 303) (by decide) e7
      have eg : f 93 = .bool false := hv 13 (by kernel_rfl)
      refine wpOp_step (o := { dst := some 96, op := Op.move (Operand.tmp 7), type := 3, pos := "ref.go:322", after := #[{ on := 13, ground := Ground.guard }], guard := some (13, false) }) rfl ?_
      intro K' hK'
      rw [if_pos (by rw [wanted_some (g := 13) (d := 93) (b := false) (c := false) rfl rfl (by decide) eg]; rfl)]
      go_simp
      (try simp only [g7])
      (try go_simp)
      exact hK' _ _ ⟨fv_set _ _, Below.refl _ _⟩
  | 17, _ =>
    cases c1
    · exact step_off (o := { dst := some 97, op := Op.indexAddr 24 (Operand.tmp 95) (Operand.tmp 96), type := 0, pos := "ref.go:322", after := #[{ on := 15, ground := Ground.data }, { on := 16, ground := Ground.data }, { on := 13, ground := Ground.guard }], guard := some (13, false) }) (g := 13) (d := 93) (c := true) rfl rfl rfl rfl (by decide) (hv 13 (by kernel_rfl)) rfl rfl
    · have e95 : f 95 = .slice (some ⟨b, o, none⟩) N k0 := hv 15 (by kernel_rfl)
      have g95 := fv_get (n := 303) (by decide) e95
      have e96 : f 96 = .int .i64 (i : Int) := hv 16 (by kernel_rfl)
      have g96 := fv_get (n := 303) (by decide) e96
      have eg : f 93 = .bool false := hv 13 (by kernel_rfl)
      refine wpOp_step (o := { dst := some 97, op := Op.indexAddr 24 (Operand.tmp 95) (Operand.tmp 96), type := 0, pos := "ref.go:322", after := #[{ on := 15, ground := Ground.data }, { on := 16, ground := Ground.data }, { on := 13, ground := Ground.guard }], guard := some (13, false) }) rfl ?_
      intro K' hK'
      rw [if_pos (by rw [wanted_some (g := 13) (d := 93) (b := false) (c := false) rfl rfl (by decide) eg]; rfl)]
      go_simp
      (try simp only [g95, g96])
      (try go_simp)
      exact hK' _ _ ⟨fv_set _ _, Below.refl _ _⟩
  | 18, _ =>
    cases c1
    · exact step_off (o := { dst := some 98, op := Op.fieldAddr 42 (Operand.tmp 97) 1, type := 0, pos := "ref.go:322", after := #[{ on := 17, ground := Ground.data }, { on := 13, ground := Ground.guard }], guard := some (13, false) }) (g := 13) (d := 93) (c := true) rfl rfl rfl rfl (by decide) (hv 13 (by kernel_rfl)) rfl rfl
    · have e97 : f 97 = .pointer (some ⟨b, o + i * 3, none⟩) := hv 17 (by kernel_rfl)
      have g97 := fv_get (n := 303) (by decide) e97
      have eg : f 93 = .bool false := hv 13 (by kernel_rfl)
      refine wpOp_step (o := { dst := some 98, op := Op.fieldAddr 42 (Operand.tmp 97) 1, type := 0, pos := "ref.go:322", after := #[{ on := 17, ground := Ground.data }, { on := 13, ground := Ground.guard }], guard := some (13, false) }) rfl ?_
      intro K' hK'
      rw [if_pos (by rw [wanted_some (g := 13) (d := 93) (b := false) (c := false) rfl rfl (by decide) eg]; rfl)]
      go_simp
      (try simp only [g97])
      (try go_simp)
      exact hK' _ _ ⟨fv_set _ _, Below.refl _ _⟩
  | 19, _ =>
    cases c1
    · exact step_off (o := { dst := some 99, op := Op.load 28 (Operand.tmp 98), type := 28, pos := "ref.go:322", after := #[{ on := 18, ground := Ground.data }, { on := 13, ground := Ground.guard }], guard := some (13, false) }) (g := 13) (d := 93) (c := true) rfl rfl rfl rfl (by decide) (hv 13 (by kernel_rfl)) rfl rfl
    · have e98 : f 98 = .pointer (some ⟨b, o + i * 3 + 1, none⟩) := hv 18 (by kernel_rfl)
      have g98 := fv_get (n := 303) (by decide) e98
      have eg : f 93 = .bool false := hv 13 (by kernel_rfl)
      have c99_0 := keep_below hb _ _ c_1
      refine wpOp_step (o := { dst := some 99, op := Op.load 28 (Operand.tmp 98), type := 28, pos := "ref.go:322", after := #[{ on := 18, ground := Ground.data }, { on := 13, ground := Ground.guard }], guard := some (13, false) }) rfl ?_
      intro K' hK'
      rw [if_pos (by rw [wanted_some (g := 13) (d := 93) (b := false) (c := false) rfl rfl (by decide) eg]; rfl)]
      go_simp
      (try simp only [g98])
      (try go_simp)
      exact hK' _ _ ⟨fv_set _ _, Below.refl _ _⟩
  | 20, _ =>
    cases c1
    · exact step_off (o := { dst := some 100, op := Op.fieldAddr 32 (Operand.tmp 3) 2, type := 0, pos := "ref.go:322", after := #[{ on := 13, ground := Ground.guard }], guard := some (13, false) }) (g := 13) (d := 93) (c := true) rfl rfl rfl rfl (by decide) (hv 13 (by kernel_rfl)) rfl rfl
    · have e3 : f 3 = .pointer (some ⟨H2, 0, none⟩) := (ho 3 (by decide)).trans f3
      have g3 := fv_get (n := 303) (by decide) e3
      have eg : f 93 = .bool false := hv 13 (by kernel_rfl)
      refine wpOp_step (o := { dst := some 100, op := Op.fieldAddr 32 (Operand.tmp 3) 2, type := 0, pos := "ref.go:322", after := #[{ on := 13, ground := Ground.guard }], guard := some (13, false) }) rfl ?_
      intro K' hK'
      rw [if_pos (by rw [wanted_some (g := 13) (d := 93) (b := false) (c := false) rfl rfl (by decide) eg]; rfl)]
      go_simp
      (try simp only [g3])
      (try go_simp)
      exact hK' _ _ ⟨fv_set _ _, Below.refl _ _⟩
  | 21, _ =>
    cases c1
    · exact step_off (o := { dst := some 101, op := Op.load 24 (Operand.tmp 100), type := 24, pos := "ref.go:322", after := #[{ on := 20, ground := Ground.data }, { on := 13, ground := Ground.guard }], guard := some (13, false) }) (g := 13) (d := 93) (c := true) rfl rfl rfl rfl (by decide) (hv 13 (by kernel_rfl)) rfl rfl
    · have e100 : f 100 = .pointer (some ⟨H2, 2, none⟩) := hv 20 (by kernel_rfl)
      have g100 := fv_get (n := 303) (by decide) e100
      have eg : f 93 = .bool false := hv 13 (by kernel_rfl)
      have c101_0 := keep_below hb _ _ x'
      refine wpOp_step (o := { dst := some 101, op := Op.load 24 (Operand.tmp 100), type := 24, pos := "ref.go:322", after := #[{ on := 20, ground := Ground.data }, { on := 13, ground := Ground.guard }], guard := some (13, false) }) rfl ?_
      intro K' hK'
      rw [if_pos (by rw [wanted_some (g := 13) (d := 93) (b := false) (c := false) rfl rfl (by decide) eg]; rfl)]
      go_simp
      (try simp only [g100])
      (try go_simp)
      exact hK' _ _ ⟨fv_set _ _, Below.refl _ _⟩
  | 22, _ =>
    cases c1
    · exact step_off (o := { dst := some 102, op := Op.move (Operand.tmp 7), type := 3, pos := "ref.go:322", after := #[{ on := 13, ground := Ground.guard }], guard := some (13, false) }) (g := 13) (d := 93) (c := true) rfl rfl rfl rfl (by decide) (hv 13 (by kernel_rfl)) rfl rfl
    · have e7 : f 7 = .int .i64 (i : Int) := (ho 7 (by decide)).trans fi
      have g7 := fv_get (n := 303) (by decide) e7
      have eg : f 93 = .bool false := hv 13 (by kernel_rfl)
      refine wpOp_step (o := { dst := some 102, op := Op.move (Operand.tmp 7), type := 3, pos := "ref.go:322", after := #[{ on := 13, ground := Ground.guard }], guard := some (13, false) }) rfl ?_
      intro K' hK'
      rw [if_pos (by rw [wanted_some (g := 13) (d := 93) (b := false) (c := false) rfl rfl (by decide) eg]; rfl)]
      go_simp
      (try simp only [g7])
      (try go_simp)
      exact hK' _ _ ⟨fv_set _ _, Below.refl _ _⟩
  | 23, _ =>
    cases c1
    · exact step_off (o := { dst := some 103, op := Op.indexAddr 24 (Operand.tmp 101) (Operand.tmp 102), type := 0, pos := "ref.go:322", after := #[{ on := 21, ground := Ground.data }, { on := 22, ground := Ground.data }, { on := 13, ground := Ground.guard }], guard := some (13, false) }) (g := 13) (d := 93) (c := true) rfl rfl rfl rfl (by decide) (hv 13 (by kernel_rfl)) rfl rfl
    · have e101 : f 101 = .slice (some ⟨b', o', none⟩) N' k0' := hv 21 (by kernel_rfl)
      have g101 := fv_get (n := 303) (by decide) e101
      have e102 : f 102 = .int .i64 (i : Int) := hv 22 (by kernel_rfl)
      have g102 := fv_get (n := 303) (by decide) e102
      have eg : f 93 = .bool false := hv 13 (by kernel_rfl)
      refine wpOp_step (o := { dst := some 103, op := Op.indexAddr 24 (Operand.tmp 101) (Operand.tmp 102), type := 0, pos := "ref.go:322", after := #[{ on := 21, ground := Ground.data }, { on := 22, ground := Ground.data }, { on := 13, ground := Ground.guard }], guard := some (13, false) }) rfl ?_
      intro K' hK'
      rw [if_pos (by rw [wanted_some (g := 13) (d := 93) (b := false) (c := false) rfl rfl (by decide) eg]; rfl)]
      go_simp
      (try simp only [g101, g102])
      (try go_simp)
      exact hK' _ _ ⟨fv_set _ _, Below.refl _ _⟩
  | 24, _ =>
    cases c1
    · exact step_off (o := { dst := some 104, op := Op.fieldAddr 42 (Operand.tmp 103) 1, type := 0, pos := "ref.go:322", after := #[{ on := 23, ground := Ground.data }, { on := 13, ground := Ground.guard }], guard := some (13, false) }) (g := 13) (d := 93) (c := true) rfl rfl rfl rfl (by decide) (hv 13 (by kernel_rfl)) rfl rfl
    · have e103 : f 103 = .pointer (some ⟨b', o' + i * 3, none⟩) := hv 23 (by kernel_rfl)
      have g103 := fv_get (n := 303) (by decide) e103
      have eg : f 93 = .bool false := hv 13 (by kernel_rfl)
      refine wpOp_step (o := { dst := some 104, op := Op.fieldAddr 42 (Operand.tmp 103) 1, type := 0, pos := "ref.go:322", after := #[{ on := 23, ground := Ground.data }, { on := 13, ground := Ground.guard }], guard := some (13, false) }) rfl ?_
      intro K' hK'
      rw [if_pos (by rw [wanted_some (g := 13) (d := 93) (b := false) (c := false) rfl rfl (by decide) eg]; rfl)]
      go_simp
      (try simp only [g103])
      (try go_simp)
      exact hK' _ _ ⟨fv_set _ _, Below.refl _ _⟩
  | 25, _ =>
    cases c1
    · exact step_off (o := { dst := some 105, op := Op.load 28 (Operand.tmp 104), type := 28, pos := "ref.go:322", after := #[{ on := 24, ground := Ground.data }, { on := 13, ground := Ground.guard }], guard := some (13, false) }) (g := 13) (d := 93) (c := true) rfl rfl rfl rfl (by decide) (hv 13 (by kernel_rfl)) rfl rfl
    · have e104 : f 104 = .pointer (some ⟨b', o' + i * 3 + 1, none⟩) := hv 24 (by kernel_rfl)
      have g104 := fv_get (n := 303) (by decide) e104
      have eg : f 93 = .bool false := hv 13 (by kernel_rfl)
      have c105_0 := keep_below hb _ _ c2_1
      refine wpOp_step (o := { dst := some 105, op := Op.load 28 (Operand.tmp 104), type := 28, pos := "ref.go:322", after := #[{ on := 24, ground := Ground.data }, { on := 13, ground := Ground.guard }], guard := some (13, false) }) rfl ?_
      intro K' hK'
      rw [if_pos (by rw [wanted_some (g := 13) (d := 93) (b := false) (c := false) rfl rfl (by decide) eg]; rfl)]
      go_simp
      (try simp only [g104])
      (try go_simp)
      exact hK' _ _ ⟨fv_set _ _, Below.refl _ _⟩
  | 26, _ =>
    cases c1
    · exact step_off (o := { dst := some 106, op := Op.call { callee := Callee.value (Operand.func 33), args := #[Operand.tmp 99, Operand.tmp 105], argTypes := #[28, 28] }, type := 4, pos := "ref.go:322", after := #[{ on := 19, ground := Ground.data }, { on := 25, ground := Ground.data }, { on := 13, ground := Ground.chain }, { on := 13, ground := Ground.guard }], guard := some (13, false) }) (g := 13) (d := 93) (c := true) rfl rfl rfl rfl (by decide) (hv 13 (by kernel_rfl)) rfl rfl
    · have e99 : f 99 = .slice a_lo lo.length k_lo := hv 19 (by kernel_rfl)
      have g99 := fv_get (n := 303) (by decide) e99
      have e105 : f 105 = .slice a_lo' lo'.length k_lo' := hv 25 (by kernel_rfl)
      have g105 := fv_get (n := 303) (by decide) e105
      have eg : f 93 = .bool false := hv 13 (by kernel_rfl)
      refine wpOp_step (o := { dst := some 106, op := Op.call { callee := Callee.value (Operand.func 33), args := #[Operand.tmp 99, Operand.tmp 105], argTypes := #[28, 28] }, type := 4, pos := "ref.go:322", after := #[{ on := 19, ground := Ground.data }, { on := 25, ground := Ground.data }, { on := 13, ground := Ground.chain }, { on := 13, ground := Ground.guard }], guard := some (13, false) }) rfl ?_
      intro K' hK'
      rw [if_pos (by rw [wanted_some (g := 13) (d := 93) (b := false) (c := false) rfl rfl (by decide) eg]; rfl)]
      go_simp
      (try simp only [g99, g105])
      (try go_simp)
      go_at_call 33
      refine (keepSame_any lo lo' _ _ _ _ _ (i_lo.below hb) (i_lo2.below hb)).mono ?_
      rintro e u ⟨rfl, mm, rfl⟩
      rw [d_lo]
      go_simp
      exact hK' _ _ ⟨fv_set _ _, below_drewN (Below.refl _ _) mm⟩
  | 27, _ =>
    cases c1
    · exact step_off (o := { dst := some 107, op := Op.unOp UnOp.not 4 (Operand.tmp 106), type := 4, pos := "ref.go:322", after := #[{ on := 26, ground := Ground.data }, { on := 13, ground := Ground.guard }], guard := some (13, false) }) (g := 13) (d := 93) (c := true) rfl rfl rfl rfl (by decide) (hv 13 (by kernel_rfl)) rfl rfl
    · have e106 : f 106 = .bool c2 := hv 26 (by kernel_rfl)
      have g106 := fv_get (n := 303) (by decide) e106
      have eg : f 93 = .bool false := hv 13 (by kernel_rfl)
      refine wpOp_step (o := { dst := some 107, op := Op.unOp UnOp.not 4 (Operand.tmp 106), type := 4, pos := "ref.go:322", after := #[{ on := 26, ground := Ground.data }, { on := 13, ground := Ground.guard }], guard := some (13, false) }) rfl ?_
      intro K' hK'
      rw [if_pos (by rw [wanted_some (g := 13) (d := 93) (b := false) (c := false) rfl rfl (by decide) eg]; rfl)]
      go_simp
      (try simp only [g106])
      (try go_simp)
      exact hK' _ _ ⟨fv_set _ _, Below.refl _ _⟩
  | 28, _ =>
    cases c1
    · have e93 : f 93 = .bool true := hv 13 (by kernel_rfl)
      have g93 := fv_get (n := 303) (by decide) e93
      refine wpOp_step (o := { dst := some 108, op := Op.pick (Operand.tmp 93) (Operand.const (Value.bool true)) (Operand.tmp 107), type := 4, pos := "ref.go:322", after := #[{ on := 13, ground := Ground.data }, { on := 27, ground := Ground.data }], guard := none }) rfl ?_
      intro K' hK'
      rw [if_pos (wanted_none rfl)]
      go_simp
      (try simp only [g93])
      (try go_simp)
      exact hK' _ _ ⟨fv_set _ _, Below.refl _ _⟩
    · have e93 : f 93 = .bool false := hv 13 (by kernel_rfl)
      have g93 := fv_get (n := 303) (by decide) e93
      have e107 : f 107 = .bool (!c2) := hv 27 (by kernel_rfl)
      have g107 := fv_get (n := 303) (by decide) e107
      refine wpOp_step (o := { dst := some 108, op := Op.pick (Operand.tmp 93) (Operand.const (Value.bool true)) (Operand.tmp 107), type := 4, pos := "ref.go:322", after := #[{ on := 13, ground := Ground.data }, { on := 27, ground := Ground.data }], guard := none }) rfl ?_
      intro K' hK'
      rw [if_pos (wanted_none rfl)]
      go_simp
      (try simp only [g93, g107])
      (try go_simp)
      exact hK' _ _ ⟨fv_set _ _, Below.refl _ _⟩
  | 29, _ =>
    cases c1
    · have e108 : f 108 = .bool true := hv 28 (by kernel_rfl)
      have g108 := fv_get (n := 303) (by decide) e108
      refine wpOp_step (o := { dst := some 109, op := Op.move (Operand.tmp 108), type := 4, pos := "ref.go:322", after := #[{ on := 28, ground := Ground.data }, { on := 26, ground := Ground.chain }], guard := none }) rfl ?_
      intro K' hK'
      rw [if_pos (wanted_none rfl)]
      go_simp
      (try simp only [g108])
      (try go_simp)
      exact hK' _ _ ⟨fv_set _ _, Below.refl _ _⟩
    · have e108 : f 108 = .bool (!c2) := hv 28 (by kernel_rfl)
      have g108 := fv_get (n := 303) (by decide) e108
      refine wpOp_step (o := { dst := some 109, op := Op.move (Operand.tmp 108), type := 4, pos := "ref.go:322", after := #[{ on := 28, ground := Ground.data }, { on := 26, ground := Ground.chain }], guard := none }) rfl ?_
      intro K' hK'
      rw [if_pos (wanted_none rfl)]
      go_simp
      (try simp only [g108])
      (try go_simp)
      exact hK' _ _ ⟨fv_set _ _, Below.refl _ _⟩
  | 30, _ =>
    cases c1
    · exact step_off (o := { dst := some 110, op := Op.fieldAddr 32 (Operand.tmp 2) 2, type := 0, pos := "ref.go:322", after := #[{ on := 29, ground := Ground.guard }], guard := some (29, false) }) (g := 29) (d := 109) (c := true) rfl rfl rfl rfl (by decide) (hv 29 (by kernel_rfl)) rfl rfl
    · cases c2
      · exact step_off (o := { dst := some 110, op := Op.fieldAddr 32 (Operand.tmp 2) 2, type := 0, pos := "ref.go:322", after := #[{ on := 29, ground := Ground.guard }], guard := some (29, false) }) (g := 29) (d := 109) (c := true) rfl rfl rfl rfl (by decide) (hv 29 (by kernel_rfl)) rfl rfl
      · have e2 : f 2 = .pointer (some ⟨H, 0, none⟩) := (ho 2 (by decide)).trans f2
        have g2 := fv_get (n := 303) (by decide) e2
        have eg : f 109 = .bool false := hv 29 (by kernel_rfl)
        refine wpOp_step (o := { dst := some 110, op := Op.fieldAddr 32 (Operand.tmp 2) 2, type := 0, pos := "ref.go:322", after := #[{ on := 29, ground := Ground.guard }], guard := some (29, false) }) rfl ?_
        intro K' hK'
        rw [if_pos (by rw [wanted_some (g := 29) (d := 109) (b := false) (c := false) rfl rfl (by decide) eg]; rfl)]
        go_simp
        (try simp only [g2])
        (try go_simp)
        exact hK' _ _ ⟨fv_set _ _, Below.refl _ _⟩
  | 31, _ =>
    cases c1
    · exact step_off (o := { dst := some 111, op := Op.load 24 (Operand.tmp 110), type := 24, pos := "ref.go:322", after := #[{ on := 30, ground := Ground.data }, { on := 29, ground := Ground.guard }], guard := some (29, false) }) (g := 29) (d := 109) (c := true) rfl rfl rfl rfl (by decide) (hv 29 (by kernel_rfl)) rfl rfl
    · cases c2
      · exact step_off (o := { dst := some 111, op := Op.load 24 (Operand.tmp 110), type := 24, pos := "ref.go:322", after := #[{ on := 30, ground := Ground.data }, { on := 29, ground := Ground.guard }], guard := some (29, false) }) (g := 29) (d := 109) (c := true) rfl rfl rfl rfl (by decide) (hv 29 (by kernel_rfl)) rfl rfl
      · have e110 : f 110 = .pointer (some ⟨H, 2, none⟩) := hv 30 (by kernel_rfl)
        have g110 := fv_get (n := 303) (by decide) e110
        have eg : f 109 = .bool false := hv 29 (by kernel_rfl)
        have c111_0 := keep_below hb _ _ x
        refine wpOp_step (o := { dst := some 111, op := Op.load 24 (Operand.tmp 110), type := 24, pos := "ref.go:322", after := #[{ on := 30, ground := Ground.data }, { on := 29, ground := Ground.guard }], guard := some (29, false) }) rfl ?_
        intro K' hK'
        rw [if_pos (by rw [wanted_some (g := 29) (d := 109) (b := false) (c := false) rfl rfl (by decide) eg]; rfl)]
        go_simp
        (try simp only [g110])
        (try go_simp)
        exact hK' _ _ ⟨fv_set _ _, Below.refl _ _⟩
  | 32, _ =>
    cases c1
    · exact step_off (o := { dst := some 112, op := Op.move (Operand.tmp 7), type := 3, pos := "ref.go:322", after := #[{ on := 29, ground := Ground.guard }], guard := some (29, false) }) (g := 29) (d := 109) (c := true) rfl rfl rfl rfl (by decide) (hv 29 (by kernel_rfl)) rfl rfl
    · cases c2
      · exact step_off (o := { dst := some 112, op := Op.move (Operand.tmp 7), type := 3, pos := "ref.go:322", after := #[{ on := 29, ground := Ground.guard }], guard := some (29, false) }) (g := 29) (d := 109) (c := true) rfl rfl rfl rfl (by decide) (hv 29 (by kernel_rfl)) rfl rfl
      · have e7 : f 7 = .int .i64 (i : Int) := (ho 7 (by decide)).trans fi
        have g7 := fv_get (n := 303) (by decide) e7
        have eg : f 109 = .bool false := hv 29 (by kernel_rfl)
        refine wpOp_step (o := { dst := some 112, op := Op.move (Operand.tmp 7), type := 3, pos := "ref.go:322", after := #[{ on := 29, ground := Ground.guard }], guard := some (29, false) }) rfl ?_
        intro K' hK'
        rw [if_pos (by rw [wanted_some (g := 29) (d := 109) (b := false) (c := false) rfl rfl (by decide) eg]; rfl)]
        go_simp
        (try simp only [g7])
        (try go_simp)
        exact hK' _ _ ⟨fv_set _ _, Below.refl _ _⟩
  | 33, _ =>
    cases c1
    · exact step_off (o := { dst := some 113, op := Op.indexAddr 24 (Operand.tmp 111) (Operand.tmp 112), type := 0, pos := "ref.go:322", after := #[{ on := 31, ground := Ground.data }, { on := 32, ground := Ground.data }, { on := 29, ground := Ground.guard }], guard := some (29, false) }) (g := 29) (d := 109) (c := true) rfl rfl rfl rfl (by decide) (hv 29 (by kernel_rfl)) rfl rfl
    · cases c2
      · exact step_off (o := { dst := some 113, op := Op.indexAddr 24 (Operand.tmp 111) (Operand.tmp 112), type := 0, pos := "ref.go:322", after := #[{ on := 31, ground := Ground.data }, { on := 32, ground := Ground.data }, { on := 29, ground := Ground.guard }], guard := some (29, false) }) (g := 29) (d := 109) (c := true) rfl rfl rfl rfl (by decide) (hv 29 (by kernel_rfl)) rfl rfl
      · have e111 : f 111 = .slice (some ⟨b, o, none⟩) N k0 := hv 31 (by kernel_rfl)
        have g111 := fv_get (n := 303) (by decide) e111
        have e112 : f 112 = .int .i64 (i : Int) := hv 32 (by kernel_rfl)
        have g112 := fv_get (n := 303) (by decide) e112
        have eg : f 109 = .bool false := hv 29 (by kernel_rfl)
        refine wpOp_step (o := { dst := some 113, op := Op.indexAddr 24 (Operand.tmp 111) (Operand.tmp 112), type := 0, pos := "ref.go:322", after := #[{ on := 31, ground := Ground.data }, { on := 32, ground := Ground.data }, { on := 29, ground := Ground.guard }], guard := some (29, false) }) rfl ?_
        intro K' hK'
        rw [if_pos (by rw [wanted_some (g := 29) (d := 109) (b := false) (c := false) rfl rfl (by decide) eg]; rfl)]
        go_simp
        (try simp only [g111, g112])
        (try go_simp)
        exact hK' _ _ ⟨fv_set _ _, Below.refl _ _⟩
  | 34, _ =>
    cases c1
    · exact step_off (o := { dst := some 114, op := Op.fieldAddr 42 (Operand.tmp 113) 2, type := 0, pos := "ref.go:322", after := #[{ on := 33, ground := Ground.data }, { on := 29, ground := Ground.guard }], guard := some (29, false) }) (g := 29) (d := 109) (c := true) rfl rfl rfl rfl (by decide) (hv 29 (by kernel_rfl)) rfl rfl
    · cases c2
      · exact step_off (o := { dst := some 114, op := Op.fieldAddr 42 (Operand.tmp 113) 2, type := 0, pos := "ref.go:322", after := #[{ on := 33, ground := Ground.data }, { on := 29, ground := Ground.guard }], guard := some (29, false) }) (g := 29) (d := 109) (c := true) rfl rfl rfl rfl (by decide) (hv 29 (by kernel_rfl)) rfl rfl
      · have e113 : f 113 = .pointer (some ⟨b, o + i * 3, none⟩) := hv 33 (by kernel_rfl)
        have g113 := fv_get (n := 303) (by decide) e113
        have eg : f 109 = .bool false := hv 29 (by kernel_rfl)
        refine wpOp_step (o := { dst := some 114, op := Op.fieldAddr 42 (Operand.tmp 113) 2, type := 0, pos := "ref.go:322", after := #[{ on := 33, ground := Ground.data }, { on := 29, ground := Ground.guard }], guard := some (29, false) }) rfl ?_
        intro K' hK'
        rw [if_pos (by rw [wanted_some (g := 29) (d := 109) (b := false) (c := false) rfl rfl (by decide) eg]; rfl)]
        go_simp
        (try simp only [g113])
        (try go_simp)
        exact hK' _ _ ⟨fv_set _ _, Below.refl _ _⟩
  | 35, _ =>
    cases c1
    · exact step_off (o := { dst := some 115, op := Op.load 40 (Operand.tmp 114), type := 40, pos := "ref.go:322", after := #[{ on := 34, ground := Ground.data }, { on := 29, ground := Ground.guard }], guard := some (29, false) }) (g := 29) (d := 109) (c := true) rfl rfl rfl rfl (by decide) (hv 29 (by kernel_rfl)) rfl rfl
    · cases c2
      · exact step_off (o := { dst := some 115, op := Op.load 40 (Operand.tmp 114), type := 40, pos := "ref.go:322", after := #[{ on := 34, ground := Ground.data }, { on := 29, ground := Ground.guard }], guard := some (29, false) }) (g := 29) (d := 109) (c := true) rfl rfl rfl rfl (by decide) (hv 29 (by kernel_rfl)) rfl rfl
      · have e114 : f 114 = .pointer (some ⟨b, o + i * 3 + 2, none⟩) := hv 34 (by kernel_rfl)
        have g114 := fv_get (n := 303) (by decide) e114
        have eg : f 109 = .bool false := hv 29 (by kernel_rfl)
        have c115_0 := keep_below hb _ _ c_2
        refine wpOp_step (o := { dst := some 115, op := Op.load 40 (Operand.tmp 114), type := 40, pos := "ref.go:322", after := #[{ on := 34, ground := Ground.data }, { on := 29, ground := Ground.guard }], guard := some (29, false) }) rfl ?_
        intro K' hK'
        rw [if_pos (by rw [wanted_some (g := 29) (d := 109) (b := false) (c := false) rfl rfl (by decide) eg]; rfl)]
        go_simp
        (try simp only [g114])
        (try go_simp)
        exact hK' _ _ ⟨fv_set _ _, Below.refl _ _⟩
  | 36, _ =>
    cases c1
    · exact step_off (o := { dst := some 116, op := Op.fieldAddr 32 (Operand.tmp 3) 2, type := 0, pos := "ref.go:322", after := #[{ on := 29, ground := Ground.guard }], guard := some (29, false) }) (g := 29) (d := 109) (c := true) rfl rfl rfl rfl (by decide) (hv 29 (by kernel_rfl)) rfl rfl
    · cases c2
      · exact step_off (o := { dst := some 116, op := Op.fieldAddr 32 (Operand.tmp 3) 2, type := 0, pos := "ref.go:322", after := #[{ on := 29, ground := Ground.guard }], guard := some (29, false) }) (g := 29) (d := 109) (c := true) rfl rfl rfl rfl (by decide) (hv 29 (by kernel_rfl)) rfl rfl
      · have e3 : f 3 = .pointer (some ⟨H2, 0, none⟩) := (ho 3 (by decide)).trans f3
        have g3 := fv_get (n := 303) (by decide) e3
        have eg : f 109 = .bool false := hv 29 (by kernel_rfl)
        refine wpOp_step (o := { dst := some 116, op := Op.fieldAddr 32 (Operand.tmp 3) 2, type := 0, pos := "ref.go:322", after := #[{ on := 29, ground := Ground.guard }], guard := some (29, false) }) rfl ?_
        intro K' hK'
        rw [if_pos (by rw [wanted_some (g := 29) (d := 109) (b := false) (c := false) rfl rfl (by decide) eg]; rfl)]
        go_simp
        (try simp only [g3])
        (try go_simp)
        exact hK' _ _ ⟨fv_set _ _, Below.refl _ _⟩
  | 37, _ =>
    cases c1
    · exact step_off (o := { dst := some 117, op := Op.load 24 (Operand.tmp 116), type := 24, pos := "ref.go:322", after := #[{ on := 36, ground := Ground.data }, { on := 29, ground := Ground.guard }], guard := some (29, false) }) (g := 29) (d := 109) (c := true) rfl rfl rfl rfl (by decide) (hv 29 (by kernel_rfl)) rfl rfl
    · cases c2
      · exact step_off (o := { dst := some 117, op := Op.load 24 (Operand.tmp 116), type := 24, pos := "ref.go:322", after := #[{ on := 36, ground := Ground.data }, { on := 29, ground := Ground.guard }], guard := some (29, false) }) (g := 29) (d := 109) (c := true) rfl rfl rfl rfl (by decide) (hv 29 (by kernel_rfl)) rfl rfl
      · have e116 : f 116 = .pointer (some ⟨H2, 2, none⟩) := hv 36 (by kernel_rfl)
        have g116 := fv_get (n := 303) (by decide) e116
        have eg : f 109 = .bool false := hv 29 (by kernel_rfl)
        have c117_0 := keep_below hb _ _ x'
        refine wpOp_step (o := { dst := some 117, op := Op.load 24 (Operand.tmp 116), type := 24, pos := "ref.go:322", after := #[{ on := 36, ground := Ground.data }, { on := 29, ground := Ground.guard }], guard := some (29, false) }) rfl ?_
        intro K' hK'
        rw [if_pos (by rw [wanted_some (g := 29) (d := 109) (b := false) (c := false) rfl rfl (by decide) eg]; rfl)]
        go_simp
        (try simp only [g116])
        (try go_simp)
        exact hK' _ _ ⟨fv_set _ _, Below.refl _ _⟩
  | 38, _ =>
    cases c1
    · exact step_off (o := { dst := some 118, op := Op.move (Operand.tmp 7), type := 3, pos := "ref.go:322", after := #[{ on := 29, ground := Ground.guard }], guard := some (29, false) }) (g := 29) (d := 109) (c := true) rfl rfl rfl rfl (by decide) (hv 29 (by kernel_rfl)) rfl rfl
    · cases c2
      · exact step_off (o := { dst := some 118, op := Op.move (Operand.tmp 7), type := 3, pos := "ref.go:322", after := #[{ on := 29, ground := Ground.guard }], guard := some (29, false) }) (g := 29) (d := 109) (c := true) rfl rfl rfl rfl (by decide) (hv 29 (by kernel_rfl)) rfl rfl
      · have e7 : f 7 = .int .i64 (i : Int) := (ho 7 (by decide)).trans fi
        have g7 := fv_get (n := 303) (by decide) e7
        have eg : f 109 = .bool false := hv 29 (by kernel_rfl)
        refine wpOp_step (o := { dst := some 118, op := Op.move (Operand.tmp 7), type := 3, pos := "ref.go:322", after := #[{ on := 29, ground := Ground.guard }], guard := some (29, false) }) rfl ?_
        intro K' hK'
        rw [if_pos (by rw [wanted_some (g := 29) (d := 109) (b := false) (c := false) rfl rfl (by decide) eg]; rfl)]
        go_simp
        (try simp only [g7])
        (try go_simp)
        exact hK' _ _ ⟨fv_set _ _, Below.refl _ _⟩
  | 39, _ =>
    cases c1
    · exact step_off (o := { dst := some 119, op := Op.indexAddr 24 (Operand.tmp 117) (Operand.tmp 118), type := 0, pos := "ref.go:322", after := #[{ on := 37, ground := Ground.data }, { on := 38, ground := Ground.data }, { on := 29, ground := Ground.guard }], guard := some (29, false) }) (g := 29) (d := 109) (c := true) rfl rfl rfl rfl (by decide) (hv 29 (by kernel_rfl)) rfl rfl
    · cases c2
      · exact step_off (o := { dst := some 119, op := Op.indexAddr 24 (Operand.tmp 117) (Operand.tmp 118), type := 0, pos := "ref.go:322", after := #[{ on := 37, ground := Ground.data }, { on := 38, ground := Ground.data }, { on := 29, ground := Ground.guard }], guard := some (29, false) }) (g := 29) (d := 109) (c := true) rfl rfl rfl rfl (by decide) (hv 29 (by kernel_rfl)) rfl rfl
      · have e117 : f 117 = .slice (some ⟨b', o', none⟩) N' k0' := hv 37 (by kernel_rfl)
        have g117 := fv_get (n := 303) (by decide) e117
        have e118 : f 118 = .int .i64 (i : Int) := hv 38 (by kernel_rfl)
        have g118 := fv_get (n := 303) (by decide) e118
        have eg : f 109 = .bool false := hv 29 (by kernel_rfl)
        refine wpOp_step (o := { dst := some 119, op := Op.indexAddr 24 (Operand.tmp 117) (Operand.tmp 118), type := 0, pos := "ref.go:322", after := #[{ on := 37, ground := Ground.data }, { on := 38, ground := Ground.data }, { on := 29, ground := Ground.guard }], guard := some (29, false) }) rfl ?_
        intro K' hK'
        rw [if_pos (by rw [wanted_some (g := 29) (d := 109) (b := false) (c := false) rfl rfl (by decide) eg]; rfl)]
        go_simp
        (try simp only [g117, g118])
        (try go_simp)
        exact hK' _ _ ⟨fv_set _ _, Below.refl _ _⟩
  | 40, _ =>
    cases c1
    · exact step_off (o := { dst := some 120, op := Op.fieldAddr 42 (Operand.tmp 119) 2, type := 0, pos := "ref.go:322", after := #[{ on := 39, ground := Ground.data }, { on := 29, ground := Ground.guard }], guard := some (29, false) }) (g := 29) (d := 109) (c := true) rfl rfl rfl rfl (by decide) (hv 29 (by kernel_rfl)) rfl rfl
    · cases c2
      · exact step_off (o := { dst := some 120, op := Op.fieldAddr 42 (Operand.tmp 119) 2, type := 0, pos := "ref.go:322", after := #[{ on := 39, ground := Ground.data }, { on := 29, ground := Ground.guard }], guard := some (29, false) }) (g := 29) (d := 109) (c := true) rfl rfl rfl rfl (by decide) (hv 29 (by kernel_rfl)) rfl rfl
      · have e119 : f 119 = .pointer (some ⟨b', o' + i * 3, none⟩) := hv 39 (by kernel_rfl)
        have g119 := fv_get (n := 303) (by decide) e119
        have eg : f 109 = .bool false := hv 29 (by kernel_rfl)
        refine wpOp_step (o := { dst := some 120, op := Op.fieldAddr 42 (Operand.tmp 119) 2, type := 0, pos := "ref.go:322", after := #[{ on := 39, ground := Ground.data }, { on := 29, ground := Ground.guard }], guard := some (29, false) }) rfl ?_
        intro K' hK'
        rw [if_pos (by rw [wanted_some (g := 29) (d := 109) (b := false) (c := false) rfl rfl (by decide) eg]; rfl)]
        go_simp
        (try simp only [g119])
        (try go_simp)
        exact hK' _ _ ⟨fv_set _ _, Below.refl _ _⟩
  | 41, _ =>
    cases c1
    · exact step_off (o := { dst := some 121, op := Op.load 40 (Operand.tmp 120), type := 40, pos := "ref.go:322", after := #[{ on := 40, ground := Ground.data }, { on := 29, ground := Ground.guard }], guard := some (29, false) }) (g := 29) (d := 109) (c := true) rfl rfl rfl rfl (by decide) (hv 29 (by kernel_rfl)) rfl rfl
    · cases c2
      · exact step_off (o := { dst := some 121, op := Op.load 40 (Operand.tmp 120), type := 40, pos := "ref.go:322", after := #[{ on := 40, ground := Ground.data }, { on := 29, ground := Ground.guard }], guard := some (29, false) }) (g := 29) (d := 109) (c := true) rfl rfl rfl rfl (by decide) (hv 29 (by kernel_rfl)) rfl rfl
      · have e120 : f 120 = .pointer (some ⟨b', o' + i * 3 + 2, none⟩) := hv 40 (by kernel_rfl)
        have g120 := fv_get (n := 303) (by decide) e120
        have eg : f 109 = .bool false := hv 29 (by kernel_rfl)
        have c121_0 := keep_below hb _ _ c2_2
        refine wpOp_step (o := { dst := some 121, op := Op.load 40 (Operand.tmp 120), type := 40, pos := "ref.go:322", after := #[{ on := 40, ground := Ground.data }, { on := 29, ground := Ground.guard }], guard := some (29, false) }) rfl ?_
        intro K' hK'
        rw [if_pos (by rw [wanted_some (g := 29) (d := 109) (b := false) (c := false) rfl rfl (by decide) eg]; rfl)]
        go_simp
        (try simp only [g120])
        (try go_simp)
        exact hK' _ _ ⟨fv_set _ _, Below.refl _ _⟩
  | 42, _ =>
    cases c1
    · exact step_off (o := { dst := some 122, op := Op.call { callee := Callee.value (Operand.func 34), args := #[Operand.tmp 115, Operand.tmp 121], argTypes := #[40, 40] }, type := 4, pos := "ref.go:322", after := #[{ on := 35, ground := Ground.data }, { on := 41, ground := Ground.data }, { on := 29, ground := Ground.chain }, { on := 29, ground := Ground.guard }], guard := some (29, false) }) (g := 29) (d := 109) (c := true) rfl rfl rfl rfl (by decide) (hv 29 (by kernel_rfl)) rfl rfl
    · cases c2
      · exact step_off (o := { dst := some 122, op := Op.call { callee := Callee.value (Operand.func 34), args := #[Operand.tmp 115, Operand.tmp 121], argTypes := #[40, 40] }, type := 4, pos := "ref.go:322", after := #[{ on := 35, ground := Ground.data }, { on := 41, ground := Ground.data }, { on := 29, ground := Ground.chain }, { on := 29, ground := Ground.guard }], guard := some (29, false) }) (g := 29) (d := 109) (c := true) rfl rfl rfl rfl (by decide) (hv 29 (by kernel_rfl)) rfl rfl
      · have e115 : f 115 = .slice a_bo bo.len k_bo := hv 35 (by kernel_rfl)
        have g115 := fv_get (n := 303) (by decide) e115
        have e121 : f 121 = .slice a_bo' bo'.len k_bo' := hv 41 (by kernel_rfl)
        have g121 := fv_get (n := 303) (by decide) e121
        have eg : f 109 = .bool false := hv 29 (by kernel_rfl)
        refine wpOp_step (o := { dst := some 122, op := Op.call { callee := Callee.value (Operand.func 34), args := #[Operand.tmp 115, Operand.tmp 121], argTypes := #[40, 40] }, type := 4, pos := "ref.go:322", after := #[{ on := 35, ground := Ground.data }, { on := 41, ground := Ground.data }, { on := 29, ground := Ground.chain }, { on := 29, ground := Ground.guard }], guard := some (29, false) }) rfl ?_
        intro K' hK'
        rw [if_pos (by rw [wanted_some (g := 29) (d := 109) (b := false) (c := false) rfl rfl (by decide) eg]; rfl)]
        go_simp
        (try simp only [g115, g121])
        (try go_simp)
        go_at_call 34
        refine (instrs_any bo bo' _ _ _ _ _ n_bo n_bo2 (i_bo.below hb) (i_bo2.below hb)).mono ?_
        rintro e u ⟨rfl, hu⟩
        rw [d_bo]
        go_simp
        exact hK' _ _ ⟨fv_set _ _, hu⟩
  | 43, _ =>
    cases c1
    · exact step_off (o := { dst := some 123, op := Op.unOp UnOp.not 4 (Operand.tmp 122), type := 4, pos := "ref.go:322", after := #[{ on := 42, ground := Ground.data }, { on := 29, ground := Ground.guard }], guard := some (29, false) }) (g := 29) (d := 109) (c := true) rfl rfl rfl rfl (by decide) (hv 29 (by kernel_rfl)) rfl rfl
    · cases c2
      · exact step_off (o := { dst := some 123, op := Op.unOp UnOp.not 4 (Operand.tmp 122), type := 4, pos := "ref.go:322", after := #[{ on := 42, ground := Ground.data }, { on := 29, ground := Ground.guard }], guard := some (29, false) }) (g := 29) (d := 109) (c := true) rfl rfl rfl rfl (by decide) (hv 29 (by kernel_rfl)) rfl rfl
      · have e122 : f 122 = .bool c3 := hv 42 (by kernel_rfl)
        have g122 := fv_get (n := 303) (by decide) e122
        have eg : f 109 = .bool false := hv 29 (by kernel_rfl)
        refine wpOp_step (o := { dst := some 123, op := Op.unOp UnOp.not 4 (Operand.tmp 122), type := 4, pos := "ref.go:322", after := #[{ on := 42, ground := Ground.data }, { on := 29, ground := Ground.guard }], guard := some (29, false) }) rfl ?_
        intro K' hK'
        rw [if_pos (by rw [wanted_some (g := 29) (d := 109) (b := false) (c := false) rfl rfl (by decide) eg]; rfl)]
        go_simp
        (try simp only [g122])
        (try go_simp)
        exact hK' _ _ ⟨fv_set _ _, Below.refl _ _⟩
  | 44, _ =>
    cases c1
    · have e109 : f 109 = .bool true := hv 29 (by kernel_rfl)
      have g109 := fv_get (n := 303) (by decide) e109
      refine wpOp_step (o := { dst := some 124, op := Op.pick (Operand.tmp 109) (Operand.const (Value.bool true)) (Operand.tmp 123), type := 4, pos := "ref.go:322", after := #[{ on := 29, ground := Ground.data }, { on := 43, ground := Ground.data }], guard := none }) rfl ?_
      intro K' hK'
      rw [if_pos (wanted_none rfl)]
      go_simp
      (try simp only [g109])
      (try go_simp)
      exact hK' _ _ ⟨fv_set _ _, Below.refl _ _⟩
    · cases c2
      · have e109 : f 109 = .bool true := hv 29 (by kernel_rfl)
        have g109 := fv_get (n := 303) (by decide) e109
        refine wpOp_step (o := { dst := some 124, op := Op.pick (Operand.tmp 109) (Operand.const (Value.bool true)) (Operand.tmp 123), type := 4, pos := "ref.go:322", after := #[{ on := 29, ground := Ground.data }, { on := 43, ground := Ground.data }], guard := none }) rfl ?_
        intro K' hK'
        rw [if_pos (wanted_none rfl)]
        go_simp
        (try simp only [g109])
        (try go_simp)
        exact hK' _ _ ⟨fv_set _ _, Below.refl _ _⟩
      · have e109 : f 109 = .bool false := hv 29 (by kernel_rfl)
        have g109 := fv_get (n := 303) (by decide) e109
        have e123 : f 123 = .bool (!c3) := hv 43 (by kernel_rfl)
        have g123 := fv_get (n := 303) (by decide) e123
        refine wpOp_step (o := { dst := some 124, op := Op.pick (Operand.tmp 109) (Operand.const (Value.bool true)) (Operand.tmp 123), type := 4, pos := "ref.go:322", after := #[{ on := 29, ground := Ground.data }, { on := 43, ground := Ground.data }], guard := none }) rfl ?_
        intro K' hK'
        rw [if_pos (wanted_none rfl)]
        go_simp
        (try simp only [g109, g123])
        (try go_simp)
        exact hK' _ _ ⟨fv_set _ _, Below.refl _ _⟩
  | k + 45, h => exact absurd h (by omega)
def ops31 : Array Oper := #[{ dst := some 168, op := Op.fieldAddr 32 (Operand.tmp 2) 5, type := 0, pos := "ref.go:337", after := #[], guard := none }, { dst := some 169, op := Op.load 26 (Operand.tmp 168), type := 26, pos := "ref.go:337", after := #[{ on := 0, ground := Ground.data }], guard := none }, { dst := some 170, op := Op.move (Operand.tmp 10), type := 3, pos := "ref.go:337", after := #[], guard := none }, { dst := some 171, op := Op.indexAddr 26 (Operand.tmp 169) (Operand.tmp 170), type := 0, pos := "ref.go:337", after := #[{ on := 1, ground := Ground.data }, { on := 2, ground := Ground.data }], guard := none }, { dst := some 172, op := Op.fieldAddr 59 (Operand.tmp 171) 0, type := 0, pos := "ref.go:337", after := #[{ on := 3, ground := Ground.data }], guard := none }, { dst := some 173, op := Op.load 3 (Operand.tmp 172), type := 3, pos := "ref.go:337", after := #[{ on := 4, ground := Ground.data }], guard := none }, { dst := some 174, op := Op.fieldAddr 32 (Operand.tmp 3) 5, type := 0, pos := "ref.go:337", after := #[], guard := none }, { dst := some 175, op := Op.load 26 (Operand.tmp 174), type := 26, pos := "ref.go:337", after := #[{ on := 6, ground := Ground.data }], guard := none }, { dst := some 176, op := Op.move (Operand.tmp 10), type := 3, pos := "ref.go:337", after := #[], guard := none }, { dst := some 177, op := Op.indexAddr 26 (Operand.tmp 175) (Operand.tmp 176), type := 0, pos := "ref.go:337", after := #[{ on := 7, ground := Ground.data }, { on := 8, ground := Ground.data }], guard := none }, { dst := some 178, op := Op.fieldAddr 59 (Operand.tmp 177) 0, type := 0, pos := "ref.go:337", after := #[{ on := 9, ground := Ground.data }], guard := none }, { dst := some 179, op := Op.load 3 (Operand.tmp 178), type := 3, pos := "ref.go:337", after := #[{ on := 10, ground := Ground.data }], guard := none }, { dst := some 180, op := Op.binOp BinOp.neq 3 (Operand.tmp 173) (Operand.tmp 179) 3, type := 4, pos := "ref.go:337", after := #[{ on := 5, ground := Ground.data }, { on := 11, ground := Ground.data }], guard := none }, { dst := some 181, op := Op.move (Operand.tmp 180), type := 4, pos := "ref.go:337", after := #[{ on := 12, ground := Ground.data }], guard := none }, { dst := some 182, op := Op.fieldAddr 32 (Operand.tmp 2) 5, type := 0, pos := "ref.go:337", after := #[{ on := 13, ground := Ground.guard }], guard := some (13, false) }, { dst := some 183, op := Op.load 26 (Operand.tmp 182), type := 26, pos := "ref.go:337", after := #[{ on := 14, ground := Ground.data }, { on := 13, ground := Ground.guard }], guard := some (13, false) }, { dst := some 184, op := Op.move (Operand.tmp 10), type := 3, pos := "ref.go:337", after := #[{ on := 13, ground := Ground.guard }], guard := some (13, false) }, { dst := some 185, op := Op.indexAddr 26 (Operand.tmp 183) (Operand.tmp 184), type := 0, pos := "ref.go:337", after := #[{ on := 15, ground := Ground.data }, { on := 16, ground := Ground.data }, { on := 13, ground := Ground.guard }], guard := some (13, false) }, { dst := some 186, op := Op.fieldAddr 59 (Operand.tmp 185) 1, type := 0, pos := "ref.go:337", after := #[{ on := 17, ground := Ground.data }, { on := 13, ground := Ground.guard }], guard := some (13, false) }, { dst := some 187, op := Op.load 4 (Operand.tmp 186), type := 4, pos := "ref.go:337", after := #[{ on := 18, ground := Ground.data }, { on := 13, ground := Ground.guard }], guard := some (13, false) }, { dst := some 188, op := Op.fieldAddr 32 (Operand.tmp 3) 5, type := 0, pos := "ref.go:337", after := #[{ on := 13, ground := Ground.guard }], guard := some (13, false) }, { dst := some 189, op := Op.load 26 (Operand.tmp 188), type := 26, pos := "ref.go:337", after := #[{ on := 20, ground := Ground.data }, { on := 13, ground := Ground.guard }], guard := some (13, false) }, { dst := some 190, op := Op.move (Operand.tmp 10), type := 3, pos := "ref.go:337", after := #[{ on := 13, ground := Ground.guard }], guard := some (13, false) }, { dst := some 191, op := Op.indexAddr 26 (Operand.tmp 189) (Operand.tmp 190), type := 0, pos := "ref.go:337", after := #[{ on := 21, ground := Ground.data }, { on := 22, ground := Ground.data }, { on := 13, ground := Ground.guard }], guard := some (13, false) }, { dst := some 192, op := Op.fieldAddr 59 (Operand.tmp 191) 1, type := 0, pos := "ref.go:337", after := #[{ on := 23, ground := Ground.data }, { on := 13, ground := Ground.guard }], guard := some (13, false) }, { dst := some 193, op := Op.load 4 (Operand.tmp 192), type := 4, pos := "ref.go:337", after := #[{ on := 24, ground := Ground.data }, { on := 13, ground := Ground.guard }], guard := some (13, false) }, { dst := some 194, op := Op.binOp BinOp.neq 4 (Operand.tmp 187) (Operand.tmp 193) 4, type := 4, pos := "ref.go:337", after := #[{ on := 19, ground := Ground.data }, { on := 25, ground := Ground.data }, { on := 13, ground := Ground.guard }], guard := some (13, false) }, { dst := some 195, op := Op.pick (Operand.tmp 181) (Operand.const (Value.bool true)) (Operand.tmp 194), type := 4, pos := "ref.go:337", after := #[{ on := 13, ground := Ground.data }, { on := 26, ground := Ground.data }], guard := none }, { dst := some 196, op := Op.move (Operand.tmp 195), type := 4, pos := "ref.go:337", after := #[{ on := 27, ground := Ground.data }, { on := 13, ground := Ground.chain }], guard := none }, { dst := some 197, op := Op.fieldAddr 32 (Operand.tmp 2) 5, type := 0, pos := "ref.go:337", after := #[{ on := 28, ground := Ground.guard }], guard := some (28, false) }, { dst := some 198, op := Op.load 26 (Operand.tmp 197), type := 26, pos := "ref.go:337", after := #[{ on := 29, ground := Ground.data }, { on := 28, ground := Ground.guard }], guard := some (28, false) }, { dst := some 199, op := Op.move (Operand.tmp 10), type := 3, pos := "ref.go:337", after := #[{ on := 28, ground := Ground.guard }], guard := some (28, false) }, { dst := some 200, op := Op.indexAddr 26 (Operand.tmp 198) (Operand.tmp 199), type := 0, pos := "ref.go:337", after := #[{ on := 30, ground := Ground.data }, { on := 31, ground := Ground.data }, { on := 28, ground := Ground.guard }], guard := some (28, false) }, { dst := some 201, op := Op.fieldAddr 59 (Operand.tmp 200) 2, type := 0, pos := "ref.go:337", after := #[{ on := 32, ground := Ground.data }, { on := 28, ground := Ground.guard }], guard := some (28, false) }, { dst := some 202, op := Op.load 53 (Operand.tmp 201), type := 53, pos := "ref.go:337", after := #[{ on := 33, ground := Ground.data }, { on := 28, ground := Ground.guard }], guard := some (28, false) }, { dst := some 203, op := Op.fieldAddr 32 (Operand.tmp 3) 5, type := 0, pos := "ref.go:337", after := #[{ on := 28, ground := Ground.guard }], guard := some (28, false) }, { dst := some 204, op := Op.load 26 (Operand.tmp 203), type := 26, pos := "ref.go:337", after := #[{ on := 35, ground := Ground.data }, { on := 28, ground := Ground.guard }], guard := some (28, false) }, { dst := some 205, op := Op.move (Operand.tmp 10), type := 3, pos := "ref.go:337", after := #[{ on := 28, ground := Ground.guard }], guard := some (28, false) }, { dst := some 206, op := Op.indexAddr 26 (Operand.tmp 204) (Operand.tmp 205), type := 0, pos := "ref.go:337", after := #[{ on := 36, ground := Ground.data }, { on := 37, ground := Ground.data }, { on := 28, ground := Ground.guard }], guard := some (28, false) }, { dst := some 207, op := Op.fieldAddr 59 (Operand.tmp 206) 2, type := 0, pos := "ref.go:337", after := #[{ on := 38, ground := Ground.data }, { on := 28, ground := Ground.guard }], guard := some (28, false) }, { dst := some 208, op := Op.load 53 (Operand.tmp 207), type := 53, pos := "ref.go:337", after := #[{ on := 39, ground := Ground.data }, { on := 28, ground := Ground.guard }], guard := some (28, false) }, { dst := some 209, op := Op.call { callee := Callee.value (Operand.func 35), args := #[Operand.tmp 202, Operand.tmp 208], argTypes := #[53, 53] }, type := 4, pos := "ref.go:337", after := #[{ on := 34, ground := Ground.data }, { on := 40, ground := Ground.data }, { on := 28, ground := Ground.chain }, { on := 28, ground := Ground.guard }], guard := some (28, false) }, { dst := some 210, op := Op.unOp UnOp.not 4 (Operand.tmp 209), type := 4, pos := "ref.go:337", after := #[{ on := 41, ground := Ground.data }, { on := 28, ground := Ground.guard }], guard := some (28, false) }, { dst := some 211, op := Op.pick (Operand.tmp 196) (Operand.const (Value.bool true)) (Operand.tmp 210), type := 4, pos := "ref.go:337", after := #[{ on := 28, ground := Ground.data }, { on := 42, ground := Ground.data }], guard := none }]
set_option maxRecDepth 100000 in
set_option maxHeartbeats 4000000 in
theorem reg31 {Q : Exit → Act → World → Prop} {f0 : Nat → Value} {V : World} {H H2 : Nat} {b o N k0 : Nat} {b' o' N' k0' : Nat} {i : Nat} {ty ty' : Int} {mu mu' : Bool} {op x1 y n op' x1' y' n' : Int} {ls ls' : List Int} {body els body' els' : Il} {a4 a4' a5 a5' a6 a6' : Option Addr} {k4 k4' k5 k5' k6 k6' : Nat} {c1 c2 c3 : Bool}
    (hmix : Tryd.prog.follows .mixedOrders = true) (f2 : f0 2 = .pointer (some ⟨H, 0, none⟩)) (f3 : f0 3 = .pointer (some ⟨H2, 0, none⟩)) (fi : f0 10 = .int .i64 (i : Int))
    (x : V.cell? ⟨H, 5, none⟩ = some (.slice (some ⟨b, o, none⟩) N k0)) (x' : V.cell? ⟨H2, 5, none⟩ = some (.slice (some ⟨b', o', none⟩) N' k0')) (hiN : i < N) (hiN' : i < N') (hN : N ≤ 9223372036854775807) (hN' : N' ≤ 9223372036854775807)
     (c_t : V.cell? ⟨b, o + i * 9, none⟩ = some (.int .i64 ty)) (c2_t : V.cell? ⟨b', o' + i * 9, none⟩ = some (.int .i64 ty')) (c_m : V.cell? ⟨b, o + i * 9 + 1, none⟩ = some (.bool mu)) (c2_m : V.cell? ⟨b', o' + i * 9 + 1, none⟩ = some (.bool mu')) (c_0 : V.cell? ⟨b, o + i * 9 + 2, none⟩ = some (.int .i64 op)) (c2_0 : V.cell? ⟨b', o' + i * 9 + 2, none⟩ = some (.int .i64 op')) (c_1 : V.cell? ⟨b, o + i * 9 + 3, none⟩ = some (.int .i64 x1)) (c2_1 : V.cell? ⟨b', o' + i * 9 + 3, none⟩ = some (.int .i64 x1')) (c_2 : V.cell? ⟨b, o + i * 9 + 4, none⟩ = some (.int .i64 y)) (c2_2 : V.cell? ⟨b', o' + i * 9 + 4, none⟩ = some (.int .i64 y')) (c_3 : V.cell? ⟨b, o + i * 9 + 5, none⟩ = some (.int .i64 n)) (c2_3 : V.cell? ⟨b', o' + i * 9 + 5, none⟩ = some (.int .i64 n')) (c_4 : V.cell? ⟨b, o + i * 9 + 6, none⟩ = some (.slice a4 ls.length k4)) (c2_4 : V.cell? ⟨b', o' + i * 9 + 6, none⟩ = some (.slice a4' ls'.length k4')) (c_5 : V.cell? ⟨b, o + i * 9 + 7, none⟩ = some (.slice a5 body.len k5)) (c2_5 : V.cell? ⟨b', o' + i * 9 + 7, none⟩ = some (.slice a5' body'.len k5')) (c_6 : V.cell? ⟨b, o + i * 9 + 8, none⟩ = some (.slice a6 els.len k6)) (c2_6 : V.cell? ⟨b', o' + i * 9 + 8, none⟩ = some (.slice a6' els'.len k6')) (h1 : OneIs V ⟨op, x1, y, n, ls, body, els⟩ a4 k4 a5 k5 a6 k6) (h2 : OneIs V ⟨op', x1', y', n', ls', body', els'⟩ a4' k4' a5' k5' a6' k6') (z_ty : (ty != ty') = !c1) (z_mu : (mu == mu') = c2) (d_one : ilEq (.cons op x1 y n ls body els .nil) (.cons op' x1' y' n' ls' body' els' .nil) = c3)
    (fin : ∀ w' f, Below V.heap.size V w' → f 211 = cond c1 (cond c2 (.bool (!c3)) (.bool true)) (.bool true) → Q .normal (Fv 303 (ovv f0 f 168 44)) w') :
    (Code.region 31 ops31 true).wp Tryd.prog Q (Fv 303 f0) V := by
  refine region_vals hmix 303 168 44 rfl (by kernel_rfl) (fun t => match t with | 168 => .pointer (some ⟨H, 5, none⟩) | 169 => .slice (some ⟨b, o, none⟩) N k0 | 170 => .int .i64 (i : Int) | 171 => .pointer (some ⟨b, o + i * 9, none⟩) | 172 => .pointer (some ⟨b, o + i * 9, none⟩) | 173 => .int .i64 ty | 174 => .pointer (some ⟨H2, 5, none⟩) | 175 => .slice (some ⟨b', o', none⟩) N' k0' | 176 => .int .i64 (i : Int) | 177 => .pointer (some ⟨b', o' + i * 9, none⟩) | 178 => .pointer (some ⟨b', o' + i * 9, none⟩) | 179 => .int .i64 ty' | 180 => cond c1 (.bool (!c1)) (.bool (!c1)) | 181 => cond c1 (.bool (!c1)) (.bool (!c1)) | 182 => cond c1 (.pointer (some ⟨H, 5, none⟩)) (undef) | 183 => cond c1 (.slice (some ⟨b, o, none⟩) N k0) (undef) | 184 => cond c1 (.int .i64 (i : Int)) (undef) | 185 => cond c1 (.pointer (some ⟨b, o + i * 9, none⟩)) (undef) | 186 => cond c1 (.pointer (some ⟨b, o + i * 9 + 1, none⟩)) (undef) | 187 => cond c1 (.bool mu) (undef) | 188 => cond c1 (.pointer (some ⟨H2, 5, none⟩)) (undef) | 189 => cond c1 (.slice (some ⟨b', o', none⟩) N' k0') (undef) | 190 => cond c1 (.int .i64 (i : Int)) (undef) | 191 => cond c1 (.pointer (some ⟨b', o' + i * 9, none⟩)) (undef) | 192 => cond c1 (.pointer (some ⟨b', o' + i * 9 + 1, none⟩)) (undef) | 193 => cond c1 (.bool mu') (undef) | 194 => cond c1 (cond c2 (.bool (!c2)) (.bool (!c2))) (undef) | 195 => cond c1 (cond c2 (.bool (!c2)) (.bool (!c2))) (.bool true) | 196 => cond c1 (cond c2 (.bool (!c2)) (.bool (!c2))) (.bool true) | 197 => cond c1 (cond c2 (.pointer (some ⟨H, 5, none⟩)) (undef)) (undef) | 198 => cond c1 (cond c2 (.slice (some ⟨b, o, none⟩) N k0) (undef)) (undef) | 199 => cond c1 (cond c2 (.int .i64 (i : Int)) (undef)) (undef) | 200 => cond c1 (cond c2 (.pointer (some ⟨b, o + i * 9, none⟩)) (undef)) (undef) | 201 => cond c1 (cond c2 (.pointer (some ⟨b, o + i * 9 + 2, none⟩)) (undef)) (undef) | 202 => cond c1 (cond c2 (.agg #[.int .i64 op, .int .i64 x1, .int .i64 y, .int .i64 n, .slice a4 ls.length k4, .slice a5 body.len k5, .slice a6 els.len k6]) (undef)) (undef) | 203 => cond c1 (cond c2 (.pointer (some ⟨H2, 5, none⟩)) (undef)) (undef) | 204 => cond c1 (cond c2 (.slice (some ⟨b', o', none⟩) N' k0') (undef)) (undef) | 205 => cond c1 (cond c2 (.int .i64 (i : Int)) (undef)) (undef) | 206 => cond c1 (cond c2 (.pointer (some ⟨b', o' + i * 9, none⟩)) (undef)) (undef) | 207 => cond c1 (cond c2 (.pointer (some ⟨b', o' + i * 9 + 2, none⟩)) (undef)) (undef) | 208 => cond c1 (cond c2 (.agg #[.int .i64 op', .int .i64 x1', .int .i64 y', .int .i64 n', .slice a4' ls'.length k4', .slice a5' body'.len k5', .slice a6' els'.len k6']) (undef)) (undef) | 209 => cond c1 (cond c2 (.bool c3) (undef)) (undef) | 210 => cond c1 (cond c2 (.bool (!c3)) (undef)) (undef) | 211 => cond c1 (cond c2 (.bool (!c3)) (.bool true)) (.bool true) | _ => undef) ?_ (fun w' hb => fin w' _ hb rfl)
  intro i' hi' f w' hb ho hv
  have l1 : (i : Int) < (N : Int) := by omega
  have l2 : (i : Int) < (N' : Int) := by omega
  match i', hi' with
  | 0, _ =>
    have e2 : f 2 = .pointer (some ⟨H, 0, none⟩) := (ho 2 (by decide)).trans f2
    have g2 := fv_get (n := 303) (by decide) e2
    refine wpOp_step (o := { dst := some 168, op := Op.fieldAddr 32 (Operand.tmp 2) 5, type := 0, pos := "ref.go:337", after := #[], guard := none }) rfl ?_
    intro K' hK'
    rw [if_pos (wanted_none rfl)]
    go_simp
    (try simp only [g2])
    (try go_simp)
    exact hK' _ _ ⟨fv_set _ _, Below.refl _ _⟩
  | 1, _ =>
    have e168 : f 168 = .pointer (some ⟨H, 5, none⟩) := hv 0 (by kernel_rfl)
    have g168 := fv_get (n := 303) (by decide) e168
    have c169_0 := keep_below hb _ _ x
    refine wpOp_step (o := { dst := some 169, op := Op.load 26 (Operand.tmp 168), type := 26, pos := "ref.go:337", after := #[{ on := 0, ground := Ground.data }], guard := none }) rfl ?_
    intro K' hK'
    rw [if_pos (wanted_none rfl)]
    go_simp
    (try simp only [g168])
    (try go_simp)
    exact hK' _ _ ⟨fv_set _ _, Below.refl _ _⟩
  | 2, _ =>
    have e10 : f 10 = .int .i64 (i : Int) := (ho 10 (by decide)).trans fi
    have g10 := fv_get (n := 303) (by decide) e10
    refine wpOp_step (o := { dst := some 170, op := Op.move (Operand.tmp 10), type := 3, pos := "ref.go:337", after := #[], guard := none }) rfl ?_
    intro K' hK'
    rw [if_pos (wanted_none rfl)]
    go_simp
    (try simp only [g10])
    (try go_simp)
    exact hK' _ _ ⟨fv_set _ _, Below.refl _ _⟩
  | 3, _ =>
    have e169 : f 169 = .slice (some ⟨b, o, none⟩) N k0 := hv 1 (by kernel_rfl)
    have g169 := fv_get (n := 303) (by decide) e169
    have e170 : f 170 = .int .i64 (i : Int) := hv 2 (by kernel_rfl)
    have g170 := fv_get (n := 303) (by decide) e170
    refine wpOp_step (o := { dst := some 171, op := Op.indexAddr 26 (Operand.tmp 169) (Operand.tmp 170), type := 0, pos := "ref.go:337", after := #[{ on := 1, ground := Ground.data }, { on := 2, ground := Ground.data }], guard := none }) rfl ?_
    intro K' hK'
    rw [if_pos (wanted_none rfl)]
    go_simp
    (try simp only [g169, g170])
    (try go_simp)
    exact hK' _ _ ⟨fv_set _ _, Below.refl _ _⟩
  | 4, _ =>
    have e171 : f 171 = .pointer (some ⟨b, o + i * 9, none⟩) := hv 3 (by kernel_rfl)
    have g171 := fv_get (n := 303) (by decide) e171
    refine wpOp_step (o := { dst := some 172, op := Op.fieldAddr 59 (Operand.tmp 171) 0, type := 0, pos := "ref.go:337", after := #[{ on := 3, ground := Ground.data }], guard := none }) rfl ?_
    intro K' hK'
    rw [if_pos (wanted_none rfl)]
    go_simp
    (try simp only [g171])
    (try go_simp)
    exact hK' _ _ ⟨fv_set _ _, Below.refl _ _⟩
  | 5, _ =>
    have e172 : f 172 = .pointer (some ⟨b, o + i * 9, none⟩) := hv 4 (by kernel_rfl)
    have g172 := fv_get (n := 303) (by decide) e172
    have c173_0 := keep_below hb _ _ c_t
    refine wpOp_step (o := { dst := some 173, op := Op.load 3 (Operand.tmp 172), type := 3, pos := "ref.go:337", after := #[{ on := 4, ground := Ground.data }], guard := none }) rfl ?_
    intro K' hK'
    rw [if_pos (wanted_none rfl)]
    go_simp
    (try simp only [g172])
    (try go_simp)
    exact hK' _ _ ⟨fv_set _ _, Below.refl _ _⟩
  | 6, _ =>
    have e3 : f 3 = .pointer (some ⟨H2, 0, none⟩) := (ho 3 (by decide)).trans f3
    have g3 := fv_get (n := 303) (by decide) e3
    refine wpOp_step (o := { dst := some 174, op := Op.fieldAddr 32 (Operand.tmp 3) 5, type := 0, pos := "ref.go:337", after := #[], guard := none }) rfl ?_
    intro K' hK'
    rw [if_pos (wanted_none rfl)]
    go_simp
    (try simp only [g3])
    (try go_simp)
    exact hK' _ _ ⟨fv_set _ _, Below.refl _ _⟩
  | 7, _ =>
    have e174 : f 174 = .pointer (some ⟨H2, 5, none⟩) := hv 6 (by kernel_rfl)
    have g174 := fv_get (n := 303) (by decide) e174
    have c175_0 := keep_below hb _ _ x'
    refine wpOp_step (o := { dst := some 175, op := Op.load 26 (Operand.tmp 174), type := 26, pos := "ref.go:337", after := #[{ on := 6, ground := Ground.data }], guard := none }) rfl ?_
    intro K' hK'
    rw [if_pos (wanted_none rfl)]
    go_simp
    (try simp only [g174])
    (try go_simp)
    exact hK' _ _ ⟨fv_set _ _, Below.refl _ _⟩
  | 8, _ =>
    have e10 : f 10 = .int .i64 (i : Int) := (ho 10 (by decide)).trans fi
    have g10 := fv_get (n := 303) (by decide) e10
    refine wpOp_step (o := { dst := some 176, op := Op.move (Operand.tmp 10), type := 3, pos := "ref.go:337", after := #[], guard := none }) rfl ?_
    intro K' hK'
    rw [if_pos (wanted_none rfl)]
    go_simp
    (try simp only [g10])
    (try go_simp)
    exact hK' _ _ ⟨fv_set _ _, Below.refl _ _⟩
  | 9, _ =>
    have e175 : f 175 = .slice (some ⟨b', o', none⟩) N' k0' := hv 7 (by kernel_rfl)
    have g175 := fv_get (n := 303) (by decide) e175
    have e176 : f 176 = .int .i64 (i : Int) := hv 8 (by kernel_rfl)
    have g176 := fv_get (n := 303) (by decide) e176
    refine wpOp_step (o := { dst := some 177, op := Op.indexAddr 26 (Operand.tmp 175) (Operand.tmp 176), type := 0, pos := "ref.go:337", after := #[{ on := 7, ground := Ground.data }, { on := 8, ground := Ground.data }], guard := none }) rfl ?_
    intro K' hK'
    rw [if_pos (wanted_none rfl)]
    go_simp
    (try simp only [g175, g176])
    (try go_simp)
    exact hK' _ _ ⟨fv_set _ _, Below.refl _ _⟩
  | 10, _ =>
    have e177 : f 177 = .pointer (some ⟨b', o' + i * 9, none⟩) := hv 9 (by kernel_rfl)
    have g177 := fv_get (n := 303) (by decide) e177
    refine wpOp_step (o := { dst := some 178, op := Op.fieldAddr 59 (Operand.tmp 177) 0, type := 0, pos := "ref.go:337", after := #[{ on := 9, ground := Ground.data }], guard := none }) rfl ?_
    intro K' hK'
    rw [if_pos (wanted_none rfl)]
    go_simp
    (try simp only [g177])
    (try go_simp)
    exact hK' _ _ ⟨fv_set _ _, Below.refl _ _⟩
  | 11, _ =>
    have e178 : f 178 = .pointer (some ⟨b', o' + i * 9, none⟩) := hv 10 (by kernel_rfl)
    have g178 := fv_get (n := 303) (by decide) e178
    have c179_0 := keep_below hb _ _ c2_t
    refine wpOp_step (o := { dst := some 179, op := Op.load 3 (Operand.tmp 178), type := 3, pos := "ref.go:337", after := #[{ on := 10, ground := Ground.data }], guard := none }) rfl ?_
    intro K' hK'
    rw [if_pos (wanted_none rfl)]
    go_simp
    (try simp only [g178])
    (try go_simp)
    exact hK' _ _ ⟨fv_set _ _, Below.refl _ _⟩
  | 12, _ =>
    cases c1
    · have e173 : f 173 = .int .i64 ty := hv 5 (by kernel_rfl)
      have g173 := fv_get (n := 303) (by decide) e173
      have e179 : f 179 = .int .i64 ty' := hv 11 (by kernel_rfl)
      have g179 := fv_get (n := 303) (by decide) e179
      have dq := z_ty
      refine wpOp_step (o := { dst := some 180, op := Op.binOp BinOp.neq 3 (Operand.tmp 173) (Operand.tmp 179) 3, type := 4, pos := "ref.go:337", after := #[{ on := 5, ground := Ground.data }, { on := 11, ground := Ground.data }], guard := none }) rfl ?_
      intro K' hK'
      rw [if_pos (wanted_none rfl)]
      go_simp
      (try simp only [g173, g179])
      (try go_simp)
      exact hK' _ _ ⟨fv_set _ _, Below.refl _ _⟩
    · have e173 : f 173 = .int .i64 ty := hv 5 (by kernel_rfl)
      have g173 := fv_get (n := 303) (by decide) e173
      have e179 : f 179 = .int .i64 ty' := hv 11 (by kernel_rfl)
      have g179 := fv_get (n := 303) (by decide) e179
      have dq := z_ty
      refine wpOp_step (o := { dst := some 180, op := Op.binOp BinOp.neq 3 (Operand.tmp 173) (Operand.tmp 179) 3, type := 4, pos := "ref.go:337", after := #[{ on := 5, ground := Ground.data }, { on := 11, ground := Ground.data }], guard := none }) rfl ?_
      intro K' hK'
      rw [if_pos (wanted_none rfl)]
      go_simp
      (try simp only [g173, g179])
      (try go_simp)
      exact hK' _ _ ⟨fv_set _ _, Below.refl _ _⟩
  | 13, _ =>
    cases c1
    · have e180 : f 180 = .bool true := hv 12 (by kernel_rfl)
      have g180 := fv_get (n := 303) (by decide) e180
      refine wpOp_step (o := { dst := some 181, op := Op.move (Operand.tmp 180), type := 4, pos := "ref.go:337", after := #[{ on := 12, ground := Ground.data }], guard := none }) rfl ?_
      intro K' hK'
      rw [if_pos (wanted_none rfl)]
      go_simp
      (try simp only [g180])
      (try go_simp)
      exact hK' _ _ ⟨fv_set _ _, Below.refl _ _⟩
    · have e180 : f 180 = .bool false := hv 12 (by kernel_rfl)
      have g180 := fv_get (n := 303) (by decide) e180
      refine wpOp_step (o := { dst := some 181, op := Op.move (Operand.tmp 180), type := 4, pos := "ref.go:337", after := #[{ on := 12, ground := Ground.data }], guard := none }) rfl ?_
      intro K' hK'
      rw [if_pos (wanted_none rfl)]
      go_simp
      (try simp only [g180])
      (try go_simp)
      exact hK' _ _ ⟨fv_set _ _, Below.refl _ _⟩
  | 14, _ =>
    cases c1
    · exact step_off (o := { dst := some 182, op := Op.fieldAddr 32 (Operand.tmp 2) 5, type := 0, pos := "ref.go:337", after := #[{ on := 13, ground := Ground.guard }], guard := some (13, false) }) (g := 13) (d := 181) (c := true) rfl rfl rfl rfl (by decide) (hv 13 (by kernel_rfl)) rfl rfl
    · have e2 : f 2 = .pointer (some ⟨H, 0, none⟩) := (ho 2 (by decide)).trans f2
      have g2 := fv_get (n := 303) (by decide) e2
      have eg : f 181 = .bool false := hv 13 (by kernel_rfl)
      refine wpOp_step (o := { dst := some 182, op := Op.fieldAddr 32 (Operand.tmp 2) 5, type := 0, pos := "ref.go:337", after := #[{ on := 13, ground := Ground.guard }], guard := some (13, false) }) rfl ?_
      intro K' hK'
      rw [if_pos (by rw [wanted_some (g := 13) (d := 181) (b := false) (c := false) rfl rfl (by decide) eg]; rfl)]
      go_simp
      (try simp only [g2])
      (try go_simp)
      exact hK' _ _ ⟨fv_set _ _, Below.refl _ _⟩
  | 15, _ =>
    cases c1
    · exact step_off (o := { dst := some 183, op := Op.load 26 (Operand.tmp 182), type := 26, pos := "ref.go:337", after := #[{ on := 14, ground := Ground.data }, { on := 13, ground := Ground.guard }], guard := some (13, false) }) (g := 13) (d := 181) (c := true) rfl rfl rfl rfl (by decide) (hv 13 (by kernel_rfl)) rfl rfl
    · have e182 : f 182 = .pointer (some ⟨H, 5, none⟩) := hv 14 (by kernel_rfl)
      have g182 := fv_get (n := 303) (by decide) e182
      have eg : f 181 = .bool false := hv 13 (by kernel_rfl)
      have c183_0 := keep_below hb _ _ x
      refine wpOp_step (o := { dst := some 183, op := Op.load 26 (Operand.tmp 182), type := 26, pos := "ref.go:337", after := #[{ on := 14, ground := Ground.data }, { on := 13, ground := Ground.guard }], guard := some (13, false) }) rfl ?_
      intro K' hK'
      rw [if_pos (by rw [wanted_some (g := 13) (d := 181) (b := false) (c := false) rfl rfl (by decide) eg]; rfl)]
      go_simp
      (try simp only [g182])
      (try go_simp)
      exact hK' _ _ ⟨fv_set _ _, Below.refl _ _⟩
  | 16, _ =>
    cases c1
    · exact step_off (o := { dst := some 184, op := Op.move (Operand.tmp 10), type := 3, pos := "ref.go:337", after := #[{ on := 13, ground := Ground.guard }], guard := some (13, false) }) (g := 13) (d := 181) (c := true) rfl rfl rfl rfl (by decide) (hv 13 (by kernel_rfl)) rfl rfl
    · have e10 : f 10 = .int .i64 (i : Int) := (ho 10 (by decide)).trans fi
      have g10 := fv_get (n := 303) (by decide) e10
      have eg : f 181 = .bool false := hv 13 (by kernel_rfl)
      refine wpOp_step (o := { dst := some 184, op := Op.move (Operand.tmp 10), type := 3, pos := "ref.go:337", after := #[{ on := 13, ground := Ground.guard }], guard := some (13, false) }) rfl ?_
      intro K' hK'
      rw [if_pos (by rw [wanted_some (g := 13) (d := 181) (b := false) (c := false) rfl rfl (by decide) eg]; rfl)]
      go_simp
      (try simp only [g10])
      (try go_simp)
      exact hK' _ _ ⟨fv_set _ _, Below.refl _ _⟩
  | 17, _ =>
    cases c1
    · exact step_off (o := { dst := some 185, op := Op.indexAddr 26 (Operand.tmp 183) (Operand.tmp 184), type := 0, pos := "ref.go:337", after := #[{ on := 15, ground := Ground.data }, { on := 16, ground := Ground.data }, { on := 13, ground := Ground.guard }], guard := some (13, false) }) (g := 13) (d := 181) (c := true) rfl rfl rfl rfl (by decide) (hv 13 (by kernel_rfl)) rfl rfl
    · have e183 : f 183 = .slice (some ⟨b, o, none⟩) N k0 := hv 15 (by kernel_rfl)
      have g183 := fv_get (n := 303) (by decide) e183
      have e184 : f 184 = .int .i64 (i : Int) := hv 16 (by kernel_rfl)
      have g184 := fv_get (n := 303) (by decide) e184
      have eg : f 181 = .bool false := hv 13 (by kernel_rfl)
      refine wpOp_step (o := { dst := some 185, op := Op.indexAddr 26 (Operand.tmp 183) (Operand.tmp 184), type := 0, pos := "ref.go:337", after := #[{ on := 15, ground := Ground.data }, { on := 16, ground := Ground.data }, { on := 13, ground := Ground.guard }], guard := some (13, false) }) rfl ?_
      intro K' hK'
      rw [if_pos (by rw [wanted_some (g := 13) (d := 181) (b := false) (c := false) rfl rfl (by decide) eg]; rfl)]
      go_simp
      (try simp only [g183, g184])
      (try go_simp)
      exact hK' _ _ ⟨fv_set _ _, Below.refl _ _⟩
  | 18, _ =>
    cases c1
    · exact step_off (o := { dst := some 186, op := Op.fieldAddr 59 (Operand.tmp 185) 1, type := 0, pos := "ref.go:337", after := #[{ on := 17, ground := Ground.data }, { on := 13, ground := Ground.guard }], guard := some (13, false) }) (g := 13) (d := 181) (c := true) rfl rfl rfl rfl (by decide) (hv 13 (by kernel_rfl)) rfl rfl
    · have e185 : f 185 = .pointer (some ⟨b, o + i * 9, none⟩) := hv 17 (by kernel_rfl)
      have g185 := fv_get (n := 303) (by decide) e185
      have eg : f 181 = .bool false := hv 13 (by kernel_rfl)
      refine wpOp_step (o := { dst := some 186, op := Op.fieldAddr 59 (Operand.tmp 185) 1, type := 0, pos := "ref.go:337", after := #[{ on := 17, ground := Ground.data }, { on := 13, ground := Ground.guard }], guard := some (13, false) }) rfl ?_
      intro K' hK'
      rw [if_pos (by rw [wanted_some (g := 13) (d := 181) (b := false) (c := false) rfl rfl (by decide) eg]; rfl)]
      go_simp
      (try simp only [g185])
      (try go_simp)
      exact hK' _ _ ⟨fv_set _ _, Below.refl _ _⟩
  | 19, _ =>
    cases c1
    · exact step_off (o := { dst := some 187, op := Op.load 4 (Operand.tmp 186), type := 4, pos := "ref.go:337", after := #[{ on := 18, ground := Ground.data }, { on := 13, ground := Ground.guard }], guard := some (13, false) }) (g := 13) (d := 181) (c := true) rfl rfl rfl rfl (by decide) (hv 13 (by kernel_rfl)) rfl rfl
    · have e186 : f 186 = .pointer (some ⟨b, o + i * 9 + 1, none⟩) := hv 18 (by kernel_rfl)
      have g186 := fv_get (n := 303) (by decide) e186
      have eg : f 181 = .bool false := hv 13 (by kernel_rfl)
      have c187_0 := keep_below hb _ _ c_m
      refine wpOp_step (o := { dst := some 187, op := Op.load 4 (Operand.tmp 186), type := 4, pos := "ref.go:337", after := #[{ on := 18, ground := Ground.data }, { on := 13, ground := Ground.guard }], guard := some (13, false) }) rfl ?_
      intro K' hK'
      rw [if_pos (by rw [wanted_some (g := 13) (d := 181) (b := false) (c := false) rfl rfl (by decide) eg]; rfl)]
      go_simp
      (try simp only [g186])
      (try go_simp)
      exact hK' _ _ ⟨fv_set _ _, Below.refl _ _⟩
  | 20, _ =>
    cases c1
    · exact step_off (o := { dst := some 188, op := Op.fieldAddr 32 (Operand.tmp 3) 5, type := 0, pos := "ref.go:337", after := #[{ on := 13, ground := Ground.guard }], guard := some (13, false) }) (g := 13) (d := 181) (c := true) rfl rfl rfl rfl (by decide) (hv 13 (by kernel_rfl)) rfl rfl
    · have e3 : f 3 = .pointer (some ⟨H2, 0, none⟩) := (ho 3 (by decide)).trans f3
      have g3 := fv_get (n := 303) (by decide) e3
      have eg : f 181 = .bool false := hv 13 (by kernel_rfl)
      refine wpOp_step (o := { dst := some 188, op := Op.fieldAddr 32 (Operand.tmp 3) 5, type := 0, pos := "ref.go:337", after := #[{ on := 13, ground := Ground.guard }], guard := some (13, false) }) rfl ?_
      intro K' hK'
      rw [if_pos (by rw [wanted_some (g := 13) (d := 181) (b := false) (c := false) rfl rfl (by decide) eg]; rfl)]
      go_simp
      (try simp only [g3])
      (try go_simp)
      exact hK' _ _ ⟨fv_set _ _, Below.refl _ _⟩
  | 21, _ =>
    cases c1
    · exact step_off (o := { dst := some 189, op := Op.load 26 (Operand.tmp 188), type := 26, pos := "ref.go:337", after := #[{ on := 20, ground := Ground.data }, { on := 13, ground := Ground.guard }], guard := some (13, false) }) (g := 13) (d := 181) (c := true) rfl rfl rfl rfl (by decide) (hv 13 (by kernel_rfl)) rfl rfl
    · have e188 : f 188 = .pointer (some ⟨H2, 5, none⟩) := hv 20 (by kernel_rfl)
      have g188 := fv_get (n := 303) (by decide) e188
      have eg : f 181 = .bool false := hv 13 (by kernel_rfl)
      have c189_0 := keep_below hb _ _ x'
      refine wpOp_step (o := { dst := some 189, op := Op.load 26 (Operand.tmp 188), type := 26, pos := "ref.go:337", after := #[{ on := 20, ground := Ground.data }, { on := 13, ground := Ground.guard }], guard := some (13, false) }) rfl ?_
      intro K' hK'
      rw [if_pos (by rw [wanted_some (g := 13) (d := 181) (b := false) (c := false) rfl rfl (by decide) eg]; rfl)]
      go_simp
      (try simp only [g188])
      (try go_simp)
      exact hK' _ _ ⟨fv_set _ _, Below.refl _ _⟩
  | 22, _ =>
    cases c1
    · exact step_off (o := { dst := some 190, op := Op.move (Operand.tmp 10), type := 3, pos := "ref.go:337", after := #[{ on := 13, ground := Ground.guard }], guard := some (13, false) }) (g := 13) (d := 181) (c := true) rfl rfl rfl rfl (by decide) (hv 13 (by kernel_rfl)) rfl rfl
    · have e10 : f 10 = .int .i64 (i : Int) := (ho 10 (by decide)).trans fi
      have g10 := fv_get (n := 303) (by decide) e10
      have eg : f 181 = .bool false := hv 13 (by kernel_rfl)
      refine wpOp_step (o := { dst := some 190, op := Op.move (Operand.tmp 10), type := 3, pos := "ref.go:337", after := #[{ on := 13, ground := Ground.guard }], guard := some (13, false) }) rfl ?_
      intro K' hK'
      rw [if_pos (by rw [wanted_some (g := 13) (d := 181) (b := false) (c := false) rfl rfl (by decide) eg]; rfl)]
      go_simp
      (try simp only [g10])
      (try go_simp)
      exact hK' _ _ ⟨fv_set _ _, Below.refl _ _⟩
  | 23, _ =>
    cases c1
    · exact step_off (o := { dst := some 191, op := Op.indexAddr 26 (Operand.tmp 189) (Operand.tmp 190), type := 0, pos := "ref.go:337", after := #[{ on := 21, ground := Ground.data }, { on := 22, ground := Ground.data }, { on := 13, ground := Ground.guard }], guard := some (13, false) }) (g := 13) (d := 181) (c := true) rfl rfl rfl rfl (by decide) (hv 13 (by kernel_rfl)) rfl rfl
    · have e189 : f 189 = .slice (some ⟨b', o', none⟩) N' k0' := hv 21 (by kernel_rfl)
      have g189 := fv_get (n := 303) (by decide) e189
      have e190 : f 190 = .int .i64 (i : Int) := hv 22 (by kernel_rfl)
      have g190 := fv_get (n := 303) (by decide) e190
      have eg : f 181 = .bool false := hv 13 (by kernel_rfl)
      refine wpOp_step (o := { dst := some 191, op := Op.indexAddr 26 (Operand.tmp 189) (Operand.tmp 190), type := 0, pos := "ref.go:337", after := #[{ on := 21, ground := Ground.data }, { on := 22, ground := Ground.data }, { on := 13, ground := Ground.guard }], guard := some (13, false) }) rfl ?_
      intro K' hK'
      rw [if_pos (by rw [wanted_some (g := 13) (d := 181) (b := false) (c := false) rfl rfl (by decide) eg]; rfl)]
      go_simp
      (try simp only [g189, g190])
      (try go_simp)
      exact hK' _ _ ⟨fv_set _ _, Below.refl _ _⟩
  | 24, _ =>
    cases c1
    · exact step_off (o := { dst := some 192, op := Op.fieldAddr 59 (Operand.tmp 191) 1, type := 0, pos := "ref.go:337", after := #[{ on := 23, ground := Ground.data }, { on := 13, ground := Ground.guard }], guard := some (13, false) }) (g := 13) (d := 181) (c := true) rfl rfl rfl rfl (by decide) (hv 13 (by kernel_rfl)) rfl rfl
    · have e191 : f 191 = .pointer (some ⟨b', o' + i * 9, none⟩) := hv 23 (by kernel_rfl)
      have g191 := fv_get (n := 303) (by decide) e191
      have eg : f 181 = .bool false := hv 13 (by kernel_rfl)
      refine wpOp_step (o := { dst := some 192, op := Op.fieldAddr 59 (Operand.tmp 191) 1, type := 0, pos := "ref.go:337", after := #[{ on := 23, ground := Ground.data }, { on := 13, ground := Ground.guard }], guard := some (13, false) }) rfl ?_
      intro K' hK'
      rw [if_pos (by rw [wanted_some (g := 13) (d := 181) (b := false) (c := false) rfl rfl (by decide) eg]; rfl)]
      go_simp
      (try simp only [g191])
      (try go_simp)
      exact hK' _ _ ⟨fv_set _ _, Below.refl _ _⟩
  | 25, _ =>
    cases c1
    · exact step_off (o := { dst := some 193, op := Op.load 4 (Operand.tmp 192), type := 4, pos := "ref.go:337", after := #[{ on := 24, ground := Ground.data }, { on := 13, ground := Ground.guard }], guard := some (13, false) }) (g := 13) (d := 181) (c := true) rfl rfl rfl rfl (by decide) (hv 13 (by kernel_rfl)) rfl rfl
    · have e192 : f 192 = .pointer (some ⟨b', o' + i * 9 + 1, none⟩) := hv 24 (by kernel_rfl)
      have g192 := fv_get (n := 303) (by decide) e192
      have eg : f 181 = .bool false := hv 13 (by kernel_rfl)
      have c193_0 := keep_below hb _ _ c2_m
      refine wpOp_step (o := { dst := some 193, op := Op.load 4 (Operand.tmp 192), type := 4, pos := "ref.go:337", after := #[{ on := 24, ground := Ground.data }, { on := 13, ground := Ground.guard }], guard := some (13, false) }) rfl ?_
      intro K' hK'
      rw [if_pos (by rw [wanted_some (g := 13) (d := 181) (b := false) (c := false) rfl rfl (by decide) eg]; rfl)]
      go_simp
      (try simp only [g192])
      (try go_simp)
      exact hK' _ _ ⟨fv_set _ _, Below.refl _ _⟩
  | 26, _ =>
    cases c1
    · exact step_off (o := { dst := some 194, op := Op.binOp BinOp.neq 4 (Operand.tmp 187) (Operand.tmp 193) 4, type := 4, pos := "ref.go:337", after := #[{ on := 19, ground := Ground.data }, { on := 25, ground := Ground.data }, { on := 13, ground := Ground.guard }], guard := some (13, false) }) (g := 13) (d := 181) (c := true) rfl rfl rfl rfl (by decide) (hv 13 (by kernel_rfl)) rfl rfl
    · cases c2
      · have e187 : f 187 = .bool mu := hv 19 (by kernel_rfl)
        have g187 := fv_get (n := 303) (by decide) e187
        have e193 : f 193 = .bool mu' := hv 25 (by kernel_rfl)
        have g193 := fv_get (n := 303) (by decide) e193
        have eg : f 181 = .bool false := hv 13 (by kernel_rfl)
        have dq := z_mu
        refine wpOp_step (o := { dst := some 194, op := Op.binOp BinOp.neq 4 (Operand.tmp 187) (Operand.tmp 193) 4, type := 4, pos := "ref.go:337", after := #[{ on := 19, ground := Ground.data }, { on := 25, ground := Ground.data }, { on := 13, ground := Ground.guard }], guard := some (13, false) }) rfl ?_
        intro K' hK'
        rw [if_pos (by rw [wanted_some (g := 13) (d := 181) (b := false) (c := false) rfl rfl (by decide) eg]; rfl)]
        go_simp
        (try simp only [g187, g193])
        (try go_simp)
        exact hK' _ _ ⟨fv_set _ _, Below.refl _ _⟩
      · have e187 : f 187 = .bool mu := hv 19 (by kernel_rfl)
        have g187 := fv_get (n := 303) (by decide) e187
        have e193 : f 193 = .bool mu' := hv 25 (by kernel_rfl)
        have g193 := fv_get (n := 303) (by decide) e193
        have eg : f 181 = .bool false := hv 13 (by kernel_rfl)
        have dq := z_mu
        refine wpOp_step (o := { dst := some 194, op := Op.binOp BinOp.neq 4 (Operand.tmp 187) (Operand.tmp 193) 4, type := 4, pos := "ref.go:337", after := #[{ on := 19, ground := Ground.data }, { on := 25, ground := Ground.data }, { on := 13, ground := Ground.guard }], guard := some (13, false) }) rfl ?_
        intro K' hK'
        rw [if_pos (by rw [wanted_some (g := 13) (d := 181) (b := false) (c := false) rfl rfl (by decide) eg]; rfl)]
        go_simp
        (try simp only [g187, g193])
        (try go_simp)
        exact hK' _ _ ⟨fv_set _ _, Below.refl _ _⟩
  | 27, _ =>
    cases c1
    · have e181 : f 181 = .bool true := hv 13 (by kernel_rfl)
      have g181 := fv_get (n := 303) (by decide) e181
      refine wpOp_step (o := { dst := some 195, op := Op.pick (Operand.tmp 181) (Operand.const (Value.bool true)) (Operand.tmp 194), type := 4, pos := "ref.go:337", after := #[{ on := 13, ground := Ground.data }, { on := 26, ground := Ground.data }], guard := none }) rfl ?_
      intro K' hK'
      rw [if_pos (wanted_none rfl)]
      go_simp
      (try simp only [g181])
      (try go_simp)
      exact hK' _ _ ⟨fv_set _ _, Below.refl _ _⟩
    · cases c2
      · have e181 : f 181 = .bool false := hv 13 (by kernel_rfl)
        have g181 := fv_get (n := 303) (by decide) e181
        have e194 : f 194 = .bool true := hv 26 (by kernel_rfl)
        have g194 := fv_get (n := 303) (by decide) e194
        refine wpOp_step (o := { dst := some 195, op := Op.pick (Operand.tmp 181) (Operand.const (Value.bool true)) (Operand.tmp 194), type := 4, pos := "ref.go:337", after := #[{ on := 13, ground := Ground.data }, { on := 26, ground := Ground.data }], guard := none }) rfl ?_
        intro K' hK'
        rw [if_pos (wanted_none rfl)]
        go_simp
        (try simp only [g181, g194])
        (try go_simp)
        exact hK' _ _ ⟨fv_set _ _, Below.refl _ _⟩
      · have e181 : f 181 = .bool false := hv 13 (by kernel_rfl)
        have g181 := fv_get (n := 303) (by decide) e181
        have e194 : f 194 = .bool false := hv 26 (by kernel_rfl)
        have g194 := fv_get (n := 303) (by decide) e194
        refine wpOp_step (o := { dst := some 195, op := Op.pick (Operand.tmp 181) (Operand.const (Value.bool true)) (Operand.tmp 194), type := 4, pos := "ref.go:337", after := #[{ on := 13, ground := Ground.data }, { on := 26, ground := Ground.data }], guard := none }) rfl ?_
        intro K' hK'
        rw [if_pos (wanted_none rfl)]
        go_simp
        (try simp only [g181, g194])
        (try go_simp)
        exact hK' _ _ ⟨fv_set _ _, Below.refl _ _⟩
  | 28, _ =>
    cases c1
    · have e195 : f 195 = .bool true := hv 27 (by kernel_rfl)
      have g195 := fv_get (n := 303) (by decide) e195
      refine wpOp_step (o := { dst := some 196, op := Op.move (Operand.tmp 195), type := 4, pos := "ref.go:337", after := #[{ on := 27, ground := Ground.data }, { on := 13, ground := Ground.chain }], guard := none }) rfl ?_
      intro K' hK'
      rw [if_pos (wanted_none rfl)]
      go_simp
      (try simp only [g195])
      (try go_simp)
      exact hK' _ _ ⟨fv_set _ _, Below.refl _ _⟩
    · cases c2
      · have e195 : f 195 = .bool true := hv 27 (by kernel_rfl)
        have g195 := fv_get (n := 303) (by decide) e195
        refine wpOp_step (o := { dst := some 196, op := Op.move (Operand.tmp 195), type := 4, pos := "ref.go:337", after := #[{ on := 27, ground := Ground.data }, { on := 13, ground := Ground.chain }], guard := none }) rfl ?_
        intro K' hK'
        rw [if_pos (wanted_none rfl)]
        go_simp
        (try simp only [g195])
        (try go_simp)
        exact hK' _ _ ⟨fv_set _ _, Below.refl _ _⟩
      · have e195 : f 195 = .bool false := hv 27 (by kernel_rfl)
        have g195 := fv_get (n := 303) (by decide) e195
        refine wpOp_step (o := { dst := some 196, op := Op.move (Operand.tmp 195), type := 4, pos := "ref.go:337", after := #[{ on := 27, ground := Ground.data }, { on := 13, ground := Ground.chain }], guard := none }) rfl ?_
        intro K' hK'
        rw [if_pos (wanted_none rfl)]
        go_simp
        (try simp only [g195])
        (try go_simp)
        exact hK' _ _ ⟨fv_set _ _, Below.refl _ _⟩
  | 29, _ =>
    cases c1
    · exact step_off (o := { dst := some 197, op := Op.fieldAddr 32 (Operand.tmp 2) 5, type := 0, pos := "ref.go:337", after := #[{ on := 28, ground := Ground.guard }], guard := some (28, false) }) (g := 28) (d := 196) (c := true) rfl rfl rfl rfl (by decide) (hv 28 (by kernel_rfl)) rfl rfl
    · cases c2
      · exact step_off (o := { dst := some 197, op := Op.fieldAddr 32 (Operand.tmp 2) 5, type := 0, pos := "ref.go:337", after := #[{ on := 28, ground := Ground.guard }], guard := some (28, false) }) (g := 28) (d := 196) (c := true) rfl rfl rfl rfl (by decide) (hv 28 (by kernel_rfl)) rfl rfl
      · have e2 : f 2 = .pointer (some ⟨H, 0, none⟩) := (ho 2 (by decide)).trans f2
        have g2 := fv_get (n := 303) (by decide) e2
        have eg : f 196 = .bool false := hv 28 (by kernel_rfl)
        refine wpOp_step (o := { dst := some 197, op := Op.fieldAddr 32 (Operand.tmp 2) 5, type := 0, pos := "ref.go:337", after := #[{ on := 28, ground := Ground.guard }], guard := some (28, false) }) rfl ?_
        intro K' hK'
        rw [if_pos (by rw [wanted_some (g := 28) (d := 196) (b := false) (c := false) rfl rfl (by decide) eg]; rfl)]
        go_simp
        (try simp only [g2])
        (try go_simp)
        exact hK' _ _ ⟨fv_set _ _, Below.refl _ _⟩
  | 30, _ =>
    cases c1
    · exact step_off (o := { dst := some 198, op := Op.load 26 (Operand.tmp 197), type := 26, pos := "ref.go:337", after := #[{ on := 29, ground := Ground.data }, { on := 28, ground := Ground.guard }], guard := some (28, false) }) (g := 28) (d := 196) (c := true) rfl rfl rfl rfl (by decide) (hv 28 (by kernel_rfl)) rfl rfl
    · cases c2
      · exact step_off (o := { dst := some 198, op := Op.load 26 (Operand.tmp 197), type := 26, pos := "ref.go:337", after := #[{ on := 29, ground := Ground.data }, { on := 28, ground := Ground.guard }], guard := some (28, false) }) (g := 28) (d := 196) (c := true) rfl rfl rfl rfl (by decide) (hv 28 (by kernel_rfl)) rfl rfl
      · have e197 : f 197 = .pointer (some ⟨H, 5, none⟩) := hv 29 (by kernel_rfl)
        have g197 := fv_get (n := 303) (by decide) e197
        have eg : f 196 = .bool false := hv 28 (by kernel_rfl)
        have c198_0 := keep_below hb _ _ x
        refine wpOp_step (o := { dst := some 198, op := Op.load 26 (Operand.tmp 197), type := 26, pos := "ref.go:337", after := #[{ on := 29, ground := Ground.data }, { on := 28, ground := Ground.guard }], guard := some (28, false) }) rfl ?_
        intro K' hK'
        rw [if_pos (by rw [wanted_some (g := 28) (d := 196) (b := false) (c := false) rfl rfl (by decide) eg]; rfl)]
        go_simp
        (try simp only [g197])
        (try go_simp)
        exact hK' _ _ ⟨fv_set _ _, Below.refl _ _⟩
  | 31, _ =>
    cases c1
    · exact step_off (o := { dst := some 199, op := Op.move (Operand.tmp 10), type := 3, pos := "ref.go:337", after := #[{ on := 28, ground := Ground.guard }], guard := some (28, false) }) (g := 28) (d := 196) (c := true) rfl rfl rfl rfl (by decide) (hv 28 (by kernel_rfl)) rfl rfl
    · cases c2
      · exact step_off (o := { dst := some 199, op := Op.move (Operand.tmp 10), type := 3, pos := "ref.go:337", after := #[{ on := 28, ground := Ground.guard }], guard := some (28, false) }) (g := 28) (d := 196) (c := true) rfl rfl rfl rfl (by decide) (hv 28 (by kernel_rfl)) rfl rfl
      · have e10 : f 10 = .int .i64 (i : Int) := (ho 10 (by decide)).trans fi
        have g10 := fv_get (n := 303) (by decide) e10
        have eg : f 196 = .bool false := hv 28 (by kernel_rfl)
        refine wpOp_step (o := { dst := some 199, op := Op.move (Operand.tmp 10), type := 3, pos := "ref.go:337", after := #[{ on := 28, ground := Ground.guard }], guard := some (28, false) }) rfl ?_
        intro K' hK'
        rw [if_pos (by rw [wanted_some (g := 28) (d := 196) (b := false) (c := false) rfl rfl (by decide) eg]; rfl)]
        go_simp
        (try simp only [g10])
        (try go_simp)
        exact hK' _ _ ⟨fv_set _ _, Below.refl _ _⟩
  | 32, _ =>
    cases c1
    · exact step_off (o := { dst := some 200, op := Op.indexAddr 26 (Operand.tmp 198) (Operand.tmp 199), type := 0, pos := "ref.go:337", after := #[{ on := 30, ground := Ground.data }, { on := 31, ground := Ground.data }, { on := 28, ground := Ground.guard }], guard := some (28, false) }) (g := 28) (d := 196) (c := true) rfl rfl rfl rfl (by decide) (hv 28 (by kernel_rfl)) rfl rfl
    · cases c2
      · exact step_off (o := { dst := some 200, op := Op.indexAddr 26 (Operand.tmp 198) (Operand.tmp 199), type := 0, pos := "ref.go:337", after := #[{ on := 30, ground := Ground.data }, { on := 31, ground := Ground.data }, { on := 28, ground := Ground.guard }], guard := some (28, false) }) (g := 28) (d := 196) (c := true) rfl rfl rfl rfl (by decide) (hv 28 (by kernel_rfl)) rfl rfl
      · have e198 : f 198 = .slice (some ⟨b, o, none⟩) N k0 := hv 30 (by kernel_rfl)
        have g198 := fv_get (n := 303) (by decide) e198
        have e199 : f 199 = .int .i64 (i : Int) := hv 31 (by kernel_rfl)
        have g199 := fv_get (n := 303) (by decide) e199
        have eg : f 196 = .bool false := hv 28 (by kernel_rfl)
        refine wpOp_step (o := { dst := some 200, op := Op.indexAddr 26 (Operand.tmp 198) (Operand.tmp 199), type := 0, pos := "ref.go:337", after := #[{ on := 30, ground := Ground.data }, { on := 31, ground := Ground.data }, { on := 28, ground := Ground.guard }], guard := some (28, false) }) rfl ?_
        intro K' hK'
        rw [if_pos (by rw [wanted_some (g := 28) (d := 196) (b := false) (c := false) rfl rfl (by decide) eg]; rfl)]
        go_simp
        (try simp only [g198, g199])
        (try go_simp)
        exact hK' _ _ ⟨fv_set _ _, Below.refl _ _⟩
  | 33, _ =>
    cases c1
    · exact step_off (o := { dst := some 201, op := Op.fieldAddr 59 (Operand.tmp 200) 2, type := 0, pos := "ref.go:337", after := #[{ on := 32, ground := Ground.data }, { on := 28, ground := Ground.guard }], guard := some (28, false) }) (g := 28) (d := 196) (c := true) rfl rfl rfl rfl (by decide) (hv 28 (by kernel_rfl)) rfl rfl
    · cases c2
      · exact step_off (o := { dst := some 201, op := Op.fieldAddr 59 (Operand.tmp 200) 2, type := 0, pos := "ref.go:337", after := #[{ on := 32, ground := Ground.data }, { on := 28, ground := Ground.guard }], guard := some (28, false) }) (g := 28) (d := 196) (c := true) rfl rfl rfl rfl (by decide) (hv 28 (by kernel_rfl)) rfl rfl
      · have e200 : f 200 = .pointer (some ⟨b, o + i * 9, none⟩) := hv 32 (by kernel_rfl)
        have g200 := fv_get (n := 303) (by decide) e200
        have eg : f 196 = .bool false := hv 28 (by kernel_rfl)
        refine wpOp_step (o := { dst := some 201, op := Op.fieldAddr 59 (Operand.tmp 200) 2, type := 0, pos := "ref.go:337", after := #[{ on := 32, ground := Ground.data }, { on := 28, ground := Ground.guard }], guard := some (28, false) }) rfl ?_
        intro K' hK'
        rw [if_pos (by rw [wanted_some (g := 28) (d := 196) (b := false) (c := false) rfl rfl (by decide) eg]; rfl)]
        go_simp
        (try simp only [g200])
        (try go_simp)
        exact hK' _ _ ⟨fv_set _ _, Below.refl _ _⟩
  | 34, _ =>
    cases c1
    · exact step_off (o := { dst := some 202, op := Op.load 53 (Operand.tmp 201), type := 53, pos := "ref.go:337", after := #[{ on := 33, ground := Ground.data }, { on := 28, ground := Ground.guard }], guard := some (28, false) }) (g := 28) (d := 196) (c := true) rfl rfl rfl rfl (by decide) (hv 28 (by kernel_rfl)) rfl rfl
    · cases c2
      · exact step_off (o := { dst := some 202, op := Op.load 53 (Operand.tmp 201), type := 53, pos := "ref.go:337", after := #[{ on := 33, ground := Ground.data }, { on := 28, ground := Ground.guard }], guard := some (28, false) }) (g := 28) (d := 196) (c := true) rfl rfl rfl rfl (by decide) (hv 28 (by kernel_rfl)) rfl rfl
      · have e201 : f 201 = .pointer (some ⟨b, o + i * 9 + 2, none⟩) := hv 33 (by kernel_rfl)
        have g201 := fv_get (n := 303) (by decide) e201
        have eg : f 196 = .bool false := hv 28 (by kernel_rfl)
        have c202_0 := keep_below hb _ _ c_0
        have c202_1 := keep_below hb _ _ c_1
        have c202_2 := keep_below hb _ _ c_2
        have c202_3 := keep_below hb _ _ c_3
        have c202_4 := keep_below hb _ _ c_4
        have c202_5 := keep_below hb _ _ c_5
        have c202_6 := keep_below hb _ _ c_6
        refine wpOp_step (o := { dst := some 202, op := Op.load 53 (Operand.tmp 201), type := 53, pos := "ref.go:337", after := #[{ on := 33, ground := Ground.data }, { on := 28, ground := Ground.guard }], guard := some (28, false) }) rfl ?_
        intro K' hK'
        rw [if_pos (by rw [wanted_some (g := 28) (d := 196) (b := false) (c := false) rfl rfl (by decide) eg]; rfl)]
        go_simp
        (try simp only [g201])
        (try go_simp)
        exact hK' _ _ ⟨fv_set _ _, Below.refl _ _⟩
  | 35, _ =>
    cases c1
    · exact step_off (o := { dst := some 203, op := Op.fieldAddr 32 (Operand.tmp 3) 5, type := 0, pos := "ref.go:337", after := #[{ on := 28, ground := Ground.guard }], guard := some (28, false) }) (g := 28) (d := 196) (c := true) rfl rfl rfl rfl (by decide) (hv 28 (by kernel_rfl)) rfl rfl
    · cases c2
      · exact step_off (o := { dst := some 203, op := Op.fieldAddr 32 (Operand.tmp 3) 5, type := 0, pos := "ref.go:337", after := #[{ on := 28, ground := Ground.guard }], guard := some (28, false) }) (g := 28) (d := 196) (c := true) rfl rfl rfl rfl (by decide) (hv 28 (by kernel_rfl)) rfl rfl
      · have e3 : f 3 = .pointer (some ⟨H2, 0, none⟩) := (ho 3 (by decide)).trans f3
        have g3 := fv_get (n := 303) (by decide) e3
        have eg : f 196 = .bool false := hv 28 (by kernel_rfl)
        refine wpOp_step (o := { dst := some 203, op := Op.fieldAddr 32 (Operand.tmp 3) 5, type := 0, pos := "ref.go:337", after := #[{ on := 28, ground := Ground.guard }], guard := some (28, false) }) rfl ?_
        intro K' hK'
        rw [if_pos (by rw [wanted_some (g := 28) (d := 196) (b := false) (c := false) rfl rfl (by decide) eg]; rfl)]
        go_simp
        (try simp only [g3])
        (try go_simp)
        exact hK' _ _ ⟨fv_set _ _, Below.refl _ _⟩
  | 36, _ =>
    cases c1
    · exact step_off (o := { dst := some 204, op := Op.load 26 (Operand.tmp 203), type := 26, pos := "ref.go:337", after := #[{ on := 35, ground := Ground.data }, { on := 28, ground := Ground.guard }], guard := some (28, false) }) (g := 28) (d := 196) (c := true) rfl rfl rfl rfl (by decide) (hv 28 (by kernel_rfl)) rfl rfl
    · cases c2
      · exact step_off (o := { dst := some 204, op := Op.load 26 (Operand.tmp 203), type := 26, pos := "ref.go:337", after := #[{ on := 35, ground := Ground.data }, { on := 28, ground := Ground.guard }], guard := some (28, false) }) (g := 28) (d := 196) (c := true) rfl rfl rfl rfl (by decide) (hv 28 (by kernel_rfl)) rfl rfl
      · have e203 : f 203 = .pointer (some ⟨H2, 5, none⟩) := hv 35 (by kernel_rfl)
        have g203 := fv_get (n := 303) (by decide) e203
        have eg : f 196 = .bool false := hv 28 (by kernel_rfl)
        have c204_0 := keep_below hb _ _ x'
        refine wpOp_step (o := { dst := some 204, op := Op.load 26 (Operand.tmp 203), type := 26, pos := "ref.go:337", after := #[{ on := 35, ground := Ground.data }, { on := 28, ground := Ground.guard }], guard := some (28, false) }) rfl ?_
        intro K' hK'
        rw [if_pos (by rw [wanted_some (g := 28) (d := 196) (b := false) (c := false) rfl rfl (by decide) eg]; rfl)]
        go_simp
        (try simp only [g203])
        (try go_simp)
        exact hK' _ _ ⟨fv_set _ _, Below.refl _ _⟩
  | 37, _ =>
    cases c1
    · exact step_off (o := { dst := some 205, op := Op.move (Operand.tmp 10), type := 3, pos := "ref.go:337", after := #[{ on := 28, ground := Ground.guard }], guard := some (28, false) }) (g := 28) (d := 196) (c := true) rfl rfl rfl rfl (by decide) (hv 28 (by kernel_rfl)) rfl rfl
    · cases c2
      · exact step_off (o := { dst := some 205, op := Op.move (Operand.tmp 10), type := 3, pos := "ref.go:337", after := #[{ on := 28, ground := Ground.guard }], guard := some (28, false) }) (g := 28) (d := 196) (c := true) rfl rfl rfl rfl (by decide) (hv 28 (by kernel_rfl)) rfl rfl
      · have e10 : f 10 = .int .i64 (i : Int) := (ho 10 (by decide)).trans fi
        have g10 := fv_get (n := 303) (by decide) e10
        have eg : f 196 = .bool false := hv 28 (by kernel_rfl)
        refine wpOp_step (o := { dst := some 205, op := Op.move (Operand.tmp 10), type := 3, pos := "ref.go:337", after := #[{ on := 28, ground := Ground.guard }], guard := some (28, false) }) rfl ?_
        intro K' hK'
        rw [if_pos (by rw [wanted_some (g := 28) (d := 196) (b := false) (c := false) rfl rfl (by decide) eg]; rfl)]
        go_simp
        (try simp only [g10])
        (try go_simp)
        exact hK' _ _ ⟨fv_set _ _, Below.refl _ _⟩
  | 38, _ =>
    cases c1
    · exact step_off (o := { dst := some 206, op := Op.indexAddr 26 (Operand.tmp 204) (Operand.tmp 205), type := 0, pos := "ref.go:337", after := #[{ on := 36, ground := Ground.data }, { on := 37, ground := Ground.data }, { on := 28, ground := Ground.guard }], guard := some (28, false) }) (g := 28) (d := 196) (c := true) rfl rfl rfl rfl (by decide) (hv 28 (by kernel_rfl)) rfl rfl
    · cases c2
      · exact step_off (o := { dst := some 206, op := Op.indexAddr 26 (Operand.tmp 204) (Operand.tmp 205), type := 0, pos := "ref.go:337", after := #[{ on := 36, ground := Ground.data }, { on := 37, ground := Ground.data }, { on := 28, ground := Ground.guard }], guard := some (28, false) }) (g := 28) (d := 196) (c := true) rfl rfl rfl rfl (by decide) (hv 28 (by kernel_rfl)) rfl rfl
      · have e204 : f 204 = .slice (some ⟨b', o', none⟩) N' k0' := hv 36 (by kernel_rfl)
        have g204 := fv_get (n := 303) (by decide) e204
        have e205 : f 205 = .int .i64 (i : Int) := hv 37 (by kernel_rfl)
        have g205 := fv_get (n := 303) (by decide) e205
        have eg : f 196 = .bool false := hv 28 (by kernel_rfl)
        refine wpOp_step (o := { dst := some 206, op := Op.indexAddr 26 (Operand.tmp 204) (Operand.tmp 205), type := 0, pos := "ref.go:337", after := #[{ on := 36, ground := Ground.data }, { on := 37, ground := Ground.data }, { on := 28, ground := Ground.guard }], guard := some (28, false) }) rfl ?_
        intro K' hK'
        rw [if_pos (by rw [wanted_some (g := 28) (d := 196) (b := false) (c := false) rfl rfl (by decide) eg]; rfl)]
        go_simp
        (try simp only [g204, g205])
        (try go_simp)
        exact hK' _ _ ⟨fv_set _ _, Below.refl _ _⟩
  | 39, _ =>
    cases c1
    · exact step_off (o := { dst := some 207, op := Op.fieldAddr 59 (Operand.tmp 206) 2, type := 0, pos := "ref.go:337", after := #[{ on := 38, ground := Ground.data }, { on := 28, ground := Ground.guard }], guard := some (28, false) }) (g := 28) (d := 196) (c := true) rfl rfl rfl rfl (by decide) (hv 28 (by kernel_rfl)) rfl rfl
    · cases c2
      · exact step_off (o := { dst := some 207, op := Op.fieldAddr 59 (Operand.tmp 206) 2, type := 0, pos := "ref.go:337", after := #[{ on := 38, ground := Ground.data }, { on := 28, ground := Ground.guard }], guard := some (28, false) }) (g := 28) (d := 196) (c := true) rfl rfl rfl rfl (by decide) (hv 28 (by kernel_rfl)) rfl rfl
      · have e206 : f 206 = .pointer (some ⟨b', o' + i * 9, none⟩) := hv 38 (by kernel_rfl)
        have g206 := fv_get (n := 303) (by decide) e206
        have eg : f 196 = .bool false := hv 28 (by kernel_rfl)
        refine wpOp_step (o := { dst := some 207, op := Op.fieldAddr 59 (Operand.tmp 206) 2, type := 0, pos := "ref.go:337", after := #[{ on := 38, ground := Ground.data }, { on := 28, ground := Ground.guard }], guard := some (28, false) }) rfl ?_
        intro K' hK'
        rw [if_pos (by rw [wanted_some (g := 28) (d := 196) (b := false) (c := false) rfl rfl (by decide) eg]; rfl)]
        go_simp
        (try simp only [g206])
        (try go_simp)
        exact hK' _ _ ⟨fv_set _ _, Below.refl _ _⟩
  | 40, _ =>
    cases c1
    · exact step_off (o := { dst := some 208, op := Op.load 53 (Operand.tmp 207), type := 53, pos := "ref.go:337", after := #[{ on := 39, ground := Ground.data }, { on := 28, ground := Ground.guard }], guard := some (28, false) }) (g := 28) (d := 196) (c := true) rfl rfl rfl rfl (by decide) (hv 28 (by kernel_rfl)) rfl rfl
    · cases c2
      · exact step_off (o := { dst := some 208, op := Op.load 53 (Operand.tmp 207), type := 53, pos := "ref.go:337", after := #[{ on := 39, ground := Ground.data }, { on := 28, ground := Ground.guard }], guard := some (28, false) }) (g := 28) (d := 196) (c := true) rfl rfl rfl rfl (by decide) (hv 28 (by kernel_rfl)) rfl rfl
      · have e207 : f 207 = .pointer (some ⟨b', o' + i * 9 + 2, none⟩) := hv 39 (by kernel_rfl)
        have g207 := fv_get (n := 303) (by decide) e207
        have eg : f 196 = .bool false := hv 28 (by kernel_rfl)
        have c208_0 := keep_below hb _ _ c2_0
        have c208_1 := keep_below hb _ _ c2_1
        have c208_2 := keep_below hb _ _ c2_2
        have c208_3 := keep_below hb _ _ c2_3
        have c208_4 := keep_below hb _ _ c2_4
        have c208_5 := keep_below hb _ _ c2_5
        have c208_6 := keep_below hb _ _ c2_6
        refine wpOp_step (o := { dst := some 208, op := Op.load 53 (Operand.tmp 207), type := 53, pos := "ref.go:337", after := #[{ on := 39, ground := Ground.data }, { on := 28, ground := Ground.guard }], guard := some (28, false) }) rfl ?_
        intro K' hK'
        rw [if_pos (by rw [wanted_some (g := 28) (d := 196) (b := false) (c := false) rfl rfl (by decide) eg]; rfl)]
        go_simp
        (try simp only [g207])
        (try go_simp)
        exact hK' _ _ ⟨fv_set _ _, Below.refl _ _⟩
  | 41, _ =>
    cases c1
    · exact step_off (o := { dst := some 209, op := Op.call { callee := Callee.value (Operand.func 35), args := #[Operand.tmp 202, Operand.tmp 208], argTypes := #[53, 53] }, type := 4, pos := "ref.go:337", after := #[{ on := 34, ground := Ground.data }, { on := 40, ground := Ground.data }, { on := 28, ground := Ground.chain }, { on := 28, ground := Ground.guard }], guard := some (28, false) }) (g := 28) (d := 196) (c := true) rfl rfl rfl rfl (by decide) (hv 28 (by kernel_rfl)) rfl rfl
    · cases c2
      · exact step_off (o := { dst := some 209, op := Op.call { callee := Callee.value (Operand.func 35), args := #[Operand.tmp 202, Operand.tmp 208], argTypes := #[53, 53] }, type := 4, pos := "ref.go:337", after := #[{ on := 34, ground := Ground.data }, { on := 40, ground := Ground.data }, { on := 28, ground := Ground.chain }, { on := 28, ground := Ground.guard }], guard := some (28, false) }) (g := 28) (d := 196) (c := true) rfl rfl rfl rfl (by decide) (hv 28 (by kernel_rfl)) rfl rfl
      · have e202 : f 202 = .agg #[.int .i64 op, .int .i64 x1, .int .i64 y, .int .i64 n, .slice a4 ls.length k4, .slice a5 body.len k5, .slice a6 els.len k6] := hv 34 (by kernel_rfl)
        have g202 := fv_get (n := 303) (by decide) e202
        have e208 : f 208 = .agg #[.int .i64 op', .int .i64 x1', .int .i64 y', .int .i64 n', .slice a4' ls'.length k4', .slice a5' body'.len k5', .slice a6' els'.len k6'] := hv 40 (by kernel_rfl)
        have g208 := fv_get (n := 303) (by decide) e208
        have eg : f 196 = .bool false := hv 28 (by kernel_rfl)
        refine wpOp_step (o := { dst := some 209, op := Op.call { callee := Callee.value (Operand.func 35), args := #[Operand.tmp 202, Operand.tmp 208], argTypes := #[53, 53] }, type := 4, pos := "ref.go:337", after := #[{ on := 34, ground := Ground.data }, { on := 40, ground := Ground.data }, { on := 28, ground := Ground.chain }, { on := 28, ground := Ground.guard }], guard := some (28, false) }) rfl ?_
        intro K' hK'
        rw [if_pos (by rw [wanted_some (g := 28) (d := 196) (b := false) (c := false) rfl rfl (by decide) eg]; rfl)]
        go_simp
        (try simp only [g202, g208])
        (try go_simp)
        go_at_call 35
        refine (instr_any op x1 y n ls body els a4 k4 a5 k5 a6 k6 op' x1' y' n' ls' body' els' a4' k4' a5' k5' a6' k6' _ (h1.keep (keep_below hb)) (h2.keep (keep_below hb))).mono ?_
        rintro e u ⟨rfl, hu⟩
        rw [d_one]
        go_simp
        exact hK' _ _ ⟨fv_set _ _, hu⟩
  | 42, _ =>
    cases c1
    · exact step_off (o := { dst := some 210, op := Op.unOp UnOp.not 4 (Operand.tmp 209), type := 4, pos := "ref.go:337", after := #[{ on := 41, ground := Ground.data }, { on := 28, ground := Ground.guard }], guard := some (28, false) }) (g := 28) (d := 196) (c := true) rfl rfl rfl rfl (by decide) (hv 28 (by kernel_rfl)) rfl rfl
    · cases c2
      · exact step_off (o := { dst := some 210, op := Op.unOp UnOp.not 4 (Operand.tmp 209), type := 4, pos := "ref.go:337", after := #[{ on := 41, ground := Ground.data }, { on := 28, ground := Ground.guard }], guard := some (28, false) }) (g := 28) (d := 196) (c := true) rfl rfl rfl rfl (by decide) (hv 28 (by kernel_rfl)) rfl rfl
      · have e209 : f 209 = .bool c3 := hv 41 (by kernel_rfl)
        have g209 := fv_get (n := 303) (by decide) e209
        have eg : f 196 = .bool false := hv 28 (by kernel_rfl)
        refine wpOp_step (o := { dst := some 210, op := Op.unOp UnOp.not 4 (Operand.tmp 209), type := 4, pos := "ref.go:337", after := #[{ on := 41, ground := Ground.data }, { on := 28, ground := Ground.guard }], guard := some (28, false) }) rfl ?_
        intro K' hK'
        rw [if_pos (by rw [wanted_some (g := 28) (d := 196) (b := false) (c := false) rfl rfl (by decide) eg]; rfl)]
        go_simp
        (try simp only [g209])
        (try go_simp)
        exact hK' _ _ ⟨fv_set _ _, Below.refl _ _⟩
  | 43, _ =>
    cases c1
    · have e196 : f 196 = .bool true := hv 28 (by kernel_rfl)
      have g196 := fv_get (n := 303) (by decide) e196
      refine wpOp_step (o := { dst := some 211, op := Op.pick (Operand.tmp 196) (Operand.const (Value.bool true)) (Operand.tmp 210), type := 4, pos := "ref.go:337", after := #[{ on := 28, ground := Ground.data }, { on := 42, ground := Ground.data }], guard := none }) rfl ?_
      intro K' hK'
      rw [if_pos (wanted_none rfl)]
      go_simp
      (try simp only [g196])
      (try go_simp)
      exact hK' _ _ ⟨fv_set _ _, Below.refl _ _⟩
    · cases c2
      · have e196 : f 196 = .bool true := hv 28 (by kernel_rfl)
        have g196 := fv_get (n := 303) (by decide) e196
        refine wpOp_step (o := { dst := some 211, op := Op.pick (Operand.tmp 196) (Operand.const (Value.bool true)) (Operand.tmp 210), type := 4, pos := "ref.go:337", after := #[{ on := 28, ground := Ground.data }, { on := 42, ground := Ground.data }], guard := none }) rfl ?_
        intro K' hK'
        rw [if_pos (wanted_none rfl)]
        go_simp
        (try simp only [g196])
        (try go_simp)
        exact hK' _ _ ⟨fv_set _ _, Below.refl _ _⟩
      · have e196 : f 196 = .bool false := hv 28 (by kernel_rfl)
        have g196 := fv_get (n := 303) (by decide) e196
        have e210 : f 210 = .bool (!c3) := hv 42 (by kernel_rfl)
        have g210 := fv_get (n := 303) (by decide) e210
        refine wpOp_step (o := { dst := some 211, op := Op.pick (Operand.tmp 196) (Operand.const (Value.bool true)) (Operand.tmp 210), type := 4, pos := "ref.go:337", after := #[{ on := 28, ground := Ground.data }, { on := 42, ground := Ground.data }], guard := none }) rfl ?_
        intro K' hK'
        rw [if_pos (wanted_none rfl)]
        go_simp
        (try simp only [g196, g210])
        (try go_simp)
        exact hK' _ _ ⟨fv_set _ _, Below.refl _ _⟩
  | k + 44, h => exact absurd h (by omega)
def ops41 : Array Oper := #[{ dst := some 237, op := Op.fieldAddr 32 (Operand.tmp 2) 8, type := 0, pos := "ref.go:347", after := #[], guard := none }, { dst := some 238, op := Op.load 29 (Operand.tmp 237), type := 29, pos := "ref.go:347", after := #[{ on := 0, ground := Ground.data }], guard := none }, { dst := some 239, op := Op.move (Operand.tmp 12), type := 3, pos := "ref.go:347", after := #[], guard := none }, { dst := some 240, op := Op.indexAddr 29 (Operand.tmp 238) (Operand.tmp 239), type := 0, pos := "ref.go:347", after := #[{ on := 1, ground := Ground.data }, { on := 2, ground := Ground.data }], guard := none }, { dst := some 241, op := Op.fieldAddr 55 (Operand.tmp 240) 0, type := 0, pos := "ref.go:347", after := #[{ on := 3, ground := Ground.data }], guard := none }, { dst := some 242, op := Op.load 53 (Operand.tmp 241), type := 53, pos := "ref.go:347", after := #[{ on := 4, ground := Ground.data }], guard := none }, { dst := some 243, op := Op.fieldAddr 32 (Operand.tmp 3) 8, type := 0, pos := "ref.go:347", after := #[], guard := none }, { dst := some 244, op := Op.load 29 (Operand.tmp 243), type := 29, pos := "ref.go:347", after := #[{ on := 6, ground := Ground.data }], guard := none }, { dst := some 245, op := Op.move (Operand.tmp 12), type := 3, pos := "ref.go:347", after := #[], guard := none }, { dst := some 246, op := Op.indexAddr 29 (Operand.tmp 244) (Operand.tmp 245), type := 0, pos := "ref.go:347", after := #[{ on := 7, ground := Ground.data }, { on := 8, ground := Ground.data }], guard := none }, { dst := some 247, op := Op.fieldAddr 55 (Operand.tmp 246) 0, type := 0, pos := "ref.go:347", after := #[{ on := 9, ground := Ground.data }], guard := none }, { dst := some 248, op := Op.load 53 (Operand.tmp 247), type := 53, pos := "ref.go:347", after := #[{ on := 10, ground := Ground.data }], guard := none }, { dst := some 249, op := Op.call { callee := Callee.value (Operand.func 35), args := #[Operand.tmp 242, Operand.tmp 248], argTypes := #[53, 53] }, type := 4, pos := "ref.go:347", after := #[{ on := 5, ground := Ground.data }, { on := 11, ground := Ground.data }], guard := none }, { dst := some 250, op := Op.unOp UnOp.not 4 (Operand.tmp 249), type := 4, pos := "ref.go:347", after := #[{ on := 12, ground := Ground.data }], guard := none }, { dst := some 251, op := Op.move (Operand.tmp 250), type := 4, pos := "ref.go:347", after := #[{ on := 13, ground := Ground.data }, { on := 12, ground := Ground.chain }], guard := none }, { dst := some 252, op := Op.fieldAddr 32 (Operand.tmp 2) 8, type := 0, pos := "ref.go:347", after := #[{ on := 14, ground := Ground.guard }], guard := some (14, false) }, { dst := some 253, op := Op.load 29 (Operand.tmp 252), type := 29, pos := "ref.go:347", after := #[{ on := 15, ground := Ground.data }, { on := 14, ground := Ground.guard }], guard := some (14, false) }, { dst := some 254, op := Op.move (Operand.tmp 12), type := 3, pos := "ref.go:347", after := #[{ on := 14, ground := Ground.guard }], guard := some (14, false) }, { dst := some 255, op := Op.indexAddr 29 (Operand.tmp 253) (Operand.tmp 254), type := 0, pos := "ref.go:347", after := #[{ on := 16, ground := Ground.data }, { on := 17, ground := Ground.data }, { on := 14, ground := Ground.guard }], guard := some (14, false) }, { dst := some 256, op := Op.fieldAddr 55 (Operand.tmp 255) 1, type := 0, pos := "ref.go:347", after := #[{ on := 18, ground := Ground.data }, { on := 14, ground := Ground.guard }], guard := some (14, false) }, { dst := some 257, op := Op.load 28 (Operand.tmp 256), type := 28, pos := "ref.go:347", after := #[{ on := 19, ground := Ground.data }, { on := 14, ground := Ground.guard }], guard := some (14, false) }, { dst := some 258, op := Op.fieldAddr 32 (Operand.tmp 3) 8, type := 0, pos := "ref.go:347", after := #[{ on := 14, ground := Ground.guard }], guard := some (14, false) }, { dst := some 259, op := Op.load 29 (Operand.tmp 258), type := 29, pos := "ref.go:347", after := #[{ on := 21, ground := Ground.data }, { on := 14, ground := Ground.guard }], guard := some (14, false) }, { dst := some 260, op := Op.move (Operand.tmp 12), type := 3, pos := "ref.go:347", after := #[{ on := 14, ground := Ground.guard }], guard := some (14, false) }, { dst := some 261, op := Op.indexAddr 29 (Operand.tmp 259) (Operand.tmp 260), type := 0, pos := "ref.go:347", after := #[{ on := 22, ground := Ground.data }, { on := 23, ground := Ground.data }, { on := 14, ground := Ground.guard }], guard := some (14, false) }, { dst := some 262, op := Op.fieldAddr 55 (Operand.tmp 261) 1, type := 0, pos := "ref.go:347", after := #[{ on := 24, ground := Ground.data }, { on := 14, ground := Ground.guard }], guard := some (14, false) }, { dst := some 263, op := Op.load 28 (Operand.tmp 262), type := 28, pos := "ref.go:347", after := #[{ on := 25, ground := Ground.data }, { on := 14, ground := Ground.guard }], guard := some (14, false) }, { dst := some 264, op := Op.call { callee := Callee.value (Operand.func 33), args := #[Operand.tmp 257, Operand.tmp 263], argTypes := #[28, 28] }, type := 4, pos := "ref.go:347", after := #[{ on := 20, ground := Ground.data }, { on := 26, ground := Ground.data }, { on := 14, ground := Ground.chain }, { on := 14, ground := Ground.guard }], guard := some (14, false) }, { dst := some 265, op := Op.unOp UnOp.not 4 (Operand.tmp 264), type := 4, pos := "ref.go:347", after := #[{ on := 27, ground := Ground.data }, { on := 14, ground := Ground.guard }], guard := some (14, false) }, { dst := some 266, op := Op.pick (Operand.tmp 251) (Operand.const (Value.bool true)) (Operand.tmp 265), type := 4, pos := "ref.go:347", after := #[{ on := 14, ground := Ground.data }, { on := 28, ground := Ground.data }], guard := none }]
set_option maxRecDepth 100000 in
set_option maxHeartbeats 4000000 in
theorem reg41 {Q : Exit → Act → World → Prop} {f0 : Nat → Value} {V : World} {H H2 : Nat} {b o N k0 : Nat} {b' o' N' k0' : Nat} {i : Nat} {op x1 y n op' x1' y' n' : Int} {ls ls' : List Int} {body els body' els' : Il} {a4 a4' a5 a5' a6 a6' : Option Addr} {k4 k4' k5 k5' k6 k6' : Nat} {fs fs' : List Int} {a_fs a_fs' : Option Addr} {k_fs k_fs' : Nat} {c1 c2 : Bool}
    (hmix : Tryd.prog.follows .mixedOrders = true) (f2 : f0 2 = .pointer (some ⟨H, 0, none⟩)) (f3 : f0 3 = .pointer (some ⟨H2, 0, none⟩)) (fi : f0 12 = .int .i64 (i : Int))
    (x : V.cell? ⟨H, 8, none⟩ = some (.slice (some ⟨b, o, none⟩) N k0)) (x' : V.cell? ⟨H2, 8, none⟩ = some (.slice (some ⟨b', o', none⟩) N' k0')) (hiN : i < N) (hiN' : i < N') (hN : N ≤ 9223372036854775807) (hN' : N' ≤ 9223372036854775807)
     (c_0 : V.cell? ⟨b, o + i * 8, none⟩ = some (.int .i64 op)) (c2_0 : V.cell? ⟨b', o' + i * 8, none⟩ = some (.int .i64 op')) (c_1 : V.cell? ⟨b, o + i * 8 + 1, none⟩ = some (.int .i64 x1)) (c2_1 : V.cell? ⟨b', o' + i * 8 + 1, none⟩ = some (.int .i64 x1')) (c_2 : V.cell? ⟨b, o + i * 8 + 2, none⟩ = some (.int .i64 y)) (c2_2 : V.cell? ⟨b', o' + i * 8 + 2, none⟩ = some (.int .i64 y')) (c_3 : V.cell? ⟨b, o + i * 8 + 3, none⟩ = some (.int .i64 n)) (c2_3 : V.cell? ⟨b', o' + i * 8 + 3, none⟩ = some (.int .i64 n')) (c_4 : V.cell? ⟨b, o + i * 8 + 4, none⟩ = some (.slice a4 ls.length k4)) (c2_4 : V.cell? ⟨b', o' + i * 8 + 4, none⟩ = some (.slice a4' ls'.length k4')) (c_5 : V.cell? ⟨b, o + i * 8 + 5, none⟩ = some (.slice a5 body.len k5)) (c2_5 : V.cell? ⟨b', o' + i * 8 + 5, none⟩ = some (.slice a5' body'.len k5')) (c_6 : V.cell? ⟨b, o + i * 8 + 6, none⟩ = some (.slice a6 els.len k6)) (c2_6 : V.cell? ⟨b', o' + i * 8 + 6, none⟩ = some (.slice a6' els'.len k6')) (c_7 : V.cell? ⟨b, o + i * 8 + 7, none⟩ = some (.slice a_fs fs.length k_fs)) (c2_7 : V.cell? ⟨b', o' + i * 8 + 7, none⟩ = some (.slice a_fs' fs'.length k_fs')) (h1 : OneIs V ⟨op, x1, y, n, ls, body, els⟩ a4 k4 a5 k5 a6 k6) (h2 : OneIs V ⟨op', x1', y', n', ls', body', els'⟩ a4' k4' a5' k5' a6' k6') (i_fs : IntsIn V a_fs fs) (i_fs2 : IntsIn V a_fs' fs') (d_one : ilEq (.cons op x1 y n ls body els .nil) (.cons op' x1' y' n' ls' body' els' .nil) = c1) (d_fs : decide (fs = fs') = c2)
    (fin : ∀ w' f, Below V.heap.size V w' → f 266 = cond c1 (.bool (!c2)) (.bool true) → Q .normal (Fv 303 (ovv f0 f 237 30)) w') :
    (Code.region 41 ops41 true).wp Tryd.prog Q (Fv 303 f0) V := by
  refine region_vals hmix 303 237 30 rfl (by kernel_rfl) (fun t => match t with | 237 => .pointer (some ⟨H, 8, none⟩) | 238 => .slice (some ⟨b, o, none⟩) N k0 | 239 => .int .i64 (i : Int) | 240 => .pointer (some ⟨b, o + i * 8, none⟩) | 241 => .pointer (some ⟨b, o + i * 8, none⟩) | 242 => .agg #[.int .i64 op, .int .i64 x1, .int .i64 y, .int .i64 n, .slice a4 ls.length k4, .slice a5 body.len k5, .slice a6 els.len k6] | 243 => .pointer (some ⟨H2, 8, none⟩) | 244 => .slice (some ⟨b', o', none⟩) N' k0' | 245 => .int .i64 (i : Int) | 246 => .pointer (some ⟨b', o' + i * 8, none⟩) | 247 => .pointer (some ⟨b', o' + i * 8, none⟩) | 248 => .agg #[.int .i64 op', .int .i64 x1', .int .i64 y', .int .i64 n', .slice a4' ls'.length k4', .slice a5' body'.len k5', .slice a6' els'.len k6'] | 249 => .bool c1 | 250 => .bool (!c1) | 251 => .bool (!c1) | 252 => cond c1 (.pointer (some ⟨H, 8, none⟩)) (undef) | 253 => cond c1 (.slice (some ⟨b, o, none⟩) N k0) (undef) | 254 => cond c1 (.int .i64 (i : Int)) (undef) | 255 => cond c1 (.pointer (some ⟨b, o + i * 8, none⟩)) (undef) | 256 => cond c1 (.pointer (some ⟨b, o + i * 8 + 7, none⟩)) (undef) | 257 => cond c1 (.slice a_fs fs.length k_fs) (undef) | 258 => cond c1 (.pointer (some ⟨H2, 8, none⟩)) (undef) | 259 => cond c1 (.slice (some ⟨b', o', none⟩) N' k0') (undef) | 260 => cond c1 (.int .i64 (i : Int)) (undef) | 261 => cond c1 (.pointer (some ⟨b', o' + i * 8, none⟩)) (undef) | 262 => cond c1 (.pointer (some ⟨b', o' + i * 8 + 7, none⟩)) (undef) | 263 => cond c1 (.slice a_fs' fs'.length k_fs') (undef) | 264 => cond c1 (.bool c2) (undef) | 265 => cond c1 (.bool (!c2)) (undef) | 266 => cond c1 (.bool (!c2)) (.bool true) | _ => undef) ?_ (fun w' hb => fin w' _ hb rfl)
  intro i' hi' f w' hb ho hv
  have l1 : (i : Int) < (N : Int) := by omega
  have l2 : (i : Int) < (N' : Int) := by omega
  match i', hi' with
  | 0, _ =>
    have e2 : f 2 = .pointer (some ⟨H, 0, none⟩) := (ho 2 (by decide)).trans f2
    have g2 := fv_get (n := 303) (by decide) e2
    refine wpOp_step (o := { dst := some 237, op := Op.fieldAddr 32 (Operand.tmp 2) 8, type := 0, pos := "ref.go:347", after := #[], guard := none }) rfl ?_
    intro K' hK'
    rw [if_pos (wanted_none rfl)]
    go_simp
    (try simp only [g2])
    (try go_simp)
    exact hK' _ _ ⟨fv_set _ _, Below.refl _ _⟩
  | 1, _ =>
    have e237 : f 237 = .pointer (some ⟨H, 8, none⟩) := hv 0 (by kernel_rfl)
    have g237 := fv_get (n := 303) (by decide) e237
    have c238_0 := keep_below hb _ _ x
    refine wpOp_step (o := { dst := some 238, op := Op.load 29 (Operand.tmp 237), type := 29, pos := "ref.go:347", after := #[{ on := 0, ground := Ground.data }], guard := none }) rfl ?_
    intro K' hK'
    rw [if_pos (wanted_none rfl)]
    go_simp
    (try simp only [g237])
    (try go_simp)
    exact hK' _ _ ⟨fv_set _ _, Below.refl _ _⟩
  | 2, _ =>
    have e12 : f 12 = .int .i64 (i : Int) := (ho 12 (by decide)).trans fi
    have g12 := fv_get (n := 303) (by decide) e12
    refine wpOp_step (o := { dst := some 239, op := Op.move (Operand.tmp 12), type := 3, pos := "ref.go:347", after := #[], guard := none }) rfl ?_
    intro K' hK'
    rw [if_pos (wanted_none rfl)]
    go_simp
    (try simp only [g12])
    (try go_simp)
    exact hK' _ _ ⟨fv_set _ _, Below.refl _ _⟩
  | 3, _ =>
    have e238 : f 238 = .slice (some ⟨b, o, none⟩) N k0 := hv 1 (by kernel_rfl)
    have g238 := fv_get (n := 303) (by decide) e238
    have e239 : f 239 = .int .i64 (i : Int) := hv 2 (by kernel_rfl)
    have g239 := fv_get (n := 303) (by decide) e239
    refine wpOp_step (o := { dst := some 240, op := Op.indexAddr 29 (Operand.tmp 238) (Operand.tmp 239), type := 0, pos := "ref.go:347", after := #[{ on := 1, ground := Ground.data }, { on := 2, ground := Ground.data }], guard := none }) rfl ?_
    intro K' hK'
    rw [if_pos (wanted_none rfl)]
    go_simp
    (try simp only [g238, g239])
    (try go_simp)
    exact hK' _ _ ⟨fv_set _ _, Below.refl _ _⟩
  | 4, _ =>
    have e240 : f 240 = .pointer (some ⟨b, o + i * 8, none⟩) := hv 3 (by kernel_rfl)
    have g240 := fv_get (n := 303) (by decide) e240
    refine wpOp_step (o := { dst := some 241, op := Op.fieldAddr 55 (Operand.tmp 240) 0, type := 0, pos := "ref.go:347", after := #[{ on := 3, ground := Ground.data }], guard := none }) rfl ?_
    intro K' hK'
    rw [if_pos (wanted_none rfl)]
    go_simp
    (try simp only [g240])
    (try go_simp)
    exact hK' _ _ ⟨fv_set _ _, Below.refl _ _⟩
  | 5, _ =>
    have e241 : f 241 = .pointer (some ⟨b, o + i * 8, none⟩) := hv 4 (by kernel_rfl)
    have g241 := fv_get (n := 303) (by decide) e241
    have c242_0 := keep_below hb _ _ c_0
    have c242_1 := keep_below hb _ _ c_1
    have c242_2 := keep_below hb _ _ c_2
    have c242_3 := keep_below hb _ _ c_3
    have c242_4 := keep_below hb _ _ c_4
    have c242_5 := keep_below hb _ _ c_5
    have c242_6 := keep_below hb _ _ c_6
    refine wpOp_step (o := { dst := some 242, op := Op.load 53 (Operand.tmp 241), type := 53, pos := "ref.go:347", after := #[{ on := 4, ground := Ground.data }], guard := none }) rfl ?_
    intro K' hK'
    rw [if_pos (wanted_none rfl)]
    go_simp
    (try simp only [g241])
    (try go_simp)
    exact hK' _ _ ⟨fv_set _ _, Below.refl _ _⟩
  | 6, _ =>
    have e3 : f 3 = .pointer (some ⟨H2, 0, none⟩) := (ho 3 (by decide)).trans f3
    have g3 := fv_get (n := 303) (by decide) e3
    refine wpOp_step (o := { dst := some 243, op := Op.fieldAddr 32 (Operand.tmp 3) 8, type := 0, pos := "ref.go:347", after := #[], guard := none }) rfl ?_
    intro K' hK'
    rw [if_pos (wanted_none rfl)]
    go_simp
    (try simp only [g3])
    (try go_simp)
    exact hK' _ _ ⟨fv_set _ _, Below.refl _ _⟩
  | 7, _ =>
    have e243 : f 243 = .pointer (some ⟨H2, 8, none⟩) := hv 6 (by kernel_rfl)
    have g243 := fv_get (n := 303) (by decide) e243
    have c244_0 := keep_below hb _ _ x'
    refine wpOp_step (o := { dst := some 244, op := Op.load 29 (Operand.tmp 243), type := 29, pos := "ref.go:347", after := #[{ on := 6, ground := Ground.data }], guard := none }) rfl ?_
    intro K' hK'
    rw [if_pos (wanted_none rfl)]
    go_simp
    (try simp only [g243])
    (try go_simp)
    exact hK' _ _ ⟨fv_set _ _, Below.refl _ _⟩
  | 8, _ =>
    have e12 : f 12 = .int .i64 (i : Int) := (ho 12 (by decide)).trans fi
    have g12 := fv_get (n := 303) (by decide) e12
    refine wpOp_step (o := { dst := some 245, op := Op.move (Operand.tmp 12), type := 3, pos := "ref.go:347", after := #[], guard := none }) rfl ?_
    intro K' hK'
    rw [if_pos (wanted_none rfl)]
    go_simp
    (try simp only [g12])
    (try go_simp)
    exact hK' _ _ ⟨fv_set _ _, Below.refl _ _⟩
  | 9, _ =>
    have e244 : f 244 = .slice (some ⟨b', o', none⟩) N' k0' := hv 7 (by kernel_rfl)
    have g244 := fv_get (n := 303) (by decide) e244
    have e245 : f 245 = .int .i64 (i : Int) := hv 8 (by kernel_rfl)
    have g245 := fv_get (n := 303) (by decide) e245
    refine wpOp_step (o := { dst := some 246, op := Op.indexAddr 29 (Operand.tmp 244) (Operand.tmp 245), type := 0, pos := "ref.go:347", after := #[{ on := 7, ground := Ground.data }, { on := 8, ground := Ground.data }], guard := none }) rfl ?_
    intro K' hK'
    rw [if_pos (wanted_none rfl)]
    go_simp
    (try simp only [g244, g245])
    (try go_simp)
    exact hK' _ _ ⟨fv_set _ _, Below.refl _ _⟩
  | 10, _ =>
    have e246 : f 246 = .pointer (some ⟨b', o' + i * 8, none⟩) := hv 9 (by kernel_rfl)
    have g246 := fv_get (n := 303) (by decide) e246
    refine wpOp_step (o := { dst := some 247, op := Op.fieldAddr 55 (Operand.tmp 246) 0, type := 0, pos := "ref.go:347", after := #[{ on := 9, ground := Ground.data }], guard := none }) rfl ?_
    intro K' hK'
    rw [if_pos (wanted_none rfl)]
    go_simp
    (try simp only [g246])
    (try go_simp)
    exact hK' _ _ ⟨fv_set _ _, Below.refl _ _⟩
  | 11, _ =>
    have e247 : f 247 = .pointer (some ⟨b', o' + i * 8, none⟩) := hv 10 (by kernel_rfl)
    have g247 := fv_get (n := 303) (by decide) e247
    have c248_0 := keep_below hb _ _ c2_0
    have c248_1 := keep_below hb _ _ c2_1
    have c248_2 := keep_below hb _ _ c2_2
    have c248_3 := keep_below hb _ _ c2_3
    have c248_4 := keep_below hb _ _ c2_4
    have c248_5 := keep_below hb _ _ c2_5
    have c248_6 := keep_below hb _ _ c2_6
    refine wpOp_step (o := { dst := some 248, op := Op.load 53 (Operand.tmp 247), type := 53, pos := "ref.go:347", after := #[{ on := 10, ground := Ground.data }], guard := none }) rfl ?_
    intro K' hK'
    rw [if_pos (wanted_none rfl)]
    go_simp
    (try simp only [g247])
    (try go_simp)
    exact hK' _ _ ⟨fv_set _ _, Below.refl _ _⟩
  | 12, _ =>
    have e242 : f 242 = .agg #[.int .i64 op, .int .i64 x1, .int .i64 y, .int .i64 n, .slice a4 ls.length k4, .slice a5 body.len k5, .slice a6 els.len k6] := hv 5 (by kernel_rfl)
    have g242 := fv_get (n := 303) (by decide) e242
    have e248 : f 248 = .agg #[.int .i64 op', .int .i64 x1', .int .i64 y', .int .i64 n', .slice a4' ls'.length k4', .slice a5' body'.len k5', .slice a6' els'.len k6'] := hv 11 (by kernel_rfl)
    have g248 := fv_get (n := 303) (by decide) e248
    refine wpOp_step (o := { dst := some 249, op := Op.call { callee := Callee.value (Operand.func 35), args := #[Operand.tmp 242, Operand.tmp 248], argTypes := #[53, 53] }, type := 4, pos := "ref.go:347", after := #[{ on := 5, ground := Ground.data }, { on := 11, ground := Ground.data }], guard := none }) rfl ?_
    intro K' hK'
    rw [if_pos (wanted_none rfl)]
    go_simp
    (try simp only [g242, g248])
    (try go_simp)
    go_at_call 35
    refine (instr_any op x1 y n ls body els a4 k4 a5 k5 a6 k6 op' x1' y' n' ls' body' els' a4' k4' a5' k5' a6' k6' _ (h1.keep (keep_below hb)) (h2.keep (keep_below hb))).mono ?_
    rintro e u ⟨rfl, hu⟩
    rw [d_one]
    go_simp
    exact hK' _ _ ⟨fv_set _ _, hu⟩
  | 13, _ =>
    have e249 : f 249 = .bool c1 := hv 12 (by kernel_rfl)
    have g249 := fv_get (n := 303) (by decide) e249
    refine wpOp_step (o := { dst := some 250, op := Op.unOp UnOp.not 4 (Operand.tmp 249), type := 4, pos := "ref.go:347", after := #[{ on := 12, ground := Ground.data }], guard := none }) rfl ?_
    intro K' hK'
    rw [if_pos (wanted_none rfl)]
    go_simp
    (try simp only [g249])
    (try go_simp)
    exact hK' _ _ ⟨fv_set _ _, Below.refl _ _⟩
  | 14, _ =>
    have e250 : f 250 = .bool (!c1) := hv 13 (by kernel_rfl)
    have g250 := fv_get (n := 303) (by decide) e250
    refine wpOp_step (o := { dst := some 251, op := Op.move (Operand.tmp 250), type := 4, pos := "ref.go:347", after := #[{ on := 13, ground := Ground.data }, { on := 12, ground := Ground.chain }], guard := none }) rfl ?_
    intro K' hK'
    rw [if_pos (wanted_none rfl)]
    go_simp
    (try simp only [g250])
    (try go_simp)
    exact hK' _ _ ⟨fv_set _ _, Below.refl _ _⟩
  | 15, _ =>
    cases c1
    · exact step_off (o := { dst := some 252, op := Op.fieldAddr 32 (Operand.tmp 2) 8, type := 0, pos := "ref.go:347", after := #[{ on := 14, ground := Ground.guard }], guard := some (14, false) }) (g := 14) (d := 251) (c := true) rfl rfl rfl rfl (by decide) (hv 14 (by kernel_rfl)) rfl rfl
    · have e2 : f 2 = .pointer (some ⟨H, 0, none⟩) := (ho 2 (by decide)).trans f2
      have g2 := fv_get (n := 303) (by decide) e2
      have eg : f 251 = .bool false := hv 14 (by kernel_rfl)
      refine wpOp_step (o := { dst := some 252, op := Op.fieldAddr 32 (Operand.tmp 2) 8, type := 0, pos := "ref.go:347", after := #[{ on := 14, ground := Ground.guard }], guard := some (14, false) }) rfl ?_
      intro K' hK'
      rw [if_pos (by rw [wanted_some (g := 14) (d := 251) (b := false) (c := false) rfl rfl (by decide) eg]; rfl)]
      go_simp
      (try simp only [g2])
      (try go_simp)
      exact hK' _ _ ⟨fv_set _ _, Below.refl _ _⟩
  | 16, _ =>
    cases c1
    · exact step_off (o := { dst := some 253, op := Op.load 29 (Operand.tmp 252), type := 29, pos := "ref.go:347", after := #[{ on := 15, ground := Ground.data }, { on := 14, ground := Ground.guard }], guard := some (14, false) }) (g := 14) (d := 251) (c := true) rfl rfl rfl rfl (by decide) (hv 14 (by kernel_rfl)) rfl rfl
    · have e252 : f 252 = .pointer (some ⟨H, 8, none⟩) := hv 15 (by kernel_rfl)
      have g252 := fv_get (n := 303) (by decide) e252
      have eg : f 251 = .bool false := hv 14 (by kernel_rfl)
      have c253_0 := keep_below hb _ _ x
      refine wpOp_step (o := { dst := some 253, op := Op.load 29 (Operand.tmp 252), type := 29, pos := "ref.go:347", after := #[{ on := 15, ground := Ground.data }, { on := 14, ground := Ground.guard }], guard := some (14, false) }) rfl ?_
      intro K' hK'
      rw [if_pos (by rw [wanted_some (g := 14) (d := 251) (b := false) (c := false) rfl rfl (by decide) eg]; rfl)]
      go_simp
      (try simp only [g252])
      (try go_simp)
      exact hK' _ _ ⟨fv_set _ _, Below.refl _ _⟩
  | 17, _ =>
    cases c1
    · exact step_off (o := { dst := some 254, op := Op.move (Operand.tmp 12), type := 3, pos := "ref.go:347", after := #[{ on := 14, ground := Ground.guard }], guard := some (14, false) }) (g := 14) (d := 251) (c := true) rfl rfl rfl rfl (by decide) (hv 14 (by kernel_rfl)) rfl rfl
    · have e12 : f 12 = .int .i64 (i : Int) := (ho 12 (by decide)).trans fi
      have g12 := fv_get (n := 303) (by decide) e12
      have eg : f 251 = .bool false := hv 14 (by kernel_rfl)
      refine wpOp_step (o := { dst := some 254, op := Op.move (Operand.tmp 12), type := 3, pos := "ref.go:347", after := #[{ on := 14, ground := Ground.guard }], guard := some (14, false) }) rfl ?_
      intro K' hK'
      rw [if_pos (by rw [wanted_some (g := 14) (d := 251) (b := false) (c := false) rfl rfl (by decide) eg]; rfl)]
      go_simp
      (try simp only [g12])
      (try go_simp)
      exact hK' _ _ ⟨fv_set _ _, Below.refl _ _⟩
  | 18, _ =>
    cases c1
    · exact step_off (o := { dst := some 255, op := Op.indexAddr 29 (Operand.tmp 253) (Operand.tmp 254), type := 0, pos := "ref.go:347", after := #[{ on := 16, ground := Ground.data }, { on := 17, ground := Ground.data }, { on := 14, ground := Ground.guard }], guard := some (14, false) }) (g := 14) (d := 251) (c := true) rfl rfl rfl rfl (by decide) (hv 14 (by kernel_rfl)) rfl rfl
    · have e253 : f 253 = .slice (some ⟨b, o, none⟩) N k0 := hv 16 (by kernel_rfl)
      have g253 := fv_get (n := 303) (by decide) e253
      have e254 : f 254 = .int .i64 (i : Int) := hv 17 (by kernel_rfl)
      have g254 := fv_get (n := 303) (by decide) e254
      have eg : f 251 = .bool false := hv 14 (by kernel_rfl)
      refine wpOp_step (o := { dst := some 255, op := Op.indexAddr 29 (Operand.tmp 253) (Operand.tmp 254), type := 0, pos := "ref.go:347", after := #[{ on := 16, ground := Ground.data }, { on := 17, ground := Ground.data }, { on := 14, ground := Ground.guard }], guard := some (14, false) }) rfl ?_
      intro K' hK'
      rw [if_pos (by rw [wanted_some (g := 14) (d := 251) (b := false) (c := false) rfl rfl (by decide) eg]; rfl)]
      go_simp
      (try simp only [g253, g254])
      (try go_simp)
      exact hK' _ _ ⟨fv_set _ _, Below.refl _ _⟩
  | 19, _ =>
    cases c1
    · exact step_off (o := { dst := some 256, op := Op.fieldAddr 55 (Operand.tmp 255) 1, type := 0, pos := "ref.go:347", after := #[{ on := 18, ground := Ground.data }, { on := 14, ground := Ground.guard }], guard := some (14, false) }) (g := 14) (d := 251) (c := true) rfl rfl rfl rfl (by decide) (hv 14 (by kernel_rfl)) rfl rfl
    · have e255 : f 255 = .pointer (some ⟨b, o + i * 8, none⟩) := hv 18 (by kernel_rfl)
      have g255 := fv_get (n := 303) (by decide) e255
      have eg : f 251 = .bool false := hv 14 (by kernel_rfl)
      refine wpOp_step (o := { dst := some 256, op := Op.fieldAddr 55 (Operand.tmp 255) 1, type := 0, pos := "ref.go:347", after := #[{ on := 18, ground := Ground.data }, { on := 14, ground := Ground.guard }], guard := some (14, false) }) rfl ?_
      intro K' hK'
      rw [if_pos (by rw [wanted_some (g := 14) (d := 251) (b := false) (c := false) rfl rfl (by decide) eg]; rfl)]
      go_simp
      (try simp only [g255])
      (try go_simp)
      exact hK' _ _ ⟨fv_set _ _, Below.refl _ _⟩
  | 20, _ =>
    cases c1
    · exact step_off (o := { dst := some 257, op := Op.load 28 (Operand.tmp 256), type := 28, pos := "ref.go:347", after := #[{ on := 19, ground := Ground.data }, { on := 14, ground := Ground.guard }], guard := some (14, false) }) (g := 14) (d := 251) (c := true) rfl rfl rfl rfl (by decide) (hv 14 (by kernel_rfl)) rfl rfl
    · have e256 : f 256 = .pointer (some ⟨b, o + i * 8 + 7, none⟩) := hv 19 (by kernel_rfl)
      have g256 := fv_get (n := 303) (by decide) e256
      have eg : f 251 = .bool false := hv 14 (by kernel_rfl)
      have c257_0 := keep_below hb _ _ c_7
      refine wpOp_step (o := { dst := some 257, op := Op.load 28 (Operand.tmp 256), type := 28, pos := "ref.go:347", after := #[{ on := 19, ground := Ground.data }, { on := 14, ground := Ground.guard }], guard := some (14, false) }) rfl ?_
      intro K' hK'
      rw [if_pos (by rw [wanted_some (g := 14) (d := 251) (b := false) (c := false) rfl rfl (by decide) eg]; rfl)]
      go_simp
      (try simp only [g256])
      (try go_simp)
      exact hK' _ _ ⟨fv_set _ _, Below.refl _ _⟩
  | 21, _ =>
    cases c1
    · exact step_off (o := { dst := some 258, op := Op.fieldAddr 32 (Operand.tmp 3) 8, type := 0, pos := "ref.go:347", after := #[{ on := 14, ground := Ground.guard }], guard := some (14, false) }) (g := 14) (d := 251) (c := true) rfl rfl rfl rfl (by decide) (hv 14 (by kernel_rfl)) rfl rfl
    · have e3 : f 3 = .pointer (some ⟨H2, 0, none⟩) := (ho 3 (by decide)).trans f3
      have g3 := fv_get (n := 303) (by decide) e3
      have eg : f 251 = .bool false := hv 14 (by kernel_rfl)
      refine wpOp_step (o := { dst := some 258, op := Op.fieldAddr 32 (Operand.tmp 3) 8, type := 0, pos := "ref.go:347", after := #[{ on := 14, ground := Ground.guard }], guard := some (14, false) }) rfl ?_
      intro K' hK'
      rw [if_pos (by rw [wanted_some (g := 14) (d := 251) (b := false) (c := false) rfl rfl (by decide) eg]; rfl)]
      go_simp
      (try simp only [g3])
      (try go_simp)
      exact hK' _ _ ⟨fv_set _ _, Below.refl _ _⟩
  | 22, _ =>
    cases c1
    · exact step_off (o := { dst := some 259, op := Op.load 29 (Operand.tmp 258), type := 29, pos := "ref.go:347", after := #[{ on := 21, ground := Ground.data }, { on := 14, ground := Ground.guard }], guard := some (14, false) }) (g := 14) (d := 251) (c := true) rfl rfl rfl rfl (by decide) (hv 14 (by kernel_rfl)) rfl rfl
    · have e258 : f 258 = .pointer (some ⟨H2, 8, none⟩) := hv 21 (by kernel_rfl)
      have g258 := fv_get (n := 303) (by decide) e258
      have eg : f 251 = .bool false := hv 14 (by kernel_rfl)
      have c259_0 := keep_below hb _ _ x'
      refine wpOp_step (o := { dst := some 259, op := Op.load 29 (Operand.tmp 258), type := 29, pos := "ref.go:347", after := #[{ on := 21, ground := Ground.data }, { on := 14, ground := Ground.guard }], guard := some (14, false) }) rfl ?_
      intro K' hK'
      rw [if_pos (by rw [wanted_some (g := 14) (d := 251) (b := false) (c := false) rfl rfl (by decide) eg]; rfl)]
      go_simp
      (try simp only [g258])
      (try go_simp)
      exact hK' _ _ ⟨fv_set _ _, Below.refl _ _⟩
  | 23, _ =>
    cases c1
    · exact step_off (o := { dst := some 260, op := Op.move (Operand.tmp 12), type := 3, pos := "ref.go:347", after := #[{ on := 14, ground := Ground.guard }], guard := some (14, false) }) (g := 14) (d := 251) (c := true) rfl rfl rfl rfl (by decide) (hv 14 (by kernel_rfl)) rfl rfl
    · have e12 : f 12 = .int .i64 (i : Int) := (ho 12 (by decide)).trans fi
      have g12 := fv_get (n := 303) (by decide) e12
      have eg : f 251 = .bool false := hv 14 (by kernel_rfl)
      refine wpOp_step (o := { dst := some 260, op := Op.move (Operand.tmp 12), type := 3, pos := "ref.go:347", after := #[{ on := 14, ground := Ground.guard }], guard := some (14, false) }) rfl ?_
      intro K' hK'
      rw [if_pos (by rw [wanted_some (g := 14) (d := 251) (b := false) (c := false) rfl rfl (by decide) eg]; rfl)]
      go_simp
      (try simp only [g12])
      (try go_simp)
      exact hK' _ _ ⟨fv_set _ _, Below.refl _ _⟩
  | 24, _ =>
    cases c1
    · exact step_off (o := { dst := some 261, op := Op.indexAddr 29 (Operand.tmp 259) (Operand.tmp 260), type := 0, pos := "ref.go:347", after := #[{ on := 22, ground := Ground.data }, { on := 23, ground := Ground.data }, { on := 14, ground := Ground.guard }], guard := some (14, false) }) (g := 14) (d := 251) (c := true) rfl rfl rfl rfl (by decide) (hv 14 (by kernel_rfl)) rfl rfl
    · have e259 : f 259 = .slice (some ⟨b', o', none⟩) N' k0' := hv 22 (by kernel_rfl)
      have g259 := fv_get (n := 303) (by decide) e259
      have e260 : f 260 = .int .i64 (i : Int) := hv 23 (by kernel_rfl)
      have g260 := fv_get (n := 303) (by decide) e260
      have eg : f 251 = .bool false := hv 14 (by kernel_rfl)
      refine wpOp_step (o := { dst := some 261, op := Op.indexAddr 29 (Operand.tmp 259) (Operand.tmp 260), type := 0, pos := "ref.go:347", after := #[{ on := 22, ground := Ground.data }, { on := 23, ground := Ground.data }, { on := 14, ground := Ground.guard }], guard := some (14, false) }) rfl ?_
      intro K' hK'
      rw [if_pos (by rw [wanted_some (g := 14) (d := 251) (b := false) (c := false) rfl rfl (by decide) eg]; rfl)]
      go_simp
      (try simp only [g259, g260])
      (try go_simp)
      exact hK' _ _ ⟨fv_set _ _, Below.refl _ _⟩
  | 25, _ =>
    cases c1
    · exact step_off (o := { dst := some 262, op := Op.fieldAddr 55 (Operand.tmp 261) 1, type := 0, pos := "ref.go:347", after := #[{ on := 24, ground := Ground.data }, { on := 14, ground := Ground.guard }], guard := some (14, false) }) (g := 14) (d := 251) (c := true) rfl rfl rfl rfl (by decide) (hv 14 (by kernel_rfl)) rfl rfl
    · have e261 : f 261 = .pointer (some ⟨b', o' + i * 8, none⟩) := hv 24 (by kernel_rfl)
      have g261 := fv_get (n := 303) (by decide) e261
      have eg : f 251 = .bool false := hv 14 (by kernel_rfl)
      refine wpOp_step (o := { dst := some 262, op := Op.fieldAddr 55 (Operand.tmp 261) 1, type := 0, pos := "ref.go:347", after := #[{ on := 24, ground := Ground.data }, { on := 14, ground := Ground.guard }], guard := some (14, false) }) rfl ?_
      intro K' hK'
      rw [if_pos (by rw [wanted_some (g := 14) (d := 251) (b := false) (c := false) rfl rfl (by decide) eg]; rfl)]
      go_simp
      (try simp only [g261])
      (try go_simp)
      exact hK' _ _ ⟨fv_set _ _, Below.refl _ _⟩
  | 26, _ =>
    cases c1
    · exact step_off (o := { dst := some 263, op := Op.load 28 (Operand.tmp 262), type := 28, pos := "ref.go:347", after := #[{ on := 25, ground := Ground.data }, { on := 14, ground := Ground.guard }], guard := some (14, false) }) (g := 14) (d := 251) (c := true) rfl rfl rfl rfl (by decide) (hv 14 (by kernel_rfl)) rfl rfl
    · have e262 : f 262 = .pointer (some ⟨b', o' + i * 8 + 7, none⟩) := hv 25 (by kernel_rfl)
      have g262 := fv_get (n := 303) (by decide) e262
      have eg : f 251 = .bool false := hv 14 (by kernel_rfl)
      have c263_0 := keep_below hb _ _ c2_7
      refine wpOp_step (o := { dst := some 263, op := Op.load 28 (Operand.tmp 262), type := 28, pos := "ref.go:347", after := #[{ on := 25, ground := Ground.data }, { on := 14, ground := Ground.guard }], guard := some (14, false) }) rfl ?_
      intro K' hK'
      rw [if_pos (by rw [wanted_some (g := 14) (d := 251) (b := false) (c := false) rfl rfl (by decide) eg]; rfl)]
      go_simp
      (try simp only [g262])
      (try go_simp)
      exact hK' _ _ ⟨fv_set _ _, Below.refl _ _⟩
  | 27, _ =>
    cases c1
    · exact step_off (o := { dst := some 264, op := Op.call { callee := Callee.value (Operand.func 33), args := #[Operand.tmp 257, Operand.tmp 263], argTypes := #[28, 28] }, type := 4, pos := "ref.go:347", after := #[{ on := 20, ground := Ground.data }, { on := 26, ground := Ground.data }, { on := 14, ground := Ground.chain }, { on := 14, ground := Ground.guard }], guard := some (14, false) }) (g := 14) (d := 251) (c := true) rfl rfl rfl rfl (by decide) (hv 14 (by kernel_rfl)) rfl rfl
    · have e257 : f 257 = .slice a_fs fs.length k_fs := hv 20 (by kernel_rfl)
      have g257 := fv_get (n := 303) (by decide) e257
      have e263 : f 263 = .slice a_fs' fs'.length k_fs' := hv 26 (by kernel_rfl)
      have g263 := fv_get (n := 303) (by decide) e263
      have eg : f 251 = .bool false := hv 14 (by kernel_rfl)
      refine wpOp_step (o := { dst := some 264, op := Op.call { callee := Callee.value (Operand.func 33), args := #[Operand.tmp 257, Operand.tmp 263], argTypes := #[28, 28] }, type := 4, pos := "ref.go:347", after := #[{ on := 20, ground := Ground.data }, { on := 26, ground := Ground.data }, { on := 14, ground := Ground.chain }, { on := 14, ground := Ground.guard }], guard := some (14, false) }) rfl ?_
      intro K' hK'
      rw [if_pos (by rw [wanted_some (g := 14) (d := 251) (b := false) (c := false) rfl rfl (by decide) eg]; rfl)]
      go_simp
      (try simp only [g257, g263])
      (try go_simp)
      go_at_call 33
      refine (keepSame_any fs fs' _ _ _ _ _ (i_fs.below hb) (i_fs2.below hb)).mono ?_
      rintro e u ⟨rfl, mm, rfl⟩
      rw [d_fs]
      go_simp
      exact hK' _ _ ⟨fv_set _ _, below_drewN (Below.refl _ _) mm⟩
  | 28, _ =>
    cases c1
    · exact step_off (o := { dst := some 265, op := Op.unOp UnOp.not 4 (Operand.tmp 264), type := 4, pos := "ref.go:347", after := #[{ on := 27, ground := Ground.data }, { on := 14, ground := Ground.guard }], guard := some (14, false) }) (g := 14) (d := 251) (c := true) rfl rfl rfl rfl (by decide) (hv 14 (by kernel_rfl)) rfl rfl
    · have e264 : f 264 = .bool c2 := hv 27 (by kernel_rfl)
      have g264 := fv_get (n := 303) (by decide) e264
      have eg : f 251 = .bool false := hv 14 (by kernel_rfl)
      refine wpOp_step (o := { dst := some 265, op := Op.unOp UnOp.not 4 (Operand.tmp 264), type := 4, pos := "ref.go:347", after := #[{ on := 27, ground := Ground.data }, { on := 14, ground := Ground.guard }], guard := some (14, false) }) rfl ?_
      intro K' hK'
      rw [if_pos (by rw [wanted_some (g := 14) (d := 251) (b := false) (c := false) rfl rfl (by decide) eg]; rfl)]
      go_simp
      (try simp only [g264])
      (try go_simp)
      exact hK' _ _ ⟨fv_set _ _, Below.refl _ _⟩
  | 29, _ =>
    cases c1
    · have e251 : f 251 = .bool true := hv 14 (by kernel_rfl)
      have g251 := fv_get (n := 303) (by decide) e251
      refine wpOp_step (o := { dst := some 266, op := Op.pick (Operand.tmp 251) (Operand.const (Value.bool true)) (Operand.tmp 265), type := 4, pos := "ref.go:347", after := #[{ on := 14, ground := Ground.data }, { on := 28, ground := Ground.data }], guard := none }) rfl ?_
      intro K' hK'
      rw [if_pos (wanted_none rfl)]
      go_simp
      (try simp only [g251])
      (try go_simp)
      exact hK' _ _ ⟨fv_set _ _, Below.refl _ _⟩
    · have e251 : f 251 = .bool false := hv 14 (by kernel_rfl)
      have g251 := fv_get (n := 303) (by decide) e251
      have e265 : f 265 = .bool (!c2) := hv 28 (by kernel_rfl)
      have g265 := fv_get (n := 303) (by decide) e265
      refine wpOp_step (o := { dst := some 266, op := Op.pick (Operand.tmp 251) (Operand.const (Value.bool true)) (Operand.tmp 265), type := 4, pos := "ref.go:347", after := #[{ on := 14, ground := Ground.data }, { on := 28, ground := Ground.data }], guard := none }) rfl ?_
      intro K' hK'
      rw [if_pos (wanted_none rfl)]
      go_simp
      (try simp only [g251, g265])
      (try go_simp)
      exact hK' _ _ ⟨fv_set _ _, Below.refl _ _⟩
  | k + 30, h => exact absurd h (by omega)
def ops46 : Array Oper := #[{ dst := some 274, op := Op.fieldAddr 32 (Operand.tmp 2) 9, type := 0, pos := "ref.go:352", after := #[], guard := none }, { dst := some 275, op := Op.load 30 (Operand.tmp 274), type := 30, pos := "ref.go:352", after := #[{ on := 0, ground := Ground.data }], guard := none }, { dst := some 276, op := Op.move (Operand.tmp 13), type := 3, pos := "ref.go:352", after := #[], guard := none }, { dst := some 277, op := Op.indexAddr 30 (Operand.tmp 275) (Operand.tmp 276), type := 0, pos := "ref.go:352", after := #[{ on := 1, ground := Ground.data }, { on := 2, ground := Ground.data }], guard := none }, { dst := some 278, op := Op.fieldAddr 57 (Operand.tmp 277) 1, type := 0, pos := "ref.go:352", after := #[{ on := 3, ground := Ground.data }], guard := none }, { dst := some 279, op := Op.load 9 (Operand.tmp 278), type := 9, pos := "ref.go:352", after := #[{ on := 4, ground := Ground.data }], guard := none }, { dst := some 280, op := Op.fieldAddr 32 (Operand.tmp 3) 9, type := 0, pos := "ref.go:352", after := #[], guard := none }, { dst := some 281, op := Op.load 30 (Operand.tmp 280), type := 30, pos := "ref.go:352", after := #[{ on := 6, ground := Ground.data }], guard := none }, { dst := some 282, op := Op.move (Operand.tmp 13), type := 3, pos := "ref.go:352", after := #[], guard := none }, { dst := some 283, op := Op.indexAddr 30 (Operand.tmp 281) (Operand.tmp 282), type := 0, pos := "ref.go:352", after := #[{ on := 7, ground := Ground.data }, { on := 8, ground := Ground.data }], guard := none }, { dst := some 284, op := Op.fieldAddr 57 (Operand.tmp 283) 1, type := 0, pos := "ref.go:352", after := #[{ on := 9, ground := Ground.data }], guard := none }, { dst := some 285, op := Op.load 9 (Operand.tmp 284), type := 9, pos := "ref.go:352", after := #[{ on := 10, ground := Ground.data }], guard := none }, { dst := some 286, op := Op.binOp BinOp.neq 9 (Operand.tmp 279) (Operand.tmp 285) 9, type := 4, pos := "ref.go:352", after := #[{ on := 5, ground := Ground.data }, { on := 11, ground := Ground.data }], guard := none }, { dst := some 287, op := Op.move (Operand.tmp 286), type := 4, pos := "ref.go:352", after := #[{ on := 12, ground := Ground.data }], guard := none }, { dst := some 288, op := Op.fieldAddr 32 (Operand.tmp 2) 9, type := 0, pos := "ref.go:352", after := #[{ on := 13, ground := Ground.guard }], guard := some (13, false) }, { dst := some 289, op := Op.load 30 (Operand.tmp 288), type := 30, pos := "ref.go:352", after := #[{ on := 14, ground := Ground.data }, { on := 13, ground := Ground.guard }], guard := some (13, false) }, { dst := some 290, op := Op.move (Operand.tmp 13), type := 3, pos := "ref.go:352", after := #[{ on := 13, ground := Ground.guard }], guard := some (13, false) }, { dst := some 291, op := Op.indexAddr 30 (Operand.tmp 289) (Operand.tmp 290), type := 0, pos := "ref.go:352", after := #[{ on := 15, ground := Ground.data }, { on := 16, ground := Ground.data }, { on := 13, ground := Ground.guard }], guard := some (13, false) }, { dst := some 292, op := Op.fieldAddr 57 (Operand.tmp 291) 0, type := 0, pos := "ref.go:352", after := #[{ on := 17, ground := Ground.data }, { on := 13, ground := Ground.guard }], guard := some (13, false) }, { dst := some 293, op := Op.load 53 (Operand.tmp 292), type := 53, pos := "ref.go:352", after := #[{ on := 18, ground := Ground.data }, { on := 13, ground := Ground.guard }], guard := some (13, false) }, { dst := some 294, op := Op.fieldAddr 32 (Operand.tmp 3) 9, type := 0, pos := "ref.go:352", after := #[{ on := 13, ground := Ground.guard }], guard := some (13, false) }, { dst := some 295, op := Op.load 30 (Operand.tmp 294), type := 30, pos := "ref.go:352", after := #[{ on := 20, ground := Ground.data }, { on := 13, ground := Ground.guard }], guard := some (13, false) }, { dst := some 296, op := Op.move (Operand.tmp 13), type := 3, pos := "ref.go:352", after := #[{ on := 13, ground := Ground.guard }], guard := some (13, false) }, { dst := some 297, op := Op.indexAddr 30 (Operand.tmp 295) (Operand.tmp 296), type := 0, pos := "ref.go:352", after := #[{ on := 21, ground := Ground.data }, { on := 22, ground := Ground.data }, { on := 13, ground := Ground.guard }], guard := some (13, false) }, { dst := some 298, op := Op.fieldAddr 57 (Operand.tmp 297) 0, type := 0, pos := "ref.go:352", after := #[{ on := 23, ground := Ground.data }, { on := 13, ground := Ground.guard }], guard := some (13, false) }, { dst := some 299, op := Op.load 53 (Operand.tmp 298), type := 53, pos := "ref.go:352", after := #[{ on := 24, ground := Ground.data }, { on := 13, ground := Ground.guard }], guard := some (13, false) }, { dst := some 300, op := Op.call { callee := Callee.value (Operand.func 35), args := #[Operand.tmp 293, Operand.tmp 299], argTypes := #[53, 53] }, type := 4, pos := "ref.go:352", after := #[{ on := 19, ground := Ground.data }, { on := 25, ground := Ground.data }, { on := 13, ground := Ground.chain }, { on := 13, ground := Ground.guard }], guard := some (13, false) }, { dst := some 301, op := Op.unOp UnOp.not 4 (Operand.tmp 300), type := 4, pos := "ref.go:352", after := #[{ on := 26, ground := Ground.data }, { on := 13, ground := Ground.guard }], guard := some (13, false) }, { dst := some 302, op := Op.pick (Operand.tmp 287) (Operand.const (Value.bool true)) (Operand.tmp 301), type := 4, pos := "ref.go:352", after := #[{ on := 13, ground := Ground.data }, { on := 27, ground := Ground.data }], guard := none }]
set_option maxRecDepth 100000 in
set_option maxHeartbeats 4000000 in
theorem reg46 {Q : Exit → Act → World → Prop} {f0 : Nat → Value} {V : World} {H H2 : Nat} {b o N k0 : Nat} {b' o' N' k0' : Nat} {i : Nat} {op x1 y n op' x1' y' n' : Int} {ls ls' : List Int} {body els body' els' : Il} {a4 a4' a5 a5' a6 a6' : Option Addr} {k4 k4' k5 k5' k6 k6' : Nat} {s0 s0' : ByteArray} {c1 c2 : Bool}
    (hmix : Tryd.prog.follows .mixedOrders = true) (f2 : f0 2 = .pointer (some ⟨H, 0, none⟩)) (f3 : f0 3 = .pointer (some ⟨H2, 0, none⟩)) (fi : f0 13 = .int .i64 (i : Int))
    (x : V.cell? ⟨H, 9, none⟩ = some (.slice (some ⟨b, o, none⟩) N k0)) (x' : V.cell? ⟨H2, 9, none⟩ = some (.slice (some ⟨b', o', none⟩) N' k0')) (hiN : i < N) (hiN' : i < N') (hN : N ≤ 9223372036854775807) (hN' : N' ≤ 9223372036854775807)
     (c_0 : V.cell? ⟨b, o + i * 8, none⟩ = some (.int .i64 op)) (c2_0 : V.cell? ⟨b', o' + i * 8, none⟩ = some (.int .i64 op')) (c_1 : V.cell? ⟨b, o + i * 8 + 1, none⟩ = some (.int .i64 x1)) (c2_1 : V.cell? ⟨b', o' + i * 8 + 1, none⟩ = some (.int .i64 x1')) (c_2 : V.cell? ⟨b, o + i * 8 + 2, none⟩ = some (.int .i64 y)) (c2_2 : V.cell? ⟨b', o' + i * 8 + 2, none⟩ = some (.int .i64 y')) (c_3 : V.cell? ⟨b, o + i * 8 + 3, none⟩ = some (.int .i64 n)) (c2_3 : V.cell? ⟨b', o' + i * 8 + 3, none⟩ = some (.int .i64 n')) (c_4 : V.cell? ⟨b, o + i * 8 + 4, none⟩ = some (.slice a4 ls.length k4)) (c2_4 : V.cell? ⟨b', o' + i * 8 + 4, none⟩ = some (.slice a4' ls'.length k4')) (c_5 : V.cell? ⟨b, o + i * 8 + 5, none⟩ = some (.slice a5 body.len k5)) (c2_5 : V.cell? ⟨b', o' + i * 8 + 5, none⟩ = some (.slice a5' body'.len k5')) (c_6 : V.cell? ⟨b, o + i * 8 + 6, none⟩ = some (.slice a6 els.len k6)) (c2_6 : V.cell? ⟨b', o' + i * 8 + 6, none⟩ = some (.slice a6' els'.len k6')) (c_7 : V.cell? ⟨b, o + i * 8 + 7, none⟩ = some (.string s0)) (c2_7 : V.cell? ⟨b', o' + i * 8 + 7, none⟩ = some (.string s0')) (h1 : OneIs V ⟨op, x1, y, n, ls, body, els⟩ a4 k4 a5 k5 a6 k6) (h2 : OneIs V ⟨op', x1', y', n', ls', body', els'⟩ a4' k4' a5' k5' a6' k6') (z_s0 : (s0.toList == s0'.toList) = c1) (d_one : ilEq (.cons op x1 y n ls body els .nil) (.cons op' x1' y' n' ls' body' els' .nil) = c2)
    (fin : ∀ w' f, Below V.heap.size V w' → f 302 = cond c1 (.bool (!c2)) (.bool true) → Q .normal (Fv 303 (ovv f0 f 274 29)) w') :
    (Code.region 46 ops46 true).wp Tryd.prog Q (Fv 303 f0) V := by
  refine region_vals hmix 303 274 29 rfl (by kernel_rfl) (fun t => match t with | 274 => .pointer (some ⟨H, 9, none⟩) | 275 => .slice (some ⟨b, o, none⟩) N k0 | 276 => .int .i64 (i : Int) | 277 => .pointer (some ⟨b, o + i * 8, none⟩) | 278 => .pointer (some ⟨b, o + i * 8 + 7, none⟩) | 279 => .string s0 | 280 => .pointer (some ⟨H2, 9, none⟩) | 281 => .slice (some ⟨b', o', none⟩) N' k0' | 282 => .int .i64 (i : Int) | 283 => .pointer (some ⟨b', o' + i * 8, none⟩) | 284 => .pointer (some ⟨b', o' + i * 8 + 7, none⟩) | 285 => .string s0' | 286 => cond c1 (.bool (!c1)) (.bool (!c1)) | 287 => cond c1 (.bool (!c1)) (.bool (!c1)) | 288 => cond c1 (.pointer (some ⟨H, 9, none⟩)) (undef) | 289 => cond c1 (.slice (some ⟨b, o, none⟩) N k0) (undef) | 290 => cond c1 (.int .i64 (i : Int)) (undef) | 291 => cond c1 (.pointer (some ⟨b, o + i * 8, none⟩)) (undef) | 292 => cond c1 (.pointer (some ⟨b, o + i * 8, none⟩)) (undef) | 293 => cond c1 (.agg #[.int .i64 op, .int .i64 x1, .int .i64 y, .int .i64 n, .slice a4 ls.length k4, .slice a5 body.len k5, .slice a6 els.len k6]) (undef) | 294 => cond c1 (.pointer (some ⟨H2, 9, none⟩)) (undef) | 295 => cond c1 (.slice (some ⟨b', o', none⟩) N' k0') (undef) | 296 => cond c1 (.int .i64 (i : Int)) (undef) | 297 => cond c1 (.pointer (some ⟨b', o' + i * 8, none⟩)) (undef) | 298 => cond c1 (.pointer (some ⟨b', o' + i * 8, none⟩)) (undef) | 299 => cond c1 (.agg #[.int .i64 op', .int .i64 x1', .int .i64 y', .int .i64 n', .slice a4' ls'.length k4', .slice a5' body'.len k5', .slice a6' els'.len k6']) (undef) | 300 => cond c1 (.bool c2) (undef) | 301 => cond c1 (.bool (!c2)) (undef) | 302 => cond c1 (.bool (!c2)) (.bool true) | _ => undef) ?_ (fun w' hb => fin w' _ hb rfl)
  intro i' hi' f w' hb ho hv
  have l1 : (i : Int) < (N : Int) := by omega
  have l2 : (i : Int) < (N' : Int) := by omega
  match i', hi' with
  | 0, _ =>
    have e2 : f 2 = .pointer (some ⟨H, 0, none⟩) := (ho 2 (by decide)).trans f2
    have g2 := fv_get (n := 303) (by decide) e2
    refine wpOp_step (o := { dst := some 274, op := Op.fieldAddr 32 (Operand.tmp 2) 9, type := 0, pos := "ref.go:352", after := #[], guard := none }) rfl ?_
    intro K' hK'
    rw [if_pos (wanted_none rfl)]
    go_simp
    (try simp only [g2])
    (try go_simp)
    exact hK' _ _ ⟨fv_set _ _, Below.refl _ _⟩
  | 1, _ =>
    have e274 : f 274 = .pointer (some ⟨H, 9, none⟩) := hv 0 (by kernel_rfl)
    have g274 := fv_get (n := 303) (by decide) e274
    have c275_0 := keep_below hb _ _ x
    refine wpOp_step (o := { dst := some 275, op := Op.load 30 (Operand.tmp 274), type := 30, pos := "ref.go:352", after := #[{ on := 0, ground := Ground.data }], guard := none }) rfl ?_
    intro K' hK'
    rw [if_pos (wanted_none rfl)]
    go_simp
    (try simp only [g274])
    (try go_simp)
    exact hK' _ _ ⟨fv_set _ _, Below.refl _ _⟩
  | 2, _ =>
    have e13 : f 13 = .int .i64 (i : Int) := (ho 13 (by decide)).trans fi
    have g13 := fv_get (n := 303) (by decide) e13
    refine wpOp_step (o := { dst := some 276, op := Op.move (Operand.tmp 13), type := 3, pos := "ref.go:352", after := #[], guard := none }) rfl ?_
    intro K' hK'
    rw [if_pos (wanted_none rfl)]
    go_simp
    (try simp only [g13])
    (try go_simp)
    exact hK' _ _ ⟨fv_set _ _, Below.refl _ _⟩
  | 3, _ =>
    have e275 : f 275 = .slice (some ⟨b, o, none⟩) N k0 := hv 1 (by kernel_rfl)
    have g275 := fv_get (n := 303) (by decide) e275
    have e276 : f 276 = .int .i64 (i : Int) := hv 2 (by kernel_rfl)
    have g276 := fv_get (n := 303) (by decide) e276
    refine wpOp_step (o := { dst := some 277, op := Op.indexAddr 30 (Operand.tmp 275) (Operand.tmp 276), type := 0, pos := "ref.go:352", after := #[{ on := 1, ground := Ground.data }, { on := 2, ground := Ground.data }], guard := none }) rfl ?_
    intro K' hK'
    rw [if_pos (wanted_none rfl)]
    go_simp
    (try simp only [g275, g276])
    (try go_simp)
    exact hK' _ _ ⟨fv_set _ _, Below.refl _ _⟩
  | 4, _ =>
    have e277 : f 277 = .pointer (some ⟨b, o + i * 8, none⟩) := hv 3 (by kernel_rfl)
    have g277 := fv_get (n := 303) (by decide) e277
    refine wpOp_step (o := { dst := some 278, op := Op.fieldAddr 57 (Operand.tmp 277) 1, type := 0, pos := "ref.go:352", after := #[{ on := 3, ground := Ground.data }], guard := none }) rfl ?_
    intro K' hK'
    rw [if_pos (wanted_none rfl)]
    go_simp
    (try simp only [g277])
    (try go_simp)
    exact hK' _ _ ⟨fv_set _ _, Below.refl _ _⟩
  | 5, _ =>
    have e278 : f 278 = .pointer (some ⟨b, o + i * 8 + 7, none⟩) := hv 4 (by kernel_rfl)
    have g278 := fv_get (n := 303) (by decide) e278
    have c279_0 := keep_below hb _ _ c_7
    refine wpOp_step (o := { dst := some 279, op := Op.load 9 (Operand.tmp 278), type := 9, pos := "ref.go:352", after := #[{ on := 4, ground := Ground.data }], guard := none }) rfl ?_
    intro K' hK'
    rw [if_pos (wanted_none rfl)]
    go_simp
    (try simp only [g278])
    (try go_simp)
    exact hK' _ _ ⟨fv_set _ _, Below.refl _ _⟩
  | 6, _ =>
    have e3 : f 3 = .pointer (some ⟨H2, 0, none⟩) := (ho 3 (by decide)).trans f3
    have g3 := fv_get (n := 303) (by decide) e3
    refine wpOp_step (o := { dst := some 280, op := Op.fieldAddr 32 (Operand.tmp 3) 9, type := 0, pos := "ref.go:352", after := #[], guard := none }) rfl ?_
    intro K' hK'
    rw [if_pos (wanted_none rfl)]
    go_simp
    (try simp only [g3])
    (try go_simp)
    exact hK' _ _ ⟨fv_set _ _, Below.refl _ _⟩
  | 7, _ =>
    have e280 : f 280 = .pointer (some ⟨H2, 9, none⟩) := hv 6 (by kernel_rfl)
    have g280 := fv_get (n := 303) (by decide) e280
    have c281_0 := keep_below hb _ _ x'
    refine wpOp_step (o := { dst := some 281, op := Op.load 30 (Operand.tmp 280), type := 30, pos := "ref.go:352", after := #[{ on := 6, ground := Ground.data }], guard := none }) rfl ?_
    intro K' hK'
    rw [if_pos (wanted_none rfl)]
    go_simp
    (try simp only [g280])
    (try go_simp)
    exact hK' _ _ ⟨fv_set _ _, Below.refl _ _⟩
  | 8, _ =>
    have e13 : f 13 = .int .i64 (i : Int) := (ho 13 (by decide)).trans fi
    have g13 := fv_get (n := 303) (by decide) e13
    refine wpOp_step (o := { dst := some 282, op := Op.move (Operand.tmp 13), type := 3, pos := "ref.go:352", after := #[], guard := none }) rfl ?_
    intro K' hK'
    rw [if_pos (wanted_none rfl)]
    go_simp
    (try simp only [g13])
    (try go_simp)
    exact hK' _ _ ⟨fv_set _ _, Below.refl _ _⟩
  | 9, _ =>
    have e281 : f 281 = .slice (some ⟨b', o', none⟩) N' k0' := hv 7 (by kernel_rfl)
    have g281 := fv_get (n := 303) (by decide) e281
    have e282 : f 282 = .int .i64 (i : Int) := hv 8 (by kernel_rfl)
    have g282 := fv_get (n := 303) (by decide) e282
    refine wpOp_step (o := { dst := some 283, op := Op.indexAddr 30 (Operand.tmp 281) (Operand.tmp 282), type := 0, pos := "ref.go:352", after := #[{ on := 7, ground := Ground.data }, { on := 8, ground := Ground.data }], guard := none }) rfl ?_
    intro K' hK'
    rw [if_pos (wanted_none rfl)]
    go_simp
    (try simp only [g281, g282])
    (try go_simp)
    exact hK' _ _ ⟨fv_set _ _, Below.refl _ _⟩
  | 10, _ =>
    have e283 : f 283 = .pointer (some ⟨b', o' + i * 8, none⟩) := hv 9 (by kernel_rfl)
    have g283 := fv_get (n := 303) (by decide) e283
    refine wpOp_step (o := { dst := some 284, op := Op.fieldAddr 57 (Operand.tmp 283) 1, type := 0, pos := "ref.go:352", after := #[{ on := 9, ground := Ground.data }], guard := none }) rfl ?_
    intro K' hK'
    rw [if_pos (wanted_none rfl)]
    go_simp
    (try simp only [g283])
    (try go_simp)
    exact hK' _ _ ⟨fv_set _ _, Below.refl _ _⟩
  | 11, _ =>
    have e284 : f 284 = .pointer (some ⟨b', o' + i * 8 + 7, none⟩) := hv 10 (by kernel_rfl)
    have g284 := fv_get (n := 303) (by decide) e284
    have c285_0 := keep_below hb _ _ c2_7
    refine wpOp_step (o := { dst := some 285, op := Op.load 9 (Operand.tmp 284), type := 9, pos := "ref.go:352", after := #[{ on := 10, ground := Ground.data }], guard := none }) rfl ?_
    intro K' hK'
    rw [if_pos (wanted_none rfl)]
    go_simp
    (try simp only [g284])
    (try go_simp)
    exact hK' _ _ ⟨fv_set _ _, Below.refl _ _⟩
  | 12, _ =>
    cases c1
    · have e279 : f 279 = .string s0 := hv 5 (by kernel_rfl)
      have g279 := fv_get (n := 303) (by decide) e279
      have e285 : f 285 = .string s0' := hv 11 (by kernel_rfl)
      have g285 := fv_get (n := 303) (by decide) e285
      have dq := z_s0
      refine wpOp_step (o := { dst := some 286, op := Op.binOp BinOp.neq 9 (Operand.tmp 279) (Operand.tmp 285) 9, type := 4, pos := "ref.go:352", after := #[{ on := 5, ground := Ground.data }, { on := 11, ground := Ground.data }], guard := none }) rfl ?_
      intro K' hK'
      rw [if_pos (wanted_none rfl)]
      go_simp
      (try simp only [g279, g285])
      (try go_simp)
      exact hK' _ _ ⟨fv_set _ _, Below.refl _ _⟩
    · have e279 : f 279 = .string s0 := hv 5 (by kernel_rfl)
      have g279 := fv_get (n := 303) (by decide) e279
      have e285 : f 285 = .string s0' := hv 11 (by kernel_rfl)
      have g285 := fv_get (n := 303) (by decide) e285
      have dq := z_s0
      refine wpOp_step (o := { dst := some 286, op := Op.binOp BinOp.neq 9 (Operand.tmp 279) (Operand.tmp 285) 9, type := 4, pos := "ref.go:352", after := #[{ on := 5, ground := Ground.data }, { on := 11, ground := Ground.data }], guard := none }) rfl ?_
      intro K' hK'
      rw [if_pos (wanted_none rfl)]
      go_simp
      (try simp only [g279, g285])
      (try go_simp)
      exact hK' _ _ ⟨fv_set _ _, Below.refl _ _⟩
  | 13, _ =>
    cases c1
    · have e286 : f 286 = .bool true := hv 12 (by kernel_rfl)
      have g286 := fv_get (n := 303) (by decide) e286
      refine wpOp_step (o := { dst := some 287, op := Op.move (Operand.tmp 286), type := 4, pos := "ref.go:352", after := #[{ on := 12, ground := Ground.data }], guard := none }) rfl ?_
      intro K' hK'
      rw [if_pos (wanted_none rfl)]
      go_simp
      (try simp only [g286])
      (try go_simp)
      exact hK' _ _ ⟨fv_set _ _, Below.refl _ _⟩
    · have e286 : f 286 = .bool false := hv 12 (by kernel_rfl)
      have g286 := fv_get (n := 303) (by decide) e286
      refine wpOp_step (o := { dst := some 287, op := Op.move (Operand.tmp 286), type := 4, pos := "ref.go:352", after := #[{ on := 12, ground := Ground.data }], guard := none }) rfl ?_
      intro K' hK'
      rw [if_pos (wanted_none rfl)]
      go_simp
      (try simp only [g286])
      (try go_simp)
      exact hK' _ _ ⟨fv_set _ _, Below.refl _ _⟩
  | 14, _ =>
    cases c1
    · exact step_off (o := { dst := some 288, op := Op.fieldAddr 32 (Operand.tmp 2) 9, type := 0, pos := "ref.go:352", after := #[{ on := 13, ground := Ground.guard }], guard := some (13, false) }) (g := 13) (d := 287) (c := true) rfl rfl rfl rfl (by decide) (hv 13 (by kernel_rfl)) rfl rfl
    · have e2 : f 2 = .pointer (some ⟨H, 0, none⟩) := (ho 2 (by decide)).trans f2
      have g2 := fv_get (n := 303) (by decide) e2
      have eg : f 287 = .bool false := hv 13 (by kernel_rfl)
      refine wpOp_step (o := { dst := some 288, op := Op.fieldAddr 32 (Operand.tmp 2) 9, type := 0, pos := "ref.go:352", after := #[{ on := 13, ground := Ground.guard }], guard := some (13, false) }) rfl ?_
      intro K' hK'
      rw [if_pos (by rw [wanted_some (g := 13) (d := 287) (b := false) (c := false) rfl rfl (by decide) eg]; rfl)]
      go_simp
      (try simp only [g2])
      (try go_simp)
      exact hK' _ _ ⟨fv_set _ _, Below.refl _ _⟩
  | 15, _ =>
    cases c1
    · exact step_off (o := { dst := some 289, op := Op.load 30 (Operand.tmp 288), type := 30, pos := "ref.go:352", after := #[{ on := 14, ground := Ground.data }, { on := 13, ground := Ground.guard }], guard := some (13, false) }) (g := 13) (d := 287) (c := true) rfl rfl rfl rfl (by decide) (hv 13 (by kernel_rfl)) rfl rfl
    · have e288 : f 288 = .pointer (some ⟨H, 9, none⟩) := hv 14 (by kernel_rfl)
      have g288 := fv_get (n := 303) (by decide) e288
      have eg : f 287 = .bool false := hv 13 (by kernel_rfl)
      have c289_0 := keep_below hb _ _ x
      refine wpOp_step (o := { dst := some 289, op := Op.load 30 (Operand.tmp 288), type := 30, pos := "ref.go:352", after := #[{ on := 14, ground := Ground.data }, { on := 13, ground := Ground.guard }], guard := some (13, false) }) rfl ?_
      intro K' hK'
      rw [if_pos (by rw [wanted_some (g := 13) (d := 287) (b := false) (c := false) rfl rfl (by decide) eg]; rfl)]
      go_simp
      (try simp only [g288])
      (try go_simp)
      exact hK' _ _ ⟨fv_set _ _, Below.refl _ _⟩
  | 16, _ =>
    cases c1
    · exact step_off (o := { dst := some 290, op := Op.move (Operand.tmp 13), type := 3, pos := "ref.go:352", after := #[{ on := 13, ground := Ground.guard }], guard := some (13, false) }) (g := 13) (d := 287) (c := true) rfl rfl rfl rfl (by decide) (hv 13 (by kernel_rfl)) rfl rfl
    · have e13 : f 13 = .int .i64 (i : Int) := (ho 13 (by decide)).trans fi
      have g13 := fv_get (n := 303) (by decide) e13
      have eg : f 287 = .bool false := hv 13 (by kernel_rfl)
      refine wpOp_step (o := { dst := some 290, op := Op.move (Operand.tmp 13), type := 3, pos := "ref.go:352", after := #[{ on := 13, ground := Ground.guard }], guard := some (13, false) }) rfl ?_
      intro K' hK'
      rw [if_pos (by rw [wanted_some (g := 13) (d := 287) (b := false) (c := false) rfl rfl (by decide) eg]; rfl)]
      go_simp
      (try simp only [g13])
      (try go_simp)
      exact hK' _ _ ⟨fv_set _ _, Below.refl _ _⟩
  | 17, _ =>
    cases c1
    · exact step_off (o := { dst := some 291, op := Op.indexAddr 30 (Operand.tmp 289) (Operand.tmp 290), type := 0, pos := "ref.go:352", after := #[{ on := 15, ground := Ground.data }, { on := 16, ground := Ground.data }, { on := 13, ground := Ground.guard }], guard := some (13, false) }) (g := 13) (d := 287) (c := true) rfl rfl rfl rfl (by decide) (hv 13 (by kernel_rfl)) rfl rfl
    · have e289 : f 289 = .slice (some ⟨b, o, none⟩) N k0 := hv 15 (by kernel_rfl)
      have g289 := fv_get (n := 303) (by decide) e289
      have e290 : f 290 = .int .i64 (i : Int) := hv 16 (by kernel_rfl)
      have g290 := fv_get (n := 303) (by decide) e290
      have eg : f 287 = .bool false := hv 13 (by kernel_rfl)
      refine wpOp_step (o := { dst := some 291, op := Op.indexAddr 30 (Operand.tmp 289) (Operand.tmp 290), type := 0, pos := "ref.go:352", after := #[{ on := 15, ground := Ground.data }, { on := 16, ground := Ground.data }, { on := 13, ground := Ground.guard }], guard := some (13, false) }) rfl ?_
      intro K' hK'
      rw [if_pos (by rw [wanted_some (g := 13) (d := 287) (b := false) (c := false) rfl rfl (by decide) eg]; rfl)]
      go_simp
      (try simp only [g289, g290])
      (try go_simp)
      exact hK' _ _ ⟨fv_set _ _, Below.refl _ _⟩
  | 18, _ =>
    cases c1
    · exact step_off (o := { dst := some 292, op := Op.fieldAddr 57 (Operand.tmp 291) 0, type := 0, pos := "ref.go:352", after := #[{ on := 17, ground := Ground.data }, { on := 13, ground := Ground.guard }], guard := some (13, false) }) (g := 13) (d := 287) (c := true) rfl rfl rfl rfl (by decide) (hv 13 (by kernel_rfl)) rfl rfl
    · have e291 : f 291 = .pointer (some ⟨b, o + i * 8, none⟩) := hv 17 (by kernel_rfl)
      have g291 := fv_get (n := 303) (by decide) e291
      have eg : f 287 = .bool false := hv 13 (by kernel_rfl)
      refine wpOp_step (o := { dst := some 292, op := Op.fieldAddr 57 (Operand.tmp 291) 0, type := 0, pos := "ref.go:352", after := #[{ on := 17, ground := Ground.data }, { on := 13, ground := Ground.guard }], guard := some (13, false) }) rfl ?_
      intro K' hK'
      rw [if_pos (by rw [wanted_some (g := 13) (d := 287) (b := false) (c := false) rfl rfl (by decide) eg]; rfl)]
      go_simp
      (try simp only [g291])
      (try go_simp)
      exact hK' _ _ ⟨fv_set _ _, Below.refl _ _⟩
  | 19, _ =>
    cases c1
    · exact step_off (o := { dst := some 293, op := Op.load 53 (Operand.tmp 292), type := 53, pos := "ref.go:352", after := #[{ on := 18, ground := Ground.data }, { on := 13, ground := Ground.guard }], guard := some (13, false) }) (g := 13) (d := 287) (c := true) rfl rfl rfl rfl (by decide) (hv 13 (by kernel_rfl)) rfl rfl
    · have e292 : f 292 = .pointer (some ⟨b, o + i * 8, none⟩) := hv 18 (by kernel_rfl)
      have g292 := fv_get (n := 303) (by decide) e292
      have eg : f 287 = .bool false := hv 13 (by kernel_rfl)
      have c293_0 := keep_below hb _ _ c_0
      have c293_1 := keep_below hb _ _ c_1
      have c293_2 := keep_below hb _ _ c_2
      have c293_3 := keep_below hb _ _ c_3
      have c293_4 := keep_below hb _ _ c_4
      have c293_5 := keep_below hb _ _ c_5
      have c293_6 := keep_below hb _ _ c_6
      refine wpOp_step (o := { dst := some 293, op := Op.load 53 (Operand.tmp 292), type := 53, pos := "ref.go:352", after := #[{ on := 18, ground := Ground.data }, { on := 13, ground := Ground.guard }], guard := some (13, false) }) rfl ?_
      intro K' hK'
      rw [if_pos (by rw [wanted_some (g := 13) (d := 287) (b := false) (c := false) rfl rfl (by decide) eg]; rfl)]
      go_simp
      (try simp only [g292])
      (try go_simp)
      exact hK' _ _ ⟨fv_set _ _, Below.refl _ _⟩
  | 20, _ =>
    cases c1
    · exact step_off (o := { dst := some 294, op := Op.fieldAddr 32 (Operand.tmp 3) 9, type := 0, pos := "ref.go:352", after := #[{ on := 13, ground := Ground.guard }], guard := some (13, false) }) (g := 13) (d := 287) (c := true) rfl rfl rfl rfl (by decide) (hv 13 (by kernel_rfl)) rfl rfl
    · have e3 : f 3 = .pointer (some ⟨H2, 0, none⟩) := (ho 3 (by decide)).trans f3
      have g3 := fv_get (n := 303) (by decide) e3
      have eg : f 287 = .bool false := hv 13 (by kernel_rfl)
      refine wpOp_step (o := { dst := some 294, op := Op.fieldAddr 32 (Operand.tmp 3) 9, type := 0, pos := "ref.go:352", after := #[{ on := 13, ground := Ground.guard }], guard := some (13, false) }) rfl ?_
      intro K' hK'
      rw [if_pos (by rw [wanted_some (g := 13) (d := 287) (b := false) (c := false) rfl rfl (by decide) eg]; rfl)]
      go_simp
      (try simp only [g3])
      (try go_simp)
      exact hK' _ _ ⟨fv_set _ _, Below.refl _ _⟩
  | 21, _ =>
    cases c1
    · exact step_off (o := { dst := some 295, op := Op.load 30 (Operand.tmp 294), type := 30, pos := "ref.go:352", after := #[{ on := 20, ground := Ground.data }, { on := 13, ground := Ground.guard }], guard := some (13, false) }) (g := 13) (d := 287) (c := true) rfl rfl rfl rfl (by decide) (hv 13 (by kernel_rfl)) rfl rfl
    · have e294 : f 294 = .pointer (some ⟨H2, 9, none⟩) := hv 20 (by kernel_rfl)
      have g294 := fv_get (n := 303) (by decide) e294
      have eg : f 287 = .bool false := hv 13 (by kernel_rfl)
      have c295_0 := keep_below hb _ _ x'
      refine wpOp_step (o := { dst := some 295, op := Op.load 30 (Operand.tmp 294), type := 30, pos := "ref.go:352", after := #[{ on := 20, ground := Ground.data }, { on := 13, ground := Ground.guard }], guard := some (13, false) }) rfl ?_
      intro K' hK'
      rw [if_pos (by rw [wanted_some (g := 13) (d := 287) (b := false) (c := false) rfl rfl (by decide) eg]; rfl)]
      go_simp
      (try simp only [g294])
      (try go_simp)
      exact hK' _ _ ⟨fv_set _ _, Below.refl _ _⟩
  | 22, _ =>
    cases c1
    · exact step_off (o := { dst := some 296, op := Op.move (Operand.tmp 13), type := 3, pos := "ref.go:352", after := #[{ on := 13, ground := Ground.guard }], guard := some (13, false) }) (g := 13) (d := 287) (c := true) rfl rfl rfl rfl (by decide) (hv 13 (by kernel_rfl)) rfl rfl
    · have e13 : f 13 = .int .i64 (i : Int) := (ho 13 (by decide)).trans fi
      have g13 := fv_get (n := 303) (by decide) e13
      have eg : f 287 = .bool false := hv 13 (by kernel_rfl)
      refine wpOp_step (o := { dst := some 296, op := Op.move (Operand.tmp 13), type := 3, pos := "ref.go:352", after := #[{ on := 13, ground := Ground.guard }], guard := some (13, false) }) rfl ?_
      intro K' hK'
      rw [if_pos (by rw [wanted_some (g := 13) (d := 287) (b := false) (c := false) rfl rfl (by decide) eg]; rfl)]
      go_simp
      (try simp only [g13])
      (try go_simp)
      exact hK' _ _ ⟨fv_set _ _, Below.refl _ _⟩
  | 23, _ =>
    cases c1
    · exact step_off (o := { dst := some 297, op := Op.indexAddr 30 (Operand.tmp 295) (Operand.tmp 296), type := 0, pos := "ref.go:352", after := #[{ on := 21, ground := Ground.data }, { on := 22, ground := Ground.data }, { on := 13, ground := Ground.guard }], guard := some (13, false) }) (g := 13) (d := 287) (c := true) rfl rfl rfl rfl (by decide) (hv 13 (by kernel_rfl)) rfl rfl
    · have e295 : f 295 = .slice (some ⟨b', o', none⟩) N' k0' := hv 21 (by kernel_rfl)
      have g295 := fv_get (n := 303) (by decide) e295
      have e296 : f 296 = .int .i64 (i : Int) := hv 22 (by kernel_rfl)
      have g296 := fv_get (n := 303) (by decide) e296
      have eg : f 287 = .bool false := hv 13 (by kernel_rfl)
      refine wpOp_step (o := { dst := some 297, op := Op.indexAddr 30 (Operand.tmp 295) (Operand.tmp 296), type := 0, pos := "ref.go:352", after := #[{ on := 21, ground := Ground.data }, { on := 22, ground := Ground.data }, { on := 13, ground := Ground.guard }], guard := some (13, false) }) rfl ?_
      intro K' hK'
      rw [if_pos (by rw [wanted_some (g := 13) (d := 287) (b := false) (c := false) rfl rfl (by decide) eg]; rfl)]
      go_simp
      (try simp only [g295, g296])
      (try go_simp)
      exact hK' _ _ ⟨fv_set _ _, Below.refl _ _⟩
  | 24, _ =>
    cases c1
    · exact step_off (o := { dst := some 298, op := Op.fieldAddr 57 (Operand.tmp 297) 0, type := 0, pos := "ref.go:352", after := #[{ on := 23, ground := Ground.data }, { on := 13, ground := Ground.guard }], guard := some (13, false) }) (g := 13) (d := 287) (c := true) rfl rfl rfl rfl (by decide) (hv 13 (by kernel_rfl)) rfl rfl
    · have e297 : f 297 = .pointer (some ⟨b', o' + i * 8, none⟩) := hv 23 (by kernel_rfl)
      have g297 := fv_get (n := 303) (by decide) e297
      have eg : f 287 = .bool false := hv 13 (by kernel_rfl)
      refine wpOp_step (o := { dst := some 298, op := Op.fieldAddr 57 (Operand.tmp 297) 0, type := 0, pos := "ref.go:352", after := #[{ on := 23, ground := Ground.data }, { on := 13, ground := Ground.guard }], guard := some (13, false) }) rfl ?_
      intro K' hK'
      rw [if_pos (by rw [wanted_some (g := 13) (d := 287) (b := false) (c := false) rfl rfl (by decide) eg]; rfl)]
      go_simp
      (try simp only [g297])
      (try go_simp)
      exact hK' _ _ ⟨fv_set _ _, Below.refl _ _⟩
  | 25, _ =>
    cases c1
    · exact step_off (o := { dst := some 299, op := Op.load 53 (Operand.tmp 298), type := 53, pos := "ref.go:352", after := #[{ on := 24, ground := Ground.data }, { on := 13, ground := Ground.guard }], guard := some (13, false) }) (g := 13) (d := 287) (c := true) rfl rfl rfl rfl (by decide) (hv 13 (by kernel_rfl)) rfl rfl
    · have e298 : f 298 = .pointer (some ⟨b', o' + i * 8, none⟩) := hv 24 (by kernel_rfl)
      have g298 := fv_get (n := 303) (by decide) e298
      have eg : f 287 = .bool false := hv 13 (by kernel_rfl)
      have c299_0 := keep_below hb _ _ c2_0
      have c299_1 := keep_below hb _ _ c2_1
      have c299_2 := keep_below hb _ _ c2_2
      have c299_3 := keep_below hb _ _ c2_3
      have c299_4 := keep_below hb _ _ c2_4
      have c299_5 := keep_below hb _ _ c2_5
      have c299_6 := keep_below hb _ _ c2_6
      refine wpOp_step (o := { dst := some 299, op := Op.load 53 (Operand.tmp 298), type := 53, pos := "ref.go:352", after := #[{ on := 24, ground := Ground.data }, { on := 13, ground := Ground.guard }], guard := some (13, false) }) rfl ?_
      intro K' hK'
      rw [if_pos (by rw [wanted_some (g := 13) (d := 287) (b := false) (c := false) rfl rfl (by decide) eg]; rfl)]
      go_simp
      (try simp only [g298])
      (try go_simp)
      exact hK' _ _ ⟨fv_set _ _, Below.refl _ _⟩
  | 26, _ =>
    cases c1
    · exact step_off (o := { dst := some 300, op := Op.call { callee := Callee.value (Operand.func 35), args := #[Operand.tmp 293, Operand.tmp 299], argTypes := #[53, 53] }, type := 4, pos := "ref.go:352", after := #[{ on := 19, ground := Ground.data }, { on := 25, ground := Ground.data }, { on := 13, ground := Ground.chain }, { on := 13, ground := Ground.guard }], guard := some (13, false) }) (g := 13) (d := 287) (c := true) rfl rfl rfl rfl (by decide) (hv 13 (by kernel_rfl)) rfl rfl
    · have e293 : f 293 = .agg #[.int .i64 op, .int .i64 x1, .int .i64 y, .int .i64 n, .slice a4 ls.length k4, .slice a5 body.len k5, .slice a6 els.len k6] := hv 19 (by kernel_rfl)
      have g293 := fv_get (n := 303) (by decide) e293
      have e299 : f 299 = .agg #[.int .i64 op', .int .i64 x1', .int .i64 y', .int .i64 n', .slice a4' ls'.length k4', .slice a5' body'.len k5', .slice a6' els'.len k6'] := hv 25 (by kernel_rfl)
      have g299 := fv_get (n := 303) (by decide) e299
      have eg : f 287 = .bool false := hv 13 (by kernel_rfl)
      refine wpOp_step (o := { dst := some 300, op := Op.call { callee := Callee.value (Operand.func 35), args := #[Operand.tmp 293, Operand.tmp 299], argTypes := #[53, 53] }, type := 4, pos := "ref.go:352", after := #[{ on := 19, ground := Ground.data }, { on := 25, ground := Ground.data }, { on := 13, ground := Ground.chain }, { on := 13, ground := Ground.guard }], guard := some (13, false) }) rfl ?_
      intro K' hK'
      rw [if_pos (by rw [wanted_some (g := 13) (d := 287) (b := false) (c := false) rfl rfl (by decide) eg]; rfl)]
      go_simp
      (try simp only [g293, g299])
      (try go_simp)
      go_at_call 35
      refine (instr_any op x1 y n ls body els a4 k4 a5 k5 a6 k6 op' x1' y' n' ls' body' els' a4' k4' a5' k5' a6' k6' _ (h1.keep (keep_below hb)) (h2.keep (keep_below hb))).mono ?_
      rintro e u ⟨rfl, hu⟩
      rw [d_one]
      go_simp
      exact hK' _ _ ⟨fv_set _ _, hu⟩
  | 27, _ =>
    cases c1
    · exact step_off (o := { dst := some 301, op := Op.unOp UnOp.not 4 (Operand.tmp 300), type := 4, pos := "ref.go:352", after := #[{ on := 26, ground := Ground.data }, { on := 13, ground := Ground.guard }], guard := some (13, false) }) (g := 13) (d := 287) (c := true) rfl rfl rfl rfl (by decide) (hv 13 (by kernel_rfl)) rfl rfl
    · have e300 : f 300 = .bool c2 := hv 26 (by kernel_rfl)
      have g300 := fv_get (n := 303) (by decide) e300
      have eg : f 287 = .bool false := hv 13 (by kernel_rfl)
      refine wpOp_step (o := { dst := some 301, op := Op.unOp UnOp.not 4 (Operand.tmp 300), type := 4, pos := "ref.go:352", after := #[{ on := 26, ground := Ground.data }, { on := 13, ground := Ground.guard }], guard := some (13, false) }) rfl ?_
      intro K' hK'
      rw [if_pos (by rw [wanted_some (g := 13) (d := 287) (b := false) (c := false) rfl rfl (by decide) eg]; rfl)]
      go_simp
      (try simp only [g300])
      (try go_simp)
      exact hK' _ _ ⟨fv_set _ _, Below.refl _ _⟩
  | 28, _ =>
    cases c1
    · have e287 : f 287 = .bool true := hv 13 (by kernel_rfl)
      have g287 := fv_get (n := 303) (by decide) e287
      refine wpOp_step (o := { dst := some 302, op := Op.pick (Operand.tmp 287) (Operand.const (Value.bool true)) (Operand.tmp 301), type := 4, pos := "ref.go:352", after := #[{ on := 13, ground := Ground.data }, { on := 27, ground := Ground.data }], guard := none }) rfl ?_
      intro K' hK'
      rw [if_pos (wanted_none rfl)]
      go_simp
      (try simp only [g287])
      (try go_simp)
      exact hK' _ _ ⟨fv_set _ _, Below.refl _ _⟩
    · have e287 : f 287 = .bool false := hv 13 (by kernel_rfl)
      have g287 := fv_get (n := 303) (by decide) e287
      have e301 : f 301 = .bool (!c2) := hv 27 (by kernel_rfl)
      have g301 := fv_get (n := 303) (by decide) e301
      refine wpOp_step (o := { dst := some 302, op := Op.pick (Operand.tmp 287) (Operand.const (Value.bool true)) (Operand.tmp 301), type := 4, pos := "ref.go:352", after := #[{ on := 13, ground := Ground.data }, { on := 27, ground := Ground.data }], guard := none }) rfl ?_
      intro K' hK'
      rw [if_pos (wanted_none rfl)]
      go_simp
      (try simp only [g287, g301])
      (try go_simp)
      exact hK' _ _ ⟨fv_set _ _, Below.refl _ _⟩
  | k + 29, h => exact absurd h (by omega)
end Go.Proofs.YtanpjbbhhofkfaaDoor
