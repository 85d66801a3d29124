/- The reference's Decode. -/
import Derived.Test.YtkbfjkbokifgkaaGreatDoorTv
import Derived.Test.YtkbfjkbokifgkaaGreatDoorTr
import Derived.Test.YtkbfjkbokifgkaaGreatDoorRe
import Derived.Lib.MinMax
import Derived.Deep.QuietTactic
import Derived.BigQuiet
import Derived.BigRegion
namespace Go.Proofs.YtkbfjkbokifgkaaGreatDoor
open Go.RowKit
set_option linter.unusedVariables false
set_option linter.unusedSimpArgs false

def nil10 : List Value := [.slice none 0 0, .slice none 0 0, .slice none 0 0, .slice none 0 0, .slice none 0 0, .slice none 0 0, .slice none 0 0, .slice none 0 0, .slice none 0 0, .slice none 0 0]
/-- What is known between two sections. -/
structure QJ (W0 wr : World) (N p mb q : Nat) (s : ByteArray) (r : RS) (lt : Nat) (m : Md) (cd : Bool) : Prop where
  rd : RrAt wr p s r
  bl : Below W0.heap.size W0 wr
  sz : N ≤ wr.heap.size
  ms : r.w = 0 → ∃ v0 v1 v2 v3 v4 v5 v6 v7 v8 v9, QS W0 wr N p mb s r lt m cd v0 v1 v2 v3 v4 v5 v6 v7 v8 v9
theorem ms_nil {N mb : Nat} {w : World} {cd : Bool} : MS N w mb (.slice none 0 0) (.slice none 0 0) (.slice none 0 0) (.slice none 0 0) (.slice none 0 0) (.slice none 0 0) (.slice none 0 0) (.slice none 0 0) (.slice none 0 0) (.slice none 0 0) md0 cd :=
  ⟨FdOk.nil, FdOk.nil, FdOk.nil, FdOk.nil, FdOk.nil, FdOk.nil, FdOk.nil, FdOk.nil, FdOk.nil, .inl ⟨[], rfl, by decide, FdOk.nil⟩⟩
theorem QS.rd2 {W0 w w' : World} {N p mb : Nat} {s : ByteArray} {r r' : RS} {lt : Nat} {m : Md} {cd : Bool} {v0 v1 v2 v3 v4 v5 v6 v7 v8 v9 : Value} (h : QS W0 w N p mb s r lt m cd v0 v1 v2 v3 v4 v5 v6 v7 v8 v9) (k : Wr (· = p) w w') (R : RrAt w' p s r') : QS W0 w' N p mb s r' lt m cd v0 v1 v2 v3 v4 v5 v6 v7 v8 v9 := by
  obtain ⟨hp, hm, hpm, h1, h2, h3⟩ := h.pN
  exact ⟨R, h.md.wr k (fun e => hpm e.symm), h.ms.wrS k (fun b hb _ e => by omega), h.n0, h.n1, h.n2, h.n3, h.n4, h.n5, h.n6, h.n7, h.n8, h.n9, h.nl, Wr.below_of h.bl k (fun b e => by omega) h.bl.size, hp, hm, hpm, h1, h2, Nat.le_trans h3 k.size⟩
theorem QS.same {W0 w w' : World} {N p mb : Nat} {s : ByteArray} {r : RS} {lt : Nat} {m : Md} {cd : Bool} {v0 v1 v2 v3 v4 v5 v6 v7 v8 v9 : Value} (h : QS W0 w N p mb s r lt m cd v0 v1 v2 v3 v4 v5 v6 v7 v8 v9) (k : Below w.heap.size w w') : QS W0 w' N p mb s r lt m cd v0 v1 v2 v3 v4 v5 v6 v7 v8 v9 := h.rd2 (Wr.of_below k) (h.rd.below k)
theorem QJ.rd2 {W0 w w' : World} {h q : Nat} {s : ByteArray} {r r' : RS} {lt : Nat} {m : Md} {cd : Bool} (J : QJ W0 w (h + 1 + 1 + 1) (h + 1 + 1) (h + 1) q s r lt m cd) (hW : W0.heap.size = h + 1) (k : Wr (· = h + 1 + 1) w w') (R : RrAt w' (h + 1 + 1) s r') (hw : r'.w = 0 → r.w = 0) : QJ W0 w' (h + 1 + 1 + 1) (h + 1 + 1) (h + 1) q s r' lt m cd :=
  ⟨R, Wr.below_of J.bl k (fun b e => by omega) J.bl.size, Nat.le_trans J.sz k.size, fun h0 => by
    obtain ⟨v0, v1, v2, v3, v4, v5, v6, v7, v8, v9, hq⟩ := J.ms (hw h0)
    exact ⟨v0, v1, v2, v3, v4, v5, v6, v7, v8, v9, hq.rd2 k R⟩⟩
theorem QJ.drewN {W0 w : World} {N p mb q : Nat} {s : ByteArray} {r : RS} {lt : Nat} {m : Md} {cd : Bool} (J : QJ W0 w N p mb q s r lt m cd) (n : Nat) : QJ W0 (w.drewN n) N p mb q s r lt m cd :=
  ⟨J.rd.drewN n, below_drewN J.bl n, J.sz, fun h0 => by
    obtain ⟨v0, v1, v2, v3, v4, v5, v6, v7, v8, v9, hq⟩ := J.ms h0
    exact ⟨v0, v1, v2, v3, v4, v5, v6, v7, v8, v9, hq.same (below_drewN (Below.refl _ _) n)⟩⟩
theorem must_zero {s : List UInt8} {b : Int} {r : RS} (h0 : (rMust s b r).w = 0) : r.w = 0 := by
  by_cases hz : r.w = 0
  · exact hz
  · have h1 : (rMust s b r).w = r.w := (sim_is s b r).1 hz
    rw [← h1]
    exact h0
theorem enter_zero {s : List UInt8} {r : RS} (h0 : (rEnter s r).2.w = 0) : r.w = 0 := by
  by_cases hz : r.w = 0
  · exact hz
  · have h1 := (sim_u s r).1 hz
    unfold rEnter at h0
    dsimp only at h0
    rw [if_neg (by rw [h1]; exact hz), h1] at h0
    exact h0
theorem enter_up {s : List UInt8} {r : RS} : r.a ≤ (rEnter s r).2.a := by
  have hu := (go_u s r).up
  unfold rEnter
  dsimp only
  split <;> exact hu
theorem nat_int_eq (a b : Nat) : (a == b) = ((a : Int) == (b : Int)) := by
  by_cases h : a = b
  · subst h
    rw [beq_self_eq_true, beq_self_eq_true]
  · have h2 : ¬ (a : Int) = (b : Int) := by omega
    rw [beq_eq_false_iff_ne.2 h, beq_eq_false_iff_ne.2 h2]
theorem go_codes (s : List UInt8) : ∀ ts r, Mv r (rCodes s ts r).2
  | [], r => .refl r
  | t :: ts, r => by
    rw [rCodes]
    split
    · exact .refl r
    · exact (go_code s r).trans (go_codes s ts _)
theorem go_section (s : List UInt8) (id : Nat) (m : Md) (r : RS) (hok : r.Ok) : Mv r (rSection s id m r).2 := by
  unfold rSection
  split
  · unfold rCodeSec
    dsimp only
    refine Mv.trans ?_ (go_codes s _ _)
    split
    · exact go_count s r
    · exact (go_count s r).trans (Mv.bad _ _ (by decide))
  · unfold rSec
    split
    · unfold rCustom
      dsimp only
      have h1 : Mv r (if Lib.validD (rText s r).1 = true then (rText s r).2 else (rText s r).2.bad 50) := by
        split
        · exact go_text s r
        · exact (go_text s r).trans (Mv.bad _ _ (by decide))
      generalize (if Lib.validD (rText s r).1 = true then (rText s r).2 else (rText s r).2.bad 50) = X at h1 ⊢
      by_cases hw : X.w = 0
      · rw [if_pos hw]
        have h2 := h1.ok hok
        exact ⟨h1.e, Nat.le_trans h1.up h2.1, fun h => ⟨Nat.le_refl _, (h1.ok h).2⟩⟩
      · rw [if_neg hw]
        exact h1
    · exact go_each s (go_type s) r
    · exact go_each s (go_import s) r
    · exact go_each s (go_u s) r
    · exact go_each s (go_table s) r
    · exact go_each s (go_limits s) r
    · exact go_each s (go_global s) r
    · exact go_each s (go_export s) r
    · exact go_u s r
    · exact go_each s (go_elem s) r
    · exact go_each s (go_data s) r
theorem rHead_go (s : List UInt8) : ∀ l r, Mv r (rHead s l r)
  | [], r => .refl r
  | b :: l, r => (go_must s _ r).trans (rHead_go s l _)

/-- What the reference's Decode tells where something is wrong, and where nothing is. -/
def QDec (w : World) (s : ByteArray) (X : Rg Md) (e : Ending) (w' : World) : Prop :=
  Below w.heap.size w w' ∧ ((X.2.w = 0 ∧ ∃ cd p, ∃ (a0 a1 a2 a3 a4 a5 a6 a7 a8 a9 : Option Addr) (k0 k1 k2 k3 k4 k5 k6 k7 k8 k9 : Nat), e = .returned (.tuple #[.agg #[.slice a0 X.1.types.length k0, .slice a1 X.1.imports.length k1, .slice a2 X.1.funcs.length k2, .slice a3 X.1.tables.length k3, .slice a4 X.1.mems.length k4, .slice a5 X.1.globals.length k5, .slice a6 X.1.exports.length k6, .slice a7 X.1.start.length k7, .slice a8 X.1.elems.length k8, .slice a9 X.1.datas.length k9], .int .i64 0]) ∧
      MS w.heap.size w' p (.slice a0 X.1.types.length k0) (.slice a1 X.1.imports.length k1) (.slice a2 X.1.funcs.length k2) (.slice a3 X.1.tables.length k3) (.slice a4 X.1.mems.length k4) (.slice a5 X.1.globals.length k5) (.slice a6 X.1.exports.length k6) (.slice a7 X.1.start.length k7) (.slice a8 X.1.elems.length k8) (.slice a9 X.1.datas.length k9) X.1 cd) ∨
    (X.2.w ≠ 0 ∧ e = .returned (.tuple #[zeroM, .int .i64 X.2.w])))
set_option maxRecDepth 100000 in
set_option maxHeartbeats 16000000 in
theorem qdecode_small {w : World} {s : ByteArray} (hs : s.size ≤ 262144) : Calls Tryz.prog 11 #[.string s] w (QDec w s (rModule (strl s)) ) := by
  obtain ⟨X, hX⟩ : ∃ X, rModule (strl s) = X := ⟨_, rfl⟩
  rw [hX]
  have hsl : (strl s).length = s.size := strl_length s
  unfold rModule at hX
  rw [hsl] at hX
  obtain ⟨h, hh⟩ : ∃ h, h = w.heap.size := ⟨_, rfl⟩
  obtain ⟨W0, hW0⟩ : ∃ W0, W0 = w.alloc (.cells #[.slice none 0 0, .slice none 0 0, .slice none 0 0, .slice none 0 0, .slice none 0 0, .slice none 0 0, .slice none 0 0, .slice none 0 0, .slice none 0 0, .slice none 0 0] 33) := ⟨_, rfl⟩
  have hW0s : W0.heap.size = h + 1 := by rw [hW0, hh]; simp
  have hq0 : Bk W0 h nil10 33 := by rw [hW0, hh]; exact Bk.new w nil10 33
  have hb0 : Below w.heap.size w W0 := by rw [hW0]; exact (Below.refl _ _).alloc (Nat.le_refl _) _
  obtain ⟨w1, hw1⟩ : ∃ w1, w1 = W0.alloc (.cells #[.slice none 0 0, .slice none 0 0, .slice none 0 0, .slice none 0 0, .slice none 0 0, .slice none 0 0, .slice none 0 0, .slice none 0 0, .slice none 0 0, .slice none 0 0] 33) := ⟨_, rfl⟩
  have hw1s : w1.heap.size = h + 1 + 1 := by rw [hw1]; simp [hW0s]
  have hm1 : Bk w1 (h + 1) nil10 33 := by rw [hw1, ← hW0s]; exact Bk.new W0 nil10 33
  obtain ⟨w2, hw2⟩ : ∃ w2, w2 = w1.alloc (.cells #[.string s, .int .i64 0, .int .i64 (s.size : Int), .int .i64 0, .int .i64 0] 68) := ⟨_, rfl⟩
  have hw2s : w2.heap.size = h + 1 + 1 + 1 := by rw [hw2]; simp [hw1s]
  have hb2 : Below W0.heap.size W0 w2 := by rw [hw2, hw1]; exact ((Below.refl _ _).alloc (Nat.le_refl _) _).alloc (by simp) _
  have hR2 : RrAt w2 (h + 1 + 1) s ⟨0, s.size, 0, 0⟩ := ⟨by rw [hw2, ← hw1s]; exact heap_alloc_new _ _⟩
  have hm2 : Bk w2 (h + 1) nil10 33 := hm1.below (by rw [hw2]; exact (Below.refl _ _).alloc (Nat.le_refl _) _)
  have hJ2 : QJ W0 w2 (h + 1 + 1 + 1) (h + 1 + 1) (h + 1) h s ⟨0, s.size, 0, 0⟩ 0 md0 false :=
    ⟨hR2, hb2, Nat.le_of_eq hw2s.symm, fun _ => ⟨_, _, _, _, _, _, _, _, _, _, hR2, hm2, ms_nil, fun _ => rfl, fun _ => rfl, fun _ => rfl, fun _ => rfl, fun _ => rfl, fun _ => rfl, fun _ => rfl, fun _ => rfl, fun _ => rfl, fun _ => rfl, fun _ => rfl, hb2, by omega, by omega, by omega, by omega, by omega, by omega⟩⟩
  have hle : ¬ (262144 : Int) < (s.size : Int) := by omega
  clear hm1 hb2 hR2 hm2
  replace hX := Lib.hid hX
  replace hJ2 := Lib.hid hJ2
  replace hq0 := Lib.hid hq0
  replace hb0 := Lib.hid hb0
  have hs9 : s.size ≤ 9223372036854775807 := by omega
  replace hW0s := Lib.hid hW0s
  replace hw1s := Lib.hid hw1s
  replace hw2s := Lib.hid hw2s
  replace hW0 := Lib.hid hW0
  replace hw1 := Lib.hid hw1
  replace hw2 := Lib.hid hw2
  replace hh := Lib.hid hh
  clear hsl
  go_enter Tryz.func11, Tryz.ntmps11
  go_upto_region 5 with (fail)
  rw [← hh.out, ← hW0.out, ← hw1.out, ← hw2.out]
  clear hw2 hw1 hw1s
  go_wp2_with fail
  go_loopg [6] 8 (fun k v6 wr => ∃ (i : Nat) (ri : RS), v6 = .int .i64 (i : Int) ∧ i + k = 8 ∧ ri.Ok ∧ Hid (ri.e = s.size) ∧ Hid (QJ W0 wr (h + 1 + 1 + 1) (h + 1 + 1) (h + 1) h s ri 0 md0 false) ∧ Hid (rSecs (strl s) (s.size + 1) 0 false md0 (rHead (strl s) (headL.drop i) ri) = X))
  case atStart => exact ⟨0, _, rfl, rfl, ⟨Nat.zero_le _, Nat.zero_le _, fun _ => Nat.zero_le _⟩, Lib.hid rfl, hJ2, hX⟩
  case round =>
    obtain ⟨i, ri, rfl, hik, hio, hie, hJi, hXi⟩ := hrel
    clear hJ2 hX hw2s
    by_cases hi8 : i < 8
    case pos =>
      obtain ⟨k1, rfl⟩ : ∃ k1, gk = k1 + 1 := ⟨gk - 1, by omega⟩
      obtain ⟨c, hc⟩ : ∃ c, headL[i]? = some c := ⟨_, List.getElem?_eq_getElem (by show i < 8; omega)⟩
      have hX2 : rSecs (strl s) (s.size + 1) 0 false md0 (rHead (strl s) (headL.drop (i + 1)) (rMust (strl s) (c.toNat : Int) ri)) = X := by
        have h1 := hXi.out
        obtain ⟨hlt, hce⟩ := List.getElem?_eq_some_iff.1 hc
        rw [List.drop_eq_getElem_cons hlt, hce] at h1
        exact h1
      have hes : ri.e ≤ s.size := Nat.le_of_eq hie.out
      have hgm := go_must (strl s) (c.toNat : Int) ri
      have hi1 : IntKind.i64.wrap ((i : Int) + 1) = (i : Int) + 1 := wid64 _ (by omega) (by omega)
      have hk : i + 1 + k1 = 8 := by omega
      have hi8' : (i : Int) < 8 := by omega
      replace hX2 := Lib.hid hX2
      replace hc := Lib.hid hc
      replace hk := Lib.hid hk
      clear hik hXi
      go_wp2_with fail
      have hv : ∀ hb : i < (⟨#[0, 97, 115, 109, 1, 0, 0, 0]⟩ : ByteArray).size, wrap64 (((⟨#[0, 97, 115, 109, 1, 0, 0, 0]⟩ : ByteArray)[i].toNat : Nat) : Int) = (c.toNat : Int) := fun hb => by
        obtain ⟨hlt, hce⟩ := List.getElem?_eq_some_iff.1 hc.out
        have hlt2 := c.toNat_lt
        refine Eq.trans (b := wrap64 (c.toNat : Int)) (congrArg (fun x : UInt8 => wrap64 ((x.toNat : Nat) : Int)) hce) ?_
        exact IntWalk.wrap64_in _ (by omega)
      rw [hv]
      refine (qmust_any hJi.out.rd hs hes _).mono ?_
      rintro e' w3 ⟨hW3, v', rfl, rfl, hR3⟩
      have hJ3 := Lib.hid (hJi.out.rd2 hW0s.out hW3 hR3 must_zero)
      clear hR3 hW3 hv
      go_wp2_with fail
      go_roundg k1
      case measure => omega
      case rel => exact ⟨i + 1, _, by go_num, hk.out, hgm.ok hio, Lib.hid (hgm.e.trans hie.out), hJ3, hX2⟩
    case neg =>
      obtain rfl : i = 8 := by omega
      have hX9 : rSecs (strl s) (s.size + 1) 0 false md0 ri = X := hXi.out
      replace hX9 := Lib.hid hX9
      clear hXi hik hi8
      obtain ⟨wo, rfl⟩ : ∃ wo : World, wo = wr := ⟨_, rfl⟩
      go_wp2_with fail
      go_loopg [7, 8] (s.size + 1) (fun k v7 v8 wr => ∃ (lt : Nat) (cd : Bool) (m : Md) (ri : RS), v7 = .int .i64 (lt : Int) ∧ v8 = .bool cd ∧ lt ≤ 255 ∧ ri.Ok ∧ Hid (ri.e = s.size) ∧ Hid (ri.w = 0 → s.size < ri.a + k) ∧ Hid (QJ W0 wr (h + 1 + 1 + 1) (h + 1 + 1) (h + 1) h s ri lt m cd) ∧ Hid (rSecs (strl s) k lt cd m ri = X))
      case atStart => exact ⟨0, false, md0, ri, rfl, rfl, by decide, hio, hie, Lib.hid (fun _ => by omega), hJi, hX9⟩
      case round =>
        clear hJi hX9 hie hio
        obtain ⟨lt, cd, m, ri, rfl, rfl, hlt, hio, hie, hfu, hJi, hXi⟩ := hrel
        have c4 := hJi.out.rd.c4
        have c1 := hJi.out.rd.c1
        have c2 := hJi.out.rd.c2
        by_cases hgo : ri.w = 0 ∧ ri.a < ri.e
        case pos =>
          obtain ⟨hw, hae⟩ := hgo
          have hff := hfu.out hw
          have hes := hie.out
          obtain ⟨k1, rfl⟩ : ∃ k1, gk = k1 + 1 := ⟨gk - 1, by omega⟩
          have hX2 := hXi.out
          rw [rSecs, if_pos ⟨hw, hae⟩] at hX2
          have hby : rByte (strl s) ri = (((((strl s)[ri.a]?.getD 0).toNat : Nat) : Int), { ri with a := ri.a + 1 }) := by
            unfold rByte
            rw [if_neg (by simp [hw]), if_neg (by omega)]
          obtain ⟨b, hb⟩ : ∃ b : Nat, b = ((strl s)[ri.a]?.getD 0).toNat := ⟨_, rfl⟩
          have hb255 : b ≤ 255 := by rw [hb]; have := ((strl s)[ri.a]?.getD 0).toNat_lt; omega
          rw [← hb] at hby
          rw [hby] at hX2
          dsimp only at hX2
          rw [Int.toNat_natCast] at hX2
          have hwb : (ri.w == 0) = true := by rw [hw]; rfl
          have hai : (ri.a : Int) < (ri.e : Int) := by omega
          have hok1 := (go_byte (strl s) ri).ok hio
          rw [hby] at hok1
          dsimp only at hok1
          replace hby := Lib.hid hby
          replace hb := Lib.hid hb
          replace hes := Lib.hid hes
          replace hX2 := Lib.hid hX2
          replace hw := Lib.hid hw
          clear hXi hfu
          go_wp2_with fail
          go_quiet (fail)
          have hJ1 := hJi.out.drewN nq
          obtain ⟨wq, hwq⟩ : ∃ wq, wq = wr.drewN nq := ⟨_, rfl⟩
          rw [← hwq] at hJ1 ⊢
          clear hwq hJi c4 c1 c2
          go_wp2_with fail
          refine (qbyte_any hJ1.rd hs (Nat.le_of_eq hie.out)).mono ?_
          rintro e' w3 ⟨hW3, v', rfl, rfl, hR3⟩
          rw [hby.out] at hR3 ⊢
          dsimp only at hR3 ⊢
          have hJ3 := hJ1.rd2 hW0s.out hW3 hR3 (fun h0 => hw.out)
          clear hJ1 hW3 hR3
          obtain ⟨r2, hr2⟩ : ∃ r2, r2 = rNum1 lt ((b : Int), { ri with a := ri.a + 1 }) := ⟨_, rfl⟩
          have hX3 := hX2.out
          rw [← hr2] at hX3
          unfold rNum1 at hr2
          dsimp only at hr2
          have hmv : Mv { ri with a := ri.a + 1 } r2 := by
            rw [hr2]
            split
            · exact Mv.bad _ _ (by decide)
            · exact .refl _
          have h2o := hmv.ok hok1
          have h2e : r2.e = s.size := hmv.e.trans hie.out
          have h2a : ri.a + 1 ≤ r2.a := hmv.up
          have hbid : r2.w = 0 → b = 0 ∨ (lt < b ∧ b < 12) := fun h0 => by
            rw [hr2] at h0
            split at h0
            · exact absurd h0 (bad_zero (by decide))
            · rename_i hc
              omega
          clear hmv hX2 hok1 hby hb
          replace hX3 := Lib.hid hX3
          replace hbid := Lib.hid hbid
          replace h2e := Lib.hid h2e
          have hcases : (11 < b) ∨ (¬ 11 < b ∧ b = 0) ∨ (¬ 11 < b ∧ b ≠ 0 ∧ b ≤ lt) ∨ (¬ 11 < b ∧ b ≠ 0 ∧ ¬ b ≤ lt) := by omega
          rcases hcases with h11 | ⟨h11, hb0⟩ | ⟨h11, hb0, hbl⟩ | ⟨h11, hb0, hbl⟩
          case' inl =>
            rw [if_pos (by omega)] at hr2
            have g1 : (11 : Int) < (b : Int) := by omega
            replace hr2 := Lib.hid hr2
            go_wp2_with fail
            refine (qbad_any hJ3.rd 50).mono ?_
            rintro e' wy ⟨rfl, hWy, hRy⟩
            rw [← hr2.out] at hRy
            have hJy := Lib.hid (hJ3.rd2 hW0s.out hWy hRy (fun _ => hw.out))
            clear hRy hWy hJ3
          case' inr.inl =>
            rw [if_neg (by omega)] at hr2
            have g1 : ¬ (11 : Int) < (b : Int) := by omega
            have g2 : ((b : Int) != 0) = false := by simp [hb0]
            rw [← hr2] at hJ3
            replace hr2 := Lib.hid hr2
            obtain ⟨wy, hwy⟩ : ∃ wy, wy = w3 := ⟨_, rfl⟩
            subst hwy
            have hJy := Lib.hid hJ3
            replace hb0 := Lib.hid hb0
            clear hJ3
          case' inr.inr.inl =>
            rw [if_pos (by omega)] at hr2
            have g1 : ¬ (11 : Int) < (b : Int) := by omega
            have g2 : ((b : Int) != 0) = true := by simp; exact hb0
            have g3 : (b : Int) ≤ (lt : Int) := by omega
            replace hr2 := Lib.hid hr2
            go_wp2_with fail
            refine (qbad_any hJ3.rd 50).mono ?_
            rintro e' wy ⟨rfl, hWy, hRy⟩
            rw [← hr2.out] at hRy
            have hJy := Lib.hid (hJ3.rd2 hW0s.out hWy hRy (fun _ => hw.out))
            clear hRy hWy hJ3
          case' inr.inr.inr =>
            rw [if_neg (by omega)] at hr2
            have g1 : ¬ (11 : Int) < (b : Int) := by omega
            have g2 : ((b : Int) != 0) = true := by simp; exact hb0
            have g3 : ¬ (b : Int) ≤ (lt : Int) := by omega
            rw [← hr2] at hJ3
            replace hr2 := Lib.hid hr2
            obtain ⟨wy, hwy⟩ : ∃ wy, wy = w3 := ⟨_, rfl⟩
            subst hwy
            have hJy := Lib.hid hJ3
            clear hJ3
          all_goals
            have hmx : max (lt : Int) (b : Int) = ((max lt b : Nat) : Int) := by omega
            have heo := enter_ok (s := strl s) h2o
            have hel := rEnter_le (strl s) r2 h2o.1
            have hez := enter_zero (s := strl s) (r := r2)
            have hea : r2.a ≤ (rEnter (strl s) r2).2.a := enter_up
            have hX4 := hX3.out
            unfold rLong at hX4
            dsimp only at hX4
            clear hX3
            obtain ⟨bt, hbt⟩ : ∃ bt : Bool, ((b : Int) == 10) = bt := ⟨_, rfl⟩
            rw [hbt] at hX4
            have hbn : (b == 10) = bt := by rw [← hbt]; exact nat_int_eq b 10
            have h2l : r2.e ≤ s.size := Nat.le_of_eq h2e.out
            replace hbn := Lib.hid hbn
            replace hez := Lib.hid hez
            replace hel := Lib.hid hel
            obtain ⟨cc, hcc⟩ : ∃ cc : Bool, cc = (cd || bt) := ⟨_, rfl⟩
            rw [← hcc] at hX4
            replace hX4 := Lib.hid hX4
            cases cd
            all_goals
              replace hcc := Lib.hid hcc
              go_wp2_with fail
              refine (qenter_any hJy.out.rd hs h2o.1 h2l).mono ?_
              rintro e' w5 ⟨hW5, rfl, hR5⟩
              obtain ⟨E, hE⟩ : ∃ E, E = rEnter (strl s) r2 := ⟨_, rfl⟩
              have hX5 := hX4.out
              have hez2 := hez.out
              have hel2 := hel.out
              rw [← hE] at hX5 hR5 heo hel2 hez2 hea ⊢
              have hJ5 := Lib.hid (hJy.out.rd2 hW0s.out hW5 hR5 hez2)
              clear hE hX4 hez hel hW5 hR5 hJy
              obtain ⟨⟨stop, was⟩, r5⟩ := E
              dsimp only at hX5 hJ5 heo hel2 hez2 hea ⊢
              obtain ⟨hl1, hl2, hl3⟩ := hel2
              have h5e : r5.e ≤ s.size := Nat.le_trans hl2 h2l
              have hws : was = s.size := hl3.trans h2e.out
              replace hX5 := Lib.hid hX5
              replace hez2 := Lib.hid hez2
              clear hl3
              replace hws := Lib.hid hws
              have c4 := hJ5.out.rd.c4
              by_cases hw5 : r5.w = 0
              case' pos =>
                have hwb5 : (r5.w == 0) = true := by rw [hw5]; rfl
                obtain ⟨v0, v1, v2, v3, v4, v5, v6, v7, v8, v9, hQ⟩ := hJ5.out.ms hw5
                have hid2 := hbid.out (hez2.out hw5)
                have hX6 := hX5.out
                unfold rSectIf at hX6
                rw [if_pos hw5] at hX6
                have hcall := Lib.hid (qsection_any hQ hid2 hs heo h5e)
                have hsg := Lib.hid (go_section (strl s) b m r5 heo)
                replace hX6 := Lib.hid hX6
                replace hw5 := Lib.hid hw5
                clear hQ hid2 hX5
                go_wp2_with fail
                refine hcall.out.mono ?_
                rintro e' w6 ⟨rfl, hB6, hR6, hN6, hms6⟩
                have hsg2 := hsg.out
                obtain ⟨Y, hY⟩ : ∃ Y, Y = rSection (strl s) b m r5 := ⟨_, rfl⟩
                have hX7 := hX6.out
                rw [← hY] at hX7 hR6 hms6 hsg2
                clear hcall hY hX6 hsg
                obtain ⟨m2, r6⟩ := Y
                dsimp only at hX7 hR6 hms6 hsg2
                have hJ6 : Hid (QJ W0 w6 (h + 1 + 1 + 1) (h + 1 + 1) (h + 1) h s r6 (max lt b) m2 cc) := Lib.hid ⟨hR6, hB6, hN6, by rw [hcc.out, ← hbn.out]; exact hms6⟩
                have ho6 := hsg2.ok heo
                have ha6 := Nat.le_trans hea hsg2.up
                have h6e : r6.e = r5.e := hsg2.e
                replace h6e : r6.e ≤ s.size := by rw [h6e]; exact h5e
                have hz6 : r6.w = 0 → r2.w = 0 := fun _ => hez2.out hw5.out
                clear hR6 hB6 hN6 hms6 hsg2
                replace hX7 := Lib.hid hX7
                replace hz6 := Lib.hid hz6
              case' neg =>
                have hwb5 : (r5.w == 0) = false := beq_eq_false_iff_ne.2 hw5
                have hX6 := hX5.out
                unfold rSectIf at hX6
                rw [if_neg hw5] at hX6
                obtain ⟨w6, hw6⟩ : ∃ w6, w6 = w5 := ⟨_, rfl⟩
                obtain ⟨m2, hm2⟩ : ∃ m2, m2 = m := ⟨_, rfl⟩
                obtain ⟨r6, hr6⟩ : ∃ r6, r6 = r5 := ⟨_, rfl⟩
                have hX7 := Lib.hid hX6
                have hJ6 : Hid (QJ W0 w5 (h + 1 + 1 + 1) (h + 1 + 1) (h + 1) h s r5 (max lt b) m cc) := Lib.hid ⟨hJ5.out.rd, hJ5.out.bl, hJ5.out.sz, fun h0 => absurd h0 hw5⟩
                have ho6 := heo
                have ha6 := hea
                have h6e := h5e
                have hz6 := hez2
                subst hw6 hm2 hr6
                replace hw5 := Lib.hid hw5
                clear hX5
              all_goals
                clear hJ5
                go_wp2_with fail
                refine (qleave_any hJ6.out.rd stop was).mono ?_
                rintro e' w7 ⟨hW7, rfl, hR7⟩
                obtain ⟨k1', k2', k3', k4'⟩ := leave_at stop was r6
                have hJ7 := Lib.hid (hJ6.out.rd2 hW0s.out hW7 hR7 k4')
                have hX8 := hX7.out
                obtain ⟨r7, hr7⟩ : ∃ r7, r7 = rLeave stop was r6 := ⟨_, rfl⟩
                rw [← hr7] at hJ7 hX8 k1' k2' k3' k4'
                have h7e : r7.e = s.size := k1'.trans hws.out
                have h6le := ho6.1
                have h7o : r7.Ok := ⟨by omega, by rw [k3']; exact ho6.2.1, fun h0 => by rw [k3']; exact ho6.2.2 (k4' h0)⟩
                clear hr7 hW7 hR7 hX7 hJ6
                replace hX8 := Lib.hid hX8
                go_wp2_with fail
                go_roundg k1
                case measure => omega
                case rel => exact ⟨max lt b, cc, m2, r7, by first | rfl | exact congrArg (fun n : Nat => Value.int .i64 (n : Int)) (by omega), by rw [hcc.out]; rfl, by omega, h7o, Lib.hid h7e, Lib.hid (fun h0 => by omega), hJ7, hX8⟩
        case neg =>
          have hes := hie.out
          have hXe : (m, if cd = true ∨ m.funcs = [] then ri else ri.bad 50) = X := by
            have h1 := hXi.out
            cases gk with
            | zero =>
              rw [rSecs] at h1
              have hw : ri.w ≠ 0 := fun hw => by
                have h2 := hfu.out hw
                have h3 := hio.1
                omega
              rw [← h1, bad_w1 hw, ite_self]
            | succ k => rw [rSecs, if_neg hgo] at h1; exact h1
          replace hes := Lib.hid hes
          clear hXi hfu
          by_cases hw : ri.w = 0
          case neg =>
            have hXw : X.2 = ri := by rw [← hXe]; show (if _ then _ else _) = _; rw [bad_w1 hw, ite_self]
            have hwb : (ri.w == 0) = false := beq_eq_false_iff_ne.2 hw
            have hwn : (ri.w != 0) = true := by simp; exact hw
            replace hXw := Lib.hid hXw
            replace hw := Lib.hid hw
            clear hXe hgo
            go_wp2_with fail
            go_quiet (fail)
            have hJ1 := hJi.out.drewN nq
            obtain ⟨wq, hwq⟩ : ∃ wq, wq = wr.drewN nq := ⟨_, rfl⟩
            rw [← hwq] at hJ1 ⊢
            clear hwq hJi c4 c1 c2
            have c4 := hJ1.rd.c4
            have hKq : Bk wq h nil10 33 := ⟨(hJ1.bl.block h (by rw [hW0s.out]; omega)).trans hq0.out.row⟩
            have y0 := hKq.cell (j := 0) rfl
            have y1 := hKq.cell (j := 1) rfl
            have y2 := hKq.cell (j := 2) rfl
            have y3 := hKq.cell (j := 3) rfl
            have y4 := hKq.cell (j := 4) rfl
            have y5 := hKq.cell (j := 5) rfl
            have y6 := hKq.cell (j := 6) rfl
            have y7 := hKq.cell (j := 7) rfl
            have y8 := hKq.cell (j := 8) rfl
            have y9 := hKq.cell (j := 9) rfl
            have f0 := hKq.fr 0
            have f1 := hKq.fr 1
            have f2 := hKq.fr 2
            have f3 := hKq.fr 3
            have f4 := hKq.fr 4
            have f5 := hKq.fr 5
            have f6 := hKq.fr 6
            have f7 := hKq.fr 7
            have f8 := hKq.fr 8
            have f9 := hKq.fr 9
            replace hKq := Lib.hid hKq
            replace hJ1 := Lib.hid hJ1
            go_wp2_with fail
            go_region
            go_wp2_with fail
            obtain ⟨wz, hwz, hKz, hWz⟩ := put10 (v0 := .slice none 0 0) (v1 := .slice none 0 0) (v2 := .slice none 0 0) (v3 := .slice none 0 0) (v4 := .slice none 0 0) (v5 := .slice none 0 0) (v6 := .slice none 0 0) (v7 := .slice none 0 0) (v8 := .slice none 0 0) (v9 := .slice none 0 0) hKq.out
            rw [← hwz]
            clear hwz
            have z0 := hKz.cell (j := 0) rfl
            have z1 := hKz.cell (j := 1) rfl
            have z2 := hKz.cell (j := 2) rfl
            have z3 := hKz.cell (j := 3) rfl
            have z4 := hKz.cell (j := 4) rfl
            have z5 := hKz.cell (j := 5) rfl
            have z6 := hKz.cell (j := 6) rfl
            have z7 := hKz.cell (j := 7) rfl
            have z8 := hKz.cell (j := 8) rfl
            have z9 := hKz.cell (j := 9) rfl
            have hBz : Below w.heap.size w wz := Wr.below_of (hb0.out.trans (hJ1.out.bl.mono hb0.out.size)) hWz (fun b e => by have := hh.out; omega) (hb0.out.trans (hJ1.out.bl.mono hb0.out.size)).size
            replace hBz := Lib.hid hBz
            clear y0 f0 y1 f1 y2 f2 y3 f3 y4 f4 y5 f5 y6 f6 y7 f7 y8 f8 y9 f9
            simp [bodyPost, results, Tryz.results11, go_sem, z0, z1, z2, z3, z4, z5, z6, z7, z8, z9]
            exact ⟨hBz.out.drew, .inr ⟨by rw [hXw.out]; exact hw.out, by rw [hXw.out]; rfl⟩⟩
          case pos =>
            have hae : ¬ (ri.a : Int) < (ri.e : Int) := fun h1 => hgo ⟨hw, by omega⟩
            have hwb : (ri.w == 0) = true := by rw [hw]; rfl
            replace hw := Lib.hid hw
            clear hgo
            go_wp2_with fail
            go_quiet (fail)
            have hJ1 := hJi.out.drewN nq
            obtain ⟨wq, hwq⟩ : ∃ wq, wq = wr.drewN nq := ⟨_, rfl⟩
            rw [← hwq] at hJ1 ⊢
            clear hwq hJi c4 c1 c2
            obtain ⟨v0, v1, v2, v3, v4, v5, v6, v7, v8, v9, hQ⟩ := hJ1.ms hw.out
            obtain ⟨a0, k0, rfl⟩ := hQ.ms.types.slice
            obtain ⟨a1, k1, rfl⟩ := hQ.ms.imports.slice
            obtain ⟨a2, k2, rfl⟩ := hQ.ms.funcs.slice
            obtain ⟨a3, k3, rfl⟩ := hQ.ms.tables.slice
            obtain ⟨a4, k4, rfl⟩ := hQ.ms.mems.slice
            obtain ⟨a5, k5, rfl⟩ := hQ.ms.globals.slice
            obtain ⟨a6, k6, rfl⟩ := hQ.ms.exports.slice
            obtain ⟨a7, k7, rfl⟩ := hQ.ms.start.slice
            obtain ⟨a8, k8, rfl⟩ := hQ.ms.elems.slice
            obtain ⟨a9, k9, rfl⟩ := hQ.ms.datas.slice
            have c4 := hJ1.rd.c4
            have m0 := hQ.md.cell (j := 0) rfl
            have m1 := hQ.md.cell (j := 1) rfl
            have m2 := hQ.md.cell (j := 2) rfl
            have m3 := hQ.md.cell (j := 3) rfl
            have m4 := hQ.md.cell (j := 4) rfl
            have m5 := hQ.md.cell (j := 5) rfl
            have m6 := hQ.md.cell (j := 6) rfl
            have m7 := hQ.md.cell (j := 7) rfl
            have m8 := hQ.md.cell (j := 8) rfl
            have m9 := hQ.md.cell (j := 9) rfl
            have hKq : Bk wq h nil10 33 := ⟨(hJ1.bl.block h (by rw [hW0s.out]; omega)).trans hq0.out.row⟩
            have y0 := hKq.cell (j := 0) rfl
            have y1 := hKq.cell (j := 1) rfl
            have y2 := hKq.cell (j := 2) rfl
            have y3 := hKq.cell (j := 3) rfl
            have y4 := hKq.cell (j := 4) rfl
            have y5 := hKq.cell (j := 5) rfl
            have y6 := hKq.cell (j := 6) rfl
            have y7 := hKq.cell (j := 7) rfl
            have y8 := hKq.cell (j := 8) rfl
            have y9 := hKq.cell (j := 9) rfl
            have f0 := hKq.fr 0
            have f1 := hKq.fr 1
            have f2 := hKq.fr 2
            have f3 := hKq.fr 3
            have f4 := hKq.fr 4
            have f5 := hKq.fr 5
            have f6 := hKq.fr 6
            have f7 := hKq.fr 7
            have f8 := hKq.fr 8
            have f9 := hKq.fr 9
            by_cases hcf : cd = true ∨ m.funcs = []
            case pos =>
              have hXr : (m, ri) = X := by rw [← hXe, if_pos hcf]
              have hft : cd = true ∨ (cd = false ∧ ¬ (0 : Int) < (m.funcs.length : Int)) := by
                cases cd
                · refine .inr ⟨rfl, ?_⟩
                  rcases hcf with h1 | h1
                  · cases h1
                  · rw [h1]; decide
                · exact .inl rfl
              replace hXr := Lib.hid hXr
              replace hQ := Lib.hid hQ
              replace hJ1 := Lib.hid hJ1
              replace hKq := Lib.hid hKq
              have hwn : (ri.w != 0) = false := by rw [hw.out]; rfl
              clear hXe hcf
              have hfl : (0 : Int) < (m.funcs.length : Int) ∨ ¬ (0 : Int) < (m.funcs.length : Int) := Decidable.em _
              rcases hft with rfl | ⟨rfl, hfl0⟩
              case' inl => rcases hfl with hfl0 | hfl0
              all_goals
                go_wp2_with fail
                obtain ⟨wz, hwz, hKz, hWz⟩ := put10 (v0 := .slice a0 m.types.length k0) (v1 := .slice a1 m.imports.length k1) (v2 := .slice a2 m.funcs.length k2) (v3 := .slice a3 m.tables.length k3) (v4 := .slice a4 m.mems.length k4) (v5 := .slice a5 m.globals.length k5) (v6 := .slice a6 m.exports.length k6) (v7 := .slice a7 m.start.length k7) (v8 := .slice a8 m.elems.length k8) (v9 := .slice a9 m.datas.length k9) hKq.out
                rw [← hwz]
                clear hwz
                have z0 := hKz.cell (j := 0) rfl
                have z1 := hKz.cell (j := 1) rfl
                have z2 := hKz.cell (j := 2) rfl
                have z3 := hKz.cell (j := 3) rfl
                have z4 := hKz.cell (j := 4) rfl
                have z5 := hKz.cell (j := 5) rfl
                have z6 := hKz.cell (j := 6) rfl
                have z7 := hKz.cell (j := 7) rfl
                have z8 := hKz.cell (j := 8) rfl
                have z9 := hKz.cell (j := 9) rfl
                have hB1 := hb0.out.trans (hJ1.out.bl.mono hb0.out.size)
                have hBz : Below w.heap.size w wz := Wr.below_of hB1 hWz (fun b e => by have := hh.out; omega) hB1.size
                have hMz := (hQ.out.ms.wrS hWz (fun b hb _ e => by omega)).old (N' := w.heap.size) (Wr.refl (fun _ => False) wz) (fun b hb => hb.elim) (by have := hh.out; omega)
                replace hBz := Lib.hid hBz
                replace hMz := Lib.hid hMz
                clear y0 f0 m0 y1 f1 m1 y2 f2 m2 y3 f3 m3 y4 f4 m4 y5 f5 m5 y6 f6 m6 y7 f7 m7 y8 f8 m8 y9 f9 m9 hB1 hWz hKz
                simp [bodyPost, results, Tryz.results11, go_sem, z0, z1, z2, z3, z4, z5, z6, z7, z8, z9]
                rw [← hXr.out]
                exact ⟨hBz.out, .inl ⟨hw.out, _, _, a0, a1, a2, a3, a4, a5, a6, a7, a8, a9, k0, k1, k2, k3, k4, k5, k6, k7, k8, k9, rfl, hMz.out⟩⟩
            case neg =>
              obtain ⟨hc1, hc2⟩ := not_or.1 hcf
              obtain rfl : cd = false := by cases cd; rfl; exact absurd rfl hc1
              have hfl0 : (0 : Int) < (m.funcs.length : Int) := by
                have := List.length_pos_iff.2 hc2
                omega
              have hXw : X.2 = ri.bad 50 := by rw [← hXe, if_neg hcf]
              have hb50 : (ri.bad 50).w ≠ 0 := fun h0 => absurd h0 (bad_zero (by decide))
              replace hXw := Lib.hid hXw
              replace hQ := Lib.hid hQ
              replace hJ1 := Lib.hid hJ1
              clear hXe hcf hc1 hc2
              go_wp2_with fail
              refine (qbad_any hJ1.out.rd 50).mono ?_
              rintro e' wy ⟨rfl, hWy, hRy⟩
              have hJy : QJ W0 wy (h + 1 + 1 + 1) (h + 1 + 1) (h + 1) h s (ri.bad 50) lt m false := hJ1.out.rd2 hW0s.out hWy hRy (fun _ => hw.out)
              obtain ⟨rz, hrz⟩ : ∃ rz, rz = ri.bad 50 := ⟨_, rfl⟩
              rw [← hrz] at hJy hXw hb50
              clear hRy hrz hJ1 c4 y0 f0 m0 y1 f1 m1 y2 f2 m2 y3 f3 m3 y4 f4 m4 y5 f5 m5 y6 f6 m6 y7 f7 m7 y8 f8 m8 y9 f9 m9 hQ
              have hwn : (rz.w != 0) = true := by simp; exact hb50
              have c4 := hJy.rd.c4
              replace hKq := hKq.wr hWy (by omega)
              clear hWy
              have y0 := hKq.cell (j := 0) rfl
              have y1 := hKq.cell (j := 1) rfl
              have y2 := hKq.cell (j := 2) rfl
              have y3 := hKq.cell (j := 3) rfl
              have y4 := hKq.cell (j := 4) rfl
              have y5 := hKq.cell (j := 5) rfl
              have y6 := hKq.cell (j := 6) rfl
              have y7 := hKq.cell (j := 7) rfl
              have y8 := hKq.cell (j := 8) rfl
              have y9 := hKq.cell (j := 9) rfl
              have f0 := hKq.fr 0
              have f1 := hKq.fr 1
              have f2 := hKq.fr 2
              have f3 := hKq.fr 3
              have f4 := hKq.fr 4
              have f5 := hKq.fr 5
              have f6 := hKq.fr 6
              have f7 := hKq.fr 7
              have f8 := hKq.fr 8
              have f9 := hKq.fr 9
              replace hKq := Lib.hid hKq
              have hJ1 := Lib.hid hJy
              replace hw := Lib.hid hb50
              clear hJy hb50
              go_wp2_with fail
              go_region
              go_wp2_with fail
              obtain ⟨wz, hwz, hKz, hWz⟩ := put10 (v0 := .slice none 0 0) (v1 := .slice none 0 0) (v2 := .slice none 0 0) (v3 := .slice none 0 0) (v4 := .slice none 0 0) (v5 := .slice none 0 0) (v6 := .slice none 0 0) (v7 := .slice none 0 0) (v8 := .slice none 0 0) (v9 := .slice none 0 0) hKq.out
              rw [← hwz]
              clear hwz
              have z0 := hKz.cell (j := 0) rfl
              have z1 := hKz.cell (j := 1) rfl
              have z2 := hKz.cell (j := 2) rfl
              have z3 := hKz.cell (j := 3) rfl
              have z4 := hKz.cell (j := 4) rfl
              have z5 := hKz.cell (j := 5) rfl
              have z6 := hKz.cell (j := 6) rfl
              have z7 := hKz.cell (j := 7) rfl
              have z8 := hKz.cell (j := 8) rfl
              have z9 := hKz.cell (j := 9) rfl
              have hBz : Below w.heap.size w wz := Wr.below_of (hb0.out.trans (hJ1.out.bl.mono hb0.out.size)) hWz (fun b e => by have := hh.out; omega) (hb0.out.trans (hJ1.out.bl.mono hb0.out.size)).size
              replace hBz := Lib.hid hBz
              clear y0 f0 y1 f1 y2 f2 y3 f3 y4 f4 y5 f5 y6 f6 y7 f7 y8 f8 y9 f9
              simp [bodyPost, results, Tryz.results11, go_sem, z0, z1, z2, z3, z4, z5, z6, z7, z8, z9]
              exact ⟨hBz.out.drew, .inr ⟨by rw [hXw.out]; exact hw.out, by rw [hXw.out]; rfl⟩⟩
set_option maxRecDepth 100000 in
set_option maxHeartbeats 8000000 in
theorem qdecode_big {w : World} {s : ByteArray} (hs : 262144 < s.size) : Calls Tryz.prog 11 #[.string s] w fun e w' => Below w.heap.size w w' ∧ e = .returned (.tuple #[zeroM, .int .i64 2]) := by
  have hle : (262144 : Int) < (s.size : Int) := by omega
  have hB : Below w.heap.size w ((w.alloc (.cells #[.slice none 0 0, .slice none 0 0, .slice none 0 0, .slice none 0 0, .slice none 0 0, .slice none 0 0, .slice none 0 0, .slice none 0 0, .slice none 0 0, .slice none 0 0] 33)).alloc (.cells #[.slice none 0 0, .slice none 0 0, .slice none 0 0, .slice none 0 0, .slice none 0 0, .slice none 0 0, .slice none 0 0, .slice none 0 0, .slice none 0 0, .slice none 0 0] 33)) := ((Below.refl _ _).alloc (Nat.le_refl _) _).alloc (by simp) _
  replace hB := Lib.hid hB
  go_enter Tryz.func11, Tryz.ntmps11
  go_wp2_with fail
  simp [bodyPost, results, Tryz.results11, go_sem]
  exact ⟨hB.out, rfl⟩
theorem qdecode_any {w : World} {s : ByteArray} : Calls Tryz.prog 11 #[.string s] w fun e w' => Below w.heap.size w w' ∧ DecV w s e w' := by
  by_cases hs : 262144 < s.size
  · refine (qdecode_big hs).mono ?_
    rintro e w' ⟨h1, h2⟩
    refine ⟨h1, .inr ⟨2, ?_, h2⟩⟩
    unfold gModule
    rw [if_pos (by rw [strl_length]; exact hs)]
  · refine (qdecode_small (Nat.le_of_not_lt hs)).mono ?_
    rintro e w' ⟨h1, h2⟩
    refine ⟨h1, ?_⟩
    have hm := sim_module (strl s) (by rw [strl_length]; omega)
    cases hg : gModule (strl s) with
    | ok m =>
      obtain ⟨r', hr, hw⟩ := hm.1 m hg
      rw [hr] at h2
      rcases h2 with ⟨_, cd, p, a0, a1, a2, a3, a4, a5, a6, a7, a8, a9, k0, k1, k2, k3, k4, k5, k6, k7, k8, k9, he, hM⟩ | ⟨h0, _⟩
      · exact .inl ⟨m, cd, p, a0, a1, a2, a3, a4, a5, a6, a7, a8, a9, k0, k1, k2, k3, k4, k5, k6, k7, k8, k9, hg, he, hM⟩
      · exact absurd hw h0
    | error n =>
      obtain ⟨hn, hw⟩ := hm.2 n hg
      rcases h2 with ⟨h0, _⟩ | ⟨_, he⟩
      · exact absurd (hw.symm.trans h0) hn
      · exact .inr ⟨n, hg, by rw [he, hw]⟩
end Go.Proofs.YtkbfjkbokifgkaaGreatDoor
