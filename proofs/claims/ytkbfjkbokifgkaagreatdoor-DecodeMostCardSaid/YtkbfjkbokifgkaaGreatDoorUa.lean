/- The reference's groups of seven bits. -/
import Derived.Test.YtkbfjkbokifgkaaGreatDoorLe
import Derived.BigQuiet
import Derived.Deep.DeepCutAuto
import Derived.StillTailTactics
import Derived.Test.YtkbfjkbokifgkaaGreatDoorDq
import Derived.Test.YtkbfjkbokifgkaaGreatDoorRr
import Derived.Test.YtkbfjkbokifgkaaGreatDoorPl
namespace Go.Proofs.YtkbfjkbokifgkaaGreatDoor
open Go.RowKit
set_option linter.unusedVariables false
set_option linter.unusedSimpArgs false

def grpC (K : Nat) (l : List UInt8) : Nat := match grp K l with | some (_, c) => c | none => 0
theorem rasked_any (s : ByteArray) (a : Nat) (ha : a ≤ s.size) (b : Int) (hb : b = 32 ∨ b = 64) (w : World) :
    Calls Tryz.prog 40 #[.string s, .int .i64 (a : Int), .int .i64 b] w fun e w' => e = .returned (.bool true) ∧ w' = w := by
  have h1 : (0 : Int) ≤ (a : Int) := by omega
  have h2 : (a : Int) ≤ (s.size : Int) := by omega
  have h3 : decide (a ≤ s.size) = true := decide_eq_true ha
  rcases hb with rfl | rfl
  all_goals
    go_enter Tryz.func40, Tryz.ntmps40
    go_wp2_with fail
    go_ret
    exact ⟨rfl, rfl⟩
set_option maxRecDepth 100000 in
set_option maxHeartbeats 4000000 in
theorem rgroups_any (s : ByteArray) (hs : s.size ≤ 262144) (a : Nat) (ha : a ≤ s.size) (b : Int) (K : Nat) (hb : (b = 32 ∧ K = 5) ∨ (b = 64 ∧ K = 10)) (w : World) :
    Calls Tryz.prog 41 #[.string s, .int .i64 (a : Int), .int .i64 b] w fun e w' => e = .returned (.int .i64 (grpC K (from_ s a) : Int)) ∧ w' = w := by
  obtain ⟨L, hL⟩ : ∃ L, from_ s a = L := ⟨_, rfl⟩
  have hLl : L.length = s.size - a := by rw [← hL]; exact from_len s a
  have hLk := Lib.hid (fun (k : Nat) (h : a + k < s.size) => (by rw [← hL, from_at]; exact str_get h : L[k]? = some s[a + k]))
  rw [hL]
  clear hL
  obtain ⟨R, hR⟩ : ∃ R, R = grpC K L := ⟨_, rfl⟩
  rw [← hR]
  have hR1 : grp K L = none → R = 0 := fun h => by rw [hR]; unfold grpC; rw [h]
  have hR2 : ∀ n c, grp K L = some (n, c) → R = c := fun n c h => by rw [hR]; unfold grpC; rw [h]
  replace hR1 := Lib.hid hR1
  replace hR2 := Lib.hid hR2
  clear hR
  replace hLl := Lib.hid hLl
  have hq1 : IntKind.i64.wrap (b + 6) = b + 6 := by rcases hb with ⟨rfl, rfl⟩ | ⟨rfl, rfl⟩ <;> exact wid64 _ (by omega) (by omega)
  have hq2 : IntKind.i64.wrap (Int.tdiv (b + 6) 7) = (K : Int) := by rcases hb with ⟨rfl, rfl⟩ | ⟨rfl, rfl⟩ <;> decide
  have hK : K ≤ 10 := by omega
  clear hb
  go_enter Tryz.func41, Tryz.ntmps41
  go_wp2_with fail
  go_loopg [8] K (fun k v wr => ∃ j : Nat, v = .int .i64 j ∧ j + k = K ∧ a + j ≤ s.size ∧ Hid (∀ i b, i < j → L[i]? = some b → 128 ≤ b.toNat) ∧ wr = w)
  case atStart => exact ⟨0, rfl, by omega, ha, Lib.hid (fun i b h => by omega), rfl⟩
  case round =>
    obtain ⟨j, rfl, hjk, hj, hall, rfl⟩ := hrel
    have hjl : j ≤ L.length := by
      rw [hLl.out]
      omega
    have hga := grp_at K L j (by omega) hall.out hjl
    replace hga := Lib.hid hga
    have hwj : IntKind.i64.wrap ((a : Int) + (j : Int)) = ((a + j : Nat) : Int) := (wid64 _ (by omega) (by omega)).trans (by omega)
    have hwn : IntKind.i64.wrap ((j : Int) + 1) = ((j + 1 : Nat) : Int) := (wid64 _ (by omega) (by omega)).trans (by omega)
    by_cases hjK : j < K
    · have hd1 : decide (j < K) = true := decide_eq_true hjK
      by_cases hlt : a + j < s.size
      · have hd2 : decide (a + j < s.size) = true := decide_eq_true hlt
        have hb := hLk.out j hlt
        obtain ⟨b, hbb⟩ : ∃ b, b = s[a + j] := ⟨_, rfl⟩
        rw [← hbb] at hb
        replace hb := Lib.hid hb
        replace hbb := Lib.hid hbb
        by_cases h128 : b.toNat < 128
        · have hg : R = j + 1 := hR2.out _ _ (hga.out.2 b hjK hb.out h128)
          replace hg := Lib.hid hg
          have hd3 : (s[a + j].toNat : Int) < 128 := by rw [← hbb.out]; omega
          replace h128 := Lib.hid h128
          clear hga
          go_wp2_with fail
          rw [hg.out]
          go_ret
          exact ⟨rfl, rfl⟩
        · obtain ⟨k1, rfl⟩ : ∃ k1, gk = k1 + 1 := ⟨gk - 1, by omega⟩
          have hd3 : ¬ (s[a + j].toNat : Int) < 128 := by rw [← hbb.out]; omega
          have hall2 : ∀ i c, i < j + 1 → L[i]? = some c → 128 ≤ c.toNat := by
            intro i c hi hc
            by_cases e : i = j
            · subst e
              rw [hb.out] at hc
              cases hc
              omega
            · exact hall.out i c (by omega) hc
          replace hall2 := Lib.hid hall2
          replace h128 := Lib.hid h128
          clear hga
          go_wp2_with fail
          go_roundg k1
          case measure => omega
          case rel => exact ⟨j + 1, rfl, by omega, by omega, hall2, rfl⟩
      · have hd2 : decide (a + j < s.size) = false := decide_eq_false hlt
        have hg : R = 0 := hR1.out (hga.out.1 (.inr (by have := hLl.out; omega)))
        replace hg := Lib.hid hg
        clear hga
        go_wp2_with fail
        rw [hg.out]
        go_ret
        exact ⟨rfl, rfl⟩
    · have hd1 : decide (j < K) = false := decide_eq_false hjK
      have hg : R = 0 := hR1.out (hga.out.1 (.inl (by omega)))
      replace hg := Lib.hid hg
      clear hga
      go_wp2_with fail
      rw [hg.out]
      go_ret
      exact ⟨rfl, rfl⟩
end Go.Proofs.YtkbfjkbokifgkaaGreatDoor

namespace Go.Proofs.YtkbfjkbokifgkaaGreatDoor
open Go.RowKit
set_option linter.unusedVariables false
set_option linter.unusedSimpArgs false

theorem grp_some : ∀ (K : Nat) (l : List UInt8) (n c : Nat), grp K l = some (n, c) → n = gv (l.take c) ∧ 1 ≤ c ∧ c ≤ K ∧ c ≤ l.length ∧ ∃ b, l[c - 1]? = some b ∧ b.toNat < 128
  | 0, l, n, c, h => by cases h
  | K + 1, [], n, c, h => by cases h
  | K + 1, b :: r, n, c, h => by
    unfold grp at h
    split at h
    · rename_i hb
      cases h
      exact ⟨by simp [gv]; omega, by omega, by omega, by simp, b, rfl, hb⟩
    · rename_i hb
      cases hq : grp K r with
      | none => rw [hq] at h; cases h
      | some q =>
        obtain ⟨n', c'⟩ := q
        rw [hq] at h
        cases h
        obtain ⟨h1, h2, h3, h4, b', h5, h6⟩ := grp_some K r n' c' hq
        refine ⟨?_, by omega, by omega, by simp; omega, b', ?_, h6⟩
        · have := b.toNat_lt
          rw [List.take_succ_cons, gv, ← h1]
          simp only
          omega
        · have : c' + 1 - 1 = c' - 1 + 1 := by omega
          simp only [this, List.getElem?_cons_succ]
          exact h5
theorem grp_32 {l : List UInt8} {n c : Nat} (h : grp 5 l = some (n, c)) : n < 34359738368 ∧ (c ≠ 5 → n < 4294967296) ∧ (∀ b, c = 5 → l[4]? = some b → (n < 4294967296 ↔ b.toNat ≤ 15)) := by
  obtain ⟨h1, h2, h3, h4, b, h5, h6⟩ := grp_some _ _ _ _ h
  have hlt := gv_lt (l.take c)
  rw [List.length_take, Nat.min_eq_left h4, ← h1] at hlt
  have hp : (2 : Nat) ^ (7 * c) ≤ 2 ^ 35 := Nat.pow_le_pow_right (by decide) (by omega)
  have e35 : (2 : Nat) ^ 35 = 34359738368 := by decide
  have e28 : (2 : Nat) ^ 28 = 268435456 := by decide
  refine ⟨by omega, fun hc => ?_, fun b' hc hb' => ?_⟩
  · have : (2 : Nat) ^ (7 * c) ≤ 2 ^ 28 := Nat.pow_le_pow_right (by decide) (by omega)
    omega
  · subst hc
    rw [hb'] at h5
    cases h5
    have ht := take_snoc2 hb'
    have hl4 : (l.take 4).length = 4 := by rw [List.length_take]; omega
    have hg := gv_snoc (l.take 4) b
    have hlt4 := gv_lt (l.take 4)
    rw [hl4] at hg hlt4
    rw [ht] at h1
    have e : (2 : Nat) ^ (7 * 4) = 268435456 := by decide
    rw [e] at hg hlt4
    rw [← h1] at hg
    omega
theorem low_wrap (k : Nat) (h : k < 10) : IntKind.i64.wrap ((k : Int) - 1) = (k : Int) - 1 := by
  have h2 : ∀ r : Fin 10, IntKind.i64.wrap (((r.val : Nat) : Int) - 1) = ((r.val : Nat) : Int) - 1 := by decide +kernel
  exact h2 ⟨k, h⟩
theorem or_up {N : Nat} {b : UInt8} (h : N < 72057594037927936) : bits BinOp.or .u64 ((N : Int) * 128) (IntKind.u64.wrap (bits BinOp.and .u8 (b.toNat : Int) 127)) = ((b.toNat % 128 + 128 * N : Nat) : Int) := by
  have e : (N : Int) * 128 = ((N * 128 : Nat) : Int) := by push_cast; rfl
  have e2 : N * 128 ||| b.toNat % 128 = b.toNat % 128 + 128 * N := by
    have := or_low (n := b.toNat % 128) (x := N) (j := 7) (by omega)
    rw [show (2 : Nat) ^ 7 = 128 by decide] at this
    rw [Nat.or_comm, this]
    omega
  rw [and_127, e, wrap_u64_nat, Nat.mod_eq_of_lt (by omega), u64_or_nat _ _ (by omega) (by omega), e2]
/-- What the reference's number without a sign tells, of 32 bits. -/
def RU (s : ByteArray) (a : Nat) (e : Ending) : Prop :=
  (∃ n c, grp 5 (from_ s a) = some (n, c) ∧ n < 4294967296 ∧ e = .returned (.tuple #[.int .u64 (n : Int), .int .i64 ((a + c : Nat) : Int), .int .i64 0])) ∨
  ((∀ n c, grp 5 (from_ s a) = some (n, c) → ¬ n < 4294967296) ∧ e = .returned (.tuple #[.int .u64 0, .int .i64 0, .int .i64 10]))
set_option maxRecDepth 100000 in
set_option maxHeartbeats 4000000 in
theorem rU_any (s : ByteArray) (hs : s.size ≤ 262144) (a : Nat) (ha : a ≤ s.size) (w : World) :
    Calls Tryz.prog 19 #[.string s, .int .i64 (a : Int), .int .i64 32] w fun e w' => RU s a e ∧ w' = w := by
  have hLl := from_len s a
  have hLk := Lib.hid (fun (k : Nat) (h : a + k < s.size) => (by rw [from_at]; exact str_get h : (from_ s a)[k]? = some s[a + k]))
  unfold RU
  obtain ⟨L, hL⟩ : ∃ L, L = from_ s a := ⟨_, rfl⟩
  rw [← hL] at hLl hLk ⊢
  have hgc : (grpC 5 (from_ s a)) = grpC 5 L := by rw [hL]
  clear hL
  replace hLl := Lib.hid hLl
  go_enter Tryz.func19, Tryz.ntmps19
  go_wp2_with fail
  refine (rasked_any s a ha 32 (.inl rfl) w).mono ?_
  rintro e' w' ⟨rfl, rfl⟩
  go_wp2_with fail
  refine (rgroups_any s hs a ha 32 5 (.inl ⟨rfl, rfl⟩) w').mono ?_
  rintro e' w2 ⟨rfl, rfl⟩
  rw [hgc]
  cases hg : grp 5 L with
  | none =>
    have hc : grpC 5 L = 0 := by unfold grpC; rw [hg]
    rw [hc]
    go_wp2_with fail
    refine bodyPost_ret (v := .tuple #[.int .u64 0, .int .i64 0, .int .i64 10]) (by simp [results, Tryz.results19, go_sem]) rfl ⟨.inr ⟨fun n c h => (by rw [hg] at h; cases h), rfl⟩, rfl⟩
  | some q =>
    obtain ⟨n, c⟩ := q
    have hc : grpC 5 L = c := by unfold grpC; rw [hg]
    rw [hc]
    obtain ⟨hn1, hc1, hc5, hcl, -⟩ := grp_some _ _ _ _ hg
    obtain ⟨h35, hne, heq⟩ := grp_32 hg
    have hq0 : ((c : Int) == 0) = false := beq_eq_false_iff_ne.2 (by omega)
    have hq10 : ((c : Int) == 10) = false := beq_eq_false_iff_ne.2 (by omega)
    have hc0 := hLl.out
    by_cases h5 : c = 5
    · subst h5
      clear hq0 hq10
      have hw4 : IntKind.i64.wrap ((a : Int) + 4) = ((a + 4 : Nat) : Int) := (wid64 _ (by omega) (by omega)).trans (by omega)
      have hk4 : a + 4 < s.size := by omega
      have hx := heq _ rfl (hLk.out 4 hk4)
      by_cases h15 : s[a + 4].toNat ≤ 15
      · have h15' : ¬ (15 : Int) < (s[a + 4].toNat : Int) := by omega
        have hn32 : n < 4294967296 := hx.2 h15
        replace hn1 := Lib.hid hn1
        replace hg := Lib.hid hg
        clear hx heq hne
        go_wp2_with fail
        go_loopg [10, 11] 5 (fun k v10 v11 wr => v10 = .int .u64 ((gv ((L.take 5).drop k) : Nat) : Int) ∧ v11 = .int .i64 ((k : Int) - 1) ∧ k ≤ 5 ∧ wr = w2)
        case atStart => exact ⟨by rw [List.drop_eq_nil_of_le (by rw [List.length_take]; omega)]; rfl, rfl, Nat.le_refl _, rfl⟩
        case round =>
          obtain ⟨rfl, rfl, hkc, rfl⟩ := hrel
          cases gk with
          | zero =>
            have e1 : ((0 : Nat) : Int) - 1 = -1 := rfl
            rw [e1, List.drop_zero, ← hn1.out]
            go_wp2_with fail
            refine bodyPost_ret (v := .tuple #[.int .u64 (n : Int), .int .i64 ((a : Int) + 5), .int .i64 0]) (by simp [results, Tryz.results19, go_sem]) rfl ⟨.inl ⟨n, 5, hg.out, hn32, by push_cast; rfl⟩, rfl⟩
          | succ k1 =>
            have e1 : ((k1 + 1 : Nat) : Int) - 1 = (k1 : Int) := by omega
            rw [e1]
            have hi0 : (0 : Int) ≤ (k1 : Int) := by omega
            have hwj : IntKind.i64.wrap ((a : Int) + (k1 : Int)) = ((a + k1 : Nat) : Int) := (wid64 _ (by omega) (by omega)).trans (by omega)
            have hwm : IntKind.i64.wrap ((k1 : Int) - 1) = (k1 : Int) - 1 := low_wrap k1 (by omega)
            have hks : a + k1 < s.size := by have := hLl.out; omega
            obtain ⟨N, hN⟩ : ∃ N, N = gv ((L.take 5).drop (k1 + 1)) := ⟨_, rfl⟩
            rw [← hN]
            replace hN := Lib.hid hN
            have hb := hLk.out k1 hks
            have hgt : (L.take 5)[k1]? = some s[a + k1] := by rw [List.getElem?_take_of_lt (by omega)]; exact hb
            have hgd : gv ((L.take 5).drop k1) = s[a + k1].toNat % 128 + 128 * N := by
              obtain ⟨hl, he⟩ := List.getElem?_eq_some_iff.1 hgt
              rw [List.drop_eq_getElem_cons hl, gv, he, hN.out]
            have hNl : N < 72057594037927936 := by
              have h := gv_lt ((L.take 5).drop (k1 + 1))
              rw [← hN.out, List.length_drop, List.length_take] at h
              have hp : (2 : Nat) ^ (7 * (min 5 L.length - (k1 + 1))) ≤ 2 ^ 56 := Nat.pow_le_pow_right (by decide) (by omega)
              have e : (2 : Nat) ^ 56 = 72057594037927936 := by decide
              omega
            have hor := or_up (N := N) (b := s[a + k1]) hNl
            rw [← hgd] at hor
            replace hor := Lib.hid hor
            replace hgd := Lib.hid hgd
            replace hb := Lib.hid hb
            replace hgt := Lib.hid hgt
            go_wp2_with fail
            go_roundg k1
            case measure => omega
            case rel => exact ⟨congrArg (Value.int .u64) hor.out, rfl, by omega, rfl⟩
      · have h15' : (15 : Int) < (s[a + 4].toNat : Int) := by omega
        have hbad : ¬ n < 4294967296 := fun h => h15 (hx.1 h)
        replace hg := Lib.hid hg
        clear hx heq hne hn1
        go_wp2_with fail
        refine bodyPost_ret (v := .tuple #[.int .u64 0, .int .i64 0, .int .i64 10]) (by simp [results, Tryz.results19, go_sem]) rfl ⟨.inr ⟨fun n' c' h => (by rw [hg.out] at h; cases h; exact hbad), rfl⟩, rfl⟩
    · have hq5 : ((c : Int) == 5) = false := beq_eq_false_iff_ne.2 (by omega)
      have hn32 : n < 4294967296 := hne h5
      replace hn1 := Lib.hid hn1
      replace hg := Lib.hid hg
      clear heq hne
      go_wp2_with fail
      go_loopg [10, 11] c (fun k v10 v11 wr => v10 = .int .u64 ((gv ((L.take c).drop k) : Nat) : Int) ∧ v11 = .int .i64 ((k : Int) - 1) ∧ k ≤ c ∧ wr = w2)
      case atStart => exact ⟨by rw [List.drop_eq_nil_of_le (by rw [List.length_take]; omega)]; rfl, rfl, Nat.le_refl _, rfl⟩
      case round =>
        obtain ⟨rfl, rfl, hkc, rfl⟩ := hrel
        cases gk with
        | zero =>
          have e1 : ((0 : Nat) : Int) - 1 = -1 := rfl
          rw [e1, List.drop_zero, ← hn1.out]
          go_wp2_with fail
          refine bodyPost_ret (v := .tuple #[.int .u64 (n : Int), .int .i64 ((a : Int) + (c : Int)), .int .i64 0]) (by simp [results, Tryz.results19, go_sem]) rfl ⟨.inl ⟨n, c, hg.out, hn32, by push_cast; rfl⟩, rfl⟩
        | succ k1 =>
          have e1 : ((k1 + 1 : Nat) : Int) - 1 = (k1 : Int) := by omega
          rw [e1]
          have hi0 : (0 : Int) ≤ (k1 : Int) := by omega
          have hwj : IntKind.i64.wrap ((a : Int) + (k1 : Int)) = ((a + k1 : Nat) : Int) := (wid64 _ (by omega) (by omega)).trans (by omega)
          have hwm : IntKind.i64.wrap ((k1 : Int) - 1) = (k1 : Int) - 1 := low_wrap k1 (by omega)
          have hks : a + k1 < s.size := by have := hLl.out; omega
          obtain ⟨N, hN⟩ : ∃ N, N = gv ((L.take c).drop (k1 + 1)) := ⟨_, rfl⟩
          rw [← hN]
          replace hN := Lib.hid hN
          have hb := hLk.out k1 hks
          have hgt : (L.take c)[k1]? = some s[a + k1] := by rw [List.getElem?_take_of_lt (by omega)]; exact hb
          have hgd : gv ((L.take c).drop k1) = s[a + k1].toNat % 128 + 128 * N := by
            obtain ⟨hl, he⟩ := List.getElem?_eq_some_iff.1 hgt
            rw [List.drop_eq_getElem_cons hl, gv, he, hN.out]
          have hNl : N < 72057594037927936 := by
            have h := gv_lt ((L.take c).drop (k1 + 1))
            rw [← hN.out, List.length_drop, List.length_take] at h
            have hp : (2 : Nat) ^ (7 * (min c L.length - (k1 + 1))) ≤ 2 ^ 56 := Nat.pow_le_pow_right (by decide) (by omega)
            have e : (2 : Nat) ^ 56 = 72057594037927936 := by decide
            omega
          have hor := or_up (N := N) (b := s[a + k1]) hNl
          rw [← hgd] at hor
          replace hor := Lib.hid hor
          replace hgd := Lib.hid hgd
          replace hb := Lib.hid hb
          replace hgt := Lib.hid hgt
          go_wp2_with fail
          go_roundg k1
          case measure => omega
          case rel => exact ⟨congrArg (Value.int .u64) hor.out, rfl, by omega, rfl⟩
end Go.Proofs.YtkbfjkbokifgkaaGreatDoor

namespace Go.Proofs.YtkbfjkbokifgkaaGreatDoor
open Go.RowKit
set_option linter.unusedVariables false
set_option linter.unusedSimpArgs false

theorem tmod_in (a : Int) (n : Nat) (hn : 1 ≤ n) : -(n : Int) < Int.tmod a n ∧ Int.tmod a n < n := by
  have h := Int.natAbs_tmod a n
  have h2 : a.natAbs % n < n := Nat.mod_lt _ (by omega)
  simp only [Int.natAbs_natCast] at h
  omega
theorem mod_any (a : Int) (n : Nat) (hn : 1 ≤ n) (hn2 : n ≤ 262144) (w : World) : Calls Tryz.prog 16 #[.int .i64 a, .int .i64 (n : Int)] w fun e w' => (∃ k : Nat, k < n ∧ e = .returned (.int .i64 (k : Int))) ∧ w' = w := by
  obtain ⟨r, hr⟩ : ∃ r, r = Int.tmod a n := ⟨_, rfl⟩
  have h1 := tmod_in a n hn
  rw [← hr] at h1
  obtain ⟨m, hm⟩ : ∃ m : Nat, (m : Int) = r + n := ⟨(r + n).toNat, by omega⟩
  have hw1 : IntKind.i64.wrap (r + n) = (m : Int) := by rw [← hm]; exact wid64 _ (by omega) (by omega)
  have h2 : Int.tmod (m : Int) (n : Int) = ((m % n : Nat) : Int) := by
    rw [Int.tmod_eq_emod_of_nonneg (by omega)]
    rfl
  have h3 : m % n < n := Nat.mod_lt _ (by omega)
  have hw2 : IntKind.i64.wrap ((m % n : Nat) : Int) = ((m % n : Nat) : Int) := wid64 _ (by omega) (by omega)
  have hz : ¬ (n : Int) < 1 := by omega
  have hz2 : ((n : Int) == 0) = false := beq_eq_false_iff_ne.2 (by omega)
  have hz3 : (n : Int) ≠ 0 := by omega
  obtain ⟨k, hk⟩ : ∃ k, k = m % n := ⟨_, rfl⟩
  rw [← hk] at h2 h3 hw2
  have hs : IntKind.i64.wrap r = r := by
    have hh : ∀ x : Int, -262144 ≤ x → x ≤ 262144 → IntKind.i64.wrap x = x := fun x h1 h2 => by
      simp [IntKind.wrap, IntKind.bits, IntKind.signed]
      omega
    exact hh r (by omega) (by omega)
  replace hk := Lib.hid hk
  replace hm := Lib.hid hm
  have hr' : Int.tmod a n = r := hr.symm
  replace hr := Lib.hid hr
  go_enter Tryz.func16, Tryz.ntmps16
  go_wp2_with fail
  go_ret
  exact ⟨⟨k, h3, rfl⟩, rfl⟩
end Go.Proofs.YtkbfjkbokifgkaaGreatDoor

namespace Go.Proofs.YtkbfjkbokifgkaaGreatDoor
open Go.RowKit
set_option linter.unusedVariables false

def RS.Ok (r : RS) : Prop := r.a ≤ r.e ∧ r.i ≤ 65537 ∧ (r.w = 0 → r.i ≤ 65536)
structure Mv (r r' : RS) : Prop where
  e : r'.e = r.e
  up : r.a ≤ r'.a
  ok : r.Ok → r'.Ok
theorem Mv.refl (r : RS) : Mv r r := ⟨rfl, Nat.le_refl _, id⟩
theorem Mv.trans {a b c : RS} (h : Mv a b) (k : Mv b c) : Mv a c := ⟨k.e.trans h.e, Nat.le_trans h.up k.up, fun x => k.ok (h.ok x)⟩
theorem Mv.bad (r : RS) (n : Int) (hn : n ≠ 0) : Mv r (r.bad n) := by
  unfold RS.bad
  split
  · exact ⟨rfl, Nat.le_refl _, fun h => ⟨h.1, h.2.1, fun h0 => absurd h0 hn⟩⟩
  · exact .refl r
theorem Mv.to {r : RS} {b : Nat} (h1 : r.a ≤ b) (h2 : r.a ≤ r.e → b ≤ r.e) : Mv r { r with a := b } := ⟨rfl, h1, fun h => ⟨h2 h.1, h.2.1, h.2.2⟩⟩
/-- A function of the reader goes on. -/
def Go1 {α : Type} (f : RS → Rg α) : Prop := ∀ r, Mv r (f r).2
theorem go_byte (s : List UInt8) : Go1 (rByte s) := fun r => by
  unfold rByte
  split
  · exact .refl r
  · split
    · exact .bad r 50 (by decide)
    · exact .to (by omega) (fun h => by omega)
theorem go_must (s : List UInt8) (b : Int) (r : RS) : Mv r (rMust s b r) := by
  unfold rMust
  split
  · exact go_byte s r
  · exact (go_byte s r).trans (.bad _ 50 (by decide))
theorem grp_in : ∀ (K : Nat) (l : List UInt8) (n c : Nat), grp K l = some (n, c) → c ≤ l.length
  | 0, l, n, c, h => by cases h
  | K + 1, [], n, c, h => by cases h
  | K + 1, b :: r, n, c, h => by
    unfold grp at h
    split at h
    · cases h
      simp
    · cases hq : grp K r with
      | none => rw [hq] at h; cases h
      | some q =>
        rw [hq] at h
        cases h
        have := grp_in K r q.1 q.2 hq
        simpa using this
theorem win_len (s : List UInt8) (a e : Nat) : (win s a e).length ≤ e - a := by
  unfold win
  rw [List.length_drop, List.length_take]
  omega
def InE (g : Nat → Nat → Got Int) : Prop := ∀ e a v b, g e a = .ok (v, b) → a ≤ b ∧ (a ≤ e → b ≤ e)
theorem inU (s : List UInt8) : InE (gU s) := fun e a v b h => by
  unfold gU at h
  cases hg : grp 5 (win s a e) with
  | none => rw [hg] at h; cases h
  | some q =>
    obtain ⟨n, c⟩ := q
    rw [hg] at h
    have h1 := grp_in _ _ _ _ hg
    have h2 := win_len s a e
    simp only at h
    split at h
    · cases h
      omega
    · cases h
theorem inS32 (s : List UInt8) : InE (gS32 s) := fun e a v b h => by
  unfold gS32 at h
  cases hg : grp 5 (win s a e) with
  | none => rw [hg] at h; cases h
  | some q =>
    obtain ⟨n, c⟩ := q
    rw [hg] at h
    have h1 := grp_in _ _ _ _ hg
    have h2 := win_len s a e
    simp only at h
    split at h
    · cases h
      omega
    · cases h
theorem inS64 (s : List UInt8) : InE (gS64 s) := fun e a v b h => by
  unfold gS64 at h
  cases hg : grp 10 (win s a e) with
  | none => rw [hg] at h; cases h
  | some q =>
    obtain ⟨n, c⟩ := q
    rw [hg] at h
    have h1 := grp_in _ _ _ _ hg
    have h2 := win_len s a e
    simp only at h
    split at h
    · cases h
      omega
    · cases h
theorem go_num {g : Nat → Nat → Got Int} (hg : InE g) : Go1 (rNum g) := fun r => by
  unfold rNum
  split
  · exact .refl r
  · split
    · rename_i q hq
      have := hg _ _ q.1 q.2 hq
      exact .to this.1 this.2
    · exact .bad r 50 (by decide)
theorem go_u (s : List UInt8) : Go1 (rU s) := go_num (inU s)
theorem go_count (s : List UInt8) : Go1 (rCount s) := fun r => by
  unfold rCount
  split
  · exact (go_u s r).trans (.bad _ 3 (by decide))
  · exact go_u s r
theorem go_typ (s : List UInt8) : Go1 (rTyp s) := fun r => by
  unfold rTyp
  split
  · exact go_byte s r
  · split
    · exact (go_byte s r).trans (.bad _ 51 (by decide))
    · split
      · exact (go_byte s r).trans (.bad _ 50 (by decide))
      · exact go_byte s r
theorem go_result (s : List UInt8) : Go1 (rResult s) := fun r => by
  unfold rResult
  split
  · exact .to (by omega) (fun h => by omega)
  · exact go_typ s r
theorem go_many {α : Type} {f : RS → Rg α} (h : Go1 f) : ∀ k, Go1 (rMany f k)
  | 0, r => .refl r
  | k + 1, r => by
    rw [rMany]
    split
    · exact .refl r
    · exact (h r).trans (go_many h k _)
theorem go_each {α : Type} (s : List UInt8) {f : RS → Rg α} (h : Go1 f) : Go1 (rEach s f) := fun r => (go_count s r).trans (go_many h _ _)
theorem go_operands (s : List UInt8) {rec : Nat → Bool → RS → Rg (Il × Int)} (h : ∀ d o, Go1 (rec d o)) (op : Int) (deep : Nat) : Go1 (rOperands s rec op deep) := fun r => by
  unfold rOperands
  split
  · split
    · exact ((go_result s r).trans (h _ _ _)).trans (h _ _ _)
    · exact (go_result s r).trans (h _ _ _)
  split
  · exact go_u s r
  split
  · exact (go_each s (go_u s) r).trans (go_u s _)
  split
  · exact (go_u s r).trans (go_must s 0 _)
  split
  · exact (go_u s r).trans (go_u s _)
  split
  · split
    · exact go_num (inS32 s) r
    · exact go_num (inS64 s) r
  split
  · exact go_must s 0 r
  · exact .refl r
theorem what_w {op : Int} {deep : Nat} {r : RS} (h : (rWhat op deep r).w = 0) : rWhat op deep r = r ∧ r.w = 0 ∧ r.i ≠ 65536 ∧ deep ≤ 64 ∧ formV op ≠ 0 ∧ formV op ≠ 10 := by
  have hb : ∀ n : Int, n ≠ 0 → (r.bad n).w = 0 → False := fun n hn h => bad_zero hn h
  unfold rWhat at h ⊢
  by_cases h0 : formV op = 0
  · rw [if_pos h0] at h
    exact (hb 50 (by decide) h).elim
  rw [if_neg h0] at h ⊢
  by_cases h10 : formV op = 10
  · rw [if_pos h10] at h
    exact (hb 51 (by decide) h).elim
  rw [if_neg h10] at h ⊢
  by_cases hi : r.i = 65536
  · rw [if_pos hi] at h
    exact (hb 3 (by decide) h).elim
  rw [if_neg hi] at h ⊢
  by_cases hd : 64 < deep
  · rw [if_pos hd] at h
    exact (hb 4 (by decide) h).elim
  rw [if_neg hd] at h ⊢
  exact ⟨rfl, h, hi, by omega, h0, h10⟩
theorem what_mo (op : Int) (deep : Nat) (r : RS) : Mv r (rWhat op deep r) := by
  unfold rWhat
  split
  · exact .bad _ 50 (by decide)
  split
  · exact .bad _ 51 (by decide)
  split
  · exact .bad _ 3 (by decide)
  split
  · exact .bad _ 4 (by decide)
  · exact .refl r
theorem what_i (op : Int) (deep : Nat) (r : RS) : (rWhat op deep r).i = r.i := by
  have hb : ∀ n : Int, (r.bad n).i = r.i := fun n => by unfold RS.bad; split <;> rfl
  unfold rWhat
  split
  · exact hb _
  split
  · exact hb _
  split
  · exact hb _
  split
  · exact hb _
  · rfl
/-- Where nothing was wrong ahead, one more is counted. -/
theorem more_mo (op : Int) (deep : Nat) (r : RS) (h0 : r.w = 0) : Mv r { rWhat op deep r with i := (rWhat op deep r).i + 1 } := by
  have h := what_mo op deep r
  refine ⟨h.e, h.up, fun hk => ?_⟩
  have h1 := h.ok hk
  have h2 := what_i op deep r
  have h3 := hk.2.2 h0
  refine ⟨h1.1, by show (rWhat op deep r).i + 1 ≤ _; omega, fun hw => ?_⟩
  have h4 := (what_w (show (rWhat op deep r).w = 0 from hw)).2.2.1
  show (rWhat op deep r).i + 1 ≤ _
  omega
theorem go_one (s : List UInt8) {rec : Nat → Bool → RS → Rg (Il × Int)} (h : ∀ d o, Go1 (rec d o)) (op : Int) (deep : Nat) (r : RS) (h0 : r.w = 0) : Mv r (rOne s rec op deep r).2 := by
  unfold rOne
  split
  · exact (more_mo op deep r h0).trans (go_operands s h op deep _)
  · exact more_mo op deep r h0
theorem go_exprs (s : List UInt8) : ∀ k d o, Go1 (rExprs s k d o)
  | 0, d, o, r => .bad r 50 (by decide)
  | k + 1, d, o, r => by
    rw [rExprs]
    split
    · exact .refl r
    · split
      · exact go_byte s r
      · rename_i h1 h2
        have hb : (rByte s r).2.w = 0 := by
          by_cases h : (rByte s r).2.w = 0
          · exact h
          · exact absurd (.inl h) h2
        exact ((go_byte s r).trans (go_one s (go_exprs s k) _ d _ hb)).trans (go_exprs s k d o _)
end Go.Proofs.YtkbfjkbokifgkaaGreatDoor

namespace Go.Proofs.YtkbfjkbokifgkaaGreatDoor
open Go.RowKit
set_option linter.unusedVariables false
set_option linter.unusedSimpArgs false

structure RrAt (w : World) (p : Nat) (s : ByteArray) (r : RS) : Prop where
  row : w.heap[p]? = some (.cells #[.string s, .int .i64 (r.a : Int), .int .i64 (r.e : Int), .int .i64 (r.i : Int), .int .i64 r.w] 68 (0, 0))
theorem RrAt.c0 {w : World} {p : Nat} {s : ByteArray} {r : RS} (h : RrAt w p s r) : w.cell? ⟨p, 0, none⟩ = some (.string s) := by
  rw [cell_of_row w p 0 _ _ _ h.row]
  rfl
theorem RrAt.c1 {w : World} {p : Nat} {s : ByteArray} {r : RS} (h : RrAt w p s r) : w.cell? ⟨p, 1, none⟩ = some (.int .i64 (r.a : Int)) := by
  rw [cell_of_row w p 1 _ _ _ h.row]
  rfl
theorem RrAt.c2 {w : World} {p : Nat} {s : ByteArray} {r : RS} (h : RrAt w p s r) : w.cell? ⟨p, 2, none⟩ = some (.int .i64 (r.e : Int)) := by
  rw [cell_of_row w p 2 _ _ _ h.row]
  rfl
theorem RrAt.c3 {w : World} {p : Nat} {s : ByteArray} {r : RS} (h : RrAt w p s r) : w.cell? ⟨p, 3, none⟩ = some (.int .i64 (r.i : Int)) := by
  rw [cell_of_row w p 3 _ _ _ h.row]
  rfl
theorem RrAt.c4 {w : World} {p : Nat} {s : ByteArray} {r : RS} (h : RrAt w p s r) : w.cell? ⟨p, 4, none⟩ = some (.int .i64 r.w) := by
  rw [cell_of_row w p 4 _ _ _ h.row]
  rfl
theorem RrAt.fr {w : World} {p : Nat} {s : ByteArray} {r : RS} (h : RrAt w p s r) (o : Nat) : w.frozen? ⟨p, o, none⟩ = false := frozen_of_row w p o _ _ h.row
theorem RrAt.lt {w : World} {p : Nat} {s : ByteArray} {r : RS} (h : RrAt w p s r) : p < w.heap.size := (Array.getElem?_eq_some_iff.1 h.row).1
theorem RrAt.drew {w : World} {p : Nat} {s : ByteArray} {r : RS} (h : RrAt w p s r) : RrAt w.drew p s r := ⟨h.row⟩
theorem RrAt.drewN {w : World} {p : Nat} {s : ByteArray} {r : RS} (h : RrAt w p s r) (n : Nat) : RrAt (w.drewN n) p s r := ⟨h.row⟩
theorem RrAt.wr {S : Nat → Prop} {w w' : World} {p : Nat} {s : ByteArray} {r : RS} (h : RrAt w p s r) (k : Wr S w w') (hp : ¬ S p) : RrAt w' p s r := ⟨(k.block p h.lt hp).trans h.row⟩
theorem RrAt.below {w w' : World} {p : Nat} {s : ByteArray} {r : RS} (h : RrAt w p s r) (k : Below w.heap.size w w') : RrAt w' p s r := ⟨(k.block p h.lt).trans h.row⟩
theorem RrAt.set1 {w : World} {p : Nat} {s : ByteArray} {r : RS} (h : RrAt w p s r) (b : Nat) : RrAt (w.setCell ⟨p, 1, none⟩ (.int .i64 (b : Int))) p s { r with a := b } := by
  refine ⟨?_⟩
  rw [heap_setCell_same w p 1 _ _ _ h.row]
  rfl
theorem RrAt.to1 {w : World} {p : Nat} {s : ByteArray} {r : RS} (h : RrAt w p s r) {x : Int} {b : Nat} (hx : x = (b : Int)) : RrAt (w.setCell ⟨p, 1, none⟩ (.int .i64 x)) p s { r with a := b } := by
  subst hx
  exact h.set1 b
theorem RrAt.set2 {w : World} {p : Nat} {s : ByteArray} {r : RS} (h : RrAt w p s r) (b : Nat) : RrAt (w.setCell ⟨p, 2, none⟩ (.int .i64 (b : Int))) p s { r with e := b } := by
  refine ⟨?_⟩
  rw [heap_setCell_same w p 2 _ _ _ h.row]
  rfl
theorem RrAt.set3 {w : World} {p : Nat} {s : ByteArray} {r : RS} (h : RrAt w p s r) (b : Nat) : RrAt (w.setCell ⟨p, 3, none⟩ (.int .i64 (b : Int))) p s { r with i := b } := by
  refine ⟨?_⟩
  rw [heap_setCell_same w p 3 _ _ _ h.row]
  rfl
theorem RrAt.to3 {w : World} {p : Nat} {s : ByteArray} {r : RS} (h : RrAt w p s r) {x : Int} {b : Nat} (hx : x = (b : Int)) : RrAt (w.setCell ⟨p, 3, none⟩ (.int .i64 x)) p s { r with i := b } := by
  subst hx
  exact h.set3 b
theorem RrAt.set4 {w : World} {p : Nat} {s : ByteArray} {r : RS} (h : RrAt w p s r) (n : Int) : RrAt (w.setCell ⟨p, 4, none⟩ (.int .i64 n)) p s { r with w := n } := by
  refine ⟨?_⟩
  rw [heap_setCell_same w p 4 _ _ _ h.row]
  rfl
/-- What a function of the document's reader tells: a value; the reader goes on. -/
def Rv {α : Type} (V : α → Value → Prop) (p : Nat) (s : ByteArray) (g : Rg α) (w : World) (end_ : Ending) (w' : World) : Prop := Wr (· = p) w w' ∧ ∃ v', V g.1 v' ∧ end_ = .returned v' ∧ RrAt w' p s g.2
def VI (v : Int) (x : Value) : Prop := x = .int .i64 v
def VU (_ : Unit) (x : Value) : Prop := x = .tuple #[]
set_option maxRecDepth 100000 in
set_option maxHeartbeats 4000000 in
theorem qbad_any {w : World} {p : Nat} {s : ByteArray} {r : RS} (h : RrAt w p s r) (n : Int) :
    Calls Tryz.prog 28 #[.pointer (some ⟨p, 0, none⟩), .int .i64 n] w fun e' w' => e' = .returned (.tuple #[]) ∧ Wr (· = p) w w' ∧ RrAt w' p s (r.bad n) := by
  have c4 := h.c4
  have f4 := h.fr 4
  have t := Wr.refl (· = p) w
  by_cases hw : r.w = 0
  · have hb : r.bad n = { r with w := n } := by unfold RS.bad; rw [if_pos hw]
    have hq : (r.w == 0) = true := by rw [hw]; rfl
    replace hw := Lib.hid hw
    replace hb := Lib.hid hb
    go_enter Tryz.func28, Tryz.ntmps28
    go_wp2_with fail
    go_end0
    rw [hb.out]
    exact ⟨rfl, t.set (S := (· = p)) rfl 4 _, h.set4 n⟩
  · have hb : r.bad n = r := bad_w1 hw
    have hq : (r.w == 0) = false := beq_eq_false_iff_ne.2 hw
    replace hw := Lib.hid hw
    replace hb := Lib.hid hb
    go_enter Tryz.func28, Tryz.ntmps28
    go_wp2_with fail
    go_end0
    rw [hb.out]
    exact ⟨rfl, t, h⟩
set_option maxRecDepth 100000 in
set_option maxHeartbeats 4000000 in
theorem qbyte_any {w : World} {p : Nat} {s : ByteArray} {r : RS} (h : RrAt w p s r) (hs : s.size ≤ 262144) (he : r.e ≤ s.size) :
    Calls Tryz.prog 27 #[.pointer (some ⟨p, 0, none⟩)] w (Rv VI p s (rByte (strl s) r) w) := by
  have c4 := h.c4
  have c1 := h.c1
  have c2 := h.c2
  have t := Wr.refl (· = p) w
  by_cases hw : r.w = 0
  · have hq : (r.w != 0) = false := by rw [hw]; rfl
    by_cases hlt : r.a < r.e
    · have hB : rByte (strl s) r = (((s[r.a]'(by omega)).toNat : Int), { r with a := r.a + 1 }) := by
        unfold rByte
        rw [if_neg (by simp [hw]), if_neg (by omega), str_get (show r.a < s.size by omega), Option.getD_some]
      have hi : ¬ (r.e : Int) ≤ (r.a : Int) := by omega
      have h1 : IntKind.i64.wrap ((r.a : Int) + 1) = (r.a : Int) + 1 := wid64 _ (by omega) (by omega)
      have h2 : IntKind.i64.wrap ((r.a : Int) + 1 - 1) = (r.a : Int) := by rw [show (r.a : Int) + 1 - 1 = r.a by omega]; exact wid64 _ (by omega) (by omega)
      have has : r.a < s.size := by omega
      have f1 := h.fr 1
      replace hB := Lib.hid hB
      replace hw := Lib.hid hw
      go_enter Tryz.func27, Tryz.ntmps27
      go_wp2_with fail
      go_quiet (fail)
      have hd := h.drewN nq
      have td := t.drewN nq
      obtain ⟨w1, hw1⟩ : ∃ w1, w1 = w.drewN nq := ⟨_, rfl⟩
      rw [← hw1] at hd td ⊢
      clear hw1 h c1 c2 c4 f1 t
      have c1 := hd.c1
      have f1 := hd.fr 1
      go_upto_region 7 with (fail)
      have h2' := hd.to1 (x := (r.a : Int) + 1) (b := r.a + 1) (by omega)
      have t2 := td.set (S := (· = p)) rfl 1 (.int .i64 ((r.a : Int) + 1))
      obtain ⟨w2, hw2⟩ : ∃ w2, w2 = w1.setCell ⟨p, 1, none⟩ (.int .i64 ((r.a : Int) + 1)) := ⟨_, rfl⟩
      rw [← hw2] at h2' t2 ⊢
      clear hw2 hd td c1 f1
      have c0 := h2'.c0
      have c1 : w2.cell? ⟨p, 1, none⟩ = some (.int .i64 ((r.a : Int) + 1)) := by have := h2'.c1; simpa using this
      go_quiet (fail)
      go_wp2_with fail
      refine bodyPost_ret (by simp [results, Tryz.results27, go_sem] <;> rfl) rfl ?_
      rw [show wrap64 (s[r.a].toNat : Int) = (s[r.a].toNat : Int) from (by have := s[r.a].toNat_lt; unfold wrap64; omega)]
      rw [hB.out]
      exact ⟨t2.drewN nq, _, rfl, rfl, h2'.drewN nq⟩
    · have hB : rByte (strl s) r = (0, r.bad 50) := by
        unfold rByte
        rw [if_neg (by simp [hw]), if_pos (by omega)]
      have hi : (r.e : Int) ≤ (r.a : Int) := by omega
      replace hB := Lib.hid hB
      replace hw := Lib.hid hw
      go_enter Tryz.func27, Tryz.ntmps27
      go_wp2_with fail
      go_quiet (fail)
      have hd := h.drewN nq
      have td := t.drewN nq
      obtain ⟨w1, hw1⟩ : ∃ w1, w1 = w.drewN nq := ⟨_, rfl⟩
      rw [← hw1] at hd td ⊢
      clear hw1 h c1 c2 c4 t
      go_wp2_with fail
      refine (qbad_any hd 50).mono ?_
      rintro e' w2 ⟨rfl, hW, hR⟩
      go_wp2_with fail
      refine bodyPost_ret (v := .int .i64 0) (by simp [results, Tryz.results27, go_sem]) rfl ?_
      rw [hB.out]
      exact ⟨td.trans hW, _, rfl, rfl, hR⟩
  · have hB : rByte (strl s) r = (0, r) := by
      unfold rByte
      rw [if_pos hw]
    have hq : (r.w != 0) = true := by simp [hw]
    replace hB := Lib.hid hB
    replace hw := Lib.hid hw
    go_enter Tryz.func27, Tryz.ntmps27
    go_wp2_with fail
    refine bodyPost_ret (v := .int .i64 0) (by simp [results, Tryz.results27, go_sem]) rfl ?_
    rw [hB.out]
    exact ⟨t, _, rfl, rfl, h⟩
set_option maxRecDepth 100000 in
set_option maxHeartbeats 4000000 in
theorem qmust_any {w : World} {p : Nat} {s : ByteArray} {r : RS} (h : RrAt w p s r) (hs : s.size ≤ 262144) (he : r.e ≤ s.size) (b : Int) :
    Calls Tryz.prog 26 #[.pointer (some ⟨p, 0, none⟩), .int .i64 b] w (Rv VU p s ((), rMust (strl s) b r) w) := by
  obtain ⟨X, hX⟩ : ∃ X, X = rMust (strl s) b r := ⟨_, rfl⟩
  rw [← hX]
  unfold rMust at hX
  replace hX := Lib.hid hX
  go_enter Tryz.func26, Tryz.ntmps26
  go_wp2_with fail
  refine (qbyte_any h hs he).mono ?_
  rintro e' w1 ⟨hW, v', rfl, rfl, hR⟩
  obtain ⟨B, hBB⟩ : ∃ B, B = rByte (strl s) r := ⟨_, rfl⟩
  have hX2 := hX.out
  rw [← hBB] at hR hX2 ⊢
  clear hBB hX
  by_cases hb : B.1 = b
  · have hq : (B.1 != b) = false := by simp [hb]
    rw [if_pos hb] at hX2
    replace hb := Lib.hid hb
    replace hX2 := Lib.hid hX2
    go_wp2_with fail
    go_end0
    rw [hX2.out]
    exact ⟨hW, _, rfl, rfl, hR⟩
  · have hq : (B.1 != b) = true := by simp [hb]
    rw [if_neg hb] at hX2
    replace hb := Lib.hid hb
    replace hX2 := Lib.hid hX2
    go_wp2_with fail
    refine (qbad_any hR 50).mono ?_
    rintro e' w2 ⟨rfl, hW2, hR2⟩
    go_wp2_with fail
    go_end0
    rw [hX2.out]
    exact ⟨hW.trans hW2, _, rfl, rfl, hR2⟩
end Go.Proofs.YtkbfjkbokifgkaaGreatDoor

namespace Go.Proofs.YtkbfjkbokifgkaaGreatDoor
open Go.RowKit
set_option linter.unusedVariables false
set_option linter.unusedSimpArgs false

/-- What groups make behind something ahead of them. -/
def hv (t : Int) : List UInt8 → Int
  | [] => t
  | b :: r => 128 * hv t r + ((b.toNat % 128 : Nat) : Int)
theorem hv_gv (t : Int) : ∀ l, hv t l = gv l + t * 128 ^ l.length
  | [] => by simp [hv, gv]
  | b :: r => by
    rw [hv, hv_gv t r, gv, List.length_cons, Int.pow_succ, Int.mul_add, ← Int.mul_assoc t]
    push_cast
    rw [Int.mul_comm (t * 128 ^ r.length) 128]
    omega
theorem hv_bd {t : Int} (h1 : -1 ≤ t) (h2 : t ≤ 0) : ∀ l, -(128 ^ l.length : Int) ≤ hv t l ∧ hv t l < (128 ^ l.length : Int)
  | [] => by simp [hv]; omega
  | b :: r => by
    have ih := hv_bd h1 h2 r
    rw [hv, List.length_cons, Int.pow_succ]
    generalize (128 ^ r.length : Int) = P at ih ⊢
    have : b.toNat % 128 < 128 := Nat.mod_lt _ (by decide)
    omega
theorem hv_snoc (t : Int) (b : UInt8) : ∀ l, hv t (l ++ [b]) = hv (128 * t + ((b.toNat % 128 : Nat) : Int)) l
  | [] => rfl
  | c :: r => by
    rw [List.cons_append, hv, hv_snoc t b r, hv]
/-- What stands ahead of the groups: the sign. -/
def tS (b : UInt8) : Int := if 64 ≤ b.toNat then -1 else 0
theorem tS_bd (b : UInt8) : -1 ≤ tS b ∧ tS b ≤ 0 := by unfold tS; split <;> omega
theorem pow128 (n : Nat) : ((2 ^ (7 * n) : Nat) : Int) = 128 ^ n := by
  rw [Nat.pow_mul]
  push_cast
  rfl
theorem hv_sgn {K : Nat} {l : List UInt8} {n c : Nat} {b : UInt8} (h : grp K l = some (n, c)) (hb : l[c - 1]? = some b) : hv (tS b) (l.take c) = sgn n c := by
  obtain ⟨h1, h2, h3, h4, b', h5, h6⟩ := grp_some _ _ _ _ h
  rw [hb] at h5
  cases h5
  obtain ⟨c1, rfl⟩ : ∃ c1, c = c1 + 1 := ⟨c - 1, by omega⟩
  rw [show c1 + 1 - 1 = c1 by omega] at hb
  have hl : (l.take (c1 + 1)).length = c1 + 1 := by rw [List.length_take]; omega
  have hl1 : (l.take c1).length = c1 := by rw [List.length_take]; omega
  rw [hv_gv, hl, ← h1, ← pow128]
  have hg := gv_snoc (l.take c1) b
  rw [← take_snoc2 hb, hl1, ← h1, Nat.mod_eq_of_lt h6] at hg
  have hlt := gv_lt (l.take c1)
  rw [hl1] at hlt
  unfold sgn tS
  have e1 : 7 * (c1 + 1) - 1 = 7 * c1 + 6 := by omega
  have e2 : 7 * (c1 + 1) = 7 * c1 + 7 := by omega
  rw [e1, e2, Nat.pow_add, Nat.pow_add]
  generalize 2 ^ (7 * c1) = P at hg hlt ⊢
  have e6 : (2 : Nat) ^ 6 = 64 := by decide
  have e7 : (2 : Nat) ^ 7 = 128 := by decide
  rw [e6, e7]
  by_cases h64 : 64 ≤ b.toNat
  · have : P * 64 ≤ P * b.toNat := Nat.mul_le_mul_left _ h64
    rw [if_pos h64, if_pos (by omega)]
    omega
  · have : P * b.toNat ≤ P * 63 := Nat.mul_le_mul_left _ (by omega)
    rw [if_neg h64, if_neg (by omega)]
    omega
/-- Behind the first group all of them is small, where the tenth says a sign alone. -/
theorem hv_small {K : Nat} (hK : K ≤ 10) {l : List UInt8} {n c : Nat} {b : UInt8} (h : grp K l = some (n, c)) (hb : l[c - 1]? = some b) (h10 : c = 10 → b.toNat = 0 ∨ b.toNat = 127) (j : Nat) (hj : 1 ≤ j) :
    -72057594037927936 ≤ hv (tS b) ((l.take c).drop j) ∧ hv (tS b) ((l.take c).drop j) < 72057594037927936 := by
  obtain ⟨h1, h2, h3, h4, b', h5, h6⟩ := grp_some _ _ _ _ h
  have key : ∀ (m : List UInt8) (t : Int), -1 ≤ t → t ≤ 0 → m.length ≤ 8 → -72057594037927936 ≤ hv t m ∧ hv t m < 72057594037927936 := fun m t t1 t2 hm => by
    have hbd := hv_bd t1 t2 m
    have : (128 ^ m.length : Int) ≤ 128 ^ 8 := by
      have : (128 : Nat) ^ m.length ≤ 128 ^ 8 := Nat.pow_le_pow_right (by decide) hm
      exact_mod_cast this
    have e : (128 ^ 8 : Int) = 72057594037927936 := by decide
    omega
  have ht := tS_bd b
  by_cases h9 : c ≤ 9
  · exact key _ _ ht.1 ht.2 (by rw [List.length_drop, List.length_take]; omega)
  · obtain rfl : c = 10 := by omega
    have hts := take_snoc2 (show l[9]? = some b from hb)
    by_cases hj9 : j ≤ 9
    · rw [hts, List.drop_append_of_le_length (by rw [List.length_take]; omega), hv_snoc]
      have : 128 * tS b + ((b.toNat % 128 : Nat) : Int) = tS b := by
        unfold tS
        rcases h10 rfl with e | e <;> rw [e] <;> simp
      rw [this]
      exact key _ _ ht.1 ht.2 (by rw [List.length_drop, List.length_take]; omega)
    · rw [List.drop_eq_nil_of_le (by rw [List.length_take]; omega)]
      exact key _ _ ht.1 ht.2 (by simp)
/-- What it tells. -/
def SOut (P : Nat → Nat → Option Int) (K : Nat) (L : List UInt8) (a : Nat) (e : Ending) : Prop :=
  (∃ n c v, grp K L = some (n, c) ∧ P n c = some v ∧ e = .returned (.tuple #[.int .i64 v, .int .i64 ((a + c : Nat) : Int), .int .i64 0])) ∨
  ((∀ n c, grp K L = some (n, c) → P n c = none) ∧ e = .returned (.tuple #[.int .i64 0, .int .i64 0, .int .i64 10]))
theorem or_sgn {x : Int} {b : UInt8} (h1 : -72057594037927936 ≤ x) (h2 : x < 72057594037927936) : bits BinOp.or .i64 (x * 128) ((b.toNat % 128 : Nat) : Int) = 128 * x + ((b.toNat % 128 : Nat) : Int) := by
  have hr : b.toNat % 128 < 128 := Nat.mod_lt _ (by decide)
  generalize b.toNat % 128 = r at hr ⊢
  show IntKind.i64.wrap ((BitVec.ofInt 64 (x * 128) ||| BitVec.ofInt 64 (r : Int)).toNat : Int) = _
  have hX : ∃ X : Nat, (BitVec.ofInt 64 (x * 128)).toNat = X * 128 ∧ X * 128 < 18446744073709551616 ∧ ((X * 128 : Nat) : Int) = (x * 128) % 18446744073709551616 := by
    refine ⟨((x * 128) % 18446744073709551616).toNat / 128, ?_, ?_, ?_⟩
    · rw [BitVec.toNat_ofInt]
      have : ((2 ^ 64 : Nat) : Int) = 18446744073709551616 := by decide
      rw [this]
      omega
    · omega
    · omega
  obtain ⟨X, e1, e2, e3⟩ := hX
  have e4 : (BitVec.ofInt 64 (r : Int)).toNat = r := by
    rw [BitVec.ofInt_natCast, BitVec.toNat_ofNat]
    exact Nat.mod_eq_of_lt (by omega)
  have e5 : X * 128 ||| r = X * 128 + r := by
    have := or_low (n := r) (x := X) (j := 7) (by omega)
    rw [show (2 : Nat) ^ 7 = 128 by decide] at this
    rw [Nat.or_comm, this]
    omega
  rw [BitVec.toNat_or, e1, e4, e5]
  have key : ∀ z : Int, IntKind.i64.wrap z = if 9223372036854775808 ≤ z % 18446744073709551616 then z % 18446744073709551616 - 18446744073709551616 else z % 18446744073709551616 := fun z => by
    simp [IntKind.wrap, IntKind.bits, IntKind.signed]
  have e6 : IntKind.i64.wrap ((X * 128 + r : Nat) : Int) = IntKind.i64.wrap (128 * x + r) := by
    have h : ((X * 128 + r : Nat) : Int) % 18446744073709551616 = (128 * x + (r : Int)) % 18446744073709551616 := by
      push_cast at e3 ⊢
      omega
    rw [key, key, h]
  rw [e6]
  exact wid64s _ (by omega) (by omega)
theorem and_64 (b : UInt8) : (bits BinOp.and .u8 (b.toNat : Int) 64 != 0) = decide (64 ≤ b.toNat % 128) := by
  have h : ∀ r : Fin 256, (bits BinOp.and .u8 ((r.val : Nat) : Int) 64 != 0) = decide (64 ≤ r.val % 128) := by decide +kernel
  exact h ⟨b.toNat, b.toNat_lt⟩
def pS (bits : Int) (n c : Nat) : Option Int := if bits = 32 then pS32 n c else pS64 n c
theorem pS_ok {bits : Int} {K : Nat} (hbK : (bits = 32 ∧ K = 5) ∨ (bits = 64 ∧ K = 10)) {l : List UInt8} {n c : Nat} {b : UInt8} (h : grp K l = some (n, c)) (hb : l[c - 1]? = some b) (h10 : c = 10 → b.toNat = 0 ∨ b.toNat = 127) :
    (-9223372036854775808 ≤ sgn n c ∧ sgn n c ≤ 9223372036854775807) ∧
    (((bits == 32) = true ∧ (sgn n c < -2147483648 ∨ 2147483647 < sgn n c)) → pS bits n c = none) ∧
    (((bits == 32) = false ∨ (-2147483648 ≤ sgn n c ∧ sgn n c ≤ 2147483647)) → pS bits n c = some (sgn n c)) := by
  obtain ⟨h1, h2, h3, h4, b', h5, h6⟩ := grp_some _ _ _ _ h
  have hr : -9223372036854775808 ≤ sgn n c ∧ sgn n c ≤ 9223372036854775807 := by
    by_cases h9 : c ≤ 9
    · refine sgn_range ?_ h2 h9
      have := gv_lt (l.take c)
      rw [List.length_take, Nat.min_eq_left h4, ← h1] at this
      exact this
    · obtain rfl : c = 10 := by omega
      rw [hb] at h5
      cases h5
      exact ((tenth h1 hb h6).1 (h10 rfl)).2
  refine ⟨hr, ?_, ?_⟩
  · rintro ⟨hq, hx⟩
    obtain rfl : bits = 32 := by simpa using hq
    unfold pS pS32
    rw [if_pos rfl, if_neg (by omega)]
  · intro hx
    unfold pS
    rcases hbK with ⟨rfl, rfl⟩ | ⟨rfl, rfl⟩
    · rw [if_pos rfl]
      unfold pS32
      rw [if_pos (by rcases hx with hx | hx; · cases hx
                     exact hx)]
    · rw [if_neg (by decide)]
      unfold pS64
      rw [if_pos hr]
theorem pS_no {bits : Int} {K : Nat} (hbK : (bits = 32 ∧ K = 5) ∨ (bits = 64 ∧ K = 10)) {l : List UInt8} {n c : Nat} {b : UInt8} (h : grp K l = some (n, c)) (hb : l[c - 1]? = some b) (h10 : c = 10) (hn : ¬ (b.toNat = 0 ∨ b.toNat = 127)) : pS bits n c = none := by
  obtain ⟨h1, h2, h3, h4, b', h5, h6⟩ := grp_some _ _ _ _ h
  subst h10
  rw [hb] at h5
  cases h5
  obtain ⟨rfl, rfl⟩ : bits = 64 ∧ K = 10 := by omega
  unfold pS
  rw [if_neg (by decide)]
  unfold pS64
  rw [if_neg ((tenth h1 hb h6).2 hn)]
set_option maxRecDepth 100000 in
set_option maxHeartbeats 4000000 in
theorem rS_any (s : ByteArray) (hs : s.size ≤ 262144) (a : Nat) (ha : a ≤ s.size) (b : Int) (K : Nat) (hbK : (b = 32 ∧ K = 5) ∨ (b = 64 ∧ K = 10)) (w : World) :
    Calls Tryz.prog 199 #[.string s, .int .i64 (a : Int), .int .i64 b] w fun e w' => SOut (pS b) K (from_ s a) a e ∧ w' = w := by
  have hLl := from_len s a
  have hLk := Lib.hid (fun (k : Nat) (h : a + k < s.size) => (by rw [from_at]; exact str_get h : (from_ s a)[k]? = some s[a + k]))
  unfold SOut
  obtain ⟨L, hL⟩ : ∃ L, L = from_ s a := ⟨_, rfl⟩
  rw [← hL] at hLl hLk ⊢
  have hgc : (grpC K (from_ s a)) = grpC K L := by rw [hL]
  clear hL
  replace hLl := Lib.hid hLl
  replace hbK := Lib.hid hbK
  go_enter Tryz.func199, Tryz.ntmps199
  go_wp2_with fail
  refine (rasked_any s a ha b (by have := hbK.out; omega) w).mono ?_
  rintro e' w' ⟨rfl, rfl⟩
  go_wp2_with fail
  refine (rgroups_any s hs a ha b K hbK.out w').mono ?_
  rintro e' w2 ⟨rfl, rfl⟩
  rw [hgc]
  cases hg : grp K L with
  | none =>
    have hc : grpC K L = 0 := by unfold grpC; rw [hg]
    rw [hc]
    replace hg := Lib.hid hg
    go_wp2_with fail
    refine bodyPost_ret (v := .tuple #[.int .i64 0, .int .i64 0, .int .i64 10]) (by simp [results, Tryz.results199, go_sem]) rfl ⟨.inr ⟨fun n c h => (by rw [hg.out] at h; cases h), rfl⟩, rfl⟩
  | some q =>
    obtain ⟨n, c⟩ := q
    have hc : grpC K L = c := by unfold grpC; rw [hg]
    rw [hc]
    obtain ⟨hn1, hc1, hcK, hcl, b9, hb9, hb128⟩ := grp_some _ _ _ _ hg
    have hK10 : K ≤ 10 := by have := hbK.out; omega
    have hsz := hLl.out
    have hcs : a + c - 1 < s.size := by omega
    have hbe : b9 = s[a + c - 1] := by
      have h1 := hLk.out (c - 1) (by omega)
      rw [hb9] at h1
      have h2 := Option.some.inj h1
      have h3 : ∀ (i j : Nat) (hi : i < s.size) (hj : j < s.size), i = j → s[i] = s[j] := fun i j hi hj e => by subst e; rfl
      exact h2.trans (h3 _ _ _ _ (by omega))
    have hq0 : ((c : Int) == 0) = false := beq_eq_false_iff_ne.2 (by omega)
    -- the tenth group
    by_cases hbad : c = 10 ∧ ¬ (b9.toNat = 0 ∨ b9.toNat = 127)
    · have hno := pS_no hbK.out hg hb9 hbad.1 hbad.2
      obtain ⟨rfl, hnb⟩ := hbad
      have hw9 : IntKind.i64.wrap ((a : Int) + 9) = ((a + 9 : Nat) : Int) := (wid64 _ (by omega) (by omega)).trans (by omega)
      have hk9 : a + 9 < s.size := by omega
      have hbe : b9 = s[a + 9] := hbe
      have e1 : ((s[a + 9].toNat : Int) != 0) = true := by rw [hbe] at hnb; simp only [bne_iff_ne, ne_eq]; intro e; exact hnb (.inl (by exact_mod_cast e))
      have e2 : ((s[a + 9].toNat : Int) != 127) = true := by rw [hbe] at hnb; simp only [bne_iff_ne, ne_eq]; intro e; exact hnb (.inr (by exact_mod_cast e))
      replace hg := Lib.hid hg
      replace hno := Lib.hid hno
      replace hbe := Lib.hid hbe
      replace hb9 := Lib.hid hb9
      replace hn1 := Lib.hid hn1
      clear hnb hc
      go_wp2_with fail
      refine bodyPost_ret (v := .tuple #[.int .i64 0, .int .i64 0, .int .i64 10]) (by simp [results, Tryz.results199, go_sem]) rfl ⟨.inr ⟨fun n' c' h => (by rw [hg.out] at h; cases h; exact hno.out), rfl⟩, rfl⟩
    · have h10 : c = 10 → b9.toNat = 0 ∨ b9.toNat = 127 := fun e => Classical.byContradiction fun h => hbad ⟨e, h⟩
      obtain ⟨hrng, hout, hin⟩ := pS_ok hbK.out hg hb9 h10
      have hsg := hv_sgn hg hb9
      have hsm := hv_small hK10 hg hb9 h10
      -- the guard of the tenth group
      have hgd : ((c : Int) == 10) = false ∨ (((c : Int) == 10) = true ∧ c = 10) := by
        by_cases e : c = 10
        · exact .inr ⟨by rw [e]; rfl, e⟩
        · exact .inl (beq_eq_false_iff_ne.2 (by omega))
      have hw1 : IntKind.i64.wrap ((a : Int) + (c : Int)) = ((a + c : Nat) : Int) := (wid64 _ (by omega) (by omega)).trans (by omega)
      have hw2 : IntKind.i64.wrap (((a + c : Nat) : Int) - 1) = ((a + (c - 1) : Nat) : Int) := (wid64 _ (by omega) (by omega)).trans (by omega)
      have hw3 : IntKind.i64.wrap ((c : Int) - 1) = (c : Int) - 1 := wid64s _ (by omega) (by omega)
      have h64 : (bits BinOp.and .u8 ((s[a + c - 1].toNat : Nat) : Int) 64 != 0) = decide (64 ≤ s[a + c - 1].toNat) := by
        rw [and_64, Nat.mod_eq_of_lt (by rw [← hbe]; exact hb128)]
      obtain ⟨V, hV⟩ : ∃ V : Nat → Int, V = fun j => hv (tS b9) ((L.take c).drop j) := ⟨_, rfl⟩
      have hV0 : V 0 = sgn n c := by rw [hV]; exact hsg
      have hVc : V c = tS b9 := by
        rw [hV]
        show hv _ ((L.take c).drop c) = _
        rw [List.drop_eq_nil_of_le (by rw [List.length_take]; omega)]
        rfl
      have hVs : ∀ j, 1 ≤ j → -72057594037927936 ≤ V j ∧ V j < 72057594037927936 := fun j hj => by rw [hV]; exact hsm j hj
      have hVn : ∀ (j : Nat) (hj : a + j < s.size), j < c → V j = 128 * V (j + 1) + ((s[a + j].toNat % 128 : Nat) : Int) := fun j hj hjc => by
        rw [hV]
        have hgt : (L.take c)[j]? = some s[a + j] := by rw [List.getElem?_take_of_lt hjc]; exact hLk.out j hj
        obtain ⟨hl, he⟩ := List.getElem?_eq_some_iff.1 hgt
        show hv _ ((L.take c).drop j) = _
        rw [List.drop_eq_getElem_cons hl, hv, he]
      have hk9 : c = 10 → ∃ h9 : a + 9 < s.size, s[a + 9] = b9 := fun e => by
        subst e
        exact ⟨by omega, hbe.symm⟩
      have hgs : ((c : Int) == 10) = false ∨ (((c : Int) == 10) = true ∧ ∃ h9 : a + 9 < s.size, (((s[a + 9].toNat : Int) != 0) = false)) ∨ (((c : Int) == 10) = true ∧ ∃ h9 : a + 9 < s.size, (((s[a + 9].toNat : Int) != 0) = true) ∧ (((s[a + 9].toNat : Int) != 127) = false)) := by
        rcases hgd with h | ⟨h, e⟩
        · exact .inl h
        · right
          obtain ⟨h9, e9⟩ := hk9 e
          rcases h10 e with e0 | e0
          · exact .inl ⟨h, h9, by rw [e9, e0]; rfl⟩
          · exact .inr ⟨h, h9, by rw [e9, e0]; rfl, by rw [e9, e0]; rfl⟩
      have hw9 : IntKind.i64.wrap ((a : Int) + 9) = ((a + 9 : Nat) : Int) := (wid64 _ (by omega) (by omega)).trans (by omega)
      have hsgn : (64 ≤ s[a + c - 1].toNat ∧ V c = -1) ∨ (¬ 64 ≤ s[a + c - 1].toNat ∧ V c = 0) := by
        rw [hVc, ← hbe]
        unfold tS
        by_cases h : 64 ≤ b9.toNat
        · exact .inl ⟨h, if_pos h⟩
        · exact .inr ⟨h, if_neg h⟩
      have hb64 : ((bits BinOp.and .u8 ((s[a + c - 1].toNat : Nat) : Int) 64 != 0) = true ∧ V c = -1) ∨ ((bits BinOp.and .u8 ((s[a + c - 1].toNat : Nat) : Int) 64 != 0) = false ∧ V c = 0) := by
        rw [h64]
        rcases hsgn with ⟨h, k⟩ | ⟨h, k⟩
        · exact .inl ⟨decide_eq_true h, k⟩
        · exact .inr ⟨decide_eq_false h, k⟩
      clear hV hsg hsm hk9 hgd h64 hsgn hVc hn1 hb9 hbad h10 hc hgc
      replace hg := Lib.hid hg
      replace hbe := Lib.hid hbe
      replace hVs := Lib.hid hVs
      replace hVn := Lib.hid hVn
      replace hV0 := Lib.hid hV0
      replace hin := Lib.hid hin
      replace hout := Lib.hid hout
      replace hrng := Lib.hid hrng
      replace hb64 := Lib.hid hb64
      rcases hgs with k1 | ⟨k1, h9, k2⟩ | ⟨k1, h9, k2, k3⟩
      all_goals
        rcases hb64.out with ⟨k4, hVc⟩ | ⟨k4, hVc⟩
        all_goals
          replace hVc := Lib.hid hVc
          go_wp2_with fail
          go_loopg [10, 11] c (fun k v10 v11 wr => v10 = .int .i64 (V k) ∧ v11 = .int .i64 ((k : Int) - 1) ∧ k ≤ c ∧ wr = w2)
          case atStart => exact ⟨by rw [hVc.out], rfl, Nat.le_refl _, rfl⟩
          case round =>
            obtain ⟨rfl, rfl, hkc, rfl⟩ := hrel
            cases gk with
            | zero =>
              have e1 : ((0 : Nat) : Int) - 1 = -1 := rfl
              rw [e1, hV0.out]
              obtain ⟨v, hv⟩ : ∃ v, v = sgn n c := ⟨_, rfl⟩
              have hin' := hin.out
              have hout' := hout.out
              rw [← hv] at hin' hout' ⊢
              have hcs4 : ((b == 32) = false) ∨ ((b == 32) = true ∧ v < -2147483648) ∨ ((b == 32) = true ∧ ¬ v < -2147483648 ∧ 2147483647 < v) ∨ ((b == 32) = true ∧ ¬ v < -2147483648 ∧ ¬ 2147483647 < v) := by
                cases b == 32
                · exact .inl rfl
                · right
                  by_cases h1 : v < -2147483648
                  · exact .inl ⟨rfl, h1⟩
                  · by_cases h2 : 2147483647 < v
                    · exact .inr (.inl ⟨rfl, h1, h2⟩)
                    · exact .inr (.inr ⟨rfl, h1, h2⟩)
              replace hv := Lib.hid hv
              rcases hcs4 with m1 | ⟨m1, m2⟩ | ⟨m1, m2, m3⟩ | ⟨m1, m2, m3⟩
              · have hok := Lib.hid (hin' (.inl m1))
                clear hin' hout'
                go_wp2_with fail
                refine bodyPost_ret (v := .tuple #[.int .i64 v, .int .i64 ((a : Int) + (c : Int)), .int .i64 0]) (by simp [results, Tryz.results199, go_sem]) rfl ⟨.inl ⟨n, c, v, hg.out, hok.out, by push_cast; rfl⟩, rfl⟩
              · have hno := Lib.hid (hout' ⟨m1, .inl m2⟩)
                clear hin' hout'
                go_wp2_with fail
                refine bodyPost_ret (v := .tuple #[.int .i64 0, .int .i64 0, .int .i64 10]) (by simp [results, Tryz.results199, go_sem]) rfl ⟨.inr ⟨fun n' c' h => (by rw [hg.out] at h; cases h; exact hno.out), rfl⟩, rfl⟩
              · have hno := Lib.hid (hout' ⟨m1, .inr m3⟩)
                clear hin' hout'
                go_wp2_with fail
                refine bodyPost_ret (v := .tuple #[.int .i64 0, .int .i64 0, .int .i64 10]) (by simp [results, Tryz.results199, go_sem]) rfl ⟨.inr ⟨fun n' c' h => (by rw [hg.out] at h; cases h; exact hno.out), rfl⟩, rfl⟩
              · have hok := Lib.hid (hin' (.inr ⟨by omega, by omega⟩))
                clear hin' hout'
                go_wp2_with fail
                refine bodyPost_ret (v := .tuple #[.int .i64 v, .int .i64 ((a : Int) + (c : Int)), .int .i64 0]) (by simp [results, Tryz.results199, go_sem]) rfl ⟨.inl ⟨n, c, hg.out, v, hok.out, by push_cast; rfl⟩, rfl⟩
            | succ k1 =>
              have e1 : ((k1 + 1 : Nat) : Int) - 1 = (k1 : Int) := by omega
              rw [e1]
              have hi0 : (0 : Int) ≤ (k1 : Int) := by omega
              have hwj : IntKind.i64.wrap ((a : Int) + (k1 : Int)) = ((a + k1 : Nat) : Int) := (wid64 _ (by omega) (by omega)).trans (by omega)
              have hwm : IntKind.i64.wrap ((k1 : Int) - 1) = (k1 : Int) - 1 := low_wrap k1 (by omega)
              have hks : a + k1 < s.size := by have := hLl.out; omega
              obtain ⟨N, hN⟩ : ∃ N, N = V (k1 + 1) := ⟨_, rfl⟩
              have hNb := hVs.out (k1 + 1) (by omega)
              have hVk := hVn.out k1 hks (by omega)
              rw [← hN] at hNb hVk ⊢
              have hor := or_sgn (b := s[a + k1]) hNb.1 hNb.2
              rw [← hVk] at hor
              have hx7 : wrap64 (bits BinOp.and .u8 ((s[a + k1].toNat : Nat) : Int) 127) = ((s[a + k1].toNat % 128 : Nat) : Int) := by
                rw [and_127]
                have := Nat.mod_lt s[a + k1].toNat (show 0 < 128 by decide)
                unfold wrap64
                omega
              rw [← hx7] at hor
              clear hx7
              have hsh : IntKind.i64.wrap (N * 128) = N * 128 := wid64s _ (by omega) (by omega)
              replace hor := Lib.hid hor
              replace hVk := Lib.hid hVk
              replace hN := Lib.hid hN
              clear hNb
              go_wp2_with fail
              go_roundg k1
              case measure => omega
              case rel => exact ⟨congrArg (Value.int .i64) hor.out, rfl, by omega, rfl⟩
end Go.Proofs.YtkbfjkbokifgkaaGreatDoor

namespace Go.Proofs.YtkbfjkbokifgkaaGreatDoor
open Go.RowKit
set_option linter.unusedVariables false
set_option linter.unusedSimpArgs false

theorem rNum_ok {g : Nat → Nat → Got Int} {r : RS} {x : Int} {b : Nat} (h0 : r.w = 0) (hg : g r.e r.a = .ok (x, b)) : rNum g r = (x, { r with a := b }) := by
  unfold rNum
  rw [if_neg (by simp [h0]), hg]
theorem rNum_err {g : Nat → Nat → Got Int} {r : RS} {n : Int} (h0 : r.w = 0) (hg : g r.e r.a = .error n) : rNum g r = (0, r.bad 50) := by
  unfold rNum
  rw [if_neg (by simp [h0]), hg]
theorem rU_x (s : ByteArray) (hs : s.size ≤ 262144) (e : Nat) (he : e ≤ s.size) (a : Nat) (ha : a ≤ e) (w : World) :
    Calls Tryz.prog 19 #[.string (s.extract 0 e), .int .i64 (a : Int), .int .i64 32] w fun e' w' => w' = w ∧ ∃ x y z, e' = .returned (.tuple #[.int .u64 x, .int .i64 y, .int .i64 z]) ∧ UOut pU 5 (win (strl s) a e) e a x y z := by
  refine (rU_any (s.extract 0 e) (by rw [ext_size he]; omega) a (by rw [ext_size he]; exact ha) w).mono ?_
  rintro e' w' ⟨⟨n, c, hg, h1, rfl⟩ | ⟨hn, rfl⟩, rfl⟩
  · rw [from_ext he] at hg
    have h2 := (grp_some _ _ _ _ hg)
    have h3 := win_len (strl s) a e
    exact ⟨rfl, _, _, _, rfl, .inl ⟨n, c, n, hg, h2.2.1, by omega, if_pos h1, rfl, rfl, rfl⟩⟩
  · rw [from_ext he] at hn
    exact ⟨rfl, _, _, _, rfl, .inr ⟨fun n c h => if_neg (hn n c h), rfl⟩⟩
theorem rS32_x (s : ByteArray) (hs : s.size ≤ 262144) (e : Nat) (he : e ≤ s.size) (a : Nat) (ha : a ≤ e) (w : World) :
    Calls Tryz.prog 199 #[.string (s.extract 0 e), .int .i64 (a : Int), .int .i64 32] w fun e' w' => w' = w ∧ ∃ x y z, e' = .returned (.tuple #[.int .i64 x, .int .i64 y, .int .i64 z]) ∧ UOut pS32 5 (win (strl s) a e) e a x y z := by
  refine (rS_any (s.extract 0 e) (by rw [ext_size he]; omega) a (by rw [ext_size he]; exact ha) 32 5 (.inl ⟨rfl, rfl⟩) w).mono ?_
  rintro e' w' ⟨⟨n, c, v, hg, h1, rfl⟩ | ⟨hn, rfl⟩, rfl⟩
  · rw [from_ext he] at hg
    have h2 := (grp_some _ _ _ _ hg)
    have h3 := win_len (strl s) a e
    exact ⟨rfl, _, _, _, rfl, .inl ⟨n, c, v, hg, h2.2.1, by omega, h1, rfl, rfl, rfl⟩⟩
  · rw [from_ext he] at hn
    exact ⟨rfl, _, _, _, rfl, .inr ⟨fun n c h => hn n c h, rfl⟩⟩
theorem rS64_x (s : ByteArray) (hs : s.size ≤ 262144) (e : Nat) (he : e ≤ s.size) (a : Nat) (ha : a ≤ e) (w : World) :
    Calls Tryz.prog 199 #[.string (s.extract 0 e), .int .i64 (a : Int), .int .i64 64] w fun e' w' => w' = w ∧ ∃ x y z, e' = .returned (.tuple #[.int .i64 x, .int .i64 y, .int .i64 z]) ∧ UOut pS64 10 (win (strl s) a e) e a x y z := by
  refine (rS_any (s.extract 0 e) (by rw [ext_size he]; omega) a (by rw [ext_size he]; exact ha) 64 10 (.inr ⟨rfl, rfl⟩) w).mono ?_
  rintro e' w' ⟨⟨n, c, v, hg, h1, rfl⟩ | ⟨hn, rfl⟩, rfl⟩
  · rw [from_ext he] at hg
    have h2 := (grp_some _ _ _ _ hg)
    have h3 := win_len (strl s) a e
    exact ⟨rfl, _, _, _, rfl, .inl ⟨n, c, v, hg, h2.2.1, by omega, h1, rfl, rfl, rfl⟩⟩
  · rw [from_ext he] at hn
    exact ⟨rfl, _, _, _, rfl, .inr ⟨fun n c h => hn n c h, rfl⟩⟩
set_option maxRecDepth 100000 in
set_option maxHeartbeats 4000000 in
theorem qu_any {w : World} {p : Nat} {s : ByteArray} {r : RS} (h : RrAt w p s r) (hs : s.size ≤ 262144) (ha : r.a ≤ r.e) (he : r.e ≤ s.size) :
    Calls Tryz.prog 81 #[.pointer (some ⟨p, 0, none⟩)] w (Rv VI p s (rNum (gU (strl s)) r) w) := by
  have c0 := h.c0
  have c1 := h.c1
  have c2 := h.c2
  have c4 := h.c4
  have t := Wr.refl (· = p) w
  by_cases hw : r.w = 0
  · have hq : (r.w != 0) = false := by rw [hw]; rfl
    replace hw := Lib.hid hw
    go_enter Tryz.func81, Tryz.ntmps81
    go_wp2_with fail
    clear c4
    go_region_held3 (fun w' => w'.cell? ⟨p, 0, none⟩ = some (.string s) ∧ w'.cell? ⟨p, 1, none⟩ = some (.int .i64 (r.a : Int)) ∧ w'.cell? ⟨p, 2, none⟩ = some (.int .i64 (r.e : Int))) (go_keep)
      (first | (go_at_call 19; refine (rU_x s hs r.e he r.a ha _).mono ?_; rintro e' w1 ⟨rfl, x, y, z, rfl, hU⟩; replace hU := Lib.hid hU))
    have h1 := h.drew
    have t1 := t.drew
    obtain ⟨w1, hw1⟩ : ∃ w1, w1 = w.drew := ⟨_, rfl⟩
    rw [← hw1] at h1 t1 ⊢
    clear hw1 c0 c1 c2 h t
    rcases hU.out with ⟨n, c, v, hgr, hc1, hce, hP, rfl, rfl, rfl⟩ | ⟨hno, rfl⟩
    · have hgg : gU (strl s) r.e r.a = .ok (x, r.a + c) := by
        unfold gU
        rw [hgr]
        unfold pU at hP
        split at hP
        · rename_i hin
          obtain rfl := Option.some.inj hP
          exact if_pos hin
        · simp at hP
      have hv : 0 ≤ x ∧ x < 4294967296 := by
        unfold pU at hP
        split at hP
        · simp only [Option.some.injEq] at hP
          omega
        · simp at hP
      have hwx : IntKind.i64.wrap x = x := wid64 _ (by omega) (by omega)
      have hN := Lib.hid (rNum_ok hw.out hgg)
      clear hU hP hgr hgg
      have f1 := h1.fr 1
      have c1 := h1.c1
      go_wp2_with fail
      refine bodyPost_ret (by simp [results, Tryz.results81, go_sem] <;> rfl) rfl ?_
      rw [hN.out]
      exact ⟨t1.set (S := (· = p)) rfl 1 _, _, rfl, rfl, h1.to1 (b := r.a + c) (by push_cast; rfl)⟩
    · have hgg : gU (strl s) r.e r.a = .error 50 := by
        unfold gU
        cases hq : grp 5 (win (strl s) r.a r.e) with
        | none => rfl
        | some q =>
          have := hno q.1 q.2 hq
          unfold pU at this
          split at this
          · simp at this
          · rename_i hin
            exact if_neg hin
      have hN := Lib.hid (rNum_err hw.out hgg)
      clear hU hgg hno
      go_wp2_with fail
      refine (qbad_any h1 50).mono ?_
      rintro e' w2 ⟨rfl, hW2, hR2⟩
      go_wp2_with fail
      refine bodyPost_ret (v := .int .i64 0) (by simp [results, Tryz.results81, go_sem]) rfl ?_
      rw [hN.out]
      exact ⟨t1.trans hW2, _, rfl, rfl, hR2⟩
  · have hB : rNum (gU (strl s)) r = (0, r) := by
      unfold rNum
      rw [if_pos hw]
    have hq : (r.w != 0) = true := by simp [hw]
    replace hB := Lib.hid hB
    replace hw := Lib.hid hw
    go_enter Tryz.func81, Tryz.ntmps81
    go_wp2_with fail
    refine bodyPost_ret (v := .int .i64 0) (by simp [results, Tryz.results81, go_sem]) rfl ?_
    rw [hB.out]
    exact ⟨t, _, rfl, rfl, h⟩
set_option maxRecDepth 100000 in
set_option maxHeartbeats 4000000 in
theorem qs32_any {w : World} {p : Nat} {s : ByteArray} {r : RS} (h : RrAt w p s r) (hs : s.size ≤ 262144) (ha : r.a ≤ r.e) (he : r.e ≤ s.size) :
    Calls Tryz.prog 193 #[.pointer (some ⟨p, 0, none⟩), .int .i64 32] w (Rv VI p s (rNum (gS32 (strl s)) r) w) := by
  have c0 := h.c0
  have c1 := h.c1
  have c2 := h.c2
  have c4 := h.c4
  have t := Wr.refl (· = p) w
  by_cases hw : r.w = 0
  · have hq : (r.w != 0) = false := by rw [hw]; rfl
    replace hw := Lib.hid hw
    go_enter Tryz.func193, Tryz.ntmps193
    go_wp2_with fail
    clear c4
    go_region_held3 (fun w' => w'.cell? ⟨p, 0, none⟩ = some (.string s) ∧ w'.cell? ⟨p, 1, none⟩ = some (.int .i64 (r.a : Int)) ∧ w'.cell? ⟨p, 2, none⟩ = some (.int .i64 (r.e : Int))) (go_keep)
      (first | (go_at_call 199; refine (rS32_x s hs r.e he r.a ha _).mono ?_; rintro e' w1 ⟨rfl, x, y, z, rfl, hU⟩; replace hU := Lib.hid hU))
    have h1 := h.drew
    have t1 := t.drew
    obtain ⟨w1, hw1⟩ : ∃ w1, w1 = w.drew := ⟨_, rfl⟩
    rw [← hw1] at h1 t1 ⊢
    clear hw1 c0 c1 c2 h t
    rcases hU.out with ⟨n, c, v, hgr, hc1, hce, hP, rfl, rfl, rfl⟩ | ⟨hno, rfl⟩
    · have hgg : gS32 (strl s) r.e r.a = .ok (x, r.a + c) := by
        unfold gS32
        rw [hgr]
        unfold pS32 at hP
        split at hP
        · rename_i hin
          obtain rfl := Option.some.inj hP
          exact if_pos hin
        · simp at hP
      have hN := Lib.hid (rNum_ok hw.out hgg)
      clear hU hP hgr hgg
      have f1 := h1.fr 1
      have c1 := h1.c1
      go_wp2_with fail
      refine bodyPost_ret (by simp [results, Tryz.results193, go_sem] <;> rfl) rfl ?_
      rw [hN.out]
      exact ⟨t1.set (S := (· = p)) rfl 1 _, _, rfl, rfl, h1.to1 (b := r.a + c) (by push_cast; rfl)⟩
    · have hgg : gS32 (strl s) r.e r.a = .error 50 := by
        unfold gS32
        cases hq : grp 5 (win (strl s) r.a r.e) with
        | none => rfl
        | some q =>
          have := hno q.1 q.2 hq
          unfold pS32 at this
          split at this
          · simp at this
          · rename_i hin
            exact if_neg hin
      have hN := Lib.hid (rNum_err hw.out hgg)
      clear hU hgg hno
      go_wp2_with fail
      refine (qbad_any h1 50).mono ?_
      rintro e' w2 ⟨rfl, hW2, hR2⟩
      go_wp2_with fail
      refine bodyPost_ret (v := .int .i64 0) (by simp [results, Tryz.results193, go_sem]) rfl ?_
      rw [hN.out]
      exact ⟨t1.trans hW2, _, rfl, rfl, hR2⟩
  · have hB : rNum (gS32 (strl s)) r = (0, r) := by
      unfold rNum
      rw [if_pos hw]
    have hq : (r.w != 0) = true := by simp [hw]
    replace hB := Lib.hid hB
    replace hw := Lib.hid hw
    go_enter Tryz.func193, Tryz.ntmps193
    go_wp2_with fail
    refine bodyPost_ret (v := .int .i64 0) (by simp [results, Tryz.results193, go_sem]) rfl ?_
    rw [hB.out]
    exact ⟨t, _, rfl, rfl, h⟩
set_option maxRecDepth 100000 in
set_option maxHeartbeats 4000000 in
theorem qs64_any {w : World} {p : Nat} {s : ByteArray} {r : RS} (h : RrAt w p s r) (hs : s.size ≤ 262144) (ha : r.a ≤ r.e) (he : r.e ≤ s.size) :
    Calls Tryz.prog 193 #[.pointer (some ⟨p, 0, none⟩), .int .i64 64] w (Rv VI p s (rNum (gS64 (strl s)) r) w) := by
  have c0 := h.c0
  have c1 := h.c1
  have c2 := h.c2
  have c4 := h.c4
  have t := Wr.refl (· = p) w
  by_cases hw : r.w = 0
  · have hq : (r.w != 0) = false := by rw [hw]; rfl
    replace hw := Lib.hid hw
    go_enter Tryz.func193, Tryz.ntmps193
    go_wp2_with fail
    clear c4
    go_region_held3 (fun w' => w'.cell? ⟨p, 0, none⟩ = some (.string s) ∧ w'.cell? ⟨p, 1, none⟩ = some (.int .i64 (r.a : Int)) ∧ w'.cell? ⟨p, 2, none⟩ = some (.int .i64 (r.e : Int))) (go_keep)
      (first | (go_at_call 199; refine (rS64_x s hs r.e he r.a ha _).mono ?_; rintro e' w1 ⟨rfl, x, y, z, rfl, hU⟩; replace hU := Lib.hid hU))
    have h1 := h.drew
    have t1 := t.drew
    obtain ⟨w1, hw1⟩ : ∃ w1, w1 = w.drew := ⟨_, rfl⟩
    rw [← hw1] at h1 t1 ⊢
    clear hw1 c0 c1 c2 h t
    rcases hU.out with ⟨n, c, v, hgr, hc1, hce, hP, rfl, rfl, rfl⟩ | ⟨hno, rfl⟩
    · have hgg : gS64 (strl s) r.e r.a = .ok (x, r.a + c) := by
        unfold gS64
        rw [hgr]
        unfold pS64 at hP
        split at hP
        · rename_i hin
          obtain rfl := Option.some.inj hP
          exact if_pos hin
        · simp at hP
      have hN := Lib.hid (rNum_ok hw.out hgg)
      clear hU hP hgr hgg
      have f1 := h1.fr 1
      have c1 := h1.c1
      go_wp2_with fail
      refine bodyPost_ret (by simp [results, Tryz.results193, go_sem] <;> rfl) rfl ?_
      rw [hN.out]
      exact ⟨t1.set (S := (· = p)) rfl 1 _, _, rfl, rfl, h1.to1 (b := r.a + c) (by push_cast; rfl)⟩
    · have hgg : gS64 (strl s) r.e r.a = .error 50 := by
        unfold gS64
        cases hq : grp 10 (win (strl s) r.a r.e) with
        | none => rfl
        | some q =>
          have := hno q.1 q.2 hq
          unfold pS64 at this
          split at this
          · simp at this
          · rename_i hin
            exact if_neg hin
      have hN := Lib.hid (rNum_err hw.out hgg)
      clear hU hgg hno
      go_wp2_with fail
      refine (qbad_any h1 50).mono ?_
      rintro e' w2 ⟨rfl, hW2, hR2⟩
      go_wp2_with fail
      refine bodyPost_ret (v := .int .i64 0) (by simp [results, Tryz.results193, go_sem]) rfl ?_
      rw [hN.out]
      exact ⟨t1.trans hW2, _, rfl, rfl, hR2⟩
  · have hB : rNum (gS64 (strl s)) r = (0, r) := by
      unfold rNum
      rw [if_pos hw]
    have hq : (r.w != 0) = true := by simp [hw]
    replace hB := Lib.hid hB
    replace hw := Lib.hid hw
    go_enter Tryz.func193, Tryz.ntmps193
    go_wp2_with fail
    refine bodyPost_ret (v := .int .i64 0) (by simp [results, Tryz.results193, go_sem]) rfl ?_
    rw [hB.out]
    exact ⟨t, _, rfl, rfl, h⟩
end Go.Proofs.YtkbfjkbokifgkaaGreatDoor

namespace Go.Proofs.YtkbfjkbokifgkaaGreatDoor
open Go.RowKit
set_option linter.unusedVariables false
set_option linter.unusedSimpArgs false

theorem rU_in (s : List UInt8) (r : RS) : 0 ≤ (rU s r).1 ∧ (rU s r).1 < 4294967296 := by
  unfold rU rNum
  split
  · exact ⟨Int.le_refl _, show (0 : Int) < 4294967296 by decide⟩
  · split
    · rename_i q hq
      unfold gU at hq
      cases hg : grp 5 (win s r.a r.e) with
      | none => rw [hg] at hq; cases hq
      | some z =>
        rw [hg] at hq
        simp only at hq
        split at hq
        · cases hq
          simp only
          omega
        · cases hq
    · exact ⟨Int.le_refl _, show (0 : Int) < 4294967296 by decide⟩
theorem rCount_in (s : List UInt8) (r : RS) : 0 ≤ (rCount s r).1 ∧ (rCount s r).1 ≤ 4096 := by
  have := rU_in s r
  unfold rCount
  split
  · exact ⟨Int.le_refl _, show (0 : Int) ≤ 4096 by decide⟩
  · omega
theorem rNum_le {g : Nat → Nat → Got Int} (hg : InE g) (r : RS) (h : r.a ≤ r.e) : (rNum g r).2.a ≤ (rNum g r).2.e := by
  unfold rNum
  split
  · exact h
  · split
    · rename_i q hq
      exact (hg _ _ q.1 q.2 hq).2 h
    · unfold RS.bad
      split <;> exact h
theorem rU_le (s : List UInt8) (r : RS) (h : r.a ≤ r.e) : (rU s r).2.a ≤ (rU s r).2.e := rNum_le (inU s) r h
set_option maxRecDepth 100000 in
set_option maxHeartbeats 4000000 in
theorem qcount_any {w : World} {p : Nat} {s : ByteArray} {r : RS} (h : RrAt w p s r) (hs : s.size ≤ 262144) (ha : r.a ≤ r.e) (he : r.e ≤ s.size) :
    Calls Tryz.prog 83 #[.pointer (some ⟨p, 0, none⟩)] w (Rv VI p s (rCount (strl s) r) w) := by
  obtain ⟨X, hX⟩ : ∃ X, X = rCount (strl s) r := ⟨_, rfl⟩
  rw [← hX]
  unfold rCount at hX
  replace hX := Lib.hid hX
  go_enter Tryz.func83, Tryz.ntmps83
  go_wp2_with fail
  refine (qu_any h hs ha he).mono ?_
  rintro e' w1 ⟨hW, v', rfl, rfl, hR⟩
  have hX2 := hX.out
  change RrAt w1 p s (rU (strl s) r).2 at hR
  have hBv : rNum (gU (strl s)) r = rU (strl s) r := rfl
  rw [hBv]
  obtain ⟨B, hBB⟩ : ∃ B, B = rU (strl s) r := ⟨_, rfl⟩
  rw [← hBB] at hR hX2 ⊢
  clear hBB hBv hX
  by_cases hb : 4096 < B.1
  · rw [if_pos hb] at hX2
    replace hX2 := Lib.hid hX2
    go_wp2_with fail
    refine (qbad_any hR 3).mono ?_
    rintro e' w2 ⟨rfl, hW2, hR2⟩
    go_wp2_with fail
    refine bodyPost_ret (v := .int .i64 0) (by simp [results, Tryz.results83, go_sem]) rfl ?_
    rw [hX2.out]
    exact ⟨hW.trans hW2, _, rfl, rfl, hR2⟩
  · rw [if_neg hb] at hX2
    replace hX2 := Lib.hid hX2
    go_wp2_with fail
    refine bodyPost_ret (v := .int .i64 B.1) (by simp [results, Tryz.results83, go_sem]) rfl ?_
    rw [hX2.out]
    exact ⟨hW, _, rfl, rfl, hR⟩
set_option maxRecDepth 100000 in
set_option maxHeartbeats 4000000 in
theorem qtyp_any {w : World} {p : Nat} {s : ByteArray} {r : RS} (h : RrAt w p s r) (hs : s.size ≤ 262144) (he : r.e ≤ s.size) :
    Calls Tryz.prog 142 #[.pointer (some ⟨p, 0, none⟩)] w (Rv VI p s (rTyp (strl s) r) w) := by
  obtain ⟨X, hX⟩ : ∃ X, X = rTyp (strl s) r := ⟨_, rfl⟩
  rw [← hX]
  unfold rTyp at hX
  replace hX := Lib.hid hX
  go_enter Tryz.func142, Tryz.ntmps142
  go_wp2_with fail
  refine (qbyte_any h hs he).mono ?_
  rintro e' w1 ⟨hW, v', rfl, rfl, hR⟩
  have hX2 := hX.out
  obtain ⟨B, hBB⟩ : ∃ B, B = rByte (strl s) r := ⟨_, rfl⟩
  rw [← hBB] at hR hX2 ⊢
  clear hBB hX
  have c4 := hR.c4
  by_cases hw : B.2.w = 0
  · have hq : (B.2.w != 0) = false := by rw [hw]; rfl
    rw [if_neg (by simp [hw])] at hX2
    replace hw := Lib.hid hw
    by_cases hb : B.1 = 125 ∨ B.1 = 124
    · rw [if_pos hb] at hX2
      have hb' : ((B.1 == 125) = true) ∨ ((B.1 == 125) = false ∧ (B.1 == 124) = true) := by
        rcases hb with e | e
        · exact .inl (by rw [e]; rfl)
        · exact .inr ⟨by rw [e]; rfl, by rw [e]; rfl⟩
      replace hb := Lib.hid hb
      rcases hb' with k1 | ⟨k1, k2⟩
      all_goals
        replace hX2 := Lib.hid hX2
        go_wp2_with fail
        refine (qbad_any hR 51).mono ?_
        rintro e' w2 ⟨rfl, hW2, hR2⟩
        go_wp2_with fail
        refine bodyPost_ret (v := .int .i64 B.1) (by simp [results, Tryz.results142, go_sem]) rfl ?_
        rw [hX2.out]
        exact ⟨hW.trans hW2, _, rfl, rfl, hR2⟩
    · rw [if_neg hb] at hX2
      have k1 : (B.1 == 125) = false := beq_eq_false_iff_ne.2 (fun e => hb (.inl e))
      have k2 : (B.1 == 124) = false := beq_eq_false_iff_ne.2 (fun e => hb (.inr e))
      replace hb := Lib.hid hb
      by_cases hc : B.1 ≠ 127 ∧ B.1 ≠ 126
      · rw [if_pos hc] at hX2
        have k3 : (B.1 != 127) = true := by simp [hc.1]
        have k4 : (B.1 != 126) = true := by simp [hc.2]
        replace hc := Lib.hid hc
        replace hX2 := Lib.hid hX2
        go_wp2_with fail
        refine (qbad_any hR 50).mono ?_
        rintro e' w2 ⟨rfl, hW2, hR2⟩
        go_wp2_with fail
        refine bodyPost_ret (v := .int .i64 B.1) (by simp [results, Tryz.results142, go_sem]) rfl ?_
        rw [hX2.out]
        exact ⟨hW.trans hW2, _, rfl, rfl, hR2⟩
      · rw [if_neg hc] at hX2
        have hb' : ((B.1 != 127) = false) ∨ ((B.1 != 127) = true ∧ (B.1 != 126) = false) := by
          by_cases e : B.1 = 127
          · exact .inl (by rw [e]; rfl)
          · have e2 : B.1 = 126 := Classical.byContradiction fun e2 => hc ⟨e, e2⟩
            exact .inr ⟨by rw [e2]; rfl, by rw [e2]; rfl⟩
        replace hc := Lib.hid hc
        rcases hb' with k3 | ⟨k3, k4⟩
        all_goals
          replace hX2 := Lib.hid hX2
          go_wp2_with fail
          refine bodyPost_ret (v := .int .i64 B.1) (by simp [results, Tryz.results142, go_sem]) rfl ?_
          rw [hX2.out]
          exact ⟨hW, _, rfl, rfl, hR⟩
  · have hq : (B.2.w != 0) = true := by simp [hw]
    rw [if_pos hw] at hX2
    replace hw := Lib.hid hw
    replace hX2 := Lib.hid hX2
    go_wp2_with fail
    refine bodyPost_ret (v := .int .i64 B.1) (by simp [results, Tryz.results142, go_sem]) rfl ?_
    rw [hX2.out]
    exact ⟨hW, _, rfl, rfl, hR⟩
set_option maxRecDepth 100000 in
set_option maxHeartbeats 4000000 in
theorem qresult_any {w : World} {p : Nat} {s : ByteArray} {r : RS} (h : RrAt w p s r) (hs : s.size ≤ 262144) (he : r.e ≤ s.size) :
    Calls Tryz.prog 192 #[.pointer (some ⟨p, 0, none⟩)] w (Rv VI p s (rResult (strl s) r) w) := by
  have c0 := h.c0
  have c1 := h.c1
  have c2 := h.c2
  have c4 := h.c4
  by_cases hw : r.w = 0
  · have hq : (r.w == 0) = true := by rw [hw]; rfl
    by_cases hlt : r.a < r.e
    · have has : r.a < s.size := by omega
      have hi : (r.a : Int) < (r.e : Int) := by omega
      have hi2 : (r.a : Int) < (s.size : Int) := by omega
      have hsg : (strl s)[r.a]?.getD 0 = s[r.a] := by rw [str_get has]; rfl
      by_cases h64 : s[r.a].toNat = 64
      · have hB : rResult (strl s) r = (0, { r with a := r.a + 1 }) := by
          unfold rResult
          rw [if_pos ⟨hw, hlt, hsg.trans (UInt8.toNat_inj.1 h64)⟩]
        have k1 : ((s[r.a].toNat : Int) == 64) = true := by rw [h64]; rfl
        have h1 : IntKind.i64.wrap ((r.a : Int) + 1) = ((r.a + 1 : Nat) : Int) := (wid64 _ (by omega) (by omega)).trans (by omega)
        replace hB := Lib.hid hB
        replace hw := Lib.hid hw
        replace h64 := Lib.hid h64
        replace hsg := Lib.hid hsg
        go_enter Tryz.func192, Tryz.ntmps192
        go_wp2_with fail
        go_quiet (fail)
        obtain ⟨w1, hw1⟩ : ∃ w1, w1 = w.drewN nq := ⟨_, rfl⟩
        have hd1 := h.drewN nq
        have td := (Wr.refl (· = p) w).drewN nq
        rw [← hw1] at hd1 td ⊢
        clear hw1 h c0 c1 c2 c4
        have c1 := hd1.c1
        have f1 := hd1.fr 1
        go_wp2_with fail
        refine bodyPost_ret (by simp [results, Tryz.results192, go_sem] <;> rfl) rfl ?_
        rw [hB.out]
        exact ⟨td.set (S := (· = p)) rfl 1 _, _, rfl, rfl, hd1.to1 (b := r.a + 1) (by push_cast; rfl)⟩
      · have hB : rResult (strl s) r = rTyp (strl s) r := by
          unfold rResult
          rw [if_neg (fun hh => h64 (by rw [← hsg, hh.2.2]; rfl))]
        have k1 : ((s[r.a].toNat : Int) == 64) = false := beq_eq_false_iff_ne.2 (by omega)
        replace hB := Lib.hid hB
        replace hw := Lib.hid hw
        replace h64 := Lib.hid h64
        replace hsg := Lib.hid hsg
        go_enter Tryz.func192, Tryz.ntmps192
        go_wp2_with fail
        go_quiet (fail)
        obtain ⟨w1, hw1⟩ : ∃ w1, w1 = w.drewN nq := ⟨_, rfl⟩
        have hd1 := h.drewN nq
        have td := (Wr.refl (· = p) w).drewN nq
        rw [← hw1] at hd1 td ⊢
        clear hw1 h c0 c1 c2 c4
        go_wp2_with fail
        refine (qtyp_any hd1 hs he).mono ?_
        rintro e' w' ⟨hW, v', rfl, rfl, hR⟩
        go_wp2_with fail
        refine bodyPost_ret (by simp [results, Tryz.results192, go_sem] <;> rfl) rfl ?_
        rw [hB.out]
        exact ⟨td.trans hW, _, rfl, rfl, hR⟩
    · have hB : rResult (strl s) r = rTyp (strl s) r := by
        unfold rResult
        rw [if_neg (fun hh => hlt hh.2.1)]
      have hi : ¬ (r.a : Int) < (r.e : Int) := by omega
      replace hB := Lib.hid hB
      replace hw := Lib.hid hw
      go_enter Tryz.func192, Tryz.ntmps192
      go_wp2_with fail
      go_quiet (fail)
      obtain ⟨w1, hw1⟩ : ∃ w1, w1 = w.drewN nq := ⟨_, rfl⟩
      have hd1 := h.drewN nq
      have td := (Wr.refl (· = p) w).drewN nq
      rw [← hw1] at hd1 td ⊢
      clear hw1 h c0 c1 c2 c4
      go_wp2_with fail
      refine (qtyp_any hd1 hs he).mono ?_
      rintro e' w' ⟨hW, v', rfl, rfl, hR⟩
      go_wp2_with fail
      refine bodyPost_ret (by simp [results, Tryz.results192, go_sem] <;> rfl) rfl ?_
      rw [hB.out]
      exact ⟨td.trans hW, _, rfl, rfl, hR⟩
  · have hB : rResult (strl s) r = rTyp (strl s) r := by
      unfold rResult
      rw [if_neg (fun hh => hw hh.1)]
    have hq : (r.w == 0) = false := beq_eq_false_iff_ne.2 hw
    replace hB := Lib.hid hB
    replace hw := Lib.hid hw
    go_enter Tryz.func192, Tryz.ntmps192
    go_wp2_with fail
    go_quiet (fail)
    obtain ⟨w1, hw1⟩ : ∃ w1, w1 = w.drewN nq := ⟨_, rfl⟩
    have hd1 := h.drewN nq
    have td := (Wr.refl (· = p) w).drewN nq
    rw [← hw1] at hd1 td ⊢
    clear hw1 h c0 c1 c2 c4
    go_wp2_with fail
    refine (qtyp_any hd1 hs he).mono ?_
    rintro e' w' ⟨hW, v', rfl, rfl, hR⟩
    go_wp2_with fail
    refine bodyPost_ret (by simp [results, Tryz.results192, go_sem] <;> rfl) rfl ?_
    rw [hB.out]
    exact ⟨td.trans hW, _, rfl, rfl, hR⟩
theorem rMany_len {α : Type} (f : RS → Rg α) : ∀ k r, (rMany f k r).1.length ≤ k
  | 0, r => by simp [rMany]
  | k + 1, r => by
    rw [rMany]
    split
    · simp
    · have := rMany_len f k (f r).2
      simp only [List.length_cons]
      omega
theorem rEach_len {α : Type} (s : List UInt8) (f : RS → Rg α) (r : RS) : (rEach s f r).1.length ≤ 4096 := by
  have h1 := rCount_in s r
  have h2 := rMany_len f (rCount s r).1.toNat (rCount s r).2
  unfold rEach
  omega
set_option maxRecDepth 100000 in
set_option maxHeartbeats 4000000 in
theorem qlist_any {w : World} {p : Nat} {s : ByteArray} {r : RS} (h : RrAt w p s r) (hs : s.size ≤ 262144) (ha : r.a ≤ r.e) (he : r.e ≤ s.size) :
    Calls Tryz.prog 150 #[.pointer (some ⟨p, 0, none⟩)] w fun e' w' => Wr (· = p) w w' ∧ RrAt w' p s (rEach (strl s) (rU (strl s)) r).2 ∧
      ∃ ao c, e' = .returned (.slice ao (rEach (strl s) (rU (strl s)) r).1.length c) ∧ w'.ownsRow w.heap.size 3 1 (.slice ao (rEach (strl s) (rU (strl s)) r).1.length c) (rEach (strl s) (rU (strl s)) r).1.length ((rEach (strl s) (rU (strl s)) r).1.map (Value.int .i64)) := by
  obtain ⟨i3, hi3, hz3, hs3, hb3⟩ := info_parts info3
  have hpw := h.lt
  have ham := (go_count (strl s) r)
  obtain ⟨X, hX⟩ : ∃ X, rEach (strl s) (rU (strl s)) r = X := ⟨_, rfl⟩
  have hX' : rMany (rU (strl s)) (rCount (strl s) r).1.toNat (rCount (strl s) r).2 = X := hX
  have hcin := rCount_in (strl s) r
  have hca : (rCount (strl s) r).2.a ≤ (rCount (strl s) r).2.e ∧ (rCount (strl s) r).2.e = r.e := by
    refine ⟨?_, ham.e⟩
    have := (rU_le (strl s) r ha)
    unfold rCount
    split
    · unfold RS.bad
      split <;> exact this
    · exact this
  rw [hX]
  clear hX ham
  go_enter Tryz.func150, Tryz.ntmps150
  go_wp2_with fail
  refine (qcount_any h hs ha he).mono ?_
  rintro e' w1 ⟨hW1, v', rfl, rfl, hR1⟩
  obtain ⟨n, hn⟩ : ∃ n : Nat, (n : Int) = (rCount (strl s) r).1 := ⟨(rCount (strl s) r).1.toNat, by omega⟩
  rw [← hn] at hX' hcin ⊢
  rw [Int.toNat_natCast] at hX'
  obtain ⟨r1, hr1⟩ : ∃ r1, r1 = (rCount (strl s) r).2 := ⟨_, rfl⟩
  rw [← hr1] at hX' hca hR1
  clear hr1 hn
  replace hX' := Lib.hid hX'
  replace hR1 := Lib.hid hR1
  replace hW1 := Lib.hid hW1
  clear h
  go_wp2_with fail
  go_loopg [3, 5] n (fun k v3 v5 wr => ∃ (xs : List Int) (ri : RS), v5 = .int .i64 (xs.length : Int) ∧ xs.length + k = n ∧ ri.a ≤ ri.e ∧ ri.e = r.e ∧ Hid (RrAt wr p s ri) ∧ Hid (Wr (· = p) w wr) ∧ Hid (wr.ownsRow w.heap.size 3 1 v3 xs.length (xs.map (Value.int .i64))) ∧ Hid ((xs ++ (rMany (rU (strl s)) k ri).1, (rMany (rU (strl s)) k ri).2) = X))
  case atStart => exact ⟨[], r1, rfl, by simp, hca.1, hca.2, hR1, hW1, Lib.hid (World.ownsRow_nil _ _ _ _), hX'⟩
  case round =>
    obtain ⟨xs, ri, rfl, hxk, hra, hre, hRi, hWi, hOi, hXi⟩ := hrel
    clear hR1 hW1 hX'
    have c4 := hRi.out.c4
    obtain ⟨ao, c, rfl⟩ := own_slice hOi.out
    cases gk with
    | zero =>
      have hlt : ¬ (xs.length : Int) < (n : Int) := by omega
      have hfin : (xs, ri) = X := by have := hXi.out; rw [rMany, List.append_nil] at this; exact this
      replace hfin := Lib.hid hfin
      go_wp2_with fail
      refine bodyPost_ret (by simp [results, Tryz.results150, go_sem] <;> rfl) rfl ?_
      rw [← hfin.out]
      exact ⟨hWi.out, hRi.out, _, _, rfl, hOi.out⟩
    | succ k1 =>
      have hlt : (xs.length : Int) < (n : Int) := by omega
      by_cases hw : ri.w = 0
      · have hq : (ri.w == 0) = true := by rw [hw]; rfl
        have hX2 : (xs ++ [(rU (strl s) ri).1] ++ (rMany (rU (strl s)) k1 (rU (strl s) ri).2).1, (rMany (rU (strl s)) k1 (rU (strl s) ri).2).2) = X := by
          have := hXi.out
          rw [rMany, if_neg (by simp [hw])] at this
          rw [List.append_assoc]
          exact this
        replace hw := Lib.hid hw
        replace hX2 := Lib.hid hX2
        have hmo := rU_le (strl s) ri hra
        have hme := (go_u (strl s) ri).e
        go_wp2_with fail
        refine (qu_any hRi.out hs hra (by omega)).mono ?_
        rintro e' w2 ⟨hW2, v', rfl, rfl, hR2⟩
        have hBB : ∃ B, B = rU (strl s) ri := ⟨_, rfl⟩
        change RrAt w2 p s (rU (strl s) ri).2 at hR2
        obtain ⟨B, hBB⟩ := hBB
        rw [← hBB] at hR2 hX2 hmo hme
        have hBv : rNum (gU (strl s)) ri = B := hBB.symm
        rw [hBv]
        clear hBB hBv
        have hO2 := own_same (w' := w2) hOi.out fun g hg => hW2.block g (hOi.out.lt g hg).2 (fun e => by have := (hOi.out.lt g hg).1; omega)
        have hBa : Below w2.heap.size w2 (w2.alloc (.cells #[.int .i64 B.1] 3)) := (Below.refl _ _).alloc (Nat.le_refl _) _
        have hO3 := own_below hO2 hBa
        have hR3 := hR2.below hBa
        have hW3 := (hWi.out.trans hW2).trans (Wr.of_below hBa)
        have hsz := hWi.out.size
        have hsz2 := hW2.size
        have hwn : IntKind.i64.wrap ((xs.length : Int) + 1) = ((xs.length + 1 : Nat) : Int) := (wid64 _ (by omega) (by omega)).trans (by omega)
        replace hO3 := Lib.hid hO3
        replace hR3 := Lib.hid hR3
        replace hW3 := Lib.hid hW3
        clear hO2 hR2 hW2 hBa c4
        go_wp2_with (first | (at_builtin; refine wpList_append_lies _ rfl _ _ _ rfl w.heap.size 3 i3 (.int .i64 0) 1 8 Tryz.underlying29 hi3 hz3 hs3 hb3 rfl (by decide) (.slice ao xs.length c) xs.length (xs.map (Value.int .i64)) (by rfl) hO3.out ⟨w2.heap.size, 0, none⟩ 1 1 [.int .i64 B.1] (by rfl) (by rfl) (World.news_of_block (cs := #[.int .i64 B.1]) (t := 3) (fr := (0, 0)) (heap_alloc_new _ _)) (by intro u hu; simp only [List.mem_cons, List.mem_nil_iff, or_false] at hu; subst hu; rfl) (by omega) (by unfold maxLen; omega) (by omega) (by simp; omega) (w2.heap.size + 1) (by simp) ?_; intro g cap w5 hown hgrow hat hlt5))
        have hrw : ∀ j, (Value.slice ao xs.length c).ownBlock = some j → w.heap.size ≤ j := fun j hj => (hO3.out.lt j hj).1
        have hR5 : RrAt w5 p s B.2 := ⟨(hgrow.block p hR3.out.lt (fun e => by have := hrw p e.symm; omega)).trans hR3.out.row⟩
        have hW5 : Wr (· = p) w w5 := hW3.out.newer (Wr.of_grown (S := fun j => (Value.slice ao xs.length c).ownBlock = some j) hgrow fun j e _ => e) (fun j e hj => by have := hrw j e; omega)
        have hO5 : w5.ownsRow w.heap.size 3 1 (.slice (some ⟨g, 0, none⟩) (xs.length + 1) cap) (xs ++ [B.1]).length ((xs ++ [B.1]).map (Value.int .i64)) := by
          rw [List.length_append, List.map_append]
          exact hown
        replace hR5 := Lib.hid hR5
        replace hW5 := Lib.hid hW5
        replace hO5 := Lib.hid hO5
        clear hown hgrow hat
        go_roundg k1
        case measure => omega
        case rel => exact ⟨xs ++ [B.1], B.2, by rw [List.length_append]; simp, by rw [List.length_append]; simp only [List.length_cons, List.length_nil]; omega, hmo, hme.trans hre, hR5, hW5, hO5, hX2⟩
      · have hq : (ri.w == 0) = false := beq_eq_false_iff_ne.2 hw
        have hfin : (xs, ri) = X := by have := hXi.out; rw [rMany, if_pos hw, List.append_nil] at this; exact this
        replace hfin := Lib.hid hfin
        replace hw := Lib.hid hw
        go_wp2_with fail
        refine bodyPost_ret (by simp [results, Tryz.results150, go_sem] <;> rfl) rfl ?_
        rw [← hfin.out]
        exact ⟨hWi.out, hRi.out, _, _, rfl, hOi.out⟩
end Go.Proofs.YtkbfjkbokifgkaaGreatDoor
