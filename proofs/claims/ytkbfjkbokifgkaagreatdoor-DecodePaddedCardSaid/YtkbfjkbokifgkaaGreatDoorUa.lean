/- The reference's groups of seven bits. -/
import Derived.Test.YtkbfjkbokifgkaaGreatDoorLe
import Derived.BigQuiet
import Derived.Deep.DeepCutAuto
import Derived.StillTailTactics
import Derived.Test.YtkbfjkbokifgkaaGreatDoorRr
import Derived.Test.YtkbfjkbokifgkaaGreatDoorPl
namespace Go.Proofs.YtkbfjkbokifgkaaGreatDoor
open Go.RowKit
set_option linter.unusedVariables false
set_option linter.unusedSimpArgs false
def grpC (K : Nat) (l : List UInt8) : Nat := match grp K l with | some (_, c) => c | none => 0
theorem rasked_any (s : ByteArray) (a : Nat) (ha : a ≤ s.size) (b : Int) (hb : b = 32 ∨ b = 64) (w : World) :
 Calls Tryz.prog 40 #[.string s, .int .i64 (a : Int), .int .i64 b] w fun e w' => e = .returned (.bool true) ∧ w' = w := by
 have h1 : (0 : Int) ≤ (a : Int) := (by omega)
 have h2 : (a : Int) ≤ (s.size : Int) := (by omega)
 have h3 : decide (a ≤ s.size) = true := decide_eq_true ha
 rcases hb with rfl | rfl
 all_goals
  go_enter Tryz.func40, Tryz.ntmps40; go_wp2_with fail; go_ret; exact ⟨rfl, rfl⟩
set_option maxRecDepth 100000 in
set_option maxHeartbeats 4000000 in
theorem rgroups_any (s : ByteArray) (hs : s.size ≤ 262144) (a : Nat) (ha : a ≤ s.size) (b : Int) (K : Nat) (hb : (b = 32 ∧ K = 5) ∨ (b = 64 ∧ K = 10)) (w : World) :
 Calls Tryz.prog 41 #[.string s, .int .i64 (a : Int), .int .i64 b] w fun e w' => e = .returned (.int .i64 (grpC K (from_ s a) : Int)) ∧ w' = w := by
 obtain ⟨L, hL⟩ : ∃ L, from_ s a = L := ⟨_, rfl⟩
 have hLl : L.length = s.size - a := (by rw [← hL]; exact from_len s a)
 have hLk := zh (fun (k : Nat) (h : a + k < s.size) => (by rw [← hL, from_at]; exact str_get h : L[k]? = some s[a + k])); rw [hL]; clear hL; obtain ⟨R, hR⟩ : ∃ R, R = grpC K L := ⟨_, rfl⟩
 rw [← hR]; have hR1 : grp K L = none → R = 0 := fun h => by rw [hR]; unfold grpC; rw [h]
 have hR2 : ∀ n c, grp K L = some (n, c) → R = c := fun n c h => by rw [hR]; unfold grpC; rw [h]
 replace hR1 := zh hR1; replace hR2 := zh hR2; clear hR; replace hLl := zh hLl; have hq1 : IntKind.i64.wrap (b + 6) = b + 6 := (by rcases hb with ⟨rfl, rfl⟩ | ⟨rfl, rfl⟩ <;> exact wid64 _ (by omega) (by omega))
 have hq2 : IntKind.i64.wrap (Int.tdiv (b + 6) 7) = (K : Int) := (by rcases hb with ⟨rfl, rfl⟩ | ⟨rfl, rfl⟩ <;> decide)
 have hK : K ≤ 10 := (by omega)
 clear hb; go_enter Tryz.func41, Tryz.ntmps41; go_wp2_with fail
 go_loopg [8] K (fun k v wr => ∃ j : Nat, v = .int .i64 j ∧ j + k = K ∧ a + j ≤ s.size ∧ Hid (∀ i b, i < j → L[i]? = some b → 128 ≤ b.toNat) ∧ wr = w)
 case atStart => exact ⟨0, rfl, by omega, ha, zh (fun i b h => by omega), rfl⟩
 case round =>
  obtain ⟨j, rfl, hjk, hj, hall, rfl⟩ := hrel
  have hjl : j ≤ L.length := by rw [hLl.out]; omega
  have hga := grp_at K L j (by omega) hall.out hjl; replace hga := zh hga; have hwj : IntKind.i64.wrap ((a : Int) + (j : Int)) = ((a + j : Nat) : Int) := (wid64 _ (by omega) (by omega)).trans (by omega); have hwn : IntKind.i64.wrap ((j : Int) + 1) = ((j + 1 : Nat) : Int) := (wid64 _ (by omega) (by omega)).trans (by omega)
  by_cases hjK : j < K
  · have hd1 : decide (j < K) = true := decide_eq_true hjK
    by_cases hlt : a + j < s.size
    · have hd2 : decide (a + j < s.size) = true := decide_eq_true hlt; have hb := hLk.out j hlt; obtain ⟨b, hbb⟩ : ∃ b, b = s[a + j] := ⟨_, rfl⟩
      rw [← hbb] at hb; replace hb := zh hb; replace hbb := zh hbb
      by_cases h128 : b.toNat < 128
      · have hg : R = j + 1 := hR2.out _ _ (hga.out.2 b hjK hb.out h128); replace hg := zh hg; have hd3 : (s[a + j].toNat : Int) < 128 := (by rw [← hbb.out]; omega)
        replace h128 := zh h128; clear hga; go_wp2_with fail; rw [hg.out]; go_ret; exact ⟨rfl, rfl⟩
      · obtain ⟨k1, rfl⟩ : ∃ k1, gk = k1 + 1 := ⟨gk - 1, by omega⟩
        have hd3 : ¬ (s[a + j].toNat : Int) < 128 := (by rw [← hbb.out]; omega)
        have hall2 : ∀ i c, i < j + 1 → L[i]? = some c → 128 ≤ c.toNat := by
         intro i c hi hc
         by_cases e : i = j
         · subst e; rw [hb.out] at hc; cases hc; omega
         · exact hall.out i c (by omega) hc
        replace hall2 := zh hall2; replace h128 := zh h128; clear hga; go_wp2_with fail
        go_roundg k1
        case measure => omega
        case rel => exact ⟨j + 1, rfl, by omega, by omega, hall2, rfl⟩
    · have hd2 : decide (a + j < s.size) = false := decide_eq_false hlt; have hg : R = 0 := hR1.out (hga.out.1 (.inr (by have := hLl.out; omega))); replace hg := zh hg; clear hga; go_wp2_with fail; rw [hg.out]; go_ret; exact ⟨rfl, rfl⟩
  · have hd1 : decide (j < K) = false := decide_eq_false hjK; have hg : R = 0 := hR1.out (hga.out.1 (.inl (by omega))); replace hg := zh hg; clear hga; go_wp2_with fail; rw [hg.out]; go_ret; exact ⟨rfl, rfl⟩
theorem grp_some : ∀ (K : Nat) (l : List UInt8) (n c : Nat), grp K l = some (n, c) → n = gv (l.take c) ∧ 1 ≤ c ∧ c ≤ K ∧ c ≤ l.length ∧ ∃ b, l[c - 1]? = some b ∧ b.toNat < 128
 | 0, l, n, c, h => by cases h
 | K + 1, [], n, c, h => by cases h
 | K + 1, b :: r, n, c, h => by
   unfold grp at h; split at h
   · rename_i hb; cases h; exact ⟨by simp [gv]; omega, by omega, by omega, by simp, b, rfl, hb⟩
   · rename_i hb; cases hq : grp K r with
     | none => rw [hq] at h; cases h
     | some q =>
       obtain ⟨n', c'⟩ := q; rw [hq] at h; cases h; obtain ⟨h1, h2, h3, h4, b', h5, h6⟩ := grp_some K r n' c' hq; refine ⟨?_, by omega, by omega, by simp; omega, b', ?_, h6⟩
       · have := b.toNat_lt; rw [List.take_succ_cons, gv, ← h1]; simp only; omega
       · have : c' + 1 - 1 = c' - 1 + 1 := (by omega)
         simp only [this, List.getElem?_cons_succ]; exact h5
theorem grp_32 {l : List UInt8} {n c : Nat} (h : grp 5 l = some (n, c)) : n < 34359738368 ∧ (c ≠ 5 → n < 4294967296) ∧ (∀ b, c = 5 → l[4]? = some b → (n < 4294967296 ↔ b.toNat ≤ 15)) := by
 obtain ⟨h1, h2, h3, h4, b, h5, h6⟩ := grp_some _ _ _ _ h; have hlt := gv_lt (l.take c); rw [List.length_take, Nat.min_eq_left h4, ← h1] at hlt; have hp : (2 : Nat) ^ (7 * c) ≤ 2 ^ 35 := Nat.pow_le_pow_right (by decide) (by omega); have e35 : (2 : Nat) ^ 35 = 34359738368 := (by decide)
 have e28 : (2 : Nat) ^ 28 = 268435456 := (by decide)
 refine ⟨by omega, fun hc => ?_, fun b' hc hb' => ?_⟩
 · have : (2 : Nat) ^ (7 * c) ≤ 2 ^ 28 := Nat.pow_le_pow_right (by decide) (by omega); omega
 · subst hc; rw [hb'] at h5; cases h5; have ht := take_snoc2 hb'; have hl4 : (l.take 4).length = 4 := (by rw [List.length_take]; omega)
   have hg := gv_snoc (l.take 4) b; have hlt4 := gv_lt (l.take 4); rw [hl4] at hg hlt4; rw [ht] at h1; have e : (2 : Nat) ^ (7 * 4) = 268435456 := (by decide)
   rw [e] at hg hlt4; rw [← h1] at hg; omega
theorem low_wrap (k : Nat) (h : k < 10) : IntKind.i64.wrap ((k : Int) - 1) = (k : Int) - 1 := by
 have h2 : ∀ r : Fin 10, IntKind.i64.wrap (((r.val : Nat) : Int) - 1) = ((r.val : Nat) : Int) - 1 := (by decide +kernel)
 exact h2 ⟨k, h⟩
theorem or_up {N : Nat} {b : UInt8} (h : N < 72057594037927936) : bits BinOp.or .u64 ((N : Int) * 128) (IntKind.u64.wrap (bits BinOp.and .u8 (b.toNat : Int) 127)) = ((b.toNat % 128 + 128 * N : Nat) : Int) := by
 have e : (N : Int) * 128 = ((N * 128 : Nat) : Int) := (by push_cast; rfl)
 have e2 : N * 128 ||| b.toNat % 128 = b.toNat % 128 + 128 * N := by have := or_low (n := b.toNat % 128) (x := N) (j := 7) (by omega); rw [show (2 : Nat) ^ 7 = 128 by decide] at this; rw [Nat.or_comm, this]; omega
 rw [and_127, e, wrap_u64_nat, Nat.mod_eq_of_lt (by omega), u64_or_nat _ _ (by omega) (by omega), e2]
def RU (s : ByteArray) (a : Nat) (e : Ending) : Prop :=
 (∃ n c, grp 5 (from_ s a) = some (n, c) ∧ n < 4294967296 ∧ e = .returned (.tuple #[.int .u64 (n : Int), .int .i64 ((a + c : Nat) : Int), .int .i64 0])) ∨
 ((∀ n c, grp 5 (from_ s a) = some (n, c) → ¬ n < 4294967296) ∧ e = .returned (.tuple #[.int .u64 0, .int .i64 0, .int .i64 10]))
set_option maxRecDepth 100000 in
set_option maxHeartbeats 4000000 in
theorem rU_any (s : ByteArray) (hs : s.size ≤ 262144) (a : Nat) (ha : a ≤ s.size) (w : World) :
 Calls Tryz.prog 19 #[.string s, .int .i64 (a : Int), .int .i64 32] w fun e w' => RU s a e ∧ w' = w := by
 have hLl := from_len s a; have hLk := zh (fun (k : Nat) (h : a + k < s.size) => (by rw [from_at]; exact str_get h : (from_ s a)[k]? = some s[a + k])); unfold RU; obtain ⟨L, hL⟩ : ∃ L, L = from_ s a := ⟨_, rfl⟩
 rw [← hL] at hLl hLk ⊢; have hgc : (grpC 5 (from_ s a)) = grpC 5 L := (by rw [hL])
 clear hL; replace hLl := zh hLl; go_enter Tryz.func19, Tryz.ntmps19; go_wp2_with fail; refine (rasked_any s a ha 32 (.inl rfl) w).mono ?_; rintro e' w' ⟨rfl, rfl⟩; go_wp2_with fail; refine (rgroups_any s hs a ha 32 5 (.inl ⟨rfl, rfl⟩) w').mono ?_; rintro e' w2 ⟨rfl, rfl⟩; rw [hgc]; cases hg : grp 5 L with
 | none =>
   have hc : grpC 5 L = 0 := (by unfold grpC; rw [hg])
   rw [hc]; go_wp2_with fail; refine bodyPost_ret (v := .tuple #[.int .u64 0, .int .i64 0, .int .i64 10]) (by simp [results, Tryz.results19, go_sem]) rfl ⟨.inr ⟨fun n c h => (by rw [hg] at h; cases h), rfl⟩, rfl⟩
 | some q =>
   obtain ⟨n, c⟩ := q; have hc : grpC 5 L = c := (by unfold grpC; rw [hg])
   rw [hc]; obtain ⟨hn1, hc1, hc5, hcl, -⟩ := grp_some _ _ _ _ hg; obtain ⟨h35, hne, heq⟩ := grp_32 hg; have hq0 : ((c : Int) == 0) = false := beq_eq_false_iff_ne.2 (by omega); have hq10 : ((c : Int) == 10) = false := beq_eq_false_iff_ne.2 (by omega); have hc0 := hLl.out
   by_cases h5 : c = 5
   · subst h5; clear hq0 hq10; have hw4 : IntKind.i64.wrap ((a : Int) + 4) = ((a + 4 : Nat) : Int) := (wid64 _ (by omega) (by omega)).trans (by omega); have hk4 : a + 4 < s.size := (by omega)
     have hx := heq _ rfl (hLk.out 4 hk4)
     by_cases h15 : s[a + 4].toNat ≤ 15
     · have h15' : ¬ (15 : Int) < (s[a + 4].toNat : Int) := (by omega)
       have hn32 : n < 4294967296 := hx.2 h15; replace hn1 := zh hn1; replace hg := zh hg; clear hx heq hne; go_wp2_with fail
       go_loopg [10, 11] 5 (fun k v10 v11 wr => v10 = .int .u64 ((gv ((L.take 5).drop k) : Nat) : Int) ∧ v11 = .int .i64 ((k : Int) - 1) ∧ k ≤ 5 ∧ wr = w2)
       case atStart => exact ⟨by rw [List.drop_eq_nil_of_le (by rw [List.length_take]; omega)]; rfl, rfl, Nat.le_refl _, rfl⟩
       case round =>
        obtain ⟨rfl, rfl, hkc, rfl⟩ := hrel; cases gk with
        | zero => have e1 : ((0 : Nat) : Int) - 1 = -1 := rfl; rw [e1, List.drop_zero, ← hn1.out]; go_wp2_with fail; refine bodyPost_ret (v := .tuple #[.int .u64 (n : Int), .int .i64 ((a : Int) + 5), .int .i64 0]) (by simp [results, Tryz.results19, go_sem]) rfl ⟨.inl ⟨n, 5, hg.out, hn32, by push_cast; rfl⟩, rfl⟩
        | succ k1 =>
          have e1 : ((k1 + 1 : Nat) : Int) - 1 = (k1 : Int) := (by omega)
          rw [e1]; have hi0 : (0 : Int) ≤ (k1 : Int) := (by omega)
          have hwj : IntKind.i64.wrap ((a : Int) + (k1 : Int)) = ((a + k1 : Nat) : Int) := (wid64 _ (by omega) (by omega)).trans (by omega); have hwm : IntKind.i64.wrap ((k1 : Int) - 1) = (k1 : Int) - 1 := low_wrap k1 (by omega); have hks : a + k1 < s.size := (by have := hLl.out; omega)
          obtain ⟨N, hN⟩ : ∃ N, N = gv ((L.take 5).drop (k1 + 1)) := ⟨_, rfl⟩
          rw [← hN]; replace hN := zh hN; have hb := hLk.out k1 hks; have hgt : (L.take 5)[k1]? = some s[a + k1] := (by rw [List.getElem?_take_of_lt (by omega)]; exact hb)
          have hgd : gv ((L.take 5).drop k1) = s[a + k1].toNat % 128 + 128 * N := by obtain ⟨hl, he⟩ := List.getElem?_eq_some_iff.1 hgt; rw [List.drop_eq_getElem_cons hl, gv, he, hN.out]
          have hNl : N < 72057594037927936 := by
           have h := gv_lt ((L.take 5).drop (k1 + 1)); rw [← hN.out, List.length_drop, List.length_take] at h; have hp : (2 : Nat) ^ (7 * (min 5 L.length - (k1 + 1))) ≤ 2 ^ 56 := Nat.pow_le_pow_right (by decide) (by omega); have e : (2 : Nat) ^ 56 = 72057594037927936 := (by decide)
           omega
          have hor := or_up (N := N) (b := s[a + k1]) hNl; rw [← hgd] at hor; replace hor := zh hor; replace hgd := zh hgd; replace hb := zh hb; replace hgt := zh hgt; go_wp2_with fail
          go_roundg k1
          case measure => omega
          case rel => exact ⟨congrArg (Value.int .u64) hor.out, rfl, by omega, rfl⟩
     · have h15' : (15 : Int) < (s[a + 4].toNat : Int) := (by omega)
       have hbad : ¬ n < 4294967296 := fun h => h15 (hx.1 h); replace hg := zh hg; clear hx heq hne hn1; go_wp2_with fail; refine bodyPost_ret (v := .tuple #[.int .u64 0, .int .i64 0, .int .i64 10]) (by simp [results, Tryz.results19, go_sem]) rfl ⟨.inr ⟨fun n' c' h => (by rw [hg.out] at h; cases h; exact hbad), rfl⟩, rfl⟩
   · have hq5 : ((c : Int) == 5) = false := beq_eq_false_iff_ne.2 (by omega); have hn32 : n < 4294967296 := hne h5; replace hn1 := zh hn1; replace hg := zh hg; clear heq hne; go_wp2_with fail
     go_loopg [10, 11] c (fun k v10 v11 wr => v10 = .int .u64 ((gv ((L.take c).drop k) : Nat) : Int) ∧ v11 = .int .i64 ((k : Int) - 1) ∧ k ≤ c ∧ wr = w2)
     case atStart => exact ⟨by rw [List.drop_eq_nil_of_le (by rw [List.length_take]; omega)]; rfl, rfl, Nat.le_refl _, rfl⟩
     case round =>
      obtain ⟨rfl, rfl, hkc, rfl⟩ := hrel; cases gk with
      | zero => have e1 : ((0 : Nat) : Int) - 1 = -1 := rfl; rw [e1, List.drop_zero, ← hn1.out]; go_wp2_with fail; refine bodyPost_ret (v := .tuple #[.int .u64 (n : Int), .int .i64 ((a : Int) + (c : Int)), .int .i64 0]) (by simp [results, Tryz.results19, go_sem]) rfl ⟨.inl ⟨n, c, hg.out, hn32, by push_cast; rfl⟩, rfl⟩
      | succ k1 =>
        have e1 : ((k1 + 1 : Nat) : Int) - 1 = (k1 : Int) := (by omega)
        rw [e1]; have hi0 : (0 : Int) ≤ (k1 : Int) := (by omega)
        have hwj : IntKind.i64.wrap ((a : Int) + (k1 : Int)) = ((a + k1 : Nat) : Int) := (wid64 _ (by omega) (by omega)).trans (by omega); have hwm : IntKind.i64.wrap ((k1 : Int) - 1) = (k1 : Int) - 1 := low_wrap k1 (by omega); have hks : a + k1 < s.size := (by have := hLl.out; omega)
        obtain ⟨N, hN⟩ : ∃ N, N = gv ((L.take c).drop (k1 + 1)) := ⟨_, rfl⟩
        rw [← hN]; replace hN := zh hN; have hb := hLk.out k1 hks; have hgt : (L.take c)[k1]? = some s[a + k1] := (by rw [List.getElem?_take_of_lt (by omega)]; exact hb)
        have hgd : gv ((L.take c).drop k1) = s[a + k1].toNat % 128 + 128 * N := by obtain ⟨hl, he⟩ := List.getElem?_eq_some_iff.1 hgt; rw [List.drop_eq_getElem_cons hl, gv, he, hN.out]
        have hNl : N < 72057594037927936 := by
         have h := gv_lt ((L.take c).drop (k1 + 1)); rw [← hN.out, List.length_drop, List.length_take] at h; have hp : (2 : Nat) ^ (7 * (min c L.length - (k1 + 1))) ≤ 2 ^ 56 := Nat.pow_le_pow_right (by decide) (by omega); have e : (2 : Nat) ^ 56 = 72057594037927936 := (by decide)
         omega
        have hor := or_up (N := N) (b := s[a + k1]) hNl; rw [← hgd] at hor; replace hor := zh hor; replace hgd := zh hgd; replace hb := zh hb; replace hgt := zh hgt; go_wp2_with fail
        go_roundg k1
        case measure => omega
        case rel => exact ⟨congrArg (Value.int .u64) hor.out, rfl, by omega, rfl⟩
theorem tmod_in (a : Int) (n : Nat) (hn : 1 ≤ n) : -(n : Int) < Int.tmod a n ∧ Int.tmod a n < n := by have h := Int.natAbs_tmod a n; have h2 : a.natAbs % n < n := Nat.mod_lt _ (by omega); simp only [Int.natAbs_natCast] at h; omega
theorem mod_any (a : Int) (n : Nat) (hn : 1 ≤ n) (hn2 : n ≤ 262144) (w : World) : Calls Tryz.prog 16 #[.int .i64 a, .int .i64 (n : Int)] w fun e w' => (∃ k : Nat, k < n ∧ e = .returned (.int .i64 (k : Int))) ∧ w' = w := by
 obtain ⟨r, hr⟩ : ∃ r, r = Int.tmod a n := ⟨_, rfl⟩
 have h1 := tmod_in a n hn; rw [← hr] at h1; obtain ⟨m, hm⟩ : ∃ m : Nat, (m : Int) = r + n := ⟨(r + n).toNat, by omega⟩
 have hw1 : IntKind.i64.wrap (r + n) = (m : Int) := (by rw [← hm]; exact wid64 _ (by omega) (by omega))
 have h2 : Int.tmod (m : Int) (n : Int) = ((m % n : Nat) : Int) := by rw [Int.tmod_eq_emod_of_nonneg (by omega)]; rfl
 have h3 : m % n < n := Nat.mod_lt _ (by omega); have hw2 : IntKind.i64.wrap ((m % n : Nat) : Int) = ((m % n : Nat) : Int) := wid64 _ (by omega) (by omega); have hz : ¬ (n : Int) < 1 := (by omega)
 have hz2 : ((n : Int) == 0) = false := beq_eq_false_iff_ne.2 (by omega); have hz3 : (n : Int) ≠ 0 := (by omega)
 obtain ⟨k, hk⟩ : ∃ k, k = m % n := ⟨_, rfl⟩
 rw [← hk] at h2 h3 hw2
 have hs : IntKind.i64.wrap r = r := by
  have hh : ∀ x : Int, -262144 ≤ x → x ≤ 262144 → IntKind.i64.wrap x = x := fun x h1 h2 => by
   simp [IntKind.wrap, IntKind.bits, IntKind.signed]; omega
  exact hh r (by omega) (by omega)
 replace hk := zh hk; replace hm := zh hm; have hr' : Int.tmod a n = r := hr.symm; replace hr := zh hr; go_enter Tryz.func16, Tryz.ntmps16; go_wp2_with fail; go_ret; exact ⟨⟨k, h3, rfl⟩, rfl⟩
def hv (t : Int) : List UInt8 → Int
 | [] => t
 | b :: r => 128 * hv t r + ((b.toNat % 128 : Nat) : Int)
end Go.Proofs.YtkbfjkbokifgkaaGreatDoor
