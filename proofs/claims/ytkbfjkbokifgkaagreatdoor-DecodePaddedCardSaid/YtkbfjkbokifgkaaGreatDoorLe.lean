/- leb.U, leb.S: what they tell. -/
import Derived.Test.YtkbfjkbokifgkaaGreatDoorLc
import Derived.Test.YtkbfjkbokifgkaaGreatDoorDp
namespace Go.Proofs.YtkbfjkbokifgkaaGreatDoor
open Go.RowKit
set_option linter.unusedVariables false
set_option linter.unusedSimpArgs false
theorem gv_from_lt {s : ByteArray} {a c : Nat} (n : Nat) (h : n = gv ((from_ s a).take c)) : n < 2 ^ (7 * c) := by have h1 := gv_lt ((from_ s a).take c); rw [← h] at h1; exact Nat.lt_of_lt_of_le h1 (Nat.pow_le_pow_right (by decide) (by rw [List.length_take]; omega))
set_option maxRecDepth 100000 in
set_option maxHeartbeats 4000000 in
theorem leb_u32 (s : ByteArray) (hs : s.size ≤ 262144) (a : Nat) (ha : a ≤ s.size) (w : World) :
 Calls Tryz.prog 176 #[.string s, .int .i64 a, .int .i64 32] w fun e w' => Below w.heap.size w w' ∧
  ((∃ n c, grp 5 (from_ s a) = some (n, c) ∧ 1 ≤ c ∧ a + c ≤ s.size ∧ n < 4294967296 ∧ e = .returned (.tuple #[.int .u64 n, .int .i64 ((a + c : Nat) : Int), .int .i64 0])) ∨
   ((∀ n c, grp 5 (from_ s a) = some (n, c) → 4294967296 ≤ n) ∧ e = .returned (.tuple #[.int .u64 0, .int .i64 0, .int .i64 10]))) := by
 go_enter Tryz.func176, Tryz.ntmps176; go_wp2_with fail; refine (groups_32 s hs a ha w).mono ?_; rintro e w' ⟨hB, ⟨n, c, b, hg, h1, h5, hac, hn, hb, rfl⟩ | ⟨hg, rfl⟩⟩
 · have hlt := gv_from_lt n hn; have hlt2 : n < 34359738368 := Nat.lt_of_lt_of_le hlt (Nat.le_trans (Nat.pow_le_pow_right (by decide) (show 7 * c ≤ 35 by omega)) (by decide)); have hmod : n % 18446744073709551616 = n := Nat.mod_eq_of_lt (by omega); rw [hmod]
   have h70 : (7 * (c : Int) == 70) = false := by rw [beq_eq_false_iff_ne]; omega
   replace hlt := zh hlt; replace hn := zh hn; replace hb := zh hb; replace hg := zh hg; replace hB := zh hB; replace hmod := zh hmod
   by_cases hbig : n < 4294967296
   · have hsh : (n : Int) / 4294967296 = 0 := (by omega)
     go_wp2_with fail; refine bodyPost_ret (by simp [results, Tryz.results176, go_sem] <;> rfl) rfl ?_; exact ⟨hB.out, .inl ⟨n, c, hg.out, h1, hac, hbig, by push_cast; rfl⟩⟩
   · have hsh : ¬ (n : Int) / 4294967296 = 0 := (by omega)
     go_wp2_with fail; refine bodyPost_ret (by simp [results, Tryz.results176, go_sem] <;> rfl) rfl ?_; refine ⟨hB.out, .inr ⟨fun n' c' h => ?_, rfl⟩⟩; rw [hg.out] at h; obtain ⟨rfl, rfl⟩ : n = n' ∧ c = c' := by simpa using h
     omega
 · replace hg := zh hg; replace hB := zh hB; go_wp2_with fail; refine bodyPost_ret (by simp [results, Tryz.results176, go_sem] <;> rfl) rfl ?_; exact ⟨hB.out, .inr ⟨fun n' c' h => by rw [hg.out] at h; simp at h, rfl⟩⟩
theorem up_down {n c : Nat} (h1 : 1 ≤ c) (h9 : c ≤ 9) (hn : n < 2 ^ (7 * c)) :
 ∃ m X Y : Int, IntKind.i64.wrap (64 - 7 * (c : Int)) = m ∧ 0 ≤ m ∧ m ≤ 64 ∧ IntKind.u64.wrap ((n : Int) * 2 ^ m.toNat) = X ∧ IntKind.i64.wrap X = Y ∧ Y / 2 ^ m.toNat = sgn n c := by
 have e := sgn_up h1 h9 hn
 have hm : IntKind.i64.wrap (64 - 7 * (c : Int)) = ((64 - 7 * c : Nat) : Int) := by rw [wid64 _ (by omega) (by omega)]; omega
 have hX : IntKind.u64.wrap ((n : Int) * 2 ^ (((64 - 7 * c : Nat) : Int)).toNat) = (((n * 2 ^ (64 - 7 * c)) % 18446744073709551616 : Nat) : Int) := by rw [← wrap_u64_nat, Int.toNat_natCast]; push_cast; rfl
 have hX2 : (n * 2 ^ (64 - 7 * c)) % 18446744073709551616 < 18446744073709551616 := Nat.mod_lt _ (by decide); obtain ⟨x, hx⟩ : ∃ x, x = (n * 2 ^ (64 - 7 * c)) % 18446744073709551616 := ⟨_, rfl⟩
 rw [← hx] at e hX hX2; refine ⟨_, _, _, hm, by omega, by omega, hX, rfl, ?_⟩; rw [Int.toNat_natCast, ← e]
 have : IntKind.i64.wrap (x : Int) = if x < 9223372036854775808 then (x : Int) else (x : Int) - 18446744073709551616 := by simp [IntKind.wrap, IntKind.bits, IntKind.signed]; split <;> omega
 rw [this]; push_cast; rfl
theorem sgn_range {n c : Nat} (hn : n < 2 ^ (7 * c)) (h1 : 1 ≤ c) (h9 : c ≤ 9) : -9223372036854775808 ≤ sgn n c ∧ sgn n c ≤ 9223372036854775807 := by
 unfold sgn; have : c = 1 ∨ c = 2 ∨ c = 3 ∨ c = 4 ∨ c = 5 ∨ c = 6 ∨ c = 7 ∨ c = 8 ∨ c = 9 := (by omega)
 rcases this with rfl | rfl | rfl | rfl | rfl | rfl | rfl | rfl | rfl <;> simp only [Nat.reduceMul, Nat.reduceSub, Nat.reducePow] at hn ⊢ <;> split <;> omega
theorem wrap32_in {z : Int} (h1 : -2147483648 ≤ z) (h2 : z ≤ 2147483647) : IntKind.i32.wrap z = z := by simp [IntKind.wrap, IntKind.bits, IntKind.signed]; omega
theorem wrap32_lt (z : Int) : -2147483648 ≤ IntKind.i32.wrap z ∧ IntKind.i32.wrap z ≤ 2147483647 := by simp [IntKind.wrap, IntKind.bits, IntKind.signed]; split <;> omega
theorem wid64s (n : Int) (h0 : -9223372036854775808 ≤ n) (h1 : n < 9223372036854775808) : IntKind.i64.wrap n = n := by simp [IntKind.wrap, IntKind.bits, IntKind.signed]; split <;> omega
set_option maxRecDepth 100000 in
set_option maxHeartbeats 4000000 in
theorem leb_s32 (s : ByteArray) (hs : s.size ≤ 262144) (a : Nat) (ha : a ≤ s.size) (w : World) :
 Calls Tryz.prog 198 #[.string s, .int .i64 a, .int .i64 32] w fun e w' => Below w.heap.size w w' ∧
  ((∃ n c, grp 5 (from_ s a) = some (n, c) ∧ 1 ≤ c ∧ a + c ≤ s.size ∧ -2147483648 ≤ sgn n c ∧ sgn n c ≤ 2147483647 ∧ e = .returned (.tuple #[.int .i64 (sgn n c), .int .i64 ((a + c : Nat) : Int), .int .i64 0])) ∨
   ((∀ n c, grp 5 (from_ s a) = some (n, c) → ¬ (-2147483648 ≤ sgn n c ∧ sgn n c ≤ 2147483647)) ∧ e = .returned (.tuple #[.int .i64 0, .int .i64 0, .int .i64 10]))) := by
 go_enter Tryz.func198, Tryz.ntmps198; go_wp2_with fail; refine (groups_32 s hs a ha w).mono ?_; rintro e w' ⟨hB, ⟨n, c, b, hg, h1, h5, hac, hn, hb, rfl⟩ | ⟨hg, rfl⟩⟩
 · have hlt := gv_from_lt n hn; have hlt2 : n < 34359738368 := Nat.lt_of_lt_of_le hlt (Nat.le_trans (Nat.pow_le_pow_right (by decide) (show 7 * c ≤ 35 by omega)) (by decide)); have hmod : n % 18446744073709551616 = n := Nat.mod_eq_of_lt (by omega); rw [hmod]
   have h70 : (7 * (c : Int) == 70) = false := by rw [beq_eq_false_iff_ne]; omega
   have hw0 : IntKind.i64.wrap (n : Int) = n := wid64 _ (by omega) (by omega); obtain ⟨m, X, Y, hm, hm0, hm1, hX, hY, hZ⟩ := up_down h1 (by omega) hlt; obtain ⟨hr0, hr1⟩ := sgn_range hlt h1 (by omega); obtain ⟨z, hz⟩ : ∃ z, z = sgn n c := ⟨_, rfl⟩
   rw [← hz] at hZ hr0 hr1; replace hlt := zh hlt; replace hn := zh hn; replace hb := zh hb; replace hg := zh hg; replace hB := zh hB; replace hmod := zh hmod; replace hz := zh hz
   by_cases hin : -2147483648 ≤ z ∧ z ≤ 2147483647
   · have h32 := wrap32_in hin.1 hin.2; have h64 := wid64s z hr0 (by omega); go_wp2_with fail; refine bodyPost_ret (by simp [results, Tryz.results198, go_sem] <;> rfl) rfl ?_; exact ⟨hB.out, .inl ⟨n, c, hg.out, h1, hac, by rw [← hz.out]; exact hin.1, by rw [← hz.out]; exact hin.2, by rw [← hz.out]; push_cast; rfl⟩⟩
   · obtain ⟨y, hy⟩ : ∃ y, IntKind.i32.wrap z = y := ⟨_, rfl⟩
     have hyr := wrap32_lt z; rw [hy] at hyr; have h64 := wid64s y (by omega) (by omega); have hne : ¬ z = y := (by omega)
     replace hyr := zh hyr; replace hin := zh hin; go_wp2_with fail; refine bodyPost_ret (by simp [results, Tryz.results198, go_sem] <;> rfl) rfl ?_; refine ⟨hB.out, .inr ⟨fun n' c' h => ?_, rfl⟩⟩; rw [hg.out] at h; obtain ⟨rfl, rfl⟩ : n = n' ∧ c = c' := by simpa using h
     rw [← hz.out]; exact hin.out
 · replace hg := zh hg; replace hB := zh hB; go_wp2_with fail; refine bodyPost_ret (by simp [results, Tryz.results198, go_sem] <;> rfl) rfl ?_; exact ⟨hB.out, .inr ⟨fun n' c' h => by rw [hg.out] at h; simp at h, rfl⟩⟩
theorem grp_pos : ∀ {K : Nat} {l : List UInt8} {q : Nat × Nat}, grp K l = some q → 1 ≤ q.2
 | 0, _, _, h => by simp [grp] at h
 | K + 1, [], _, h => by simp [grp] at h
 | K + 1, x :: r, q, h => by
   unfold grp at h; split at h
   · obtain rfl := Option.some.inj h; simp
   · cases hr : grp K r with
     | none => rw [hr] at h; simp at h
     | some p => rw [hr] at h; simp only [Option.map_some, Option.some.injEq] at h; rw [← h]; simp
theorem grp_last : ∀ {K : Nat} {l : List UInt8} {n c : Nat} {b : UInt8}, grp K l = some (n, c) → l[c - 1]? = some b → b.toNat < 128
 | 0, _, _, _, _, h, _ => by simp [grp] at h
 | K + 1, [], _, _, _, h, _ => by simp [grp] at h
 | K + 1, x :: r, n, c, b, h, hb => by
   unfold grp at h
   by_cases hx : x.toNat < 128
   · rw [if_pos hx] at h; obtain ⟨_, rfl⟩ : x.toNat = n ∧ 1 = c := by simpa using h
     simp only [Nat.sub_self, List.getElem?_cons_zero, Option.some.injEq] at hb; rw [← hb]; exact hx
   · rw [if_neg hx] at h; cases hq : grp K r with
     | none => rw [hq] at h; simp at h
     | some q =>
       rw [hq] at h; obtain ⟨_, rfl⟩ : x.toNat - 128 + 128 * q.1 = n ∧ q.2 + 1 = c := by simpa using h
       have hpos : 1 ≤ q.2 := grp_pos hq; refine grp_last (n := q.1) (c := q.2) hq ?_; rw [show q.2 + 1 - 1 = (q.2 - 1) + 1 by omega] at hb; simpa using hb
theorem tenth {l : List UInt8} {n : Nat} {b : UInt8} (hn : n = gv (l.take 10)) (hb : l[9]? = some b) (h128 : b.toNat < 128) :
 ((b.toNat = 0 ∨ b.toNat = 127) → IntKind.i64.wrap ((n % 18446744073709551616 : Nat) : Int) = sgn n 10 ∧ -9223372036854775808 ≤ sgn n 10 ∧ sgn n 10 ≤ 9223372036854775807) ∧
 (¬ (b.toNat = 0 ∨ b.toNat = 127) → ¬ (-9223372036854775808 ≤ sgn n 10 ∧ sgn n 10 ≤ 9223372036854775807)) := by
 have hlen : (l.take 9).length = 9 := by have : 9 < l.length := (List.getElem?_eq_some_iff.mp hb).1; rw [List.length_take]; omega
 rw [take_snoc2 hb, gv_snoc, hlen] at hn; have hr := gv_lt (l.take 9); rw [hlen] at hr; obtain ⟨r, hrr⟩ : ∃ r, r = gv (l.take 9) := ⟨_, rfl⟩
 rw [← hrr] at hn hr; obtain ⟨q, hq⟩ : ∃ q, q = b.toNat := ⟨_, rfl⟩
 rw [← hq] at hn h128 ⊢; unfold sgn; simp only [Nat.reduceMul, Nat.reduceSub, Nat.reducePow] at hn hr ⊢; have hqm : q % 128 = q := Nat.mod_eq_of_lt h128; rw [hqm] at hn; constructor
 · intro h
   have hw : IntKind.i64.wrap ((n % 18446744073709551616 : Nat) : Int) = if n % 18446744073709551616 < 9223372036854775808 then ((n % 18446744073709551616 : Nat) : Int) else ((n % 18446744073709551616 : Nat) : Int) - 18446744073709551616 := by have : n % 18446744073709551616 < 18446744073709551616 := Nat.mod_lt _ (by decide); generalize n % 18446744073709551616 = x at this ⊢; simp [IntKind.wrap, IntKind.bits, IntKind.signed]; split <;> omega
   rw [hw]
   rcases h with rfl | rfl
   · split <;> split <;> omega
   · split <;> split <;> omega
 · intro h; split <;> omega
set_option maxRecDepth 100000 in
set_option maxHeartbeats 4000000 in
theorem leb_s64 (s : ByteArray) (hs : s.size ≤ 262144) (a : Nat) (ha : a ≤ s.size) (w : World) :
 Calls Tryz.prog 198 #[.string s, .int .i64 a, .int .i64 64] w fun e w' => Below w.heap.size w w' ∧
  ((∃ n c, grp 10 (from_ s a) = some (n, c) ∧ 1 ≤ c ∧ a + c ≤ s.size ∧ -9223372036854775808 ≤ sgn n c ∧ sgn n c ≤ 9223372036854775807 ∧ e = .returned (.tuple #[.int .i64 (sgn n c), .int .i64 ((a + c : Nat) : Int), .int .i64 0])) ∨
   ((∀ n c, grp 10 (from_ s a) = some (n, c) → ¬ (-9223372036854775808 ≤ sgn n c ∧ sgn n c ≤ 9223372036854775807)) ∧ e = .returned (.tuple #[.int .i64 0, .int .i64 0, .int .i64 10]))) := by
 go_enter Tryz.func198, Tryz.ntmps198; go_wp2_with fail; refine (groups_64 s hs a ha w).mono ?_; rintro e w' ⟨hB, ⟨n, c, b, hg, h1, h5, hac, hn, hb, rfl⟩ | ⟨hg, rfl⟩⟩
 · by_cases h9 : c ≤ 9
   · have hlt := gv_from_lt n hn; have hlt2 : n < 9223372036854775808 := Nat.lt_of_lt_of_le hlt (Nat.le_trans (Nat.pow_le_pow_right (by decide) (show 7 * c ≤ 63 by omega)) (by decide)); have hmod : n % 18446744073709551616 = n := Nat.mod_eq_of_lt (by omega); rw [hmod]
     have h70 : (7 * (c : Int) == 70) = false := by rw [beq_eq_false_iff_ne]; omega
     have hw0 : IntKind.i64.wrap (n : Int) = n := wid64 _ (by omega) (by omega); obtain ⟨m, X, Y, hm, hm0, hm1, hX, hY, hZ⟩ := up_down h1 (by omega) hlt; obtain ⟨hr0, hr1⟩ := sgn_range hlt h1 (by omega); obtain ⟨z, hz⟩ : ∃ z, z = sgn n c := ⟨_, rfl⟩
     rw [← hz] at hZ hr0 hr1; replace hlt := zh hlt; replace hn := zh hn; replace hb := zh hb; replace hg := zh hg; replace hB := zh hB; replace hmod := zh hmod; replace hz := zh hz; go_wp2_with fail; refine bodyPost_ret (by simp [results, Tryz.results198, go_sem] <;> rfl) rfl ?_; exact ⟨hB.out, .inl ⟨n, c, hg.out, h1, hac, by rw [← hz.out]; exact hr0, by rw [← hz.out]; exact hr1, by rw [← hz.out]; push_cast; rfl⟩⟩
   · obtain rfl : c = 10 := by omega
     have h128 := grp_last hg hb; have ht := tenth hn hb h128; obtain ⟨N, hN⟩ : ∃ N : Int, N = ((n % 18446744073709551616 : Nat) : Int) := ⟨_, rfl⟩
     rw [← hN] at ht ⊢; replace hn := zh hn; replace hb := zh hb; replace hg := zh hg; replace hB := zh hB; replace hN := zh hN; replace ht := zh ht
     by_cases hin : b.toNat = 0 ∨ b.toNat = 127
     · obtain ⟨hz, hr0, hr1⟩ := ht.out.1 hin; obtain ⟨z, hzz⟩ : ∃ z, z = sgn n 10 := ⟨_, rfl⟩
       rw [← hzz] at hz hr0 hr1; replace hzz := zh hzz
       rcases hin with hin | hin
       · go_wp2_with fail; refine bodyPost_ret (by simp [results, Tryz.results198, go_sem] <;> rfl) rfl ?_; exact ⟨hB.out, .inl ⟨n, 10, hg.out, by omega, hac, by rw [← hzz.out]; exact hr0, by rw [← hzz.out]; exact hr1, by rw [← hzz.out]; push_cast; rfl⟩⟩
       · go_wp2_with fail; refine bodyPost_ret (by simp [results, Tryz.results198, go_sem] <;> rfl) rfl ?_; exact ⟨hB.out, .inl ⟨n, 10, hg.out, by omega, hac, by rw [← hzz.out]; exact hr0, by rw [← hzz.out]; exact hr1, by rw [← hzz.out]; push_cast; rfl⟩⟩
     · have g1 : ¬ b.toNat = 0 := fun h => hin (.inl h); have g2 : ¬ b.toNat = 127 := fun h => hin (.inr h); obtain ⟨z, hz⟩ : ∃ z, IntKind.i64.wrap N = z := ⟨_, rfl⟩
       have hno := zh (ht.out.2 hin); clear hin; go_wp2_with fail; refine bodyPost_ret (by simp [results, Tryz.results198, go_sem] <;> rfl) rfl ?_; refine ⟨hB.out, .inr ⟨fun n' c' h => ?_, rfl⟩⟩; rw [hg.out] at h; obtain ⟨rfl, rfl⟩ : n = n' ∧ 10 = c' := by simpa using h
       exact hno.out
 · replace hg := zh hg; replace hB := zh hB; go_wp2_with fail; refine bodyPost_ret (by simp [results, Tryz.results198, go_sem] <;> rfl) rfl ?_; exact ⟨hB.out, .inr ⟨fun n' c' h => by rw [hg.out] at h; simp at h, rfl⟩⟩
end Go.Proofs.YtkbfjkbokifgkaaGreatDoor
namespace Go.Proofs.YtkbfjkbokifgkaaGreatDoor
open Go.RowKit
set_option linter.unusedVariables false
set_option linter.unusedSimpArgs false
structure RS where
 a : Nat
 e : Nat
 i : Nat
 w : Int
abbrev Rg (α : Type) := α × RS
theorem except_assoc {ε α β γ : Type} (x : Except ε α) (f : α → Except ε β) (g : β → Except ε γ) : (x.bind f).bind g = x.bind fun q => (f q).bind g := by cases x <;> rfl
theorem bind_ok {ε α β : Type} {x : Except ε α} {f : α → Except ε β} {r : β} (h : x.bind f = .ok r) : ∃ q, x = .ok q ∧ f q = .ok r := by
 cases x with
 | error n => cases h
 | ok q => exact ⟨q, rfl, h⟩
theorem bind_congr {ε α β : Type} {x : Except ε α} {f g : α → Except ε β} (h : ∀ q, x = .ok q → f q = g q) : x.bind f = x.bind g := by
 cases x with
 | error n => rfl
 | ok q => exact h q rfl
def Tells {α : Type} (P : α → Prop) (x : Except Int α) : Prop := ∀ r, x = .ok r → P r
theorem Tells.bind {α β : Type} {P : β → Prop} {x : Except Int α} {f : α → Except Int β} (h : ∀ q, Tells P (f q)) : Tells P (x.bind f) := fun r hr => by
 obtain ⟨q, _, h2⟩ := bind_ok hr; exact h q r h2
theorem Tells.ite {α : Type} {P : α → Prop} {c : Prop} [Decidable c] {x y : Except Int α} (h : Tells P x) (k : Tells P y) : Tells P (if c then x else y) := by split <;> assumption
theorem Tells.ok {α : Type} {P : α → Prop} {v : α} (h : P v) : Tells P (.ok v) := fun r hr => by cases hr; exact h
theorem gParts_op {s : List UInt8} {e : Nat} {rec : Nat → Bool → Nat → Nat → Except Int ((Il × Bool × Nat) × Nat)} {op : Int} {d l a : Nat} {r : (One × Nat) × Nat} (h : gParts s e rec op d l a = .ok r) : r.1.1.op = op := by
 have hT : Tells (fun r : (One × Nat) × Nat => r.1.1.op = op) (gParts s e rec op d l a) := by unfold gParts; exact .ite (.ite (.bind fun _ => .ok rfl) (.ok rfl)) (.ite (.bind fun _ => .bind fun _ => .ite (.bind fun _ => .ok rfl) (.ok rfl)) (.ite (.bind fun _ => .ok rfl) (.ite (.bind fun _ => .bind fun _ => .ok rfl) (.ite (.bind fun _ => .bind fun _ => .ok rfl) (.ite (.bind fun _ => .bind fun _ => .ok rfl) (.ite (.ite (.bind fun _ => .ok rfl) (.bind fun _ => .ok rfl)) (.ok rfl)))))))
 exact hT r h
end Go.Proofs.YtkbfjkbokifgkaaGreatDoor
namespace Go.Proofs.YtkbfjkbokifgkaaGreatDoor
open Go.RowKit
set_option linter.unusedVariables false
set_option linter.unusedSimpArgs false
def Up {α : Type} (a : Nat) (x : Except Int (α × Nat)) : Prop := Tells (fun q => a < q.2) x
def Ue {α : Type} (a : Nat) (x : Except Int (α × Nat)) : Prop := Tells (fun q => a ≤ q.2) x
theorem Up.e {α : Type} {a : Nat} {x : Except Int (α × Nat)} (h : Up a x) : Ue a x := fun r hr => Nat.le_of_lt (h r hr)
theorem Up.bind {α β : Type} {a : Nat} {x : Except Int (α × Nat)} {f : α × Nat → Except Int (β × Nat)} (h : Up a x) (k : ∀ q, Ue q.2 (f q)) : Up a (x.bind f) := fun r hr => by
 obtain ⟨q, h1, h2⟩ := bind_ok hr; exact Nat.lt_of_lt_of_le (h q h1) (k q r h2)
theorem Ue.bind {α β : Type} {a : Nat} {x : Except Int (α × Nat)} {f : α × Nat → Except Int (β × Nat)} (h : Ue a x) (k : ∀ q, Ue q.2 (f q)) : Ue a (x.bind f) := fun r hr => by
 obtain ⟨q, h1, h2⟩ := bind_ok hr; exact Nat.le_trans (h q h1) (k q r h2)
theorem Ue.ok {α : Type} {a b : Nat} {v : α} (h : a ≤ b) : Ue a (.ok (v, b)) := fun r hr => by cases hr; exact h
theorem Up.ok {α : Type} {a b : Nat} {v : α} (h : a < b) : Up a (.ok (v, b)) := fun r hr => by cases hr; exact h
theorem Ue.error {α : Type} {a : Nat} {n : Int} : Ue (α := α) a (.error n) := fun r hr => by cases hr
theorem Up.error {α : Type} {a : Nat} {n : Int} : Up (α := α) a (.error n) := fun r hr => by cases hr
theorem Ue.ite {α : Type} {a : Nat} {c : Prop} [Decidable c] {x y : Except Int (α × Nat)} (h : Ue a x) (k : Ue a y) : Ue a (if c then x else y) := by split <;> assumption
theorem Up.ite {α : Type} {a : Nat} {c : Prop} [Decidable c] {x y : Except Int (α × Nat)} (h : Up a x) (k : Up a y) : Up a (if c then x else y) := by split <;> assumption
variable (s : List UInt8) (e : Nat)
theorem gByte_up (a : Nat) : Up a (gByte s e a) := by unfold gByte; exact .ite (.ok (Nat.lt_succ_self a)) .error
theorem gU_up (a : Nat) : Up a (gU s e a) := by
 unfold gU; cases h : grp 5 (win s a e) with
 | none => exact .error
 | some q => have := grp_pos h; exact .ite (.ok (by omega)) .error
theorem gS32_up (a : Nat) : Up a (gS32 s e a) := by
 unfold gS32; cases h : grp 5 (win s a e) with
 | none => exact .error
 | some q => have := grp_pos h; exact .ite (.ok (by omega)) .error
theorem gS64_up (a : Nat) : Up a (gS64 s e a) := by
 unfold gS64; cases h : grp 10 (win s a e) with
 | none => exact .error
 | some q => have := grp_pos h; exact .ite (.ok (by omega)) .error
theorem gIs_up (a : Nat) (b : Int) : Up a (gIs s e a b) := (gByte_up s e a).bind fun _ => .ite (.ok (Nat.le_refl _)) .error
theorem gTyp_up (a : Nat) : Up a (gTyp s e a) := (gByte_up s e a).bind fun _ => .ite .error (.ite (.ok (Nat.le_refl _)) .error)
theorem gCount_up (a : Nat) : Up a (gCount s e a) := (gU_up s e a).bind fun _ => .ite (.ok (Nat.le_refl _)) .error
theorem gMany_ue {α : Type} {f : Nat → Got α} (h : ∀ a, Ue a (f a)) : ∀ k a, Ue a (gMany f k a)
 | 0, a => .ok (Nat.le_refl _)
 | k + 1, a => (h a).bind fun q => (gMany_ue h k q.2).bind fun _ => .ok (Nat.le_refl _)
theorem gEach_up {α : Type} {f : Nat → Got α} (h : ∀ a, Ue a (f a)) (a : Nat) : Up a (gEach s e a f) := (gCount_up s e a).bind fun q => gMany_ue h _ _
theorem gResult_up (a : Nat) : Up a (gResult s e a) := by unfold gResult; exact .ite (.ok (Nat.lt_succ_self a)) (gTyp_up s e a)
theorem gParts_ue {rec : Nat → Bool → Nat → Nat → Except Int ((Il × Bool × Nat) × Nat)} (h : ∀ d b l a, Ue a (rec d b l a)) (op : Int) (d l a : Nat) : Ue a (gParts s e rec op d l a) := by
 unfold gParts
 exact .ite (.ite ((gIs_up s e a 0).e.bind fun _ => .ok (Nat.le_refl _)) (.ok (Nat.le_refl _))) (.ite ((gResult_up s e a).e.bind fun q => (h _ _ _ _).bind fun b => .ite ((h _ _ _ _).bind fun c => .ok (Nat.le_refl _)) (.ok (Nat.le_refl _)))
  (.ite ((gU_up s e a).e.bind fun _ => .ok (Nat.le_refl _)) (.ite ((gEach_up s e (fun a => (gU_up s e a).e) a).e.bind fun l => (gU_up s e _).e.bind fun _ => .ok (Nat.le_refl _)) (.ite ((gU_up s e a).e.bind fun _ => (gIs_up s e _ 0).e.bind fun _ => .ok (Nat.le_refl _))
  (.ite ((gU_up s e a).e.bind fun _ => (gU_up s e _).e.bind fun _ => .ok (Nat.le_refl _)) (.ite (.ite ((gS32_up s e a).e.bind fun _ => .ok (Nat.le_refl _)) ((gS64_up s e a).e.bind fun _ => .ok (Nat.le_refl _))) (.ok (Nat.le_refl _))))))))
theorem gList_up : ∀ k d b l a, Up a (gList s e k d b l a)
 | 0, _, _, _, _ => .error
 | k + 1, d, b, l, a => by
   rw [gList]; exact (gByte_up s e a).bind fun q => .ite (.ok (Nat.le_refl _)) (.ite .error (.ite .error (.ite .error (.ite .error ((gParts_ue s e (fun d b l a => (gList_up k d b l a).e) _ _ _ _).bind fun r => (gList_up k _ _ _ _).e.bind fun t => .ok (Nat.le_refl _))))))
end Go.Proofs.YtkbfjkbokifgkaaGreatDoor
