/- Plain laws of UTF-8: what the reference's loop asks, against the library's tables. -/
import Derived.Lib.ValidLaws
import Derived.Laws.BitsLemmas
import Derived.Test.YtofleejokkdklaaDoorRows
namespace Go.Proofs.YtofleejokkdklaaDoor
open Go Go.Lib
set_option linter.unusedVariables false

/-- The k-th byte. -/
def byN (l : List UInt8) (k : Nat) : Nat := (l.getD k 0).toNat
theorem byN_lt (l : List UInt8) (k : Nat) : byN l k < 256 := (l.getD k 0).toNat_lt
/-- What k further bytes make of a value. -/
def accN (a : Nat) (f : Nat → Nat) : Nat → Nat
  | 0 => a
  | k + 1 => accN a f k * 64 + f (k + 1) % 64
theorem accN_lt (a : Nat) (f : Nat → Nat) (ha : a < 32) : ∀ k, k ≤ 3 → accN a f k < 8388608 := by
  intro k hk
  match k, hk with
  | 0, _ => simp [accN]; omega
  | 1, _ => simp [accN]; omega
  | 2, _ => simp [accN]; omega
  | 3, _ => simp [accN]; omega

theorem utf_bad (l : List UInt8) (hne : l ≠ []) (h0 : 128 ≤ byN l 0) (hb : byN l 0 < 194 ∨ 244 < byN l 0) : validD l = false := by
  rw [validD_lead l hne h0]
  have hl := byN_lt l 0
  unfold byN at h0 hb hl
  generalize (l.getD 0 0).toNat = b0 at *
  generalize (l.getD 1 0).toNat = b1
  generalize (l.getD 2 0).toNat = b2
  generalize (l.getD 3 0).toNat = b3
  have e : firstT b0 = 241 := by
    unfold firstT
    repeat' split
    all_goals first | rfl | (exfalso; omega)
  rw [e]
  rfl

theorem utf_1 (l : List UInt8) (hne : l ≠ []) (h0 : 194 ≤ byN l 0) (h1 : byN l 0 ≤ 223) :
    validD l = if l.length < 2 ∨ ¬ (128 ≤ byN l 1 ∧ byN l 1 ≤ 191) then false else validD (l.drop 2) := by
  rw [validD_lead l hne (by unfold byN at h0; omega)]
  unfold byN at h0 h1 ⊢
  generalize (l.getD 0 0).toNat = b0 at *
  generalize (l.getD 1 0).toNat = b1
  generalize (l.getD 2 0).toNat = b2
  generalize (l.getD 3 0).toNat = b3
  have e : firstT b0 = 2 := by
    unfold firstT
    repeat' split
    all_goals first | rfl | (exfalso; omega)
  rw [e]
  show (match checkN l.length b1 b2 b3 2 128 191 with | none => false | some k => validD (l.drop k)) = _
  unfold checkN
  by_cases h : l.length < 2 ∨ b1 < 128 ∨ 191 < b1
  · rw [if_pos rfl, if_pos h, if_pos (by omega)]
  · rw [if_pos rfl, if_neg h, if_neg (by omega)]

theorem utf_2 (l : List UInt8) (hne : l ≠ []) (h0 : 224 ≤ byN l 0) (h1 : byN l 0 ≤ 239) :
    validD l = if l.length < 3 ∨ ¬ (128 ≤ byN l 1 ∧ byN l 1 ≤ 191) ∨ ¬ (128 ≤ byN l 2 ∧ byN l 2 ≤ 191) ∨ accN (byN l 0 % 16) (byN l) 2 < 2048 ∨ (55296 ≤ accN (byN l 0 % 16) (byN l) 2 ∧ accN (byN l 0 % 16) (byN l) 2 ≤ 57343) then false else validD (l.drop 3) := by
  rw [validD_lead l hne (by unfold byN at h0; omega)]
  simp only [accN, Nat.zero_add, Nat.reduceAdd]
  unfold byN at h0 h1 ⊢
  generalize (l.getD 0 0).toNat = b0 at *
  generalize (l.getD 1 0).toNat = b1
  generalize (l.getD 2 0).toNat = b2
  generalize (l.getD 3 0).toNat = b3
  have key : ∀ lo hi, firstT b0 % 8 = 3 → accLo (firstT b0 / 16) = lo → accHi (firstT b0 / 16) = hi →
      ((l.length < 3 ∨ b1 < lo ∨ hi < b1 ∨ b2 < 128 ∨ 191 < b2) ↔ (l.length < 3 ∨ ¬ (128 ≤ b1 ∧ b1 ≤ 191) ∨ ¬ (128 ≤ b2 ∧ b2 ≤ 191) ∨ ((b0 % 16) * 64 + b1 % 64) * 64 + b2 % 64 < 2048 ∨ (55296 ≤ ((b0 % 16) * 64 + b1 % 64) * 64 + b2 % 64 ∧ ((b0 % 16) * 64 + b1 % 64) * 64 + b2 % 64 ≤ 57343))) →
      (match checkN l.length b1 b2 b3 (firstT b0 % 8) (accLo (firstT b0 / 16)) (accHi (firstT b0 / 16)) with | none => false | some k => validD (l.drop k)) = if (l.length < 3 ∨ ¬ (128 ≤ b1 ∧ b1 ≤ 191) ∨ ¬ (128 ≤ b2 ∧ b2 ≤ 191) ∨ ((b0 % 16) * 64 + b1 % 64) * 64 + b2 % 64 < 2048 ∨ (55296 ≤ ((b0 % 16) * 64 + b1 % 64) * 64 + b2 % 64 ∧ ((b0 % 16) * 64 + b1 % 64) * 64 + b2 % 64 ≤ 57343)) then false else validD (l.drop 3) := by
    intro lo hi e1 e2 e3 hiff
    rw [e1, e2, e3]
    unfold checkN
    by_cases h : l.length < 3 ∨ b1 < lo ∨ hi < b1 ∨ b2 < 128 ∨ 191 < b2
    · rw [if_neg (by decide), if_pos rfl, if_pos h, if_pos (hiff.1 h)]
    · rw [if_neg (by decide), if_pos rfl, if_neg h, if_neg (fun c => h (hiff.2 c))]
  by_cases c0 : b0 = 224
  · subst c0
    exact key 160 191 (by decide) (by decide) (by decide) (by omega)
  by_cases c1 : b0 = 237
  · subst c1
    exact key 128 159 (by decide) (by decide) (by decide) (by omega)
  have e : firstT b0 = 3 := by
    unfold firstT
    repeat' split
    all_goals first | rfl | (exfalso; omega)
  exact key 128 191 (by rw [e]) (by rw [e]; decide) (by rw [e]; decide) (by omega)

theorem utf_3 (l : List UInt8) (hne : l ≠ []) (h0 : 240 ≤ byN l 0) (h1 : byN l 0 ≤ 244) :
    validD l = if l.length < 4 ∨ ¬ (128 ≤ byN l 1 ∧ byN l 1 ≤ 191) ∨ ¬ (128 ≤ byN l 2 ∧ byN l 2 ≤ 191) ∨ ¬ (128 ≤ byN l 3 ∧ byN l 3 ≤ 191) ∨ accN (byN l 0 % 8) (byN l) 3 < 65536 ∨ 1114111 < accN (byN l 0 % 8) (byN l) 3 then false else validD (l.drop 4) := by
  rw [validD_lead l hne (by unfold byN at h0; omega)]
  simp only [accN, Nat.zero_add, Nat.reduceAdd]
  unfold byN at h0 h1 ⊢
  generalize (l.getD 0 0).toNat = b0 at *
  generalize (l.getD 1 0).toNat = b1
  generalize (l.getD 2 0).toNat = b2
  generalize (l.getD 3 0).toNat = b3
  obtain ⟨V, hV⟩ : ∃ V, (((b0 % 8) * 64 + b1 % 64) * 64 + b2 % 64) * 64 + b3 % 64 = V := ⟨_, rfl⟩
  rw [hV]
  have key : ∀ lo hi, firstT b0 % 8 = 4 → accLo (firstT b0 / 16) = lo → accHi (firstT b0 / 16) = hi →
      ((l.length < 4 ∨ b1 < lo ∨ hi < b1 ∨ b2 < 128 ∨ 191 < b2 ∨ b3 < 128 ∨ 191 < b3) ↔ (l.length < 4 ∨ ¬ (128 ≤ b1 ∧ b1 ≤ 191) ∨ ¬ (128 ≤ b2 ∧ b2 ≤ 191) ∨ ¬ (128 ≤ b3 ∧ b3 ≤ 191) ∨ V < 65536 ∨ 1114111 < V)) →
      (match checkN l.length b1 b2 b3 (firstT b0 % 8) (accLo (firstT b0 / 16)) (accHi (firstT b0 / 16)) with | none => false | some k => validD (l.drop k)) = if (l.length < 4 ∨ ¬ (128 ≤ b1 ∧ b1 ≤ 191) ∨ ¬ (128 ≤ b2 ∧ b2 ≤ 191) ∨ ¬ (128 ≤ b3 ∧ b3 ≤ 191) ∨ V < 65536 ∨ 1114111 < V) then false else validD (l.drop 4) := by
    intro lo hi e1 e2 e3 hiff
    rw [e1, e2, e3]
    unfold checkN
    by_cases h : l.length < 4 ∨ b1 < lo ∨ hi < b1 ∨ b2 < 128 ∨ 191 < b2 ∨ b3 < 128 ∨ 191 < b3
    · rw [if_neg (by decide), if_neg (by decide), if_pos rfl, if_pos h, if_pos (hiff.1 h)]
    · rw [if_neg (by decide), if_neg (by decide), if_pos rfl, if_neg h, if_neg (fun c => h (hiff.2 c))]
  by_cases c0 : b0 = 240
  · subst c0
    exact key 144 191 (by decide) (by decide) (by decide) (by omega)
  by_cases c1 : b0 = 244
  · subst c1
    exact key 128 143 (by decide) (by decide) (by decide) (by omega)
  have e : firstT b0 = 4 := by
    unfold firstT
    repeat' split
    all_goals first | rfl | (exfalso; omega)
  exact key 128 191 (by rw [e]) (by rw [e]; decide) (by rw [e]; decide) (by omega)

/-! ### bits -/
theorem and31_f : ∀ b : Fin 256, bits .and .i64 (b.val : Int) 31 = ((b.val % 32 : Nat) : Int) := by decide +kernel
theorem and15_f : ∀ b : Fin 256, bits .and .i64 (b.val : Int) 15 = ((b.val % 16 : Nat) : Int) := by decide +kernel
theorem and7_f : ∀ b : Fin 256, bits .and .i64 (b.val : Int) 7 = ((b.val % 8 : Nat) : Int) := by decide +kernel
theorem and192_f : ∀ b : Fin 256, bits .and .u8 (b.val : Int) 192 = ((b.val / 64 * 64 : Nat) : Int) := by decide +kernel
theorem and63_f : ∀ b : Fin 256, bits .and .u8 (b.val : Int) 63 = ((b.val % 64 : Nat) : Int) := by decide +kernel
theorem wrap_i64_63 (n : Int) (h0 : 0 ≤ n) (h1 : n < 2 ^ 63) : IntKind.i64.wrap n = n := by
  have e : (2 : Int) ^ 63 = 9223372036854775808 := by decide
  rw [e] at h1
  simp [IntKind.wrap, IntKind.bits, IntKind.signed]
  omega
theorem or_64 (x y : Nat) (hx : x < 1000000000) (hy : y < 64) : bits .or .i64 ((x : Int) * 64) (y : Int) = ((x * 64 + y : Nat) : Int) := by
  have := bits_join .i64 63 (by decide) wrap_i64_63 6 ((x : Int) * 64) (y : Int) (by omega) (by omega) (by omega) (by omega) (by omega) (by omega)
  rw [this]
  omega
end Go.Proofs.YtofleejokkdklaaDoor
