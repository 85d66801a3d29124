/- What is written tells what it was written from: plain. -/
import Derived.Test.YtanpjbbhhofkfaaDoorGp
import Derived.Test.YtanpjbbhhofkfaaDoorOa
namespace Go.Proofs.YtanpjbbhhofkfaaDoor
open Go.RowKit
set_option linter.unusedVariables false
set_option linter.unusedSimpArgs false

/-- Its bytes tell a value's view, and where they end. -/
def Pfx {α β : Type} (P : α → Prop) (e : α → List UInt8) (g : α → β) : Prop := ∀ x y r s, P x → P y → e x ++ r = e y ++ s → g x = g y ∧ r = s

theorem u8_eq {a b : Nat} (h : UInt8.ofNat a = UInt8.ofNat b) : a % 256 = b % 256 := by
  have := congrArg UInt8.toNat h
  rwa [UInt8.toNat_ofNat', UInt8.toNat_ofNat'] at this
theorem lebU_px : ∀ (n m : Nat) (r s : List UInt8), lebU n ++ r = lebU m ++ s → n = m ∧ r = s := by
  intro n
  induction n using Nat.strongRecOn with
  | ind n ih =>
  intro m r s h
  by_cases hn : n < 128
  · rw [lebU_last hn] at h
    by_cases hm : m < 128
    · rw [lebU_last hm] at h
      simp only [List.cons_append, List.nil_append, List.cons.injEq] at h
      have := u8_eq h.1
      exact ⟨by omega, h.2⟩
    · rw [lebU_more hm] at h
      simp only [List.cons_append, List.nil_append, List.cons.injEq] at h
      have := u8_eq h.1
      omega
  · rw [lebU_more hn] at h
    by_cases hm : m < 128
    · rw [lebU_last hm] at h
      simp only [List.cons_append, List.nil_append, List.cons.injEq] at h
      have := u8_eq h.1
      omega
    · rw [lebU_more hm] at h
      simp only [List.cons_append, List.cons.injEq] at h
      have h1 := u8_eq h.1
      have h2 := ih (n / 128) (by omega) (m / 128) r s h.2
      exact ⟨by omega, h2.2⟩
theorem lebS_px : ∀ (k : Nat) (n m : Int) (r s : List UInt8), n.natAbs ≤ k → lebS n ++ r = lebS m ++ s → n = m ∧ r = s := by
  intro k
  induction k using Nat.strongRecOn with
  | ind k ih =>
  intro n m r s hk h
  by_cases hn : -64 ≤ n ∧ n ≤ 63
  · rw [lebS_last hn] at h
    by_cases hm : -64 ≤ m ∧ m ≤ 63
    · rw [lebS_last hm] at h
      simp only [List.cons_append, List.nil_append, List.cons.injEq] at h
      have := u8_eq h.1
      exact ⟨by omega, h.2⟩
    · rw [lebS_more hm] at h
      simp only [List.cons_append, List.nil_append, List.cons.injEq] at h
      have := u8_eq h.1
      omega
  · rw [lebS_more hn] at h
    by_cases hm : -64 ≤ m ∧ m ≤ 63
    · rw [lebS_last hm] at h
      simp only [List.cons_append, List.nil_append, List.cons.injEq] at h
      have := u8_eq h.1
      omega
    · rw [lebS_more hm] at h
      simp only [List.cons_append, List.cons.injEq] at h
      have h1 := u8_eq h.1
      have h2 := ih (n / 128).natAbs (by omega) (n / 128) (m / 128) r s (Nat.le_refl _) h.2
      exact ⟨by omega, h2.2⟩
def u64P (n : Int) : Prop := 0 ≤ n ∧ n < 18446744073709551616
theorem uB_px : Pfx u64P uB id := fun x y r s hx hy h => by
  have := lebU_px _ _ r s h
  unfold u64P at hx hy
  exact ⟨by show x = y; omega, this.2⟩
theorem idx_u {n : Int} (h : idx1 n = true) : u64P n := by
  unfold idx1 at h
  rw [Bool.and_eq_true, decide_eq_true_eq, decide_eq_true_eq] at h
  unfold u64P
  omega
theorem lebS_px2 : Pfx (fun _ => True) lebS id := fun x y r s _ _ h => lebS_px x.natAbs x y r s (Nat.le_refl _) h
def byteP (n : Int) : Prop := 0 ≤ n ∧ n ≤ 255
theorem b1_inj {x y : Int} (hx : byteP x) (hy : byteP y) (h : b1 x = b1 y) : x = y := by
  have := u8_eq h
  unfold byteP at hx hy
  omega
theorem b1_px : Pfx byteP (fun n => [b1 n]) id := fun x y r s hx hy h => by
  simp only [List.cons_append, List.nil_append, List.cons.injEq] at h
  exact ⟨b1_inj hx hy h.1, h.2⟩
theorem Pfx.mono {α β : Type} {P Q : α → Prop} {e : α → List UInt8} {g : α → β} (h : Pfx P e g) (hq : ∀ x, Q x → P x) : Pfx Q e g := fun x y r s hx hy => h x y r s (hq _ hx) (hq _ hy)
/-- One behind the other. -/
theorem Pfx.pair {α β γ : Type} {P : α → Prop} {e f : α → List UInt8} {g : α → β} {k : α → γ} (h1 : Pfx P e g) (h2 : Pfx P f k) : Pfx P (fun x => e x ++ f x) (fun x => (g x, k x)) := fun x y r s hx hy h => by
  simp only [List.append_assoc] at h
  obtain ⟨a, h⟩ := h1 x y _ _ hx hy h
  obtain ⟨b, h⟩ := h2 x y _ _ hx hy h
  exact ⟨Prod.ext a b, h⟩
theorem Pfx.at {α β γ : Type} {P : α → Prop} {e : α → List UInt8} {g : α → β} (h : Pfx P e g) (p : γ → α) : Pfx (fun x => P (p x)) (fun x => e (p x)) (fun x => g (p x)) := fun x y r s hx hy => h (p x) (p y) r s hx hy
theorem Pfx.view {α β γ : Type} {P : α → Prop} {e : α → List UInt8} {g : α → β} (h : Pfx P e g) {k : α → γ} (hk : ∀ x y, P x → P y → g x = g y → k x = k y) : Pfx P e k := fun x y r s hx hy e => by
  obtain ⟨a, b⟩ := h x y r s hx hy e
  exact ⟨hk x y hx hy a, b⟩
/-- Always the same. -/
theorem Pfx.const {α : Type} (P : α → Prop) (l : List UInt8) : Pfx P (fun _ => l) (fun _ => ()) := fun x y r s _ _ h => ⟨rfl, List.append_cancel_left h⟩
/-- As long as it says. -/
theorem Pfx.lg {α β : Type} {P : α → Prop} {e : α → List UInt8} {g : α → β} (h : Pfx P e g) : Pfx P (fun x => xLg (e x)) g := fun x y r s hx hy e => by
  unfold xLg uB at e
  rw [List.append_assoc, List.append_assoc] at e
  exact h x y r s hx hy (lebU_px _ _ _ _ e).2
theorem Pfx.flat {α β : Type} {P : α → Prop} {e : α → List UInt8} {g : α → β} (h : Pfx P e g) : ∀ (l m : List α) (r s : List UInt8), l.length = m.length → (∀ x ∈ l, P x) → (∀ x ∈ m, P x) → l.flatMap e ++ r = m.flatMap e ++ s → l.map g = m.map g ∧ r = s
  | [], [], r, s, _, _, _, he => ⟨rfl, by simpa using he⟩
  | [], b :: m, _, _, hl, _, _, _ => by simp at hl
  | a :: l, [], _, _, hl, _, _, _ => by simp at hl
  | a :: l, b :: m, r, s, hl, hx, hy, he => by
    rw [List.flatMap_cons, List.flatMap_cons, List.append_assoc, List.append_assoc] at he
    obtain ⟨h1, he⟩ := h a b _ _ (hx a (List.mem_cons_self ..)) (hy b (List.mem_cons_self ..)) he
    obtain ⟨h2, he⟩ := Pfx.flat h l m r s (by simpa using hl) (fun x hm => hx x (List.mem_cons_of_mem _ hm)) (fun x hm => hy x (List.mem_cons_of_mem _ hm)) he
    exact ⟨by rw [List.map_cons, List.map_cons, h1, h2], he⟩
def lenP {α : Type} (P : α → Prop) (l : List α) : Prop := l.length ≤ 1048576 ∧ ∀ x ∈ l, P x
theorem Pfx.sec {α β : Type} {P : α → Prop} {e : α → List UInt8} {g : α → β} (h : Pfx P e g) : Pfx (lenP P) (xSec e) (fun l => l.map g) := fun x y r s hx hy he => by
  unfold xSec at he
  rw [List.append_assoc, List.append_assoc] at he
  have h1 := hx.1
  have h2 := hy.1
  obtain ⟨a, he⟩ := uB_px _ _ _ _ (show u64P _ by unfold u64P; omega) (show u64P _ by unfold u64P; omega) he
  have a' : (x.length : Int) = y.length := a
  exact h.flat x y r s (by omega) hx.2 hy.2 he
theorem map_flat {α : Type} (f : α → List UInt8) (l : List α) : (l.map f).flatten = l.flatMap f := by rw [List.flatMap_def]
theorem numsC_sec (l : List Int) : (numsC l).flatten = xSec uB l := by
  unfold numsC xSec
  rw [List.flatten_cons, map_flat]
theorem bytsC_sec (l : List Int) : (bytsC l).flatten = xSec (fun n => [b1 n]) l := by
  unfold bytsC xSec
  rw [List.flatten_cons, map_flat]
theorem map_id2 {α : Type} {l m : List α} (h : l.map id = m.map id) : l = m := by simpa using h
def strP (s : ByteArray) : Prop := s.size ≤ 1048576
theorem str_px : Pfx strP (fun s => xLg (strl s)) id := fun x y r s hx hy he => by
  unfold xLg at he
  rw [List.append_assoc, List.append_assoc] at he
  unfold strP at hx hy
  obtain ⟨a, he⟩ := uB_px _ _ _ _ (show u64P _ by rw [strl_length]; unfold u64P; omega) (show u64P _ by rw [strl_length]; unfold u64P; omega) he
  have a' : ((strl x).length : Int) = (strl y).length := a
  obtain ⟨b, c⟩ := List.append_inj he (by omega)
  refine ⟨?_, c⟩
  have := congrArg mks b
  rwa [mks_strl, mks_strl] at this
/-- The byte of an instruction is no end. -/
theorem op_byte {op : Int} (h : formV op ≠ 0) : byteP op ∧ op ≠ 5 ∧ op ≠ 11 := by
  unfold formV at h
  unfold byteP
  refine ⟨⟨?_, ?_⟩, ?_, ?_⟩ <;> (repeat' split at h) <;> omega
theorem form_op {op x y n : Int} {ls : List Int} {bl el : Nat} (h : form1 op x y n ls bl el = true) : formV op ≠ 0 := fun e => by
  rw [form1_no (by omega)] at h
  cases h
theorem il_zero : ∀ {l : Il}, l.len = 0 → l = .nil
  | .nil, _ => rfl
  | .cons .., h => by simp [Il.len] at h
theorem res_byte {x : Int} (h : res1 x = true) : x = 0 ∨ x = 127 ∨ x = 126 := by
  unfold res1 at h
  simpa [Bool.or_eq_true] using h
theorem res_inj {x x' : Int} (h : res1 x = true) (h' : res1 x' = true) (e : b1 (if x = 0 then 64 else x) = b1 (if x' = 0 then 64 else x')) : x = x' := by
  rcases res_byte h with rfl | rfl | rfl <;> rcases res_byte h' with rfl | rfl | rfl <;> first | rfl | (exfalso; revert e; decide)
theorem nums_px : Pfx (fun l : List Int => l.length ≤ 1048576 ∧ l.all idx1 = true) (fun l => (numsC l).flatten) id := fun x y r s hx hy he => by
  simp only [numsC_sec] at he
  obtain ⟨a, b⟩ := (uB_px.sec) x y r s ⟨hx.1, fun n hn => idx_u (List.all_eq_true.1 hx.2 n hn)⟩ ⟨hy.1, fun n hn => idx_u (List.all_eq_true.1 hy.2 n hn)⟩ he
  exact ⟨map_id2 a, b⟩
def endB (z : UInt8) : Prop := z = 11 ∨ z = 5
theorem end_op {z : UInt8} {op : Int} (hz : endB z) (h : formV op ≠ 0) : z ≠ b1 op := fun e => by
  obtain ⟨hb, h5, h11⟩ := op_byte h
  rcases hz with rfl | rfl
  · exact h11 (b1_inj (x := 11) ⟨by decide, by decide⟩ hb e).symm
  · exact h5 (b1_inj (x := 5) ⟨by decide, by decide⟩ hb e).symm
theorem app_cons (a : List UInt8) (z : UInt8) (r : List UInt8) : a ++ [z] ++ r = a ++ z :: r := by simp
theorem xl_px : ∀ (a b : Il) (z z' : UInt8) (r s : List UInt8), formB a = true → formB b = true → lab a = true → lab b = true → endB z → endB z' → xl a ++ z :: r = xl b ++ z' :: s → a = b ∧ z = z' ∧ r = s
  | .nil, .nil, z, z', r, s, _, _, _, _, _, _, h => by
    simp only [xl, List.nil_append, List.cons.injEq] at h
    exact ⟨rfl, h⟩
  | .nil, .cons op x y n ls b e q, z, z', r, s, _, hf, _, _, hz, _, h => by
    unfold formB at hf
    rw [Bool.and_eq_true] at hf
    simp only [xl, List.nil_append, List.cons_append, List.cons.injEq] at h
    exact absurd h.1 (end_op hz (form_op hf.1))
  | .cons op x y n ls b e q, .nil, z, z', r, s, hf, _, _, _, _, hz, h => by
    unfold formB at hf
    rw [Bool.and_eq_true] at hf
    simp only [xl, List.nil_append, List.cons_append, List.cons.injEq] at h
    exact absurd h.1.symm (end_op hz (form_op hf.1))
  | .cons op x y n ls b e q, .cons op' x' y' n' ls' b' e' q', z, z', r, s, hf, hf', hl, hl', hz, hz', h => by
    unfold formB at hf hf'
    simp only [Bool.and_eq_true] at hf hf'
    obtain ⟨f1, fb, fe, fq⟩ := hf
    obtain ⟨f1', fb', fe', fq'⟩ := hf'
    unfold lab at hl hl'
    simp only [Bool.and_eq_true, decide_eq_true_eq] at hl hl'
    obtain ⟨ll, lb, le, lq⟩ := hl
    obtain ⟨ll', lb', le', lq'⟩ := hl'
    have o1 := form_op f1
    have o2 := form_op f1'
    simp only [xl, List.cons_append, List.nil_append, List.append_assoc, List.cons.injEq] at h
    obtain ⟨h0, hout⟩ := h
    obtain rfl := b1_inj (op_byte o1).1 (op_byte o2).1 h0
    have fin : ∀ (r' s' : List UInt8), xTail (formV op) op x y n ls e.len (xl b) (xl e) ++ r' = xTail (formV op) op x' y' n' ls' e'.len (xl b') (xl e') ++ s' → (x = x' ∧ y = y' ∧ n = n' ∧ ls = ls' ∧ b = b' ∧ e = e') ∧ r' = s' := by
      intro r' s' h
      unfold form1 at f1 f1'
      unfold xTail at h
      rcases formV_cases op with k | k | k | k | k | k | k | k | k | k | k <;> rw [k] at f1 f1' h <;> simp only [Int.reduceEq, if_true, if_false, or_true, true_or, or_false, false_or, or_self, reduceIte] at f1 f1' h
      · cases f1
      · simp only [Bool.and_eq_true, beq_iff_eq] at f1 f1'
        obtain ⟨rfl, rfl, rfl, h3, h4, h5⟩ := f1
        obtain ⟨rfl, rfl, rfl, h3', h4', h5'⟩ := f1'
        obtain rfl : ls = [] := List.eq_nil_of_length_eq_zero (by omega)
        obtain rfl : ls' = [] := List.eq_nil_of_length_eq_zero (by omega)
        obtain rfl := il_zero (by omega : b.len = 0)
        obtain rfl := il_zero (by omega : b'.len = 0)
        obtain rfl := il_zero (by omega : e.len = 0)
        obtain rfl := il_zero (by omega : e'.len = 0)
        exact ⟨⟨rfl, rfl, rfl, rfl, rfl, rfl⟩, List.append_cancel_left h⟩
      · simp only [Bool.and_eq_true, beq_iff_eq] at f1 f1'
        obtain ⟨hx, rfl, rfl, h3, h5⟩ := f1
        obtain ⟨hx', rfl, rfl, h3', h5'⟩ := f1'
        obtain rfl : ls = [] := List.eq_nil_of_length_eq_zero (by omega)
        obtain rfl : ls' = [] := List.eq_nil_of_length_eq_zero (by omega)
        obtain rfl := il_zero (by omega : e.len = 0)
        obtain rfl := il_zero (by omega : e'.len = 0)
        simp only [Il.len, Nat.lt_irrefl, if_false, List.append_nil, List.cons_append, List.nil_append, List.append_assoc, List.cons.injEq] at h
        obtain ⟨hb, _, hr⟩ := xl_px b b' _ _ _ _ fb fb' lb lb' (.inl rfl) (.inl rfl) h.2
        exact ⟨⟨res_inj hx hx' h.1, rfl, rfl, rfl, hb, rfl⟩, hr⟩
      · simp only [Bool.and_eq_true, beq_iff_eq] at f1 f1'
        obtain ⟨hx, rfl, rfl, h3⟩ := f1
        obtain ⟨hx', rfl, rfl, h3'⟩ := f1'
        obtain rfl : ls = [] := List.eq_nil_of_length_eq_zero (by omega)
        obtain rfl : ls' = [] := List.eq_nil_of_length_eq_zero (by omega)
        simp only [List.cons_append, List.nil_append, List.append_assoc, List.cons.injEq] at h
        obtain ⟨hxx, h⟩ := h
        by_cases he : 0 < e.len <;> by_cases he' : 0 < e'.len
        · rw [if_pos he, if_pos he'] at h
          simp only [List.cons_append, List.nil_append, List.append_assoc] at h
          obtain ⟨hb, _, h⟩ := xl_px b b' _ _ _ _ fb fb' lb lb' (.inr rfl) (.inr rfl) h
          obtain ⟨hee, _, h⟩ := xl_px e e' _ _ _ _ fe fe' le le' (.inl rfl) (.inl rfl) h
          exact ⟨⟨res_inj hx hx' hxx, rfl, rfl, rfl, hb, hee⟩, h⟩
        · rw [if_pos he, if_neg he'] at h
          simp only [List.cons_append, List.nil_append, List.append_assoc] at h
          obtain ⟨_, hz, _⟩ := xl_px b b' _ _ _ _ fb fb' lb lb' (.inr rfl) (.inl rfl) h
          exact absurd hz (by decide)
        · rw [if_neg he, if_pos he'] at h
          simp only [List.cons_append, List.nil_append, List.append_assoc] at h
          obtain ⟨_, hz, _⟩ := xl_px b b' _ _ _ _ fb fb' lb lb' (.inl rfl) (.inr rfl) h
          exact absurd hz (by decide)
        · rw [if_neg he, if_neg he'] at h
          simp only [List.cons_append, List.nil_append, List.append_assoc] at h
          obtain rfl := il_zero (by omega : e.len = 0)
          obtain rfl := il_zero (by omega : e'.len = 0)
          obtain ⟨hb, _, h⟩ := xl_px b b' _ _ _ _ fb fb' lb lb' (.inl rfl) (.inl rfl) h
          exact ⟨⟨res_inj hx hx' hxx, rfl, rfl, rfl, hb, rfl⟩, h⟩
      all_goals first
        | (simp only [Bool.and_eq_true, beq_iff_eq] at f1 f1'
           obtain ⟨hx, rfl, rfl, h3, h4, h5⟩ := f1
           obtain ⟨hx', rfl, rfl, h3', h4', h5'⟩ := f1'
           obtain rfl : ls = [] := List.eq_nil_of_length_eq_zero (by omega)
           obtain rfl : ls' = [] := List.eq_nil_of_length_eq_zero (by omega)
           obtain rfl := il_zero (by omega : b.len = 0)
           obtain rfl := il_zero (by omega : b'.len = 0)
           obtain rfl := il_zero (by omega : e.len = 0)
           obtain rfl := il_zero (by omega : e'.len = 0)
           (try simp only [List.append_assoc] at h)
           obtain ⟨hxx, h⟩ := uB_px _ _ _ _ (idx_u hx) (idx_u hx') h
           exact ⟨⟨hxx, rfl, rfl, rfl, rfl, rfl⟩, by first | exact h | exact List.append_cancel_left h⟩)
        | (simp only [Bool.and_eq_true, beq_iff_eq] at f1 f1'
           obtain ⟨hx, hls, rfl, rfl, h4, h5⟩ := f1
           obtain ⟨hx', hls', rfl, rfl, h4', h5'⟩ := f1'
           obtain rfl := il_zero (by omega : b.len = 0)
           obtain rfl := il_zero (by omega : b'.len = 0)
           obtain rfl := il_zero (by omega : e.len = 0)
           obtain rfl := il_zero (by omega : e'.len = 0)
           (try simp only [List.append_assoc] at h)
           obtain ⟨hll, h⟩ := nums_px _ _ _ _ ⟨by omega, hls⟩ ⟨by omega, hls'⟩ h
           obtain ⟨hxx, h⟩ := uB_px _ _ _ _ (idx_u hx) (idx_u hx') h
           exact ⟨⟨hxx, rfl, rfl, hll, rfl, rfl⟩, h⟩)
        | (simp only [Bool.and_eq_true, beq_iff_eq] at f1 f1'
           obtain ⟨hx, hy, rfl, h3, h4, h5⟩ := f1
           obtain ⟨hx', hy', rfl, h3', h4', h5'⟩ := f1'
           obtain rfl : ls = [] := List.eq_nil_of_length_eq_zero (by omega)
           obtain rfl : ls' = [] := List.eq_nil_of_length_eq_zero (by omega)
           obtain rfl := il_zero (by omega : b.len = 0)
           obtain rfl := il_zero (by omega : b'.len = 0)
           obtain rfl := il_zero (by omega : e.len = 0)
           obtain rfl := il_zero (by omega : e'.len = 0)
           (try simp only [List.append_assoc] at h)
           obtain ⟨hxx, h⟩ := uB_px _ _ _ _ (idx_u hx) (idx_u hx') h
           obtain ⟨hyy, h⟩ := uB_px _ _ _ _ (idx_u hy) (idx_u hy') h
           exact ⟨⟨hxx, hyy, rfl, rfl, rfl, rfl⟩, h⟩)
        | (simp only [Bool.and_eq_true, beq_iff_eq] at f1 f1'
           obtain ⟨_, rfl, rfl, h3, h4, h5⟩ := f1
           obtain ⟨_, rfl, rfl, h3', h4', h5'⟩ := f1'
           obtain rfl : ls = [] := List.eq_nil_of_length_eq_zero (by omega)
           obtain rfl : ls' = [] := List.eq_nil_of_length_eq_zero (by omega)
           obtain rfl := il_zero (by omega : b.len = 0)
           obtain rfl := il_zero (by omega : b'.len = 0)
           obtain rfl := il_zero (by omega : e.len = 0)
           obtain rfl := il_zero (by omega : e'.len = 0)
           obtain ⟨hnn, h⟩ := lebS_px2 _ _ _ _ trivial trivial h
           exact ⟨⟨rfl, rfl, hnn, rfl, rfl, rfl⟩, h⟩)
        | (cases f1; done)
    obtain ⟨⟨rfl, rfl, rfl, rfl, rfl, rfl⟩, h⟩ := fin _ _ hout
    obtain ⟨rfl, hzz, hr⟩ := xl_px q q' z z' r s fq fq' lq lq' hz hz' h
    exact ⟨rfl, hzz, hr⟩
def ilP (l : Il) : Prop := formB l = true ∧ lab l = true
theorem ex_px : Pfx ilP xEx id := fun x y r s hx hy h => by
  unfold xEx at h
  rw [app_cons, app_cons] at h
  obtain ⟨a, _, c⟩ := xl_px x y _ _ r s hx.1 hy.1 hx.2 hy.2 (.inl rfl) (.inl rfl) h
  exact ⟨a, c⟩
/-- Runs tell what they are of. -/
def unr (R : List (Nat × Int)) : List Int := R.reverse.flatMap fun q => List.replicate q.1 q.2
theorem unr_step (R : List (Nat × Int)) (x : Int) : unr (rstep R x) = unr R ++ [x] := by
  unfold unr rstep
  match R with
  | [] => simp
  | (c, t) :: r =>
    simp only
    by_cases h : t = x
    · subst h
      rw [if_pos rfl]
      simp [List.replicate_succ']
    · rw [if_neg h]
      simp
theorem unr_fold : ∀ (l : List Int) (R : List (Nat × Int)), unr (l.foldl rstep R) = unr R ++ l
  | [], R => by simp
  | x :: l, R => by
    rw [List.foldl_cons, unr_fold l, unr_step, List.append_assoc]
    rfl
theorem runs_inj {l m : List Int} (h : runs l = runs m) : l = m := by
  have h2 : rns l = rns m := List.reverse_inj.1 h
  have a := unr_fold l []
  have b := unr_fold m []
  have e : unr [] = [] := rfl
  rw [e, List.nil_append] at a b
  unfold rns at h2
  rw [← a, ← b, h2]
theorem run_le : ∀ {R : List (Nat × Int)} {q : Nat × Int}, q ∈ R → q.1 ≤ psum R
  | p :: R, q, h => by
    unfold psum
    rw [List.map_cons, List.sum_cons]
    rcases List.mem_cons.1 h with rfl | h
    · omega
    · have := run_le h
      unfold psum at this
      omega
theorem typ_byte {n : Int} (h : typ1 n = true) : byteP n := by
  unfold typ1 at h
  rw [Bool.or_eq_true, beq_iff_eq, beq_iff_eq] at h
  unfold byteP
  omega
theorem runs_mem {l : List Int} {q : Nat × Int} (h : q ∈ runs l) : q.1 ≤ l.length ∧ q.2 ∈ l := by
  have hk := rns_known l l.length (Nat.le_refl _)
  rw [List.take_length] at hk
  have h1 := run_le h
  unfold runs at h1 h
  rw [hk.1] at h1
  obtain ⟨j, hj⟩ := List.getElem?_of_mem h
  have := hk.2.2.1 j q hj
  exact ⟨h1, List.mem_of_getElem? this⟩
def locP (l : List Int) : Prop := l.length ≤ 1048576 ∧ l.all typ1 = true
theorem flat_flat {α : Type} (f : α → List (List UInt8)) : ∀ l : List α, (l.flatMap f).flatten = l.flatMap fun q => (f q).flatten
  | [] => rfl
  | a :: l => by
    rw [List.flatMap_cons, List.flatMap_cons, List.flatten_append, flat_flat f l]
theorem loc_px : Pfx locP xLoc id := fun x y r s hx hy h => by
  have key : ∀ l : List Int, xLoc l = xSec (fun q : Nat × Int => uB q.1 ++ [b1 q.2]) (runs l) := fun l => by
    unfold xLoc locC xSec
    rw [List.flatten_cons]
    congr 1
    rw [flat_flat]
    simp [locF]
  rw [key, key] at h
  have hpx : Pfx (fun q : Nat × Int => u64P q.1 ∧ byteP q.2) (fun q => uB q.1 ++ [b1 q.2]) (fun q => ((q.1 : Int), q.2)) :=
    ((uB_px.at fun q : Nat × Int => (q.1 : Int)).mono (Q := fun q : Nat × Int => u64P q.1 ∧ byteP q.2) fun _ h => h.1).pair ((b1_px.at fun q : Nat × Int => q.2).mono fun _ h => h.2)
  have hP : ∀ l : List Int, locP l → lenP (fun q : Nat × Int => u64P q.1 ∧ byteP q.2) (runs l) := fun l hl => ⟨by have := runs_len l; have := hl.1; omega, fun q hq => by
    have h1 := runs_mem hq
    have h2 := hl.1
    exact ⟨by unfold u64P; omega, typ_byte (List.all_eq_true.1 hl.2 _ h1.2)⟩⟩
  obtain ⟨a, b⟩ := hpx.sec _ _ _ _ (hP x hx) (hP y hy) h
  refine ⟨runs_inj ?_, b⟩
  exact List.map_inj_right (f := fun q : Nat × Int => ((q.1 : Int), q.2)) (fun p q e => by
    obtain ⟨p1, p2⟩ := p
    obtain ⟨q1, q2⟩ := q
    simp only [Prod.mk.injEq] at e ⊢
    exact ⟨by omega, e.2⟩) |>.1 a
end Go.Proofs.YtanpjbbhhofkfaaDoor
