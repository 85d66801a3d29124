/- Plain facts on bytes and numbers. -/
import Derived.Laws.BitsAllLaws
import Derived.Laws.Bits64
namespace Go.Proofs.Ytfnicijfhpfohaa

/-- Little-endian bytes. -/
def numOf : List Nat → Nat
  | [] => 0
  | b :: l => b + 256 * numOf l

def bytesOf : Nat → Nat → List Nat
  | _, 0 => []
  | v, n + 1 => v % 256 :: bytesOf (v / 256) n

theorem numOf_lt (l : List Nat) (h : ∀ x ∈ l, x < 256) : numOf l < 256 ^ l.length := by
  induction l with
  | nil => simp [numOf]
  | cons b l ih =>
    have h1 := ih (fun x hx => h x (by simp [hx]))
    have h2 := h b (by simp)
    simp only [numOf, List.length_cons, Nat.pow_succ]
    omega

theorem numOf_append (l m : List Nat) : numOf (l ++ m) = numOf l + 256 ^ l.length * numOf m := by
  induction l with
  | nil => simp [numOf]
  | cons b l ih =>
    simp only [List.cons_append, numOf, ih, List.length_cons, Nat.pow_succ]
    rw [Nat.mul_add, ← Nat.mul_assoc, Nat.mul_comm 256 (256 ^ l.length)]
    omega

theorem bytesOf_length (v n : Nat) : (bytesOf v n).length = n := by
  induction n generalizing v with
  | zero => rfl
  | succ n ih => simp [bytesOf, ih]

theorem bytesOf_lt (v n : Nat) : ∀ x ∈ bytesOf v n, x < 256 := by
  induction n generalizing v with
  | zero => simp [bytesOf]
  | succ n ih =>
    intro x hx
    simp only [bytesOf, List.mem_cons] at hx
    rcases hx with rfl | hx
    · exact Nat.mod_lt _ (by decide)
    · exact ih _ x hx

theorem numOf_bytesOf (v n : Nat) : numOf (bytesOf v n) = v % 256 ^ n := by
  induction n generalizing v with
  | zero => simp [bytesOf, numOf, Nat.mod_one]
  | succ n ih =>
    simp only [bytesOf, numOf, ih, Nat.pow_succ]
    rw [Nat.mul_comm (256 ^ n) 256, Nat.mod_mul]

theorem bytesOf_getElem (v n k : Nat) (h : k < n) : (bytesOf v n)[k]? = some (v / 256 ^ k % 256) := by
  induction n generalizing v k with
  | zero => omega
  | succ n ih =>
    cases k with
    | zero => simp [bytesOf]
    | succ k =>
      simp only [bytesOf, List.getElem?_cons_succ]
      rw [ih _ _ (by omega), Nat.div_div_eq_div_mul, Nat.pow_succ, Nat.mul_comm]

theorem pow256 (k : Nat) : (2 : Nat) ^ (8 * k) = 256 ^ k := by
  rw [Nat.pow_mul]

/-- One round of Load. -/
theorem load_step (l : List Nat) (b k : Nat) (hk : k ≤ 7) (hl : l.length = k) (hb : b < 256) (h : ∀ x ∈ l, x < 256) :
    bits .or .u64 (numOf l : Int) (IntKind.u64.wrap (IntKind.u64.wrap (b : Int) * 2 ^ (8 * k))) = (numOf (l ++ [b]) : Nat) := by
  have h1 : IntKind.u64.wrap (b : Int) = (b : Int) := by rw [IntKind.wrap_u64]; omega
  have hlt := numOf_lt l h
  rw [hl] at hlt
  have hp : 256 ^ k ≤ 256 ^ 7 := Nat.pow_le_pow_right (by decide) hk
  have hx : b * 256 ^ k ≤ 255 * 256 ^ 7 := Nat.mul_le_mul (by omega) hp
  have h2 : IntKind.u64.wrap ((b : Int) * 2 ^ (8 * k)) = ((b * 256 ^ k : Nat) : Int) := by
    have e : (b : Int) * 2 ^ (8 * k) = ((b * 256 ^ k : Nat) : Int) := by
      rw [← pow256]; push_cast; rfl
    rw [e, IntKind.wrap_u64]
    omega
  rw [h1, h2, u64_or_nat _ _ (by omega) (by omega), Nat.or_comm, nat_join (8 * k) _ _ (by rw [pow256]; exact Nat.mul_mod_left _ _) (by rw [pow256]; exact hlt), numOf_append, hl]
  simp [numOf, Nat.mul_comm, Nat.add_comm]

/-- Bytes in the place of others. -/
def putAt (l : List Nat) (at_ : Nat) (bs : List Nat) : List Nat := l.take at_ ++ bs ++ l.drop (at_ + bs.length)

theorem putAt_nil (l : List Nat) (at_ : Nat) : putAt l at_ [] = l := by simp [putAt]

theorem putAt_length (l : List Nat) (at_ : Nat) (bs : List Nat) (h : at_ + bs.length ≤ l.length) : (putAt l at_ bs).length = l.length := by
  simp [putAt]; omega

theorem putAt_lt (l : List Nat) (at_ : Nat) (bs : List Nat) (h1 : ∀ x ∈ l, x < 256) (h2 : ∀ x ∈ bs, x < 256) : ∀ x ∈ putAt l at_ bs, x < 256 := by
  intro x hx
  simp only [putAt, List.mem_append] at hx
  rcases hx with (hx | hx) | hx
  · exact h1 x (List.mem_of_mem_take hx)
  · exact h2 x hx
  · exact h1 x (List.mem_of_mem_drop hx)

theorem putAt_get (l : List Nat) (at_ : Nat) (bs : List Nat) (h : at_ + bs.length ≤ l.length) (i : Nat) :
    (putAt l at_ bs)[i]? = if i < at_ then l[i]? else if i < at_ + bs.length then bs[i - at_]? else l[i]? := by
  unfold putAt
  have ht : (l.take at_).length = at_ := by simp; omega
  by_cases h1 : i < at_
  · rw [if_pos h1, List.append_assoc, List.getElem?_append_left (by omega), List.getElem?_take, if_pos h1]
  · rw [if_neg h1]
    by_cases h2 : i < at_ + bs.length
    · rw [if_pos h2, List.append_assoc, List.getElem?_append_right (by omega), ht, List.getElem?_append_left (by omega)]
    · rw [if_neg h2, List.getElem?_append_right (by simp; omega), List.getElem?_drop]
      congr 1
      simp; omega

theorem putAt_snoc (l : List Nat) (at_ : Nat) (bs : List Nat) (b : Nat) (h : at_ + bs.length < l.length) :
    putAt l at_ (bs ++ [b]) = (putAt l at_ bs).set (at_ + bs.length) b := by
  apply List.ext_getElem?
  intro i
  rw [putAt_get _ _ _ (by simp; omega), List.getElem?_set, putAt_length _ _ _ (by omega), putAt_get _ _ _ (by omega)]
  simp only [List.length_append, List.length_cons, List.length_nil]
  by_cases h1 : i < at_
  · rw [if_pos h1, if_pos h1, if_neg (by omega)]
  · rw [if_neg h1, if_neg h1]
    by_cases h2 : at_ + bs.length = i
    · rw [if_pos h2, if_pos (by omega), if_pos (by omega), List.getElem?_append_right (by omega)]
      simp [show i - at_ - bs.length = 0 from by omega]
    · rw [if_neg h2]
      by_cases h3 : i < at_ + bs.length
      · rw [if_pos (by omega), if_pos h3, List.getElem?_append_left (by omega)]
      · rw [if_neg (by omega), if_neg h3]

end Go.Proofs.Ytfnicijfhpfohaa
