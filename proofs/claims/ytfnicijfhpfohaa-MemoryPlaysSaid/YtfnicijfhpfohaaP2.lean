/- Plain facts on loads and stores. -/
import Derived.Test.YtfnicijfhpfohaaE
namespace Go.Proofs.Ytfnicijfhpfohaa

theorem numOf_zeros (n : Nat) : numOf (List.replicate n 0) = 0 := by
  induction n with
  | zero => rfl
  | succ n ih => simp [List.replicate_succ, numOf, ih]

theorem inB_true {len at_ : Nat} {n : Int} (h1 : isSized n = true) (h2 : at_ + n ≤ len) : inB len at_ n = true := by simp [inB, h1, h2]

theorem load_store (l : List Nat) (k n v : Nat) (h : inB l.length k n = true) : loadOut (storeOut l k n v) k n = v % 256 ^ n := by
  have h' := h
  simp only [inB, Bool.and_eq_true, decide_eq_true_eq] at h
  unfold loadOut
  rw [storeOut_length, if_pos h']
  unfold storeOut
  rw [if_pos h', Int.toNat_natCast]
  have hl := bytesOf_length v n
  have e : ((putAt l k (bytesOf v n)).drop k).take n = bytesOf v n := by
    unfold putAt
    have ht : (l.take k).length = k := by simp; omega
    rw [List.append_assoc]
    rw [List.drop_append_of_le_length (by omega), List.drop_of_length_le (by omega), List.nil_append, List.take_append_of_le_length (by omega), List.take_of_length_le (by omega)]
  rw [e, numOf_bytesOf]

theorem load_append (l m : List Nat) (k n : Nat) (h : k + n ≤ l.length) : loadOut (l ++ m) k n = loadOut l k n := by
  unfold loadOut inB
  rw [List.length_append, Int.toNat_natCast, List.drop_append_of_le_length (by omega), List.take_append_of_le_length (by simp; omega)]
  have e1 : decide ((k : Int) + (n : Int) ≤ ((l.length + m.length : Nat) : Int)) = true := by simp; omega
  have e2 : decide ((k : Int) + (n : Int) ≤ (l.length : Int)) = true := by simp; omega
  rw [e1, e2]

theorem load_zeros (l : List Nat) (m n : Nat) : loadOut (l ++ zeros m) l.length n = 0 := by
  unfold loadOut
  split
  · rw [List.drop_append_of_le_length (Nat.le_refl _), List.drop_of_length_le (Nat.le_refl _), List.nil_append]
    unfold zeros
    rw [List.take_replicate]
    exact numOf_zeros _
  · rfl

theorem load_out (l : List Nat) (k : Nat) (n : Int) (h : inB l.length k n = false) : loadOut l k n = 0 := by
  unfold loadOut
  rw [h]
  simp
end Go.Proofs.Ytfnicijfhpfohaa
