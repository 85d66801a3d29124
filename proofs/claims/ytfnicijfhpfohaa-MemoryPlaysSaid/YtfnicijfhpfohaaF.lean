/- Contract of Text of package memory. -/
import Derived.Test.YtfnicijfhpfohaaE
import Derived.Laws.BytesArg
namespace Go.Proofs.Ytfnicijfhpfohaa
open Go.RowKit

/-- The text of some bytes. -/
def textOf (l : List Nat) : ByteArray := strOfNums (l.map fun x : Nat => (x : Int))
def inT (len : Nat) (A n : Int) : Bool := decide (0 ≤ A) && decide (0 ≤ n) && decide (A + n ≤ len)
def textOut (l : List Nat) (A n : Int) : ByteArray := if inT l.length A n then textOf ((l.drop A.toNat).take n.toNat) else textOf []

theorem text_conv (q cap : Nat) (l : List Nat) (at_ n : Nat) (w : World) (hr : RowB w q cap l) (h : at_ + n ≤ l.length) :
    (convert 54 9 (.slice (some ⟨q, partOff n at_, none⟩) n n)).run Try.prog w = .ok (.string (textOf ((l.drop at_).take n))) w := by
  refine run_convert_bytes_arg w 54 5 Try.underlying54 Try.underlying5 q _ n n (((l.drop at_).take n).map fun x : Nat => (x : Int)) (by simp; omega) ?_ 9 Try.underlying9
  intro i hi
  have e : partOff n at_ + i = at_ + i := by unfold partOff; rw [if_neg (by omega)]
  rw [e, hr.cell (at_ + i) (by omega)]
  have hlen : i < (((l.drop at_).take n).map fun x : Nat => (x : Int)).length := by simp; omega
  rw [List.getD_eq_getElem?_getD, List.getElem?_eq_getElem (by omega), List.getD_eq_getElem?_getD, List.getElem?_eq_getElem hlen]
  simp

theorem conv_nil (w : World) : (convert 54 9 (.slice none 0 0)).run Try.prog w = .ok (.string (textOf [])) w :=
  run_convert_bytes_nil w 54 5 Try.underlying54 Try.underlying5 0 0 9 Try.underlying9

theorem text_any (p q cap : Nat) (l : List Nat) (pg most : Nat) (A n : Int) (w : World) (h : MemAt w p q cap l pg most)
    (hA1 : -9223372036854775808 ≤ A) (hA2 : A ≤ 9223372036854775807) (hn : n ≤ 9223372036854775807) :
    Calls Try.prog 12 #[.pointer (some ⟨p, 0, none⟩), .int .i64 A, .int .i64 n] w fun e w' => e = .returned (.tuple #[.string (textOut l A n), .bool (inT l.length A n)]) ∧ w = w' := by
  have h0 := h.slice
  have hsm := h.row.small
  unfold textOut
  by_cases hneg : A < 0
  · have hb : inT l.length A n = false := by simp [inT]; omega
    rw [hb]
    have e0 : textOf [] = ⟨#[]⟩ := rfl
    have E0 := Lib.hid e0
    clear e0
    go_enter Try.func12, Try.ntmps12
    go_wp2
    go_ret2
    exact ⟨by simp [E0.out], rfl⟩
  · obtain ⟨at_, rfl⟩ := Int.eq_ofNat_of_zero_le (show 0 ≤ A by omega)
    cases hb : inT l.length at_ n
    · have hno : ¬ (0 ≤ n ∧ (at_ : Int) + n ≤ l.length) := by simp [inT] at hb; omega
      have hc := conv_nil
      have HB := Lib.hid hb
      clear hb
      go_enter Try.func12, Try.ntmps12
      go_wp2_with fail
      refine (part_no p q cap l.length at_ n _ h0 hsm (by omega) hn hno).mono ?_
      rintro e w' ⟨rfl, rfl⟩
      go_wp2
      go_ret2
      exact ⟨by simp, rfl⟩
    · have hyes : 0 ≤ n ∧ (at_ : Int) + n ≤ l.length := by simp [inT] at hb; omega
      obtain ⟨m, rfl⟩ := Int.eq_ofNat_of_zero_le hyes.1
      have hc := text_conv q cap l at_ m w h.row (by omega)
      have HB := Lib.hid hb
      clear hb
      go_enter Try.func12, Try.ntmps12
      go_wp2_with fail
      refine (part_yes p q cap l.length at_ m _ h0 hsm h.row.cap (by omega)).mono ?_
      rintro e w' ⟨rfl, rfl⟩
      go_wp2
      go_ret2
      exact ⟨by simp, rfl⟩
end Go.Proofs.Ytfnicijfhpfohaa
