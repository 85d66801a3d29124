/- Contracts of part, Load, Store. -/
import Derived.Test.YtfnicijfhpfohaaA
namespace Go.Proofs.Ytfnicijfhpfohaa
open Go.RowKit

theorem sized_any (n : Int) (w : World) :
    Calls Try.prog 24 #[.int .i64 n] w fun e w' => e = .returned (.bool (isSized n)) ∧ w = w' := by
  unfold isSized
  go_enter Try.func24, Try.ntmps24
  go_wp2
  all_goals go_ret
  all_goals exact ⟨by simp_all, rfl⟩

theorem part_no (p q cap len : Nat) (at_ : Nat) (n : Int) (w : World) (h0 : w.cell? ⟨p, 0, none⟩ = some (.slice (some ⟨q, 0, none⟩) len cap))
    (hlen : len ≤ 2097152) (_hat : at_ < 18446744073709551616) (hn : n ≤ 9223372036854775807) (hno : ¬ (0 ≤ n ∧ at_ + n ≤ len)) :
    Calls Try.prog 23 #[.pointer (some ⟨p, 0, none⟩), .int .u64 at_, .int .i64 n] w fun e w' => e = .returned (.tuple #[.slice none 0 0, .bool false]) ∧ w = w' := by
  by_cases h1 : n < 0
  · go_enter Try.func23, Try.ntmps23
    go_wp2
    go_ret2
    exact ⟨rfl, rfl⟩
  · by_cases h2 : len < at_
    · go_enter Try.func23, Try.ntmps23
      go_wp2
      go_ret2
      exact ⟨rfl, rfl⟩
    · have h3 : (len : Int) - at_ < n := by omega
      go_enter Try.func23, Try.ntmps23
      go_wp2
      go_ret2
      exact ⟨rfl, rfl⟩

/-- Where a part of no bytes begins. -/
def partOff (n at_ : Nat) : Nat := if n = 0 then 0 else at_

theorem part_yes (p q cap len : Nat) (at_ : Nat) (n : Nat) (w : World) (h0 : w.cell? ⟨p, 0, none⟩ = some (.slice (some ⟨q, 0, none⟩) len cap))
    (hlen : len ≤ 2097152) (hcap : len ≤ cap) (hyes : at_ + n ≤ len) :
    Calls Try.prog 23 #[.pointer (some ⟨p, 0, none⟩), .int .u64 at_, .int .i64 n] w fun e w' => e = .returned (.tuple #[.slice (some ⟨q, partOff n at_, none⟩) n n, .bool true]) ∧ w = w' := by
  unfold partOff
  go_enter Try.func23, Try.ntmps23
  go_wp2
  all_goals go_ret2
  all_goals exact ⟨rfl, rfl⟩

theorem part_some (p q cap len : Nat) (at_ : Nat) (n : Nat) (w : World) (h0 : w.cell? ⟨p, 0, none⟩ = some (.slice (some ⟨q, 0, none⟩) len cap))
    (hlen : len ≤ 2097152) (hcap : len ≤ cap) (hyes : at_ + n ≤ len) (hn : 1 ≤ n) :
    Calls Try.prog 23 #[.pointer (some ⟨p, 0, none⟩), .int .u64 at_, .int .i64 n] w fun e w' => e = .returned (.tuple #[.slice (some ⟨q, at_, none⟩) n n, .bool true]) ∧ w = w' := by
  have h := part_yes p q cap len at_ n w h0 hlen hcap hyes
  unfold partOff at h
  rw [if_neg (by omega)] at h
  exact h

theorem sized_le (n : Nat) (hs : isSized n = true) : 1 ≤ n ∧ n ≤ 8 := by simp [isSized] at hs; omega

theorem load_yes (p q cap : Nat) (l : List Nat) (at_ n : Nat) (w : World) (h0 : w.cell? ⟨p, 0, none⟩ = some (.slice (some ⟨q, 0, none⟩) l.length cap))
    (hr : RowB w q cap l) (hyes : at_ + n ≤ l.length) (hs : isSized n = true) :
    Calls Try.prog 10 #[.pointer (some ⟨p, 0, none⟩), .int .u64 at_, .int .i64 n] w fun e w' => e = .returned (.tuple #[.int .u64 (numOf ((l.drop at_).take n) : Nat), .bool true]) ∧ w = w' := by
  have hn := sized_le n hs
  have hlen := hr.small
  have hcap := hr.cap
  go_enter Try.func10, Try.ntmps10
  go_wp2_with fail
  refine (part_some p q cap l.length at_ n _ h0 hlen hcap hyes hn.1).mono ?_
  rintro e w' ⟨rfl, rfl⟩
  go_wp2_with (first | (go_at_call 24; refine (sized_any _ _).mono ?_; rintro e w' ⟨rfl, rfl⟩))
  go_loop [10, 29] (fun v i => ∃ k : Nat, k ≤ n ∧ i = .int .i64 k ∧ v = .int .u64 (numOf ((l.drop at_).take k) : Nat)) (fun _ i => n - (intOf i).toNat)
  case atStart => exact ⟨0, by omega, rfl, by simp [numOf]⟩
  case round =>
    obtain ⟨k, hk, rfl, rfl⟩ := hrel
    by_cases hlt : k < n
    · have hcell := hr.cell (at_ + k) (by omega)
      obtain ⟨b, hb⟩ : ∃ b, b = l.getD (at_ + k) 0 := ⟨_, rfl⟩
      rw [← hb] at hcell
      have HS : Hid (bits .or .u64 (numOf ((l.drop at_).take k) : Int) (IntKind.u64.wrap (IntKind.u64.wrap (b : Int) * 2 ^ (8 * k))) = (numOf ((l.drop at_).take (k + 1)) : Nat)) := by
        have e : (l.drop at_).take (k + 1) = (l.drop at_).take k ++ [b] := by
          rw [List.take_add_one, List.getElem?_drop, hb, List.getD_eq_getElem?_getD, List.getElem?_eq_getElem (by omega)]; rfl
        show _ = _
        rw [e]
        refine load_step _ b k (by omega) (by simp; omega) ?_ fun x hx => hr.byte x (List.mem_of_mem_drop (List.mem_of_mem_take hx))
        rw [hb, List.getD_eq_getElem?_getD, List.getElem?_eq_getElem (by omega)]
        exact hr.byte _ (List.getElem_mem _)
      clear hb
      go_wp2
      go_round
      case rel => exact ⟨k + 1, by omega, by go_num, by rw [HS.out]⟩
      case measure => simp [intOf]; omega
    · obtain rfl : k = n := by omega
      go_wp2
      go_ret2
      exact ⟨rfl, rfl⟩

theorem load_no (p q cap : Nat) (l : List Nat) (at_ : Nat) (n : Int) (w : World) (h0 : w.cell? ⟨p, 0, none⟩ = some (.slice (some ⟨q, 0, none⟩) l.length cap))
    (hr : RowB w q cap l) (hat : at_ < 18446744073709551616) (hn : n ≤ 9223372036854775807) (hno : ¬ (isSized n = true ∧ at_ + n ≤ l.length)) :
    Calls Try.prog 10 #[.pointer (some ⟨p, 0, none⟩), .int .u64 at_, .int .i64 n] w fun e w' => e = .returned (.tuple #[.int .u64 0, .bool false]) ∧ w = w' := by
  have hlen := hr.small
  have hcap := hr.cap
  by_cases hin : 0 ≤ n ∧ at_ + n ≤ l.length
  · obtain ⟨m, rfl⟩ := Int.eq_ofNat_of_zero_le hin.1
    have hs : isSized (m : Int) = false := by
      cases h : isSized (m : Int)
      · rfl
      · exact absurd ⟨h, hin.2⟩ hno
    go_enter Try.func10, Try.ntmps10
    go_wp2_with fail
    refine (part_yes p q cap l.length at_ m _ h0 hlen hcap (by omega)).mono ?_
    rintro e w' ⟨rfl, rfl⟩
    go_wp2_with (first | (go_at_call 24; refine (sized_any _ _).mono ?_; rintro e w' ⟨rfl, rfl⟩))
    go_ret2
    exact ⟨rfl, rfl⟩
  · go_enter Try.func10, Try.ntmps10
    go_wp2_with fail
    refine (part_no p q cap l.length at_ n _ h0 hlen hat hn hin).mono ?_
    rintro e w' ⟨rfl, rfl⟩
    go_wp2_with (first | (go_at_call 24; refine (sized_any _ _).mono ?_; rintro e w' ⟨rfl, rfl⟩))
    go_ret2
    exact ⟨rfl, rfl⟩

theorem store_no (p q cap : Nat) (l : List Nat) (at_ : Nat) (n : Int) (v : Nat) (w : World) (h0 : w.cell? ⟨p, 0, none⟩ = some (.slice (some ⟨q, 0, none⟩) l.length cap))
    (hr : RowB w q cap l) (hat : at_ < 18446744073709551616) (hn : n ≤ 9223372036854775807) (hno : ¬ (isSized n = true ∧ at_ + n ≤ l.length)) :
    Calls Try.prog 9 #[.pointer (some ⟨p, 0, none⟩), .int .u64 at_, .int .i64 n, .int .u64 v] w fun e w' => e = .returned (.bool false) ∧ w = w' := by
  have hlen := hr.small
  have hcap := hr.cap
  by_cases hin : 0 ≤ n ∧ at_ + n ≤ l.length
  · obtain ⟨m, rfl⟩ := Int.eq_ofNat_of_zero_le hin.1
    have hs : isSized (m : Int) = false := by
      cases h : isSized (m : Int)
      · rfl
      · exact absurd ⟨h, hin.2⟩ hno
    go_enter Try.func9, Try.ntmps9
    go_wp2_with fail
    refine (part_yes p q cap l.length at_ m _ h0 hlen hcap (by omega)).mono ?_
    rintro e w' ⟨rfl, rfl⟩
    go_wp2_with (first | (go_at_call 24; refine (sized_any _ _).mono ?_; rintro e w' ⟨rfl, rfl⟩))
    go_ret
    exact ⟨rfl, rfl⟩
  · go_enter Try.func9, Try.ntmps9
    go_wp2_with fail
    refine (part_no p q cap l.length at_ n _ h0 hlen hat hn hin).mono ?_
    rintro e w' ⟨rfl, rfl⟩
    go_wp2_with (first | (go_at_call 24; refine (sized_any _ _).mono ?_; rintro e w' ⟨rfl, rfl⟩))
    go_ret
    exact ⟨rfl, rfl⟩

/-- What a store leaves: the bytes lie there; nothing but block q has changed, and of that the bytes alone. -/
structure Stored (w w' : World) (q cap : Nat) (l : List Nat) : Prop where
  row : RowB w' q cap l
  chg : Chg w w' [q]
  size : w'.heap.size = w.heap.size

theorem store_val (v k : Nat) (_hk : k ≤ 7) : IntKind.u8.wrap ((v : Int) / 2 ^ (8 * k)) = ((v / 256 ^ k % 256 : Nat) : Int) := by
  rw [IntKind.wrap_u8]
  have e : (2 : Int) ^ (8 * k) = ((256 ^ k : Nat) : Int) := by rw [← pow256]; push_cast; rfl
  rw [e, Int.natCast_emod, Int.natCast_ediv]
  rfl

theorem store_yes (p q cap : Nat) (l : List Nat) (at_ n : Nat) (v : Nat) (w : World) (h0 : w.cell? ⟨p, 0, none⟩ = some (.slice (some ⟨q, 0, none⟩) l.length cap))
    (hr : RowB w q cap l) (hyes : at_ + n ≤ l.length) (hs : isSized n = true) :
    Calls Try.prog 9 #[.pointer (some ⟨p, 0, none⟩), .int .u64 at_, .int .i64 n, .int .u64 v] w fun e w' => e = .returned (.bool true) ∧ Stored w w' q cap (putAt l at_ (bytesOf v n)) := by
  have hn := sized_le n hs
  have hlen := hr.small
  have hcap := hr.cap
  go_enter Try.func9, Try.ntmps9
  go_wp2_with fail
  refine (part_some p q cap l.length at_ n _ h0 hlen hcap hyes hn.1).mono ?_
  rintro e w' ⟨rfl, rfl⟩
  go_wp2_with (first | (go_at_call 24; refine (sized_any _ _).mono ?_; rintro e w' ⟨rfl, rfl⟩))
  go_loopw [28] (fun i wr => ∃ k : Nat, k ≤ n ∧ i = .int .i64 k ∧ Stored w wr q cap (putAt l at_ ((bytesOf v n).take k))) (fun i _ => n - (intOf i).toNat)
  case atStart => exact ⟨0, by omega, rfl, by simpa [putAt_nil] using hr, Chg.refl _ _, rfl⟩
  case round =>
    obtain ⟨k, hk, rfl, hst⟩ := hrel
    have hbl := bytesOf_length v n
    have hpl : (putAt l at_ ((bytesOf v n).take k)).length = l.length := putAt_length _ _ _ (by simp; omega)
    by_cases hlt : k < n
    · have hcell := hst.row.cell (at_ + k) (by omega)
      have hfr := hst.row.frozen (at_ + k)
      have HN : Hid (Stored w (wr.setCell ⟨q, at_ + k, none⟩ (.int .u8 (IntKind.u8.wrap ((v : Int) / 2 ^ (8 * k))))) q cap (putAt l at_ ((bytesOf v n).take (k + 1)))) := by
        have e : (bytesOf v n).take (k + 1) = (bytesOf v n).take k ++ [v / 256 ^ k % 256] := by
          rw [List.take_add_one, bytesOf_getElem _ _ _ hlt]; rfl
        rw [store_val v k (by omega)]
        show Stored _ _ _ _ _
        rw [e, putAt_snoc _ _ _ _ (by simp; omega)]
        have el : at_ + ((bytesOf v n).take k).length = at_ + k := by simp; omega
        rw [el]
        exact ⟨hst.row.stored _ _ (Nat.mod_lt _ (by decide)), hst.chg.setCell _ _ (fun _ => by simp), by simpa [World.setCell] using hst.size⟩
      clear hbl hpl
      go_wp2
      go_roundw
      case rel => exact ⟨k + 1, by omega, by go_num, HN.out⟩
      case measure => simp [intOf]; omega
    · obtain rfl : k = n := by omega
      rw [List.take_of_length_le (by omega)] at hst
      clear hbl hpl
      go_wp2
      go_ret
      exact ⟨rfl, hst⟩
end Go.Proofs.Ytfnicijfhpfohaa
