/- Contracts of the reference's memory. -/
import Derived.Test.YtfnicijfhpfohaaP2
import Derived.Lib.Hide
namespace Go.Proofs.Ytfnicijfhpfohaa
open Go.RowKit

structure RMemAt (w : World) (p q cap : Nat) (l : List Nat) (pg most : Nat) : Prop where
  head : w.heap[p]? = some (.cells #[.slice (some ⟨q, 0, none⟩) l.length cap, .int .i64 (most : Int)] 69 (0, 0))
  row : RowB w q cap l
  pq : p ≠ q
  pages : l.length = pg * 65536
  most_le : most ≤ 32
  pg_le : pg ≤ most
theorem RMemAt.slice {w : World} {p q cap : Nat} {l : List Nat} {pg most : Nat} (h : RMemAt w p q cap l pg most) : w.cell? ⟨p, 0, none⟩ = some (.slice (some ⟨q, 0, none⟩) l.length cap) := cell_of_head h.head 0
theorem RMemAt.mostCell {w : World} {p q cap : Nat} {l : List Nat} {pg most : Nat} (h : RMemAt w p q cap l pg most) : w.cell? ⟨p, 1, none⟩ = some (.int .i64 (most : Int)) := cell_of_head h.head 1
theorem RMemAt.lt {w : World} {p q cap : Nat} {l : List Nat} {pg most : Nat} (h : RMemAt w p q cap l pg most) : p < w.heap.size := (Array.getElem?_eq_some_iff.1 h.head).1
theorem RMemAt.kept {w w' : World} {p q cap : Nat} {l : List Nat} {pg most : Nat} {ps : List Nat} (h : RMemAt w p q cap l pg most) (hc : Chg w w' ps) (hp : p ∉ ps) (hq : q ∉ ps) : RMemAt w' p q cap l pg most :=
  ⟨by rw [hc.block _ h.lt hp]; exact h.head, h.row.kept hc hq, h.pq, h.pages, h.most_le, h.pg_le⟩

theorem rsized_any (n : Int) (w : World) :
    Calls Try.prog 27 #[.int .i64 n] w fun e w' => e = .returned (.bool (isSized n)) ∧ w = w' := by
  unfold isSized
  go_enter Try.func27, Try.ntmps27
  go_wp2
  all_goals go_ret
  all_goals exact ⟨by simp_all, rfl⟩

def isThere (len at_ : Nat) (n : Int) : Bool := decide (0 ≤ n ∧ at_ + n ≤ len)

theorem there_any (p q cap len : Nat) (at_ : Nat) (n : Int) (w : World) (h0 : w.cell? ⟨p, 0, none⟩ = some (.slice (some ⟨q, 0, none⟩) len cap))
    (hlen : len ≤ 2097152) (hat : at_ < 18446744073709551616) (hn1 : -9223372036854775808 ≤ n) (hn2 : n ≤ 9223372036854775807) :
    Calls Try.prog 28 #[.pointer (some ⟨p, 0, none⟩), .int .u64 at_, .int .i64 n] w fun e w' => e = .returned (.bool (isThere len at_ n)) ∧ w = w' := by
  cases hh : isThere len at_ n
  · have h1 : ¬ (0 ≤ n ∧ at_ + n ≤ len) := by simpa [isThere] using hh
    clear hh
    by_cases h2 : len < at_
    · go_enter Try.func28, Try.ntmps28
      go_wp2
      go_ret
      exact ⟨by first | rfl | (simp; omega), rfl⟩
    · by_cases h3 : n < 0
      · have h4 : IntKind.u64.wrap n = n + 18446744073709551616 := by rw [IntKind.wrap_u64]; omega
        go_enter Try.func28, Try.ntmps28
        go_wp2
        go_ret
        exact ⟨by first | rfl | (simp; omega), rfl⟩
      · have h5 : (len : Int) - at_ < n := by omega
        go_enter Try.func28, Try.ntmps28
        go_wp2
        go_ret
        exact ⟨by first | rfl | (simp; omega), rfl⟩
  · have h1 : 0 ≤ n ∧ at_ + n ≤ len := by simpa [isThere] using hh
    obtain ⟨h1, h2⟩ := h1
    clear hh
    go_enter Try.func28, Try.ntmps28
    go_wp2
    go_ret
    exact ⟨by first | rfl | (simp; omega), rfl⟩

theorem rpages_any (p q cap : Nat) (l : List Nat) (pg most : Nat) (w : World) (h : RMemAt w p q cap l pg most) :
    Calls Try.prog 17 #[.pointer (some ⟨p, 0, none⟩)] w fun e w' => e = .returned (.int .i64 pg) ∧ w = w' := by
  have h1 := h.slice
  have h2 : (l.length : Int) / 65536 = pg := by have := h.pages; omega
  have h3 := h.row.small
  go_enter Try.func17, Try.ntmps17
  go_wp2
  go_ret
  exact ⟨rfl, rfl⟩
theorem rpages_nil (w : World) :
    Calls Try.prog 17 #[.pointer none] w fun e w' => e = .returned (.int .i64 0) ∧ w = w' := by
  go_enter Try.func17, Try.ntmps17
  go_wp2
  go_ret
  exact ⟨rfl, rfl⟩
theorem rload_step (b v : Nat) (hb : b < 256) (hv : v < 72057594037927936) : bits .or .u64 ((v : Int) * 256) (b : Int) = ((b + 256 * v : Nat) : Int) := by
  have e : (v : Int) * 256 = ((256 * v : Nat) : Int) := by omega
  rw [e, u64_or_nat _ _ (by omega) (by omega), nat_join 8 _ _ (by omega) (by omega), Nat.add_comm]

theorem drop_cons (l : List Nat) (i n : Nat) (h : i < l.length) (x : Nat) (hx : l.getD i 0 = x) : (l.drop i).take (n + 1) = x :: (l.drop (i + 1)).take n := by
  rw [List.getD_eq_getElem?_getD, List.getElem?_eq_getElem h] at hx
  rw [List.drop_eq_getElem_cons h, List.take_succ_cons]
  rw [← hx]; rfl

theorem rload_any (p q cap : Nat) (l : List Nat) (A n : Int) (at_ : Nat) (w : World) (hA : A = (at_ : Int)) (h0 : w.cell? ⟨p, 0, none⟩ = some (.slice (some ⟨q, 0, none⟩) l.length cap))
    (hr : RowB w q cap l) (hat : at_ < 18446744073709551616) (hn1 : -9223372036854775808 ≤ n) (hn : n ≤ 9223372036854775807) :
    Calls Try.prog 18 #[.pointer (some ⟨p, 0, none⟩), .int .u64 A, .int .i64 n] w fun e w' => e = .returned (.tuple #[.int .u64 (loadOut l at_ n : Nat), .bool (inB l.length at_ n)]) ∧ w = w' := by
  subst hA
  have hlen := hr.small
  cases hs : isSized n
  · have hb : inB l.length at_ n = false := by simp [inB, hs]
    have ho := load_out l at_ n hb
    go_enter Try.func18, Try.ntmps18
    go_wp2_with (first | (go_at_call 27; refine (rsized_any _ _).mono ?_; rintro e w' ⟨rfl, rfl⟩))
    go_ret2
    exact ⟨by simp [ho, hb], rfl⟩
  · have hn' : 1 ≤ n ∧ n ≤ 8 := by have := hs; simp [isSized] at this; omega
    obtain ⟨m, rfl⟩ := Int.eq_ofNat_of_zero_le (show 0 ≤ n by omega)
    cases ht : isThere l.length at_ m
    · have hb : inB l.length at_ m = false := by simp only [isThere, decide_eq_false_iff_not] at ht; simp only [inB, hs, Bool.true_and, decide_eq_false_iff_not]; omega
      have ho := load_out l at_ m hb
      go_enter Try.func18, Try.ntmps18
      go_wp2_with (first | (go_at_call 27; refine (rsized_any _ _).mono ?_; rintro e w' ⟨rfl, rfl⟩) | (go_at_call 28; refine (there_any p q cap l.length at_ m _ h0 hlen hat hn1 hn).mono ?_; rintro e w' ⟨rfl, rfl⟩))
      go_ret2
      exact ⟨by simp [ho, hb], rfl⟩
    · have hin : at_ + m ≤ l.length := by simp only [isThere, decide_eq_true_eq] at ht; omega
      have hb : inB l.length at_ m = true := inB_true hs (by omega)
      have ho : loadOut l at_ m = numOf ((l.drop at_).take m) := by unfold loadOut; rw [if_pos hb, Int.toNat_natCast]
      have HO := Lib.hid ho
      clear ho
      go_enter Try.func18, Try.ntmps18
      go_wp2_with (first | (go_at_call 27; refine (rsized_any _ _).mono ?_; rintro e w' ⟨rfl, rfl⟩) | (go_at_call 28; refine (there_any p q cap l.length at_ m _ h0 hlen hat hn1 hn).mono ?_; rintro e w' ⟨rfl, rfl⟩))
      go_loop [8, 9] (fun v i => ∃ j : Nat, j ≤ m ∧ i = .int .i64 ((m : Int) - 1 - j) ∧ v = .int .u64 (numOf ((l.drop (at_ + (m - j))).take j) : Nat)) (fun _ i => (intOf i + 1).toNat)
      case atStart => exact ⟨0, by omega, by simp, by simp [numOf]⟩
      case round =>
        obtain ⟨j, hj, rfl, rfl⟩ := hrel
        by_cases hlt : j < m
        · obtain ⟨b, hb⟩ : ∃ b, l.getD (at_ + (m - 1 - j)) 0 = b := ⟨_, rfl⟩
          have hcell := hr.cell (at_ + (m - 1 - j)) (by omega)
          rw [hb] at hcell
          have e1 : (l.drop (at_ + (m - (j + 1)))).take (j + 1) = b :: (l.drop (at_ + (m - j))).take j := by
            have := drop_cons l (at_ + (m - 1 - j)) j (by omega) b hb
            rw [show at_ + (m - (j + 1)) = at_ + (m - 1 - j) from by omega, show at_ + (m - j) = at_ + (m - 1 - j) + 1 from by omega]
            exact this
          obtain ⟨V, hV⟩ : ∃ V, numOf ((l.drop (at_ + (m - j))).take j) = V := ⟨_, rfl⟩
          have hVlt : V < 256 ^ j := by
            have := numOf_lt ((l.drop (at_ + (m - j))).take j) (fun x hx => hr.byte x (List.mem_of_mem_drop (List.mem_of_mem_take hx)))
            rw [hV] at this
            have hle : ((l.drop (at_ + (m - j))).take j).length = j := by simp; omega
            rw [hle] at this
            exact this
          have hV7 : V < 72057594037927936 := Nat.lt_of_lt_of_le hVlt (Nat.pow_le_pow_right (n := 256) (by decide) (show j ≤ 7 by omega))
          have hbl : b < 256 := by
            rw [← hb, List.getD_eq_getElem?_getD, List.getElem?_eq_getElem (by omega)]
            exact hr.byte _ (List.getElem_mem _)
          have HS : Hid (bits .or .u64 ((V : Int) * 256) (b : Int) = (numOf ((l.drop (at_ + (m - (j + 1)))).take (j + 1)) : Nat)) := by
            rw [e1]
            show _ = (((b + 256 * numOf ((l.drop (at_ + (m - j))).take j) : Nat)) : Int)
            rw [hV]
            exact rload_step b V hbl hV7
          rw [hV]
          clear hb e1 hV hVlt
          go_wp2
          go_round
          case rel => exact ⟨j + 1, by omega, by go_num, by rw [HS.out]⟩
          case measure => simp [intOf]; omega
        · obtain rfl : j = m := by omega
          have e0 : at_ + (j - j) = at_ := by omega
          rw [e0]
          clear e0
          go_wp2
          go_ret2
          exact ⟨by simp [HO.out], rfl⟩
end Go.Proofs.Ytfnicijfhpfohaa
