/- Contracts of the reference's Store, New, Grow. -/
import Derived.Test.YtfnicijfhpfohaaR
namespace Go.Proofs.Ytfnicijfhpfohaa
open Go.RowKit

theorem rstore_any (p q cap : Nat) (l : List Nat) (A n V : Int) (at_ v : Nat) (w : World) (hpq : p ≠ q) (hA : A = (at_ : Int)) (hV : V = (v : Int)) (h0 : w.cell? ⟨p, 0, none⟩ = some (.slice (some ⟨q, 0, none⟩) l.length cap))
    (hp : p < w.heap.size) (hr : RowB w q cap l) (hat : at_ < 18446744073709551616) (hn1 : -9223372036854775808 ≤ n) (hn : n ≤ 9223372036854775807) :
    Calls Try.prog 20 #[.pointer (some ⟨p, 0, none⟩), .int .u64 A, .int .i64 n, .int .u64 V] w fun e w' => e = .returned (.bool (inB l.length at_ n)) ∧ Stored w w' q cap (storeOut l at_ n v) := by
  subst hA hV
  have hlen := hr.small
  cases hs : isSized n
  · have hb : inB l.length at_ n = false := by simp [inB, hs]
    have ho : storeOut l at_ n v = l := by unfold storeOut; rw [hb]; simp
    have HO := Lib.hid ho
    clear ho
    go_enter Try.func20, Try.ntmps20
    go_wp2_with (first | (go_at_call 27; refine (rsized_any _ _).mono ?_; rintro e w' ⟨rfl, rfl⟩))
    go_ret
    exact ⟨by simp [hb], by rw [HO.out]; exact hr.same⟩
  · have hn' : 1 ≤ n ∧ n ≤ 8 := by have := hs; simp [isSized] at this; omega
    obtain ⟨m, rfl⟩ := Int.eq_ofNat_of_zero_le (show 0 ≤ n by omega)
    cases ht : isThere l.length at_ m
    · have hb : inB l.length at_ m = false := by simp only [isThere, decide_eq_false_iff_not] at ht; simp only [inB, hs, Bool.true_and, decide_eq_false_iff_not]; omega
      have ho : storeOut l at_ m v = l := by unfold storeOut; rw [hb]; simp
      have HO := Lib.hid ho
      clear ho
      go_enter Try.func20, Try.ntmps20
      go_wp2_with (first | (go_at_call 27; refine (rsized_any _ _).mono ?_; rintro e w' ⟨rfl, rfl⟩) | (go_at_call 28; refine (there_any p q cap l.length at_ m _ h0 hlen hat hn1 hn).mono ?_; rintro e w' ⟨rfl, rfl⟩))
      go_ret
      exact ⟨by simp [hb], by rw [HO.out]; exact hr.same⟩
    · have hin : at_ + m ≤ l.length := by simp only [isThere, decide_eq_true_eq] at ht; omega
      have hb : inB l.length at_ m = true := inB_true hs (by omega)
      have ho : storeOut l at_ m v = putAt l at_ (bytesOf v m) := by unfold storeOut; rw [if_pos hb, Int.toNat_natCast]
      have HO := Lib.hid ho
      clear ho
      go_enter Try.func20, Try.ntmps20
      go_wp2_with (first | (go_at_call 27; refine (rsized_any _ _).mono ?_; rintro e w' ⟨rfl, rfl⟩) | (go_at_call 28; refine (there_any p q cap l.length at_ m _ h0 hlen hat hn1 hn).mono ?_; rintro e w' ⟨rfl, rfl⟩))
      go_loopw [9] (fun i wr => ∃ k : Nat, k ≤ m ∧ i = .int .i64 k ∧ Stored w wr q cap (putAt l at_ ((bytesOf v m).take k))) (fun i _ => m - (intOf i).toNat)
      case atStart => exact ⟨0, by omega, rfl, by simpa [putAt_nil] using hr, Chg.refl _ _, rfl⟩
      case round =>
        obtain ⟨k, hk, rfl, hst⟩ := hrel
        have hbl := bytesOf_length v m
        have hpl : (putAt l at_ ((bytesOf v m).take k)).length = l.length := putAt_length _ _ _ (by simp; omega)
        by_cases hlt : k < m
        · have hcell := hst.row.cell (at_ + k) (by omega)
          have hfr := hst.row.frozen (at_ + k)
          have h0r : wr.cell? ⟨p, 0, none⟩ = some (.slice (some ⟨q, 0, none⟩) l.length cap) := by rw [← h0]; exact World.cell?_of_block (w := w) (hst.chg.block p hp (by simp; exact hpq))
          have HN : Hid (Stored w (wr.setCell ⟨q, at_ + k, none⟩ (.int .u8 (IntKind.u8.wrap ((v : Int) / 2 ^ (8 * k))))) q cap (putAt l at_ ((bytesOf v m).take (k + 1)))) := by
            have e : (bytesOf v m).take (k + 1) = (bytesOf v m).take k ++ [v / 256 ^ k % 256] := by
              rw [List.take_add_one, bytesOf_getElem _ _ _ hlt]; rfl
            rw [store_val v k (by omega)]
            show Stored _ _ _ _ _
            rw [e, putAt_snoc _ _ _ _ (by simp; omega)]
            have el : at_ + ((bytesOf v m).take k).length = at_ + k := by simp; omega
            rw [el]
            exact ⟨hst.row.stored _ _ (Nat.mod_lt _ (by decide)), hst.chg.setCell _ _ (fun _ => by simp), by simpa [World.setCell] using hst.size⟩
          clear hbl hpl
          go_wp2
          go_roundw
          case rel => exact ⟨k + 1, by omega, by go_num, HN.out⟩
          case measure => simp [intOf]; omega
        · obtain rfl : k = m := by omega
          rw [List.take_of_length_le (by omega)] at hst
          clear hbl hpl
          have HH := Lib.hid hst
          go_wp2
          go_ret
          exact ⟨by simp [hb], by rw [HO.out]; exact HH.out⟩

theorem rload_mem (p q cap : Nat) (l : List Nat) (pg most : Nat) (A n : Int) (at_ : Nat) (w : World) (h : RMemAt w p q cap l pg most) (hA : A = (at_ : Int)) (hat : at_ < 18446744073709551616) (hn1 : -9223372036854775808 ≤ n) (hn : n ≤ 9223372036854775807) :
    Calls Try.prog 18 #[.pointer (some ⟨p, 0, none⟩), .int .u64 A, .int .i64 n] w fun e w' => e = .returned (.tuple #[.int .u64 (loadOut l at_ n : Nat), .bool (inB l.length at_ n)]) ∧ w = w' :=
  rload_any p q cap l A n at_ w hA h.slice h.row hat hn1 hn

structure RStoredMem (w w' : World) (p q cap : Nat) (l : List Nat) (pg most : Nat) : Prop where
  mem : RMemAt w' p q cap l pg most
  chg : Chg w w' [q]
  size : w'.heap.size = w.heap.size
theorem rstore_mem (p q cap : Nat) (l : List Nat) (pg most : Nat) (A n V : Int) (at_ v : Nat) (w : World) (h : RMemAt w p q cap l pg most) (hA : A = (at_ : Int)) (hV : V = (v : Int)) (hat : at_ < 18446744073709551616) (hn1 : -9223372036854775808 ≤ n) (hn : n ≤ 9223372036854775807) :
    Calls Try.prog 20 #[.pointer (some ⟨p, 0, none⟩), .int .u64 A, .int .i64 n, .int .u64 V] w fun e w' => e = .returned (.bool (inB l.length at_ n)) ∧ RStoredMem w w' p q cap (storeOut l at_ n v) pg most := by
  refine (rstore_any p q cap l A n V at_ v w h.pq hA hV h.slice h.lt h.row hat hn1 hn).mono ?_
  rintro e w' ⟨rfl, hs⟩
  exact ⟨rfl, ⟨by rw [hs.chg.block _ h.lt (by simp; exact h.pq), storeOut_length]; exact h.head, hs.row, h.pq, by rw [storeOut_length]; exact h.pages, h.most_le, h.pg_le⟩, hs.chg, hs.size⟩
end Go.Proofs.Ytfnicijfhpfohaa
