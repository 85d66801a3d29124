/- The contracts of Load, Store, New, Grow in one form each; what wakes does. -/
import Derived.Test.YtfnicijfhpfohaaD
namespace Go.Proofs.Ytfnicijfhpfohaa
open Go.RowKit

def inB (len at_ : Nat) (n : Int) : Bool := isSized n && decide (at_ + n ≤ len)
def loadOut (l : List Nat) (at_ : Nat) (n : Int) : Nat := if inB l.length at_ n then numOf ((l.drop at_).take n.toNat) else 0
def storeOut (l : List Nat) (at_ : Nat) (n : Int) (v : Nat) : List Nat := if inB l.length at_ n then putAt l at_ (bytesOf v n.toNat) else l

theorem storeOut_length (l : List Nat) (at_ : Nat) (n : Int) (v : Nat) : (storeOut l at_ n v).length = l.length := by
  unfold storeOut
  split
  · rename_i h
    simp only [inB, Bool.and_eq_true, decide_eq_true_eq] at h
    have hn : 1 ≤ n ∧ n ≤ 8 := by simp [isSized] at h; omega
    exact putAt_length _ _ _ (by rw [bytesOf_length]; omega)
  · rfl

theorem load_any (p q cap : Nat) (l : List Nat) (A n : Int) (at_ : Nat) (w : World) (hA : A = (at_ : Int)) (h0 : w.cell? ⟨p, 0, none⟩ = some (.slice (some ⟨q, 0, none⟩) l.length cap))
    (hr : RowB w q cap l) (hat : at_ < 18446744073709551616) (hn : n ≤ 9223372036854775807) :
    Calls Try.prog 10 #[.pointer (some ⟨p, 0, none⟩), .int .u64 A, .int .i64 n] w fun e w' => e = .returned (.tuple #[.int .u64 (loadOut l at_ n : Nat), .bool (inB l.length at_ n)]) ∧ w = w' := by
  subst hA
  unfold loadOut
  cases hb : inB l.length at_ n
  · have h := load_no p q cap l at_ n w h0 hr hat hn (by simpa [inB] using hb)
    simpa using h
  · have hb' : isSized n = true ∧ at_ + n ≤ l.length := by simpa [inB] using hb
    have hn' : 1 ≤ n ∧ n ≤ 8 := by have := hb'.1; simp [isSized] at this; omega
    obtain ⟨m, rfl⟩ := Int.eq_ofNat_of_zero_le (show 0 ≤ n by omega)
    have h := load_yes p q cap l at_ m w h0 hr (by omega) hb'.1
    simpa using h

theorem RowB.same {w : World} {q cap : Nat} {l : List Nat} (h : RowB w q cap l) : Stored w w q cap l := ⟨h, Chg.refl _ _, rfl⟩

theorem store_any (p q cap : Nat) (l : List Nat) (A n V : Int) (at_ v : Nat) (w : World) (hA : A = (at_ : Int)) (hV : V = (v : Int)) (h0 : w.cell? ⟨p, 0, none⟩ = some (.slice (some ⟨q, 0, none⟩) l.length cap))
    (hr : RowB w q cap l) (hat : at_ < 18446744073709551616) (hn : n ≤ 9223372036854775807) :
    Calls Try.prog 9 #[.pointer (some ⟨p, 0, none⟩), .int .u64 A, .int .i64 n, .int .u64 V] w fun e w' => e = .returned (.bool (inB l.length at_ n)) ∧ Stored w w' q cap (storeOut l at_ n v) := by
  subst hA hV
  unfold storeOut
  cases hb : inB l.length at_ n
  · refine (store_no p q cap l at_ n v w h0 hr hat hn (by simpa [inB] using hb)).mono ?_
    rintro e w' ⟨rfl, rfl⟩
    exact ⟨rfl, by simpa using hr.same⟩
  · have hb' : isSized n = true ∧ at_ + n ≤ l.length := by simpa [inB] using hb
    have hn' : 1 ≤ n ∧ n ≤ 8 := by have := hb'.1; simp [isSized] at this; omega
    obtain ⟨m, rfl⟩ := Int.eq_ofNat_of_zero_le (show 0 ≤ n by omega)
    have h := store_yes p q cap l at_ m v w h0 hr (by omega) hb'.1
    simpa using h

/-- A store leaves a memory a memory. -/
theorem MemAt.stored {w w' : World} {p q cap : Nat} {l l' : List Nat} {pg most : Nat} (h : MemAt w p q cap l pg most) (hs : Stored w w' q cap l') (hl : l'.length = l.length) : MemAt w' p q cap l' pg most :=
  ⟨by rw [hs.chg.block _ h.lt (by simp; exact h.pq), hl]; exact h.head, hs.row, h.pq, hl.trans h.pages, h.most_le, h.pg_le⟩

theorem load_mem (p q cap : Nat) (l : List Nat) (pg most : Nat) (A n : Int) (at_ : Nat) (w : World) (h : MemAt w p q cap l pg most) (hA : A = (at_ : Int)) (hat : at_ < 18446744073709551616) (hn : n ≤ 9223372036854775807) :
    Calls Try.prog 10 #[.pointer (some ⟨p, 0, none⟩), .int .u64 A, .int .i64 n] w fun e w' => e = .returned (.tuple #[.int .u64 (loadOut l at_ n : Nat), .bool (inB l.length at_ n)]) ∧ w = w' :=
  load_any p q cap l A n at_ w hA h.slice h.row hat hn

structure StoredMem (w w' : World) (p q cap : Nat) (l : List Nat) (pg most : Nat) : Prop where
  mem : MemAt w' p q cap l pg most
  chg : Chg w w' [q]
  size : w'.heap.size = w.heap.size

theorem store_mem (p q cap : Nat) (l : List Nat) (pg most : Nat) (A n V : Int) (at_ v : Nat) (w : World) (h : MemAt w p q cap l pg most) (hA : A = (at_ : Int)) (hV : V = (v : Int)) (hat : at_ < 18446744073709551616) (hn : n ≤ 9223372036854775807) :
    Calls Try.prog 9 #[.pointer (some ⟨p, 0, none⟩), .int .u64 A, .int .i64 n, .int .u64 V] w fun e w' => e = .returned (.bool (inB l.length at_ n)) ∧ StoredMem w w' p q cap (storeOut l at_ n v) pg most := by
  refine (store_any p q cap l A n V at_ v w hA hV h.slice h.row hat hn).mono ?_
  rintro e w' ⟨rfl, hs⟩
  exact ⟨rfl, h.stored hs (storeOut_length _ _ _ _), hs.chg, hs.size⟩

theorem new_any (N mx : Int) (n : Nat) (has : Bool) (w : World) (hN : N = (n : Int)) (hn : n ≤ 32) :
    Calls Try.prog 8 #[.agg #[.int .i64 N, .int .i64 mx, .bool has]] w (NewMem n (mostOf n mx has) w) := by
  subst hN
  exact new_yes n mx has w hn

def growOut (pg most n : Nat) : Int := if n ≤ most - pg then pg else -1
def growLen (l : List Nat) (pg most n : Nat) : List Nat := if n ≤ most - pg then l ++ zeros n else l
def growPg (pg most n : Nat) : Nat := if n ≤ most - pg then pg + n else pg
def GrowMem (p q : Nat) (l : List Nat) (pg most n : Nat) (w : World) (e : Ending) (w' : World) : Prop :=
  e = .returned (.int .i64 (growOut pg most n)) ∧ ∃ q' cap', Grown1 w w' p q (growLen l pg most n) (growPg pg most n) most q' cap'
theorem grow_any (p q cap : Nat) (l : List Nat) (pg most : Nat) (N : Int) (n : Nat) (w : World) (h : MemAt w p q cap l pg most) (hN : N = (n : Int)) :
    Calls Try.prog 13 #[.pointer (some ⟨p, 0, none⟩), .int .u64 N] w (GrowMem p q l pg most n w) := by
  subst hN
  unfold GrowMem growOut growLen growPg
  by_cases hn : n ≤ most - pg
  · rw [if_pos hn, if_pos hn, if_pos hn]
    exact grow_yes p q cap l pg most n w h hn
  · rw [if_neg hn, if_neg hn, if_neg hn]
    refine (grow_no p q cap l pg most n w h (by omega)).mono ?_
    rintro e w' ⟨rfl, hc⟩
    exact ⟨rfl, q, cap, h.kept hc (by simp) (by simp), hc.mono (by simp), .inl rfl⟩

theorem wakes_any (w : World) : Calls Try.prog 11 #[] w fun e w' => e = .returned (.bool true) ∧ Chg w w' [] := by
  go_enter Try.func11, Try.ntmps11
  go_wp2_with fail
  refine (new_any 1 0 1 false _ rfl (by omega)).mono ?_
  rintro e w1 ⟨p, q, rfl, hnew⟩
  have hmem : MemAt w1 p q (1 * 65536) (zeros 1) 1 32 := hnew.mem
  have hchg := hnew.chg
  have hpn := hnew.p_new
  have hqn := hnew.q_new
  clear hnew
  have hlen := zeros_length 1
  generalize zeros 1 = l at *
  have i1 : inB l.length 65532 4 = true := by rw [hlen]; decide +kernel
  have i2 : inB l.length 65533 4 = false := by rw [hlen]; decide +kernel
  clear hlen
  go_wp2_with fail
  refine (load_mem p q _ _ _ _ 65532 4 65532 _ hmem rfl (by omega) (by omega)).mono ?_
  rintro e w2 ⟨rfl, rfl⟩
  go_wp2_with fail
  refine (load_mem p q _ _ _ _ 65533 4 65533 _ hmem rfl (by omega) (by omega)).mono ?_
  rintro e w2 ⟨rfl, rfl⟩
  go_wp2_with fail
  refine (grow_any p q _ _ _ _ 31 31 _ hmem rfl).mono ?_
  rintro e w2 ⟨rfl, q2, cap2, hg⟩
  have hmem2 : MemAt w2 p q2 cap2 (growLen l 1 32 31) 32 32 := hg.mem
  have hchg2 := hg.chg
  have hq2 : w.heap.size ≤ q2 := by rcases hg.new with h | h <;> have := hchg.size <;> omega
  have go1 : growOut 1 32 31 = 1 := rfl
  clear hg hmem
  generalize growLen l 1 32 31 = l2 at *
  go_wp2_with fail
  refine (grow_any p q2 _ _ _ _ 1 1 _ hmem2 rfl).mono ?_
  rintro e w3 ⟨rfl, q3, cap3, hg⟩
  have hmem3 : MemAt w3 p q3 cap3 (growLen l2 32 32 1) 32 32 := hg.mem
  have hchg3 := hg.chg
  have go2 : growOut 32 32 1 = -1 := rfl
  clear hg hmem2
  generalize growLen l2 32 32 1 = l3 at *
  go_wp2_with fail
  refine (pages_any p q3 _ _ _ _ _ hmem3).mono ?_
  rintro e w4 ⟨rfl, rfl⟩
  go_wp2_with fail
  have hfin : Chg w w3 [] := by
    have s1 := hchg.size
    have s2 := hchg2.size
    refine ⟨hchg3.os.trans (hchg2.os.trans hchg.os), hchg3.tape.trans (hchg2.tape.trans hchg.tape), hchg3.output.trans (hchg2.output.trans hchg.output), by have := hchg3.size; omega, fun k hk _ => ?_⟩
    rw [hchg3.block k (by omega) (by simp; omega), hchg2.block k (by omega) (by simp; omega), hchg.block k hk (by simp)]
  go_ret
  exact ⟨rfl, hfin⟩
end Go.Proofs.Ytfnicijfhpfohaa
