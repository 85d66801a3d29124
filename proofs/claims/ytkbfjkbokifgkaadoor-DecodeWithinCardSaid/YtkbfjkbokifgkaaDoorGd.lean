/- Numbers in groups of seven bits. -/
import Derived.Test.YtkbfjkbokifgkaaDoorGa
import Derived.Laws.BytesArg
import Derived.Test.YtkbfjkbokifgkaaDoorMg
import Derived.Laws.Bits64
import Derived.Test.YtkbfjkbokifgkaaDoorMb
import Derived.Test.YtkbfjkbokifgkaaDoorFa
import Derived.Test.YtkbfjkbokifgkaaDoorMh
import Derived.Test.YtkbfjkbokifgkaaDoorFc
import Derived.Deep.Cut
import Derived.Deep.RegionLaw
import Derived.Test.YtkbfjkbokifgkaaDoorGk
import Derived.StillTailTactics
import Derived.Outline
import Derived.Test.YtkbfjkbokifgkaaDoorMk
namespace Go.Proofs.YtkbfjkbokifgkaaDoor
open Go.RowKit
set_option linter.unusedVariables false

def lebU (n : Nat) : List UInt8 := if h : n < 128 then [UInt8.ofNat n] else UInt8.ofNat (n % 128 + 128) :: lebU (n / 128)
termination_by n
decreasing_by omega
theorem lebU_last {n : Nat} (h : n < 128) : lebU n = [UInt8.ofNat n] := by
  rw [lebU, dif_pos h]
theorem lebU_more {n : Nat} (h : ¬ n < 128) : lebU n = UInt8.ofNat (n % 128 + 128) :: lebU (n / 128) := by
  rw [lebU, dif_neg h]
theorem lebU_len : ∀ (k n : Nat), n < 128 ^ (k + 1) → (lebU n).length ≤ k + 1
  | 0, n, h => by
    rw [lebU_last (by simpa using h)]
    simp
  | k + 1, n, h => by
    by_cases hn : n < 128
    · rw [lebU_last hn]
      simp
    · rw [lebU_more hn, List.length_cons]
      have := lebU_len k (n / 128) (by
        rw [Nat.div_lt_iff_lt_mul (by omega)]
        rw [Nat.pow_succ] at h
        exact h)
      omega
theorem lebU_ten {n : Nat} (h : n < 18446744073709551616) : (lebU n).length ≤ 10 := lebU_len 9 n (by
  have : (128 : Nat) ^ 10 = 1180591620717411303424 := by decide
  omega)
def lebS (n : Int) : List UInt8 := if h : -64 ≤ n ∧ n ≤ 63 then [UInt8.ofNat (n % 128).toNat] else UInt8.ofNat ((n % 128).toNat + 128) :: lebS (n / 128)
termination_by n.natAbs
decreasing_by omega
theorem lebS_last {n : Int} (h : -64 ≤ n ∧ n ≤ 63) : lebS n = [UInt8.ofNat (n % 128).toNat] := by
  rw [lebS, dif_pos h]
theorem lebS_more {n : Int} (h : ¬ (-64 ≤ n ∧ n ≤ 63)) : lebS n = UInt8.ofNat ((n % 128).toNat + 128) :: lebS (n / 128) := by
  rw [lebS, dif_neg h]
theorem lebS_len : ∀ (k : Nat) (n b : Int), b = 64 * 128 ^ k → -b ≤ n → n < b → (lebS n).length ≤ k + 1
  | 0, n, b, hb, h1, h2 => by
    rw [lebS_last (by simp at hb; omega)]
    simp
  | k + 1, n, b, hb, h1, h2 => by
    by_cases hn : -64 ≤ n ∧ n ≤ 63
    · rw [lebS_last hn]
      simp
    · rw [lebS_more hn, List.length_cons]
      have e : b = 64 * 128 ^ k * 128 := by rw [hb, Int.pow_succ, Int.mul_assoc]
      obtain ⟨c, hc⟩ : ∃ c : Int, c = 64 * 128 ^ k := ⟨_, rfl⟩
      rw [← hc] at e
      have := lebS_len k (n / 128) c hc (by omega) (by omega)
      omega
theorem lebS_ten {n : Int} (h1 : -9223372036854775808 ≤ n) (h2 : n ≤ 9223372036854775807) : (lebS n).length ≤ 10 := lebS_len 9 n _ rfl (by
  have : (64 * 128 ^ 9 : Int) = 590295810358705651712 := by decide
  omega) (by
  have : (64 * 128 ^ 9 : Int) = 590295810358705651712 := by decide
  omega)
theorem or_128 (m : Nat) : bits BinOp.or .u8 ((m : Int) % 256) 128 = ((UInt8.ofNat (m % 128 + 128)).toNat : Int) := by
  have h : ∀ r : Fin 256, bits BinOp.or .u8 ((r.val : Nat) : Int) 128 = ((r.val % 128 + 128 : Nat) : Int) := by decide +kernel
  have := h ⟨m % 256, by omega⟩
  simp only at this
  have e : ((m % 256 : Nat) : Int) = (m : Int) % 256 := by omega
  rw [e] at this
  rw [this]
  have e2 : m % 256 % 128 = m % 128 := by omega
  rw [e2, UInt8.toNat_ofNat']
  congr 1
  omega
theorem or_128i (m : Int) : bits BinOp.or .u8 (m % 256) 128 = ((UInt8.ofNat ((m % 128).toNat + 128)).toNat : Int) := by
  have := or_128 (m % 256).toNat
  have e : (((m % 256).toNat : Int) % 256) = m % 256 := by omega
  rw [e] at this
  rw [this]
  congr 4
  omega
theorem and_127i (m : Int) : bits BinOp.and .u8 (m % 256) 127 = ((UInt8.ofNat (m % 128).toNat).toNat : Int) := by
  have h : ∀ r : Fin 256, bits BinOp.and .u8 ((r.val : Nat) : Int) 127 = ((r.val % 128 : Nat) : Int) := by decide +kernel
  have := h ⟨(m % 256).toNat, by omega⟩
  simp only at this
  have e : (((m % 256).toNat : Nat) : Int) = m % 256 := by omega
  rw [e] at this
  rw [this, UInt8.toNat_ofNat']
  congr 1
  omega
theorem u8_small {m : Nat} (h : m < 256) : (m : Int) = ((UInt8.ofNat m).toNat : Int) := by
  rw [UInt8.toNat_ofNat']
  congr 1
  omega
/-- A row of bytes as a string. -/
theorem conv_own {w : World} {base : Nat} {v : Value} {n : Nat} {l : List UInt8} (h : w.ownsRow base 5 1 v n (cb l)) : (convert 83 9 v).run Tryd.prog w = .ok (.string (mks l)) w := by
  have hn : l.length = n := by simpa [cb] using h.1
  rcases h.2 with ⟨rfl, h0⟩ | ⟨g, cap, cur, rfl, _⟩
  · have : l = [] := List.eq_nil_of_length_eq_zero (by omega)
    subst this
    exact run_convert_bytes_nil w 83 5 Tryd.underlying83 Tryd.underlying5 0 0 9 Tryd.underlying9
  · subst hn
    exact run_convert_bytes_back w 83 9 5 ⟨g, 0, none⟩ cap l Tryd.underlying83 Tryd.underlying5 Tryd.underlying9 (fun j hj => by
      have := h.cells (g := g) rfl j (.int .u8 (l[j].toNat : Int)) (by simp [cb, hj])
      exact this)

set_option maxRecDepth 100000 in
set_option maxHeartbeats 1000000 in
theorem putU_any (n : Nat) (hn : n < 18446744073709551616) (w : World) :
    Calls Tryd.prog 121 #[.int .u64 n] w fun e w' => e = .returned (.string (mks (lebU n))) ∧ Below w.heap.size w w' := by
  obtain ⟨L, hL⟩ : ∃ L, L = lebU n := ⟨_, rfl⟩
  have hten : L.length ≤ 10 := by rw [hL]; exact lebU_ten hn
  obtain ⟨i5, hi5, hz5, hs5, hby5⟩ := info5_parts
  rw [← hL]
  replace hL := Lib.hid hL
  go_enter Tryd.func121, Tryd.ntmps121
  go_wp2_with fail
  go_loopw [0, 3] (fun v0 v3 wr => ∃ (m : Nat) (l : List UInt8) (a : Option Addr) (c : Nat), v0 = .int .u64 m ∧ v3 = .slice a l.length c ∧ m < 18446744073709551616 ∧ Hid (wr.ownsRow w.heap.size 5 1 (.slice a l.length c) l.length (cb l)) ∧ Hid (L = l ++ lebU m) ∧ Hid (Below w.heap.size w wr)) (fun v0 _ _ => (intOf v0).toNat)
  case atStart => exact ⟨n, [], none, 0, rfl, rfl, hn, Lib.hid (World.ownsRow_nil _ _ _ _), Lib.hid hL.out, Lib.hid (Below.refl _ _)⟩
  case round =>
    obtain ⟨m, l, a, c, rfl, rfl, hm, hown, hc, hb⟩ := hrel
    have hll : l.length ≤ 10 := by have := congrArg List.length hc.out; rw [List.length_append] at this; omega
    by_cases hlt : m < 128
    · go_wp2_with (first | (
        at_builtin
        refine wpList_append_lies _ rfl _ _ _ rfl w.heap.size 5 i5 _ 1 1 Tryd.underlying83 hi5 hz5 hs5 hby5 rfl (by omega) (.slice a l.length c) l.length (cb l) (by rfl) (hown.out.alloc _)
          ⟨wr.heap.size, 0, none⟩ 1 1 [.int .u8 (m : Int)] (by rfl) (by rfl) (World.news_of_block (cs := #[.int .u8 (m : Int)]) (t := 5) (fr := (0, 0)) (heap_alloc_new _ _)) (by intro u hu; simp only [List.mem_cons, List.mem_nil_iff, or_false] at hu; subst hu; rfl)
          (by omega) (by unfold maxLen; omega) (by omega) (by have := hb.out.size; simp; omega) (wr.heap.size + 1) (by simp) ?_
        intro g cap w1 hown1 hgrow hat hlt1
        rw [u8_small (show m < 256 by omega)] at hown1
        have hown2 : w1.ownsRow w.heap.size 5 1 (.slice (some ⟨g, 0, none⟩) (l.length + 1) cap) (l.length + 1) (cb (l ++ [UInt8.ofNat m])) := by rw [cb_append]; exact hown1
        have hbel := Lib.hid (((hb.out.alloc hb.out.size (.cells #[.int .u8 (m : Int)] 5)).grown hgrow (by have := hb.out.size; simp; omega) (fun k hk => (hown.out.lt k hk).1)))
        have hcv := conv_own hown2))
      go_ret
      refine ⟨?_, hbel.out⟩
      rw [hc.out, lebU_last hlt]
      rfl
    · go_wp2_with (first | (
        at_builtin
        refine wpList_append_lies _ rfl _ _ _ rfl w.heap.size 5 i5 _ 1 1 Tryd.underlying83 hi5 hz5 hs5 hby5 rfl (by omega) (.slice a l.length c) l.length (cb l) (by rfl) (hown.out.alloc _)
          ⟨wr.heap.size, 0, none⟩ 1 1 [.int .u8 (bits BinOp.or .u8 ((m : Int) % 256) 128)] (by rfl) (by rfl) (World.news_of_block (cs := #[.int .u8 (bits BinOp.or .u8 ((m : Int) % 256) 128)]) (t := 5) (fr := (0, 0)) (heap_alloc_new _ _)) (by intro u hu; simp only [List.mem_cons, List.mem_nil_iff, or_false] at hu; subst hu; rfl)
          (by omega) (by unfold maxLen; omega) (by omega) (by have := hb.out.size; simp; omega) (wr.heap.size + 1) (by simp) ?_
        intro g cap w1 hown1 hgrow hat hlt1
        rw [or_128 m] at hown1
        have hown2 : w1.ownsRow w.heap.size 5 1 (.slice (some ⟨g, 0, none⟩) (l.length + 1) cap) (l.length + 1) (cb (l ++ [UInt8.ofNat (m % 128 + 128)])) := by rw [cb_append]; exact hown1
        have hbel := Lib.hid (((hb.out.alloc hb.out.size (.cells #[.int .u8 (bits BinOp.or .u8 ((m : Int) % 256) 128)] 5)).grown hgrow (by have := hb.out.size; simp; omega) (fun k hk => (hown.out.lt k hk).1)))
        replace hown2 := Lib.hid hown2
        clear hown1))
      exact ⟨⟨m / 128, l ++ [UInt8.ofNat (m % 128 + 128)], some ⟨g, 0, none⟩, cap, by simp, by simp, by omega, Lib.hid (by simpa using hown2.out), Lib.hid (by rw [hc.out, lebU_more hlt]; simp), hbel⟩, by simp [intOf]; omega⟩
set_option maxRecDepth 100000 in
set_option maxHeartbeats 2000000 in
theorem putS_any (n : Int) (h1 : -9223372036854775808 ≤ n) (h2 : n ≤ 9223372036854775807) (w : World) :
    Calls Tryd.prog 119 #[.int .i64 n] w fun e w' => e = .returned (.string (mks (lebS n))) ∧ Below w.heap.size w w' := by
  obtain ⟨L, hL⟩ : ∃ L, L = lebS n := ⟨_, rfl⟩
  have hten : L.length ≤ 10 := by rw [hL]; exact lebS_ten h1 h2
  obtain ⟨i5, hi5, hz5, hs5, hby5⟩ := info5_parts
  rw [← hL]
  replace hL := Lib.hid hL
  go_enter Tryd.func119, Tryd.ntmps119
  go_wp2_with fail
  go_loopw [0, 3] (fun v0 v3 wr => ∃ (m : Int) (l : List UInt8) (a : Option Addr) (c : Nat), v0 = .int .i64 m ∧ v3 = .slice a l.length c ∧ -9223372036854775808 ≤ m ∧ m ≤ 9223372036854775807 ∧ Hid (wr.ownsRow w.heap.size 5 1 (.slice a l.length c) l.length (cb l)) ∧ Hid (L = l ++ lebS m) ∧ Hid (Below w.heap.size w wr)) (fun v0 _ _ => (intOf v0).natAbs)
  case atStart => exact ⟨n, [], none, 0, rfl, rfl, h1, h2, Lib.hid (World.ownsRow_nil _ _ _ _), Lib.hid hL.out, Lib.hid (Below.refl _ _)⟩
  case round =>
    clear h1 h2
    obtain ⟨m, l, a, c, rfl, rfl, hm1, hm2, hown, hc, hb⟩ := hrel
    have hll : l.length ≤ 10 := by have := congrArg List.length hc.out; rw [List.length_append] at this; omega
    by_cases ha : m < -64
    · go_wp2_with (first | (
        at_builtin
        refine wpList_append_lies _ rfl _ _ _ rfl w.heap.size 5 i5 _ 1 1 Tryd.underlying83 hi5 hz5 hs5 hby5 rfl (by omega) (.slice a l.length c) l.length (cb l) (by rfl) (hown.out.alloc _)
          ⟨wr.heap.size, 0, none⟩ 1 1 [.int .u8 (bits BinOp.or .u8 (m % 256) 128)] (by rfl) (by rfl) (World.news_of_block (cs := #[.int .u8 (bits BinOp.or .u8 (m % 256) 128)]) (t := 5) (fr := (0, 0)) (heap_alloc_new _ _)) (by intro u hu; simp only [List.mem_cons, List.mem_nil_iff, or_false] at hu; subst hu; rfl)
          (by omega) (by unfold maxLen; omega) (by omega) (by have := hb.out.size; simp; omega) (wr.heap.size + 1) (by simp) ?_
        intro g cap w1 hown1 hgrow hat hlt1
        rw [or_128i m] at hown1
        have hown2 : w1.ownsRow w.heap.size 5 1 (.slice (some ⟨g, 0, none⟩) (l.length + 1) cap) (l.length + 1) (cb (l ++ [UInt8.ofNat ((m % 128).toNat + 128)])) := by rw [cb_append]; exact hown1
        have hbel := Lib.hid (((hb.out.alloc hb.out.size (.cells #[.int .u8 (bits BinOp.or .u8 (m % 256) 128)] 5)).grown hgrow (by have := hb.out.size; simp; omega) (fun k hk => (hown.out.lt k hk).1)))
        replace hown2 := Lib.hid hown2
        clear hown1))
      exact ⟨⟨m / 128, l ++ [UInt8.ofNat ((m % 128).toNat + 128)], some ⟨g, 0, none⟩, cap, by simp, by simp, by omega, by omega, Lib.hid (by simpa using hown2.out), Lib.hid (by rw [hc.out, lebS_more (by omega)]; simp), hbel⟩, by simp [intOf]; omega⟩
    · by_cases hz : 63 < m
      · go_wp2_with (first | (
          at_builtin
          refine wpList_append_lies _ rfl _ _ _ rfl w.heap.size 5 i5 _ 1 1 Tryd.underlying83 hi5 hz5 hs5 hby5 rfl (by omega) (.slice a l.length c) l.length (cb l) (by rfl) (hown.out.alloc _)
            ⟨wr.heap.size, 0, none⟩ 1 1 [.int .u8 (bits BinOp.or .u8 (m % 256) 128)] (by rfl) (by rfl) (World.news_of_block (cs := #[.int .u8 (bits BinOp.or .u8 (m % 256) 128)]) (t := 5) (fr := (0, 0)) (heap_alloc_new _ _)) (by intro u hu; simp only [List.mem_cons, List.mem_nil_iff, or_false] at hu; subst hu; rfl)
            (by omega) (by unfold maxLen; omega) (by omega) (by have := hb.out.size; simp; omega) (wr.heap.size + 1) (by simp) ?_
          intro g cap w1 hown1 hgrow hat hlt1
          rw [or_128i m] at hown1
          have hown2 : w1.ownsRow w.heap.size 5 1 (.slice (some ⟨g, 0, none⟩) (l.length + 1) cap) (l.length + 1) (cb (l ++ [UInt8.ofNat ((m % 128).toNat + 128)])) := by rw [cb_append]; exact hown1
          have hbel := Lib.hid (((hb.out.alloc hb.out.size (.cells #[.int .u8 (bits BinOp.or .u8 (m % 256) 128)] 5)).grown hgrow (by have := hb.out.size; simp; omega) (fun k hk => (hown.out.lt k hk).1)))
          replace hown2 := Lib.hid hown2
          clear hown1))
        exact ⟨⟨m / 128, l ++ [UInt8.ofNat ((m % 128).toNat + 128)], some ⟨g, 0, none⟩, cap, by simp, by simp, by omega, by omega, Lib.hid (by simpa using hown2.out), Lib.hid (by rw [hc.out, lebS_more (by omega)]; simp), hbel⟩, by simp [intOf]; omega⟩
      · go_wp2_with (first | (
          at_builtin
          refine wpList_append_lies _ rfl _ _ _ rfl w.heap.size 5 i5 _ 1 1 Tryd.underlying83 hi5 hz5 hs5 hby5 rfl (by omega) (.slice a l.length c) l.length (cb l) (by rfl) (hown.out.alloc _)
            ⟨wr.heap.size, 0, none⟩ 1 1 [.int .u8 (bits BinOp.and .u8 (m % 256) 127)] (by rfl) (by rfl) (World.news_of_block (cs := #[.int .u8 (bits BinOp.and .u8 (m % 256) 127)]) (t := 5) (fr := (0, 0)) (heap_alloc_new _ _)) (by intro u hu; simp only [List.mem_cons, List.mem_nil_iff, or_false] at hu; subst hu; rfl)
            (by omega) (by unfold maxLen; omega) (by omega) (by have := hb.out.size; simp; omega) (wr.heap.size + 1) (by simp) ?_
          intro g cap w1 hown1 hgrow hat hlt1
          rw [and_127i m] at hown1
          have hown2 : w1.ownsRow w.heap.size 5 1 (.slice (some ⟨g, 0, none⟩) (l.length + 1) cap) (l.length + 1) (cb (l ++ [UInt8.ofNat (m % 128).toNat])) := by rw [cb_append]; exact hown1
          have hbel := Lib.hid (((hb.out.alloc hb.out.size (.cells #[.int .u8 (bits BinOp.and .u8 (m % 256) 127)] 5)).grown hgrow (by have := hb.out.size; simp; omega) (fun k hk => (hown.out.lt k hk).1)))
          have hcv := conv_own hown2))
        go_ret
        refine ⟨?_, hbel.out⟩
        rw [hc.out, lebS_last (by omega)]
        rfl
end Go.Proofs.YtkbfjkbokifgkaaDoor

namespace Go.Proofs.YtkbfjkbokifgkaaDoor
open Go.RowKit
set_option linter.unusedVariables false

def b1 (n : Int) : UInt8 := UInt8.ofNat (n % 256).toNat
def uB (n : Int) : List UInt8 := lebU (n % 18446744073709551616).toNat
theorem b1_val (n : Int) : n % 256 = ((b1 n).toNat : Int) := by
  unfold b1
  rw [UInt8.toNat_ofNat']
  omega
theorem uB_len (n : Int) : (uB n).length ≤ 10 := lebU_ten (by omega)
theorem strl_mks_len (l : List UInt8) : (mks l).size = l.length := rfl
theorem Tr.cell {p : Nat} {v v' : Value} {w w' : World} (h : Tr p v v' w w') {a : Addr} {u : Value} (hp : a.block ≠ p) (hv : v.ownBlock ≠ some a.block) (hc : w.cell? a = some u) : w'.cell? a = some u :=
  (World.cell?_of_block (h.block a.block (World.block_lt_of_cell? w a hc) hp hv)).trans hc
/-- A row of bytes that is read. -/
def BIn (w : World) (v2 : Value) (l : List UInt8) : Prop :=
  (v2 = .slice none 0 0 ∧ l = []) ∨ ∃ g c, v2 = .slice (some ⟨g, 0, none⟩) l.length c ∧ ∀ j (hj : j < l.length), w.cell? ⟨g, j, none⟩ = some (.int .u8 (l[j].toNat : Int))
theorem BIn.slice {w : World} {v2 : Value} {l : List UInt8} (h : BIn w v2 l) : ∃ a c, v2 = .slice a l.length c := by
  rcases h with ⟨rfl, rfl⟩ | ⟨g, c, rfl, _⟩
  · exact ⟨_, _, rfl⟩
  · exact ⟨_, _, rfl⟩
theorem BIn.conv {w : World} {v2 : Value} {l : List UInt8} (h : BIn w v2 l) : (convert 83 9 v2).run Tryd.prog w = .ok (.string (mks l)) w := by
  rcases h with ⟨rfl, rfl⟩ | ⟨g, c, rfl, hc⟩
  · exact run_convert_bytes_nil w 83 5 Tryd.underlying83 Tryd.underlying5 0 0 9 Tryd.underlying9
  · exact run_convert_bytes_back w 83 9 5 ⟨g, 0, none⟩ c l Tryd.underlying83 Tryd.underlying5 Tryd.underlying9 (fun j hj => by simpa [Addr.add_lit] using hc j hj)
theorem BIn.tr {p : Nat} {v v' : Value} {w w' : World} {v2 : Value} {l : List UInt8} (h : BIn w v2 l) (ht : Tr p v v' w w') (hp : v2.ownBlock ≠ some p) (hv : ∀ g, v2.ownBlock = some g → v.ownBlock ≠ some g) : BIn w' v2 l := by
  rcases h with h | ⟨g, c, rfl, hc⟩
  · exact .inl h
  · exact .inr ⟨g, c, rfl, fun j hj => ht.cell (fun e => hp (by rw [← e]; rfl)) (hv g rfl) (hc j hj)⟩
theorem BIn.own {w : World} {base : Nat} {v : Value} {l : List UInt8} (h : w.ownsRow base 5 1 v l.length (cb l)) : BIn w v l := by
  rcases h.2 with ⟨rfl, h0⟩ | ⟨g, cap, cur, rfl, _⟩
  · exact .inl ⟨rfl, List.eq_nil_of_length_eq_zero h0⟩
  · exact .inr ⟨g, cap, rfl, fun j hj => by
      have := h.cells (g := g) rfl j (.int .u8 (l[j].toNat : Int)) (by simp [cb, hj])
      simpa [Addr.add_lit] using this⟩

section
variable {N p : Nat} {w : World} {mv : List Value} {v : Value} {s : WS}
set_option maxRecDepth 100000 in
set_option maxHeartbeats 1000000 in
theorem ebyte_any (h : WAt N p w mv v s) (n : Int) (hb : s.n + 1 ≤ 4611686018427387904) :
    Calls Tryd.prog 58 #[.pointer (some ⟨p, 0, none⟩), .int .i64 n] w fun e w' => e = .returned (.tuple #[]) ∧ WOut N p w mv v (put [b1 n] s) w' := by
  have hbel := (Below.refl w.heap.size w).alloc (Nat.le_refl _) (.cells #[.int .u8 (n % 256)] 5)
  have h1 := Lib.hid (h.below hbel)
  have hcv : (convert 83 9 (.slice (some ⟨w.heap.size, 0, none⟩) 1 1)).run Tryd.prog (w.alloc (.cells #[.int .u8 (n % 256)] 5)) = .ok (.string (mks [b1 n])) (w.alloc (.cells #[.int .u8 (n % 256)] 5)) :=
    BIn.conv (l := [b1 n]) (.inr ⟨w.heap.size, 1, rfl, fun j hj => by
      have : j = 0 := by simpa using hj
      subst this
      rw [World.cell?_alloc_at _ _ _ _ rfl, b1_val]
      rfl⟩)
  have ht1 := Lib.hid (Tr.of_below (p := p) (v := v) hbel)
  clear h hbel
  go_enter Tryd.func58, Tryd.ntmps58
  go_wp2_with fail
  refine (text_any h1.out (mks [b1 n]) (by rw [strl_mks_len]; exact hb)).mono ?_
  rintro e w2 ⟨rfl, ho⟩
  go_wp2
  go_end0
  exact ⟨rfl, WOut.trans ht1.out ho⟩
set_option maxRecDepth 100000 in
set_option maxHeartbeats 1000000 in
theorem eu_any (h : WAt N p w mv v s) (n : Int) (hb : s.n + 10 ≤ 4611686018427387904) :
    Calls Tryd.prog 117 #[.pointer (some ⟨p, 0, none⟩), .int .i64 n] w fun e w' => e = .returned (.tuple #[]) ∧ WOut N p w mv v (put (uB n) s) w' := by
  have hl := uB_len n
  replace h := Lib.hid h
  obtain ⟨k, hk⟩ : ∃ k : Nat, n % 18446744073709551616 = (k : Int) := ⟨(n % 18446744073709551616).toNat, by omega⟩
  have hk2 : k < 18446744073709551616 := by omega
  have hu : uB n = lebU k := by unfold uB; rw [hk]; rfl
  rw [hu] at hl ⊢
  clear hu
  have hwk : IntKind.u64.wrap n = (k : Int) := by rw [IntKind.wrap_u64, hk]
  go_enter Tryd.func117, Tryd.ntmps117
  go_wp2_with fail
  refine (putU_any k hk2 w).mono ?_
  rintro e w1 ⟨rfl, hb1⟩
  replace hb1 := Lib.hid hb1
  go_wp2_with fail
  refine (text_any (h.out.below hb1.out) (mks (lebU k)) (by rw [strl_mks_len]; omega)).mono ?_
  rintro e w2 ⟨rfl, ho⟩
  go_wp2
  go_end0
  exact ⟨rfl, WOut.trans (Tr.of_below hb1.out) ho⟩
end
end Go.Proofs.YtkbfjkbokifgkaaDoor

namespace Go.Proofs.YtkbfjkbokifgkaaDoor
open Go.RowKit
set_option linter.unusedVariables false

def numsC (l : List Int) : List (List UInt8) := uB l.length :: l.map uB
def bytsC (l : List Int) : List (List UInt8) := uB l.length :: l.map fun n => [b1 n]
theorem tot_map {α : Type} (f : α → List UInt8) (c : Nat) (hf : ∀ x, (f x).length ≤ c) : ∀ l : List α, tot (l.map f) ≤ c * l.length
  | [] => by simp [tot]
  | x :: l => by
    have := tot_map f c hf l
    have h2 := hf x
    rw [List.map_cons, tot, List.length_cons, Nat.mul_add]
    omega
theorem puts_take {α : Type} {f : α → List UInt8} {l : List α} {i : Nat} {x : α} (hx : l[i]? = some x) (s : WS) : puts ((l.take (i + 1)).map f) s = put (f x) (puts ((l.take i).map f) s) := by
  rw [List.take_add_one, hx, List.map_append, puts_append]
  rfl
theorem numsC_tot (l : List Int) : tot (numsC l) ≤ 10 + 10 * l.length := by
  have := tot_map uB 10 (fun x => uB_len x) l
  have := uB_len l.length
  simp only [numsC, tot]
  omega
theorem bytsC_tot (l : List Int) : tot (bytsC l) ≤ 10 + l.length := by
  have := tot_map (fun n : Int => [b1 n]) 1 (fun x => by simp) l
  have := uB_len l.length
  simp only [bytsC, tot]
  omega
/-- What lies in V lies in w, too, and is not written on. -/
def Vw (V : World) (p : Nat) (v : Value) (w : World) : Prop := ∀ a u, V.cell? a = some u → w.cell? a = some u ∧ a.block ≠ p ∧ v.ownBlock ≠ some a.block
theorem Vw.keeps {V w : World} {p : Nat} {v : Value} (h : Vw V p v w) : ∀ a u, V.cell? a = some u → w.cell? a = some u := fun a u hc => (h a u hc).1
theorem Vw.tr {V w w' : World} {p : Nat} {v v' : Value} (h : Vw V p v w) (ht : Tr p v v' w w') : Vw V p v' w' := fun a u hc => by
  obtain ⟨h1, h2, h3⟩ := h a u hc
  refine ⟨ht.cell h2 h3 h1, h2, ?_⟩
  rcases ht.own with e | e
  · rw [e]; exact h3
  · intro e2
    have := e _ e2
    have := World.block_lt_of_cell? w a h1
    omega
theorem IntsIn.old {w0 w : World} {p : Nat} {v : Value} {a : Option Addr} {l : List Int} (h : IntsIn w0 a l) (hb : Vw w0 p v w) : IntsIn w a l := h.keep hb.keeps
/-- Old memory. -/
theorem Vw.old {V w : World} {p : Nat} {mv : List Value} {v : Value} {s : WS} (h : WAt V.heap.size p w mv v s) (hb : Below V.heap.size V w) : Vw V p v w := fun a u hc => by
  have hlt := World.block_lt_of_cell? V a hc
  have hN := h.hN
  refine ⟨keep_below hb a u hc, by omega, fun e => ?_⟩
  have := h.ownN _ e
  omega

section
variable {N : Nat} {w0 : World} {p : Nat} {w : World} {mv : List Value} {v : Value} {s : WS}
set_option maxRecDepth 100000 in
set_option maxHeartbeats 1000000 in
theorem numbers_any (h : WAt N p w mv v s) (hb : Vw w0 p v w) (l : List Int) (a : Option Addr) (c : Nat) (hi : IntsIn w0 a l) (hn : s.n + 10 + 10 * l.length ≤ 4611686018427387904) :
    Calls Tryd.prog 118 #[.pointer (some ⟨p, 0, none⟩), .slice a l.length c] w fun e w' => e = .returned (.tuple #[]) ∧ WOut N p w mv v (puts (numsC l) s) w' := by
  obtain ⟨n, hl⟩ : ∃ n, l.length = n := ⟨_, rfl⟩
  have hl63 := hi.1
  have hlow := h.low
  have hul := uB_len (n : Int)
  rw [hl] at hn hl63 ⊢
  replace h := Lib.hid h
  replace hb := Lib.hid hb
  replace hi := Lib.hid hi
  go_enter Tryd.func118, Tryd.ntmps118
  go_wp2_with fail
  refine (eu_any h.out n (by omega)).mono ?_
  rintro e w1 ⟨rfl, v1, h1, t1⟩
  replace h1 := Lib.hid h1
  replace t1 := Lib.hid t1
  go_wp2_with fail
  go_loopw [12] (fun vi wr => ∃ (i : Nat) (v2 : Value), i ≤ n ∧ vi = .int .i64 i ∧ Hid (WAt N p wr mv v2 (puts ((l.take i).map uB) (put (uB n) s))) ∧ Hid (Tr p v v2 w wr)) (fun vi _ => n - (intOf vi).toNat)
  case atStart => exact ⟨0, v1, Nat.zero_le _, rfl, Lib.hid h1.out, t1⟩
  case round =>
    obtain ⟨i, v2, hle, rfl, h2, t2⟩ := hrel
    by_cases hlt : i < n
    · obtain ⟨x, hx⟩ : ∃ x, l[i]? = some x := ⟨_, List.getElem?_eq_getElem (by omega)⟩
      obtain ⟨b, o, rfl, hc⟩ := (hi.out.old (hb.out.tr t2.out)).cell hx
      have hst := Lib.hid (puts_take (f := uB) hx (put (uB n) s))
      have htot := tot_map uB 10 (fun x => uB_len x) (l.take i)
      have htl : (l.take i).length = i := by rw [List.length_take]; omega
      rw [htl] at htot
      clear hx htl
      go_wp2_with fail
      refine (eu_any h2.out x (by rw [puts_n, put_n]; omega)).mono ?_
      rintro e w3 ⟨rfl, v3, h3, t3⟩
      rw [← hst.out] at h3
      have hfb := Lib.hid (t2.out.trans t3)
      clear hst htot t3
      go_wp2
      exact ⟨⟨i + 1, v3, by omega, by simp, Lib.hid h3, hfb⟩, by simp [intOf]; omega⟩
    · have hin : i = n := by omega
      have hv : puts (numsC l) s = puts ((l.take i).map uB) (put (uB n) s) := by rw [numsC, puts, List.take_of_length_le (by omega), hl]
      replace hv := Lib.hid hv
      go_wp2
      go_end0
      exact ⟨rfl, by rw [hv.out]; exact ⟨v2, h2.out, t2.out⟩⟩
end
end Go.Proofs.YtkbfjkbokifgkaaDoor

namespace Go.Proofs.YtkbfjkbokifgkaaDoor
open Go.RowKit
set_option linter.unusedVariables false
set_option linter.unusedSimpArgs false

/-- What stands behind an instruction's byte. -/
def wTail (f op x y n : Int) (ls : List Int) (elen : Nat) (B E : WS → WS) (s : WS) : WS :=
  if f = 1 then (if op = 63 ∨ op = 64 then put [b1 0] s else s)
  else if f = 2 ∨ f = 3 then
    put [b1 11] (if 0 < elen then E (put [b1 5] (B (put [b1 (if x = 0 then 64 else x)] s))) else B (put [b1 (if x = 0 then 64 else x)] s))
  else if f = 4 ∨ f = 6 then put (uB x) s
  else if f = 5 then put (uB x) (puts (numsC ls) s)
  else if f = 7 then put [b1 0] (put (uB x) s)
  else if f = 8 then put (uB y) (put (uB x) s)
  else if f = 9 then put (lebS n) s
  else s
def wl : Il → WS → WS
  | .nil, s => s
  | .cons op x y n ls b e r, s => if 1048576 < s.n then s else wl r (wTail (formV op) op x y n ls e.len (wl b) (wl e) (put [b1 op] s))
/-- How many bytes at most. -/
def cl : Il → Nat
  | .nil => 0
  | .cons op x y n ls b e r => 40 + 10 * ls.length + cl b + cl e + cl r
def wi (op x y n : Int) (ls : List Int) (b e : Il) (s : WS) : WS := wTail (formV op) op x y n ls e.len (wl b) (wl e) (put [b1 op] s)
def InR (f : WS → WS) (c : Nat) : Prop := ∀ s, s.n ≤ (f s).n ∧ (f s).n ≤ s.n + c
theorem wTail_n (f op x y n : Int) (hn : -9223372036854775808 ≤ n ∧ n ≤ 9223372036854775807) (ls : List Int) (elen : Nat) (B E : WS → WS) (cB cE : Nat) (hB : InR B cB) (hE : InR E cE) : InR (wTail f op x y n ls elen B E) (35 + 10 * ls.length + cB + cE) := by
  intro s
  have hx := uB_len x
  have hy := uB_len y
  have hs := lebS_ten hn.1 hn.2
  have ht := numsC_tot ls
  unfold wTail
  generalize (if x = 0 then (64 : Int) else x) = z
  have b1s := hB (put [b1 z] s)
  have e1s := hE (put [b1 5] (B (put [b1 z] s)))
  simp only [put_n, List.length_cons, List.length_nil] at b1s e1s
  (repeat' split) <;> (try simp only [put_n, puts_n, List.length_cons, List.length_nil]) <;> omega
theorem formV_range (op : Int) : 0 ≤ formV op ∧ formV op ≤ 10 := by
  unfold formV
  constructor <;> (repeat' split) <;> omega
theorem formV_cases (op : Int) : formV op = 0 ∨ formV op = 1 ∨ formV op = 2 ∨ formV op = 3 ∨ formV op = 4 ∨ formV op = 5 ∨ formV op = 6 ∨ formV op = 7 ∨ formV op = 8 ∨ formV op = 9 ∨ formV op = 10 := by
  have := formV_range op
  omega
/-- Constants that an int holds. -/
def nOk : Il → Prop
  | .nil => True
  | .cons _ _ _ n _ b e r => (-9223372036854775808 ≤ n ∧ n ≤ 9223372036854775807) ∧ nOk b ∧ nOk e ∧ nOk r
theorem wl_n : ∀ l : Il, nOk l → InR (wl l) (cl l)
  | .nil, _, s => ⟨Int.le_refl _, by simp [wl, cl]⟩
  | .cons op x y n ls b e r, h, s => by
    have hT := wTail_n (formV op) op x y n h.1 ls e.len (wl b) (wl e) (cl b) (cl e) (wl_n b h.2.1) (wl_n e h.2.2.1) (put [b1 op] s)
    have hR := wl_n r h.2.2.2 (wTail (formV op) op x y n ls e.len (wl b) (wl e) (put [b1 op] s))
    simp only [put_n, List.length_cons, List.length_nil] at hT
    unfold wl cl
    split <;> omega
theorem Tr.box {p : Nat} {v v' : Value} {w w' : World} (h : Tr p v v' w w') {q : Nat} {vs : Array Value} (hp : q ≠ p) (hv : v.ownBlock ≠ some q) (hb : Box w q vs) : Box w' q vs := fun j u hu => h.cell hp hv (hb j u hu)
def ListC (l : Il) : Prop := ∀ (w0 : World) (N p : Nat) (w : World) (mv : List Value) (v : Value) (s : WS) (a : Option Addr) (c : Nat), WAt N p w mv v s → Vw w0 p v w → l.len ≤ 9223372036854775807 → IlIn w0 a 0 l → nOk l → s.n + cl l ≤ 4611686018427387904 →
  Calls Tryd.prog 57 #[.pointer (some ⟨p, 0, none⟩), .slice a l.len c] w fun e w' => e = .returned (.tuple #[]) ∧ WOut N p w mv v (wl l s) w'
set_option maxRecDepth 100000 in
set_option maxHeartbeats 4000000 in
theorem winstr_any (op x y n : Int) (ls : List Int) (b e : Il) (hn : -9223372036854775808 ≤ n ∧ n ≤ 9223372036854775807) (ok5 : nOk b) (ok6 : nOk e) (sb : ListC b) (se : ListC e) (w0 : World) (N p : Nat) (w : World) (mv : List Value) (v : Value) (s : WS) (a4 : Option Addr) (k4 : Nat) (a5 : Option Addr) (k5 : Nat) (a6 : Option Addr) (k6 : Nat)
    (h : WAt N p w mv v s) (hb : Vw w0 p v w) (i4 : IntsIn w0 a4 ls) (l5 : b.len ≤ 9223372036854775807) (i5 : IlIn w0 a5 0 b) (l6 : e.len ≤ 9223372036854775807) (i6 : IlIn w0 a6 0 e)
    (hs : s.n + (40 + 10 * ls.length + cl b + cl e) ≤ 4611686018427387904) :
    Calls Tryd.prog 106 #[.pointer (some ⟨p, 0, none⟩), .agg #[.int .i64 op, .int .i64 x, .int .i64 y, .int .i64 n, .slice a4 ls.length k4, .slice a5 b.len k5, .slice a6 e.len k6]] w fun e' w' => e' = .returned (.tuple #[]) ∧ WOut N p w mv v (wi op x y n ls b e s) w' := by
  have L4 : ls.length ≤ 9223372036854775807 := i4.1
  have hux := uB_len x
  have huy := uB_len y
  have hsl := lebS_ten hn.1 hn.2
  have hct := numsC_tot ls
  have hlow := h.low
  obtain ⟨q, hq⟩ : ∃ q, w.heap.size = q := ⟨_, rfl⟩
  obtain ⟨wA, hwA⟩ : ∃ wA, wA = w.alloc (.cells #[.int .i64 op, .int .i64 x, .int .i64 y, .int .i64 n, .slice a4 ls.length k4, .slice a5 b.len k5, .slice a6 e.len k6] 70) := ⟨_, rfl⟩
  have hbel : Below w.heap.size w wA := by rw [hwA]; exact (Below.refl _ _).alloc (Nat.le_refl _) _
  have hqp := Lib.hid (show q ≠ p by have := h.lt; omega)
  have hqv := Lib.hid (show v.ownBlock ≠ some q from fun e => by have := (h.own.lt q e).2; omega)
  have hbx : Box wA q #[.int .i64 op, .int .i64 x, .int .i64 y, .int .i64 n, .slice a4 ls.length k4, .slice a5 b.len k5, .slice a6 e.len k6] := by rw [hwA, ← hq]; exact box_new w _ _
  have h0 := Lib.hid (h.below hbel)
  have t0' := Lib.hid (Tr.of_below (p := p) (v := v) hbel)
  have hp0 : wA.cell? ⟨q, 0, none⟩ = some (.int .i64 op) := hbx 0 _ rfl
  replace hbx := Lib.hid hbx
  have t0 := Lib.hid (Tr.refl p v wA)
  replace h := Lib.hid h
  replace hb := Lib.hid hb
  replace i4 := Lib.hid i4
  replace i5 := Lib.hid i5
  replace i6 := Lib.hid i6
  replace sb := Lib.hid sb
  replace se := Lib.hid se
  go_enter Tryd.func106, Tryd.ntmps106
  rw [hwA] at hp0
  go_wp2_with fail
  rw [← hwA]
  refine (ebyte_any h0.out op (by omega)).mono ?_
  rintro e' w1 ⟨rfl, v1, hh, tt⟩
  have h1 := Lib.hid hh
  have t1 := Lib.hid tt
  clear hh tt hp0 hwA hbel
  have p0 : w1.cell? ⟨q, 0, none⟩ = some (.int .i64 op) := (t1.out.box hqp.out hqv.out hbx.out) 0 _ rfl
  go_wp2_with fail
  refine (form_any op w1).mono ?_
  rintro e' w1x ⟨rfl, hbF⟩
  clear p0
  replace h1 := Lib.hid (h1.out.below hbF)
  replace t1 := Lib.hid (t1.out.trans (Tr.of_below hbF))
  clear hbF w1
  rename World => w1
  obtain ⟨f, hf⟩ : ∃ f, formV op = f := ⟨_, rfl⟩
  have hcs := formV_cases op
  rw [hf] at hcs ⊢
  replace hf := Lib.hid hf
  rcases hcs with hcs | hcs | hcs | hcs | hcs | hcs | hcs | hcs | hcs | hcs | hcs
  · subst hcs
    have hv : wTail 0 op x y n ls e.len (wl b) (wl e) (put [b1 op] s) = put [b1 op] s := rfl
    replace hv := Lib.hid hv
    go_wp2
    go_end0
    exact ⟨rfl, by unfold wi; rw [hf.out, hv.out]; exact WOut.trans t0'.out ⟨v1, h1.out, t1.out⟩⟩
  · subst hcs
    by_cases hc63 : op = 63
    · subst hc63
      have p0 : w1.cell? ⟨q, 0, none⟩ = some (.int .i64 63) := (t1.out.box hqp.out hqv.out hbx.out) 0 _ rfl
      go_wp2_with fail
      refine (ebyte_any h1.out 0 (by (try simp only [put_n, puts_n, List.length_cons, List.length_nil]); omega)).mono ?_
      rintro e' w2 ⟨rfl, v2, hh, tt⟩
      have h2 := Lib.hid hh
      have t2 := Lib.hid (t1.out.trans tt)
      clear hh tt
      clear p0
      have hv : wTail 1 63 x y n ls e.len (wl b) (wl e) (put [b1 63] s) = put [b1 0] (put [b1 63] s) := rfl
      replace hv := Lib.hid hv
      go_wp2
      go_end0
      exact ⟨rfl, by unfold wi; rw [hf.out, hv.out]; exact WOut.trans t0'.out ⟨v2, h2.out, t2.out⟩⟩
    by_cases hc64 : op = 64
    · subst hc64
      have p0 : w1.cell? ⟨q, 0, none⟩ = some (.int .i64 64) := (t1.out.box hqp.out hqv.out hbx.out) 0 _ rfl
      go_wp2_with fail
      refine (ebyte_any h1.out 0 (by (try simp only [put_n, puts_n, List.length_cons, List.length_nil]); omega)).mono ?_
      rintro e' w2 ⟨rfl, v2, hh, tt⟩
      have h2 := Lib.hid hh
      have t2 := Lib.hid (t1.out.trans tt)
      clear hh tt
      clear p0
      have hv : wTail 1 64 x y n ls e.len (wl b) (wl e) (put [b1 64] s) = put [b1 0] (put [b1 64] s) := rfl
      replace hv := Lib.hid hv
      go_wp2
      go_end0
      exact ⟨rfl, by unfold wi; rw [hf.out, hv.out]; exact WOut.trans t0'.out ⟨v2, h2.out, t2.out⟩⟩
    have p0 : w1.cell? ⟨q, 0, none⟩ = some (.int .i64 op) := (t1.out.box hqp.out hqv.out hbx.out) 0 _ rfl
    have hd1 : (op == 63) = false := by simp [hc63]
    have hd2 : (op == 64) = false := by simp [hc64]
    have hv : wTail 1 op x y n ls e.len (wl b) (wl e) (put [b1 op] s) = put [b1 op] s := by show (if op = 63 ∨ op = 64 then _ else _) = _; rw [if_neg (by omega)]
    replace hv := Lib.hid hv
    go_wp2
    go_end0
    exact ⟨rfl, by unfold wi; rw [hf.out, hv.out]; exact WOut.trans t0'.out ⟨v1, h1.out, t1.out⟩⟩
  · subst hcs
    by_cases hx0 : x = 0
    · have p1' : w1.cell? ⟨q, 1, none⟩ = some (.int .i64 0) := (t1.out.box hqp.out hqv.out hbx.out) 1 _ (by rw [← hx0]; rfl)
      go_wp2_with fail
      refine (ebyte_any h1.out 64 (by (try simp only [put_n, puts_n, List.length_cons, List.length_nil]); omega)).mono ?_
      rintro e' w2 ⟨rfl, v2, hh, tt⟩
      have h2 := Lib.hid hh
      have t2 := Lib.hid (t1.out.trans tt)
      clear hh tt
      clear p1'
      have nB := wl_n b ok5 (put [b1 64] (put [b1 op] s))
      simp only [put_n, List.length_cons, List.length_nil] at nB
      have p5 : w2.cell? ⟨q, 5, none⟩ = some (.slice a5 b.len k5) := (t2.out.box hqp.out hqv.out hbx.out) 5 _ rfl
      go_wp2_with fail
      refine (sb.out w0 N p _ mv v2 _ a5 k5 h2.out (hb.out.tr (t0'.out.trans t2.out)) l5 i5.out ok5 (by (try simp only [put_n, puts_n, List.length_cons, List.length_nil]); omega)).mono ?_
      rintro e' w3 ⟨rfl, v3, hh, tt⟩
      have h3 := Lib.hid hh
      have t3 := Lib.hid (t2.out.trans tt)
      clear hh tt p5
      by_cases he : 0 < e.len
      · have nE := wl_n e ok6 (put [b1 5] (wl b (put [b1 64] (put [b1 op] s))))
        simp only [put_n, List.length_cons, List.length_nil] at nE
        have p6 : w3.cell? ⟨q, 6, none⟩ = some (.slice a6 e.len k6) := (t3.out.box hqp.out hqv.out hbx.out) 6 _ rfl
        go_wp2_with fail
        refine (ebyte_any h3.out 5 (by (try simp only [put_n, puts_n, List.length_cons, List.length_nil]); omega)).mono ?_
        rintro e' w4 ⟨rfl, v4, hh, tt⟩
        have h4 := Lib.hid hh
        have t4 := Lib.hid (t3.out.trans tt)
        clear hh tt p6
        have p6 : w4.cell? ⟨q, 6, none⟩ = some (.slice a6 e.len k6) := (t4.out.box hqp.out hqv.out hbx.out) 6 _ rfl
        go_wp2_with fail
        refine (se.out w0 N p _ mv v4 _ a6 k6 h4.out (hb.out.tr (t0'.out.trans t4.out)) l6 i6.out ok6 (by (try simp only [put_n, puts_n, List.length_cons, List.length_nil]); omega)).mono ?_
        rintro e' w5 ⟨rfl, v5, hh, tt⟩
        have h5 := Lib.hid hh
        have t5 := Lib.hid (t4.out.trans tt)
        clear hh tt p6
        go_wp2_with fail
        refine (ebyte_any h5.out 11 (by (try simp only [put_n, puts_n, List.length_cons, List.length_nil]); omega)).mono ?_
        rintro e' w6 ⟨rfl, v6, hh, tt⟩
        have h6 := Lib.hid hh
        have t6 := Lib.hid (t5.out.trans tt)
        clear hh tt
        have hv : wTail 2 op x y n ls e.len (wl b) (wl e) (put [b1 op] s) = put [b1 11] (wl e (put [b1 5] (wl b (put [b1 64] (put [b1 op] s))))) := by show put [b1 11] (if 0 < e.len then _ else _) = _; rw [if_pos he, if_pos hx0]
        replace hv := Lib.hid hv
        go_wp2
        go_end0
        exact ⟨rfl, by unfold wi; rw [hf.out, hv.out]; exact WOut.trans t0'.out ⟨v6, h6.out, t6.out⟩⟩
      · have hez : e.len = 0 := by omega
        have hez2 : ((e.len : Nat) : Int) = 0 := by omega
        have p6 : w3.cell? ⟨q, 6, none⟩ = some (.slice a6 e.len k6) := (t3.out.box hqp.out hqv.out hbx.out) 6 _ rfl
        go_wp2_with fail
        refine (ebyte_any h3.out 11 (by (try simp only [put_n, puts_n, List.length_cons, List.length_nil]); omega)).mono ?_
        rintro e' w4 ⟨rfl, v4, hh, tt⟩
        have h4 := Lib.hid hh
        have t4 := Lib.hid (t3.out.trans tt)
        clear hh tt p6
        have hv : wTail 2 op x y n ls e.len (wl b) (wl e) (put [b1 op] s) = put [b1 11] (wl b (put [b1 64] (put [b1 op] s))) := by show put [b1 11] (if 0 < e.len then _ else _) = _; rw [if_neg he, if_pos hx0]
        replace hv := Lib.hid hv
        go_wp2
        go_end0
        exact ⟨rfl, by unfold wi; rw [hf.out, hv.out]; exact WOut.trans t0'.out ⟨v4, h4.out, t4.out⟩⟩
    · have p1 : w1.cell? ⟨q, 1, none⟩ = some (.int .i64 x) := (t1.out.box hqp.out hqv.out hbx.out) 1 _ rfl
      have hx1 : (x == 0) = false := by simp [hx0]
      go_wp2_with fail
      refine (ebyte_any h1.out x (by (try simp only [put_n, puts_n, List.length_cons, List.length_nil]); omega)).mono ?_
      rintro e' w2 ⟨rfl, v2, hh, tt⟩
      have h2 := Lib.hid hh
      have t2 := Lib.hid (t1.out.trans tt)
      clear hh tt p1 hx1
      have nB := wl_n b ok5 (put [b1 x] (put [b1 op] s))
      simp only [put_n, List.length_cons, List.length_nil] at nB
      have p5 : w2.cell? ⟨q, 5, none⟩ = some (.slice a5 b.len k5) := (t2.out.box hqp.out hqv.out hbx.out) 5 _ rfl
      go_wp2_with fail
      refine (sb.out w0 N p _ mv v2 _ a5 k5 h2.out (hb.out.tr (t0'.out.trans t2.out)) l5 i5.out ok5 (by (try simp only [put_n, puts_n, List.length_cons, List.length_nil]); omega)).mono ?_
      rintro e' w3 ⟨rfl, v3, hh, tt⟩
      have h3 := Lib.hid hh
      have t3 := Lib.hid (t2.out.trans tt)
      clear hh tt p5
      by_cases he : 0 < e.len
      · have nE := wl_n e ok6 (put [b1 5] (wl b (put [b1 x] (put [b1 op] s))))
        simp only [put_n, List.length_cons, List.length_nil] at nE
        have p6 : w3.cell? ⟨q, 6, none⟩ = some (.slice a6 e.len k6) := (t3.out.box hqp.out hqv.out hbx.out) 6 _ rfl
        go_wp2_with fail
        refine (ebyte_any h3.out 5 (by (try simp only [put_n, puts_n, List.length_cons, List.length_nil]); omega)).mono ?_
        rintro e' w4 ⟨rfl, v4, hh, tt⟩
        have h4 := Lib.hid hh
        have t4 := Lib.hid (t3.out.trans tt)
        clear hh tt p6
        have p6 : w4.cell? ⟨q, 6, none⟩ = some (.slice a6 e.len k6) := (t4.out.box hqp.out hqv.out hbx.out) 6 _ rfl
        go_wp2_with fail
        refine (se.out w0 N p _ mv v4 _ a6 k6 h4.out (hb.out.tr (t0'.out.trans t4.out)) l6 i6.out ok6 (by (try simp only [put_n, puts_n, List.length_cons, List.length_nil]); omega)).mono ?_
        rintro e' w5 ⟨rfl, v5, hh, tt⟩
        have h5 := Lib.hid hh
        have t5 := Lib.hid (t4.out.trans tt)
        clear hh tt p6
        go_wp2_with fail
        refine (ebyte_any h5.out 11 (by (try simp only [put_n, puts_n, List.length_cons, List.length_nil]); omega)).mono ?_
        rintro e' w6 ⟨rfl, v6, hh, tt⟩
        have h6 := Lib.hid hh
        have t6 := Lib.hid (t5.out.trans tt)
        clear hh tt
        have hv : wTail 2 op x y n ls e.len (wl b) (wl e) (put [b1 op] s) = put [b1 11] (wl e (put [b1 5] (wl b (put [b1 x] (put [b1 op] s))))) := by show put [b1 11] (if 0 < e.len then _ else _) = _; rw [if_pos he, if_neg hx0]
        replace hv := Lib.hid hv
        go_wp2
        go_end0
        exact ⟨rfl, by unfold wi; rw [hf.out, hv.out]; exact WOut.trans t0'.out ⟨v6, h6.out, t6.out⟩⟩
      · have hez : e.len = 0 := by omega
        have hez2 : ((e.len : Nat) : Int) = 0 := by omega
        have p6 : w3.cell? ⟨q, 6, none⟩ = some (.slice a6 e.len k6) := (t3.out.box hqp.out hqv.out hbx.out) 6 _ rfl
        go_wp2_with fail
        refine (ebyte_any h3.out 11 (by (try simp only [put_n, puts_n, List.length_cons, List.length_nil]); omega)).mono ?_
        rintro e' w4 ⟨rfl, v4, hh, tt⟩
        have h4 := Lib.hid hh
        have t4 := Lib.hid (t3.out.trans tt)
        clear hh tt p6
        have hv : wTail 2 op x y n ls e.len (wl b) (wl e) (put [b1 op] s) = put [b1 11] (wl b (put [b1 x] (put [b1 op] s))) := by show put [b1 11] (if 0 < e.len then _ else _) = _; rw [if_neg he, if_neg hx0]
        replace hv := Lib.hid hv
        go_wp2
        go_end0
        exact ⟨rfl, by unfold wi; rw [hf.out, hv.out]; exact WOut.trans t0'.out ⟨v4, h4.out, t4.out⟩⟩
  · subst hcs
    by_cases hx0 : x = 0
    · have p1' : w1.cell? ⟨q, 1, none⟩ = some (.int .i64 0) := (t1.out.box hqp.out hqv.out hbx.out) 1 _ (by rw [← hx0]; rfl)
      go_wp2_with fail
      refine (ebyte_any h1.out 64 (by (try simp only [put_n, puts_n, List.length_cons, List.length_nil]); omega)).mono ?_
      rintro e' w2 ⟨rfl, v2, hh, tt⟩
      have h2 := Lib.hid hh
      have t2 := Lib.hid (t1.out.trans tt)
      clear hh tt
      clear p1'
      have nB := wl_n b ok5 (put [b1 64] (put [b1 op] s))
      simp only [put_n, List.length_cons, List.length_nil] at nB
      have p5 : w2.cell? ⟨q, 5, none⟩ = some (.slice a5 b.len k5) := (t2.out.box hqp.out hqv.out hbx.out) 5 _ rfl
      go_wp2_with fail
      refine (sb.out w0 N p _ mv v2 _ a5 k5 h2.out (hb.out.tr (t0'.out.trans t2.out)) l5 i5.out ok5 (by (try simp only [put_n, puts_n, List.length_cons, List.length_nil]); omega)).mono ?_
      rintro e' w3 ⟨rfl, v3, hh, tt⟩
      have h3 := Lib.hid hh
      have t3 := Lib.hid (t2.out.trans tt)
      clear hh tt p5
      by_cases he : 0 < e.len
      · have nE := wl_n e ok6 (put [b1 5] (wl b (put [b1 64] (put [b1 op] s))))
        simp only [put_n, List.length_cons, List.length_nil] at nE
        have p6 : w3.cell? ⟨q, 6, none⟩ = some (.slice a6 e.len k6) := (t3.out.box hqp.out hqv.out hbx.out) 6 _ rfl
        go_wp2_with fail
        refine (ebyte_any h3.out 5 (by (try simp only [put_n, puts_n, List.length_cons, List.length_nil]); omega)).mono ?_
        rintro e' w4 ⟨rfl, v4, hh, tt⟩
        have h4 := Lib.hid hh
        have t4 := Lib.hid (t3.out.trans tt)
        clear hh tt p6
        have p6 : w4.cell? ⟨q, 6, none⟩ = some (.slice a6 e.len k6) := (t4.out.box hqp.out hqv.out hbx.out) 6 _ rfl
        go_wp2_with fail
        refine (se.out w0 N p _ mv v4 _ a6 k6 h4.out (hb.out.tr (t0'.out.trans t4.out)) l6 i6.out ok6 (by (try simp only [put_n, puts_n, List.length_cons, List.length_nil]); omega)).mono ?_
        rintro e' w5 ⟨rfl, v5, hh, tt⟩
        have h5 := Lib.hid hh
        have t5 := Lib.hid (t4.out.trans tt)
        clear hh tt p6
        go_wp2_with fail
        refine (ebyte_any h5.out 11 (by (try simp only [put_n, puts_n, List.length_cons, List.length_nil]); omega)).mono ?_
        rintro e' w6 ⟨rfl, v6, hh, tt⟩
        have h6 := Lib.hid hh
        have t6 := Lib.hid (t5.out.trans tt)
        clear hh tt
        have hv : wTail 3 op x y n ls e.len (wl b) (wl e) (put [b1 op] s) = put [b1 11] (wl e (put [b1 5] (wl b (put [b1 64] (put [b1 op] s))))) := by show put [b1 11] (if 0 < e.len then _ else _) = _; rw [if_pos he, if_pos hx0]
        replace hv := Lib.hid hv
        go_wp2
        go_end0
        exact ⟨rfl, by unfold wi; rw [hf.out, hv.out]; exact WOut.trans t0'.out ⟨v6, h6.out, t6.out⟩⟩
      · have hez : e.len = 0 := by omega
        have hez2 : ((e.len : Nat) : Int) = 0 := by omega
        have p6 : w3.cell? ⟨q, 6, none⟩ = some (.slice a6 e.len k6) := (t3.out.box hqp.out hqv.out hbx.out) 6 _ rfl
        go_wp2_with fail
        refine (ebyte_any h3.out 11 (by (try simp only [put_n, puts_n, List.length_cons, List.length_nil]); omega)).mono ?_
        rintro e' w4 ⟨rfl, v4, hh, tt⟩
        have h4 := Lib.hid hh
        have t4 := Lib.hid (t3.out.trans tt)
        clear hh tt p6
        have hv : wTail 3 op x y n ls e.len (wl b) (wl e) (put [b1 op] s) = put [b1 11] (wl b (put [b1 64] (put [b1 op] s))) := by show put [b1 11] (if 0 < e.len then _ else _) = _; rw [if_neg he, if_pos hx0]
        replace hv := Lib.hid hv
        go_wp2
        go_end0
        exact ⟨rfl, by unfold wi; rw [hf.out, hv.out]; exact WOut.trans t0'.out ⟨v4, h4.out, t4.out⟩⟩
    · have p1 : w1.cell? ⟨q, 1, none⟩ = some (.int .i64 x) := (t1.out.box hqp.out hqv.out hbx.out) 1 _ rfl
      have hx1 : (x == 0) = false := by simp [hx0]
      go_wp2_with fail
      refine (ebyte_any h1.out x (by (try simp only [put_n, puts_n, List.length_cons, List.length_nil]); omega)).mono ?_
      rintro e' w2 ⟨rfl, v2, hh, tt⟩
      have h2 := Lib.hid hh
      have t2 := Lib.hid (t1.out.trans tt)
      clear hh tt p1 hx1
      have nB := wl_n b ok5 (put [b1 x] (put [b1 op] s))
      simp only [put_n, List.length_cons, List.length_nil] at nB
      have p5 : w2.cell? ⟨q, 5, none⟩ = some (.slice a5 b.len k5) := (t2.out.box hqp.out hqv.out hbx.out) 5 _ rfl
      go_wp2_with fail
      refine (sb.out w0 N p _ mv v2 _ a5 k5 h2.out (hb.out.tr (t0'.out.trans t2.out)) l5 i5.out ok5 (by (try simp only [put_n, puts_n, List.length_cons, List.length_nil]); omega)).mono ?_
      rintro e' w3 ⟨rfl, v3, hh, tt⟩
      have h3 := Lib.hid hh
      have t3 := Lib.hid (t2.out.trans tt)
      clear hh tt p5
      by_cases he : 0 < e.len
      · have nE := wl_n e ok6 (put [b1 5] (wl b (put [b1 x] (put [b1 op] s))))
        simp only [put_n, List.length_cons, List.length_nil] at nE
        have p6 : w3.cell? ⟨q, 6, none⟩ = some (.slice a6 e.len k6) := (t3.out.box hqp.out hqv.out hbx.out) 6 _ rfl
        go_wp2_with fail
        refine (ebyte_any h3.out 5 (by (try simp only [put_n, puts_n, List.length_cons, List.length_nil]); omega)).mono ?_
        rintro e' w4 ⟨rfl, v4, hh, tt⟩
        have h4 := Lib.hid hh
        have t4 := Lib.hid (t3.out.trans tt)
        clear hh tt p6
        have p6 : w4.cell? ⟨q, 6, none⟩ = some (.slice a6 e.len k6) := (t4.out.box hqp.out hqv.out hbx.out) 6 _ rfl
        go_wp2_with fail
        refine (se.out w0 N p _ mv v4 _ a6 k6 h4.out (hb.out.tr (t0'.out.trans t4.out)) l6 i6.out ok6 (by (try simp only [put_n, puts_n, List.length_cons, List.length_nil]); omega)).mono ?_
        rintro e' w5 ⟨rfl, v5, hh, tt⟩
        have h5 := Lib.hid hh
        have t5 := Lib.hid (t4.out.trans tt)
        clear hh tt p6
        go_wp2_with fail
        refine (ebyte_any h5.out 11 (by (try simp only [put_n, puts_n, List.length_cons, List.length_nil]); omega)).mono ?_
        rintro e' w6 ⟨rfl, v6, hh, tt⟩
        have h6 := Lib.hid hh
        have t6 := Lib.hid (t5.out.trans tt)
        clear hh tt
        have hv : wTail 3 op x y n ls e.len (wl b) (wl e) (put [b1 op] s) = put [b1 11] (wl e (put [b1 5] (wl b (put [b1 x] (put [b1 op] s))))) := by show put [b1 11] (if 0 < e.len then _ else _) = _; rw [if_pos he, if_neg hx0]
        replace hv := Lib.hid hv
        go_wp2
        go_end0
        exact ⟨rfl, by unfold wi; rw [hf.out, hv.out]; exact WOut.trans t0'.out ⟨v6, h6.out, t6.out⟩⟩
      · have hez : e.len = 0 := by omega
        have hez2 : ((e.len : Nat) : Int) = 0 := by omega
        have p6 : w3.cell? ⟨q, 6, none⟩ = some (.slice a6 e.len k6) := (t3.out.box hqp.out hqv.out hbx.out) 6 _ rfl
        go_wp2_with fail
        refine (ebyte_any h3.out 11 (by (try simp only [put_n, puts_n, List.length_cons, List.length_nil]); omega)).mono ?_
        rintro e' w4 ⟨rfl, v4, hh, tt⟩
        have h4 := Lib.hid hh
        have t4 := Lib.hid (t3.out.trans tt)
        clear hh tt p6
        have hv : wTail 3 op x y n ls e.len (wl b) (wl e) (put [b1 op] s) = put [b1 11] (wl b (put [b1 x] (put [b1 op] s))) := by show put [b1 11] (if 0 < e.len then _ else _) = _; rw [if_neg he, if_neg hx0]
        replace hv := Lib.hid hv
        go_wp2
        go_end0
        exact ⟨rfl, by unfold wi; rw [hf.out, hv.out]; exact WOut.trans t0'.out ⟨v4, h4.out, t4.out⟩⟩
  · subst hcs
    have p1 : w1.cell? ⟨q, 1, none⟩ = some (.int .i64 x) := (t1.out.box hqp.out hqv.out hbx.out) 1 _ rfl
    go_wp2_with fail
    refine (eu_any h1.out x (by (try simp only [put_n, puts_n, List.length_cons, List.length_nil]); omega)).mono ?_
    rintro e' w2 ⟨rfl, v2, hh, tt⟩
    have h2 := Lib.hid hh
    have t2 := Lib.hid (t1.out.trans tt)
    clear hh tt p1
    have hv : wTail 4 op x y n ls e.len (wl b) (wl e) (put [b1 op] s) = put (uB x) (put [b1 op] s) := by rfl
    replace hv := Lib.hid hv
    go_wp2
    go_end0
    exact ⟨rfl, by unfold wi; rw [hf.out, hv.out]; exact WOut.trans t0'.out ⟨v2, h2.out, t2.out⟩⟩
  · subst hcs
    have p4 : w1.cell? ⟨q, 4, none⟩ = some (.slice a4 ls.length k4) := (t1.out.box hqp.out hqv.out hbx.out) 4 _ rfl
    go_wp2_with fail
    refine (numbers_any h1.out (hb.out.tr (t0'.out.trans t1.out)) ls a4 k4 i4.out (by (try simp only [put_n, puts_n, List.length_cons, List.length_nil]); omega)).mono ?_
    rintro e' w2 ⟨rfl, v2, hh, tt⟩
    have h2 := Lib.hid hh
    have t2 := Lib.hid (t1.out.trans tt)
    clear hh tt p4
    have p1 : w2.cell? ⟨q, 1, none⟩ = some (.int .i64 x) := (t2.out.box hqp.out hqv.out hbx.out) 1 _ rfl
    go_wp2_with fail
    refine (eu_any h2.out x (by (try simp only [put_n, puts_n, List.length_cons, List.length_nil]); omega)).mono ?_
    rintro e' w3 ⟨rfl, v3, hh, tt⟩
    have h3 := Lib.hid hh
    have t3 := Lib.hid (t2.out.trans tt)
    clear hh tt p1
    have hv : wTail 5 op x y n ls e.len (wl b) (wl e) (put [b1 op] s) = put (uB x) (puts (numsC ls) (put [b1 op] s)) := by rfl
    replace hv := Lib.hid hv
    go_wp2
    go_end0
    exact ⟨rfl, by unfold wi; rw [hf.out, hv.out]; exact WOut.trans t0'.out ⟨v3, h3.out, t3.out⟩⟩
  · subst hcs
    have p1 : w1.cell? ⟨q, 1, none⟩ = some (.int .i64 x) := (t1.out.box hqp.out hqv.out hbx.out) 1 _ rfl
    go_wp2_with fail
    refine (eu_any h1.out x (by (try simp only [put_n, puts_n, List.length_cons, List.length_nil]); omega)).mono ?_
    rintro e' w2 ⟨rfl, v2, hh, tt⟩
    have h2 := Lib.hid hh
    have t2 := Lib.hid (t1.out.trans tt)
    clear hh tt p1
    have hv : wTail 6 op x y n ls e.len (wl b) (wl e) (put [b1 op] s) = put (uB x) (put [b1 op] s) := by rfl
    replace hv := Lib.hid hv
    go_wp2
    go_end0
    exact ⟨rfl, by unfold wi; rw [hf.out, hv.out]; exact WOut.trans t0'.out ⟨v2, h2.out, t2.out⟩⟩
  · subst hcs
    have p1 : w1.cell? ⟨q, 1, none⟩ = some (.int .i64 x) := (t1.out.box hqp.out hqv.out hbx.out) 1 _ rfl
    go_wp2_with fail
    refine (eu_any h1.out x (by (try simp only [put_n, puts_n, List.length_cons, List.length_nil]); omega)).mono ?_
    rintro e' w2 ⟨rfl, v2, hh, tt⟩
    have h2 := Lib.hid hh
    have t2 := Lib.hid (t1.out.trans tt)
    clear hh tt p1
    go_wp2_with fail
    refine (ebyte_any h2.out 0 (by (try simp only [put_n, puts_n, List.length_cons, List.length_nil]); omega)).mono ?_
    rintro e' w3 ⟨rfl, v3, hh, tt⟩
    have h3 := Lib.hid hh
    have t3 := Lib.hid (t2.out.trans tt)
    clear hh tt
    have hv : wTail 7 op x y n ls e.len (wl b) (wl e) (put [b1 op] s) = put [b1 0] (put (uB x) (put [b1 op] s)) := by rfl
    replace hv := Lib.hid hv
    go_wp2
    go_end0
    exact ⟨rfl, by unfold wi; rw [hf.out, hv.out]; exact WOut.trans t0'.out ⟨v3, h3.out, t3.out⟩⟩
  · subst hcs
    have p1 : w1.cell? ⟨q, 1, none⟩ = some (.int .i64 x) := (t1.out.box hqp.out hqv.out hbx.out) 1 _ rfl
    go_wp2_with fail
    refine (eu_any h1.out x (by (try simp only [put_n, puts_n, List.length_cons, List.length_nil]); omega)).mono ?_
    rintro e' w2 ⟨rfl, v2, hh, tt⟩
    have h2 := Lib.hid hh
    have t2 := Lib.hid (t1.out.trans tt)
    clear hh tt p1
    have p2 : w2.cell? ⟨q, 2, none⟩ = some (.int .i64 y) := (t2.out.box hqp.out hqv.out hbx.out) 2 _ rfl
    go_wp2_with fail
    refine (eu_any h2.out y (by (try simp only [put_n, puts_n, List.length_cons, List.length_nil]); omega)).mono ?_
    rintro e' w3 ⟨rfl, v3, hh, tt⟩
    have h3 := Lib.hid hh
    have t3 := Lib.hid (t2.out.trans tt)
    clear hh tt p2
    have hv : wTail 8 op x y n ls e.len (wl b) (wl e) (put [b1 op] s) = put (uB y) (put (uB x) (put [b1 op] s)) := by rfl
    replace hv := Lib.hid hv
    go_wp2
    go_end0
    exact ⟨rfl, by unfold wi; rw [hf.out, hv.out]; exact WOut.trans t0'.out ⟨v3, h3.out, t3.out⟩⟩
  · subst hcs
    have p3 : w1.cell? ⟨q, 3, none⟩ = some (.int .i64 n) := (t1.out.box hqp.out hqv.out hbx.out) 3 _ rfl
    go_wp2_with fail
    refine (putS_any n hn.1 hn.2 w1).mono ?_
    rintro e' wx ⟨rfl, hbx1⟩
    clear p3
    have hx1 := Lib.hid (h1.out.below hbx1)
    have tx1 := Lib.hid (t1.out.trans (Tr.of_below hbx1))
    clear hbx1
    go_wp2_with fail
    refine (text_any hx1.out (mks (lebS n)) (by rw [strl_mks_len, put_n]; simp only [List.length_cons, List.length_nil]; omega)).mono ?_
    rintro e' w2 ⟨rfl, v2, hh, tt⟩
    have h2 := Lib.hid hh
    have t2 := Lib.hid (tx1.out.trans tt)
    clear hh tt
    have hv : wTail 9 op x y n ls e.len (wl b) (wl e) (put [b1 op] s) = put (lebS n) (put [b1 op] s) := by rfl
    replace hv := Lib.hid hv
    go_wp2
    go_end0
    exact ⟨rfl, by unfold wi; rw [hf.out, hv.out]; exact WOut.trans t0'.out ⟨v2, h2.out, t2.out⟩⟩
  · subst hcs
    have hv : wTail 10 op x y n ls e.len (wl b) (wl e) (put [b1 op] s) = put [b1 op] s := rfl
    replace hv := Lib.hid hv
    go_wp2
    go_end0
    exact ⟨rfl, by unfold wi; rw [hf.out, hv.out]; exact WOut.trans t0'.out ⟨v1, h1.out, t1.out⟩⟩

set_option maxRecDepth 100000 in
set_option maxHeartbeats 4000000 in
theorem list_step (l : Il) (hs : Sub ListC l) : ListC l := by
  intro w0 N p w mv v s a c h hb hl hi ok hn
  obtain ⟨M, hM⟩ : ∃ M, l.len = M := ⟨_, rfl⟩
  rw [hM] at hl ⊢
  replace h := Lib.hid h
  replace hb := Lib.hid hb
  go_enter Tryd.func57, Tryd.ntmps57
  go_wp2_with fail
  go_loopw [8] (fun vi wr => ∃ (i : Nat) (r : Il) (v2 : Value) (s2 : WS), vi = .int .i64 i ∧ i + r.len = M ∧ Hid (IlIn w0 a i r) ∧ Hid (nOk r) ∧ Hid (Sub ListC r) ∧ Hid (WAt N p wr mv v2 s2) ∧ Hid (Tr p v v2 w wr) ∧ Hid (wl l s = wl r s2) ∧ Hid (s2.n + cl r ≤ 4611686018427387904)) (fun vi _ => M - (intOf vi).toNat)
  case atStart => exact ⟨0, l, v, s, rfl, by omega, Lib.hid hi, Lib.hid ok, Lib.hid hs, h, Lib.hid (Tr.refl _ _ _), Lib.hid rfl, Lib.hid hn⟩
  case round =>
    clear hi ok hs hn
    obtain ⟨i, r, v2, s2, rfl, hir, hi, ok, hs, h2, t2, hc, hn⟩ := hrel
    have hB := Lib.hid (hb.out.tr t2.out)
    cases r with
    | nil =>
      have hiN : i = M := by simpa [Il.len] using hir
      go_wp2
      go_end0
      exact ⟨rfl, by rw [hc.out]; exact ⟨v2, h2.out, t2.out⟩⟩
    | cons op x y n ls b e rest =>
      have hlen : i + (rest.len + 1) = M := hir
      have hlt : i < M := by omega
      obtain ⟨blk, o, a4, k4, a5, k5, a6, k6, rfl, hh, hrest⟩ := hi.out.head
      obtain ⟨c0, c1, c2, c3, c4, c5, c6, i4, l5, i5, l6, i6⟩ := hh
      replace hrest := Lib.hid hrest
      obtain ⟨okn, ok5, ok6, okr⟩ := ok.out
      have d0 : wr.cell? ⟨blk, o + i * 7, none⟩ = some (.int .i64 op) := hB.out.keeps _ _ c0
      have d1 : wr.cell? ⟨blk, o + i * 7 + 1, none⟩ = some (.int .i64 x) := hB.out.keeps _ _ c1
      have d2 : wr.cell? ⟨blk, o + i * 7 + 2, none⟩ = some (.int .i64 y) := hB.out.keeps _ _ c2
      have d3 : wr.cell? ⟨blk, o + i * 7 + 3, none⟩ = some (.int .i64 n) := hB.out.keeps _ _ c3
      have d4 : wr.cell? ⟨blk, o + i * 7 + 4, none⟩ = some (.slice a4 ls.length k4) := hB.out.keeps _ _ c4
      have d5 : wr.cell? ⟨blk, o + i * 7 + 5, none⟩ = some (.slice a5 b.len k5) := hB.out.keeps _ _ c5
      have d6 : wr.cell? ⟨blk, o + i * 7 + 6, none⟩ = some (.slice a6 e.len k6) := hB.out.keeps _ _ c6
      clear c0 c1 c2 c3 c4 c5 c6 hi hir ok
      replace i4 := Lib.hid i4
      replace i5 := Lib.hid i5
      replace i6 := Lib.hid i6
      replace l5 := Lib.hid l5
      replace l6 := Lib.hid l6
      replace okn := Lib.hid okn
      replace ok5 := Lib.hid ok5
      replace ok6 := Lib.hid ok6
      replace okr := Lib.hid okr
      have hbel := Lib.hid ((Below.refl wr.heap.size wr).alloc (Nat.le_refl _) (.cells #[.int .i64 op, .int .i64 x, .int .i64 y, .int .i64 n, .slice a4 ls.length k4, .slice a5 b.len k5, .slice a6 e.len k6] 70))
      obtain ⟨q, hq⟩ : ∃ q, wr.heap.size = q := ⟨_, rfl⟩
      obtain ⟨wA, hwA⟩ : ∃ wA, wA = wr.alloc (.cells #[.int .i64 op, .int .i64 x, .int .i64 y, .int .i64 n, .slice a4 ls.length k4, .slice a5 b.len k5, .slice a6 e.len k6] 70) := ⟨_, rfl⟩
      have hbx : Hid (Box wA q #[.int .i64 op, .int .i64 x, .int .i64 y, .int .i64 n, .slice a4 ls.length k4, .slice a5 b.len k5, .slice a6 e.len k6]) := Lib.hid (by rw [hwA, ← hq]; exact box_new wr _ _)
      rw [← hwA] at hbel
      have h3 := Lib.hid (h2.out.below hbel.out)
      have t3 := Lib.hid (t2.out.trans (Tr.of_below hbel.out))
      have hB3 := Lib.hid (hB.out.tr (Tr.of_below hbel.out))
      replace hwA := Lib.hid hwA
      go_wp2_with fail
      rw [← hwA.out]
      refine (full_any h3.out).mono ?_
      rintro e' w1 ⟨rfl, rfl⟩
      clear d0 d1 d2 d3 d4 d5 d6
      by_cases hfull : 1048576 < s2.n
      · have hd : decide (1048576 < s2.n) = true := decide_eq_true hfull
        have hv := Lib.hid (hc.out.trans (show wl (.cons op x y n ls b e rest) s2 = s2 by rw [wl, if_pos hfull]))
        rw [hd]
        go_wp2
        refine bodyPost_ret (results_none rfl _ _ _) rfl ?_
        exact ⟨rfl, by rw [hv.out]; exact ⟨v2, h3.out, t3.out⟩⟩
      · have hd : decide (1048576 < s2.n) = false := decide_eq_false hfull
        have hv := Lib.hid (hc.out.trans (show wl (.cons op x y n ls b e rest) s2 = wl rest (wi op x y n ls b e s2) by rw [wl, if_neg hfull]; rfl))
        rw [hd]
        have p0 : w1.cell? ⟨q, 0, none⟩ = some (.int .i64 op) := hbx.out 0 _ rfl
        have p1 : w1.cell? ⟨q, 1, none⟩ = some (.int .i64 x) := hbx.out 1 _ rfl
        have p2 : w1.cell? ⟨q, 2, none⟩ = some (.int .i64 y) := hbx.out 2 _ rfl
        have p3 : w1.cell? ⟨q, 3, none⟩ = some (.int .i64 n) := hbx.out 3 _ rfl
        have p4 : w1.cell? ⟨q, 4, none⟩ = some (.slice a4 ls.length k4) := hbx.out 4 _ rfl
        have p5 : w1.cell? ⟨q, 5, none⟩ = some (.slice a5 b.len k5) := hbx.out 5 _ rfl
        have p6 : w1.cell? ⟨q, 6, none⟩ = some (.slice a6 e.len k6) := hbx.out 6 _ rfl
        have hcl : s2.n + (40 + 10 * ls.length + cl b + cl e + cl rest) ≤ 4611686018427387904 := by have := hn.out; rw [cl] at this; omega
        replace hcl := Lib.hid hcl
        clear hn hc
        go_wp2_with fail
        refine (winstr_any op x y n ls b e okn.out ok5.out ok6.out hs.out.1 hs.out.2.1 w0 N p w1 mv v2 s2 a4 k4 a5 k5 a6 k6 h3.out hB3.out i4.out l5.out i5.out l6.out i6.out (by have := hcl.out; omega)).mono ?_
        rintro e' w5 ⟨rfl, v5, h5, t5⟩
        have hbd := Lib.hid (show (wi op x y n ls b e s2).n + cl rest ≤ 4611686018427387904 from by
          have := (wTail_n (formV op) op x y n okn.out ls e.len (wl b) (wl e) (cl b) (cl e) (wl_n b ok5.out) (wl_n e ok6.out) (put [b1 op] s2)).2
          rw [put_n] at this
          have h' := hcl.out
          simp only [List.length_cons, List.length_nil] at this
          unfold wi
          omega)
        replace h5 := Lib.hid h5
        have hfb := Lib.hid (t3.out.trans t5)
        have hsr := Lib.hid hs.out.2.2
        clear t5 p0 p1 p2 p3 p4 p5 p6 hcl hs
        go_wp2
        exact ⟨⟨i + 1, rest, v5, _, by simp, by omega, hrest, okr, hsr, h5, hfb, hv, hbd⟩, by simp [intOf]; omega⟩
theorem elist_any (l : Il) : ListC l := Il.each list_step l
set_option maxRecDepth 100000 in
set_option maxHeartbeats 1000000 in
theorem eexpr_any (l : Il) (w0 : World) (N p : Nat) (w : World) (mv : List Value) (v : Value) (s : WS) (a : Option Addr) (c : Nat) (h : WAt N p w mv v s) (hb : Vw w0 p v w) (hl : l.len ≤ 9223372036854775807) (hi : IlIn w0 a 0 l) (ok : nOk l) (hn : s.n + cl l + 1 ≤ 4611686018427387904) :
    Calls Tryd.prog 25 #[.pointer (some ⟨p, 0, none⟩), .slice a l.len c] w fun e w' => e = .returned (.tuple #[]) ∧ WOut N p w mv v (put [b1 11] (wl l s)) w' := by
  have hr := (wl_n l ok s).2
  go_enter Tryd.func25, Tryd.ntmps25
  go_wp2_with fail
  refine (elist_any l w0 N p w mv v s a c h hb hl hi ok (by omega)).mono ?_
  rintro e w1 ⟨rfl, v1, h1, t1⟩
  replace h1 := Lib.hid h1
  replace t1 := Lib.hid t1
  go_wp2_with fail
  refine (ebyte_any h1.out 11 (by omega)).mono ?_
  rintro e w2 ⟨rfl, ho⟩
  go_wp2
  go_end0
  exact ⟨rfl, WOut.trans t1.out ho⟩
end Go.Proofs.YtkbfjkbokifgkaaDoor

namespace Go.Proofs.YtkbfjkbokifgkaaDoor
open Go.RowKit
set_option linter.unusedVariables false
set_option linter.unusedSimpArgs false

def fo {α : Type} (f : α → WS → WS) (l : List α) (s : WS) : WS := l.foldl (fun s x => f x s) s
theorem fo_take {α : Type} {f : α → WS → WS} {l : List α} {i : Nat} {x : α} (hx : l[i]? = some x) (s : WS) : fo f (l.take (i + 1)) s = f x (fo f (l.take i) s) := by
  rw [fo, List.take_add_one, hx, List.foldl_append]
  rfl
def cs {α : Type} (c : α → Nat) (l : List α) : Nat := (l.map c).sum
theorem cs_take {α : Type} (c : α → Nat) {l : List α} {i : Nat} {x : α} (hx : l[i]? = some x) : cs c (l.take i) + c x ≤ cs c l := by
  have h : l = l.take i ++ x :: l.drop (i + 1) := by
    obtain ⟨hi, he⟩ := List.getElem?_eq_some_iff.1 hx
    rw [← he, ← List.drop_eq_getElem_cons hi, List.take_append_drop]
  have h2 : cs c l = cs c (l.take i) + (c x + cs c (l.drop (i + 1))) := by
    have := congrArg (cs c) h
    rw [this]
    simp [cs]
  omega
theorem fo_n {α : Type} {f : α → WS → WS} {c : α → Nat} : ∀ (l : List α) (s : WS), (∀ x ∈ l, InR (f x) (c x)) → s.n ≤ (fo f l s).n ∧ (fo f l s).n ≤ s.n + cs c l
  | [], s, _ => ⟨Int.le_refl _, by simp [fo, cs]⟩
  | x :: l, s, h => by
    have h1 := h x (List.mem_cons_self ..) s
    have h2 := fo_n l (f x s) (fun y hy => h y (List.mem_cons_of_mem _ hy))
    have e : fo f (x :: l) s = fo f l (f x s) := rfl
    have e2 : cs c (x :: l) = c x + cs c l := by simp [cs]
    rw [e, e2]
    omega
theorem fo_bd {α : Type} {f : α → WS → WS} {c : α → Nat} {l : List α} {s : WS} (h : ∀ x ∈ l, InR (f x) (c x)) {i : Nat} {x : α} (hx : l[i]? = some x) : s.n ≤ (fo f (l.take i) s).n ∧ (fo f (l.take i) s).n + c x ≤ s.n + cs c l := by
  have h1 := fo_n (f := f) (c := c) (l.take i) s (fun y hy => h y (List.mem_of_mem_take hy))
  have h2 := cs_take c hx
  omega
/-- What is as long as it says. -/
def lg (l : List UInt8) (s : WS) : WS := put l (put (uB l.length) s)
def wEx (l : Il) (s : WS) : WS := put [b1 11] (wl l s)
def wLim (t : Int × Int × Bool) (s : WS) : WS := if t.2.2 = true then put (uB t.2.1) (put (uB t.1) (put [b1 1] s)) else put (uB t.1) (put [b1 0] s)
theorem WAt.far {N p : Nat} {w : World} {mv : List Value} {v : Value} {s : WS} (h : WAt N p w mv v s) (n c : Nat) : ∀ g, (Value.slice (some ⟨w.heap.size, 0, none⟩) n c).ownBlock = some g → v.ownBlock ≠ some g := fun g e e2 => by
  have := (h.own.lt g e2).2
  have e' : w.heap.size = g := by simpa [Value.ownBlock] using e
  omega
theorem InR.put (t : List UInt8) : InR (put t) t.length := fun s => by rw [put_n]; omega
theorem InR.puts (c : List (List UInt8)) : InR (puts c) (tot c) := fun s => by rw [puts_n]; omega
theorem InR.mono {f : WS → WS} {c d : Nat} (h : InR f c) (hc : c ≤ d) : InR f d := fun s => by have := h s; omega
theorem InR.comp {f g : WS → WS} {c d : Nat} (hf : InR f c) (hg : InR g d) : InR (fun s => g (f s)) (c + d) := fun s => by
  have := hf s
  have := hg (f s)
  show s.n ≤ (g (f s)).n ∧ (g (f s)).n ≤ s.n + (c + d : Nat)
  omega
theorem InR.u (n : Int) : InR (Go.Proofs.YtkbfjkbokifgkaaDoor.put (uB n)) 10 := (InR.put _).mono (uB_len n)
theorem InR.b (n : Int) : InR (Go.Proofs.YtkbfjkbokifgkaaDoor.put [b1 n]) 1 := InR.put _
theorem InR.lg (l : List UInt8) : InR (lg l) (10 + l.length) := (InR.u _).comp (InR.put l)
theorem InR.ex (l : Il) (ok : nOk l) : InR (wEx l) (cl l + 1) := (wl_n l ok).comp (InR.b 11)
theorem InR.lim (t : Int × Int × Bool) : InR (wLim t) 21 := by
  unfold wLim
  split
  · exact ((InR.b 1).comp ((InR.u _).comp (InR.u _)))
  · exact ((InR.b 0).comp (InR.u _)).mono (by omega)
/-- A string's bytes. -/
theorem bytes_of_str (w : World) (t : ByteArray) : ∃ c w', (convert 9 83 (.string t)).run Tryd.prog w = .ok (.slice (some ⟨w.heap.size, 0, none⟩) t.size c) w' ∧ Below w.heap.size w w' ∧ BIn w' (.slice (some ⟨w.heap.size, 0, none⟩) t.size c) (strl t) ∧ w'.heap.size = w.heap.size + 1 := by
  refine ⟨_, _, run_bytes_of_string w 9 83 5 t Tryd.underlying9 Tryd.underlying83 Tryd.underlying5, (Below.refl _ _).drew.alloc (Nat.le_refl _) _, .inr ⟨w.heap.size, _, rfl, fun j hj => ?_⟩, by simp⟩
  have := World.cell?_alloc_mark w.drew (bytesRow t (grownCap w t.size 0 5)) 5 ((bytesRow t (grownCap w t.size 0 5)).size, (bytesRow t (grownCap w t.size 0 5)).size + 1) j
  exact this.trans (bytesRow_at t _ j (by simpa [strl] using hj))
/-- A slice of one instruction, made now. -/
theorem one_view {w0 w : World} {p q : Nat} {v : Value} {op x y n : Int} {ls : List Int} {body els : Il} {u4 u5 u6 : Option Addr} {r4 r5 r6 : Nat} (hv : Vw w0 p v w) (hb : Box w q #[.int .i64 op, .int .i64 x, .int .i64 y, .int .i64 n, .slice u4 ls.length r4, .slice u5 body.len r5, .slice u6 els.len r6]) (hp : q ≠ p) (hq : v.ownBlock ≠ some q)
    (i4 : IntsIn w0 u4 ls) (l5 : body.len ≤ 9223372036854775807) (i5 : body = .nil ∨ ∃ b2 o2, u5 = some ⟨b2, o2, none⟩ ∧ IlAt w0 b2 o2 body) (l6 : els.len ≤ 9223372036854775807) (i6 : els = .nil ∨ ∃ b2 o2, u6 = some ⟨b2, o2, none⟩ ∧ IlAt w0 b2 o2 els) :
    ∃ V, Vw V p v w ∧ IlIn V (some ⟨q, 0, none⟩) 0 (Il.cons op x y n ls body els .nil) := by
  obtain ⟨V, hV⟩ : ∃ V : World, V = { w with heap := (w.heap.setIfInBounds p (.cells #[] 0 (0, 0))).setIfInBounds (v.ownBlock.getD p) (.cells #[] 0 (0, 0)) } := ⟨_, rfl⟩
  have far : ∀ k, k ≠ p → v.ownBlock ≠ some k → V.heap[k]? = w.heap[k]? := fun k hk hk2 => by
    rw [hV]
    simp only
    rw [Array.getElem?_setIfInBounds_ne, Array.getElem?_setIfInBounds_ne (fun e => hk e.symm)]
    intro e
    cases ho : v.ownBlock with
    | none => rw [ho] at e; exact hk e.symm
    | some g => rw [ho] at e hk2; exact hk2 (by rw [← e]; rfl)
  have near : ∀ a u, V.cell? a = some u → a.block ≠ p ∧ v.ownBlock ≠ some a.block := fun a u hc => by
    have hnone : ∀ k, (k = p ∨ v.ownBlock = some k) → V.heap[k]? = none ∨ V.heap[k]? = some (.cells #[] 0 (0, 0)) := fun k hk => by
      rcases Nat.lt_or_ge k V.heap.size with hlt | hge
      · right
        rw [hV] at hlt ⊢
        simp only [Array.size_setIfInBounds] at hlt ⊢
        by_cases e : v.ownBlock.getD p = k
        · rw [e, Array.getElem?_setIfInBounds_self_of_lt (by simpa using hlt)]
        · rw [Array.getElem?_setIfInBounds_ne e]
          rcases hk with rfl | hk
          · rw [Array.getElem?_setIfInBounds_self_of_lt hlt]
          · rw [hk] at e; exact absurd rfl e
      · left
        exact Array.getElem?_eq_none hge
    have hno : ∀ k, (k = p ∨ v.ownBlock = some k) → a.block = k → False := fun k hk e => by
      have h0 := hnone k hk
      rw [← e] at h0
      unfold World.cell? at hc
      rcases h0 with h0 | h0
      · rw [h0] at hc
        simp at hc
      · rw [h0] at hc
        split at hc <;> simp_all
    exact ⟨fun e => hno p (.inl rfl) e, fun e => hno a.block (.inr e) rfl⟩
  have hVw : Vw V p v w := fun a u hc => by
    obtain ⟨h1, h2⟩ := near a u hc
    exact ⟨(World.cell?_of_block (far a.block h1 h2)).symm.trans hc, h1, h2⟩
  have up : ∀ a u, w0.cell? a = some u → V.cell? a = some u := fun a u hc => by
    obtain ⟨h1, h2, h3⟩ := hv a u hc
    exact (World.cell?_of_block (far a.block h2 h3)).trans h1
  have c : ∀ j u, (#[.int .i64 op, .int .i64 x, .int .i64 y, .int .i64 n, .slice u4 ls.length r4, .slice u5 body.len r5, .slice u6 els.len r6] : Array Value)[j]? = some u → V.cell? ⟨q, j, none⟩ = some u := fun j u hu => (World.cell?_of_block (far q hp hq)).trans (hb j u hu)
  refine ⟨V, hVw, .inr ⟨q, 0, rfl, ?_⟩⟩
  refine ⟨⟨c 0 _ rfl, c 1 _ rfl, c 2 _ rfl, c 3 _ rfl⟩, ⟨u4, r4, c 4 _ rfl, i4.keep up⟩, ⟨u5, r5, c 5 _ rfl, l5, ?_⟩, ⟨u6, r6, c 6 _ rfl, l6, ?_⟩, trivial⟩
  · rcases i5 with e | ⟨b2, o2, e, h⟩
    · exact .inl e
    · exact .inr ⟨b2, o2, e, IlAt.keep up _ _ _ h⟩
  · rcases i6 with e | ⟨b2, o2, e, h⟩
    · exact .inl e
    · exact .inr ⟨b2, o2, e, IlAt.keep up _ _ _ h⟩
end Go.Proofs.YtkbfjkbokifgkaaDoor

namespace Go.Proofs.YtkbfjkbokifgkaaDoor
open Go.RowKit
set_option linter.unusedVariables false
set_option linter.unusedSimpArgs false

def fTypes : List Int × List Int → WS → WS := fun t s => puts (bytsC t.2) (puts (bytsC t.1) (put [b1 96] s))
def cTypes : List Int × List Int → Nat := fun t => 21 + t.1.length + t.2.length
theorem inTypes {l : List (List Int × List Int)} : ∀ t ∈ l, InR (fTypes t) (cTypes t) := fun t ht => ((InR.b 96).comp ((InR.puts _).comp (InR.puts _))).mono (by show _ ≤ cTypes t; unfold cTypes; have := bytsC_tot t.1; have := bytsC_tot t.2; omega)
end Go.Proofs.YtkbfjkbokifgkaaDoor

namespace Go.Proofs.YtkbfjkbokifgkaaDoor
open Go.RowKit
set_option linter.unusedVariables false
set_option linter.unusedSimpArgs false

def fImports : ByteArray × ByteArray × Int → WS → WS := fun t s => put (uB t.2.2) (put [b1 0] (lg (strl t.2.1) (lg (strl t.1) s)))
def cImports : ByteArray × ByteArray × Int → Nat := fun t => 31 + t.1.size + t.2.1.size
theorem inImports {l : List (ByteArray × ByteArray × Int)} : ∀ t ∈ l, InR (fImports t) (cImports t) := fun t ht => ((InR.lg _).comp ((InR.lg _).comp ((InR.b 0).comp (InR.u _)))).mono (by show _ ≤ cImports t; unfold cImports; simp only [strl_length]; omega)
end Go.Proofs.YtkbfjkbokifgkaaDoor

namespace Go.Proofs.YtkbfjkbokifgkaaDoor
open Go.RowKit
set_option linter.unusedVariables false
set_option linter.unusedSimpArgs false

def fFuncs : Int × List Int × Il → WS → WS := fun t s => put (uB t.1) s
def cFuncs : Int × List Int × Il → Nat := fun t => 10
theorem inFuncs {l : List (Int × List Int × Il)} : ∀ t ∈ l, InR (fFuncs t) (cFuncs t) := fun t ht => InR.u _
end Go.Proofs.YtkbfjkbokifgkaaDoor

namespace Go.Proofs.YtkbfjkbokifgkaaDoor
open Go.RowKit
set_option linter.unusedVariables false
set_option linter.unusedSimpArgs false

def fTables : Int × Int × Bool → WS → WS := fun t s => wLim t (put [b1 112] s)
def cTables : Int × Int × Bool → Nat := fun t => 22
theorem inTables {l : List (Int × Int × Bool)} : ∀ t ∈ l, InR (fTables t) (cTables t) := fun t ht => ((InR.b 112).comp (InR.lim _))
end Go.Proofs.YtkbfjkbokifgkaaDoor

namespace Go.Proofs.YtkbfjkbokifgkaaDoor
open Go.RowKit
set_option linter.unusedVariables false
set_option linter.unusedSimpArgs false

def fMems : Int × Int × Bool → WS → WS := fun t s => wLim t s
def cMems : Int × Int × Bool → Nat := fun t => 21
theorem inMems {l : List (Int × Int × Bool)} : ∀ t ∈ l, InR (fMems t) (cMems t) := fun t ht => InR.lim _
end Go.Proofs.YtkbfjkbokifgkaaDoor

namespace Go.Proofs.YtkbfjkbokifgkaaDoor
open Go.RowKit
set_option linter.unusedVariables false
set_option linter.unusedSimpArgs false

def fGlobals : Int × Bool × One → WS → WS := fun t s => wEx t.2.2.il (put [b1 (if t.2.1 = true then 1 else 0)] (put [b1 t.1] s))
def cGlobals : Int × Bool × One → Nat := fun t => 3 + cl t.2.2.il
theorem inGlobals {l : List (Int × Bool × One)} (hok : ∀ t ∈ l, nOk t.2.2.il) : ∀ t ∈ l, InR (fGlobals t) (cGlobals t) := fun t ht => ((InR.b _).comp ((InR.b _).comp (InR.ex _ (hok t ht)))).mono (by show _ ≤ cGlobals t; unfold cGlobals; omega)
end Go.Proofs.YtkbfjkbokifgkaaDoor

namespace Go.Proofs.YtkbfjkbokifgkaaDoor
open Go.RowKit
set_option linter.unusedVariables false
set_option linter.unusedSimpArgs false

def fExports : ByteArray × Int × Int → WS → WS := fun t s => put (uB t.2.2) (put [b1 t.2.1] (lg (strl t.1) s))
def cExports : ByteArray × Int × Int → Nat := fun t => 21 + t.1.size
theorem inExports {l : List (ByteArray × Int × Int)} : ∀ t ∈ l, InR (fExports t) (cExports t) := fun t ht => ((InR.lg _).comp ((InR.b _).comp (InR.u _))).mono (by show _ ≤ cExports t; unfold cExports; simp only [strl_length]; omega)
end Go.Proofs.YtkbfjkbokifgkaaDoor

namespace Go.Proofs.YtkbfjkbokifgkaaDoor
open Go.RowKit
set_option linter.unusedVariables false
set_option linter.unusedSimpArgs false

def fElems : One × List Int → WS → WS := fun t s => puts (numsC t.2) (wEx t.1.il (put [b1 0] s))
def cElems : One × List Int → Nat := fun t => 12 + 10 * t.2.length + cl t.1.il
theorem inElems {l : List (One × List Int)} (hok : ∀ t ∈ l, nOk t.1.il) : ∀ t ∈ l, InR (fElems t) (cElems t) := fun t ht => ((InR.b _).comp ((InR.ex _ (hok t ht)).comp (InR.puts _))).mono (by show _ ≤ cElems t; unfold cElems; have := numsC_tot t.2; omega)
end Go.Proofs.YtkbfjkbokifgkaaDoor

namespace Go.Proofs.YtkbfjkbokifgkaaDoor
open Go.RowKit
set_option linter.unusedVariables false
set_option linter.unusedSimpArgs false

def fDatas : One × ByteArray → WS → WS := fun t s => lg (strl t.2) (wEx t.1.il (put [b1 0] s))
def cDatas : One × ByteArray → Nat := fun t => 12 + t.2.size + cl t.1.il
theorem inDatas {l : List (One × ByteArray)} (hok : ∀ t ∈ l, nOk t.1.il) : ∀ t ∈ l, InR (fDatas t) (cDatas t) := fun t ht => ((InR.b _).comp ((InR.ex _ (hok t ht)).comp (InR.lg _))).mono (by show _ ≤ cDatas t; unfold cDatas; simp only [strl_length]; omega)
end Go.Proofs.YtkbfjkbokifgkaaDoor

namespace Go.Proofs.YtkbfjkbokifgkaaDoor
open Go.RowKit
set_option linter.unusedVariables false
set_option linter.unusedSimpArgs false

theorem infoE3 : (Tryd.prog.info? 3).map (fun i => (i.zero, i.size, i.bytes)) = some (some (.int .i64 0), 1, 8) := by kernel_rfl
theorem infoE3_parts : ∃ i, Tryd.prog.info? 3 = some i ∧ i.zero = some (.int .i64 0) ∧ i.size = 1 ∧ i.bytes = 8 := by
  have h := infoE3
  cases hi : Tryd.prog.info? 3 with
  | none => rw [hi] at h; cases h
  | some i =>
    rw [hi] at h
    simp only [Option.map_some, Option.some.injEq, Prod.mk.injEq] at h
    exact ⟨i, rfl, h.1, h.2.1, h.2.2⟩
/-- Numbers as cells. -/
def ic (l : List Int) : List Value := l.map fun x => .int .i64 x
theorem ic_append (l t : List Int) : ic (l ++ t) = ic l ++ ic t := by simp [ic]
theorem ic_length (l : List Int) : (ic l).length = l.length := by simp [ic]
theorem ic_one (x : Int) : ic [x] = [.int .i64 x] := rfl
theorem own_set {w : World} {base n : Nat} {e : TypeId} {g cap : Nat} {xs : List Value} (h : w.ownsRow base e 1 (.slice (some ⟨g, 0, none⟩) n cap) n xs) (j : Nat) (u : Value) : (w.setCell ⟨g, j, none⟩ u).ownsRow base e 1 (.slice (some ⟨g, 0, none⟩) n cap) n (xs.set j u) := by
  refine ⟨by rw [List.length_set]; exact h.1, ?_⟩
  rcases h.2 with ⟨e1, _⟩ | ⟨g', cap', cur, e1, hg, hh, h1, h2, h3, h4⟩
  · cases e1
  · cases e1
    refine .inr ⟨g, cap, cur.setIfInBounds j u, rfl, hg, heap_setCell_same w g j _ _ _ hh, h1, h2, by rw [Array.size_setIfInBounds]; exact h3, ?_⟩
    rw [Array.toList_setIfInBounds, ← h4, List.take_set]
theorem own_free {w : World} {base n : Nat} {e : TypeId} {g cap : Nat} {xs : List Value} (h : w.ownsRow base e 1 (.slice (some ⟨g, 0, none⟩) n cap) n xs) (j : Nat) : w.frozen? ⟨g, j, none⟩ = false := by
  rcases h.2 with ⟨e1, _⟩ | ⟨g', cap', cur, e1, hg, hh, _⟩
  · cases e1
  · cases e1
    exact frozen_of_row w g j _ _ hh

/-- Runs, the last one ahead. -/
def rstep (r : List (Nat × Int)) (x : Int) : List (Nat × Int) :=
  match r with
  | [] => [(1, x)]
  | (c, t) :: r => if t = x then (c + 1, t) :: r else (1, x) :: (c, t) :: r
def rns (l : List Int) : List (Nat × Int) := l.foldl rstep []
def runs (l : List Int) : List (Nat × Int) := (rns l).reverse
def psum (R : List (Nat × Int)) : Nat := (R.map (·.1)).sum
def endsL (R : List (Nat × Int)) : List Int := (List.range R.length).map fun j => ((psum (R.take (j + 1)) : Nat) : Int)
theorem rns_take {l : List Int} {i : Nat} {x : Int} (hx : l[i]? = some x) : rns (l.take (i + 1)) = rstep (rns (l.take i)) x := by
  rw [rns, List.take_add_one, hx, List.foldl_append]
  rfl
theorem psum_snoc (R : List (Nat × Int)) (q : Nat × Int) : psum (R ++ [q]) = psum R + q.1 := by simp [psum]
theorem endsL_length (R : List (Nat × Int)) : (endsL R).length = R.length := by simp [endsL]
theorem endsL_snoc (R : List (Nat × Int)) (q : Nat × Int) : endsL (R ++ [q]) = endsL R ++ [((psum R + q.1 : Nat) : Int)] := by
  unfold endsL
  rw [List.length_append, List.length_singleton, List.range_succ, List.map_append]
  congr 1
  · apply List.map_congr_left
    intro j hj
    have := List.mem_range.1 hj
    rw [List.take_append_of_le_length (by omega)]
  · rw [List.map_singleton, List.take_of_length_le (by simp), psum_snoc]
theorem endsL_at {R : List (Nat × Int)} {j : Nat} (hj : j < R.length) : (endsL R)[j]? = some ((psum (R.take (j + 1)) : Nat) : Int) := by
  unfold endsL
  rw [List.getElem?_map, List.getElem?_range hj]
  rfl
/-- What is known of the runs of a list's beginning. -/
theorem rns_known (l : List Int) : ∀ i, i ≤ l.length → psum (rns (l.take i)).reverse = i ∧ (rns (l.take i)).length ≤ i ∧ (∀ j q, (rns (l.take i)).reverse[j]? = some q → l[psum ((rns (l.take i)).reverse.take j)]? = some q.2) ∧ ((i = 0 ∧ rns (l.take i) = []) ∨ ∃ k c t r, i = k + 1 ∧ l[k]? = some t ∧ rns (l.take i) = (c, t) :: r)
  | 0, _ => by
    rw [List.take_zero]
    exact ⟨rfl, Nat.le_refl _, fun j q h => by simp [rns] at h, .inl ⟨rfl, rfl⟩⟩
  | i + 1, hi => by
    obtain ⟨x, hx⟩ : ∃ x, l[i]? = some x := ⟨_, List.getElem?_eq_getElem (by omega)⟩
    obtain ⟨h1, h2, h3, h4⟩ := rns_known l i (by omega)
    rw [rns_take hx]
    generalize rns (l.take i) = rr at h1 h2 h3 h4 ⊢
    have new : ∀ rr' : List (Nat × Int), rr' = rr → psum ((1, x) :: rr').reverse = i + 1 ∧ ((1, x) :: rr').length ≤ i + 1 ∧ (∀ j q, ((1, x) :: rr').reverse[j]? = some q → l[psum (((1, x) :: rr').reverse.take j)]? = some q.2) := by
      rintro rr' rfl
      rw [List.reverse_cons]
      refine ⟨by rw [psum_snoc, h1], by simpa using h2, fun j q hq => ?_⟩
      by_cases hj : j < rr'.reverse.length
      · rw [List.getElem?_append_left hj] at hq
        rw [List.take_append_of_le_length (by omega)]
        exact h3 j q hq
      · have hlt := (List.getElem?_eq_some_iff.1 hq).1
        rw [List.length_append, List.length_singleton] at hlt
        have hje : j = rr'.reverse.length := by omega
        subst hje
        rw [List.getElem?_append_right (Nat.le_refl _), Nat.sub_self] at hq
        cases hq
        rw [List.take_left, h1]
        exact hx
    rcases h4 with ⟨rfl, rfl⟩ | ⟨k, c, t, r, rfl, hk, rfl⟩
    · obtain ⟨a1, a2, a3⟩ := new [] rfl
      exact ⟨a1, a2, a3, .inr ⟨0, 1, x, [], rfl, hx, rfl⟩⟩
    · unfold rstep
      by_cases he : t = x
      · subst he
        simp only [if_pos]
        rw [List.reverse_cons] at h1 h3 ⊢
        rw [psum_snoc] at h1
        refine ⟨by rw [psum_snoc]; simp only at h1 ⊢; omega, by simpa using Nat.le_succ_of_le h2, fun j q hq => ?_, .inr ⟨k + 1, c + 1, t, r, rfl, hx, rfl⟩⟩
        by_cases hj : j < r.reverse.length
        · rw [List.getElem?_append_left hj] at hq
          rw [List.take_append_of_le_length (by omega)]
          have := h3 j q (by rw [List.getElem?_append_left hj]; exact hq)
          rw [List.take_append_of_le_length (by omega)] at this
          exact this
        · have hlt := (List.getElem?_eq_some_iff.1 hq).1
          rw [List.length_append, List.length_singleton] at hlt
          have hje : j = r.reverse.length := by omega
          subst hje
          rw [List.getElem?_append_right (Nat.le_refl _), Nat.sub_self] at hq
          cases hq
          have := h3 r.reverse.length (c, t) (by rw [List.getElem?_append_right (Nat.le_refl _), Nat.sub_self]; rfl)
          rw [List.take_left] at this ⊢
          exact this
      · simp only [if_neg he]
        obtain ⟨a1, a2, a3⟩ := new _ rfl
        exact ⟨a1, a2, a3, .inr ⟨k + 1, 1, x, _, rfl, hx, rfl⟩⟩
theorem psum_take_le (R : List (Nat × Int)) (j : Nat) : psum (R.take j) ≤ psum R := by
  have h : psum R = psum (R.take j) + psum (R.drop j) := by
    unfold psum
    rw [← List.sum_append, ← List.map_append, List.take_append_drop]
  omega
def locF (q : Nat × Int) : List (List UInt8) := [uB q.1, [b1 q.2]]
def locC (l : List Int) : List (List UInt8) := uB (runs l).length :: (runs l).flatMap locF
theorem runs_len (l : List Int) : (runs l).length ≤ l.length := by
  have := (rns_known l l.length (Nat.le_refl _)).2.1
  rw [List.take_length] at this
  simpa [runs] using this
theorem loc_tot : ∀ R : List (Nat × Int), tot (R.flatMap locF) ≤ 11 * R.length
  | [] => by simp [tot]
  | q :: R => by
    rw [List.flatMap_cons, tot_append]
    have := loc_tot R
    have := uB_len q.1
    simp only [locF, tot, List.length_cons, List.length_nil]
    omega
theorem locC_tot (l : List Int) : tot (locC l) ≤ 10 + 11 * l.length := by
  have := loc_tot (runs l)
  have := runs_len l
  have := uB_len (runs l).length
  simp only [locC, tot]
  omega
theorem loc_take {R : List (Nat × Int)} {j : Nat} {q : Nat × Int} (hq : R[j]? = some q) (s : WS) : puts ((R.take (j + 1)).flatMap locF) s = put [b1 q.2] (put (uB q.1) (puts ((R.take j).flatMap locF) s)) := by
  rw [List.take_add_one, hq, List.flatMap_append, puts_append]
  rfl

section
variable {N : Nat} {w0 : World} {p : Nat} {w : World} {mv : List Value} {v : Value} {s : WS}
def fStart (n : Int) : WS → WS := put (uB n)
end
end Go.Proofs.YtkbfjkbokifgkaaDoor

namespace Go.Proofs.YtkbfjkbokifgkaaDoor
open Go.RowKit
set_option linter.unusedVariables false
set_option linter.unusedSimpArgs false

/-- What is written apart, its length ahead. -/
def ap (f : WS → WS) (s : WS) : WS := lg (f ⟨[], s.n⟩).l ⟨s.l, (f ⟨[], s.n⟩).n⟩
def wCode (lo : List Int) (bo : Il) (s : WS) : WS := wEx bo (puts (locC lo) s)
def cCode (lo : List Int) (bo : Il) : Nat := 11 + 11 * lo.length + cl bo
/-- The bytes grow no more than the count. -/
def InL (f : WS → WS) : Prop := ∀ s, ((f s).l.length : Int) + s.n ≤ (s.l.length : Int) + (f s).n
theorem InL.put (t : List UInt8) : InL (put t) := fun s => by
  unfold Go.Proofs.YtkbfjkbokifgkaaDoor.put
  split
  · simp only [List.length_append]
    push_cast
    omega
  · simp only
    omega
theorem InL.comp {f g : WS → WS} (hf : InL f) (hg : InL g) : InL (fun s => g (f s)) := fun s => by
  have := hf s
  have := hg (f s)
  show ((g (f s)).l.length : Int) + s.n ≤ s.l.length + (g (f s)).n
  omega
theorem InL.id : InL (fun s => s) := fun s => Int.le_refl _
theorem InL.puts : ∀ c : List (List UInt8), InL (puts c)
  | [] => InL.id
  | t :: r => (InL.put t).comp (InL.puts r)
theorem InL.tail (f op x y n : Int) (ls : List Int) (elen : Nat) {B E : WS → WS} (hB : InL B) (hE : InL E) : InL (wTail f op x y n ls elen B E) := by
  unfold wTail
  split
  · split
    · exact InL.put _
    · exact InL.id
  split
  · split
    · exact ((((InL.put _).comp hB).comp (InL.put _)).comp hE).comp (InL.put _)
    · exact ((InL.put _).comp hB).comp (InL.put _)
  split
  · exact InL.put _
  split
  · exact (InL.puts _).comp (InL.put _)
  split
  · exact (InL.put _).comp (InL.put _)
  split
  · exact (InL.put _).comp (InL.put _)
  split
  · exact InL.put _
  · exact InL.id
theorem InL.wl : ∀ l : Il, InL (wl l)
  | .nil => InL.id
  | .cons op x y n ls b e r => fun s => by
    unfold Go.Proofs.YtkbfjkbokifgkaaDoor.wl
    split
    · exact Int.le_refl _
    · exact (((InL.put [b1 op]).comp (InL.tail (formV op) op x y n ls e.len (InL.wl b) (InL.wl e))).comp (InL.wl r)) s
theorem InL.code (lo : List Int) (bo : Il) : InL (wCode lo bo) := ((InL.puts _).comp (InL.wl bo)).comp (InL.put _)
theorem InR.code (lo : List Int) (bo : Il) (ok : nOk bo) : InR (wCode lo bo) (cCode lo bo) := ((InR.puts (locC lo)).comp (InR.ex bo ok)).mono (by have := locC_tot lo; unfold cCode; omega)
theorem InR.ap {f : WS → WS} {c : Nat} (h : InR f c) (hl : InL f) : InR (ap f) (2 * c + 10) := fun s => by
  have h1 := h ⟨[], s.n⟩
  have h2 := hl ⟨[], s.n⟩
  have h3 := InR.lg (f ⟨[], s.n⟩).l ⟨s.l, (f ⟨[], s.n⟩).n⟩
  unfold Go.Proofs.YtkbfjkbokifgkaaDoor.ap
  simp only [List.length_nil] at h1 h2 h3
  omega
section
variable {N p : Nat} {w0 w : World} {mv : List Value} {v : Value} {s : WS}
theorem WAt.nil (h : WAt N p w mv v s) : WAt N p (w.setCell ⟨p, 10, none⟩ (.slice none 0 0)) mv (.slice none 0 0) ⟨[], s.n⟩ :=
  h.turn (l := []) (w' := w) rfl (World.ownsRow_nil _ _ _ _) (fun e => by cases e) (Nat.le_refl _) (by have := h.low; simpa using this) (by decide)
theorem Tr.nil (p : Nat) (v : Value) (w : World) : Tr p v (.slice none 0 0) w (w.setCell ⟨p, 10, none⟩ (.slice none 0 0)) :=
  have h := (Tr.refl p v w).set 10 (.slice none 0 0)
  ⟨h.os, h.tape, h.output, h.size, h.block, .inr fun g e => by cases e⟩
/-- The bytes of before come back. -/
theorem WAt.back {w2 : World} {v2 : Value} {s2 : WS} (h : WAt N p w mv v s) (h2 : WAt N p w2 mv v2 s2) (t : Tr p (.slice none 0 0) v2 (w.setCell ⟨p, 10, none⟩ (.slice none 0 0)) w2) (hn : s.n ≤ s2.n) :
    WAt N p (w2.setCell ⟨p, 10, none⟩ v) mv v ⟨s.l, s2.n⟩ ∧ Tr p v v w (w2.setCell ⟨p, 10, none⟩ v) ∧ BIn (w2.setCell ⟨p, 10, none⟩ v) v2 s2.l ∧ v2.ownBlock ≠ some p ∧ ∀ g, v2.ownBlock = some g → w.heap.size ≤ g := by
  have hlt := h.lt
  have hsz : (w.setCell ⟨p, 10, none⟩ (.slice none 0 0)).heap.size = w.heap.size := by simp
  have blk : ∀ k, k < w.heap.size → k ≠ p → w2.heap[k]? = w.heap[k]? := fun k hk hp => (t.block k (by rw [hsz]; exact hk) hp (fun e => by cases e)).trans (Below.heap_setCell _ _ _ _ hp)
  have hgs : ∀ g, v2.ownBlock = some g → w.heap.size ≤ g := fun g e => by
    rcases t.own with e2 | e2
    · rw [e2] at e; cases e
    · rw [← hsz]; exact e2 g e
  have hne2 : v2.ownBlock ≠ some p := h2.ne
  have hb2 : BIn w2 v2 s2.l := BIn.own h2.own
  refine ⟨h2.turn rfl ?_ h.ne (Nat.le_refl _) (by have := h.len; omega) h.cap, ⟨t.os, t.tape, t.output, by have := t.size; rw [hsz] at this; simpa using this, fun k hk hp hv => (Below.heap_setCell _ _ _ _ hp).trans (blk k hk hp), .inl rfl⟩, ?_, hne2, hgs⟩
  · refine ⟨h.own.1, ?_⟩
    rcases h.own.2 with e | ⟨g, cap, cur, e, hg, hh, r⟩
    · exact .inl e
    · refine .inr ⟨g, cap, cur, e, hg, (blk g (lt_of_block hh) (fun e2 => h.ne (by rw [e, ← e2]; rfl))).trans hh, r⟩
  · rcases hb2 with hb | ⟨g, c, rfl, hc⟩
    · exact .inl hb
    · refine .inr ⟨g, c, rfl, fun j hj => ?_⟩
      refine (World.cell?_of_block (Below.heap_setCell _ _ _ _ (fun e : g = p => hne2 (by rw [e]; rfl)))).trans (hc j hj)
end
end Go.Proofs.YtkbfjkbokifgkaaDoor

namespace Go.Proofs.YtkbfjkbokifgkaaDoor
open Go.RowKit
set_option linter.unusedVariables false
set_option linter.unusedSimpArgs false

def fCodes : Int × List Int × Il → WS → WS := fun t s => ap (wCode t.2.1 t.2.2) s
def cCodes : Int × List Int × Il → Nat := fun t => 2 * cCode t.2.1 t.2.2 + 10
theorem inCodes {l : List (Int × List Int × Il)} (hok : ∀ t ∈ l, nOk t.2.2) : ∀ t ∈ l, InR (fCodes t) (cCodes t) := fun t ht => (InR.code t.2.1 t.2.2 (hok t ht)).ap (InL.code t.2.1 t.2.2)
theorem Tr.own_ne {p q : Nat} {v v' : Value} {w w' : World} (t : Tr p v v' w w') (hq : q < w.heap.size) (hv : v.ownBlock ≠ some q) : v'.ownBlock ≠ some q := by
  rcases t.own with e | e
  · rw [e]; exact hv
  · exact fun e2 => by have := e q e2; omega
end Go.Proofs.YtkbfjkbokifgkaaDoor

namespace Go.Proofs.YtkbfjkbokifgkaaDoor
open Go.RowKit
set_option linter.unusedVariables false
set_option linter.unusedSimpArgs false

/-- What was written; were they too many? -/
structure PS where
  l : List UInt8
  o : Bool
/-- The bytes B were written, or they were too many. -/
structure Pen (s : PS) (B : List UInt8) (s' : PS) : Prop where
  stays : s.o = true → s'.o = true
  fits : s'.o = false → s'.l = s.l ++ B ∧ s'.l.length ≤ 524288
  goes : (s.l ++ B).length ≤ 524288 → s.o = false → s'.o = false
theorem Pen.refl {s : PS} (h : s.l.length ≤ 524288) : Pen s [] s := ⟨fun h => h, fun _ => ⟨by simp, h⟩, fun _ h => h⟩
theorem Pen.trans {s t u : PS} {B C : List UInt8} (h : Pen s B t) (k : Pen t C u) : Pen s (B ++ C) u := by
  refine ⟨fun e => k.stays (h.stays e), fun e => ?_, fun e e2 => ?_⟩
  · have ht : t.o = false := by
      cases ho : t.o with
      | false => rfl
      | true => rw [k.stays ho] at e; cases e
    obtain ⟨a1, a2⟩ := h.fits ht
    obtain ⟨b1, b2⟩ := k.fits e
    exact ⟨by rw [b1, a1, List.append_assoc], b2⟩
  · rw [← List.append_assoc] at e
    have ht := h.goes (by rw [List.length_append] at e; omega) e2
    exact k.goes (by rw [(h.fits ht).1]; exact e) ht
/-- Too many already: whatever would have come behind. -/
theorem Pen.stop {s t : PS} {B C : List UInt8} (h : Pen s B t) (ht : t.o = true) : Pen s (B ++ C) t := by
  refine ⟨h.stays, fun e => (by rw [ht] at e; cases e), fun e e2 => ?_⟩
  have := h.goes (by rw [List.length_append] at e; rw [List.length_append] at e ⊢; omega) e2
  rw [ht] at this
  cases this
theorem Pen.of {s : PS} (hs : s.l.length ≤ 524288) (t : List UInt8) : Pen s t (if 524288 < s.l.length + t.length then ⟨s.l, true⟩ else ⟨s.l ++ t, s.o⟩) := by
  split
  · rename_i h
    exact ⟨fun _ => rfl, fun e => (by cases e), fun e _ => by rw [List.length_append] at e; omega⟩
  · rename_i h
    exact ⟨fun e => e, fun _ => ⟨rfl, by rw [List.length_append]; omega⟩, fun _ e => e⟩

/-- What is as long as it says. -/
def xLg (l : List UInt8) : List UInt8 := uB l.length ++ l
variable {w0 : World}
end Go.Proofs.YtkbfjkbokifgkaaDoor

namespace Go.Proofs.YtkbfjkbokifgkaaDoor
open Go.RowKit
set_option linter.unusedVariables false

def xTail (f op x y n : Int) (ls : List Int) (elen : Nat) (B E : List UInt8) : List UInt8 :=
  if f = 1 then (if op = 63 ∨ op = 64 then [b1 0] else [])
  else if f = 2 ∨ f = 3 then [b1 (if x = 0 then 64 else x)] ++ B ++ (if 0 < elen then [b1 5] ++ E else []) ++ [b1 11]
  else if f = 4 ∨ f = 6 then uB x
  else if f = 5 then (numsC ls).flatten ++ uB x
  else if f = 7 then uB x ++ [b1 0]
  else if f = 8 then uB x ++ uB y
  else if f = 9 then lebS n
  else []
def xl : Il → List UInt8
  | .nil => []
  | .cons op x y n ls b e r => ([b1 op] ++ xTail (formV op) op x y n ls e.len (xl b) (xl e)) ++ xl r
def xi (op x y n : Int) (ls : List Int) (b e : Il) : List UInt8 := [b1 op] ++ xTail (formV op) op x y n ls e.len (xl b) (xl e)
def xEx (l : Il) : List UInt8 := xl l ++ [b1 11]
def xLim (t : Int × Int × Bool) : List UInt8 := if t.2.2 = true then ([b1 1] ++ uB t.1) ++ uB t.2.1 else [b1 0] ++ uB t.1
end Go.Proofs.YtkbfjkbokifgkaaDoor

namespace Go.Proofs.YtkbfjkbokifgkaaDoor
open Go.RowKit
set_option linter.unusedVariables false

/-- A writing of bytes B: each counted at most k times. -/
def eWr (k : Nat) (f : WS → WS) (B : List UInt8) : Prop := ∀ s, s.n ≤ (f s).n ∧ ((f s).n ≤ 1048576 → (f s).l = s.l ++ B ∧ s.n + B.length ≤ (f s).n) ∧ (s.n + (k * B.length : Nat) ≤ 1048576 → (f s).n ≤ s.n + (k * B.length : Nat))
theorem eWr.put {k : Nat} (hk : 1 ≤ k) (t : List UInt8) : eWr k (put t) t := fun s => by
  have h1 : t.length ≤ k * t.length := Nat.le_mul_of_pos_left _ hk
  refine ⟨by rw [put_n]; omega, fun h => ?_, fun h => by rw [put_n]; omega⟩
  rw [put_n] at h ⊢
  refine ⟨?_, Int.le_refl _⟩
  unfold Go.Proofs.YtkbfjkbokifgkaaDoor.put
  rw [if_pos h]
theorem eWr.id (k : Nat) : eWr k (fun s => s) [] := fun s => ⟨Int.le_refl _, fun h => ⟨by simp, by simp⟩, fun h => by simp⟩
theorem eWr.comp {k : Nat} {f g : WS → WS} {A B : List UInt8} (hf : eWr k f A) (hg : eWr k g B) : eWr k (fun s => g (f s)) (A ++ B) := fun s => by
  obtain ⟨f1, f2, f3⟩ := hf s
  obtain ⟨g1, g2, g3⟩ := hg (f s)
  rw [List.length_append, Nat.mul_add]
  refine ⟨by show s.n ≤ (g (f s)).n; omega, fun h => ?_, fun h => ?_⟩
  · obtain ⟨a1, a2⟩ := g2 h
    obtain ⟨b1, b2⟩ := f2 (by change (g (f s)).n ≤ _ at h; omega)
    exact ⟨by show (g (f s)).l = _; rw [a1, b1, List.append_assoc], by show _ ≤ (g (f s)).n; push_cast; omega⟩
  · have e1 := f3 (by push_cast at h ⊢; omega)
    have e2 := g3 (by push_cast at h e1 ⊢; omega)
    show (g (f s)).n ≤ _
    push_cast at e1 e2 ⊢
    omega
theorem eWr.mono {k k' : Nat} {f : WS → WS} {B : List UInt8} (h : eWr k f B) (hk : k ≤ k') : eWr k' f B := fun s => by
  obtain ⟨f1, f2, f3⟩ := h s
  have h1 : k * B.length ≤ k' * B.length := Nat.mul_le_mul_right _ hk
  exact ⟨f1, f2, fun h => by have := f3 (by omega); omega⟩
theorem eWr.puts {k : Nat} (hk : 1 ≤ k) : ∀ c : List (List UInt8), eWr k (puts c) c.flatten
  | [] => eWr.id k
  | t :: r => (eWr.put hk t).comp (eWr.puts hk r)
theorem eWr.fo {α : Type} {k : Nat} {f : α → WS → WS} {b : α → List UInt8} : ∀ l : List α, (∀ x ∈ l, eWr k (f x) (b x)) → eWr k (fo f l) (l.flatMap b)
  | [], _ => eWr.id k
  | x :: l, h => by
    rw [List.flatMap_cons]
    exact (h x (List.mem_cons_self ..)).comp (eWr.fo l fun y hy => h y (List.mem_cons_of_mem _ hy))
theorem eWr.lg {k : Nat} (hk : 1 ≤ k) (l : List UInt8) : eWr k (lg l) (uB l.length ++ l) := (eWr.put hk _).comp (eWr.put hk l)
theorem eWr.ap {k : Nat} {f : WS → WS} {B : List UInt8} (h : eWr k f B) : eWr (k + 1) (ap f) (uB B.length ++ B) := fun s => by
  obtain ⟨f1, f2, f3⟩ := h ⟨[], s.n⟩
  generalize hs1 : f ⟨[], s.n⟩ = s1 at f1 f2 f3
  obtain ⟨l1, l2, _⟩ := eWr.lg (Nat.le_refl 1) s1.l ⟨s.l, s1.n⟩
  have hap : Go.Proofs.YtkbfjkbokifgkaaDoor.ap f s = Go.Proofs.YtkbfjkbokifgkaaDoor.lg s1.l ⟨s.l, s1.n⟩ := by unfold Go.Proofs.YtkbfjkbokifgkaaDoor.ap; rw [hs1]
  rw [hap]
  simp only at f1 f2 f3 l1 l2
  refine ⟨by omega, fun h => ?_, fun h => ?_⟩
  · obtain ⟨a1, a2⟩ := f2 (by omega)
    obtain ⟨b1, b2⟩ := l2 h
    rw [List.nil_append] at a1
    rw [a1] at b1 b2 ⊢
    exact ⟨b1, by omega⟩
  · rw [Nat.add_mul, Nat.one_mul] at h ⊢
    have e0 : k * B.length ≤ k * (uB B.length ++ B).length := Nat.mul_le_mul_left _ (by simp)
    have e1 := f3 (by omega)
    obtain ⟨a1, a2⟩ := f2 (by omega)
    rw [List.nil_append] at a1
    have e2 : (Go.Proofs.YtkbfjkbokifgkaaDoor.lg s1.l ⟨s.l, s1.n⟩).n = s1.n + (uB B.length ++ B).length := by
      rw [a1]
      unfold Go.Proofs.YtkbfjkbokifgkaaDoor.lg
      rw [put_n, put_n, List.length_append]
      push_cast
      omega
    rw [e2]
    omega

theorem eWr.tail {k : Nat} (hk : 1 ≤ k) (f op x y n : Int) (ls : List Int) (elen : Nat) {B E : WS → WS} {b e : List UInt8} (hB : eWr k B b) (hE : eWr k E e) : eWr k (wTail f op x y n ls elen B E) (xTail f op x y n ls elen b e) := by
  unfold wTail xTail
  split
  · split
    · exact eWr.put hk _
    · exact eWr.id k
  split
  · split
    · have h := ((((eWr.put hk [b1 (if x = 0 then 64 else x)]).comp hB).comp (eWr.put hk [b1 5])).comp hE).comp (eWr.put hk [b1 11])
      simpa only [List.append_assoc] using h
    · have h := ((eWr.put hk [b1 (if x = 0 then 64 else x)]).comp hB).comp (eWr.put hk [b1 11])
      simpa only [List.append_assoc, List.append_nil, List.nil_append] using h
  split
  · exact eWr.put hk _
  split
  · exact (eWr.puts hk _).comp (eWr.put hk _)
  split
  · exact (eWr.put hk _).comp (eWr.put hk _)
  split
  · exact (eWr.put hk _).comp (eWr.put hk _)
  split
  · exact eWr.put hk _
  · exact eWr.id k
theorem eWr.wl {k : Nat} (hk : 1 ≤ k) : ∀ l : Il, eWr k (wl l) (xl l)
  | .nil => eWr.id k
  | .cons op x y n ls b e r => fun s => by
    have h := (((eWr.put hk [b1 op]).comp (eWr.tail hk (formV op) op x y n ls e.len (eWr.wl hk b) (eWr.wl hk e))).comp (eWr.wl hk r)) s
    unfold Go.Proofs.YtkbfjkbokifgkaaDoor.wl
    split
    · rename_i hlt
      exact ⟨Int.le_refl _, fun h => by omega, fun h => by omega⟩
    · exact h
theorem eWr.ex {k : Nat} (hk : 1 ≤ k) (l : Il) : eWr k (wEx l) (xEx l) := (eWr.wl hk l).comp (eWr.put hk [b1 11])
theorem eWr.lim {k : Nat} (hk : 1 ≤ k) (t : Int × Int × Bool) : eWr k (wLim t) (xLim t) := by
  unfold wLim xLim
  split
  · exact ((eWr.put hk _).comp (eWr.put hk _)).comp (eWr.put hk _)
  · exact (eWr.put hk _).comp (eWr.put hk _)
def xTypes (t : List Int × List Int) : List UInt8 := ([b1 96] ++ (bytsC t.1).flatten) ++ (bytsC t.2).flatten
def xImports (t : ByteArray × ByteArray × Int) : List UInt8 := ((xLg (strl t.1) ++ xLg (strl t.2.1)) ++ [b1 0]) ++ uB t.2.2
def xFuncs (t : Int × List Int × Il) : List UInt8 := uB t.1
def xTables (t : Int × Int × Bool) : List UInt8 := [b1 112] ++ xLim t
def xGlobals (t : Int × Bool × One) : List UInt8 := ([b1 t.1] ++ [b1 (if t.2.1 = true then 1 else 0)]) ++ xEx t.2.2.il
def xExports (t : ByteArray × Int × Int) : List UInt8 := (xLg (strl t.1) ++ [b1 t.2.1]) ++ uB t.2.2
def xElems (t : One × List Int) : List UInt8 := ([b1 0] ++ xEx t.1.il) ++ (numsC t.2).flatten
def xDatas (t : One × ByteArray) : List UInt8 := ([b1 0] ++ xEx t.1.il) ++ xLg (strl t.2)
def xLoc (l : List Int) : List UInt8 := (locC l).flatten
def xCodes (t : Int × List Int × Il) : List UInt8 := xLg (xLoc t.2.1 ++ xEx t.2.2)
/-- A section's bytes: how many, and each. -/
def xSec {α : Type} (b : α → List UInt8) (l : List α) : List UInt8 := uB l.length ++ l.flatMap b
theorem eWr.sec {α : Type} {k : Nat} (hk : 1 ≤ k) {f : α → WS → WS} {b : α → List UInt8} (l : List α) (h : ∀ x, eWr k (f x) (b x)) : eWr k (fun s => Go.Proofs.YtkbfjkbokifgkaaDoor.fo f l (Go.Proofs.YtkbfjkbokifgkaaDoor.put (uB l.length) s)) (xSec b l) := (eWr.put hk _).comp (eWr.fo l fun x _ => h x)
theorem wrTypes (t) : eWr 2 (fTypes t) (xTypes t) := ((eWr.put (by decide) _).comp (eWr.puts (by decide) _)).comp (eWr.puts (by decide) _)
theorem wrImports (t) : eWr 2 (fImports t) (xImports t) := (((eWr.lg (by decide) _).comp (eWr.lg (by decide) _)).comp (eWr.put (by decide) _)).comp (eWr.put (by decide) _)
theorem wrFuncs (t) : eWr 2 (fFuncs t) (xFuncs t) := eWr.put (by decide) _
theorem wrTables (t) : eWr 2 (fTables t) (xTables t) := (eWr.put (by decide) _).comp (eWr.lim (by decide) t)
theorem wrMems (t) : eWr 2 (fMems t) (xLim t) := eWr.lim (by decide) t
theorem wrGlobals (t) : eWr 2 (fGlobals t) (xGlobals t) := ((eWr.put (by decide) _).comp (eWr.put (by decide) _)).comp (eWr.ex (by decide) _)
theorem wrExports (t) : eWr 2 (fExports t) (xExports t) := ((eWr.lg (by decide) _).comp (eWr.put (by decide) _)).comp (eWr.put (by decide) _)
theorem wrElems (t) : eWr 2 (fElems t) (xElems t) := ((eWr.put (by decide) _).comp (eWr.ex (by decide) _)).comp (eWr.puts (by decide) _)
theorem wrDatas (t) : eWr 2 (fDatas t) (xDatas t) := ((eWr.put (by decide) _).comp (eWr.ex (by decide) _)).comp (eWr.lg (by decide) _)
theorem wrCodes (t) : eWr 2 (fCodes t) (xCodes t) := ((eWr.puts (Nat.le_refl 1) (locC t.2.1)).comp (eWr.ex (Nat.le_refl 1) t.2.2)).ap
def xStart (l : List Int) : List UInt8 := (l.map uB).flatten
def wStart (l : List Int) (s : WS) : WS := puts (l.map uB) s
theorem wrStart (l) : eWr 2 (wStart l) (xStart l) := eWr.puts (by decide) _

/-- A section: has it anything, what writes it, its bytes. -/
structure Sc where
  some : Bool
  f : WS → WS
  x : List UInt8
def scs (m : Md) : List Sc := [
  ⟨decide (0 < m.types.length), fun s => fo fTypes m.types (put (uB m.types.length) s), xSec xTypes m.types⟩,
  ⟨decide (0 < m.imports.length), fun s => fo fImports m.imports (put (uB m.imports.length) s), xSec xImports m.imports⟩,
  ⟨decide (0 < m.funcs.length), fun s => fo fFuncs m.funcs (put (uB m.funcs.length) s), xSec xFuncs m.funcs⟩,
  ⟨decide (0 < m.tables.length), fun s => fo fTables m.tables (put (uB m.tables.length) s), xSec xTables m.tables⟩,
  ⟨decide (0 < m.mems.length), fun s => fo fMems m.mems (put (uB m.mems.length) s), xSec xLim m.mems⟩,
  ⟨decide (0 < m.globals.length), fun s => fo fGlobals m.globals (put (uB m.globals.length) s), xSec xGlobals m.globals⟩,
  ⟨decide (0 < m.exports.length), fun s => fo fExports m.exports (put (uB m.exports.length) s), xSec xExports m.exports⟩,
  ⟨decide (0 < m.start.length), wStart m.start, xStart m.start⟩,
  ⟨decide (0 < m.elems.length), fun s => fo fElems m.elems (put (uB m.elems.length) s), xSec xElems m.elems⟩,
  ⟨decide (0 < m.funcs.length), fun s => fo fCodes m.funcs (put (uB m.funcs.length) s), xSec xCodes m.funcs⟩,
  ⟨decide (0 < m.datas.length), fun s => fo fDatas m.datas (put (uB m.datas.length) s), xSec xDatas m.datas⟩]
def Sc.ok (c : Sc) : Prop := eWr 2 c.f c.x ∧ (c.some = false → c.x.length ≤ 10)
theorem sec_none {α : Type} (b : α → List UInt8) (l : List α) (h : decide (0 < l.length) = false) : (xSec b l).length ≤ 10 := by
  have : l = [] := by
    cases l with
    | nil => rfl
    | cons a r => simp at h
  subst this
  have := uB_len 0
  simpa [xSec] using this
theorem scs_ok (m : Md) : ∀ c ∈ scs m, c.ok := by
  intro c hc
  simp only [scs, List.mem_cons, List.not_mem_nil, or_false] at hc
  rcases hc with rfl | rfl | rfl | rfl | rfl | rfl | rfl | rfl | rfl | rfl | rfl
  · exact ⟨eWr.sec (by decide) _ wrTypes, sec_none _ _⟩
  · exact ⟨eWr.sec (by decide) _ wrImports, sec_none _ _⟩
  · exact ⟨eWr.sec (by decide) _ wrFuncs, sec_none _ _⟩
  · exact ⟨eWr.sec (by decide) _ wrTables, sec_none _ _⟩
  · exact ⟨eWr.sec (by decide) _ wrMems, sec_none _ _⟩
  · exact ⟨eWr.sec (by decide) _ wrGlobals, sec_none _ _⟩
  · exact ⟨eWr.sec (by decide) _ wrExports, sec_none _ _⟩
  · refine ⟨wrStart _, fun h => ?_⟩
    have : m.start = [] := by
      cases hs : m.start with
      | nil => rfl
      | cons a r => rw [hs] at h; simp at h
    rw [this]
    decide
  · exact ⟨eWr.sec (by decide) _ wrElems, sec_none _ _⟩
  · exact ⟨eWr.sec (by decide) _ wrCodes, sec_none _ _⟩
  · exact ⟨eWr.sec (by decide) _ wrDatas, sec_none _ _⟩
/-- A turn of Encode's loop, at the section of a number. -/
def turn1 (i : Nat) (c : Sc) (s : WS) : WS := if c.some = true then lg (c.f ⟨[], s.n⟩).l (put [b1 ((i : Int) + 1)] ⟨s.l, (c.f ⟨[], s.n⟩).n⟩) else ⟨s.l, (c.f ⟨[], s.n⟩).n⟩
def bad (s : WS) : Bool := decide (1048576 < s.n) || decide (262144 < s.l.length)
def turns : Nat → List Sc → WS → Option WS
  | _, [], s => some s
  | i, c :: r, s => if bad (turn1 i c s) = true then none else turns (i + 1) r (turn1 i c s)
def xScs : Nat → List Sc → List UInt8
  | _, [] => []
  | i, c :: r => (if c.some = true then b1 ((i : Int) + 1) :: xLg c.x else []) ++ xScs (i + 1) r
theorem turn1_ok {i : Nat} {c : Sc} (h : c.ok) (s : WS) (X : List UInt8) (hX : X = if c.some = true then b1 ((i : Int) + 1) :: xLg c.x else []) :
    s.n ≤ (turn1 i c s).n ∧ ((turn1 i c s).n ≤ 1048576 → (turn1 i c s).l = s.l ++ X) ∧ (s.n + 3 * X.length + 20 ≤ 1048576 → (turn1 i c s).n ≤ s.n + 3 * X.length + 20) := by
  obtain ⟨f1, f2, f3⟩ := h.1 ⟨[], s.n⟩
  have h2 := h.2
  unfold turn1
  generalize c.f ⟨[], s.n⟩ = s1 at f1 f2 f3 ⊢
  simp only [List.nil_append] at f1 f2 f3
  by_cases hs : c.some = true
  · rw [if_pos hs] at hX ⊢
    obtain ⟨l1, l2, _⟩ := ((eWr.put (Nat.le_refl 1) [b1 ((i : Int) + 1)]).comp (eWr.lg (Nat.le_refl 1) s1.l)) ⟨s.l, s1.n⟩
    simp only at l1 l2
    have hXl : X.length = 1 + (xLg c.x).length := by rw [hX]; simp; omega
    have hge : c.x.length ≤ (xLg c.x).length := by simp [xLg]
    refine ⟨by omega, fun h => ?_, fun h => ?_⟩
    · obtain ⟨a1, a2⟩ := f2 (by omega)
      rw [(l2 h).1, hX, a1]
      rfl
    · have e1 := f3 (by omega)
      obtain ⟨a1, a2⟩ := f2 (by omega)
      have e2 : (lg s1.l (put [b1 ((i : Int) + 1)] ⟨s.l, s1.n⟩)).n = s1.n + 1 + (xLg c.x).length := by
        rw [a1]
        unfold lg xLg
        rw [put_n, put_n, put_n, List.length_append]
        simp only [List.length_cons, List.length_nil]
        omega
      rw [e2]
      omega
  · rw [if_neg hs] at hX ⊢
    have := h2 (by simpa using hs)
    subst hX
    refine ⟨f1, fun _ => by simp, fun h => ?_⟩
    simp only [List.length_nil] at h ⊢
    have := f3 (by omega)
    omega
theorem turns_ok : ∀ (r : List Sc) (i : Nat) (s : WS) (k : Nat), (∀ c ∈ r, c.ok) → s.n ≤ 3 * s.l.length + 20 * k → k + r.length ≤ 11 → s.l.length ≤ 262144 →
    ((s.l ++ xScs i r).length ≤ 262144 → ∃ n, turns i r s = some ⟨s.l ++ xScs i r, n⟩) ∧ (262144 < (s.l ++ xScs i r).length → turns i r s = none)
  | [], i, s, k, _, hn, _, hl => by
    simp only [xScs, List.append_nil, turns]
    exact ⟨fun _ => ⟨s.n, rfl⟩, fun h => by omega⟩
  | c :: r, i, s, k, ho, hn, hk, hl => by
    obtain ⟨X, hX⟩ : ∃ X, X = (if c.some = true then b1 ((i : Int) + 1) :: xLg c.x else []) := ⟨_, rfl⟩
    obtain ⟨t1, t2, t3⟩ := turn1_ok (ho c (List.mem_cons_self ..)) s X hX
    simp only [xScs, turns, ← hX]
    generalize turn1 i c s = s' at t1 t2 t3 ⊢
    rw [← List.append_assoc]
    simp only [List.length_cons] at hk
    by_cases hXl : (s.l ++ X).length ≤ 262144
    · have hXl' := hXl
      rw [List.length_append] at hXl'
      have e3 := t3 (by omega)
      have e2 := t2 (by omega)
      have hb : bad s' = false := by
        unfold bad
        rw [e2]
        simp only [Bool.or_eq_false_iff, decide_eq_false_iff_not]
        exact ⟨by omega, by omega⟩
      rw [hb, if_neg (by simp), ← e2]
      exact turns_ok r (i + 1) s' (k + 1) (fun c hc => ho c (List.mem_cons_of_mem _ hc)) (by rw [e2, List.length_append]; push_cast; omega) (by omega) (by rw [e2]; exact hXl)
    · have hb : bad s' = true := by
        unfold bad
        simp only [Bool.or_eq_true, decide_eq_true_eq]
        by_cases h : 1048576 < s'.n
        · exact .inl h
        · right
          rw [t2 (by omega)]
          omega
      rw [hb, if_pos rfl]
      refine ⟨fun h => ?_, fun _ => rfl⟩
      rw [List.length_append] at h
      omega
def headB : List UInt8 := [0, 97, 115, 109, 1, 0, 0, 0]
/-- A module's bytes. -/
def xMd (m : Md) : List UInt8 := headB ++ xScs 0 (scs m)
theorem encodes (m : Md) : ((xMd m).length ≤ 262144 → ∃ n, turns 0 (scs m) ⟨headB, 8⟩ = some ⟨xMd m, n⟩) ∧ (262144 < (xMd m).length → turns 0 (scs m) ⟨headB, 8⟩ = none) :=
  turns_ok (scs m) 0 ⟨headB, 8⟩ 0 (scs_ok m) (by decide) (Nat.le_refl 11) (by decide)
end Go.Proofs.YtkbfjkbokifgkaaDoor

namespace Go.Proofs.YtkbfjkbokifgkaaDoor
open Go.RowKit
set_option linter.unusedVariables false
set_option linter.unusedSimpArgs false

/-- What an int holds, and no more than may be counted. -/
structure Fit (m : Md) : Prop where
  types : cs cTypes m.types ≤ 1152921504606846976
  imports : cs cImports m.imports ≤ 1152921504606846976
  funcs : cs cFuncs m.funcs ≤ 1152921504606846976
  tables : cs cTables m.tables ≤ 1152921504606846976
  mems : cs cMems m.mems ≤ 1152921504606846976
  globals : cs cGlobals m.globals ≤ 1152921504606846976
  exports : cs cExports m.exports ≤ 1152921504606846976
  start : 10 * m.start.length ≤ 1152921504606846976
  elems : cs cElems m.elems ≤ 1152921504606846976
  codes : cs cCodes m.funcs ≤ 1152921504606846976
  datas : cs cDatas m.datas ≤ 1152921504606846976
  ng : ∀ t ∈ m.globals, nOk t.2.2.il
  ne : ∀ t ∈ m.elems, nOk t.1.il
  nd : ∀ t ∈ m.datas, nOk t.1.il
  nf : ∀ t ∈ m.funcs, nOk t.2.2
  lo : ∀ t ∈ m.funcs, t.2.1.length ≤ 65536
  one : m.start.length ≤ 1
/-- A writer's module. -/
def mvL (m : Md) (a0 : Option Addr) (k0 : Nat) (a1 : Option Addr) (k1 : Nat) (a2 : Option Addr) (k2 : Nat) (a3 : Option Addr) (k3 : Nat) (a4 : Option Addr) (k4 : Nat) (a5 : Option Addr) (k5 : Nat) (a6 : Option Addr) (k6 : Nat) (a7 : Option Addr) (k7 : Nat) (a8 : Option Addr) (k8 : Nat) (a9 : Option Addr) (k9 : Nat) : List Value := [.slice a0 m.types.length k0, .slice a1 m.imports.length k1, .slice a2 m.funcs.length k2, .slice a3 m.tables.length k3, .slice a4 m.mems.length k4, .slice a5 m.globals.length k5, .slice a6 m.exports.length k6, .slice a7 m.start.length k7, .slice a8 m.elems.length k8, .slice a9 m.datas.length k9]
/-- A section is no shorter than nothing, and no longer than it may be. -/
theorem sec_n {m : Md} (fit : Fit m) {i fi : Nat} (hfi : 17 + i = fi) {c : Sc} {r : List Sc} (hd : (scs m).drop i = c :: r) (s : WS) : s.n ≤ (c.f s).n ∧ (c.f s).n ≤ s.n + 1152921504606846986 := by
  have hc : (scs m)[i]? = some c := by
    have : ((scs m).drop i)[0]? = some c := by rw [hd]; rfl
    rwa [List.getElem?_drop] at this
  have key : ∀ {α : Type} {f : α → WS → WS} {k : α → Nat} (l : List α), (∀ x ∈ l, InR (f x) (k x)) → cs k l ≤ 1152921504606846976 → s.n ≤ (fo f l (put (uB l.length) s)).n ∧ (fo f l (put (uB l.length) s)).n ≤ s.n + 1152921504606846986 := fun {α f k} l h hl => by
    have h1 := fo_n l (put (uB l.length) s) h
    have h2 := uB_len (l.length : Int)
    rw [put_n] at h1
    omega
  match i with
  | 0 => cases hc; exact key m.types inTypes fit.types
  | 1 => cases hc; exact key m.imports inImports fit.imports
  | 2 => cases hc; exact key m.funcs inFuncs fit.funcs
  | 3 => cases hc; exact key m.tables inTables fit.tables
  | 4 => cases hc; exact key m.mems inMems fit.mems
  | 5 => cases hc; exact key m.globals (inGlobals fit.ng) fit.globals
  | 6 => cases hc; exact key m.exports inExports fit.exports
  | 7 =>
    cases hc
    have h1 := puts_n (m.start.map uB) s
    have h2 := tot_map uB 10 (fun x => uB_len x) m.start
    have h3 := fit.start
    show s.n ≤ (puts (m.start.map uB) s).n ∧ (puts (m.start.map uB) s).n ≤ _
    omega
  | 8 => cases hc; exact key m.elems (inElems fit.ne) fit.elems
  | 9 => cases hc; exact key m.funcs (inCodes fit.nf) fit.codes
  | 10 => cases hc; exact key m.datas (inDatas fit.nd) fit.datas
  | k + 11 => exact absurd hc (by simp [scs])
theorem WAt.new {N : Nat} (w : World) (mv : List Value) (hm : mv.length = 10) (hN : N ≤ w.heap.size) : WAt N w.heap.size (w.alloc (.cells (mv ++ [Value.slice none 0 0, Value.int .i64 0]).toArray 85)) mv (.slice none 0 0) ⟨[], 0⟩ :=
  ⟨hm, heap_alloc_new _ _, World.ownsRow_nil _ _ _ _, (fun e => by cases e), hN, by simp; omega, Int.le_refl _, by decide⟩
def encE (m : Md) : Int := if checkV m = 0 then (if (xMd m).length ≤ 262144 then 0 else 2) else checkV m
def encB (m : Md) : List UInt8 := if checkV m = 0 then (if (xMd m).length ≤ 262144 then xMd m else []) else []
theorem enc_bad {m : Md} (hc : checkV m = 0) (h : turns 0 (scs m) ⟨headB, 8⟩ = none) : encE m = 2 ∧ encB m = [] := by
  have hn : ¬ (xMd m).length ≤ 262144 := fun hl => by
    obtain ⟨n, hn⟩ := (encodes m).1 hl
    rw [h] at hn
    cases hn
  unfold encE encB
  rw [if_pos hc, if_neg hn, if_pos hc, if_neg hn]
  exact ⟨rfl, rfl⟩
theorem enc_good {m : Md} {s : WS} (hc : checkV m = 0) (h : turns 0 (scs m) ⟨headB, 8⟩ = some s) : encE m = 0 ∧ encB m = s.l := by
  have hn : (xMd m).length ≤ 262144 := by
    rcases Nat.lt_or_ge 262144 (xMd m).length with hl | hl
    · rw [(encodes m).2 hl] at h
      cases h
    · exact hl
  obtain ⟨n, e⟩ := (encodes m).1 hn
  rw [h] at e
  cases e
  unfold encE encB
  rw [if_pos hc, if_pos hn, if_pos hc, if_pos hn]
  exact ⟨rfl, rfl⟩
end Go.Proofs.YtkbfjkbokifgkaaDoor

namespace Go.Proofs.YtkbfjkbokifgkaaDoor
open Go.RowKit
set_option linter.unusedVariables false

/-- Constants that an int holds. -/
structure NOk (m : Md) : Prop where
  ng : ∀ t ∈ m.globals, nOk t.2.2.il
  ne : ∀ t ∈ m.elems, nOk t.1.il
  nd : ∀ t ∈ m.datas, nOk t.1.il
  nf : ∀ t ∈ m.funcs, nOk t.2.2
theorem cs_le {α : Type} (c : α → Nat) (K : Nat) : ∀ {l : List α}, (∀ x ∈ l, c x ≤ K) → cs c l ≤ K * l.length
  | [], _ => by simp [cs]
  | y :: l, h => by
    have e : cs c (y :: l) = c y + cs c l := by simp [cs]
    have h1 := h y (List.mem_cons_self ..)
    have h2 := cs_le c K (l := l) fun x hx => h x (List.mem_cons_of_mem _ hx)
    rw [e, List.length_cons, Nat.mul_add, Nat.mul_one]
    omega
theorem cs_60 {α : Type} (c : α → Nat) (K : Nat) {l : List α} (h : ∀ x ∈ l, c x ≤ K) (hl : l.length ≤ 4096) (hK : K ≤ 281474976710656) : cs c l ≤ 1152921504606846976 := by
  have h1 := cs_le c K h
  have h2 : K * l.length ≤ 281474976710656 * 4096 := Nat.mul_le_mul hK hl
  omega
/-- How many instructions a list has at most, if they were counted. -/
theorem cl_cnt : ∀ (l : Il) (left : Int), 0 ≤ left → lab l = true → 0 ≤ cnt l left → (cl l : Int) ≤ 41000 * (left - cnt l left)
  | .nil, left, _, _, _ => by simp [cl, cnt]
  | .cons op x y n ls body els rest, left, h, hl, hc => by
    unfold lab at hl
    simp only [Bool.and_eq_true, decide_eq_true_eq] at hl
    obtain ⟨l1, l2, l3, l4⟩ := hl
    unfold cnt at hc ⊢
    simp only at hc ⊢
    by_cases h0 : 0 ≤ left - 1
    · rw [if_pos h0] at hc ⊢
      have b1 := cnt_bd body (left - 1) h0
      have c1 := cl_cnt body (left - 1) h0 l2
      generalize cnt body (left - 1) = x1 at hc b1 c1 ⊢
      by_cases h1 : 0 ≤ x1
      · rw [if_pos h1] at hc ⊢
        have b2 := cnt_bd els x1 h1
        have c2 := cl_cnt els x1 h1 l3
        generalize cnt els x1 = x2 at hc b2 c2 ⊢
        by_cases h2 : x2 < 0
        · rw [if_pos h2] at hc
          omega
        · rw [if_neg h2] at hc ⊢
          have b3 := cnt_bd rest x2 (by omega)
          have c3 := cl_cnt rest x2 (by omega) l4 hc
          have c1' := c1 h1
          have c2' := c2 (by omega)
          unfold cl
          push_cast
          omega
      · rw [if_neg h1, if_pos (by omega)] at hc
        omega
    · simp only [if_neg h0] at hc
      rw [if_pos (by omega)] at hc
      omega
theorem cntF_all : ∀ (l : List (Int × List Int × Il)) (left : Int), 0 ≤ left → left ≤ 65536 → 0 ≤ cntF l left → (∀ t ∈ l, lab t.2.2 = true) → ∀ t ∈ l, cl t.2.2 ≤ 2687000000
  | [], _, _, _, _, _, t, ht => by cases ht
  | f :: r, left, h, h6, hc, hl, t, ht => by
    unfold cntF at hc
    split at hc
    · omega
    · rename_i hn
      have b := cnt_bd f.2.2 left h
      rcases List.mem_cons.1 ht with rfl | ht
      · have := cl_cnt t.2.2 left h (hl t (List.mem_cons_self ..)) (by omega)
        omega
      · exact cntF_all r _ (by omega) (by omega) hc (fun t ht => hl t (List.mem_cons_of_mem _ ht)) t ht
theorem len_zero_cl : ∀ {l : Il}, l.len = 0 → cl l = 0
  | .nil, _ => rfl
  | .cons .., h => by simp [Il.len] at h
theorem cl_beg {q : One} (h : beg1 q = true) : cl q.il = 40 := by
  obtain ⟨op, x, y, n, ls, body, els⟩ := q
  unfold beg1 at h
  simp only [Bool.and_eq_true, Bool.or_eq_true, beq_iff_eq] at h
  obtain ⟨hop, hf⟩ := h
  unfold One.il formB at hf
  simp only [Bool.and_eq_true] at hf
  have hf1 := hf.1
  have key : ls.length = 0 ∧ body.len = 0 ∧ els.len = 0 := by
    unfold form1 at hf1
    rcases hop with rfl | rfl | rfl
    · have hv : formV 65 = 9 := by decide
      rw [hv] at hf1
      simp at hf1
      exact ⟨by rw [hf1.2.2.2.1]; rfl, hf1.2.2.2.2.1, hf1.2.2.2.2.2⟩
    · have hv : formV 66 = 9 := by decide
      rw [hv] at hf1
      simp at hf1
      exact ⟨by rw [hf1.2.2.1]; rfl, hf1.2.2.2.1, hf1.2.2.2.2⟩
    · have hv : formV 35 = 6 := by decide
      rw [hv] at hf1
      simp at hf1
      exact ⟨by rw [hf1.2.2.2.1]; rfl, hf1.2.2.2.2.1, hf1.2.2.2.2.2⟩
  unfold One.il cl
  rw [key.1, len_zero_cl key.2.1, len_zero_cl key.2.2]
  rfl
theorem dataFit_all : ∀ (l : List (One × ByteArray)) (left : Int), dataFit l left = true → ∀ t ∈ l, (t.2.size : Int) ≤ left
  | [], _, _, t, ht => by cases ht
  | d :: r, left, h, t, ht => by
    unfold dataFit at h
    simp only [Bool.and_eq_true, decide_eq_true_eq] at h
    rcases List.mem_cons.1 ht with rfl | ht
    · exact h.1
    · have := dataFit_all r _ h.2 t ht
      omega
theorem fit_of {m : Md} (hn : NOk m) (hc : checkV m = 0) : Fit m := by
  unfold checkV at hc
  split at hc
  · cases hc
  rename_i hf
  split at hc
  · cases hc
  split at hc
  · cases hc
  rename_i hs
  have hf2 : fewB m = true := by simpa using hf
  have hs2 : shapedB m = true := by simpa using hs
  unfold fewB few0 few1 few2 few3 few4 few5 lens at hf2
  simp only [Bool.and_eq_true, decide_eq_true_eq, List.all_cons, List.all_nil, le4, List.all_eq_true] at hf2
  obtain ⟨⟨l0, l1, l2, l3, l4, l5, l6, l8, l9, _⟩, f0, f1, f2, f3, f4, f5⟩ := hf2
  unfold shapedB sh1 sh2 sh3 sh4 sh5 sh6 sh7 sh8 sh9 at hs2
  simp only [Bool.and_eq_true, List.all_eq_true] at hs2
  obtain ⟨s0, s1, s2, s3, s4, s5, s6, s7, s8, s9⟩ := hs2
  have hcode := cntF_all m.funcs 65536 (by decide) (by decide) (by omega) (fun t ht => by
    have := f5 t ht
    unfold funFew at this
    rw [Bool.and_eq_true] at this
    exact this.2)
  have hlo : ∀ t ∈ m.funcs, t.2.1.length ≤ 256 := fun t ht => by
    have := f5 t ht
    unfold funFew at this
    rw [Bool.and_eq_true, decide_eq_true_eq] at this
    omega
  refine ⟨?_, ?_, ?_, ?_, ?_, ?_, ?_, by omega, ?_, ?_, ?_, hn.ng, hn.ne, hn.nd, hn.nf, fun t ht => by have := hlo t ht; omega, by omega⟩
  · refine cs_60 cTypes 9000 (fun t ht => ?_) (by omega) (by decide)
    have := f1 t ht
    unfold typFew at this
    rw [Bool.and_eq_true, decide_eq_true_eq, decide_eq_true_eq] at this
    unfold cTypes
    omega
  · refine cs_60 cImports 200 (fun t ht => ?_) (by omega) (by decide)
    have := s1 t ht
    unfold impS nameB at this
    simp only [Bool.and_eq_true, decide_eq_true_eq] at this
    unfold cImports
    omega
  · exact cs_60 cFuncs 10 (fun t ht => Nat.le_refl _) (by omega) (by decide)
  · exact cs_60 cTables 22 (fun t ht => Nat.le_refl _) (by omega) (by decide)
  · exact cs_60 cMems 21 (fun t ht => Nat.le_refl _) (by omega) (by decide)
  · refine cs_60 cGlobals 43 (fun t ht => ?_) (by omega) (by decide)
    have := s4 t ht
    unfold gloS at this
    rw [Bool.and_eq_true] at this
    have := cl_beg this.2
    unfold cGlobals
    omega
  · refine cs_60 cExports 100 (fun t ht => ?_) (by omega) (by decide)
    have := s5 t ht
    unfold expS nameB at this
    simp only [Bool.and_eq_true, decide_eq_true_eq] at this
    unfold cExports
    omega
  · refine cs_60 cElems 50000 (fun t ht => ?_) (by omega) (by decide)
    have h1 := s7 t ht
    unfold elmS at h1
    rw [Bool.and_eq_true] at h1
    have h2 := cl_beg h1.1
    have h3 := f2 t ht
    unfold elmFew at h3
    rw [decide_eq_true_eq] at h3
    unfold cElems
    omega
  · refine cs_60 cCodes 281474976710656 (fun t ht => ?_) (by omega) (by decide)
    have h1 := hcode t ht
    have h2 := hlo t ht
    unfold cCodes cCode
    omega
  · refine cs_60 cDatas 300000 (fun t ht => ?_) (by omega) (by decide)
    have h1 := s8 t ht
    unfold datS at h1
    have h2 := cl_beg h1
    have h3 := dataFit_all m.datas 262144 f3 t ht
    unfold cDatas
    omega
end Go.Proofs.YtkbfjkbokifgkaaDoor

namespace Go.Proofs.YtkbfjkbokifgkaaDoor
open Go.RowKit
set_option linter.unusedVariables false
set_option linter.unusedSimpArgs false

theorem uB_lt {n : Int} (h0 : 0 ≤ n) (h : n < 128) : uB n = [UInt8.ofNat n.toNat] := by
  unfold uB
  have e : (n % 18446744073709551616).toNat = n.toNat := by
    congr 1
    omega
  rw [e, lebU_last (by omega)]
def mW : Md := ⟨[([], [])], [], [], [], [], [], [], [], [], []⟩
theorem mW_check : checkV mW = 0 := by rfl
theorem mW_bytes : xMd mW = [0, 97, 115, 109, 1, 0, 0, 0, 1, 4, 1, 96, 0, 0] := by
  have h0 : uB 0 = [0] := uB_lt (by decide) (by decide)
  have h1 : uB 1 = [1] := uB_lt (by decide) (by decide)
  have h4 : uB 4 = [4] := uB_lt (by decide) (by decide)
  have hs : xSec xTypes [([], [])] = [1, 96, 0, 0] := by
    have : xTypes ([], []) = [96, 0, 0] := by
      unfold xTypes bytsC
      simp only [List.length_nil, List.map_nil, List.flatten_cons, List.flatten_nil, List.append_nil]
      rw [show ((0 : Nat) : Int) = 0 from rfl, h0]
      rfl
    unfold xSec
    simp only [List.length_cons, List.length_nil, List.flatMap_cons, List.flatMap_nil, List.append_nil, this]
    rw [show (((0 + 1 : Nat)) : Int) = 1 from rfl, h1]
    rfl
  unfold xMd scs
  simp only [xScs, mW, List.length_cons, List.length_nil, hs, xLg]
  rw [show ((0 + 1 + 1 + 1 + 1 : Nat) : Int) = 4 from rfl, h4]
  rfl
theorem mW_enc : encE mW = 0 ∧ encB mW = [0, 97, 115, 109, 1, 0, 0, 0, 1, 4, 1, 96, 0, 0] := by
  unfold encE encB
  rw [mW_check, mW_bytes]
  decide
theorem mW_nok : NOk mW := ⟨fun t h => (by cases h), fun t h => (by cases h), fun t h => (by cases h), fun t h => (by cases h)⟩
end Go.Proofs.YtkbfjkbokifgkaaDoor

namespace Go.Proofs.YtkbfjkbokifgkaaDoor
open Go.RowKit
set_option linter.unusedVariables false
set_option linter.unusedSimpArgs false

def zl (k : Nat) : List UInt8 := List.replicate k 0
def oneL : One := ⟨65, 0, 0, 0, [], .nil, .nil⟩
def mL (k : Nat) : Md := ⟨[], [], [], [], [(1, 0, false)], [], [], [], [], [(oneL, mks (zl k))]⟩
theorem zl_size (k : Nat) : (mks (zl k)).size = k := by rw [mks_size]; simp [zl]
theorem mL_check (k : Nat) : checkV (mL k) = if k ≤ 262144 then 0 else 3 := by
  have hf : fewB (mL k) = decide (k ≤ 262144) := by
    have hd : dataFit [(oneL, mks (zl k))] 262144 = decide (k ≤ 262144) := by
      unfold dataFit dataFit
      simp only [zl_size, Bool.and_true]
      congr 1
      apply propext
      constructor <;> intro h <;> omega
    have : fewB (mL k) = ((lens (mL 0)).all le4 && (decide (((mL 0).start.length : Int) ≤ 1) && ((mL 0).types.all typFew && ((mL 0).elems.all elmFew && (dataFit [(oneL, mks (zl k))] 262144 && few4 (mL 0)))))) := rfl
    rw [this, hd]
    have h1 : (lens (mL 0)).all le4 = true := by decide
    have h2 : few4 (mL 0) = true := by decide
    rw [h1, h2]
    simp [mL]
  have hs : shapedB (mL k) = true := (show shapedB (mL k) = shapedB (mL 0) from rfl).trans (by kernel_rfl)
  have hl : flatM (mL k) = true := rfl
  unfold checkV
  rw [hf, hs, hl]
  by_cases h : k ≤ 262144
  · rw [decide_eq_true h, if_pos h]
    rfl
  · rw [decide_eq_false h, if_neg h]
    rfl
theorem mL_len (k : Nat) : k < (xMd (mL k)).length ∧ (xMd (mL k)).length ≤ k + 39 := by
  have h1 : uB 1 = [1] := uB_lt (by decide) (by decide)
  have h3 : uB 3 = [3] := uB_lt (by decide) (by decide)
  have hz : lebS 0 = [0] := lebS_last (by decide)
  have hx : (xl oneL.il).length = 2 := by
    have hv : formV 65 = 9 := by decide
    show (([b1 65] ++ xTail (formV 65) 65 0 0 0 [] 0 [] []) ++ []).length = 2
    rw [hv]
    show (([b1 65] ++ lebS 0) ++ []).length = 2
    rw [hz]
    rfl
  have hm : xLg (xSec xLim [((1 : Int), (0 : Int), false)]) = [3, 1, 0, 1] := by
    have : xSec xLim [((1 : Int), (0 : Int), false)] = [1, 0, 1] := by
      show uB ((1 : Nat) : Int) ++ (([b1 0] ++ uB 1) ++ []) = _
      rw [show ((1 : Nat) : Int) = 1 from rfl, h1]
      rfl
    unfold xLg
    rw [this]
    show uB ((3 : Nat) : Int) ++ _ = _
    rw [show ((3 : Nat) : Int) = 3 from rfl, h3]
    rfl
  have hd : (xSec xDatas [(oneL, mks (zl k))]).length = 5 + (uB (k : Int)).length + k := by
    show (uB ((1 : Nat) : Int) ++ ((([b1 0] ++ (xl oneL.il ++ [b1 11])) ++ (uB ((strl (mks (zl k))).length : Int) ++ strl (mks (zl k)))) ++ [])).length = _
    rw [show ((1 : Nat) : Int) = 1 from rfl, h1, strl_mks]
    have hzl : (zl k).length = k := by simp [zl]
    simp only [List.length_append, List.length_cons, List.length_nil, hx, hzl]
    omega
  have hk := uB_len (k : Int)
  have hk2 := uB_len ((xSec xDatas [(oneL, mks (zl k))]).length : Int)
  have he : xMd (mL k) = headB ++ ((b1 5 :: xLg (xSec xLim [((1 : Int), (0 : Int), false)])) ++ ((b1 11 :: xLg (xSec xDatas [(oneL, mks (zl k))])) ++ [])) := rfl
  rw [he, hm]
  unfold xLg
  simp only [List.length_append, List.length_cons, List.length_nil, hd, headB] at hk2 ⊢
  omega
theorem mL_nok (k : Nat) : NOk (mL k) := by
  refine ⟨fun t h => (by cases h), fun t h => (by cases h), fun t h => ?_, fun t h => (by cases h)⟩
  simp only [mL, List.mem_cons, List.not_mem_nil, or_false] at h
  subst h
  exact ⟨⟨by show (-9223372036854775808 : Int) ≤ 0; decide, by show (0 : Int) ≤ 9223372036854775807; decide⟩, trivial, trivial, trivial⟩
theorem mL_many {k : Nat} (h : 262144 < k) : encE (mL k) = 3 := by
  unfold encE
  have := mL_check k
  rw [if_neg (by omega)] at this
  rw [this, if_neg (by decide)]
theorem mL_good {k : Nat} (h : k < 262044) : encE (mL k) = 0 ∧ k < (encB (mL k)).length ∧ (encB (mL k)).length ≤ k + 39 := by
  have hc := mL_check k
  rw [if_pos (by omega)] at hc
  have hl := mL_len k
  unfold encE encB
  rw [hc, if_pos rfl, if_pos (by omega), if_pos rfl, if_pos (by omega)]
  exact ⟨rfl, hl⟩
end Go.Proofs.YtkbfjkbokifgkaaDoor

namespace Go.Proofs.YtkbfjkbokifgkaaDoor
open Go.RowKit
set_option linter.unusedVariables false

/-- A module of one function. -/
def mB (l : Il) : Md := ⟨[], [], [(0, [], l)], [], [], [], [], [], [], []⟩
def bE (l : Il) : Int := if checkV (mB l) = 0 then (if (xEx l).length ≤ 262144 then 0 else 2) else checkV (mB l)
def bB (l : Il) : List UInt8 := if checkV (mB l) = 0 then (if (xEx l).length ≤ 262144 then xEx l else []) else []
theorem body_fit {l : Il} (ok : nOk l) (hc : checkV (mB l) = 0) : cl l ≤ 1152921504606846976 := by
  have hf := fit_of (m := mB l) ⟨fun t h => (by cases h), fun t h => (by cases h), fun t h => (by cases h), fun t h => by
    obtain rfl := List.mem_singleton.1 h
    exact ok⟩ hc
  have h1 := hf.codes
  have h2 : cCodes ((0, [], l) : Int × List Int × Il) ≤ cs cCodes (mB l).funcs := by simp [cs, mB]
  have h3 : cl l ≤ cCodes ((0, [], l) : Int × List Int × Il) := by
    unfold cCodes cCode
    simp only
    omega
  omega
theorem body_bad {l : Il} (hc : checkV (mB l) = 0) (hl : 262144 < (xEx l).length) : bE l = 2 ∧ bB l = [] := by
  unfold bE bB
  rw [if_pos hc, if_neg (by omega), if_pos hc, if_neg (by omega)]
  exact ⟨rfl, rfl⟩
theorem body_ok {l : Il} (hc : checkV (mB l) = 0) (hl : (xEx l).length ≤ 262144) : bE l = 0 ∧ bB l = xEx l := by
  unfold bE bB
  rw [if_pos hc, if_pos hl, if_pos hc, if_pos hl]
  exact ⟨rfl, rfl⟩
theorem body_full {l : Il} {s : WS} (hs : s = wEx l ⟨[], 0⟩) (hc : checkV (mB l) = 0) (hf : 1048576 < s.n) : bE l = 2 ∧ bB l = [] := by
  refine body_bad hc ?_
  have h := (eWr.ex (Nat.le_refl 1) l ⟨[], 0⟩).2.2
  rw [← hs] at h
  simp only [Nat.one_mul] at h
  omega
theorem body_long {l : Il} {s : WS} (hs : s = wEx l ⟨[], 0⟩) (hc : checkV (mB l) = 0) (hf : ¬ 1048576 < s.n) (hl : 262144 < s.l.length) : bE l = 2 ∧ bB l = [] := by
  refine body_bad hc ?_
  have h := (eWr.ex (Nat.le_refl 1) l ⟨[], 0⟩).2.1
  rw [← hs] at h
  have e := (h (by omega)).1
  rw [List.nil_append] at e
  rw [← e]
  exact hl
theorem body_good {l : Il} {s : WS} (hs : s = wEx l ⟨[], 0⟩) (hc : checkV (mB l) = 0) (hf : ¬ 1048576 < s.n) (hl : ¬ 262144 < s.l.length) : bE l = 0 ∧ bB l = s.l := by
  have h := (eWr.ex (Nat.le_refl 1) l ⟨[], 0⟩).2.1
  rw [← hs] at h
  have e := (h (by omega)).1
  rw [List.nil_append] at e
  rw [e]
  exact body_ok hc (by rw [← e]; omega)
theorem body_not {l : Il} {c : Int} (hc : checkV (mB l) = c) (h : ¬ c = 0) : bE l = c ∧ bB l = [] := by
  unfold bE bB
  rw [hc, if_neg h, if_neg h]
  exact ⟨rfl, rfl⟩
end Go.Proofs.YtkbfjkbokifgkaaDoor

namespace Go.Proofs.YtkbfjkbokifgkaaDoor
open Go.RowKit
set_option linter.unusedVariables false
set_option linter.unusedSimpArgs false

theorem mB_at (l : Il) (ao : Option Addr) (c : Nat) (w : World) (hl : l.len ≤ 9223372036854775807) (hi : IlIn w ao 0 l) :
    MdAt (w.alloc (.cells #[.int .i64 0, .slice none 0 0, .slice ao l.len c] 48)) (mB l) none 0 none 0 (some ⟨w.heap.size, 0, none⟩) 1 none 0 none 0 none 0 none 0 none 0 none 0 none 0 := by
  have hb : Below w.heap.size w (w.alloc (.cells #[.int .i64 0, .slice none 0 0, .slice ao l.len c] 48)) := (Below.refl _ _).alloc (Nat.le_refl _) _
  have hx := box_new w #[.int .i64 0, .slice none 0 0, .slice ao l.len c] 48
  refine ⟨⟨Nat.zero_le _, .inl rfl⟩, ⟨Nat.zero_le _, .inl rfl⟩, ⟨by show 1 ≤ 9223372036854775807; decide, .inr ⟨w.heap.size, 0, rfl, fun i x h => ?_⟩⟩, ⟨Nat.zero_le _, .inl rfl⟩, ⟨Nat.zero_le _, .inl rfl⟩, ⟨Nat.zero_le _, .inl rfl⟩, ⟨Nat.zero_le _, .inl rfl⟩, ⟨Nat.zero_le _, .inl rfl⟩, ⟨Nat.zero_le _, .inl rfl⟩, ⟨Nat.zero_le _, .inl rfl⟩⟩
  have hi0 : i = 0 := by
    have := (List.getElem?_eq_some_iff.1 h).1
    simpa [mB] using this
  subst hi0
  cases h
  exact ⟨hx 0 _ rfl, ⟨none, 0, hx 1 _ rfl, Nat.zero_le _, .inl rfl⟩, ⟨ao, c, hx 2 _ rfl, hl, hi.below hb⟩⟩
set_option maxRecDepth 100000 in
set_option maxHeartbeats 4000000 in
theorem body_any (l : Il) (ao : Option Addr) (c : Nat) (w : World) (hl : l.len ≤ 9223372036854775807) (hi : IlIn w ao 0 l) (ok : nOk l) (hT : TabU w) :
    Calls Tryd.prog 14 #[.slice ao l.len c] w fun e w' => e = .returned (.tuple #[.string (mks (bB l)), .int .i64 (bE l)]) ∧ Below w.heap.size w w' := by
  obtain ⟨wA, hwA⟩ : ∃ wA, wA = w.alloc (.cells #[.int .i64 0, .slice none 0 0, .slice ao l.len c] 48) := ⟨_, rfl⟩
  have hbel : Below w.heap.size w wA := by rw [hwA]; exact (Below.refl _ _).alloc (Nat.le_refl _) _
  have hM := mB_at l ao c w hl hi
  rw [← hwA] at hM
  replace hM := Lib.hid hM
  have HU := Lib.hid (hT.below hbel)
  replace hbel := Lib.hid hbel
  replace hi := Lib.hid hi
  replace ok := Lib.hid ok
  clear hT
  go_enter Tryd.func14, Tryd.ntmps14
  go_wp2_with fail
  rw [← hwA]
  clear hwA
  refine (check_any (mB l) _ _ _ _ _ _ _ _ _ _ _ _ _ _ _ _ _ _ _ _ wA hM.out HU.out).mono ?_
  rintro e w2 ⟨rfl, hb2⟩
  have hB2 := Lib.hid (hbel.out.trans (hb2.mono hbel.out.size))
  clear hb2
  obtain ⟨cv, hcv⟩ : ∃ cv, checkV (mB l) = cv := ⟨_, rfl⟩
  rw [hcv]
  by_cases hc0 : cv = 0
  · subst hc0
    have hfit := body_fit ok.out hcv
    replace hcv := Lib.hid hcv
    obtain ⟨p, hp⟩ : ∃ p, w2.heap.size = p := ⟨_, rfl⟩
    obtain ⟨wP, hwP⟩ : ∃ wP, wP = w2.alloc (.cells #[.slice none 0 0, .slice none 0 0, .slice none 0 0, .slice none 0 0, .slice none 0 0, .slice none 0 0, .slice none 0 0, .slice none 0 0, .slice none 0 0, .slice none 0 0, .slice none 0 0, .int .i64 0] 85) := ⟨_, rfl⟩
    have hW0 : WAt w.heap.size p wP [.slice none 0 0, .slice none 0 0, .slice none 0 0, .slice none 0 0, .slice none 0 0, .slice none 0 0, .slice none 0 0, .slice none 0 0, .slice none 0 0, .slice none 0 0] (.slice none 0 0) ⟨[], 0⟩ := by rw [hwP, ← hp]; exact WAt.new w2 [.slice none 0 0, .slice none 0 0, .slice none 0 0, .slice none 0 0, .slice none 0 0, .slice none 0 0, .slice none 0 0, .slice none 0 0, .slice none 0 0, .slice none 0 0] rfl hB2.out.size
    have hBP : Below w.heap.size w wP := by rw [hwP]; exact hB2.out.alloc hB2.out.size _
    have hV := Lib.hid (Vw.old hW0 hBP)
    replace hW0 := Lib.hid hW0
    replace hBP := Lib.hid hBP
    go_wp2_with fail
    rw [← hwP]
    clear hwP hp
    refine (eexpr_any l w _ p wP _ _ ⟨[], 0⟩ ao c hW0.out hV.out hl hi.out ok.out (by simp only; omega)).mono ?_
    rintro e w3 ⟨rfl, v3, h3, t3⟩
    obtain ⟨S, hS⟩ : ∃ S, wEx l ⟨[], 0⟩ = S := ⟨_, rfl⟩
    have h3' : WAt w.heap.size p w3 [.slice none 0 0, .slice none 0 0, .slice none 0 0, .slice none 0 0, .slice none 0 0, .slice none 0 0, .slice none 0 0, .slice none 0 0, .slice none 0 0, .slice none 0 0] v3 S := by rw [← hS]; exact h3
    have hB3 := Lib.hid (hBP.out.trans (t3.below hW0.out.hN (fun g e => by cases e) hBP.out.size))
    replace hS := Lib.hid hS.symm
    clear h3 t3
    obtain ⟨a3, c3, hv3⟩ := own_slice h3'.own
    subst hv3
    have x10 := h3'.c10
    have hcap := h3'.cap
    have hcv2 := conv_own h3'.own
    replace h3 := Lib.hid h3'
    clear h3'
    go_wp2_with fail
    refine (full_any h3.out).mono ?_
    rintro e wz ⟨rfl, rfl⟩
    by_cases hf : 1048576 < S.n
    · have hr := Lib.hid (body_full hS.out hcv.out hf)
      have hd : decide (1048576 < S.n) = true := decide_eq_true hf
      rw [hd]
      go_wp2
      go_ret2
      exact ⟨by rw [hr.out.1, hr.out.2]; rfl, hB3.out⟩
    · have hd : decide (1048576 < S.n) = false := decide_eq_false hf
      rw [hd]
      by_cases hlong : 262144 < S.l.length
      · have hr := Lib.hid (body_long hS.out hcv.out hf hlong)
        go_wp2
        go_ret2
        exact ⟨by rw [hr.out.1, hr.out.2]; rfl, hB3.out⟩
      · have hr := Lib.hid (body_good hS.out hcv.out hf hlong)
        go_wp2
        go_ret2
        exact ⟨by rw [hr.out.1, hr.out.2]; rfl, hB3.out⟩
  · have hr := Lib.hid (body_not hcv hc0)
    replace hcv := Lib.hid hcv
    have hne : (cv == 0) = false := by simp [hc0]
    go_wp2
    go_ret2
    exact ⟨by rw [hr.out.1, hr.out.2]; rfl, hB2.out⟩
end Go.Proofs.YtkbfjkbokifgkaaDoor
