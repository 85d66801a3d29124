/- Numbers in groups of seven bits. -/
import Derived.Test.YtanpjbbhhofkfaaDoorGa
import Derived.Laws.BytesArg
namespace Go.Proofs.YtanpjbbhhofkfaaDoor
open Go.RowKit
set_option linter.unusedVariables false

def lebU (n : Nat) : List UInt8 := if h : n < 128 then [UInt8.ofNat n] else UInt8.ofNat (n % 128 + 128) :: lebU (n / 128)
termination_by n
decreasing_by omega
theorem lebU_last {n : Nat} (h : n < 128) : lebU n = [UInt8.ofNat n] := by
  rw [lebU, dif_pos h]
theorem lebU_more {n : Nat} (h : ¬ n < 128) : lebU n = UInt8.ofNat (n % 128 + 128) :: lebU (n / 128) := by
  rw [lebU, dif_neg h]
theorem lebU_len : ∀ (k n : Nat), n < 128 ^ (k + 1) → (lebU n).length ≤ k + 1
  | 0, n, h => by
    rw [lebU_last (by simpa using h)]
    simp
  | k + 1, n, h => by
    by_cases hn : n < 128
    · rw [lebU_last hn]
      simp
    · rw [lebU_more hn, List.length_cons]
      have := lebU_len k (n / 128) (by
        rw [Nat.div_lt_iff_lt_mul (by omega)]
        rw [Nat.pow_succ] at h
        exact h)
      omega
theorem lebU_ten {n : Nat} (h : n < 18446744073709551616) : (lebU n).length ≤ 10 := lebU_len 9 n (by
  have : (128 : Nat) ^ 10 = 1180591620717411303424 := by decide
  omega)
def lebS (n : Int) : List UInt8 := if h : -64 ≤ n ∧ n ≤ 63 then [UInt8.ofNat (n % 128).toNat] else UInt8.ofNat ((n % 128).toNat + 128) :: lebS (n / 128)
termination_by n.natAbs
decreasing_by omega
theorem lebS_last {n : Int} (h : -64 ≤ n ∧ n ≤ 63) : lebS n = [UInt8.ofNat (n % 128).toNat] := by
  rw [lebS, dif_pos h]
theorem lebS_more {n : Int} (h : ¬ (-64 ≤ n ∧ n ≤ 63)) : lebS n = UInt8.ofNat ((n % 128).toNat + 128) :: lebS (n / 128) := by
  rw [lebS, dif_neg h]
theorem lebS_len : ∀ (k : Nat) (n b : Int), b = 64 * 128 ^ k → -b ≤ n → n < b → (lebS n).length ≤ k + 1
  | 0, n, b, hb, h1, h2 => by
    rw [lebS_last (by simp at hb; omega)]
    simp
  | k + 1, n, b, hb, h1, h2 => by
    by_cases hn : -64 ≤ n ∧ n ≤ 63
    · rw [lebS_last hn]
      simp
    · rw [lebS_more hn, List.length_cons]
      have e : b = 64 * 128 ^ k * 128 := by rw [hb, Int.pow_succ, Int.mul_assoc]
      obtain ⟨c, hc⟩ : ∃ c : Int, c = 64 * 128 ^ k := ⟨_, rfl⟩
      rw [← hc] at e
      have := lebS_len k (n / 128) c hc (by omega) (by omega)
      omega
theorem lebS_ten {n : Int} (h1 : -9223372036854775808 ≤ n) (h2 : n ≤ 9223372036854775807) : (lebS n).length ≤ 10 := lebS_len 9 n _ rfl (by
  have : (64 * 128 ^ 9 : Int) = 590295810358705651712 := by decide
  omega) (by
  have : (64 * 128 ^ 9 : Int) = 590295810358705651712 := by decide
  omega)
theorem or_128 (m : Nat) : bits BinOp.or .u8 ((m : Int) % 256) 128 = ((UInt8.ofNat (m % 128 + 128)).toNat : Int) := by
  have h : ∀ r : Fin 256, bits BinOp.or .u8 ((r.val : Nat) : Int) 128 = ((r.val % 128 + 128 : Nat) : Int) := by decide +kernel
  have := h ⟨m % 256, by omega⟩
  simp only at this
  have e : ((m % 256 : Nat) : Int) = (m : Int) % 256 := by omega
  rw [e] at this
  rw [this]
  have e2 : m % 256 % 128 = m % 128 := by omega
  rw [e2, UInt8.toNat_ofNat']
  congr 1
  omega
theorem or_128i (m : Int) : bits BinOp.or .u8 (m % 256) 128 = ((UInt8.ofNat ((m % 128).toNat + 128)).toNat : Int) := by
  have := or_128 (m % 256).toNat
  have e : (((m % 256).toNat : Int) % 256) = m % 256 := by omega
  rw [e] at this
  rw [this]
  congr 4
  omega
theorem and_127i (m : Int) : bits BinOp.and .u8 (m % 256) 127 = ((UInt8.ofNat (m % 128).toNat).toNat : Int) := by
  have h : ∀ r : Fin 256, bits BinOp.and .u8 ((r.val : Nat) : Int) 127 = ((r.val % 128 : Nat) : Int) := by decide +kernel
  have := h ⟨(m % 256).toNat, by omega⟩
  simp only at this
  have e : (((m % 256).toNat : Nat) : Int) = m % 256 := by omega
  rw [e] at this
  rw [this, UInt8.toNat_ofNat']
  congr 1
  omega
theorem u8_small {m : Nat} (h : m < 256) : (m : Int) = ((UInt8.ofNat m).toNat : Int) := by
  rw [UInt8.toNat_ofNat']
  congr 1
  omega
/-- A row of bytes as a string. -/
theorem conv_own {w : World} {base : Nat} {v : Value} {n : Nat} {l : List UInt8} (h : w.ownsRow base 5 1 v n (cb l)) : (convert 62 9 v).run Tryd.prog w = .ok (.string (mks l)) w := by
  have hn : l.length = n := by simpa [cb] using h.1
  rcases h.2 with ⟨rfl, h0⟩ | ⟨g, cap, cur, rfl, _⟩
  · have : l = [] := List.eq_nil_of_length_eq_zero (by omega)
    subst this
    exact run_convert_bytes_nil w 62 5 Tryd.underlying62 Tryd.underlying5 0 0 9 Tryd.underlying9
  · subst hn
    exact run_convert_bytes_back w 62 9 5 ⟨g, 0, none⟩ cap l Tryd.underlying62 Tryd.underlying5 Tryd.underlying9 (fun j hj => by
      have := h.cells (g := g) rfl j (.int .u8 (l[j].toNat : Int)) (by simp [cb, hj])
      exact this)

set_option maxRecDepth 100000 in
set_option maxHeartbeats 1000000 in
theorem putU_any (n : Nat) (hn : n < 18446744073709551616) (w : World) :
    Calls Tryd.prog 70 #[.int .u64 n] w fun e w' => e = .returned (.string (mks (lebU n))) ∧ Below w.heap.size w w' := by
  obtain ⟨L, hL⟩ : ∃ L, L = lebU n := ⟨_, rfl⟩
  have hten : L.length ≤ 10 := by rw [hL]; exact lebU_ten hn
  obtain ⟨i5, hi5, hz5, hs5, hby5⟩ := info5_parts
  rw [← hL]
  replace hL := Lib.hid hL
  go_enter Tryd.func70, Tryd.ntmps70
  go_wp2_with fail
  go_loopw [0, 3] (fun v0 v3 wr => ∃ (m : Nat) (l : List UInt8) (a : Option Addr) (c : Nat), v0 = .int .u64 m ∧ v3 = .slice a l.length c ∧ m < 18446744073709551616 ∧ Hid (wr.ownsRow w.heap.size 5 1 (.slice a l.length c) l.length (cb l)) ∧ Hid (L = l ++ lebU m) ∧ Hid (Below w.heap.size w wr)) (fun v0 _ _ => (intOf v0).toNat)
  case atStart => exact ⟨n, [], none, 0, rfl, rfl, hn, Lib.hid (World.ownsRow_nil _ _ _ _), Lib.hid hL.out, Lib.hid (Below.refl _ _)⟩
  case round =>
    obtain ⟨m, l, a, c, rfl, rfl, hm, hown, hc, hb⟩ := hrel
    have hll : l.length ≤ 10 := by have := congrArg List.length hc.out; rw [List.length_append] at this; omega
    by_cases hlt : m < 128
    · go_wp2_with (first | (
        at_builtin
        refine wpList_append_lies _ rfl _ _ _ rfl w.heap.size 5 i5 _ 1 1 Tryd.underlying62 hi5 hz5 hs5 hby5 rfl (by omega) (.slice a l.length c) l.length (cb l) (by rfl) (hown.out.alloc _)
          ⟨wr.heap.size, 0, none⟩ 1 1 [.int .u8 (m : Int)] (by rfl) (by rfl) (World.news_of_block (cs := #[.int .u8 (m : Int)]) (t := 5) (fr := (0, 0)) (heap_alloc_new _ _)) (by intro u hu; simp only [List.mem_cons, List.mem_nil_iff, or_false] at hu; subst hu; rfl)
          (by omega) (by unfold maxLen; omega) (by omega) (by have := hb.out.size; simp; omega) (wr.heap.size + 1) (by simp) ?_
        intro g cap w1 hown1 hgrow hat hlt1
        rw [u8_small (show m < 256 by omega)] at hown1
        have hown2 : w1.ownsRow w.heap.size 5 1 (.slice (some ⟨g, 0, none⟩) (l.length + 1) cap) (l.length + 1) (cb (l ++ [UInt8.ofNat m])) := by rw [cb_append]; exact hown1
        have hbel := Lib.hid (((hb.out.alloc hb.out.size (.cells #[.int .u8 (m : Int)] 5)).grown hgrow (by have := hb.out.size; simp; omega) (fun k hk => (hown.out.lt k hk).1)))
        have hcv := conv_own hown2))
      go_ret
      refine ⟨?_, hbel.out⟩
      rw [hc.out, lebU_last hlt]
      rfl
    · go_wp2_with (first | (
        at_builtin
        refine wpList_append_lies _ rfl _ _ _ rfl w.heap.size 5 i5 _ 1 1 Tryd.underlying62 hi5 hz5 hs5 hby5 rfl (by omega) (.slice a l.length c) l.length (cb l) (by rfl) (hown.out.alloc _)
          ⟨wr.heap.size, 0, none⟩ 1 1 [.int .u8 (bits BinOp.or .u8 ((m : Int) % 256) 128)] (by rfl) (by rfl) (World.news_of_block (cs := #[.int .u8 (bits BinOp.or .u8 ((m : Int) % 256) 128)]) (t := 5) (fr := (0, 0)) (heap_alloc_new _ _)) (by intro u hu; simp only [List.mem_cons, List.mem_nil_iff, or_false] at hu; subst hu; rfl)
          (by omega) (by unfold maxLen; omega) (by omega) (by have := hb.out.size; simp; omega) (wr.heap.size + 1) (by simp) ?_
        intro g cap w1 hown1 hgrow hat hlt1
        rw [or_128 m] at hown1
        have hown2 : w1.ownsRow w.heap.size 5 1 (.slice (some ⟨g, 0, none⟩) (l.length + 1) cap) (l.length + 1) (cb (l ++ [UInt8.ofNat (m % 128 + 128)])) := by rw [cb_append]; exact hown1
        have hbel := Lib.hid (((hb.out.alloc hb.out.size (.cells #[.int .u8 (bits BinOp.or .u8 ((m : Int) % 256) 128)] 5)).grown hgrow (by have := hb.out.size; simp; omega) (fun k hk => (hown.out.lt k hk).1)))
        replace hown2 := Lib.hid hown2
        clear hown1))
      exact ⟨⟨m / 128, l ++ [UInt8.ofNat (m % 128 + 128)], some ⟨g, 0, none⟩, cap, by simp, by simp, by omega, Lib.hid (by simpa using hown2.out), Lib.hid (by rw [hc.out, lebU_more hlt]; simp), hbel⟩, by simp [intOf]; omega⟩
set_option maxRecDepth 100000 in
set_option maxHeartbeats 1000000 in
theorem rputU_any (n : Nat) (hn : n < 18446744073709551616) (w : World) :
    Calls Tryd.prog 97 #[.int .u64 n] w fun e w' => e = .returned (.string (mks (lebU n))) ∧ Below w.heap.size w w' := by
  obtain ⟨L, hL⟩ : ∃ L, L = lebU n := ⟨_, rfl⟩
  have hten : L.length ≤ 10 := by rw [hL]; exact lebU_ten hn
  obtain ⟨i5, hi5, hz5, hs5, hby5⟩ := info5_parts
  rw [← hL]
  replace hL := Lib.hid hL
  go_enter Tryd.func97, Tryd.ntmps97
  go_wp2_with fail
  go_loopw [0, 3] (fun v0 v3 wr => ∃ (m : Nat) (l : List UInt8) (a : Option Addr) (c : Nat), v0 = .int .u64 m ∧ v3 = .slice a l.length c ∧ m < 18446744073709551616 ∧ Hid (wr.ownsRow w.heap.size 5 1 (.slice a l.length c) l.length (cb l)) ∧ Hid (L = l ++ lebU m) ∧ Hid (Below w.heap.size w wr)) (fun v0 _ _ => (intOf v0).toNat)
  case atStart => exact ⟨n, [], none, 0, rfl, rfl, hn, Lib.hid (World.ownsRow_nil _ _ _ _), Lib.hid hL.out, Lib.hid (Below.refl _ _)⟩
  case round =>
    obtain ⟨m, l, a, c, rfl, rfl, hm, hown, hc, hb⟩ := hrel
    have hll : l.length ≤ 10 := by have := congrArg List.length hc.out; rw [List.length_append] at this; omega
    by_cases hlt : m < 128
    · go_wp2_with (first | (
        at_builtin
        refine wpList_append_lies _ rfl _ _ _ rfl w.heap.size 5 i5 _ 1 1 Tryd.underlying62 hi5 hz5 hs5 hby5 rfl (by omega) (.slice a l.length c) l.length (cb l) (by rfl) (hown.out.alloc _)
          ⟨wr.heap.size, 0, none⟩ 1 1 [.int .u8 (m : Int)] (by rfl) (by rfl) (World.news_of_block (cs := #[.int .u8 (m : Int)]) (t := 5) (fr := (0, 0)) (heap_alloc_new _ _)) (by intro u hu; simp only [List.mem_cons, List.mem_nil_iff, or_false] at hu; subst hu; rfl)
          (by omega) (by unfold maxLen; omega) (by omega) (by have := hb.out.size; simp; omega) (wr.heap.size + 1) (by simp) ?_
        intro g cap w1 hown1 hgrow hat hlt1
        rw [u8_small (show m < 256 by omega)] at hown1
        have hown2 : w1.ownsRow w.heap.size 5 1 (.slice (some ⟨g, 0, none⟩) (l.length + 1) cap) (l.length + 1) (cb (l ++ [UInt8.ofNat m])) := by rw [cb_append]; exact hown1
        have hbel := Lib.hid (((hb.out.alloc hb.out.size (.cells #[.int .u8 (m : Int)] 5)).grown hgrow (by have := hb.out.size; simp; omega) (fun k hk => (hown.out.lt k hk).1)))
        have hcv := conv_own hown2))
      go_ret
      refine ⟨?_, hbel.out⟩
      rw [hc.out, lebU_last hlt]
      rfl
    · go_wp2_with (first | (
        at_builtin
        refine wpList_append_lies _ rfl _ _ _ rfl w.heap.size 5 i5 _ 1 1 Tryd.underlying62 hi5 hz5 hs5 hby5 rfl (by omega) (.slice a l.length c) l.length (cb l) (by rfl) (hown.out.alloc _)
          ⟨wr.heap.size, 0, none⟩ 1 1 [.int .u8 (bits BinOp.or .u8 ((m : Int) % 256) 128)] (by rfl) (by rfl) (World.news_of_block (cs := #[.int .u8 (bits BinOp.or .u8 ((m : Int) % 256) 128)]) (t := 5) (fr := (0, 0)) (heap_alloc_new _ _)) (by intro u hu; simp only [List.mem_cons, List.mem_nil_iff, or_false] at hu; subst hu; rfl)
          (by omega) (by unfold maxLen; omega) (by omega) (by have := hb.out.size; simp; omega) (wr.heap.size + 1) (by simp) ?_
        intro g cap w1 hown1 hgrow hat hlt1
        rw [or_128 m] at hown1
        have hown2 : w1.ownsRow w.heap.size 5 1 (.slice (some ⟨g, 0, none⟩) (l.length + 1) cap) (l.length + 1) (cb (l ++ [UInt8.ofNat (m % 128 + 128)])) := by rw [cb_append]; exact hown1
        have hbel := Lib.hid (((hb.out.alloc hb.out.size (.cells #[.int .u8 (bits BinOp.or .u8 ((m : Int) % 256) 128)] 5)).grown hgrow (by have := hb.out.size; simp; omega) (fun k hk => (hown.out.lt k hk).1)))
        replace hown2 := Lib.hid hown2
        clear hown1))
      exact ⟨⟨m / 128, l ++ [UInt8.ofNat (m % 128 + 128)], some ⟨g, 0, none⟩, cap, by simp, by simp, by omega, Lib.hid (by simpa using hown2.out), Lib.hid (by rw [hc.out, lebU_more hlt]; simp), hbel⟩, by simp [intOf]; omega⟩
set_option maxRecDepth 100000 in
set_option maxHeartbeats 2000000 in
theorem putS_any (n : Int) (h1 : -9223372036854775808 ≤ n) (h2 : n ≤ 9223372036854775807) (w : World) :
    Calls Tryd.prog 87 #[.int .i64 n] w fun e w' => e = .returned (.string (mks (lebS n))) ∧ Below w.heap.size w w' := by
  obtain ⟨L, hL⟩ : ∃ L, L = lebS n := ⟨_, rfl⟩
  have hten : L.length ≤ 10 := by rw [hL]; exact lebS_ten h1 h2
  obtain ⟨i5, hi5, hz5, hs5, hby5⟩ := info5_parts
  rw [← hL]
  replace hL := Lib.hid hL
  go_enter Tryd.func87, Tryd.ntmps87
  go_wp2_with fail
  go_loopw [0, 3] (fun v0 v3 wr => ∃ (m : Int) (l : List UInt8) (a : Option Addr) (c : Nat), v0 = .int .i64 m ∧ v3 = .slice a l.length c ∧ -9223372036854775808 ≤ m ∧ m ≤ 9223372036854775807 ∧ Hid (wr.ownsRow w.heap.size 5 1 (.slice a l.length c) l.length (cb l)) ∧ Hid (L = l ++ lebS m) ∧ Hid (Below w.heap.size w wr)) (fun v0 _ _ => (intOf v0).natAbs)
  case atStart => exact ⟨n, [], none, 0, rfl, rfl, h1, h2, Lib.hid (World.ownsRow_nil _ _ _ _), Lib.hid hL.out, Lib.hid (Below.refl _ _)⟩
  case round =>
    clear h1 h2
    obtain ⟨m, l, a, c, rfl, rfl, hm1, hm2, hown, hc, hb⟩ := hrel
    have hll : l.length ≤ 10 := by have := congrArg List.length hc.out; rw [List.length_append] at this; omega
    by_cases ha : m < -64
    · go_wp2_with (first | (
        at_builtin
        refine wpList_append_lies _ rfl _ _ _ rfl w.heap.size 5 i5 _ 1 1 Tryd.underlying62 hi5 hz5 hs5 hby5 rfl (by omega) (.slice a l.length c) l.length (cb l) (by rfl) (hown.out.alloc _)
          ⟨wr.heap.size, 0, none⟩ 1 1 [.int .u8 (bits BinOp.or .u8 (m % 256) 128)] (by rfl) (by rfl) (World.news_of_block (cs := #[.int .u8 (bits BinOp.or .u8 (m % 256) 128)]) (t := 5) (fr := (0, 0)) (heap_alloc_new _ _)) (by intro u hu; simp only [List.mem_cons, List.mem_nil_iff, or_false] at hu; subst hu; rfl)
          (by omega) (by unfold maxLen; omega) (by omega) (by have := hb.out.size; simp; omega) (wr.heap.size + 1) (by simp) ?_
        intro g cap w1 hown1 hgrow hat hlt1
        rw [or_128i m] at hown1
        have hown2 : w1.ownsRow w.heap.size 5 1 (.slice (some ⟨g, 0, none⟩) (l.length + 1) cap) (l.length + 1) (cb (l ++ [UInt8.ofNat ((m % 128).toNat + 128)])) := by rw [cb_append]; exact hown1
        have hbel := Lib.hid (((hb.out.alloc hb.out.size (.cells #[.int .u8 (bits BinOp.or .u8 (m % 256) 128)] 5)).grown hgrow (by have := hb.out.size; simp; omega) (fun k hk => (hown.out.lt k hk).1)))
        replace hown2 := Lib.hid hown2
        clear hown1))
      exact ⟨⟨m / 128, l ++ [UInt8.ofNat ((m % 128).toNat + 128)], some ⟨g, 0, none⟩, cap, by simp, by simp, by omega, by omega, Lib.hid (by simpa using hown2.out), Lib.hid (by rw [hc.out, lebS_more (by omega)]; simp), hbel⟩, by simp [intOf]; omega⟩
    · by_cases hz : 63 < m
      · go_wp2_with (first | (
          at_builtin
          refine wpList_append_lies _ rfl _ _ _ rfl w.heap.size 5 i5 _ 1 1 Tryd.underlying62 hi5 hz5 hs5 hby5 rfl (by omega) (.slice a l.length c) l.length (cb l) (by rfl) (hown.out.alloc _)
            ⟨wr.heap.size, 0, none⟩ 1 1 [.int .u8 (bits BinOp.or .u8 (m % 256) 128)] (by rfl) (by rfl) (World.news_of_block (cs := #[.int .u8 (bits BinOp.or .u8 (m % 256) 128)]) (t := 5) (fr := (0, 0)) (heap_alloc_new _ _)) (by intro u hu; simp only [List.mem_cons, List.mem_nil_iff, or_false] at hu; subst hu; rfl)
            (by omega) (by unfold maxLen; omega) (by omega) (by have := hb.out.size; simp; omega) (wr.heap.size + 1) (by simp) ?_
          intro g cap w1 hown1 hgrow hat hlt1
          rw [or_128i m] at hown1
          have hown2 : w1.ownsRow w.heap.size 5 1 (.slice (some ⟨g, 0, none⟩) (l.length + 1) cap) (l.length + 1) (cb (l ++ [UInt8.ofNat ((m % 128).toNat + 128)])) := by rw [cb_append]; exact hown1
          have hbel := Lib.hid (((hb.out.alloc hb.out.size (.cells #[.int .u8 (bits BinOp.or .u8 (m % 256) 128)] 5)).grown hgrow (by have := hb.out.size; simp; omega) (fun k hk => (hown.out.lt k hk).1)))
          replace hown2 := Lib.hid hown2
          clear hown1))
        exact ⟨⟨m / 128, l ++ [UInt8.ofNat ((m % 128).toNat + 128)], some ⟨g, 0, none⟩, cap, by simp, by simp, by omega, by omega, Lib.hid (by simpa using hown2.out), Lib.hid (by rw [hc.out, lebS_more (by omega)]; simp), hbel⟩, by simp [intOf]; omega⟩
      · go_wp2_with (first | (
          at_builtin
          refine wpList_append_lies _ rfl _ _ _ rfl w.heap.size 5 i5 _ 1 1 Tryd.underlying62 hi5 hz5 hs5 hby5 rfl (by omega) (.slice a l.length c) l.length (cb l) (by rfl) (hown.out.alloc _)
            ⟨wr.heap.size, 0, none⟩ 1 1 [.int .u8 (bits BinOp.and .u8 (m % 256) 127)] (by rfl) (by rfl) (World.news_of_block (cs := #[.int .u8 (bits BinOp.and .u8 (m % 256) 127)]) (t := 5) (fr := (0, 0)) (heap_alloc_new _ _)) (by intro u hu; simp only [List.mem_cons, List.mem_nil_iff, or_false] at hu; subst hu; rfl)
            (by omega) (by unfold maxLen; omega) (by omega) (by have := hb.out.size; simp; omega) (wr.heap.size + 1) (by simp) ?_
          intro g cap w1 hown1 hgrow hat hlt1
          rw [and_127i m] at hown1
          have hown2 : w1.ownsRow w.heap.size 5 1 (.slice (some ⟨g, 0, none⟩) (l.length + 1) cap) (l.length + 1) (cb (l ++ [UInt8.ofNat (m % 128).toNat])) := by rw [cb_append]; exact hown1
          have hbel := Lib.hid (((hb.out.alloc hb.out.size (.cells #[.int .u8 (bits BinOp.and .u8 (m % 256) 127)] 5)).grown hgrow (by have := hb.out.size; simp; omega) (fun k hk => (hown.out.lt k hk).1)))
          have hcv := conv_own hown2))
        go_ret
        refine ⟨?_, hbel.out⟩
        rw [hc.out, lebS_last (by omega)]
        rfl
set_option maxRecDepth 100000 in
set_option maxHeartbeats 2000000 in
theorem rputS_any (n : Int) (h1 : -9223372036854775808 ≤ n) (h2 : n ≤ 9223372036854775807) (w : World) :
    Calls Tryd.prog 98 #[.int .i64 n] w fun e w' => e = .returned (.string (mks (lebS n))) ∧ Below w.heap.size w w' := by
  obtain ⟨L, hL⟩ : ∃ L, L = lebS n := ⟨_, rfl⟩
  have hten : L.length ≤ 10 := by rw [hL]; exact lebS_ten h1 h2
  obtain ⟨i5, hi5, hz5, hs5, hby5⟩ := info5_parts
  rw [← hL]
  replace hL := Lib.hid hL
  go_enter Tryd.func98, Tryd.ntmps98
  go_wp2_with fail
  go_loopw [0, 3] (fun v0 v3 wr => ∃ (m : Int) (l : List UInt8) (a : Option Addr) (c : Nat), v0 = .int .i64 m ∧ v3 = .slice a l.length c ∧ -9223372036854775808 ≤ m ∧ m ≤ 9223372036854775807 ∧ Hid (wr.ownsRow w.heap.size 5 1 (.slice a l.length c) l.length (cb l)) ∧ Hid (L = l ++ lebS m) ∧ Hid (Below w.heap.size w wr)) (fun v0 _ _ => (intOf v0).natAbs)
  case atStart => exact ⟨n, [], none, 0, rfl, rfl, h1, h2, Lib.hid (World.ownsRow_nil _ _ _ _), Lib.hid hL.out, Lib.hid (Below.refl _ _)⟩
  case round =>
    clear h1 h2
    obtain ⟨m, l, a, c, rfl, rfl, hm1, hm2, hown, hc, hb⟩ := hrel
    have hll : l.length ≤ 10 := by have := congrArg List.length hc.out; rw [List.length_append] at this; omega
    by_cases ha : m < -64
    · go_wp2_with (first | (
        at_builtin
        refine wpList_append_lies _ rfl _ _ _ rfl w.heap.size 5 i5 _ 1 1 Tryd.underlying62 hi5 hz5 hs5 hby5 rfl (by omega) (.slice a l.length c) l.length (cb l) (by rfl) (hown.out.alloc _)
          ⟨wr.heap.size, 0, none⟩ 1 1 [.int .u8 (bits BinOp.or .u8 (m % 256) 128)] (by rfl) (by rfl) (World.news_of_block (cs := #[.int .u8 (bits BinOp.or .u8 (m % 256) 128)]) (t := 5) (fr := (0, 0)) (heap_alloc_new _ _)) (by intro u hu; simp only [List.mem_cons, List.mem_nil_iff, or_false] at hu; subst hu; rfl)
          (by omega) (by unfold maxLen; omega) (by omega) (by have := hb.out.size; simp; omega) (wr.heap.size + 1) (by simp) ?_
        intro g cap w1 hown1 hgrow hat hlt1
        rw [or_128i m] at hown1
        have hown2 : w1.ownsRow w.heap.size 5 1 (.slice (some ⟨g, 0, none⟩) (l.length + 1) cap) (l.length + 1) (cb (l ++ [UInt8.ofNat ((m % 128).toNat + 128)])) := by rw [cb_append]; exact hown1
        have hbel := Lib.hid (((hb.out.alloc hb.out.size (.cells #[.int .u8 (bits BinOp.or .u8 (m % 256) 128)] 5)).grown hgrow (by have := hb.out.size; simp; omega) (fun k hk => (hown.out.lt k hk).1)))
        replace hown2 := Lib.hid hown2
        clear hown1))
      exact ⟨⟨m / 128, l ++ [UInt8.ofNat ((m % 128).toNat + 128)], some ⟨g, 0, none⟩, cap, by simp, by simp, by omega, by omega, Lib.hid (by simpa using hown2.out), Lib.hid (by rw [hc.out, lebS_more (by omega)]; simp), hbel⟩, by simp [intOf]; omega⟩
    · by_cases hz : 63 < m
      · go_wp2_with (first | (
          at_builtin
          refine wpList_append_lies _ rfl _ _ _ rfl w.heap.size 5 i5 _ 1 1 Tryd.underlying62 hi5 hz5 hs5 hby5 rfl (by omega) (.slice a l.length c) l.length (cb l) (by rfl) (hown.out.alloc _)
            ⟨wr.heap.size, 0, none⟩ 1 1 [.int .u8 (bits BinOp.or .u8 (m % 256) 128)] (by rfl) (by rfl) (World.news_of_block (cs := #[.int .u8 (bits BinOp.or .u8 (m % 256) 128)]) (t := 5) (fr := (0, 0)) (heap_alloc_new _ _)) (by intro u hu; simp only [List.mem_cons, List.mem_nil_iff, or_false] at hu; subst hu; rfl)
            (by omega) (by unfold maxLen; omega) (by omega) (by have := hb.out.size; simp; omega) (wr.heap.size + 1) (by simp) ?_
          intro g cap w1 hown1 hgrow hat hlt1
          rw [or_128i m] at hown1
          have hown2 : w1.ownsRow w.heap.size 5 1 (.slice (some ⟨g, 0, none⟩) (l.length + 1) cap) (l.length + 1) (cb (l ++ [UInt8.ofNat ((m % 128).toNat + 128)])) := by rw [cb_append]; exact hown1
          have hbel := Lib.hid (((hb.out.alloc hb.out.size (.cells #[.int .u8 (bits BinOp.or .u8 (m % 256) 128)] 5)).grown hgrow (by have := hb.out.size; simp; omega) (fun k hk => (hown.out.lt k hk).1)))
          replace hown2 := Lib.hid hown2
          clear hown1))
        exact ⟨⟨m / 128, l ++ [UInt8.ofNat ((m % 128).toNat + 128)], some ⟨g, 0, none⟩, cap, by simp, by simp, by omega, by omega, Lib.hid (by simpa using hown2.out), Lib.hid (by rw [hc.out, lebS_more (by omega)]; simp), hbel⟩, by simp [intOf]; omega⟩
      · go_wp2_with (first | (
          at_builtin
          refine wpList_append_lies _ rfl _ _ _ rfl w.heap.size 5 i5 _ 1 1 Tryd.underlying62 hi5 hz5 hs5 hby5 rfl (by omega) (.slice a l.length c) l.length (cb l) (by rfl) (hown.out.alloc _)
            ⟨wr.heap.size, 0, none⟩ 1 1 [.int .u8 (bits BinOp.and .u8 (m % 256) 127)] (by rfl) (by rfl) (World.news_of_block (cs := #[.int .u8 (bits BinOp.and .u8 (m % 256) 127)]) (t := 5) (fr := (0, 0)) (heap_alloc_new _ _)) (by intro u hu; simp only [List.mem_cons, List.mem_nil_iff, or_false] at hu; subst hu; rfl)
            (by omega) (by unfold maxLen; omega) (by omega) (by have := hb.out.size; simp; omega) (wr.heap.size + 1) (by simp) ?_
          intro g cap w1 hown1 hgrow hat hlt1
          rw [and_127i m] at hown1
          have hown2 : w1.ownsRow w.heap.size 5 1 (.slice (some ⟨g, 0, none⟩) (l.length + 1) cap) (l.length + 1) (cb (l ++ [UInt8.ofNat (m % 128).toNat])) := by rw [cb_append]; exact hown1
          have hbel := Lib.hid (((hb.out.alloc hb.out.size (.cells #[.int .u8 (bits BinOp.and .u8 (m % 256) 127)] 5)).grown hgrow (by have := hb.out.size; simp; omega) (fun k hk => (hown.out.lt k hk).1)))
          have hcv := conv_own hown2))
        go_ret
        refine ⟨?_, hbel.out⟩
        rw [hc.out, lebS_last (by omega)]
        rfl
end Go.Proofs.YtanpjbbhhofkfaaDoor
