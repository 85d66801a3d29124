/- Gd -/
import Derived.Test.YtanpjbbhhofkfaaGreatDoorGa
import Derived.Test.YtanpjbbhhofkfaaGreatDoorMc
import Derived.Test.YtanpjbbhhofkfaaGreatDoorMg
import Derived.Laws.BytesArg
import Derived.Laws.Bits64
namespace Go.Proofs.YtanpjbbhhofkfaaGreatDoor
open Go.RowKit
set_option linter.unusedVariables false
set_option linter.unusedSimpArgs false
set_option maxRecDepth 100000
set_option maxHeartbeats 4000000
def lebU (n : Nat) : List UInt8 := if h : n < 128 then [UInt8.ofNat n] else UInt8.ofNat (n % 128 + 128) :: lebU (n / 128)
termination_by n
decreasing_by omega
theorem lebU_last {n : Nat} (h : n < 128) : lebU n = [UInt8.ofNat n] := by rw [lebU, dif_pos h]
theorem lebU_more {n : Nat} (h : ¬ n < 128) : lebU n = UInt8.ofNat (n % 128 + 128) :: lebU (n / 128) := by rw [lebU, dif_neg h]
theorem lebU_len : ∀ (k n : Nat), n < 128 ^ (k + 1) → (lebU n).length ≤ k + 1
 | 0, n, h => by
   rw [lebU_last (by simpa using h)]; simp
 | k + 1, n, h => by
   by_cases hn : n < 128
   · rw [lebU_last hn]; simp
   · rw [lebU_more hn, List.length_cons]
     have := lebU_len k (n / 128) (by
      rw [Nat.div_lt_iff_lt_mul (by omega)]; rw [Nat.pow_succ] at h; exact h)
     omega
theorem lebU_ten {n : Nat} (h : n < 18446744073709551616) : (lebU n).length ≤ 10 := lebU_len 9 n (by
 have : (128 : Nat) ^ 10 = 1180591620717411303424 := (by decide)
 omega)
def lebS (n : Int) : List UInt8 := if h : -64 ≤ n ∧ n ≤ 63 then [UInt8.ofNat (n % 128).toNat] else UInt8.ofNat ((n % 128).toNat + 128) :: lebS (n / 128)
termination_by n.natAbs
decreasing_by omega
theorem lebS_last {n : Int} (h : -64 ≤ n ∧ n ≤ 63) : lebS n = [UInt8.ofNat (n % 128).toNat] := by rw [lebS, dif_pos h]
theorem lebS_more {n : Int} (h : ¬ (-64 ≤ n ∧ n ≤ 63)) : lebS n = UInt8.ofNat ((n % 128).toNat + 128) :: lebS (n / 128) := by rw [lebS, dif_neg h]
theorem lebS_len : ∀ (k : Nat) (n b : Int), b = 64 * 128 ^ k → -b ≤ n → n < b → (lebS n).length ≤ k + 1
 | 0, n, b, hb, h1, h2 => by
   rw [lebS_last (by simp at hb; omega)]; simp
 | k + 1, n, b, hb, h1, h2 => by
   by_cases hn : -64 ≤ n ∧ n ≤ 63
   · rw [lebS_last hn]; simp
   · rw [lebS_more hn, List.length_cons]; have e : b = 64 * 128 ^ k * 128 := (by rw [hb, Int.pow_succ, Int.mul_assoc])
     obtain ⟨c, hc⟩ : ∃ c : Int, c = 64 * 128 ^ k := ⟨_, rfl⟩
     rw [← hc] at e; have := lebS_len k (n / 128) c hc (by omega) (by omega); omega
theorem lebS_ten {n : Int} (h1 : -9223372036854775808 ≤ n) (h2 : n ≤ 9223372036854775807) : (lebS n).length ≤ 10 := lebS_len 9 n _ rfl (by
 have : (64 * 128 ^ 9 : Int) = 590295810358705651712 := (by decide)
 omega) (by
 have : (64 * 128 ^ 9 : Int) = 590295810358705651712 := (by decide)
 omega)
theorem or_128 (m : Nat) : bits BinOp.or .u8 ((m : Int) % 256) 128 = ((UInt8.ofNat (m % 128 + 128)).toNat : Int) := by
 have h : ∀ r : Fin 256, bits BinOp.or .u8 ((r.val : Nat) : Int) 128 = ((r.val % 128 + 128 : Nat) : Int) := (by decide +kernel)
 have := h ⟨m % 256, by omega⟩; simp only at this; have e : ((m % 256 : Nat) : Int) = (m : Int) % 256 := (by omega)
 rw [e] at this; rw [this]; have e2 : m % 256 % 128 = m % 128 := (by omega)
 rw [e2, UInt8.toNat_ofNat']; congr 1; omega
theorem or_128i (m : Int) : bits BinOp.or .u8 (m % 256) 128 = ((UInt8.ofNat ((m % 128).toNat + 128)).toNat : Int) := by
 have := or_128 (m % 256).toNat; have e : (((m % 256).toNat : Int) % 256) = m % 256 := (by omega)
 rw [e] at this; rw [this]; congr 4; omega
theorem and_127i (m : Int) : bits BinOp.and .u8 (m % 256) 127 = ((UInt8.ofNat (m % 128).toNat).toNat : Int) := by
 have h : ∀ r : Fin 256, bits BinOp.and .u8 ((r.val : Nat) : Int) 127 = ((r.val % 128 : Nat) : Int) := (by decide +kernel)
 have := h ⟨(m % 256).toNat, by omega⟩; simp only at this; have e : (((m % 256).toNat : Nat) : Int) = m % 256 := (by omega)
 rw [e] at this; rw [this, UInt8.toNat_ofNat']; congr 1; omega
theorem u8_small {m : Nat} (h : m < 256) : (m : Int) = ((UInt8.ofNat m).toNat : Int) := by rw [UInt8.toNat_ofNat']; congr 1; omega
theorem conv_own {w : World} {base : Nat} {v : Value} {n : Nat} {l : List UInt8} (h : w.ownsRow base 5 1 v n (cb l)) : (convert 47 9 v).run Tryz.prog w = .ok (.string (mks l)) w := by
 have hn : l.length = n := (by simpa [cb] using h.1)
 rcases h.2 with ⟨rfl, h0⟩ | ⟨g, cap, cur, rfl, _⟩
 · have : l = [] := List.eq_nil_of_length_eq_zero (by omega); subst this; exact run_convert_bytes_nil w 47 5 Tryz.underlying47 Tryz.underlying5 0 0 9 Tryz.underlying9
 · subst hn
   exact run_convert_bytes_back w 47 9 5 ⟨g, 0, none⟩ cap l Tryz.underlying47 Tryz.underlying5 Tryz.underlying9 (fun j hj => by
    have := h.cells (g := g) rfl j (.int .u8 (l[j].toNat : Int)) (by simp [cb, hj]); exact this)
theorem putU_any (n : Nat) (hn : n < 18446744073709551616) (w : World) :
 Calls Tryz.prog 76 #[.int .u64 n] w fun e w' => e = .returned (.string (mks (lebU n))) ∧ Below w.heap.size w w' := by
 obtain ⟨L, hL⟩ : ∃ L, L = lebU n := ⟨_, rfl⟩
 have hten : L.length ≤ 10 := (by rw [hL]; exact lebU_ten hn)
 obtain ⟨i5, hi5, hz5, hs5, hby5⟩ := info5_parts; rw [← hL]; replace hL := zh hL; go_enter Tryz.func76, Tryz.ntmps76; go_wp2_with fail; go_loopw [0, 3] (fun v0 v3 wr => ∃ (m : Nat) (l : List UInt8) (a : Option Addr) (c : Nat), v0 = .int .u64 m ∧ v3 = .slice a l.length c ∧ m < 18446744073709551616 ∧ Hid (wr.ownsRow w.heap.size 5 1 (.slice a l.length c) l.length (cb l)) ∧ Hid (L = l ++ lebU m) ∧ Hid (Below w.heap.size w wr)) (fun v0 _ _ => (intOf v0).toNat)
 case atStart => exact ⟨n, [], none, 0, rfl, rfl, hn, zh (World.ownsRow_nil _ _ _ _), zh hL.out, zh (Below.refl _ _)⟩
 case round =>
  obtain ⟨m, l, a, c, rfl, rfl, hm, hown, hc, hb⟩ := hrel; have hll : l.length ≤ 10 := (by have := congrArg List.length hc.out; rw [List.length_append] at this; omega)
  by_cases hlt : m < 128
  · go_wp2_with (first | (
     at_builtin
     refine wpList_append_lies _ rfl _ _ _ rfl w.heap.size 5 i5 _ 1 1 Tryz.underlying47 hi5 hz5 hs5 hby5 rfl (by omega) (.slice a l.length c) l.length (cb l) (by rfl) (hown.out.alloc _)
      ⟨wr.heap.size, 0, none⟩ 1 1 [.int .u8 (m : Int)] (by rfl) (by rfl) (World.news_of_block (cs := #[.int .u8 (m : Int)]) (t := 5) (fr := (0, 0)) (heap_alloc_new _ _)) (by intro u hu; simp only [List.mem_cons, List.mem_nil_iff, or_false] at hu; subst hu; rfl)
      (by omega) (by unfold maxLen; omega) (by omega) (by have := hb.out.size; simp; omega) (wr.heap.size + 1) (by simp) ?_
     intro g cap w1 hown1 hgrow hat hlt1; rw [u8_small (show m < 256 by omega)] at hown1; have hown2 : w1.ownsRow w.heap.size 5 1 (.slice (some ⟨g, 0, none⟩) (l.length + 1) cap) (l.length + 1) (cb (l ++ [UInt8.ofNat m])) := (by rw [cb_append]; exact hown1)
     have hbel := zh (((hb.out.alloc hb.out.size (.cells #[.int .u8 (m : Int)] 5)).grown hgrow (by have := hb.out.size; simp; omega) (fun k hk => (hown.out.lt k hk).1))); have hcv := conv_own hown2))
    go_ret; refine ⟨?_, hbel.out⟩; rw [hc.out, lebU_last hlt]; rfl
  · go_wp2_with (first | (
     at_builtin
     refine wpList_append_lies _ rfl _ _ _ rfl w.heap.size 5 i5 _ 1 1 Tryz.underlying47 hi5 hz5 hs5 hby5 rfl (by omega) (.slice a l.length c) l.length (cb l) (by rfl) (hown.out.alloc _)
      ⟨wr.heap.size, 0, none⟩ 1 1 [.int .u8 (bits BinOp.or .u8 ((m : Int) % 256) 128)] (by rfl) (by rfl) (World.news_of_block (cs := #[.int .u8 (bits BinOp.or .u8 ((m : Int) % 256) 128)]) (t := 5) (fr := (0, 0)) (heap_alloc_new _ _)) (by intro u hu; simp only [List.mem_cons, List.mem_nil_iff, or_false] at hu; subst hu; rfl)
      (by omega) (by unfold maxLen; omega) (by omega) (by have := hb.out.size; simp; omega) (wr.heap.size + 1) (by simp) ?_
     intro g cap w1 hown1 hgrow hat hlt1; rw [or_128 m] at hown1; have hown2 : w1.ownsRow w.heap.size 5 1 (.slice (some ⟨g, 0, none⟩) (l.length + 1) cap) (l.length + 1) (cb (l ++ [UInt8.ofNat (m % 128 + 128)])) := (by rw [cb_append]; exact hown1)
     have hbel := zh (((hb.out.alloc hb.out.size (.cells #[.int .u8 (bits BinOp.or .u8 ((m : Int) % 256) 128)] 5)).grown hgrow (by have := hb.out.size; simp; omega) (fun k hk => (hown.out.lt k hk).1))); replace hown2 := zh hown2; clear hown1))
    exact ⟨⟨m / 128, l ++ [UInt8.ofNat (m % 128 + 128)], some ⟨g, 0, none⟩, cap, by simp, by simp, by omega, zh (by simpa using hown2.out), zh (by rw [hc.out, lebU_more hlt]; simp), hbel⟩, by simp [intOf]; omega⟩
theorem rputU_any (n : Nat) (hn : n < 18446744073709551616) (w : World) :
 Calls Tryz.prog 103 #[.int .u64 n] w fun e w' => e = .returned (.string (mks (lebU n))) ∧ Below w.heap.size w w' := by
 obtain ⟨L, hL⟩ : ∃ L, L = lebU n := ⟨_, rfl⟩
 have hten : L.length ≤ 10 := (by rw [hL]; exact lebU_ten hn)
 obtain ⟨i5, hi5, hz5, hs5, hby5⟩ := info5_parts; rw [← hL]; replace hL := zh hL; go_enter Tryz.func103, Tryz.ntmps103; go_wp2_with fail; go_loopw [0, 3] (fun v0 v3 wr => ∃ (m : Nat) (l : List UInt8) (a : Option Addr) (c : Nat), v0 = .int .u64 m ∧ v3 = .slice a l.length c ∧ m < 18446744073709551616 ∧ Hid (wr.ownsRow w.heap.size 5 1 (.slice a l.length c) l.length (cb l)) ∧ Hid (L = l ++ lebU m) ∧ Hid (Below w.heap.size w wr)) (fun v0 _ _ => (intOf v0).toNat)
 case atStart => exact ⟨n, [], none, 0, rfl, rfl, hn, zh (World.ownsRow_nil _ _ _ _), zh hL.out, zh (Below.refl _ _)⟩
 case round =>
  obtain ⟨m, l, a, c, rfl, rfl, hm, hown, hc, hb⟩ := hrel; have hll : l.length ≤ 10 := (by have := congrArg List.length hc.out; rw [List.length_append] at this; omega)
  by_cases hlt : m < 128
  · go_wp2_with (first | (
     at_builtin
     refine wpList_append_lies _ rfl _ _ _ rfl w.heap.size 5 i5 _ 1 1 Tryz.underlying47 hi5 hz5 hs5 hby5 rfl (by omega) (.slice a l.length c) l.length (cb l) (by rfl) (hown.out.alloc _)
      ⟨wr.heap.size, 0, none⟩ 1 1 [.int .u8 (m : Int)] (by rfl) (by rfl) (World.news_of_block (cs := #[.int .u8 (m : Int)]) (t := 5) (fr := (0, 0)) (heap_alloc_new _ _)) (by intro u hu; simp only [List.mem_cons, List.mem_nil_iff, or_false] at hu; subst hu; rfl)
      (by omega) (by unfold maxLen; omega) (by omega) (by have := hb.out.size; simp; omega) (wr.heap.size + 1) (by simp) ?_
     intro g cap w1 hown1 hgrow hat hlt1; rw [u8_small (show m < 256 by omega)] at hown1; have hown2 : w1.ownsRow w.heap.size 5 1 (.slice (some ⟨g, 0, none⟩) (l.length + 1) cap) (l.length + 1) (cb (l ++ [UInt8.ofNat m])) := (by rw [cb_append]; exact hown1)
     have hbel := zh (((hb.out.alloc hb.out.size (.cells #[.int .u8 (m : Int)] 5)).grown hgrow (by have := hb.out.size; simp; omega) (fun k hk => (hown.out.lt k hk).1))); have hcv := conv_own hown2))
    go_ret; refine ⟨?_, hbel.out⟩; rw [hc.out, lebU_last hlt]; rfl
  · go_wp2_with (first | (
     at_builtin
     refine wpList_append_lies _ rfl _ _ _ rfl w.heap.size 5 i5 _ 1 1 Tryz.underlying47 hi5 hz5 hs5 hby5 rfl (by omega) (.slice a l.length c) l.length (cb l) (by rfl) (hown.out.alloc _)
      ⟨wr.heap.size, 0, none⟩ 1 1 [.int .u8 (bits BinOp.or .u8 ((m : Int) % 256) 128)] (by rfl) (by rfl) (World.news_of_block (cs := #[.int .u8 (bits BinOp.or .u8 ((m : Int) % 256) 128)]) (t := 5) (fr := (0, 0)) (heap_alloc_new _ _)) (by intro u hu; simp only [List.mem_cons, List.mem_nil_iff, or_false] at hu; subst hu; rfl)
      (by omega) (by unfold maxLen; omega) (by omega) (by have := hb.out.size; simp; omega) (wr.heap.size + 1) (by simp) ?_
     intro g cap w1 hown1 hgrow hat hlt1; rw [or_128 m] at hown1; have hown2 : w1.ownsRow w.heap.size 5 1 (.slice (some ⟨g, 0, none⟩) (l.length + 1) cap) (l.length + 1) (cb (l ++ [UInt8.ofNat (m % 128 + 128)])) := (by rw [cb_append]; exact hown1)
     have hbel := zh (((hb.out.alloc hb.out.size (.cells #[.int .u8 (bits BinOp.or .u8 ((m : Int) % 256) 128)] 5)).grown hgrow (by have := hb.out.size; simp; omega) (fun k hk => (hown.out.lt k hk).1))); replace hown2 := zh hown2; clear hown1))
    exact ⟨⟨m / 128, l ++ [UInt8.ofNat (m % 128 + 128)], some ⟨g, 0, none⟩, cap, by simp, by simp, by omega, zh (by simpa using hown2.out), zh (by rw [hc.out, lebU_more hlt]; simp), hbel⟩, by simp [intOf]; omega⟩
theorem putS_any (n : Int) (h1 : -9223372036854775808 ≤ n) (h2 : n ≤ 9223372036854775807) (w : World) :
 Calls Tryz.prog 107 #[.int .i64 n] w fun e w' => e = .returned (.string (mks (lebS n))) ∧ Below w.heap.size w w' := by
 obtain ⟨L, hL⟩ : ∃ L, L = lebS n := ⟨_, rfl⟩
 have hten : L.length ≤ 10 := (by rw [hL]; exact lebS_ten h1 h2)
 obtain ⟨i5, hi5, hz5, hs5, hby5⟩ := info5_parts; rw [← hL]; replace hL := zh hL; go_enter Tryz.func107, Tryz.ntmps107; go_wp2_with fail; go_loopw [0, 3] (fun v0 v3 wr => ∃ (m : Int) (l : List UInt8) (a : Option Addr) (c : Nat), v0 = .int .i64 m ∧ v3 = .slice a l.length c ∧ -9223372036854775808 ≤ m ∧ m ≤ 9223372036854775807 ∧ Hid (wr.ownsRow w.heap.size 5 1 (.slice a l.length c) l.length (cb l)) ∧ Hid (L = l ++ lebS m) ∧ Hid (Below w.heap.size w wr)) (fun v0 _ _ => (intOf v0).natAbs)
 case atStart => exact ⟨n, [], none, 0, rfl, rfl, h1, h2, zh (World.ownsRow_nil _ _ _ _), zh hL.out, zh (Below.refl _ _)⟩
 case round =>
  clear h1 h2; obtain ⟨m, l, a, c, rfl, rfl, hm1, hm2, hown, hc, hb⟩ := hrel; have hll : l.length ≤ 10 := (by have := congrArg List.length hc.out; rw [List.length_append] at this; omega)
  by_cases ha : m < -64
  · go_wp2_with (first | (
     at_builtin
     refine wpList_append_lies _ rfl _ _ _ rfl w.heap.size 5 i5 _ 1 1 Tryz.underlying47 hi5 hz5 hs5 hby5 rfl (by omega) (.slice a l.length c) l.length (cb l) (by rfl) (hown.out.alloc _)
      ⟨wr.heap.size, 0, none⟩ 1 1 [.int .u8 (bits BinOp.or .u8 (m % 256) 128)] (by rfl) (by rfl) (World.news_of_block (cs := #[.int .u8 (bits BinOp.or .u8 (m % 256) 128)]) (t := 5) (fr := (0, 0)) (heap_alloc_new _ _)) (by intro u hu; simp only [List.mem_cons, List.mem_nil_iff, or_false] at hu; subst hu; rfl)
      (by omega) (by unfold maxLen; omega) (by omega) (by have := hb.out.size; simp; omega) (wr.heap.size + 1) (by simp) ?_
     intro g cap w1 hown1 hgrow hat hlt1; rw [or_128i m] at hown1; have hown2 : w1.ownsRow w.heap.size 5 1 (.slice (some ⟨g, 0, none⟩) (l.length + 1) cap) (l.length + 1) (cb (l ++ [UInt8.ofNat ((m % 128).toNat + 128)])) := (by rw [cb_append]; exact hown1)
     have hbel := zh (((hb.out.alloc hb.out.size (.cells #[.int .u8 (bits BinOp.or .u8 (m % 256) 128)] 5)).grown hgrow (by have := hb.out.size; simp; omega) (fun k hk => (hown.out.lt k hk).1))); replace hown2 := zh hown2; clear hown1))
    exact ⟨⟨m / 128, l ++ [UInt8.ofNat ((m % 128).toNat + 128)], some ⟨g, 0, none⟩, cap, by simp, by simp, by omega, by omega, zh (by simpa using hown2.out), zh (by rw [hc.out, lebS_more (by omega)]; simp), hbel⟩, by simp [intOf]; omega⟩
  · by_cases hz : 63 < m
    · go_wp2_with (first | (
       at_builtin
       refine wpList_append_lies _ rfl _ _ _ rfl w.heap.size 5 i5 _ 1 1 Tryz.underlying47 hi5 hz5 hs5 hby5 rfl (by omega) (.slice a l.length c) l.length (cb l) (by rfl) (hown.out.alloc _)
        ⟨wr.heap.size, 0, none⟩ 1 1 [.int .u8 (bits BinOp.or .u8 (m % 256) 128)] (by rfl) (by rfl) (World.news_of_block (cs := #[.int .u8 (bits BinOp.or .u8 (m % 256) 128)]) (t := 5) (fr := (0, 0)) (heap_alloc_new _ _)) (by intro u hu; simp only [List.mem_cons, List.mem_nil_iff, or_false] at hu; subst hu; rfl)
        (by omega) (by unfold maxLen; omega) (by omega) (by have := hb.out.size; simp; omega) (wr.heap.size + 1) (by simp) ?_
       intro g cap w1 hown1 hgrow hat hlt1; rw [or_128i m] at hown1; have hown2 : w1.ownsRow w.heap.size 5 1 (.slice (some ⟨g, 0, none⟩) (l.length + 1) cap) (l.length + 1) (cb (l ++ [UInt8.ofNat ((m % 128).toNat + 128)])) := (by rw [cb_append]; exact hown1)
       have hbel := zh (((hb.out.alloc hb.out.size (.cells #[.int .u8 (bits BinOp.or .u8 (m % 256) 128)] 5)).grown hgrow (by have := hb.out.size; simp; omega) (fun k hk => (hown.out.lt k hk).1))); replace hown2 := zh hown2; clear hown1))
      exact ⟨⟨m / 128, l ++ [UInt8.ofNat ((m % 128).toNat + 128)], some ⟨g, 0, none⟩, cap, by simp, by simp, by omega, by omega, zh (by simpa using hown2.out), zh (by rw [hc.out, lebS_more (by omega)]; simp), hbel⟩, by simp [intOf]; omega⟩
    · go_wp2_with (first | (
       at_builtin
       refine wpList_append_lies _ rfl _ _ _ rfl w.heap.size 5 i5 _ 1 1 Tryz.underlying47 hi5 hz5 hs5 hby5 rfl (by omega) (.slice a l.length c) l.length (cb l) (by rfl) (hown.out.alloc _)
        ⟨wr.heap.size, 0, none⟩ 1 1 [.int .u8 (bits BinOp.and .u8 (m % 256) 127)] (by rfl) (by rfl) (World.news_of_block (cs := #[.int .u8 (bits BinOp.and .u8 (m % 256) 127)]) (t := 5) (fr := (0, 0)) (heap_alloc_new _ _)) (by intro u hu; simp only [List.mem_cons, List.mem_nil_iff, or_false] at hu; subst hu; rfl)
        (by omega) (by unfold maxLen; omega) (by omega) (by have := hb.out.size; simp; omega) (wr.heap.size + 1) (by simp) ?_
       intro g cap w1 hown1 hgrow hat hlt1; rw [and_127i m] at hown1; have hown2 : w1.ownsRow w.heap.size 5 1 (.slice (some ⟨g, 0, none⟩) (l.length + 1) cap) (l.length + 1) (cb (l ++ [UInt8.ofNat (m % 128).toNat])) := (by rw [cb_append]; exact hown1)
       have hbel := zh (((hb.out.alloc hb.out.size (.cells #[.int .u8 (bits BinOp.and .u8 (m % 256) 127)] 5)).grown hgrow (by have := hb.out.size; simp; omega) (fun k hk => (hown.out.lt k hk).1))); have hcv := conv_own hown2))
      go_ret; refine ⟨?_, hbel.out⟩; rw [hc.out, lebS_last (by omega)]; rfl
theorem rputS_any (n : Int) (h1 : -9223372036854775808 ≤ n) (h2 : n ≤ 9223372036854775807) (w : World) :
 Calls Tryz.prog 113 #[.int .i64 n] w fun e w' => e = .returned (.string (mks (lebS n))) ∧ Below w.heap.size w w' := by
 obtain ⟨L, hL⟩ : ∃ L, L = lebS n := ⟨_, rfl⟩
 have hten : L.length ≤ 10 := (by rw [hL]; exact lebS_ten h1 h2)
 obtain ⟨i5, hi5, hz5, hs5, hby5⟩ := info5_parts; rw [← hL]; replace hL := zh hL; go_enter Tryz.func113, Tryz.ntmps113; go_wp2_with fail; go_loopw [0, 3] (fun v0 v3 wr => ∃ (m : Int) (l : List UInt8) (a : Option Addr) (c : Nat), v0 = .int .i64 m ∧ v3 = .slice a l.length c ∧ -9223372036854775808 ≤ m ∧ m ≤ 9223372036854775807 ∧ Hid (wr.ownsRow w.heap.size 5 1 (.slice a l.length c) l.length (cb l)) ∧ Hid (L = l ++ lebS m) ∧ Hid (Below w.heap.size w wr)) (fun v0 _ _ => (intOf v0).natAbs)
 case atStart => exact ⟨n, [], none, 0, rfl, rfl, h1, h2, zh (World.ownsRow_nil _ _ _ _), zh hL.out, zh (Below.refl _ _)⟩
 case round =>
  clear h1 h2; obtain ⟨m, l, a, c, rfl, rfl, hm1, hm2, hown, hc, hb⟩ := hrel; have hll : l.length ≤ 10 := (by have := congrArg List.length hc.out; rw [List.length_append] at this; omega)
  by_cases ha : m < -64
  · go_wp2_with (first | (
     at_builtin
     refine wpList_append_lies _ rfl _ _ _ rfl w.heap.size 5 i5 _ 1 1 Tryz.underlying47 hi5 hz5 hs5 hby5 rfl (by omega) (.slice a l.length c) l.length (cb l) (by rfl) (hown.out.alloc _)
      ⟨wr.heap.size, 0, none⟩ 1 1 [.int .u8 (bits BinOp.or .u8 (m % 256) 128)] (by rfl) (by rfl) (World.news_of_block (cs := #[.int .u8 (bits BinOp.or .u8 (m % 256) 128)]) (t := 5) (fr := (0, 0)) (heap_alloc_new _ _)) (by intro u hu; simp only [List.mem_cons, List.mem_nil_iff, or_false] at hu; subst hu; rfl)
      (by omega) (by unfold maxLen; omega) (by omega) (by have := hb.out.size; simp; omega) (wr.heap.size + 1) (by simp) ?_
     intro g cap w1 hown1 hgrow hat hlt1; rw [or_128i m] at hown1; have hown2 : w1.ownsRow w.heap.size 5 1 (.slice (some ⟨g, 0, none⟩) (l.length + 1) cap) (l.length + 1) (cb (l ++ [UInt8.ofNat ((m % 128).toNat + 128)])) := (by rw [cb_append]; exact hown1)
     have hbel := zh (((hb.out.alloc hb.out.size (.cells #[.int .u8 (bits BinOp.or .u8 (m % 256) 128)] 5)).grown hgrow (by have := hb.out.size; simp; omega) (fun k hk => (hown.out.lt k hk).1))); replace hown2 := zh hown2; clear hown1))
    exact ⟨⟨m / 128, l ++ [UInt8.ofNat ((m % 128).toNat + 128)], some ⟨g, 0, none⟩, cap, by simp, by simp, by omega, by omega, zh (by simpa using hown2.out), zh (by rw [hc.out, lebS_more (by omega)]; simp), hbel⟩, by simp [intOf]; omega⟩
  · by_cases hz : 63 < m
    · go_wp2_with (first | (
       at_builtin
       refine wpList_append_lies _ rfl _ _ _ rfl w.heap.size 5 i5 _ 1 1 Tryz.underlying47 hi5 hz5 hs5 hby5 rfl (by omega) (.slice a l.length c) l.length (cb l) (by rfl) (hown.out.alloc _)
        ⟨wr.heap.size, 0, none⟩ 1 1 [.int .u8 (bits BinOp.or .u8 (m % 256) 128)] (by rfl) (by rfl) (World.news_of_block (cs := #[.int .u8 (bits BinOp.or .u8 (m % 256) 128)]) (t := 5) (fr := (0, 0)) (heap_alloc_new _ _)) (by intro u hu; simp only [List.mem_cons, List.mem_nil_iff, or_false] at hu; subst hu; rfl)
        (by omega) (by unfold maxLen; omega) (by omega) (by have := hb.out.size; simp; omega) (wr.heap.size + 1) (by simp) ?_
       intro g cap w1 hown1 hgrow hat hlt1; rw [or_128i m] at hown1; have hown2 : w1.ownsRow w.heap.size 5 1 (.slice (some ⟨g, 0, none⟩) (l.length + 1) cap) (l.length + 1) (cb (l ++ [UInt8.ofNat ((m % 128).toNat + 128)])) := (by rw [cb_append]; exact hown1)
       have hbel := zh (((hb.out.alloc hb.out.size (.cells #[.int .u8 (bits BinOp.or .u8 (m % 256) 128)] 5)).grown hgrow (by have := hb.out.size; simp; omega) (fun k hk => (hown.out.lt k hk).1))); replace hown2 := zh hown2; clear hown1))
      exact ⟨⟨m / 128, l ++ [UInt8.ofNat ((m % 128).toNat + 128)], some ⟨g, 0, none⟩, cap, by simp, by simp, by omega, by omega, zh (by simpa using hown2.out), zh (by rw [hc.out, lebS_more (by omega)]; simp), hbel⟩, by simp [intOf]; omega⟩
    · go_wp2_with (first | (
       at_builtin
       refine wpList_append_lies _ rfl _ _ _ rfl w.heap.size 5 i5 _ 1 1 Tryz.underlying47 hi5 hz5 hs5 hby5 rfl (by omega) (.slice a l.length c) l.length (cb l) (by rfl) (hown.out.alloc _)
        ⟨wr.heap.size, 0, none⟩ 1 1 [.int .u8 (bits BinOp.and .u8 (m % 256) 127)] (by rfl) (by rfl) (World.news_of_block (cs := #[.int .u8 (bits BinOp.and .u8 (m % 256) 127)]) (t := 5) (fr := (0, 0)) (heap_alloc_new _ _)) (by intro u hu; simp only [List.mem_cons, List.mem_nil_iff, or_false] at hu; subst hu; rfl)
        (by omega) (by unfold maxLen; omega) (by omega) (by have := hb.out.size; simp; omega) (wr.heap.size + 1) (by simp) ?_
       intro g cap w1 hown1 hgrow hat hlt1; rw [and_127i m] at hown1; have hown2 : w1.ownsRow w.heap.size 5 1 (.slice (some ⟨g, 0, none⟩) (l.length + 1) cap) (l.length + 1) (cb (l ++ [UInt8.ofNat (m % 128).toNat])) := (by rw [cb_append]; exact hown1)
       have hbel := zh (((hb.out.alloc hb.out.size (.cells #[.int .u8 (bits BinOp.and .u8 (m % 256) 127)] 5)).grown hgrow (by have := hb.out.size; simp; omega) (fun k hk => (hown.out.lt k hk).1))); have hcv := conv_own hown2))
      go_ret; refine ⟨?_, hbel.out⟩; rw [hc.out, lebS_last (by omega)]; rfl
def b1 (n : Int) : UInt8 := UInt8.ofNat (n % 256).toNat
def uB (n : Int) : List UInt8 := lebU (n % 18446744073709551616).toNat
theorem b1_val (n : Int) : n % 256 = ((b1 n).toNat : Int) := by unfold b1; rw [UInt8.toNat_ofNat']; omega
theorem uB_len (n : Int) : (uB n).length ≤ 10 := lebU_ten (by omega)
theorem strl_mks_len (l : List UInt8) : (mks l).size = l.length := rfl
theorem Tr.cell {p : Nat} {v v' : Value} {w w' : World} (h : Tr p v v' w w') {a : Addr} {u : Value} (hp : a.block ≠ p) (hv : v.ownBlock ≠ some a.block) (hc : w.cell? a = some u) : w'.cell? a = some u :=
 (World.cell?_of_block (h.block a.block (World.block_lt_of_cell? w a hc) hp hv)).trans hc
def BIn (w : World) (v2 : Value) (l : List UInt8) : Prop :=
 (v2 = .slice none 0 0 ∧ l = []) ∨ ∃ g c, v2 = .slice (some ⟨g, 0, none⟩) l.length c ∧ ∀ j (hj : j < l.length), w.cell? ⟨g, j, none⟩ = some (.int .u8 (l[j].toNat : Int))
theorem BIn.slice {w : World} {v2 : Value} {l : List UInt8} (h : BIn w v2 l) : ∃ a c, v2 = .slice a l.length c := by
 rcases h with ⟨rfl, rfl⟩ | ⟨g, c, rfl, _⟩
 · exact ⟨_, _, rfl⟩
 · exact ⟨_, _, rfl⟩
theorem BIn.conv {w : World} {v2 : Value} {l : List UInt8} (h : BIn w v2 l) : (convert 47 9 v2).run Tryz.prog w = .ok (.string (mks l)) w := by
 rcases h with ⟨rfl, rfl⟩ | ⟨g, c, rfl, hc⟩
 · exact run_convert_bytes_nil w 47 5 Tryz.underlying47 Tryz.underlying5 0 0 9 Tryz.underlying9
 · exact run_convert_bytes_back w 47 9 5 ⟨g, 0, none⟩ c l Tryz.underlying47 Tryz.underlying5 Tryz.underlying9 (fun j hj => by simpa [Addr.add_lit] using hc j hj)
theorem BIn.tr {p : Nat} {v v' : Value} {w w' : World} {v2 : Value} {l : List UInt8} (h : BIn w v2 l) (ht : Tr p v v' w w') (hp : v2.ownBlock ≠ some p) (hv : ∀ g, v2.ownBlock = some g → v.ownBlock ≠ some g) : BIn w' v2 l := by
 rcases h with h | ⟨g, c, rfl, hc⟩
 · exact .inl h
 · exact .inr ⟨g, c, rfl, fun j hj => ht.cell (fun e => hp (by rw [← e]; rfl)) (hv g rfl) (hc j hj)⟩
theorem BIn.own {w : World} {base : Nat} {v : Value} {l : List UInt8} (h : w.ownsRow base 5 1 v l.length (cb l)) : BIn w v l := by
 rcases h.2 with ⟨rfl, h0⟩ | ⟨g, cap, cur, rfl, _⟩
 · exact .inl ⟨rfl, List.eq_nil_of_length_eq_zero h0⟩
 · exact .inr ⟨g, cap, rfl, fun j hj => by
    have := h.cells (g := g) rfl j (.int .u8 (l[j].toNat : Int)) (by simp [cb, hj]); simpa [Addr.add_lit] using this⟩
section
variable {N p : Nat} {w : World} {mv : List Value} {v : Value} {s : WS}
theorem byte_any (h : WAt N p w mv v s) (n : Int) (hb : s.n + 1 ≤ 4611686018427387904) :
 Calls Tryz.prog 26 #[.pointer (some ⟨p, 0, none⟩), .int .i64 n] w fun e w' => e = .returned (.tuple #[]) ∧ WOut N p w mv v (put [b1 n] s) w' := by
 have hbel := (Below.refl w.heap.size w).alloc (Nat.le_refl _) (.cells #[.int .u8 (n % 256)] 5); have h1 := zh (h.below hbel)
 have hcv : (convert 47 9 (.slice (some ⟨w.heap.size, 0, none⟩) 1 1)).run Tryz.prog (w.alloc (.cells #[.int .u8 (n % 256)] 5)) = .ok (.string (mks [b1 n])) (w.alloc (.cells #[.int .u8 (n % 256)] 5)) :=
  BIn.conv (l := [b1 n]) (.inr ⟨w.heap.size, 1, rfl, fun j hj => by
   have : j = 0 := (by simpa using hj)
   subst this; rw [World.cell?_alloc_at _ _ _ _ rfl, b1_val]; rfl⟩)
 have ht1 := zh (Tr.of_below (p := p) (v := v) hbel); clear h hbel; go_enter Tryz.func26, Tryz.ntmps26; go_wp2_with fail; refine (text_any h1.out (mks [b1 n]) (by rw [strl_mks_len]; exact hb)).mono ?_; rintro e w2 ⟨rfl, ho⟩; go_wp2; go_end0; exact ⟨rfl, WOut.trans ht1.out ho⟩
theorem u_any (h : WAt N p w mv v s) (n : Int) (hb : s.n + 10 ≤ 4611686018427387904) :
 Calls Tryz.prog 40 #[.pointer (some ⟨p, 0, none⟩), .int .i64 n] w fun e w' => e = .returned (.tuple #[]) ∧ WOut N p w mv v (put (uB n) s) w' := by
 have hl := uB_len n; replace h := zh h; obtain ⟨k, hk⟩ : ∃ k : Nat, n % 18446744073709551616 = (k : Int) := ⟨(n % 18446744073709551616).toNat, by omega⟩
 have hk2 : k < 18446744073709551616 := (by omega)
 have hu : uB n = lebU k := (by unfold uB; rw [hk]; rfl)
 rw [hu] at hl ⊢; clear hu; have hwk : IntKind.u64.wrap n = (k : Int) := (by rw [IntKind.wrap_u64, hk])
 go_enter Tryz.func40, Tryz.ntmps40; go_wp2_with fail; refine (putU_any k hk2 w).mono ?_; rintro e w1 ⟨rfl, hb1⟩; replace hb1 := zh hb1; go_wp2_with fail; refine (text_any (h.out.below hb1.out) (mks (lebU k)) (by rw [strl_mks_len]; omega)).mono ?_; rintro e w2 ⟨rfl, ho⟩; go_wp2; go_end0; exact ⟨rfl, WOut.trans (Tr.of_below hb1.out) ho⟩
theorem long_any (h : WAt N p w mv v s) (v2 : Value) (l : List UInt8) (hr : BIn w v2 l) (hp : v2.ownBlock ≠ some p) (hv : ∀ g, v2.ownBlock = some g → v.ownBlock ≠ some g) (hb : s.n + 10 + l.length ≤ 4611686018427387904) :
 Calls Tryz.prog 27 #[.pointer (some ⟨p, 0, none⟩), v2] w fun e w' => e = .returned (.tuple #[]) ∧ WOut N p w mv v (put l (put (uB l.length) s)) w' := by
 obtain ⟨a, c, rfl⟩ := hr.slice; have hl := uB_len l.length; have hlow := h.low; replace h := zh h; replace hr := zh hr; replace hp := zh hp; replace hv := zh hv; go_enter Tryz.func27, Tryz.ntmps27; go_wp2_with fail; refine (u_any h.out l.length (by omega)).mono ?_; rintro e w1 ⟨rfl, v1, h1, t1⟩; have hcv := (hr.out.tr t1 hp.out hv.out).conv; replace h1 := zh h1; replace t1 := zh t1; go_wp2_with fail; refine (text_any h1.out (mks l) (by rw [put_n, strl_mks_len]; omega)).mono ?_; rintro e w2 ⟨rfl, ho⟩; go_wp2; go_end0; exact ⟨rfl, WOut.trans t1.out ho⟩
end
def numsC (l : List Int) : List (List UInt8) := uB l.length :: l.map uB
def bytsC (l : List Int) : List (List UInt8) := uB l.length :: l.map fun n => [b1 n]
theorem tot_map {α : Type} (f : α → List UInt8) (c : Nat) (hf : ∀ x, (f x).length ≤ c) : ∀ l : List α, tot (l.map f) ≤ c * l.length
 | [] => by simp [tot]
 | x :: l => by
   have := tot_map f c hf l; have h2 := hf x; rw [List.map_cons, tot, List.length_cons, Nat.mul_add]; omega
theorem puts_take {α : Type} {f : α → List UInt8} {l : List α} {i : Nat} {x : α} (hx : l[i]? = some x) (s : WS) : puts ((l.take (i + 1)).map f) s = put (f x) (puts ((l.take i).map f) s) := by rw [List.take_add_one, hx, List.map_append, puts_append]; rfl
theorem numsC_tot (l : List Int) : tot (numsC l) ≤ 10 + 10 * l.length := by have := tot_map uB 10 (fun x => uB_len x) l; have := uB_len l.length; simp only [numsC, tot]; omega
theorem bytsC_tot (l : List Int) : tot (bytsC l) ≤ 10 + l.length := by have := tot_map (fun n : Int => [b1 n]) 1 (fun x => by simp) l; have := uB_len l.length; simp only [bytsC, tot]; omega
def Vw (V : World) (p : Nat) (v : Value) (w : World) : Prop := ∀ a u, V.cell? a = some u → w.cell? a = some u ∧ a.block ≠ p ∧ v.ownBlock ≠ some a.block
theorem Vw.keeps {V w : World} {p : Nat} {v : Value} (h : Vw V p v w) : ∀ a u, V.cell? a = some u → w.cell? a = some u := fun a u hc => (h a u hc).1
theorem Vw.tr {V w w' : World} {p : Nat} {v v' : Value} (h : Vw V p v w) (ht : Tr p v v' w w') : Vw V p v' w' := fun a u hc => by
 obtain ⟨h1, h2, h3⟩ := h a u hc; refine ⟨ht.cell h2 h3 h1, h2, ?_⟩
 rcases ht.own with e | e
 · rw [e]; exact h3
 · intro e2; have := e _ e2; have := World.block_lt_of_cell? w a h1; omega
theorem IntsIn.old {w0 w : World} {p : Nat} {v : Value} {a : Option Addr} {l : List Int} (h : IntsIn w0 a l) (hb : Vw w0 p v w) : IntsIn w a l := h.keep hb.keeps
theorem Vw.old {V w : World} {p : Nat} {mv : List Value} {v : Value} {s : WS} (h : WAt V.heap.size p w mv v s) (hb : Below V.heap.size V w) : Vw V p v w := fun a u hc => by
 have hlt := World.block_lt_of_cell? V a hc; have hN := h.hN; refine ⟨keep_below hb a u hc, by omega, fun e => ?_⟩; have := h.ownN _ e; omega
section
variable {N : Nat} {w0 : World} {p : Nat} {w : World} {mv : List Value} {v : Value} {s : WS}
theorem numbers_any (h : WAt N p w mv v s) (hb : Vw w0 p v w) (l : List Int) (a : Option Addr) (c : Nat) (hi : IntsIn w0 a l) (hn : s.n + 10 + 10 * l.length ≤ 4611686018427387904) :
 Calls Tryz.prog 44 #[.pointer (some ⟨p, 0, none⟩), .slice a l.length c] w fun e w' => e = .returned (.tuple #[]) ∧ WOut N p w mv v (puts (numsC l) s) w' := by
 obtain ⟨n, hl⟩ : ∃ n, l.length = n := ⟨_, rfl⟩
 have hl63 := hi.1; have hlow := h.low; have hul := uB_len (n : Int); rw [hl] at hn hl63 ⊢; replace h := zh h; replace hb := zh hb; replace hi := zh hi; go_enter Tryz.func44, Tryz.ntmps44; go_wp2_with fail; refine (u_any h.out n (by omega)).mono ?_; rintro e w1 ⟨rfl, v1, h1, t1⟩; replace h1 := zh h1; replace t1 := zh t1; go_wp2_with fail; go_loopw [12] (fun vi wr => ∃ (i : Nat) (v2 : Value), i ≤ n ∧ vi = .int .i64 i ∧ Hid (WAt N p wr mv v2 (puts ((l.take i).map uB) (put (uB n) s))) ∧ Hid (Tr p v v2 w wr)) (fun vi _ => n - (intOf vi).toNat)
 case atStart => exact ⟨0, v1, Nat.zero_le _, rfl, zh h1.out, t1⟩
 case round =>
  obtain ⟨i, v2, hle, rfl, h2, t2⟩ := hrel
  by_cases hlt : i < n
  · obtain ⟨x, hx⟩ : ∃ x, l[i]? = some x := ⟨_, List.getElem?_eq_getElem (by omega)⟩
    obtain ⟨b, o, rfl, hc⟩ := (hi.out.old (hb.out.tr t2.out)).cell hx; have hst := zh (puts_take (f := uB) hx (put (uB n) s)); have htot := tot_map uB 10 (fun x => uB_len x) (l.take i); have htl : (l.take i).length = i := (by rw [List.length_take]; omega)
    rw [htl] at htot; clear hx htl; go_wp2_with fail; refine (u_any h2.out x (by rw [puts_n, put_n]; omega)).mono ?_; rintro e w3 ⟨rfl, v3, h3, t3⟩; rw [← hst.out] at h3; have hfb := zh (t2.out.trans t3); clear hst htot t3; go_wp2; exact ⟨⟨i + 1, v3, by omega, by simp, zh h3, hfb⟩, by simp [intOf]; omega⟩
  · have hin : i = n := (by omega)
    have hv : puts (numsC l) s = puts ((l.take i).map uB) (put (uB n) s) := (by rw [numsC, puts, List.take_of_length_le (by omega), hl])
    replace hv := zh hv; go_wp2; go_end0; exact ⟨rfl, by rw [hv.out]; exact ⟨v2, h2.out, t2.out⟩⟩
theorem bytes_any (h : WAt N p w mv v s) (hb : Vw w0 p v w) (l : List Int) (a : Option Addr) (c : Nat) (hi : IntsIn w0 a l) (hn : s.n + 10 + 1 * l.length ≤ 4611686018427387904) :
 Calls Tryz.prog 41 #[.pointer (some ⟨p, 0, none⟩), .slice a l.length c] w fun e w' => e = .returned (.tuple #[]) ∧ WOut N p w mv v (puts (bytsC l) s) w' := by
 obtain ⟨n, hl⟩ : ∃ n, l.length = n := ⟨_, rfl⟩
 have hl63 := hi.1; have hlow := h.low; have hul := uB_len (n : Int); rw [hl] at hn hl63 ⊢; replace h := zh h; replace hb := zh hb; replace hi := zh hi; go_enter Tryz.func41, Tryz.ntmps41; go_wp2_with fail; refine (u_any h.out n (by omega)).mono ?_; rintro e w1 ⟨rfl, v1, h1, t1⟩; replace h1 := zh h1; replace t1 := zh t1; go_wp2_with fail; go_loopw [12] (fun vi wr => ∃ (i : Nat) (v2 : Value), i ≤ n ∧ vi = .int .i64 i ∧ Hid (WAt N p wr mv v2 (puts ((l.take i).map (fun n : Int => [b1 n])) (put (uB n) s))) ∧ Hid (Tr p v v2 w wr)) (fun vi _ => n - (intOf vi).toNat)
 case atStart => exact ⟨0, v1, Nat.zero_le _, rfl, zh h1.out, t1⟩
 case round =>
  obtain ⟨i, v2, hle, rfl, h2, t2⟩ := hrel
  by_cases hlt : i < n
  · obtain ⟨x, hx⟩ : ∃ x, l[i]? = some x := ⟨_, List.getElem?_eq_getElem (by omega)⟩
    obtain ⟨b, o, rfl, hc⟩ := (hi.out.old (hb.out.tr t2.out)).cell hx; have hst := zh (puts_take (f := (fun n : Int => [b1 n])) hx (put (uB n) s)); have htot := tot_map (fun n : Int => [b1 n]) 1 (fun x => by simp) (l.take i); have htl : (l.take i).length = i := (by rw [List.length_take]; omega)
    rw [htl] at htot; clear hx htl; go_wp2_with fail; refine (byte_any h2.out x (by rw [puts_n, put_n]; omega)).mono ?_; rintro e w3 ⟨rfl, v3, h3, t3⟩; rw [← hst.out] at h3; have hfb := zh (t2.out.trans t3); clear hst htot t3; go_wp2; exact ⟨⟨i + 1, v3, by omega, by simp, zh h3, hfb⟩, by simp [intOf]; omega⟩
  · have hin : i = n := (by omega)
    have hv : puts (bytsC l) s = puts ((l.take i).map (fun n : Int => [b1 n])) (put (uB n) s) := (by rw [bytsC, puts, List.take_of_length_le (by omega), hl])
    replace hv := zh hv; go_wp2; go_end0; exact ⟨rfl, by rw [hv.out]; exact ⟨v2, h2.out, t2.out⟩⟩
end
end Go.Proofs.YtanpjbbhhofkfaaGreatDoor
