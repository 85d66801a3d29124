/- DecodeMost. -/
import Derived.Test.YtkbfjkbokifgkaaGreatDoorSs
import Derived.Laws.BytesArg
import Derived.Laws.OwnMore
namespace Go.Proofs.YtkbfjkbokifgkaaGreatDoor
open Go.RowKit
set_option linter.unusedVariables false
set_option linter.unusedSimpArgs false

theorem orR (m : Nat) : bits BinOp.or .u8 ((m : Int) % 256) 128 = ((UInt8.ofNat (m % 128 + 128)).toNat : Int) := by
  have h : ∀ r : Fin 256, bits BinOp.or .u8 ((r.val : Nat) : Int) 128 = ((r.val % 128 + 128 : Nat) : Int) := by decide +kernel
  have := h ⟨m % 256, by omega⟩
  simp only at this
  have e : ((m % 256 : Nat) : Int) = (m : Int) % 256 := by omega
  rw [e] at this
  rw [this]
  have e2 : m % 256 % 128 = m % 128 := by omega
  rw [e2, UInt8.toNat_ofNat']
  congr 1
  omega
theorem sRR {m : Nat} (h : m < 256) : (m : Int) = ((UInt8.ofNat m).toNat : Int) := by
  rw [UInt8.toNat_ofNat']
  congr 1
  omega
theorem convR {w : World} {base : Nat} {v : Value} {n : Nat} {l : List UInt8} (h : w.ownsRow base 5 1 v n (cb l)) : (convert 54 9 v).run Tryz.prog w = .ok (.string (mks l)) w := by
  have hn : l.length = n := by simpa [cb] using h.1
  rcases h.2 with ⟨rfl, h0⟩ | ⟨g, cap, cur, rfl, _⟩
  · have : l = [] := List.eq_nil_of_length_eq_zero (by omega)
    subst this
    exact run_convert_bytes_nil w 54 5 Tryz.underlying54 Tryz.underlying5 0 0 9 Tryz.underlying9
  · subst hn
    exact run_convert_bytes_back w 54 9 5 ⟨g, 0, none⟩ cap l Tryz.underlying54 Tryz.underlying5 Tryz.underlying9 (fun j hj => by
      have := h.cells (g := g) rfl j (.int .u8 (l[j].toNat : Int)) (by simp [cb, hj])
      exact this)
theorem ownR {w w' : World} {B : Nat} {v : Value} {n : Nat} {xs : List Value} (h : w.ownsRow B 5 1 v n xs) (hb : Below w.heap.size w w') : w'.ownsRow B 5 1 v n xs := by
  refine ⟨h.1, ?_⟩
  rcases h.2 with e | ⟨g, cap, cur, e, hg, hh, r⟩
  · exact .inl e
  · exact .inr ⟨g, cap, cur, e, hg, (hb.block g (lt_of_block hh)).trans hh, r⟩
set_option maxRecDepth 100000 in
set_option maxHeartbeats 1000000 in
theorem puR (n : Nat) (hn : n ≤ 1000000) (w : World) :
    Calls Tryz.prog 17 #[.int .u64 n] w fun e w' => (∃ s : ByteArray, e = .returned (.string s) ∧ s.size ≤ n + 1) ∧ Below w.heap.size w w' := by
  obtain ⟨i5, j5, z5, s5, q5⟩ := info5_parts
  go_enter Tryz.func17, Tryz.ntmps17
  go_wp2_with fail
  go_loopw [0, 3] (fun v0 v3 wr => ∃ (m : Nat) (l : List UInt8) (a : Option Addr) (c : Nat), v0 = .int .u64 m ∧ v3 = .slice a l.length c ∧ m + l.length ≤ n ∧ Hid (wr.ownsRow w.heap.size 5 1 (.slice a l.length c) l.length (cb l)) ∧ Hid (Below w.heap.size w wr)) (fun v0 _ _ => (intOf v0).toNat)
  case atStart => exact ⟨n, [], none, 0, rfl, rfl, by simp, Lib.hid (World.ownsRow_nil _ _ _ _), Lib.hid (Below.refl _ _)⟩
  case round =>
    obtain ⟨m, l, a, c, rfl, rfl, hm, ow, hb⟩ := hrel
    by_cases hlt : m < 128
    · go_wp2_with (first | (
        at_builtin; refine wpList_append_lies _ rfl _ _ _ rfl w.heap.size 5 i5 _ 1 1 Tryz.underlying54 j5 z5 s5 q5 rfl (by omega) (.slice a l.length c) l.length (cb l) (by rfl) (ow.out.alloc _) ⟨wr.heap.size, 0, none⟩ 1 1 [.int .u8 (m : Int)] (by rfl) (by rfl) (World.news_of_block (cs := #[.int .u8 (m : Int)]) (t := 5) (fr := (0, 0)) (heap_alloc_new _ _)) (by simp [Value.oneCell']) (by omega) (by unfold maxLen; omega) (by omega) (by have := hb.out.size; simp; omega) (wr.heap.size + 1) (by simp) ?_; intro g cap w1 y1 gr hat q1; rw [sRR (show m < 256 by omega)] at y1; have y2 := Lib.hid (show w1.ownsRow w.heap.size 5 1 (.slice (some ⟨g, 0, none⟩) (l.length + 1) cap) (l.length + 1) (cb (l ++ [UInt8.ofNat m])) from by rw [cb_append]; exact y1); have bl := Lib.hid (((hb.out.alloc hb.out.size (.cells #[.int .u8 (m : Int)] 5)).grown gr (by have := hb.out.size; simp; omega) (fun k hk => (ow.out.lt k hk).1))); clear y1
        have hcv := convR y2.out))
      go_ret
      exact ⟨⟨_, rfl, by rw [mks_size]; simp; omega⟩, bl.out⟩
    · go_wp2_with (first | (
        at_builtin; refine wpList_append_lies _ rfl _ _ _ rfl w.heap.size 5 i5 _ 1 1 Tryz.underlying54 j5 z5 s5 q5 rfl (by omega) (.slice a l.length c) l.length (cb l) (by rfl) (ow.out.alloc _) ⟨wr.heap.size, 0, none⟩ 1 1 [.int .u8 (bits BinOp.or .u8 ((m : Int) % 256) 128)] (by rfl) (by rfl) (World.news_of_block (cs := #[.int .u8 (bits BinOp.or .u8 ((m : Int) % 256) 128)]) (t := 5) (fr := (0, 0)) (heap_alloc_new _ _)) (by simp [Value.oneCell']) (by omega) (by unfold maxLen; omega) (by omega) (by have := hb.out.size; simp; omega) (wr.heap.size + 1) (by simp) ?_; intro g cap w1 y1 gr hat q1; rw [orR m] at y1; have y2 := Lib.hid (show w1.ownsRow w.heap.size 5 1 (.slice (some ⟨g, 0, none⟩) (l.length + 1) cap) (l.length + 1) (cb (l ++ [UInt8.ofNat (m % 128 + 128)])) from by rw [cb_append]; exact y1); have bl := Lib.hid (((hb.out.alloc hb.out.size (.cells #[.int .u8 (bits BinOp.or .u8 ((m : Int) % 256) 128)] 5)).grown gr (by have := hb.out.size; simp; omega) (fun k hk => (ow.out.lt k hk).1))); clear y1))
      exact ⟨⟨m / 128, l ++ [UInt8.ofNat (m % 128 + 128)], some ⟨g, 0, none⟩, cap, by simp, by simp, by simp; omega, Lib.hid (by simpa using y2.out), bl⟩, by simp [intOf]; omega⟩
theorem wU {n : Int} (h : 0 ≤ n ∧ n < 18446744073709551616) : IntKind.u64.wrap n = n := by
  simp [IntKind.wrap, IntKind.bits, IntKind.signed]; omega
def XM (wr : World) : Nat → Value → World → Prop
  | 0, _, w' => w' = wr.drew
  | k + 1, v, w' => ∃ s : ByteArray, v = .string s ∧ s.size ≤ (k + 1) * 200000 ∧ Below wr.heap.size wr w'
theorem XM.below {wr w' : World} {v : Value} : ∀ {k : Nat}, XM wr k v w' → Below wr.heap.size wr w'
  | 0, h => by cases (show w' = wr.drew from h); exact (Below.refl _ _).drew
  | _ + 1, ⟨_, _, _, h⟩ => h
set_option maxRecDepth 100000 in
set_option maxHeartbeats 8000000 in
theorem moA {w : World} (n d : Int) (b : UInt8) (hT : TabU w) : Calls Tryz.prog 6 #[.int .i64 n, .int .i64 d, .int .u8 b.toNat] w fun e w' => e = .returned (.bool true) ∧ Below w.heap.size w w' := by
  by_cases hd : n < 0 ∨ 66000 < n ∨ d < 0 ∨ 80 < d
  case pos =>
    have hc : n < 0 ∨ (¬ n < 0 ∧ 66000 < n) ∨ (¬ n < 0 ∧ ¬ 66000 < n ∧ d < 0) ∨ (¬ n < 0 ∧ ¬ 66000 < n ∧ ¬ d < 0 ∧ 80 < d) := by omega
    clear hd
    have hwk := Lib.hid (wakes_any hT)
    rcases hc with h1 | ⟨h1, h2⟩ | ⟨h1, h2, h3⟩ | ⟨h1, h2, h3, h4⟩
    all_goals
      go_enter Tryz.func6, Tryz.ntmps6
      go_wp2_with fail
      refine hwk.out.mono ?_
      rintro e w1 ⟨rfl, hb1⟩
      go_wp2_with fail
      go_ret
      exact ⟨rfl, hb1⟩
  have mx : Tryz.prog.follows .mixedOrders = true := by kernel_rfl
  obtain ⟨i5, j5, z5, s5, q5⟩ := info5_parts
  obtain ⟨N, rfl⟩ := Int.eq_ofNat_of_zero_le (show 0 ≤ n by omega)
  obtain ⟨D, rfl⟩ := Int.eq_ofNat_of_zero_le (show 0 ≤ d by omega)
  have hN : N ≤ 66000 := by omega
  have hD : D ≤ 80 := by omega
  clear hd
  have h1 : ¬ (N : Int) < 0 := by omega
  have h2 : ¬ (66000 : Int) < N := by omega
  have h3 : ¬ (D : Int) < 0 := by omega
  have h4 : ¬ (80 : Int) < D := by omega
  have hb0 := Lib.hid ((Below.refl w.heap.size w).alloc (Nat.le_refl _) (.cells #[.int .u8 0] 5))
  have hr0 := Lib.hid (World.ownsRow_lit (base := w.heap.size) (e := 5) (size := 1) w #[.int .u8 0] 1 (Nat.le_refl _) (by unfold maxLen; omega) rfl)
  replace hT := Lib.hid hT
  go_enter Tryz.func6, Tryz.ntmps6
  go_wp2_with fail
  go_loopw [7, 8] (fun v7 vi wr => ∃ (k : Nat) (l : List UInt8) (a : Option Addr) (c : Nat), v7 = .slice a l.length c ∧ vi = .int .i64 k ∧ k ≤ N ∧ l.length ≤ k + 1 ∧ Hid (wr.ownsRow w.heap.size 5 1 (.slice a l.length c) l.length (cb l)) ∧ Hid (Below w.heap.size w wr)) (fun _ vi _ => ((N : Int) - intOf vi).toNat)
  case atStart => exact ⟨0, [0], some ⟨w.heap.size, 0, none⟩, 1, rfl, rfl, by omega, by simp, hr0, hb0⟩
  case' round =>
    clear hb0 hr0
    obtain ⟨k, l, a, c, rfl, rfl, hk, hl, ow, hb⟩ := hrel
    by_cases hlt : (k : Int) < (N : Int)
  case pos =>
    have hk2 : k < N := by omega
    go_wp2_with (first | (
      at_builtin; refine wpList_append_lies _ rfl _ _ _ rfl w.heap.size 5 i5 _ 1 1 Tryz.underlying54 j5 z5 s5 q5 rfl (by omega) (.slice a l.length c) l.length (cb l) (by rfl) (ow.out.alloc _) ⟨wr.heap.size, 0, none⟩ 1 1 [.int .u8 1] (by rfl) (by rfl) (World.news_of_block (cs := #[.int .u8 1]) (t := 5) (fr := (0, 0)) (heap_alloc_new _ _)) (by simp [Value.oneCell']) (by omega) (by unfold maxLen; omega) (by omega) (by have := hb.out.size; simp; omega) (wr.heap.size + 1) (by simp) ?_; intro g cap w1 y1 gr hat q1; have y2 := Lib.hid (show w1.ownsRow w.heap.size 5 1 (.slice (some ⟨g, 0, none⟩) (l.length + 1) cap) (l.length + 1) (cb (l ++ [1])) from by rw [cb_append]; exact y1); have bl := Lib.hid (((hb.out.alloc hb.out.size (.cells #[.int .u8 1] 5)).grown gr (by have := hb.out.size; simp; omega) (fun k hk => (ow.out.lt k hk).1))); clear y1))
    go_roundw
    case measure => simp [intOf]; omega
    case rel => exact ⟨k + 1, l ++ [1], some ⟨g, 0, none⟩, cap, by simp, by simp, by omega, by simp; omega, Lib.hid (by simpa using y2.out), bl⟩
  go_wp2_with fail
  go_loopw [7, 9] (fun v7 vi wr => ∃ (k : Nat) (l : List UInt8) (a : Option Addr) (c : Nat), v7 = .slice a l.length c ∧ vi = .int .i64 k ∧ k ≤ D ∧ l.length ≤ 66001 + 2 * k ∧ Hid (wr.ownsRow w.heap.size 5 1 (.slice a l.length c) l.length (cb l)) ∧ Hid (Below w.heap.size w wr)) (fun _ vi _ => ((D : Int) - intOf vi).toNat)
  case atStart => exact ⟨0, l, a, c, rfl, rfl, by omega, by omega, ow, hb⟩
  case' round =>
    clear ow hb hl hk hlt
    obtain ⟨k, l, a, c, rfl, rfl, hk, hl, ow, hb⟩ := hrel
    by_cases hlt : (k : Int) < (D : Int)
  case pos =>
    have hk2 : k < D := by omega
    go_wp2_with (first | (
      at_builtin; refine wpList_append_lies _ rfl _ _ _ rfl w.heap.size 5 i5 _ 1 1 Tryz.underlying54 j5 z5 s5 q5 rfl (by omega) (.slice a l.length c) l.length (cb l) (by rfl) (ow.out.alloc _) ⟨wr.heap.size, 0, none⟩ 2 2 [.int .u8 2, .int .u8 64] (by rfl) (by rfl) (World.news_of_block (cs := #[.int .u8 2, .int .u8 64]) (t := 5) (fr := (0, 0)) (heap_alloc_new _ _)) (by simp [Value.oneCell']) (by omega) (by unfold maxLen; omega) (by omega) (by have := hb.out.size; simp; omega) (wr.heap.size + 1) (by simp) ?_; intro g cap w1 y1 gr hat q1; have y2 := Lib.hid (show w1.ownsRow w.heap.size 5 1 (.slice (some ⟨g, 0, none⟩) (l.length + 2) cap) (l.length + 2) (cb (l ++ [2, 64])) from by rw [cb_append]; exact y1); have bl := Lib.hid (((hb.out.alloc hb.out.size (.cells #[.int .u8 2, .int .u8 64] 5)).grown gr (by have := hb.out.size; simp; omega) (fun k hk => (ow.out.lt k hk).1))); clear y1))
    go_roundw
    case measure => simp [intOf]; omega
    case rel => exact ⟨k + 1, l ++ [2, 64], some ⟨g, 0, none⟩, cap, by simp, by simp, by omega, by simp; omega, Lib.hid (by simpa using y2.out), bl⟩
  go_wp2_with (first | (
      at_builtin; refine wpList_append_lies _ rfl _ _ _ rfl w.heap.size 5 i5 _ 1 1 Tryz.underlying54 j5 z5 s5 q5 rfl (by omega) (.slice a l.length c) l.length (cb l) (by rfl) (ow.out.alloc _) ⟨wr.heap.size, 0, none⟩ 1 1 [.int .u8 (b.toNat : Int)] (by rfl) (by rfl) (World.news_of_block (cs := #[.int .u8 (b.toNat : Int)]) (t := 5) (fr := (0, 0)) (heap_alloc_new _ _)) (by simp [Value.oneCell']) (by omega) (by unfold maxLen; omega) (by omega) (by have := hb.out.size; simp; omega) (wr.heap.size + 1) (by simp) ?_; intro g cap w1 y1 gr hat q1; have y2 := Lib.hid (show w1.ownsRow w.heap.size 5 1 (.slice (some ⟨g, 0, none⟩) (l.length + 1) cap) (l.length + 1) (cb (l ++ [b])) from by rw [cb_append]; exact y1); have bl := Lib.hid (((hb.out.alloc hb.out.size (.cells #[.int .u8 (b.toNat : Int)] 5)).grown gr (by have := hb.out.size; simp; omega) (fun k hk => (ow.out.lt k hk).1))); clear y1))
  have hl2 : (l ++ [b]).length ≤ 66162 := by simp; omega
  clear ow hb hl hk hlt
  go_loopw [7, 10] (fun v7 vi wr => ∃ (k : Nat) (l : List UInt8) (a : Option Addr) (c : Nat), v7 = .slice a l.length c ∧ vi = .int .i64 k ∧ k ≤ D + 1 ∧ l.length ≤ 66162 + k ∧ Hid (wr.ownsRow w.heap.size 5 1 (.slice a l.length c) l.length (cb l)) ∧ Hid (Below w.heap.size w wr)) (fun _ vi _ => ((D : Int) + 1 - intOf vi).toNat)
  case atStart => exact ⟨0, l ++ [b], some ⟨g, 0, none⟩, cap, by simp, rfl, by omega, by omega, Lib.hid (by simpa using y2.out), bl⟩
  case' round =>
    clear y2 bl hl2
    obtain ⟨k, l, a, c, rfl, rfl, hk, hl, ow, hb⟩ := hrel
    by_cases hlt : (k : Int) ≤ (D : Int)
  case pos =>
    have hk2 : k < D + 1 := by omega
    go_wp2_with (first | (
      at_builtin; refine wpList_append_lies _ rfl _ _ _ rfl w.heap.size 5 i5 _ 1 1 Tryz.underlying54 j5 z5 s5 q5 rfl (by omega) (.slice a l.length c) l.length (cb l) (by rfl) (ow.out.alloc _) ⟨wr.heap.size, 0, none⟩ 1 1 [.int .u8 11] (by rfl) (by rfl) (World.news_of_block (cs := #[.int .u8 11]) (t := 5) (fr := (0, 0)) (heap_alloc_new _ _)) (by simp [Value.oneCell']) (by omega) (by unfold maxLen; omega) (by omega) (by have := hb.out.size; simp; omega) (wr.heap.size + 1) (by simp) ?_; intro g cap w1 y1 gr hat q1; have y2 := Lib.hid (show w1.ownsRow w.heap.size 5 1 (.slice (some ⟨g, 0, none⟩) (l.length + 1) cap) (l.length + 1) (cb (l ++ [11])) from by rw [cb_append]; exact y1); have bl := Lib.hid (((hb.out.alloc hb.out.size (.cells #[.int .u8 11] 5)).grown gr (by have := hb.out.size; simp; omega) (fun k hk => (ow.out.lt k hk).1))); clear y1))
    go_roundw
    case measure => simp [intOf]; omega
    case rel => exact ⟨k + 1, l ++ [11], some ⟨g, 0, none⟩, cap, by simp, by simp, by omega, by simp; omega, Lib.hid (by simpa using y2.out), bl⟩
  have hl3 : l.length ≤ 66300 := by omega
  go_upto_region 17 with (fail)
  clear hlt hk hl
  refine wpv_then2 ?_
  intro K hK
  go_cut [11] from 61 to 67 (fun sv wx => ∃ s : ByteArray, sv = .string s ∧ s.size ≤ 400000 ∧ Hid (Below wr.heap.size wr wx))
  case first =>
    refine wp_fv _ 98 rfl (region_steps mx 98 61 7 2 [.slice a l.length c, .int .i64 (l.length : Int), .int .u64 (l.length : Int), undef, .slice a l.length c, .string (mks l), undef] [3, 6, 7] rfl (by kernel_rfl) (by kernel_rfl) (by kernel_rfl) rfl (by kernel_rfl) (XM wr) rfl ?_)
    iterate 7 ((first | refine .quiet rfl rfl ?_ ?_ | refine .chain rfl rfl ?_ ?_); rotate_left)
    refine .last rfl rfl ?_
    any_goals
      intro k' v' f w' hX ho hv K' hK'
      have hcv := convR (ownR ow.out hX.below)
      have hwu : IntKind.u64.wrap (l.length : Int) = l.length := wU (by omega)
      clear hX
      simp [NeedsC, Region.binds] at hv
      have e7 : f 7 = .slice a l.length c := ho.at_ 7 (by decide)
      clear ho
      go_simp
      (try simp (disch := decide) only [fv_t, hv, e7])
      (try go_simp)
      exact hK' _ _ ⟨fv_set _ _, rfl⟩
    · intro v' f w' hX hpv ho hv K' hK'
      obtain ⟨s, rfl, hs, hB⟩ := hX
      have z0 : f 67 = .string s := hpv
      go_simp
      (try simp (disch := decide) only [fv_t, z0])
      (try go_simp)
      refine hK' _ _ ?_
      rw [show Fv 98 f = Fv 98 (ovv _ f 61 7) from congrArg _ ho.eq]
      go_wp2_with fail
      go_meet
      exact ⟨s, rfl, hs, Lib.hid hB⟩
    · intro v' f w' hX hpv ho hv K' hK'
      obtain rfl : w' = wr.drew := hX
      simp [NeedsC, Region.binds] at hv
      go_simp
      (try simp (disch := decide) only [fv_t, hv])
      (try go_simp)
      go_at_call 17
      refine (puR l.length (by omega) wr.drew).mono ?_
      rintro e w4 ⟨⟨s, rfl, hs⟩, hB⟩
      go_simp
      exact hK' _ _ ⟨_, fv_set _ _, s, rfl, by omega, ((Below.refl _ _).drew).trans hB⟩
    · intro v' f w' hX hpv ho hv K' hK'
      obtain ⟨s, rfl, hs, hB⟩ := hX
      simp [NeedsC, Region.binds] at hv
      have z0 : f 64 = .string s := hpv
      have hml : (mks l).size = l.length := mks_size l
      have h9 : s.size ≤ 200000 := hs
      have hif : ¬ 9223372036854775807 < s.size + l.length := by omega
      go_simp
      (try simp (disch := decide) only [fv_t, hv, z0])
      (try go_simp)
      (try rw [if_neg hif])
      (try go_simp)
      exact hK' _ _ ⟨_, fv_set _ _, s ++ mks l, rfl, (show (s ++ mks l).size ≤ 400000 by rw [ByteArray.size_append]; omega), hB⟩
  case' rest =>
    obtain ⟨s, rfl, hs, hbx⟩ := hcut
  refine (hK _ _).2 ?_
  clear hK
  have hbs := Lib.hid (hb.out.trans (hbx.out.mono hb.out.size))
  clear hb hbx ow hl3
  have hsu : IntKind.u64.wrap ((s.size : Int) + 1) = ((s.size + 1 : Nat) : Int) := by rw [wU (by omega)]; omega
  go_wp2_with fail
  rw [show (s.size : Int) + 1 = ((s.size + 1 : Nat) : Int) by omega]
  refine (puR (s.size + 1) (by omega) _).mono ?_
  rintro e w4 ⟨⟨s2, rfl, hs2⟩, hB⟩
  have hb4 := Lib.hid (hbs.out.trans (hB.mono hbs.out.size))
  clear hbs hB
  go_wp2_with fail
  generalize ({ data := #[0, 97, 115, 109, 1, 0, 0, 0, 1, 4, 1, 96, 0, 0, 3, 2, 1, 0, 10] } ++ s2 ++ { data := #[1] } ++ s : ByteArray) = q
  clear hs hs2
  have hT4 := hT.out.below hb4.out
  refine (dec_any (s := q) hT4).mono ?_
  rintro e w1 ⟨hb1', hV⟩
  have hb1 := hb4.out.trans (hb1'.mono hb4.out.size)
  clear hb1' hb4
  obtain ⟨m, n, a0, a1, a2, a3, a4, a5, a6, a7, a8, a9, k0, k1, k2, k3, k4, k5, k6, k7, k8, k9, hg, rfl, hM⟩ := decS_of hV
  unfold mdV
  have hA : Below w1.heap.size w1 (w1.alloc (.cells #[.slice a0 m.types.length k0, .slice a1 m.imports.length k1, .slice a2 m.funcs.length k2, .slice a3 m.tables.length k3, .slice a4 m.mems.length k4, .slice a5 m.globals.length k5, .slice a6 m.exports.length k6, .slice a7 m.start.length k7, .slice a8 m.elems.length k8, .slice a9 m.datas.length k9] 33)) := (Below.refl _ _).alloc (Nat.le_refl _) _
  have hb2 := hb1.trans (hA.mono hb1.size)
  have hM2 := hM.keep (keep_below hA)
  have hK2 := Bk.new w1 [.slice a0 m.types.length k0, .slice a1 m.imports.length k1, .slice a2 m.funcs.length k2, .slice a3 m.tables.length k3, .slice a4 m.mems.length k4, .slice a5 m.globals.length k5, .slice a6 m.exports.length k6, .slice a7 m.start.length k7, .slice a8 m.elems.length k8, .slice a9 m.datas.length k9] 33
  clear hA hM hb1 hV
  replace hg := Lib.hid hg
  replace hb2 := Lib.hid hb2
  replace hM2 := Lib.hid hM2
  replace hK2 := Lib.hid hK2
  go_upto_region 20 with (fail)
  obtain ⟨x, hx⟩ : ∃ x, x = w1.heap.size := ⟨_, rfl⟩
  obtain ⟨w2, hw2⟩ : ∃ w2, w2 = w1.alloc (.cells #[.slice a0 m.types.length k0, .slice a1 m.imports.length k1, .slice a2 m.funcs.length k2, .slice a3 m.tables.length k3, .slice a4 m.mems.length k4, .slice a5 m.globals.length k5, .slice a6 m.exports.length k6, .slice a7 m.start.length k7, .slice a8 m.elems.length k8, .slice a9 m.datas.length k9] 33) := ⟨_, rfl⟩
  rw [← hw2, ← hx]
  rw [← hw2] at hb2 hM2
  rw [← hx, show (w1.alloc (.cells [.slice a0 m.types.length k0, .slice a1 m.imports.length k1, .slice a2 m.funcs.length k2, .slice a3 m.tables.length k3, .slice a4 m.mems.length k4, .slice a5 m.globals.length k5, .slice a6 m.exports.length k6, .slice a7 m.start.length k7, .slice a8 m.elems.length k8, .slice a9 m.datas.length k9].toArray 33)) = w2 from hw2.symm] at hK2
  clear hx hw2
  go_wp2_with fail
  refine (qdecode_any (w := w2) (s := q)).mono ?_
  rintro e w3 ⟨hb3, hV⟩
  obtain ⟨m', n', b0, b1, b2, b3, b4, b5, b6, b7, b8, b9, j0, j1, j2, j3, j4, j5, j6, j7, j8, j9, hg', rfl, hN⟩ := decS_of hV
  obtain ⟨rfl, rfl⟩ := dec_same hg.out hg'
  unfold mdV
  have hA : Below w3.heap.size w3 (w3.alloc (.cells #[.slice b0 m'.types.length j0, .slice b1 m'.imports.length j1, .slice b2 m'.funcs.length j2, .slice b3 m'.tables.length j3, .slice b4 m'.mems.length j4, .slice b5 m'.globals.length j5, .slice b6 m'.exports.length j6, .slice b7 m'.start.length j7, .slice b8 m'.elems.length j8, .slice b9 m'.datas.length j9] 33)) := (Below.refl _ _).alloc (Nat.le_refl _) _
  have hb4 := hb3.trans (hA.mono hb3.size)
  have hM4 := Lib.hid (hM2.out.keep (keep_below hb4))
  have hN4 := Lib.hid (hN.keep (keep_below hA))
  have hK4 := hK2.out.below hb4
  have hL4 := Bk.new w3 [.slice b0 m'.types.length j0, .slice b1 m'.imports.length j1, .slice b2 m'.funcs.length j2, .slice b3 m'.tables.length j3, .slice b4 m'.mems.length j4, .slice b5 m'.globals.length j5, .slice b6 m'.exports.length j6, .slice b7 m'.start.length j7, .slice b8 m'.elems.length j8, .slice b9 m'.datas.length j9] 33
  have hb5 := Lib.hid (hb2.out.trans (hb4.mono hb2.out.size))
  clear hA hM2 hN hb4 hb2 hK2 hV hg hg' hb3
  replace hL4 := Lib.hid hL4
  replace hK4 := Lib.hid hK4
  go_upto_region 21 with (fail)
  obtain ⟨y, hy⟩ : ∃ y, y = w3.heap.size := ⟨_, rfl⟩
  obtain ⟨w4, hw4⟩ : ∃ w4, w4 = w3.alloc (.cells #[.slice b0 m'.types.length j0, .slice b1 m'.imports.length j1, .slice b2 m'.funcs.length j2, .slice b3 m'.tables.length j3, .slice b4 m'.mems.length j4, .slice b5 m'.globals.length j5, .slice b6 m'.exports.length j6, .slice b7 m'.start.length j7, .slice b8 m'.elems.length j8, .slice b9 m'.datas.length j9] 33) := ⟨_, rfl⟩
  rw [← hw4, ← hy]
  rw [← hw4] at hb5 hM4 hN4 hK4
  rw [← hy, show (w3.alloc (.cells [.slice b0 m'.types.length j0, .slice b1 m'.imports.length j1, .slice b2 m'.funcs.length j2, .slice b3 m'.tables.length j3, .slice b4 m'.mems.length j4, .slice b5 m'.globals.length j5, .slice b6 m'.exports.length j6, .slice b7 m'.start.length j7, .slice b8 m'.elems.length j8, .slice b9 m'.datas.length j9].toArray 33)) = w4 from hw4.symm] at hL4
  clear hy hw4
  have K := fun j {u} => @Bk.cell _ _ _ _ hK4.out j u
  have L := fun j {u} => @Bk.cell _ _ _ _ hL4.out j u
  have x0 := K 0 rfl
  have z0 := L 0 rfl
  have x1 := K 1 rfl
  have z1 := L 1 rfl
  have x2 := K 2 rfl
  have z2 := L 2 rfl
  have x3 := K 3 rfl
  have z3 := L 3 rfl
  have x4 := K 4 rfl
  have z4 := L 4 rfl
  have x5 := K 5 rfl
  have z5 := L 5 rfl
  have x6 := K 6 rfl
  have z6 := L 6 rfl
  have x7 := K 7 rfl
  have z7 := L 7 rfl
  have x8 := K 8 rfl
  have z8 := L 8 rfl
  have x9 := K 9 rfl
  have z9 := L 9 rfl
  clear K L
  have hnn : (n' == n') = true := beq_self_eq_true n'
  go_wp2_with fail
  refine (same_true m' a0 k0 a1 k1 a2 k2 a3 k3 a4 k4 a5 k5 a6 k6 a7 k7 a8 k8 a9 k9 b0 j0 b1 j1 b2 j2 b3 j3 b4 j4 b5 j5 b6 j6 b7 j7 b8 j8 b9 j9 _ hM4.out hN4.out).mono ?_
  rintro e w5 ⟨rfl, hb6⟩
  clear x0 z0 x1 z1 x2 z2 x3 z3 x4 z4 x5 z5 x6 z6 x7 z7 x8 z8 x9 z9
  have hT5 := hT.out.below (hb5.out.trans (hb6.mono hb5.out.size))
  have hb7 := Lib.hid (hb5.out.trans (hb6.mono hb5.out.size))
  go_wp2_with fail
  refine (wakes_any hT5).mono ?_
  rintro e w6 ⟨rfl, hb8⟩
  have hb9 := hb7.out.trans (hb8.mono hb7.out.size)
  go_wp2_with fail
  go_ret
  exact ⟨rfl, hb9⟩
set_option maxRecDepth 100000 in
theorem most_walk {H : Type} {enc : TypeId × Value → H} (W : World) (base : Nat) (hT : TabU W)
    (v0 : Value) (d0 : DataW H) (p0 : List MemPlace) (o0 : Value.okWide Tryz.prog W .any base 3 v0) (h0 : DataW.Trod enc Tryz.prog W 0 (fun _ => true) true 3 v0 d0 p0)
    (v1 : Value) (d1 : DataW H) (p1 : List MemPlace) (o1 : Value.okWide Tryz.prog W .any base 3 v1) (h1 : DataW.Trod enc Tryz.prog W 0 (fun _ => true) true 3 v1 d1 p1)
    (v2 : Value) (d2 : DataW H) (p2 : List MemPlace) (o2 : Value.okWide Tryz.prog W .any base 5 v2) (h2 : DataW.Trod enc Tryz.prog W 0 (fun _ => true) true 5 v2 d2 p2) :
    Calls Tryz.prog 6 #[v0, v1, v2] W fun e W' => e = .returned (.bool true) ∧ Below W.heap.size W W' := by
  obtain ⟨n, rfl, rfl, rfl, -⟩ := Go.ChangeShapes.open_int Tryz.underlying3 o0 h0
  obtain ⟨d, rfl, rfl, rfl, -⟩ := Go.ChangeShapes.open_int Tryz.underlying3 o1 h1
  obtain ⟨b, rfl, rfl, rfl, wb⟩ := Go.ChangeShapes.open_int Tryz.underlying5 o2 h2
  have hb : 0 ≤ b ∧ b < 256 := by
    simp [Lit.wf, IntKind.min, IntKind.max, IntKind.signed, IntKind.bits] at wb
    omega
  obtain ⟨k, rfl⟩ := Int.eq_ofNat_of_zero_le hb.1
  have := moA (w := W) n d (UInt8.ofNat k) hT
  rw [← sRR (show k < 256 by omega)] at this
  exact this

end Go.Proofs.YtkbfjkbokifgkaaGreatDoor
