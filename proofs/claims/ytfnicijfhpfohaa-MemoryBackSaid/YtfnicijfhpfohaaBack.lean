/- The walk of MemoryBack. -/
import Derived.Test.YtfnicijfhpfohaaBackP
import Derived.Lib.SmallJoins
namespace Go.Proofs.Ytfnicijfhpfohaa
open Go.RowKit Go.ChangeShapes Go.WideShapes Go.ChangeAt Go.Joins

def BackIs (w : World) (p q : Nat) (K g n : Nat) (w0 : World) : Prop := ∃ l, MemAt w p q (1 * 65536) l 1 32 ∧ Filled l K g n ∧ Chg w0 w []

theorem back_start {w w1 : World} {p q K g : Nat} (hmem : MemAt w1 p q (1 * 65536) (zeros 1) 1 32) (hc : Chg w w1 []) : BackIs w1 p q K g (8 * 0) w :=
  ⟨_, hmem, ⟨zeros_length 1, fun t ht => by omega⟩, hc⟩
theorem back_round {w wr w' : World} {p q K g j : Nat} {l : List Nat} (hf : Filled l K g (8 * j)) (hc : Chg w wr []) (hq : w.heap.size ≤ q) (hb : K + 8 * j + 8 ≤ 65536)
    (hs : StoredMem wr w' p q (1 * 65536) (storeOut l (K + 8 * j) 8 g) 1 32) : BackIs w' p q K g (8 * (j + 1)) w :=
  ⟨_, hs.mem, filled_step l K g j hf hb, hc.comp hs.chg (by simp) (by simpa using hq)⟩

theorem back_facts1 (l : List Nat) (K g v : Nat) (hf : Filled l K g (8 * 4)) (hk2 : K < 65000) (hg : g < 18446744073709551616) (_hv : v < 18446744073709551616) :
    loadOut l K 8 = g ∧ loadOut (storeOut l (K + 8) 1 v) K 8 = g ∧ ((loadOut (storeOut l (K + 8) 1 v) (K + 8) 1 : Nat) : Int) = (v : Int) % 256 ∧ ((loadOut (storeOut l (K + 8) 1 v) (K + 8 + 1) 1 : Nat) : Int) = (g : Int) / 256 % 256 ∧
      inB l.length (K + 8) 1 = true ∧ inB (storeOut l (K + 8) 1 v).length (K + 8) 1 = true := by
  have e1 := back_before l K g hf hk2 hg
  obtain ⟨e2, e3, e4⟩ := back_after l K g 1 v hf hk2 hg rfl
  have hl := hf.len
  have hl2 := storeOut_length l (K + 8) 1 v
  refine ⟨e1, e2, ?_, ?_, inB_true rfl (by omega), inB_true rfl (by omega)⟩
  · have : loadOut (storeOut l (K + 8) 1 v) (K + 8) 1 = v % 256 := e3
    omega
  · have : loadOut (storeOut l (K + 8) 1 v) (K + 8 + 1) 1 = g / 256 % 256 := e4
    omega
theorem back_facts2 (l : List Nat) (K g v : Nat) (hf : Filled l K g (8 * 4)) (hk2 : K < 65000) (hg : g < 18446744073709551616) (_hv : v < 18446744073709551616) :
    loadOut l K 8 = g ∧ loadOut (storeOut l (K + 8) 2 v) K 8 = g ∧ ((loadOut (storeOut l (K + 8) 2 v) (K + 8) 2 : Nat) : Int) = (v : Int) % 65536 ∧ ((loadOut (storeOut l (K + 8) 2 v) (K + 8 + 2) 1 : Nat) : Int) = (g : Int) / 65536 % 256 ∧
      inB l.length (K + 8) 2 = true ∧ inB (storeOut l (K + 8) 2 v).length (K + 8) 2 = true := by
  have e1 := back_before l K g hf hk2 hg
  obtain ⟨e2, e3, e4⟩ := back_after l K g 2 v hf hk2 hg rfl
  have hl := hf.len
  have hl2 := storeOut_length l (K + 8) 2 v
  refine ⟨e1, e2, ?_, ?_, inB_true rfl (by omega), inB_true rfl (by omega)⟩
  · have : loadOut (storeOut l (K + 8) 2 v) (K + 8) 2 = v % 65536 := e3
    omega
  · have : loadOut (storeOut l (K + 8) 2 v) (K + 8 + 2) 1 = g / 65536 % 256 := e4
    omega
theorem back_facts4 (l : List Nat) (K g v : Nat) (hf : Filled l K g (8 * 4)) (hk2 : K < 65000) (hg : g < 18446744073709551616) (_hv : v < 18446744073709551616) :
    loadOut l K 8 = g ∧ loadOut (storeOut l (K + 8) 4 v) K 8 = g ∧ ((loadOut (storeOut l (K + 8) 4 v) (K + 8) 4 : Nat) : Int) = (v : Int) % 4294967296 ∧ ((loadOut (storeOut l (K + 8) 4 v) (K + 8 + 4) 1 : Nat) : Int) = (g : Int) / 4294967296 % 256 ∧
      inB l.length (K + 8) 4 = true ∧ inB (storeOut l (K + 8) 4 v).length (K + 8) 4 = true := by
  have e1 := back_before l K g hf hk2 hg
  obtain ⟨e2, e3, e4⟩ := back_after l K g 4 v hf hk2 hg rfl
  have hl := hf.len
  have hl2 := storeOut_length l (K + 8) 4 v
  refine ⟨e1, e2, ?_, ?_, inB_true rfl (by omega), inB_true rfl (by omega)⟩
  · have : loadOut (storeOut l (K + 8) 4 v) (K + 8) 4 = v % 4294967296 := e3
    omega
  · have : loadOut (storeOut l (K + 8) 4 v) (K + 8 + 4) 1 = g / 4294967296 % 256 := e4
    omega
theorem back_facts8 (l : List Nat) (K g v : Nat) (hf : Filled l K g (8 * 4)) (hk2 : K < 65000) (hg : g < 18446744073709551616) (_hv : v < 18446744073709551616) :
    loadOut l K 8 = g ∧ loadOut (storeOut l (K + 8) 8 v) K 8 = g ∧ ((loadOut (storeOut l (K + 8) 8 v) (K + 8) 8 : Nat) : Int) = (v : Int) ∧ ((loadOut (storeOut l (K + 8) 8 v) (K + 8 + 8) 1 : Nat) : Int) = (g : Int) % 256 ∧
      inB l.length (K + 8) 8 = true ∧ inB (storeOut l (K + 8) 8 v).length (K + 8) 8 = true := by
  have e1 := back_before l K g hf hk2 hg
  obtain ⟨e2, e3, e4⟩ := back_after l K g 8 v hf hk2 hg rfl
  have hl := hf.len
  have hl2 := storeOut_length l (K + 8) 8 v
  refine ⟨e1, e2, ?_, ?_, inB_true rfl (by omega), inB_true rfl (by omega)⟩
  · have : loadOut (storeOut l (K + 8) 8 v) (K + 8) 8 = v % 18446744073709551616 := e3
    omega
  · have : loadOut (storeOut l (K + 8) 8 v) (K + 8 + 8) 1 = g / 1 % 256 := e4
    omega

set_option maxRecDepth 100000 in
set_option maxHeartbeats 4000000 in
theorem back_core (at_ v g : Nat) (sz : Int) (K : Nat) (hk : at_ % 65000 = K) (hat : at_ < 18446744073709551616) (hv : v < 18446744073709551616) (hg : g < 18446744073709551616) (hsz : sz ≤ 9223372036854775807) (w : World)
    (hcase : sz = 1 ∨ sz = 2 ∨ sz = 4 ∨ sz = 8 ∨ ((sz == 1) = false ∧ (sz == 2) = false ∧ (sz == 4) = false ∧ (sz == 8) = false ∧ (sz != 1) = true ∧ (sz != 2) = true ∧ (sz != 4) = true ∧ (sz != 8) = true)) :
    Calls Try.prog 3 #[.agg #[.int .u64 at_, .int .i64 sz, .int .u64 v, .int .u64 g]] w fun e w' => e = .returned (.bool true) ∧ Below w.heap.size w w' := by
  have hk2 : K < 65000 := by omega
  have hk3 : (at_ : Int) % 65000 = (K : Int) := by omega
  have HK := Lib.hid hk
  clear hk
  have HK3 := Lib.hid hk3
  clear hk3
  rcases hcase with rfl | rfl | rfl | rfl | ⟨t1, t2, t3, t4, t5, t6, t7, t8⟩
  · go_enter Try.func3, Try.ntmps3
    go_wp2
    go_quiet (fail)
    go_wp2_with fail
    refine (new_any 1 0 1 false _ rfl (by omega)).mono ?_
    rintro e w1 ⟨p, q, rfl, hnew⟩
    have hmem : MemAt w1 p q (1 * 65536) (zeros 1) 1 32 := hnew.mem
    have hchg : Chg w w1 [] := (((Chg.refl w []).alloc _).drewN nq).trans hnew.chg
    have hqn : w.heap.size ≤ q := by have := hnew.q_new; simp at this; omega
    clear hnew
    go_wp2_with fail
    go_loopw [10] (fun i wr => ∃ j : Nat, j ≤ 4 ∧ i = .int .u64 j ∧ BackIs wr p q K g (8 * j) w) (fun i _ => 4 - (intOf i).toNat)
    case atStart => exact ⟨0, by omega, rfl, back_start hmem hchg⟩
    case round =>
      obtain ⟨j, hj, rfl, l, hm, hf, hc⟩ := hrel
      clear hmem hchg
      by_cases hlt : j < 4
      · go_wp2_with (go_at_call 9; refine (store_mem p q _ _ _ _ _ 8 _ (K + 8 * j) g _ hm (by have := HK3.out; omega) rfl (by omega) (by omega)).mono ?_; rintro e w2 ⟨rfl, hst⟩)
        go_roundw
        case rel => exact ⟨j + 1, by omega, by go_num, back_round hf hc hqn (by omega) hst⟩
        case measure => simp [intOf]; omega
      · obtain rfl : j = 4 := by omega
        obtain ⟨F1, F2, F3, F4, F5, F6⟩ := back_facts1 l K g v hf hk2 hg hv
        have E := Lib.hid (And.intro F1 (And.intro F2 (And.intro F3 (And.intro F4 (And.intro F5 F6)))))
        clear F1 F2 F3 F4 F5 F6
        go_wp2_with fail
        refine (load_mem p q _ _ _ _ _ 8 K _ hm (by have := HK3.out; omega) (by omega) (by omega)).mono ?_
        rintro e w2 ⟨rfl, rfl⟩
        go_wp2_with fail
        refine (store_mem p q _ _ _ _ _ _ _ (K + 8) v _ hm (by have := HK3.out; omega) rfl (by omega) (by omega)).mono ?_
        rintro e w2 ⟨rfl, hst⟩
        have hm2 := hst.mem
        have hc2 := hc.comp hst.chg (by simp) (by simpa using hqn)
        clear hst hm hc hf
        have E2 := E.out
        clear E
        generalize storeOut l (K + 8) 1 v = l2 at *
        have E := Lib.hid E2
        clear E2
        go_wp2_with fail
        refine (load_mem p q _ _ _ _ _ 8 K _ hm2 (by have := HK3.out; omega) (by omega) (by omega)).mono ?_
        rintro e w3 ⟨rfl, rfl⟩
        go_wp2_with fail
        refine (load_mem p q _ _ _ _ _ _ (K + 8) _ hm2 (by have := HK3.out; omega) (by omega) (by omega)).mono ?_
        rintro e w3 ⟨rfl, rfl⟩
        obtain ⟨F1, F2, F3, F4, F5, F6⟩ := E.out
        clear E
        go_wp2_with fail
        refine (load_mem p q _ _ _ _ _ 1 (K + 8 + 1) _ hm2 (by have := HK3.out; omega) (by omega) (by omega)).mono ?_
        rintro e w3 ⟨rfl, rfl⟩
        go_wp2_with fail
        refine (wakes_any _).mono ?_
        rintro e w3 ⟨rfl, hc3⟩
        go_wp2_with fail
        go_ret
        exact ⟨rfl, (hc2.trans hc3).below (Nat.le_refl _) (by simp)⟩
  · go_enter Try.func3, Try.ntmps3
    go_wp2
    go_quiet (fail)
    go_wp2_with fail
    refine (new_any 1 0 1 false _ rfl (by omega)).mono ?_
    rintro e w1 ⟨p, q, rfl, hnew⟩
    have hmem : MemAt w1 p q (1 * 65536) (zeros 1) 1 32 := hnew.mem
    have hchg : Chg w w1 [] := (((Chg.refl w []).alloc _).drewN nq).trans hnew.chg
    have hqn : w.heap.size ≤ q := by have := hnew.q_new; simp at this; omega
    clear hnew
    go_wp2_with fail
    go_loopw [10] (fun i wr => ∃ j : Nat, j ≤ 4 ∧ i = .int .u64 j ∧ BackIs wr p q K g (8 * j) w) (fun i _ => 4 - (intOf i).toNat)
    case atStart => exact ⟨0, by omega, rfl, back_start hmem hchg⟩
    case round =>
      obtain ⟨j, hj, rfl, l, hm, hf, hc⟩ := hrel
      clear hmem hchg
      by_cases hlt : j < 4
      · go_wp2_with (go_at_call 9; refine (store_mem p q _ _ _ _ _ 8 _ (K + 8 * j) g _ hm (by have := HK3.out; omega) rfl (by omega) (by omega)).mono ?_; rintro e w2 ⟨rfl, hst⟩)
        go_roundw
        case rel => exact ⟨j + 1, by omega, by go_num, back_round hf hc hqn (by omega) hst⟩
        case measure => simp [intOf]; omega
      · obtain rfl : j = 4 := by omega
        obtain ⟨F1, F2, F3, F4, F5, F6⟩ := back_facts2 l K g v hf hk2 hg hv
        have E := Lib.hid (And.intro F1 (And.intro F2 (And.intro F3 (And.intro F4 (And.intro F5 F6)))))
        clear F1 F2 F3 F4 F5 F6
        go_wp2_with fail
        refine (load_mem p q _ _ _ _ _ 8 K _ hm (by have := HK3.out; omega) (by omega) (by omega)).mono ?_
        rintro e w2 ⟨rfl, rfl⟩
        go_wp2_with fail
        refine (store_mem p q _ _ _ _ _ _ _ (K + 8) v _ hm (by have := HK3.out; omega) rfl (by omega) (by omega)).mono ?_
        rintro e w2 ⟨rfl, hst⟩
        have hm2 := hst.mem
        have hc2 := hc.comp hst.chg (by simp) (by simpa using hqn)
        clear hst hm hc hf
        have E2 := E.out
        clear E
        generalize storeOut l (K + 8) 2 v = l2 at *
        have E := Lib.hid E2
        clear E2
        go_wp2_with fail
        refine (load_mem p q _ _ _ _ _ 8 K _ hm2 (by have := HK3.out; omega) (by omega) (by omega)).mono ?_
        rintro e w3 ⟨rfl, rfl⟩
        go_wp2_with fail
        refine (load_mem p q _ _ _ _ _ _ (K + 8) _ hm2 (by have := HK3.out; omega) (by omega) (by omega)).mono ?_
        rintro e w3 ⟨rfl, rfl⟩
        obtain ⟨F1, F2, F3, F4, F5, F6⟩ := E.out
        clear E
        go_wp2_with fail
        refine (load_mem p q _ _ _ _ _ 1 (K + 8 + 2) _ hm2 (by have := HK3.out; omega) (by omega) (by omega)).mono ?_
        rintro e w3 ⟨rfl, rfl⟩
        go_wp2_with fail
        refine (wakes_any _).mono ?_
        rintro e w3 ⟨rfl, hc3⟩
        go_wp2_with fail
        go_ret
        exact ⟨rfl, (hc2.trans hc3).below (Nat.le_refl _) (by simp)⟩
  · go_enter Try.func3, Try.ntmps3
    go_wp2
    go_quiet (fail)
    go_wp2_with fail
    refine (new_any 1 0 1 false _ rfl (by omega)).mono ?_
    rintro e w1 ⟨p, q, rfl, hnew⟩
    have hmem : MemAt w1 p q (1 * 65536) (zeros 1) 1 32 := hnew.mem
    have hchg : Chg w w1 [] := (((Chg.refl w []).alloc _).drewN nq).trans hnew.chg
    have hqn : w.heap.size ≤ q := by have := hnew.q_new; simp at this; omega
    clear hnew
    go_wp2_with fail
    go_loopw [10] (fun i wr => ∃ j : Nat, j ≤ 4 ∧ i = .int .u64 j ∧ BackIs wr p q K g (8 * j) w) (fun i _ => 4 - (intOf i).toNat)
    case atStart => exact ⟨0, by omega, rfl, back_start hmem hchg⟩
    case round =>
      obtain ⟨j, hj, rfl, l, hm, hf, hc⟩ := hrel
      clear hmem hchg
      by_cases hlt : j < 4
      · go_wp2_with (go_at_call 9; refine (store_mem p q _ _ _ _ _ 8 _ (K + 8 * j) g _ hm (by have := HK3.out; omega) rfl (by omega) (by omega)).mono ?_; rintro e w2 ⟨rfl, hst⟩)
        go_roundw
        case rel => exact ⟨j + 1, by omega, by go_num, back_round hf hc hqn (by omega) hst⟩
        case measure => simp [intOf]; omega
      · obtain rfl : j = 4 := by omega
        obtain ⟨F1, F2, F3, F4, F5, F6⟩ := back_facts4 l K g v hf hk2 hg hv
        have E := Lib.hid (And.intro F1 (And.intro F2 (And.intro F3 (And.intro F4 (And.intro F5 F6)))))
        clear F1 F2 F3 F4 F5 F6
        go_wp2_with fail
        refine (load_mem p q _ _ _ _ _ 8 K _ hm (by have := HK3.out; omega) (by omega) (by omega)).mono ?_
        rintro e w2 ⟨rfl, rfl⟩
        go_wp2_with fail
        refine (store_mem p q _ _ _ _ _ _ _ (K + 8) v _ hm (by have := HK3.out; omega) rfl (by omega) (by omega)).mono ?_
        rintro e w2 ⟨rfl, hst⟩
        have hm2 := hst.mem
        have hc2 := hc.comp hst.chg (by simp) (by simpa using hqn)
        clear hst hm hc hf
        have E2 := E.out
        clear E
        generalize storeOut l (K + 8) 4 v = l2 at *
        have E := Lib.hid E2
        clear E2
        go_wp2_with fail
        refine (load_mem p q _ _ _ _ _ 8 K _ hm2 (by have := HK3.out; omega) (by omega) (by omega)).mono ?_
        rintro e w3 ⟨rfl, rfl⟩
        go_wp2_with fail
        refine (load_mem p q _ _ _ _ _ _ (K + 8) _ hm2 (by have := HK3.out; omega) (by omega) (by omega)).mono ?_
        rintro e w3 ⟨rfl, rfl⟩
        obtain ⟨F1, F2, F3, F4, F5, F6⟩ := E.out
        clear E
        go_wp2_with fail
        refine (load_mem p q _ _ _ _ _ 1 (K + 8 + 4) _ hm2 (by have := HK3.out; omega) (by omega) (by omega)).mono ?_
        rintro e w3 ⟨rfl, rfl⟩
        go_wp2_with fail
        refine (wakes_any _).mono ?_
        rintro e w3 ⟨rfl, hc3⟩
        go_wp2_with fail
        go_ret
        exact ⟨rfl, (hc2.trans hc3).below (Nat.le_refl _) (by simp)⟩
  · go_enter Try.func3, Try.ntmps3
    go_wp2
    go_quiet (fail)
    go_wp2_with fail
    refine (new_any 1 0 1 false _ rfl (by omega)).mono ?_
    rintro e w1 ⟨p, q, rfl, hnew⟩
    have hmem : MemAt w1 p q (1 * 65536) (zeros 1) 1 32 := hnew.mem
    have hchg : Chg w w1 [] := (((Chg.refl w []).alloc _).drewN nq).trans hnew.chg
    have hqn : w.heap.size ≤ q := by have := hnew.q_new; simp at this; omega
    clear hnew
    go_wp2_with fail
    go_loopw [10] (fun i wr => ∃ j : Nat, j ≤ 4 ∧ i = .int .u64 j ∧ BackIs wr p q K g (8 * j) w) (fun i _ => 4 - (intOf i).toNat)
    case atStart => exact ⟨0, by omega, rfl, back_start hmem hchg⟩
    case round =>
      obtain ⟨j, hj, rfl, l, hm, hf, hc⟩ := hrel
      clear hmem hchg
      by_cases hlt : j < 4
      · go_wp2_with (go_at_call 9; refine (store_mem p q _ _ _ _ _ 8 _ (K + 8 * j) g _ hm (by have := HK3.out; omega) rfl (by omega) (by omega)).mono ?_; rintro e w2 ⟨rfl, hst⟩)
        go_roundw
        case rel => exact ⟨j + 1, by omega, by go_num, back_round hf hc hqn (by omega) hst⟩
        case measure => simp [intOf]; omega
      · obtain rfl : j = 4 := by omega
        obtain ⟨F1, F2, F3, F4, F5, F6⟩ := back_facts8 l K g v hf hk2 hg hv
        have E := Lib.hid (And.intro F1 (And.intro F2 (And.intro F3 (And.intro F4 (And.intro F5 F6)))))
        clear F1 F2 F3 F4 F5 F6
        go_wp2_with fail
        refine (load_mem p q _ _ _ _ _ 8 K _ hm (by have := HK3.out; omega) (by omega) (by omega)).mono ?_
        rintro e w2 ⟨rfl, rfl⟩
        go_wp2_with fail
        refine (store_mem p q _ _ _ _ _ _ _ (K + 8) v _ hm (by have := HK3.out; omega) rfl (by omega) (by omega)).mono ?_
        rintro e w2 ⟨rfl, hst⟩
        have hm2 := hst.mem
        have hc2 := hc.comp hst.chg (by simp) (by simpa using hqn)
        clear hst hm hc hf
        have E2 := E.out
        clear E
        generalize storeOut l (K + 8) 8 v = l2 at *
        have E := Lib.hid E2
        clear E2
        go_wp2_with fail
        refine (load_mem p q _ _ _ _ _ 8 K _ hm2 (by have := HK3.out; omega) (by omega) (by omega)).mono ?_
        rintro e w3 ⟨rfl, rfl⟩
        go_wp2_with fail
        refine (load_mem p q _ _ _ _ _ _ (K + 8) _ hm2 (by have := HK3.out; omega) (by omega) (by omega)).mono ?_
        rintro e w3 ⟨rfl, rfl⟩
        obtain ⟨F1, F2, F3, F4, F5, F6⟩ := E.out
        clear E
        go_wp2_with fail
        refine (load_mem p q _ _ _ _ _ 1 (K + 8 + 8) _ hm2 (by have := HK3.out; omega) (by omega) (by omega)).mono ?_
        rintro e w3 ⟨rfl, rfl⟩
        go_wp2_with fail
        refine (wakes_any _).mono ?_
        rintro e w3 ⟨rfl, hc3⟩
        go_wp2_with fail
        go_ret
        exact ⟨rfl, (hc2.trans hc3).below (Nat.le_refl _) (by simp)⟩
  · have hns : isSized sz = false := by simp [isSized, t1, t2, t3, t4]
    go_enter Try.func3, Try.ntmps3
    go_wp2
    go_quiet (fail)
    go_wp2_with fail
    refine (new_any 1 0 1 false _ rfl (by omega)).mono ?_
    rintro e w1 ⟨p, q, rfl, hnew⟩
    have hmem : MemAt w1 p q (1 * 65536) (zeros 1) 1 32 := hnew.mem
    have hchg : Chg w w1 [] := (((Chg.refl w []).alloc _).drewN nq).trans hnew.chg
    have hqn : w.heap.size ≤ q := by have := hnew.q_new; simp at this; omega
    clear hnew
    go_wp2_with fail
    go_loopw [10] (fun i wr => ∃ j : Nat, j ≤ 4 ∧ i = .int .u64 j ∧ BackIs wr p q K g (8 * j) w) (fun i _ => 4 - (intOf i).toNat)
    case atStart => exact ⟨0, by omega, rfl, back_start hmem hchg⟩
    case round =>
      obtain ⟨j, hj, rfl, l, hm, hf, hc⟩ := hrel
      clear hmem hchg
      by_cases hlt : j < 4
      · go_wp2_with (go_at_call 9; refine (store_mem p q _ _ _ _ _ 8 _ (K + 8 * j) g _ hm (by have := HK3.out; omega) rfl (by omega) (by omega)).mono ?_; rintro e w2 ⟨rfl, hst⟩)
        go_roundw
        case rel => exact ⟨j + 1, by omega, by go_num, back_round hf hc hqn (by omega) hst⟩
        case measure => simp [intOf]; omega
      · obtain rfl : j = 4 := by omega
        obtain ⟨F1, F2⟩ := back_none l (K + 8) sz v hns
        have F3 : inB l.length (K + 8) sz = false := by simp [inB, hns]
        have E := Lib.hid (And.intro F1 (And.intro F2 F3))
        clear F1 F2 F3
        go_wp2_with fail
        refine (load_mem p q _ _ _ _ _ 8 K _ hm (by have := HK3.out; omega) (by omega) (by omega)).mono ?_
        rintro e w2 ⟨rfl, rfl⟩
        go_wp2_with fail
        refine (store_mem p q _ _ _ _ _ _ _ (K + 8) v _ hm (by have := HK3.out; omega) rfl (by omega) hsz).mono ?_
        rintro e w2 ⟨rfl, hst⟩
        have hm2 := hst.mem
        rw [E.out.1] at hm2
        have hc2 := hc.comp hst.chg (by simp) (by simpa using hqn)
        clear hst hm hc hf
        go_wp2_with fail
        refine (load_mem p q _ _ _ _ _ 8 K _ hm2 (by have := HK3.out; omega) (by omega) (by omega)).mono ?_
        rintro e w3 ⟨rfl, rfl⟩
        go_wp2_with fail
        refine (load_mem p q _ _ _ _ _ _ (K + 8) _ hm2 (by have := HK3.out; omega) (by omega) hsz).mono ?_
        rintro e w3 ⟨rfl, rfl⟩
        obtain ⟨F1, F2, F3⟩ := E.out
        clear E F1
        go_wp2_with fail
        refine (wakes_any _).mono ?_
        rintro e w3 ⟨rfl, hc3⟩
        go_wp2_with fail
        go_ret
        exact ⟨rfl, (hc2.trans hc3).below (Nat.le_refl _) (by simp)⟩
end Go.Proofs.Ytfnicijfhpfohaa
