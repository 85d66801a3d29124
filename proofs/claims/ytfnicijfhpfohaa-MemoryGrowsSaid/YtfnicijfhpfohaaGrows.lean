/- The walk of MemoryGrows. -/
import Derived.Test.YtfnicijfhpfohaaP2
import Derived.Test.YtfnicijfhpfohaaG
namespace Go.Proofs.Ytfnicijfhpfohaa
open Go.RowKit Go.ChangeShapes Go.WideShapes Go.ChangeAt

set_option maxHeartbeats 4000000 in
theorem grows_core (at_ v n k more : Nat) (hk : at_ % 65529 = k) (hmore : n % 40 = more) (hn : n ≤ 255) (hat : at_ < 18446744073709551616) (hv : v < 18446744073709551616) (w : World) :
    Calls Try.prog 6 #[.int .u64 at_, .int .u64 v, .int .u8 n] w fun e w' => e = .returned (.bool true) ∧ Below w.heap.size w w' := by
  have hk2 : k < 65529 := by omega
  have hk3 : (at_ : Int) % 65529 = (k : Int) := by omega
  have hm2 : more < 40 := by omega
  have hm3 : (n : Int) % 40 = (more : Int) := by omega
  have HK := Lib.hid hk
  have HK3 := Lib.hid hk3
  have HM := Lib.hid hmore
  have HM3 := Lib.hid hm3
  clear hk hk3 hmore hm3
  have hcase : more = 0 ∨ (1 ≤ more ∧ more ≤ 31) ∨ (31 < more) := by omega
  have H0 := zeros_length 1
  have i0 : inB (zeros 1).length k 8 = true := inB_true rfl (by rw [H0]; omega)
  have l0 : loadOut (storeOut (zeros 1) k 8 v) k 8 = v := by
    have := load_store (zeros 1) k 8 v i0
    rw [Nat.mod_eq_of_lt (by omega)] at this
    exact this
  have n0 : (storeOut (zeros 1) k 8 v).length = 65536 := by rw [storeOut_length, H0]
  rcases hcase with rfl | hc | hc
  all_goals
    go_enter Try.func6, Try.ntmps6
    go_wp2_with fail
    refine (new_any 1 0 1 false _ rfl (by omega)).mono ?_
    rintro e w1 ⟨p, q, rfl, hnew⟩
    have hmem : MemAt w1 p q (1 * 65536) (zeros 1) 1 32 := hnew.mem
    have hchg := hnew.chg
    have hpn := hnew.p_new
    have hqn := hnew.q_new
    clear hnew
    have HL := Lib.hid l0
    have HN := Lib.hid n0
    have HI := Lib.hid i0
    clear l0 n0 i0
    go_wp2_with fail
    refine (store_mem p q _ _ _ _ _ _ _ k v _ hmem HK3.out rfl (by omega) (by omega)).mono ?_
    rintro e w2 ⟨rfl, hst⟩
    have hmem2 := hst.mem
    have hchg2 := hchg.comp hst.chg (by simp) (by simpa using hqn)
    clear hst hmem hchg
    have l1 := HL.out
    have n1 := HN.out
    clear HL HN HI H0
    generalize storeOut (zeros 1) k 8 v = l at *
    have L1 := Lib.hid l1
    have N1 := Lib.hid n1
    clear l1 n1
    go_wp2_with fail
    refine (fork_any p q _ _ _ _ _ hmem2).mono ?_
    rintro e w3 ⟨fp, fq, fcap, rfl, hf⟩
    have hfm := hf.mem
    have hpf : p < w2.heap.size := hmem2.lt
    have hqf : q < w2.heap.size := hmem2.row.lt
    have hfp := hf.p_new
    have hfq := hf.q_new
    have hmem3 := hmem2.kept hf.chg (by simp) (by simp)
    have hchg3 := hchg2.trans hf.chg
    clear hf hmem2 hchg2
    go_wp2_with fail
    refine (grow_any p q _ _ _ _ _ _ _ hmem3 HM3.out).mono ?_
    rintro e w4 ⟨rfl, q4, cap4, hg⟩
    have hmem4 := hg.mem
    have hf4 := hfm.kept hg.chg (by simp; omega) (by simp; omega)
    have hchg4 := hchg3.comp hg.chg (by simp) (by simp; omega)
    clear hg hmem3 hfm hchg3
  · have L2 : Hid (loadOut (growLen l 1 32 0) k 8 = v ∧ loadOut l k 8 = v) := ⟨(load_append l (zeros 0) k 8 (by rw [N1.out]; omega)).trans L1.out, L1.out⟩
    have J : Hid (inB (growLen l 1 32 0).length k 8 = true ∧ inB (growLen l 1 32 0).length 65536 8 = false ∧ inB l.length k 8 = true ∧ loadOut (growLen l 1 32 0) 65536 8 = 0) := by
      have e : (growLen l 1 32 0).length = 65536 := by show (l ++ zeros 0).length = 65536; rw [List.length_append, N1.out]; rfl
      refine ⟨inB_true rfl (by rw [e]; omega), by rw [e]; decide +kernel, inB_true rfl (by rw [N1.out]; omega), load_out _ _ _ (by rw [e]; decide +kernel)⟩
    have hr : growOut 1 32 0 = 1 := rfl
    have hp0 : growPg 1 32 0 = 1 := rfl
    rw [hp0] at hmem4
    clear hp0
    clear L1 N1
    generalize growLen l 1 32 0 = l4 at *
    generalize growOut 1 32 0 = r at *
    go_wp2_with fail
    refine (load_mem p q4 _ _ _ _ _ _ k _ hmem4 HK3.out (by omega) (by omega)).mono ?_
    rintro e w5 ⟨rfl, rfl⟩
    go_wp2_with fail
    refine (load_mem p q4 _ _ _ _ _ _ 65536 _ hmem4 rfl (by omega) (by omega)).mono ?_
    rintro e w5 ⟨rfl, rfl⟩
    go_wp2_with fail
    refine (load_mem fp fq _ _ _ _ _ _ k _ hf4 HK3.out (by omega) (by omega)).mono ?_
    rintro e w5 ⟨rfl, rfl⟩
    have l1 := L2.out
    have j1 := J.out
    have HMc := HM3.out
    clear HK HK3 HM HM3
    go_wp2_with fail
    refine (pages_any p q4 _ _ _ _ _ hmem4).mono ?_
    rintro e w5 ⟨rfl, rfl⟩
    go_wp2_with fail
    refine (pages_any fp fq _ _ _ _ _ hf4).mono ?_
    rintro e w5 ⟨rfl, rfl⟩
    go_wp2_with fail
    refine (wakes_any _).mono ?_
    rintro e w5 ⟨rfl, hc5⟩
    go_wp2_with fail
    go_ret
    exact ⟨rfl, (hchg4.trans hc5).below (Nat.le_refl _) (by simp)⟩
  · have eg : growLen l 1 32 more = l ++ zeros more := by unfold growLen; rw [if_pos (by omega)]
    have hr : growOut 1 32 more = 1 := by unfold growOut; rw [if_pos (by omega)]; rfl
    have hp0 : growPg 1 32 more = 1 + more := by unfold growPg; rw [if_pos (by omega)]
    have L2 : Hid (loadOut (growLen l 1 32 more) k 8 = v ∧ loadOut l k 8 = v) := ⟨by rw [eg]; exact (load_append l (zeros more) k 8 (by rw [N1.out]; omega)).trans L1.out, L1.out⟩
    have J : Hid (inB (growLen l 1 32 more).length k 8 = true ∧ inB (growLen l 1 32 more).length 65536 8 = true ∧ inB l.length k 8 = true ∧ loadOut (growLen l 1 32 more) 65536 8 = 0) := by
      have e : (growLen l 1 32 more).length = 65536 + more * 65536 := by rw [eg, List.length_append, N1.out, zeros_length]
      refine ⟨inB_true rfl (by rw [e]; omega), inB_true rfl (by rw [e]; omega), inB_true rfl (by rw [N1.out]; omega), ?_⟩
      have := load_zeros l more 8
      rw [N1.out] at this
      rw [eg]
      exact this
    rw [hp0] at hmem4
    clear hp0 eg
    clear L1 N1
    generalize growLen l 1 32 more = l4 at *
    generalize growOut 1 32 more = r at *
    go_wp2_with fail
    refine (load_mem p q4 _ _ _ _ _ _ k _ hmem4 HK3.out (by omega) (by omega)).mono ?_
    rintro e w5 ⟨rfl, rfl⟩
    go_wp2_with fail
    refine (load_mem p q4 _ _ _ _ _ _ 65536 _ hmem4 rfl (by omega) (by omega)).mono ?_
    rintro e w5 ⟨rfl, rfl⟩
    go_wp2_with fail
    refine (load_mem fp fq _ _ _ _ _ _ k _ hf4 HK3.out (by omega) (by omega)).mono ?_
    rintro e w5 ⟨rfl, rfl⟩
    have l1 := L2.out
    have j1 := J.out
    have HMc := HM3.out
    clear HK HK3 HM HM3
    go_wp2_with fail
    refine (pages_any p q4 _ _ _ _ _ hmem4).mono ?_
    rintro e w5 ⟨rfl, rfl⟩
    go_wp2_with fail
    refine (pages_any fp fq _ _ _ _ _ hf4).mono ?_
    rintro e w5 ⟨rfl, rfl⟩
    go_wp2_with fail
    refine (wakes_any _).mono ?_
    rintro e w5 ⟨rfl, hc5⟩
    go_wp2_with fail
    go_ret
    exact ⟨rfl, (hchg4.trans hc5).below (Nat.le_refl _) (by simp)⟩
  · have eg : growLen l 1 32 more = l := by unfold growLen; rw [if_neg (by omega)]
    have hr : growOut 1 32 more = -1 := by unfold growOut; rw [if_neg (by omega)]
    have hp0 : growPg 1 32 more = 1 := by unfold growPg; rw [if_neg (by omega)]
    have L2 : Hid (loadOut (growLen l 1 32 more) k 8 = v ∧ loadOut l k 8 = v) := ⟨by rw [eg]; exact L1.out, L1.out⟩
    have J : Hid (inB (growLen l 1 32 more).length k 8 = true ∧ inB (growLen l 1 32 more).length 65536 8 = false ∧ inB l.length k 8 = true ∧ loadOut (growLen l 1 32 more) 65536 8 = 0) := by
      have e : (growLen l 1 32 more).length = 65536 := by rw [eg, N1.out]
      refine ⟨inB_true rfl (by rw [e]; omega), by rw [e]; decide +kernel, inB_true rfl (by rw [N1.out]; omega), load_out _ _ _ (by rw [e]; decide +kernel)⟩
    rw [hp0] at hmem4
    clear hp0 eg
    clear L1 N1
    generalize growLen l 1 32 more = l4 at *
    generalize growOut 1 32 more = r at *
    go_wp2_with fail
    refine (load_mem p q4 _ _ _ _ _ _ k _ hmem4 HK3.out (by omega) (by omega)).mono ?_
    rintro e w5 ⟨rfl, rfl⟩
    go_wp2_with fail
    refine (load_mem p q4 _ _ _ _ _ _ 65536 _ hmem4 rfl (by omega) (by omega)).mono ?_
    rintro e w5 ⟨rfl, rfl⟩
    go_wp2_with fail
    refine (load_mem fp fq _ _ _ _ _ _ k _ hf4 HK3.out (by omega) (by omega)).mono ?_
    rintro e w5 ⟨rfl, rfl⟩
    have l1 := L2.out
    have j1 := J.out
    have HMc := HM3.out
    clear HK HK3 HM HM3
    go_wp2_with fail
    refine (pages_any p q4 _ _ _ _ _ hmem4).mono ?_
    rintro e w5 ⟨rfl, rfl⟩
    go_wp2_with fail
    refine (wakes_any _).mono ?_
    rintro e w5 ⟨rfl, hc5⟩
    go_wp2_with fail
    go_ret
    exact ⟨rfl, (hchg4.trans hc5).below (Nat.le_refl _) (by simp)⟩
theorem grows_walk {H : Type} {enc : TypeId × Value → H} (W : World) (base : Nat)
    (v0 : Value) (d0 : DataW H) (p0 : List MemPlace) (o0 : Value.okWide Try.prog W .any base 22 v0) (h0 : DataW.Trod enc Try.prog W 0 (fun _ => true) true 22 v0 d0 p0)
    (v1 : Value) (d1 : DataW H) (p1 : List MemPlace) (o1 : Value.okWide Try.prog W .any base 22 v1) (h1 : DataW.Trod enc Try.prog W 0 (fun _ => true) true 22 v1 d1 p1)
    (v2 : Value) (d2 : DataW H) (p2 : List MemPlace) (o2 : Value.okWide Try.prog W .any base 5 v2) (h2 : DataW.Trod enc Try.prog W 0 (fun _ => true) true 5 v2 d2 p2) :
    Calls Try.prog 6 #[v0, v1, v2] W fun e W' => e = .returned (.bool true) ∧ Below W.heap.size W W' := by
  obtain ⟨a0, rfl, rfl, rfl, w0⟩ := open_int Try.underlying22 o0 h0
  obtain ⟨a1, rfl, rfl, rfl, w1⟩ := open_int Try.underlying22 o1 h1
  obtain ⟨a2, rfl, rfl, rfl, w2⟩ := open_int Try.underlying5 o2 h2
  have b0 := bounds_u64 w0
  have b1 := bounds_u64 w1
  have b2 := bounds_u8 w2
  obtain ⟨x0, rfl⟩ := Int.eq_ofNat_of_zero_le b0.1
  obtain ⟨x1, rfl⟩ := Int.eq_ofNat_of_zero_le b1.1
  obtain ⟨x2, rfl⟩ := Int.eq_ofNat_of_zero_le b2.1
  exact grows_core x0 x1 x2 _ _ rfl rfl (by omega) (by omega) (by omega) W
end Go.Proofs.Ytfnicijfhpfohaa
