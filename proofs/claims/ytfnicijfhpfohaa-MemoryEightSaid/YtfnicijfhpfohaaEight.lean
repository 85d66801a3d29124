/- The walk of MemoryEight. -/
import Derived.Test.YtfnicijfhpfohaaP2
import Derived.Test.YtfnicijfhpfohaaF
namespace Go.Proofs.Ytfnicijfhpfohaa
open Go.RowKit Go.ChangeShapes Go.WideShapes Go.ChangeAt

theorem get_store (l : List Nat) (k v : Nat) (h : k + 8 ≤ l.length) : ((storeOut l k 8 v).drop k).take 8 = bytesOf v 8 := by
  have hi : inB l.length k 8 = true := inB_true rfl (by omega)
  unfold storeOut
  rw [if_pos hi]
  have hl := bytesOf_length v 8
  show ((putAt l k (bytesOf v 8)).drop k).take 8 = _
  unfold putAt
  have ht : (l.take k).length = k := by simp; omega
  rw [List.append_assoc, List.drop_append_of_le_length (by omega), List.drop_of_length_le (by omega), List.nil_append, List.take_append_of_le_length (by omega), List.take_of_length_le (by omega)]

theorem eight_low (l : List Nat) (k v : Nat) (h : (l.drop k).take 8 = bytesOf v 8) (hl : k + 8 ≤ l.length) : loadOut l k 4 = v % 4294967296 ∧ loadOut l (k + 4) 4 = v / 4294967296 % 4294967296 := by
  have h4 : (l.drop k).take 4 = bytesOf v 4 := by
    have : ((l.drop k).take 8).take 4 = (l.drop k).take 4 := by rw [List.take_take]; rfl
    rw [← this, h]; rfl
  have h5 : (l.drop (k + 4)).take 4 = bytesOf (v / 4294967296) 4 := by
    have : ((l.drop k).take 8).drop 4 = (l.drop (k + 4)).take 4 := by rw [List.drop_take, List.drop_drop]
    rw [← this, h]
    simp only [bytesOf, List.drop_succ_cons, List.drop_zero, Nat.div_div_eq_div_mul]
  refine ⟨?_, ?_⟩
  · unfold loadOut
    rw [if_pos (inB_true rfl (by omega))]
    show numOf ((l.drop k).take 4) = _
    rw [h4, numOf_bytesOf]
  · unfold loadOut
    rw [if_pos (inB_true rfl (by omega))]
    show numOf ((l.drop (k + 4)).take 4) = _
    rw [h5, numOf_bytesOf]

theorem text_size (l : List Nat) : (textOf l).size = l.length := by
  unfold textOf
  rw [strOfNums_size, List.length_map]

theorem text_get (l : List Nat) (i : Nat) (h : i < (textOf l).size) (hb : ∀ x ∈ l, x < 256) (h2 : i < l.length) : ((textOf l)[i]'h).toNat = l[i] := by
  have e : (textOf l).data.toList = l.map fun x : Nat => UInt8.ofNat x := by
    unfold textOf; rw [strOfNums_data, List.map_map]; rfl
  have : (textOf l)[i]'h = UInt8.ofNat (l[i]) := by
    show (textOf l).data[i]'_ = _
    rw [← Array.getElem_toList]
    simp only [e, List.getElem_map]
  rw [this]
  have hx := hb _ (List.getElem_mem h2)
  simp [UInt8.toNat_ofNat']
  omega

set_option maxHeartbeats 1000000 in
theorem eight_core (at_ v k : Nat) (hk : at_ % 65529 = k) (hat : at_ < 18446744073709551616) (hv : v < 18446744073709551616) (w : World) :
    Calls Try.prog 5 #[.int .u64 at_, .int .u64 v] w fun e w' => e = .returned (.bool true) ∧ Below w.heap.size w w' := by
  have hk2 : k < 65529 := by omega
  have hk3 : (at_ : Int) % 65529 = (k : Int) := by omega
  have HK := Lib.hid hk
  clear hk
  have H0 := zeros_length 1
  have i0 : inB (zeros 1).length k 8 = true := inB_true rfl (by rw [H0]; omega)
  have l0 : ((storeOut (zeros 1) k 8 v).drop k).take 8 = bytesOf v 8 := get_store _ _ _ (by rw [H0]; omega)
  have n0 : (storeOut (zeros 1) k 8 v).length = 65536 := by rw [storeOut_length, H0]
  have HL := Lib.hid l0
  have HN := Lib.hid n0
  have HI := Lib.hid i0
  clear l0 n0 i0 H0
  go_enter Try.func5, Try.ntmps5
  go_wp2_with fail
  refine (new_any 1 1 1 true _ rfl (by omega)).mono ?_
  rintro e w1 ⟨p, q, rfl, hnew⟩
  have hmem : MemAt w1 p q (1 * 65536) (zeros 1) 1 1 := hnew.mem
  have hchg := hnew.chg
  have hpn := hnew.p_new
  have hqn := hnew.q_new
  clear hnew
  go_wp2_with fail
  refine (store_mem p q _ _ _ _ _ _ _ k v _ hmem rfl rfl (by omega) (by omega)).mono ?_
  rintro e w2 ⟨rfl, hst⟩
  have hmem2 := hst.mem
  have hchg2 := hchg.comp hst.chg (by simp) (by simpa using hqn)
  clear hst hmem hchg
  have i1 := HI.out
  have n1 := HN.out
  have l1 := HL.out
  rw [i1]
  generalize storeOut (zeros 1) k 8 v = l at *
  have hlow := eight_low l k v l1 (by omega)
  have T : Hid (∃ t : ByteArray, textOut l k 8 = t ∧ t.size = 8 ∧ ∀ i (h : i < t.size), i < 8 → (t[i]'h).toNat = v / 256 ^ i % 256) := by
    have e : textOut l k 8 = textOf (bytesOf v 8) := by
      unfold textOut
      have : inT l.length k 8 = true := by simp [inT]; omega
      rw [if_pos this]
      show textOf ((l.drop k).take 8) = _
      rw [l1]
    refine ⟨_, rfl, by rw [e, text_size, bytesOf_length], ?_⟩
    rw [e]
    intro i h hi
    rw [text_get _ i h (bytesOf_lt v 8) (by rw [bytesOf_length]; omega)]
    have := bytesOf_getElem v 8 i hi
    rw [List.getElem?_eq_getElem (by rw [bytesOf_length]; omega)] at this
    exact Option.some.inj this
  have it : inT l.length k 8 = true := by simp [inT]; omega
  have i2 : inB l.length k 4 = true := inB_true rfl (by omega)
  have i3 : inB l.length (k + 4) 4 = true := inB_true rfl (by omega)
  clear HL HN HI i1 n1 l1
  obtain ⟨A, hA⟩ : ∃ A, loadOut l k 4 = A := ⟨_, rfl⟩
  obtain ⟨B, hB⟩ : ∃ B, loadOut l (k + 4) 4 = B := ⟨_, rfl⟩
  rw [hA, hB] at hlow
  obtain ⟨t, ht, htl, htg⟩ := T.out
  clear T
  have hA2 : A < 4294967296 := by omega
  have hB2 : B < 4294967296 := by omega
  have hAB : ((A : Int) + B * 4294967296 != v) = false := by simp; omega
  have HLow := Lib.hid hlow
  have HTg := Lib.hid htg
  clear hlow htg
  go_wp2_with fail
  refine (load_mem p q _ _ _ _ _ _ k _ hmem2 rfl (by omega) (by omega)).mono ?_
  rintro e w3 ⟨rfl, rfl⟩
  go_wp2_with fail
  refine (load_mem p q _ _ _ _ _ _ (k + 4) _ hmem2 (by omega) (by omega) (by omega)).mono ?_
  rintro e w3 ⟨rfl, rfl⟩
  go_wp2_with fail
  refine (text_any p q _ _ _ _ _ _ _ hmem2 (by omega) (by omega) (by omega)).mono ?_
  rintro e w3 ⟨rfl, rfl⟩
  go_wp2_with fail
  go_loop [15] (fun i => ∃ j : Nat, j ≤ 8 ∧ i = .int .i64 j) (fun i => 8 - (intOf i).toNat)
  case atStart => exact ⟨0, by omega, rfl⟩
  case round =>
    obtain ⟨j, hj, rfl⟩ := hrel
    by_cases hlt : j < 8
    · have hjt : j < t.size := by omega
      have hg := HTg.out j hjt hlt
      have htest : (((t[j]'hjt).toNat : Int) != (v : Int) / 2 ^ (8 * j) % 256) = false := by
        have e := store_val v j (by omega)
        rw [IntKind.wrap_u8] at e
        rw [e, hg]
        exact bne_self_eq_false _
      clear hg
      go_wp2
      go_round
      case rel => exact ⟨j + 1, by omega, by go_num⟩
      case measure => simp [intOf]; omega
    · obtain rfl : j = 8 := by omega
      clear HTg HLow hAB
      go_wp2_with fail
      refine (grow_any p q _ _ _ _ _ 1 _ hmem2 rfl).mono ?_
      rintro e w3 ⟨rfl, q3, cap3, hg⟩
      have hmem3 : MemAt w3 p q3 cap3 (growLen l 1 1 1) 1 1 := hg.mem
      have hq3 : w.heap.size ≤ q3 := by rcases hg.new with h | h <;> have := hchg2.size <;> omega
      have hchg3 := hchg2.comp hg.chg (by simp) (by simp; omega)
      have go1 : growOut 1 1 1 = -1 := rfl
      clear hg hmem2 hchg2
      generalize growLen l 1 1 1 = l3 at *
      go_wp2_with fail
      refine (grow_any p q3 _ _ _ _ _ 0 _ hmem3 rfl).mono ?_
      rintro e w4 ⟨rfl, q4, cap4, hg⟩
      have hchg4 := hchg3.comp hg.chg (by simp) (by simp; omega)
      have go2 : growOut 1 1 0 = 1 := rfl
      clear hg hmem3 hchg3
      go_wp2_with fail
      refine (wakes_any _).mono ?_
      rintro e w5 ⟨rfl, hc5⟩
      go_wp2_with fail
      go_ret
      exact ⟨rfl, (hchg4.trans hc5).below (Nat.le_refl _) (by simp)⟩

theorem eight_walk {H : Type} {enc : TypeId × Value → H} (W : World) (base : Nat)
    (v0 : Value) (d0 : DataW H) (p0 : List MemPlace) (o0 : Value.okWide Try.prog W .any base 22 v0) (h0 : DataW.Trod enc Try.prog W 0 (fun _ => true) true 22 v0 d0 p0)
    (v1 : Value) (d1 : DataW H) (p1 : List MemPlace) (o1 : Value.okWide Try.prog W .any base 22 v1) (h1 : DataW.Trod enc Try.prog W 0 (fun _ => true) true 22 v1 d1 p1) :
    Calls Try.prog 5 #[v0, v1] W fun e W' => e = .returned (.bool true) ∧ Below W.heap.size W W' := by
  obtain ⟨a0, rfl, rfl, rfl, w0⟩ := open_int Try.underlying22 o0 h0
  obtain ⟨a1, rfl, rfl, rfl, w1⟩ := open_int Try.underlying22 o1 h1
  have b0 := bounds_u64 w0
  have b1 := bounds_u64 w1
  obtain ⟨x0, rfl⟩ := Int.eq_ofNat_of_zero_le b0.1
  obtain ⟨x1, rfl⟩ := Int.eq_ofNat_of_zero_le b1.1
  exact eight_core x0 x1 _ rfl (by omega) (by omega) W
end Go.Proofs.Ytfnicijfhpfohaa
