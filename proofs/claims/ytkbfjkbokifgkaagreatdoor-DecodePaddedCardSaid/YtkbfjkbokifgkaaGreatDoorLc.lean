/- leb.groups: what it tells. -/
import Derived.Test.YtkbfjkbokifgkaaGreatDoorGa
import Derived.Test.YtkbfjkbokifgkaaGreatDoorDp
import Derived.Deep.LoopGhost
import Derived.BigRegion
import Derived.Lib.Hide
namespace Go.Proofs.YtkbfjkbokifgkaaGreatDoor
open Go.RowKit
set_option linter.unusedVariables false
set_option linter.unusedSimpArgs false
theorem and_127 (b : UInt8) : bits BinOp.and .u8 (b.toNat : Int) 127 = ((b.toNat % 128 : Nat) : Int) := by
 have h : ∀ r : Fin 256, bits BinOp.and .u8 ((r.val : Nat) : Int) 127 = ((r.val % 128 : Nat) : Int) := (by decide +kernel)
 exact h ⟨b.toNat, b.toNat_lt⟩
theorem wrap_u64_nat (m : Nat) : IntKind.u64.wrap (m : Int) = ((m % 18446744073709551616 : Nat) : Int) := by simp [IntKind.wrap, IntKind.bits, IntKind.signed]
theorem or_group {n x j : Nat} (hn : n < 2 ^ (7 * j)) (hx : x < 128) (hj : j ≤ 9) :
 bits BinOp.or .u64 ((n % 18446744073709551616 : Nat) : Int) (IntKind.u64.wrap ((x : Int) * 2 ^ ((7 * j : Nat) : Int).toNat)) = (((n + 2 ^ (7 * j) * x) % 18446744073709551616 : Nat) : Int) := by
 have e : ((x : Int) * 2 ^ ((7 * j : Nat) : Int).toNat) = ((x * 2 ^ (7 * j) : Nat) : Int) := by rw [Int.toNat_natCast]; push_cast; rfl
 rw [e, wrap_u64_nat, u64_or_nat _ _ (Nat.mod_lt _ (by decide)) (Nat.mod_lt _ (by decide)), group_more hn hx hj, Nat.mul_comm]
theorem al_new' (w : World) (o : Obj) {k : Nat} (h : k = w.heap.size) : (w.alloc o).heap[k]? = some o := by
 subst h
 show (w.heap.push o)[_]? = _
 simp
def from_ (s : ByteArray) (a : Nat) : List UInt8 := (strl s).drop a
theorem from_at (s : ByteArray) (a i : Nat) : (from_ s a)[i]? = (strl s)[a + i]? := by unfold from_; rw [List.getElem?_drop]
theorem from_len (s : ByteArray) (a : Nat) : (from_ s a).length = s.size - a := by unfold from_; rw [List.length_drop, strl_length]
theorem str_get {s : ByteArray} {k : Nat} (h : k < s.size) : (strl s)[k]? = some s[k] := by unfold strl; rw [List.getElem?_eq_getElem (by simpa using h)]; rfl
theorem GrpAt.drew {w : World} {g : Nat} {s : ByteArray} {a n many last most : Int} (h : GrpAt w g s a n many last most) : GrpAt w.drew g s a n many last most := ⟨h.b0, h.b1, h.b2, h.b3, h.b4, h.b5⟩
def GrpOut (K : Nat) (s : ByteArray) (a : Nat) (w : World) (e : Ending) (w' : World) : Prop :=
 Below w.heap.size w w' ∧ ((∃ n c, ∃ b : UInt8, grp K (from_ s a) = some (n, c) ∧ 1 ≤ c ∧ c ≤ K ∧ a + c ≤ s.size ∧ n = gv ((from_ s a).take c) ∧ (from_ s a)[c - 1]? = some b ∧ e = .returned (.tuple #[.int .u64 ((n % 18446744073709551616 : Nat) : Int), .int .i64 (7 * (c : Int)), .int .u8 (b.toNat : Int), .int .i64 ((a + c : Nat) : Int), .int .i64 0])) ∨
  (grp K (from_ s a) = none ∧ e = .returned (.tuple #[.int .u64 0, .int .i64 0, .int .u8 0, .int .i64 0, .int .i64 10])))
theorem below_gtr {g : Nat} {w w1 w2 : World} (h : Below g w w1) (k : GTr g w1 w2) (hg : g ≤ w1.heap.size) : Below g w w2 :=
 ⟨k.os.trans h.os, k.tape.trans h.tape, k.output.trans h.output, Nat.le_trans h.size k.size, fun i hi => (k.block i (by omega) (.inl hi)).trans (h.block i hi)⟩
set_option maxRecDepth 100000 in
set_option maxHeartbeats 4000000 in
theorem groups_32 (s : ByteArray) (hs : s.size ≤ 262144) (a : Nat) (ha : a ≤ s.size) (w : World) :
 Calls Tryz.prog 186 #[.string s, .int .i64 a, .int .i64 32] w (GrpOut 5 s a w) := by
 obtain ⟨L, hL⟩ : ∃ L, from_ s a = L := ⟨_, rfl⟩
 have hLl : L.length = s.size - a := (by rw [← hL]; exact from_len s a)
 have hLk := zh (fun (k : Nat) (h : a + k < s.size) => (by rw [← hL, from_at]; exact str_get h : L[k]? = some s[a + k])); have h1 : ¬ (a : Int) < 0 := (by omega)
 have h2 : ¬ s.size < a := (by omega)
 obtain ⟨w0, hw0⟩ : ∃ w0, w0 = ((((((w.alloc (.cells #[.string s] 9)).alloc (.cells #[.int .i64 (a : Int)] 3)).alloc (.cells #[.int .u64 0] 49)).alloc (.cells #[.int .i64 0] 3)).alloc (.cells #[.int .u8 0] 5)).alloc (.cells #[.int .i64 5] 3)) := ⟨_, rfl⟩
 have hB0 : Below w.heap.size w w0 := by rw [hw0]; exact ((((((Below.refl _ _).alloc (Nat.le_refl _) _).alloc (by simp) _).alloc (by simp <;> omega) _).alloc (by simp <;> omega) _).alloc (by simp <;> omega) _).alloc (by simp <;> omega) _
 have hs0 : w.heap.size + 6 = w0.heap.size := (by rw [hw0]; simp)
 have hG0 : GrpAt w0 w.heap.size s (a : Int) 0 0 0 5 := by
  rw [hw0]; refine ⟨?_, ?_, ?_, ?_, ?_, ?_⟩
  · exact (Below.heap_alloc _ _ _ (by simp <;> omega)).trans ((Below.heap_alloc _ _ _ (by simp <;> omega)).trans ((Below.heap_alloc _ _ _ (by simp <;> omega)).trans ((Below.heap_alloc _ _ _ (by simp <;> omega)).trans ((Below.heap_alloc _ _ _ (by simp <;> omega)).trans (al_new' _ _ (by simp))))))
  · exact (Below.heap_alloc _ _ _ (by simp <;> omega)).trans ((Below.heap_alloc _ _ _ (by simp <;> omega)).trans ((Below.heap_alloc _ _ _ (by simp <;> omega)).trans ((Below.heap_alloc _ _ _ (by simp <;> omega)).trans (al_new' _ _ (by simp)))))
  · exact (Below.heap_alloc _ _ _ (by simp <;> omega)).trans ((Below.heap_alloc _ _ _ (by simp <;> omega)).trans ((Below.heap_alloc _ _ _ (by simp <;> omega)).trans (al_new' _ _ (by simp))))
  · exact (Below.heap_alloc _ _ _ (by simp <;> omega)).trans ((Below.heap_alloc _ _ _ (by simp <;> omega)).trans (al_new' _ _ (by simp)))
  · exact (Below.heap_alloc _ _ _ (by simp <;> omega)).trans (al_new' _ _ (by simp))
  · exact al_new' _ _ (by simp)
 replace hB0 := zh hB0; replace hG0 := zh hG0; replace hLl := zh hLl; replace hs0 := zh hs0; replace hL := zh hL; go_enter Tryz.func186, Tryz.ntmps186; go_wp2_with fail; rw [← hw0]; clear hw0
 go_loopg [34] 5 (fun k v wr => ∃ (j : Nat) (last : Int), j + k = 5 ∧ a + j ≤ s.size ∧ Hid (GrpAt wr w.heap.size s ((a + j : Nat) : Int) ((gv (L.take j) % 18446744073709551616 : Nat) : Int) (j : Int) last 5) ∧ Hid (∀ i b, i < j → L[i]? = some b → 128 ≤ b.toNat) ∧ Hid (GTr w.heap.size w0 wr))
 case atStart => exact ⟨0, 0, rfl, ha, zh (by simpa [gv] using hG0.out), zh (fun i b h => by omega), zh (GTr.refl _ _)⟩
 case round =>
  obtain ⟨j, last, hjk, hj, hG, hall, hT⟩ := hrel; have hSz : Hid (w.heap.size + 6 ≤ wr.heap.size) := zh (Nat.le_trans (Nat.le_of_eq hs0.out) hT.out.size); have hjL : j ≤ L.length := (by have := hLl.out; omega)
  have hga := grp_at 5 L j (by omega) hall.out hjL; replace hga := zh hga
  by_cases hend : j = 5 ∨ a + j = s.size
  · have hn : grp 5 L = none := hga.out.1 (hend.imp id fun h => by have := hLl.out; omega); have hnn : grp 5 (from_ s a) = none := (by rw [hL.out]; exact hn)
    replace hnn := zh hnn; replace hend := zh hend; clear hga hn; go_wp2_with fail; refine (next_end hG.out hs (hend.out.elim (fun h => Or.inr (by omega)) fun h => Or.inl (by omega))).mono ?_; rintro e w' ⟨rfl, rfl⟩; have f2 := free0 hG.out.b2; have f3 := free0 hG.out.b3; have f4 := free0 hG.out.b4; have c2 := cell0 hG.out.b2; have c3 := cell0 hG.out.b3; have c4 := cell0 hG.out.b4; go_wp2_with fail; clear c2 c3 c4 f2 f3 f4; have hG6 : GrpAt (((wr.setCell ⟨w.heap.size + 1 + 1, 0, none⟩ (.int .u64 0)).setCell ⟨w.heap.size + 1 + 1 + 1, 0, none⟩ (.int .i64 0)).setCell ⟨w.heap.size + 1 + 1 + 1 + 1, 0, none⟩ (.int .u8 0)) w.heap.size s _ 0 0 0 5 := ⟨(far0 (by omega)).trans ((far0 (by omega)).trans ((far0 (by omega)).trans hG.out.b0)), (far0 (by omega)).trans ((far0 (by omega)).trans ((far0 (by omega)).trans hG.out.b1)), (far0 (by omega)).trans ((far0 (by omega)).trans (set0 hG.out.b2)), (far0 (by omega)).trans (set0 ((far0 (by omega)).trans hG.out.b3)), set0 ((far0 (by omega)).trans ((far0 (by omega)).trans hG.out.b4)), (far0 (by omega)).trans ((far0 (by omega)).trans ((far0 (by omega)).trans hG.out.b5))⟩
    have hT6 := ((((GTr.refl w.heap.size wr).set (j := w.heap.size + 1 + 1) (by omega) (by omega) (.int .u64 0)).set (j := w.heap.size + 1 + 1 + 1) (by omega) (by omega) (.int .i64 0)).set (j := w.heap.size + 1 + 1 + 1 + 1) (by omega) (by omega) (.int .u8 0))
    obtain ⟨w6, hw6⟩ : ∃ w6, w6 = (((wr.setCell ⟨w.heap.size + 1 + 1, 0, none⟩ (.int .u64 0)).setCell ⟨w.heap.size + 1 + 1 + 1, 0, none⟩ (.int .i64 0)).setCell ⟨w.heap.size + 1 + 1 + 1 + 1, 0, none⟩ (.int .u8 0)) := ⟨_, rfl⟩
    rw [← hw6] at hG6 hT6 ⊢; have r2 := cell0 hG6.b2; have r3 := cell0 hG6.b3; have r4 := cell0 hG6.b4; refine bodyPost_ret (by simp [results, Tryz.results186, go_sem, r2, r3, r4]; rfl) rfl ⟨below_gtr hB0.out (hT.out.trans hT6) (by have := hs0.out; omega), ?_⟩; exact .inr ⟨hnn.out, rfl⟩
  · have hk : a + j < s.size := (by omega)
    have hj5 : j < 5 := (by omega)
    have hb : L[j]? = some s[a + j] := hLk.out j hk; obtain ⟨b, hbb⟩ : ∃ b, b = s[a + j] := ⟨_, rfl⟩
    rw [← hbb] at hb; have hlt : (L.take j).length = j := (by rw [List.length_take]; omega)
    have hgv := gv_lt (L.take j); rw [hlt] at hgv; have hD := or_group hgv (show b.toNat % 128 < 128 by omega) (show j ≤ 9 by omega); have hsn : gv (L.take (j + 1)) = gv (L.take j) + 2 ^ (7 * j) * (b.toNat % 128) := (by rw [take_snoc2 hb, gv_snoc, hlt])
    rw [← hsn] at hD
    have hC : IntKind.i64.wrap (7 * (j : Int)) = ((7 * j : Nat) : Int) := by rw [wid64 _ (by omega) (by omega)]; push_cast; rfl
    have hB : IntKind.u64.wrap ((b.toNat % 128 : Nat) : Int) = ((b.toNat % 128 : Nat) : Int) := by rw [wrap_u64_nat, Nat.mod_eq_of_lt (by omega)]
    have hm := next_more (s := s) (k := a + j) hG.out hs hk (by omega) (by omega) (by omega) (by rw [← hbb]; exact and_127 b) hB hC (by omega) (by omega) hD; rw [← hbb] at hm; replace hm := zh hm; replace hD := zh hD; replace hC := zh hC; replace hB := zh hB; replace hsn := zh hsn; replace hgv := zh hgv; replace hlt := zh hlt; replace hb := zh hb; replace hbb := zh hbb; replace hend := zh hend; go_wp2_with fail; refine hm.out.mono ?_; rintro e w' ⟨rfl, hG1, hT1⟩; replace hG1 := zh hG1; replace hT1 := zh hT1; have c4 := cell0 hG1.out.b4
    by_cases h128 : b.toNat < 128
    · go_wp2_with fail; obtain ⟨N, hN⟩ : ∃ N : Int, N = ((gv (L.take (j + 1)) % 18446744073709551616 : Nat) : Int) := ⟨_, rfl⟩
      rw [← hN] at hG1; replace hN := zh hN; have c1 := cell0 hG1.out.b1; have c2 := cell0 hG1.out.b2; have c3 := cell0 hG1.out.b3; have h7 : IntKind.i64.wrap (7 * ((j : Int) + 1)) = 7 * ((j : Int) + 1) := wid64 _ (by omega) (by omega); have hG5 := hG1.out; have hT5 : Hid (GTr w.heap.size wr w') := hT1; have f2 := free0 hG5.b2; have f3 := free0 hG5.b3; have f4 := free0 hG5.b4; replace hG5 := zh hG5
      go_big_region
      clear c2 c3 c4 f2 f3 f4; have hG6 : GrpAt (((w'.setCell ⟨w.heap.size + 1 + 1, 0, none⟩ (.int .u64 N)).setCell ⟨w.heap.size + 1 + 1 + 1, 0, none⟩ (.int .i64 (7 * ((j : Int) + 1)))).setCell ⟨w.heap.size + 1 + 1 + 1 + 1, 0, none⟩ (.int .u8 (b.toNat : Int))) w.heap.size s _ N (7 * ((j : Int) + 1)) (b.toNat : Int) 5 := ⟨(far0 (by omega)).trans ((far0 (by omega)).trans ((far0 (by omega)).trans hG5.out.b0)), (far0 (by omega)).trans ((far0 (by omega)).trans ((far0 (by omega)).trans hG5.out.b1)), (far0 (by omega)).trans ((far0 (by omega)).trans (set0 hG5.out.b2)), (far0 (by omega)).trans (set0 ((far0 (by omega)).trans hG5.out.b3)), set0 ((far0 (by omega)).trans ((far0 (by omega)).trans hG5.out.b4)), (far0 (by omega)).trans ((far0 (by omega)).trans ((far0 (by omega)).trans hG5.out.b5))⟩
      have hT6 := (((hT5.out.set (j := w.heap.size + 1 + 1) (by omega) (by omega) (.int .u64 N)).set (j := w.heap.size + 1 + 1 + 1) (by omega) (by omega) (.int .i64 (7 * ((j : Int) + 1)))).set (j := w.heap.size + 1 + 1 + 1 + 1) (by omega) (by omega) (.int .u8 (b.toNat : Int)))
      replace hG6 := hG6.drew; replace hT6 := hT6.drew; obtain ⟨w6, hw6⟩ : ∃ w6, w6 = (((w'.setCell ⟨w.heap.size + 1 + 1, 0, none⟩ (.int .u64 N)).setCell ⟨w.heap.size + 1 + 1 + 1, 0, none⟩ (.int .i64 (7 * ((j : Int) + 1)))).setCell ⟨w.heap.size + 1 + 1 + 1 + 1, 0, none⟩ (.int .u8 (b.toNat : Int))).drew := ⟨_, rfl⟩
      rw [← hw6] at hG6 hT6 ⊢; have r2 := cell0 hG6.b2; have r3 := cell0 hG6.b3; have r4 := cell0 hG6.b4; clear hw6; go_wp2_with fail; refine bodyPost_ret (by simp [results, Tryz.results186, go_sem, r2, r3, r4]; rfl) rfl ⟨below_gtr hB0.out (hT.out.trans hT6) (by have := hs0.out; omega), ?_⟩; have hgr := hga.out.2 b (by omega) hb.out h128; refine .inl ⟨gv (L.take (j + 1)), j + 1, b, by rw [hL.out]; exact hgr, by omega, by omega, by omega, by rw [hL.out], by rw [hL.out]; exact hb.out, ?_⟩; have e1 : ((a + (j + 1) : Nat) : Int) = ((a + j : Nat) : Int) + 1 := (by push_cast; omega)
      have e2 : ((j + 1 : Nat) : Int) = (j : Int) + 1 := (by push_cast; rfl)
      rw [e1, e2, hN.out]; have e3 : ((a + j : Nat) : Int) = (a : Int) + (j : Int) := (by push_cast; rfl)
      rw [e3]
    · go_wp2_with fail; clear c4
      go_roundg (5 - (j + 1))
      case measure => omega
      case rel => exact ⟨j + 1, b.toNat, by omega, by omega, zh (by have e1 : ((a + (j + 1) : Nat) : Int) = ((a + j : Nat) : Int) + 1 := (by push_cast; omega); have e2 : ((j + 1 : Nat) : Int) = (j : Int) + 1 := (by push_cast; rfl); rw [e1, e2]; exact hG1.out), zh (fun i c hi hc => (by
       by_cases hij : i = j
       · subst hij; have := hb.out; rw [hc] at this; obtain rfl := Option.some.inj this; omega
       · exact hall.out i c (by omega) hc)), zh (hT.out.trans hT1.out)⟩
set_option maxRecDepth 100000 in
set_option maxHeartbeats 4000000 in
theorem groups_64 (s : ByteArray) (hs : s.size ≤ 262144) (a : Nat) (ha : a ≤ s.size) (w : World) :
 Calls Tryz.prog 186 #[.string s, .int .i64 a, .int .i64 64] w (GrpOut 10 s a w) := by
 obtain ⟨L, hL⟩ : ∃ L, from_ s a = L := ⟨_, rfl⟩
 have hLl : L.length = s.size - a := (by rw [← hL]; exact from_len s a)
 have hLk := zh (fun (k : Nat) (h : a + k < s.size) => (by rw [← hL, from_at]; exact str_get h : L[k]? = some s[a + k])); have h1 : ¬ (a : Int) < 0 := (by omega)
 have h2 : ¬ s.size < a := (by omega)
 obtain ⟨w0, hw0⟩ : ∃ w0, w0 = ((((((w.alloc (.cells #[.string s] 9)).alloc (.cells #[.int .i64 (a : Int)] 3)).alloc (.cells #[.int .u64 0] 49)).alloc (.cells #[.int .i64 0] 3)).alloc (.cells #[.int .u8 0] 5)).alloc (.cells #[.int .i64 10] 3)) := ⟨_, rfl⟩
 have hB0 : Below w.heap.size w w0 := by rw [hw0]; exact ((((((Below.refl _ _).alloc (Nat.le_refl _) _).alloc (by simp) _).alloc (by simp <;> omega) _).alloc (by simp <;> omega) _).alloc (by simp <;> omega) _).alloc (by simp <;> omega) _
 have hs0 : w.heap.size + 6 = w0.heap.size := (by rw [hw0]; simp)
 have hG0 : GrpAt w0 w.heap.size s (a : Int) 0 0 0 10 := by
  rw [hw0]; refine ⟨?_, ?_, ?_, ?_, ?_, ?_⟩
  · exact (Below.heap_alloc _ _ _ (by simp <;> omega)).trans ((Below.heap_alloc _ _ _ (by simp <;> omega)).trans ((Below.heap_alloc _ _ _ (by simp <;> omega)).trans ((Below.heap_alloc _ _ _ (by simp <;> omega)).trans ((Below.heap_alloc _ _ _ (by simp <;> omega)).trans (al_new' _ _ (by simp))))))
  · exact (Below.heap_alloc _ _ _ (by simp <;> omega)).trans ((Below.heap_alloc _ _ _ (by simp <;> omega)).trans ((Below.heap_alloc _ _ _ (by simp <;> omega)).trans ((Below.heap_alloc _ _ _ (by simp <;> omega)).trans (al_new' _ _ (by simp)))))
  · exact (Below.heap_alloc _ _ _ (by simp <;> omega)).trans ((Below.heap_alloc _ _ _ (by simp <;> omega)).trans ((Below.heap_alloc _ _ _ (by simp <;> omega)).trans (al_new' _ _ (by simp))))
  · exact (Below.heap_alloc _ _ _ (by simp <;> omega)).trans ((Below.heap_alloc _ _ _ (by simp <;> omega)).trans (al_new' _ _ (by simp)))
  · exact (Below.heap_alloc _ _ _ (by simp <;> omega)).trans (al_new' _ _ (by simp))
  · exact al_new' _ _ (by simp)
 replace hB0 := zh hB0; replace hG0 := zh hG0; replace hLl := zh hLl; replace hs0 := zh hs0; replace hL := zh hL; go_enter Tryz.func186, Tryz.ntmps186; go_wp2_with fail; rw [← hw0]; clear hw0
 go_loopg [34] 10 (fun k v wr => ∃ (j : Nat) (last : Int), j + k = 10 ∧ a + j ≤ s.size ∧ Hid (GrpAt wr w.heap.size s ((a + j : Nat) : Int) ((gv (L.take j) % 18446744073709551616 : Nat) : Int) (j : Int) last 10) ∧ Hid (∀ i b, i < j → L[i]? = some b → 128 ≤ b.toNat) ∧ Hid (GTr w.heap.size w0 wr))
 case atStart => exact ⟨0, 0, rfl, ha, zh (by simpa [gv] using hG0.out), zh (fun i b h => by omega), zh (GTr.refl _ _)⟩
 case round =>
  obtain ⟨j, last, hjk, hj, hG, hall, hT⟩ := hrel; have hSz : Hid (w.heap.size + 6 ≤ wr.heap.size) := zh (Nat.le_trans (Nat.le_of_eq hs0.out) hT.out.size); have hjL : j ≤ L.length := (by have := hLl.out; omega)
  have hga := grp_at 10 L j (by omega) hall.out hjL; replace hga := zh hga
  by_cases hend : j = 10 ∨ a + j = s.size
  · have hn : grp 10 L = none := hga.out.1 (hend.imp id fun h => by have := hLl.out; omega); have hnn : grp 10 (from_ s a) = none := (by rw [hL.out]; exact hn)
    replace hnn := zh hnn; replace hend := zh hend; clear hga hn; go_wp2_with fail; refine (next_end hG.out hs (hend.out.elim (fun h => Or.inr (by omega)) fun h => Or.inl (by omega))).mono ?_; rintro e w' ⟨rfl, rfl⟩; have f2 := free0 hG.out.b2; have f3 := free0 hG.out.b3; have f4 := free0 hG.out.b4; have c2 := cell0 hG.out.b2; have c3 := cell0 hG.out.b3; have c4 := cell0 hG.out.b4; go_wp2_with fail; clear c2 c3 c4 f2 f3 f4; have hG6 : GrpAt (((wr.setCell ⟨w.heap.size + 1 + 1, 0, none⟩ (.int .u64 0)).setCell ⟨w.heap.size + 1 + 1 + 1, 0, none⟩ (.int .i64 0)).setCell ⟨w.heap.size + 1 + 1 + 1 + 1, 0, none⟩ (.int .u8 0)) w.heap.size s _ 0 0 0 10 := ⟨(far0 (by omega)).trans ((far0 (by omega)).trans ((far0 (by omega)).trans hG.out.b0)), (far0 (by omega)).trans ((far0 (by omega)).trans ((far0 (by omega)).trans hG.out.b1)), (far0 (by omega)).trans ((far0 (by omega)).trans (set0 hG.out.b2)), (far0 (by omega)).trans (set0 ((far0 (by omega)).trans hG.out.b3)), set0 ((far0 (by omega)).trans ((far0 (by omega)).trans hG.out.b4)), (far0 (by omega)).trans ((far0 (by omega)).trans ((far0 (by omega)).trans hG.out.b5))⟩
    have hT6 := ((((GTr.refl w.heap.size wr).set (j := w.heap.size + 1 + 1) (by omega) (by omega) (.int .u64 0)).set (j := w.heap.size + 1 + 1 + 1) (by omega) (by omega) (.int .i64 0)).set (j := w.heap.size + 1 + 1 + 1 + 1) (by omega) (by omega) (.int .u8 0))
    obtain ⟨w6, hw6⟩ : ∃ w6, w6 = (((wr.setCell ⟨w.heap.size + 1 + 1, 0, none⟩ (.int .u64 0)).setCell ⟨w.heap.size + 1 + 1 + 1, 0, none⟩ (.int .i64 0)).setCell ⟨w.heap.size + 1 + 1 + 1 + 1, 0, none⟩ (.int .u8 0)) := ⟨_, rfl⟩
    rw [← hw6] at hG6 hT6 ⊢; have r2 := cell0 hG6.b2; have r3 := cell0 hG6.b3; have r4 := cell0 hG6.b4; refine bodyPost_ret (by simp [results, Tryz.results186, go_sem, r2, r3, r4]; rfl) rfl ⟨below_gtr hB0.out (hT.out.trans hT6) (by have := hs0.out; omega), ?_⟩; exact .inr ⟨hnn.out, rfl⟩
  · have hk : a + j < s.size := (by omega)
    have hj5 : j < 10 := (by omega)
    have hb : L[j]? = some s[a + j] := hLk.out j hk; obtain ⟨b, hbb⟩ : ∃ b, b = s[a + j] := ⟨_, rfl⟩
    rw [← hbb] at hb; have hlt : (L.take j).length = j := (by rw [List.length_take]; omega)
    have hgv := gv_lt (L.take j); rw [hlt] at hgv; have hD := or_group hgv (show b.toNat % 128 < 128 by omega) (show j ≤ 9 by omega); have hsn : gv (L.take (j + 1)) = gv (L.take j) + 2 ^ (7 * j) * (b.toNat % 128) := (by rw [take_snoc2 hb, gv_snoc, hlt])
    rw [← hsn] at hD
    have hC : IntKind.i64.wrap (7 * (j : Int)) = ((7 * j : Nat) : Int) := by rw [wid64 _ (by omega) (by omega)]; push_cast; rfl
    have hB : IntKind.u64.wrap ((b.toNat % 128 : Nat) : Int) = ((b.toNat % 128 : Nat) : Int) := by rw [wrap_u64_nat, Nat.mod_eq_of_lt (by omega)]
    have hm := next_more (s := s) (k := a + j) hG.out hs hk (by omega) (by omega) (by omega) (by rw [← hbb]; exact and_127 b) hB hC (by omega) (by omega) hD; rw [← hbb] at hm; replace hm := zh hm; replace hD := zh hD; replace hC := zh hC; replace hB := zh hB; replace hsn := zh hsn; replace hgv := zh hgv; replace hlt := zh hlt; replace hb := zh hb; replace hbb := zh hbb; replace hend := zh hend; go_wp2_with fail; refine hm.out.mono ?_; rintro e w' ⟨rfl, hG1, hT1⟩; replace hG1 := zh hG1; replace hT1 := zh hT1; have c4 := cell0 hG1.out.b4
    by_cases h128 : b.toNat < 128
    · go_wp2_with fail; obtain ⟨N, hN⟩ : ∃ N : Int, N = ((gv (L.take (j + 1)) % 18446744073709551616 : Nat) : Int) := ⟨_, rfl⟩
      rw [← hN] at hG1; replace hN := zh hN; have c1 := cell0 hG1.out.b1; have c2 := cell0 hG1.out.b2; have c3 := cell0 hG1.out.b3; have h7 : IntKind.i64.wrap (7 * ((j : Int) + 1)) = 7 * ((j : Int) + 1) := wid64 _ (by omega) (by omega); have hG5 := hG1.out; have hT5 : Hid (GTr w.heap.size wr w') := hT1; have f2 := free0 hG5.b2; have f3 := free0 hG5.b3; have f4 := free0 hG5.b4; replace hG5 := zh hG5
      go_big_region
      clear c2 c3 c4 f2 f3 f4; have hG6 : GrpAt (((w'.setCell ⟨w.heap.size + 1 + 1, 0, none⟩ (.int .u64 N)).setCell ⟨w.heap.size + 1 + 1 + 1, 0, none⟩ (.int .i64 (7 * ((j : Int) + 1)))).setCell ⟨w.heap.size + 1 + 1 + 1 + 1, 0, none⟩ (.int .u8 (b.toNat : Int))) w.heap.size s _ N (7 * ((j : Int) + 1)) (b.toNat : Int) 10 := ⟨(far0 (by omega)).trans ((far0 (by omega)).trans ((far0 (by omega)).trans hG5.out.b0)), (far0 (by omega)).trans ((far0 (by omega)).trans ((far0 (by omega)).trans hG5.out.b1)), (far0 (by omega)).trans ((far0 (by omega)).trans (set0 hG5.out.b2)), (far0 (by omega)).trans (set0 ((far0 (by omega)).trans hG5.out.b3)), set0 ((far0 (by omega)).trans ((far0 (by omega)).trans hG5.out.b4)), (far0 (by omega)).trans ((far0 (by omega)).trans ((far0 (by omega)).trans hG5.out.b5))⟩
      have hT6 := (((hT5.out.set (j := w.heap.size + 1 + 1) (by omega) (by omega) (.int .u64 N)).set (j := w.heap.size + 1 + 1 + 1) (by omega) (by omega) (.int .i64 (7 * ((j : Int) + 1)))).set (j := w.heap.size + 1 + 1 + 1 + 1) (by omega) (by omega) (.int .u8 (b.toNat : Int)))
      replace hG6 := hG6.drew; replace hT6 := hT6.drew; obtain ⟨w6, hw6⟩ : ∃ w6, w6 = (((w'.setCell ⟨w.heap.size + 1 + 1, 0, none⟩ (.int .u64 N)).setCell ⟨w.heap.size + 1 + 1 + 1, 0, none⟩ (.int .i64 (7 * ((j : Int) + 1)))).setCell ⟨w.heap.size + 1 + 1 + 1 + 1, 0, none⟩ (.int .u8 (b.toNat : Int))).drew := ⟨_, rfl⟩
      rw [← hw6] at hG6 hT6 ⊢; have r2 := cell0 hG6.b2; have r3 := cell0 hG6.b3; have r4 := cell0 hG6.b4; clear hw6; go_wp2_with fail; refine bodyPost_ret (by simp [results, Tryz.results186, go_sem, r2, r3, r4]; rfl) rfl ⟨below_gtr hB0.out (hT.out.trans hT6) (by have := hs0.out; omega), ?_⟩; have hgr := hga.out.2 b (by omega) hb.out h128; refine .inl ⟨gv (L.take (j + 1)), j + 1, b, by rw [hL.out]; exact hgr, by omega, by omega, by omega, by rw [hL.out], by rw [hL.out]; exact hb.out, ?_⟩; have e1 : ((a + (j + 1) : Nat) : Int) = ((a + j : Nat) : Int) + 1 := (by push_cast; omega)
      have e2 : ((j + 1 : Nat) : Int) = (j : Int) + 1 := (by push_cast; rfl)
      rw [e1, e2, hN.out]; have e3 : ((a + j : Nat) : Int) = (a : Int) + (j : Int) := (by push_cast; rfl)
      rw [e3]
    · go_wp2_with fail; clear c4
      go_roundg (10 - (j + 1))
      case measure => omega
      case rel => exact ⟨j + 1, b.toNat, by omega, by omega, zh (by have e1 : ((a + (j + 1) : Nat) : Int) = ((a + j : Nat) : Int) + 1 := (by push_cast; omega); have e2 : ((j + 1 : Nat) : Int) = (j : Int) + 1 := (by push_cast; rfl); rw [e1, e2]; exact hG1.out), zh (fun i c hi hc => (by
       by_cases hij : i = j
       · subst hij; have := hb.out; rw [hc] at this; obtain rfl := Option.some.inj this; omega
       · exact hall.out i c (by omega) hc)), zh (hT.out.trans hT1.out)⟩
end Go.Proofs.YtkbfjkbokifgkaaGreatDoor
