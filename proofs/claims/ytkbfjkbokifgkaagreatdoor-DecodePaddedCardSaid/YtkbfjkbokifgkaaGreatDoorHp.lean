/- The reference's numbers in groups of seven bits. -/
import Derived.Test.YtkbfjkbokifgkaaGreatDoorGd
import Derived.Laws.BytesArg
namespace Go.Proofs.YtkbfjkbokifgkaaGreatDoor
open Go.RowKit
set_option linter.unusedVariables false
set_option linter.unusedSimpArgs false
set_option maxRecDepth 100000 in
set_option maxHeartbeats 1000000 in
theorem rputU_any (n : Nat) (hn : n < 18446744073709551616) (w : World) :
 Calls Tryz.prog 17 #[.int .u64 n] w fun e w' => e = .returned (.string (mks (lebU n))) ∧ Below w.heap.size w w' := by
 obtain ⟨L, hL⟩ : ∃ L, L = lebU n := ⟨_, rfl⟩
 have hten : L.length ≤ 10 := (by rw [hL]; exact lebU_ten hn)
 obtain ⟨i5, hi5, hz5, hs5, hby5⟩ := info5_parts; rw [← hL]; replace hL := zh hL; go_enter Tryz.func17, Tryz.ntmps17; go_wp2_with fail; go_loopw [0, 3] (fun v0 v3 wr => ∃ (m : Nat) (l : List UInt8) (a : Option Addr) (c : Nat), v0 = .int .u64 m ∧ v3 = .slice a l.length c ∧ m < 18446744073709551616 ∧ Hid (wr.ownsRow w.heap.size 5 1 (.slice a l.length c) l.length (cb l)) ∧ Hid (L = l ++ lebU m) ∧ Hid (Below w.heap.size w wr)) (fun v0 _ _ => (intOf v0).toNat)
 case atStart => exact ⟨n, [], none, 0, rfl, rfl, hn, zh (World.ownsRow_nil _ _ _ _), zh hL.out, zh (Below.refl _ _)⟩
 case round =>
  obtain ⟨m, l, a, c, rfl, rfl, hm, hown, hc, hb⟩ := hrel; have hll : l.length ≤ 10 := (by have := congrArg List.length hc.out; rw [List.length_append] at this; omega)
  by_cases hlt : m < 128
  · go_wp2_with (first | (
     at_builtin
     refine wpList_append_lies _ rfl _ _ _ rfl w.heap.size 5 i5 _ 1 1 Tryz.underlying54 hi5 hz5 hs5 hby5 rfl (by omega) (.slice a l.length c) l.length (cb l) (by rfl) (hown.out.alloc _)
      ⟨wr.heap.size, 0, none⟩ 1 1 [.int .u8 (m : Int)] (by rfl) (by rfl) (World.news_of_block (cs := #[.int .u8 (m : Int)]) (t := 5) (fr := (0, 0)) (heap_alloc_new _ _)) (by intro u hu; simp only [List.mem_cons, List.mem_nil_iff, or_false] at hu; subst hu; rfl)
      (by omega) (by unfold maxLen; omega) (by omega) (by have := hb.out.size; simp; omega) (wr.heap.size + 1) (by simp) ?_
     intro g cap w1 hown1 hgrow hat hlt1; rw [u8_small (show m < 256 by omega)] at hown1; have hown2 : w1.ownsRow w.heap.size 5 1 (.slice (some ⟨g, 0, none⟩) (l.length + 1) cap) (l.length + 1) (cb (l ++ [UInt8.ofNat m])) := (by rw [cb_append]; exact hown1)
     have hbel := zh (((hb.out.alloc hb.out.size (.cells #[.int .u8 (m : Int)] 5)).grown hgrow (by have := hb.out.size; simp; omega) (fun k hk => (hown.out.lt k hk).1))); have hcv := conv_own hown2))
    go_ret; refine ⟨?_, hbel.out⟩; rw [hc.out, lebU_last hlt]; rfl
  · go_wp2_with (first | (
     at_builtin
     refine wpList_append_lies _ rfl _ _ _ rfl w.heap.size 5 i5 _ 1 1 Tryz.underlying54 hi5 hz5 hs5 hby5 rfl (by omega) (.slice a l.length c) l.length (cb l) (by rfl) (hown.out.alloc _)
      ⟨wr.heap.size, 0, none⟩ 1 1 [.int .u8 (bits BinOp.or .u8 ((m : Int) % 256) 128)] (by rfl) (by rfl) (World.news_of_block (cs := #[.int .u8 (bits BinOp.or .u8 ((m : Int) % 256) 128)]) (t := 5) (fr := (0, 0)) (heap_alloc_new _ _)) (by intro u hu; simp only [List.mem_cons, List.mem_nil_iff, or_false] at hu; subst hu; rfl)
      (by omega) (by unfold maxLen; omega) (by omega) (by have := hb.out.size; simp; omega) (wr.heap.size + 1) (by simp) ?_
     intro g cap w1 hown1 hgrow hat hlt1; rw [or_128 m] at hown1; have hown2 : w1.ownsRow w.heap.size 5 1 (.slice (some ⟨g, 0, none⟩) (l.length + 1) cap) (l.length + 1) (cb (l ++ [UInt8.ofNat (m % 128 + 128)])) := (by rw [cb_append]; exact hown1)
     have hbel := zh (((hb.out.alloc hb.out.size (.cells #[.int .u8 (bits BinOp.or .u8 ((m : Int) % 256) 128)] 5)).grown hgrow (by have := hb.out.size; simp; omega) (fun k hk => (hown.out.lt k hk).1))); replace hown2 := zh hown2; clear hown1))
    exact ⟨⟨m / 128, l ++ [UInt8.ofNat (m % 128 + 128)], some ⟨g, 0, none⟩, cap, by simp, by simp, by omega, zh (by simpa using hown2.out), zh (by rw [hc.out, lebU_more hlt]; simp), hbel⟩, by simp [intOf]; omega⟩
set_option maxRecDepth 100000 in
set_option maxHeartbeats 2000000 in
theorem rputS_any (n : Int) (h1 : -9223372036854775808 ≤ n) (h2 : n ≤ 9223372036854775807) (w : World) :
 Calls Tryz.prog 201 #[.int .i64 n] w fun e w' => e = .returned (.string (mks (lebS n))) ∧ Below w.heap.size w w' := by
 obtain ⟨L, hL⟩ : ∃ L, L = lebS n := ⟨_, rfl⟩
 have hten : L.length ≤ 10 := (by rw [hL]; exact lebS_ten h1 h2)
 obtain ⟨i5, hi5, hz5, hs5, hby5⟩ := info5_parts; rw [← hL]; replace hL := zh hL; go_enter Tryz.func201, Tryz.ntmps201; go_wp2_with fail; go_loopw [0, 3] (fun v0 v3 wr => ∃ (m : Int) (l : List UInt8) (a : Option Addr) (c : Nat), v0 = .int .i64 m ∧ v3 = .slice a l.length c ∧ -9223372036854775808 ≤ m ∧ m ≤ 9223372036854775807 ∧ Hid (wr.ownsRow w.heap.size 5 1 (.slice a l.length c) l.length (cb l)) ∧ Hid (L = l ++ lebS m) ∧ Hid (Below w.heap.size w wr)) (fun v0 _ _ => (intOf v0).natAbs)
 case atStart => exact ⟨n, [], none, 0, rfl, rfl, h1, h2, zh (World.ownsRow_nil _ _ _ _), zh hL.out, zh (Below.refl _ _)⟩
 case round =>
  clear h1 h2; obtain ⟨m, l, a, c, rfl, rfl, hm1, hm2, hown, hc, hb⟩ := hrel; have hll : l.length ≤ 10 := (by have := congrArg List.length hc.out; rw [List.length_append] at this; omega)
  by_cases ha : m < -64
  · go_wp2_with (first | (
     at_builtin
     refine wpList_append_lies _ rfl _ _ _ rfl w.heap.size 5 i5 _ 1 1 Tryz.underlying54 hi5 hz5 hs5 hby5 rfl (by omega) (.slice a l.length c) l.length (cb l) (by rfl) (hown.out.alloc _)
      ⟨wr.heap.size, 0, none⟩ 1 1 [.int .u8 (bits BinOp.or .u8 (m % 256) 128)] (by rfl) (by rfl) (World.news_of_block (cs := #[.int .u8 (bits BinOp.or .u8 (m % 256) 128)]) (t := 5) (fr := (0, 0)) (heap_alloc_new _ _)) (by intro u hu; simp only [List.mem_cons, List.mem_nil_iff, or_false] at hu; subst hu; rfl)
      (by omega) (by unfold maxLen; omega) (by omega) (by have := hb.out.size; simp; omega) (wr.heap.size + 1) (by simp) ?_
     intro g cap w1 hown1 hgrow hat hlt1; rw [or_128i m] at hown1; have hown2 : w1.ownsRow w.heap.size 5 1 (.slice (some ⟨g, 0, none⟩) (l.length + 1) cap) (l.length + 1) (cb (l ++ [UInt8.ofNat ((m % 128).toNat + 128)])) := (by rw [cb_append]; exact hown1)
     have hbel := zh (((hb.out.alloc hb.out.size (.cells #[.int .u8 (bits BinOp.or .u8 (m % 256) 128)] 5)).grown hgrow (by have := hb.out.size; simp; omega) (fun k hk => (hown.out.lt k hk).1))); replace hown2 := zh hown2; clear hown1))
    exact ⟨⟨m / 128, l ++ [UInt8.ofNat ((m % 128).toNat + 128)], some ⟨g, 0, none⟩, cap, by simp, by simp, by omega, by omega, zh (by simpa using hown2.out), zh (by rw [hc.out, lebS_more (by omega)]; simp), hbel⟩, by simp [intOf]; omega⟩
  · by_cases hz : 63 < m
    · go_wp2_with (first | (
       at_builtin
       refine wpList_append_lies _ rfl _ _ _ rfl w.heap.size 5 i5 _ 1 1 Tryz.underlying54 hi5 hz5 hs5 hby5 rfl (by omega) (.slice a l.length c) l.length (cb l) (by rfl) (hown.out.alloc _)
        ⟨wr.heap.size, 0, none⟩ 1 1 [.int .u8 (bits BinOp.or .u8 (m % 256) 128)] (by rfl) (by rfl) (World.news_of_block (cs := #[.int .u8 (bits BinOp.or .u8 (m % 256) 128)]) (t := 5) (fr := (0, 0)) (heap_alloc_new _ _)) (by intro u hu; simp only [List.mem_cons, List.mem_nil_iff, or_false] at hu; subst hu; rfl)
        (by omega) (by unfold maxLen; omega) (by omega) (by have := hb.out.size; simp; omega) (wr.heap.size + 1) (by simp) ?_
       intro g cap w1 hown1 hgrow hat hlt1; rw [or_128i m] at hown1; have hown2 : w1.ownsRow w.heap.size 5 1 (.slice (some ⟨g, 0, none⟩) (l.length + 1) cap) (l.length + 1) (cb (l ++ [UInt8.ofNat ((m % 128).toNat + 128)])) := (by rw [cb_append]; exact hown1)
       have hbel := zh (((hb.out.alloc hb.out.size (.cells #[.int .u8 (bits BinOp.or .u8 (m % 256) 128)] 5)).grown hgrow (by have := hb.out.size; simp; omega) (fun k hk => (hown.out.lt k hk).1))); replace hown2 := zh hown2; clear hown1))
      exact ⟨⟨m / 128, l ++ [UInt8.ofNat ((m % 128).toNat + 128)], some ⟨g, 0, none⟩, cap, by simp, by simp, by omega, by omega, zh (by simpa using hown2.out), zh (by rw [hc.out, lebS_more (by omega)]; simp), hbel⟩, by simp [intOf]; omega⟩
    · go_wp2_with (first | (
       at_builtin
       refine wpList_append_lies _ rfl _ _ _ rfl w.heap.size 5 i5 _ 1 1 Tryz.underlying54 hi5 hz5 hs5 hby5 rfl (by omega) (.slice a l.length c) l.length (cb l) (by rfl) (hown.out.alloc _)
        ⟨wr.heap.size, 0, none⟩ 1 1 [.int .u8 (bits BinOp.and .u8 (m % 256) 127)] (by rfl) (by rfl) (World.news_of_block (cs := #[.int .u8 (bits BinOp.and .u8 (m % 256) 127)]) (t := 5) (fr := (0, 0)) (heap_alloc_new _ _)) (by intro u hu; simp only [List.mem_cons, List.mem_nil_iff, or_false] at hu; subst hu; rfl)
        (by omega) (by unfold maxLen; omega) (by omega) (by have := hb.out.size; simp; omega) (wr.heap.size + 1) (by simp) ?_
       intro g cap w1 hown1 hgrow hat hlt1; rw [and_127i m] at hown1; have hown2 : w1.ownsRow w.heap.size 5 1 (.slice (some ⟨g, 0, none⟩) (l.length + 1) cap) (l.length + 1) (cb (l ++ [UInt8.ofNat (m % 128).toNat])) := (by rw [cb_append]; exact hown1)
       have hbel := zh (((hb.out.alloc hb.out.size (.cells #[.int .u8 (bits BinOp.and .u8 (m % 256) 127)] 5)).grown hgrow (by have := hb.out.size; simp; omega) (fun k hk => (hown.out.lt k hk).1))); have hcv := conv_own hown2))
      go_ret; refine ⟨?_, hbel.out⟩; rw [hc.out, lebS_last (by omega)]; rfl
end Go.Proofs.YtkbfjkbokifgkaaGreatDoor
namespace Go.Proofs.YtkbfjkbokifgkaaGreatDoor
open Go.RowKit
set_option linter.unusedVariables false
set_option linter.unusedSimpArgs false
structure PAt (N p : Nat) (w : World) (v : Value) (s : PS) : Prop where
 blk : w.heap[p]? = some (.cells #[v, .bool s.o] 101 (0, 0))
 own : w.ownsRow N 5 1 v s.l.length (cb s.l)
 ne : v.ownBlock ≠ some p
 hN : N ≤ p
 hw : N ≤ w.heap.size
 cap : s.l.length ≤ 524288
section
variable {N p : Nat} {w : World} {v : Value} {s : PS}
theorem PAt.lt (h : PAt N p w v s) : p < w.heap.size := lt_of_block h.blk
theorem PAt.c0 (h : PAt N p w v s) : w.cell? ⟨p, 0, none⟩ = some v := by rw [cell_of_row w p 0 _ _ _ h.blk]; rfl
theorem PAt.c1 (h : PAt N p w v s) : w.cell? ⟨p, 1, none⟩ = some (.bool s.o) := by rw [cell_of_row w p 1 _ _ _ h.blk]; rfl
theorem PAt.free (h : PAt N p w v s) (j : Nat) : w.frozen? ⟨p, j, none⟩ = false := frozen_of_row w p j _ _ h.blk
theorem PAt.ownN (h : PAt N p w v s) : ∀ g, v.ownBlock = some g → N ≤ g := fun g e => (h.own.lt g e).1
theorem PAt.below {w' : World} (h : PAt N p w v s) (hb : Below w.heap.size w w') : PAt N p w' v s := by
 refine ⟨(hb.block p h.lt).trans h.blk, ?_, h.ne, h.hN, Nat.le_trans h.hw hb.size, h.cap⟩; refine ⟨h.own.1, ?_⟩
 rcases h.own.2 with e | ⟨g, cap, cur, e, hg, hh, r⟩
 · exact .inl e
 · exact .inr ⟨g, cap, cur, e, hg, (hb.block g (lt_of_block hh)).trans hh, r⟩
theorem PAt.over (h : PAt N p w v s) (b : Bool) : PAt N p (w.setCell ⟨p, 1, none⟩ (.bool b)) v ⟨s.l, b⟩ := by refine ⟨?_, ownsRow_setCell_other h.own h.ne _, h.ne, h.hN, by simpa using h.hw, h.cap⟩; rw [heap_setCell_same w p 1 _ _ _ h.blk]; rfl
theorem PAt.turn {v' : Value} {l : List UInt8} (h : PAt N p w v s) {w' : World} (hp : w'.heap[p]? = w.heap[p]?) (ho : w'.ownsRow N 5 1 v' l.length (cb l)) (hne : v'.ownBlock ≠ some p) (hw : w.heap.size ≤ w'.heap.size) (hc : l.length ≤ 524288) :
 PAt N p (w'.setCell ⟨p, 0, none⟩ v') v' ⟨l, s.o⟩ := by
 refine ⟨?_, ownsRow_setCell_other ho hne _, hne, h.hN, by have := h.hw; simp; omega, hc⟩; rw [heap_setCell_same w' p 0 _ _ _ (hp.trans h.blk)]; rfl
theorem PAt.new (w : World) : PAt w.heap.size w.heap.size (w.alloc (.cells #[.slice none 0 0, .bool false] 101)) (.slice none 0 0) ⟨[], false⟩ :=
 ⟨heap_alloc_new _ _, World.ownsRow_nil _ _ _ _, fun e => (by cases e), Nat.le_refl _, by simp, by decide⟩
def POut (N p : Nat) (w : World) (v : Value) (s : PS) (B : List UInt8) (w' : World) : Prop := ∃ v' s', PAt N p w' v' s' ∧ Tr p v v' w w' ∧ Pen s B s'
theorem POut.trans {a b c : World} {v' : Value} {B : List UInt8} (k : Tr p v v' a b) (h : POut N p b v' s B c) : POut N p a v s B c := by obtain ⟨v'', s', h1, h2, h3⟩ := h; exact ⟨v'', s', h1, k.trans h2, h3⟩
theorem POut.step {a b c : World} {v' : Value} {s0 : PS} {B C : List UInt8} (k : Tr p v v' a b) (hp : Pen s0 B s) (h : POut N p b v' s C c) : POut N p a v s0 (B ++ C) c := by obtain ⟨v'', s', h1, h2, h3⟩ := h; exact ⟨v'', s', h1, k.trans h2, hp.trans h3⟩
theorem Vw.oldp {V : World} (h : PAt V.heap.size p w v s) (hb : Below V.heap.size V w) : Vw V p v w := fun a u hc => by
 have hlt := World.block_lt_of_cell? V a hc; have hN := h.hN; refine ⟨keep_below hb a u hc, by omega, fun e => ?_⟩; have := h.ownN _ e; omega
set_option maxRecDepth 100000 in
set_option maxHeartbeats 1000000 in
theorem pput_any (h : PAt N p w v s) (t : ByteArray) (hb : t.size ≤ 4611686018427387904) :
 Calls Tryz.prog 37 #[.pointer (some ⟨p, 0, none⟩), .string t] w fun e w' => e = .returned (.tuple #[]) ∧ POut N p w v s (strl t) w' := by
 have c0 := h.c0; have fr := h.free 0; have fr1 := h.free 1; have x1 := h.c1; have hcap := h.cap; have hpen := Pen.of hcap (strl t); rw [strl_length] at hpen; obtain ⟨a, c, hv⟩ := own_slice h.own; subst hv; replace h := zh h; replace hpen := zh hpen; obtain ⟨i5, hi5, hz5, hs5, hby5⟩ := info5_parts
 by_cases hf : 524288 < s.l.length + t.size
 · go_enter Tryz.func37, Tryz.ntmps37; go_wp2; refine bodyPost_ret (results_none rfl _ _ _) rfl ?_; refine ⟨rfl, _, _, h.out.over true, (Tr.refl p _ w).set 1 _, ?_⟩; have := hpen.out; rw [if_pos hf] at this; exact this
 · go_enter Tryz.func37, Tryz.ntmps37
   go_wp2_with (first | (
    at_builtin
    refine wpList_append_str _ rfl _ _ _ _ rfl N 5 i5 Tryz.underlying54 Tryz.underlying9 hi5 hz5 hs5 hby5 (.slice a s.l.length c) s.l.length (cb s.l) (by rfl) h.out.own t (by rfl) (by unfold maxLen; omega) (by omega) h.out.hw ?_; intro v' w3 hown hgrow hlies; obtain ⟨a', q', hv'⟩ := own_slice hown; subst hv'; have k0 : w3.cell? ⟨p, 0, none⟩ = some (.slice a s.l.length c) := (hgrow.cell_far ⟨p, 0, none⟩ h.out.lt (fun e => h.out.ne e.symm)).trans c0; have fr0 : w3.frozen? ⟨p, 0, none⟩ = false := (hgrow.frozen_far ⟨p, 0, none⟩ h.out.lt (fun e => h.out.ne e.symm)).trans fr))
   go_end0
   have ho : w3.ownsRow N 5 1 (.slice a' (s.l.length + t.size) q') (s.l ++ strl t).length (cb (s.l ++ strl t)) := by rw [List.length_append, cb_append, strl_length]; exact hown
   have hne : (Value.slice a' (s.l.length + t.size) q').ownBlock ≠ some p := by
    have := h.out.lt
    rcases hlies with e | e
    · rw [e]; exact h.out.ne
    · rw [e]; intro e2; cases e2; omega
   refine ⟨rfl, _, _, h.out.turn (hgrow.block p h.out.lt (fun e => h.out.ne e.symm)) ho hne hgrow.size (by rw [List.length_append, strl_length]; omega), (Tr.grown hgrow hlies).set 0 _, ?_⟩; have := hpen.out; rw [if_neg hf] at this; exact this
set_option maxRecDepth 100000 in
set_option maxHeartbeats 1000000 in
theorem pbyte_any (h : PAt N p w v s) (n : Int) :
 Calls Tryz.prog 151 #[.pointer (some ⟨p, 0, none⟩), .int .i64 n] w fun e w' => e = .returned (.tuple #[]) ∧ POut N p w v s [b1 n] w' := by
 have hbel := (Below.refl w.heap.size w).alloc (Nat.le_refl _) (.cells #[.int .u8 (n % 256)] 5); have h1 := zh (h.below hbel)
 have hcv : (convert 54 9 (.slice (some ⟨w.heap.size, 0, none⟩) 1 1)).run Tryz.prog (w.alloc (.cells #[.int .u8 (n % 256)] 5)) = .ok (.string (mks [b1 n])) (w.alloc (.cells #[.int .u8 (n % 256)] 5)) :=
  BIn.conv (l := [b1 n]) (.inr ⟨w.heap.size, 1, rfl, fun j hj => by
   have : j = 0 := (by simpa using hj)
   subst this; rw [World.cell?_alloc_at _ _ _ _ rfl, b1_val]; rfl⟩)
 have ht1 := zh (Tr.of_below (p := p) (v := v) hbel); clear h hbel; go_enter Tryz.func151, Tryz.ntmps151; go_wp2_with fail; refine (pput_any h1.out (mks [b1 n]) (by rw [strl_mks_len]; simp)).mono ?_; rintro e w2 ⟨rfl, ho⟩; go_wp2; go_end0; exact ⟨rfl, POut.trans ht1.out ho⟩
set_option maxRecDepth 100000 in
set_option maxHeartbeats 1000000 in
theorem pu_any (h : PAt N p w v s) (n : Int) :
 Calls Tryz.prog 155 #[.pointer (some ⟨p, 0, none⟩), .int .i64 n] w fun e w' => e = .returned (.tuple #[]) ∧ POut N p w v s (uB n) w' := by
 have hl := uB_len n; replace h := zh h; obtain ⟨k, hk⟩ : ∃ k : Nat, n % 18446744073709551616 = (k : Int) := ⟨(n % 18446744073709551616).toNat, by omega⟩
 have hk2 : k < 18446744073709551616 := (by omega)
 have hu : uB n = lebU k := (by unfold uB; rw [hk]; rfl)
 rw [hu] at hl ⊢; clear hu; have hwk : IntKind.u64.wrap n = (k : Int) := (by rw [IntKind.wrap_u64, hk])
 go_enter Tryz.func155, Tryz.ntmps155; go_wp2_with fail; refine (rputU_any k hk2 w).mono ?_; rintro e w1 ⟨rfl, hb1⟩; replace hb1 := zh hb1; go_wp2_with fail; refine (pput_any (h.out.below hb1.out) (mks (lebU k)) (by rw [strl_mks_len]; omega)).mono ?_; rintro e w2 ⟨rfl, ho⟩; go_wp2; go_end0; exact ⟨rfl, POut.trans (Tr.of_below hb1.out) ho⟩
set_option maxRecDepth 100000 in
set_option maxHeartbeats 1000000 in
theorem ps_any (h : PAt N p w v s) (n : Int) (h1 : -9223372036854775808 ≤ n) (h2 : n ≤ 9223372036854775807) :
 Calls Tryz.prog 200 #[.pointer (some ⟨p, 0, none⟩), .int .i64 n] w fun e w' => e = .returned (.tuple #[]) ∧ POut N p w v s (lebS n) w' := by
 have hl := lebS_ten h1 h2; replace h := zh h; go_enter Tryz.func200, Tryz.ntmps200; go_wp2_with fail; refine (rputS_any n h1 h2 w).mono ?_; rintro e w1 ⟨rfl, hb1⟩; replace hb1 := zh hb1; go_wp2_with fail; refine (pput_any (h.out.below hb1.out) (mks (lebS n)) (by rw [strl_mks_len]; omega)).mono ?_; rintro e w2 ⟨rfl, ho⟩; go_wp2; go_end0; exact ⟨rfl, POut.trans (Tr.of_below hb1.out) ho⟩
set_option maxRecDepth 100000 in
set_option maxHeartbeats 1000000 in
theorem pname_any (h : PAt N p w v s) (t : ByteArray) (hb : t.size ≤ 4611686018427387904) :
 Calls Tryz.prog 154 #[.pointer (some ⟨p, 0, none⟩), .string t] w fun e w' => e = .returned (.tuple #[]) ∧ POut N p w v s (xLg (strl t)) w' := by
 replace h := zh h; go_enter Tryz.func154, Tryz.ntmps154; go_wp2_with fail; refine (pu_any h.out t.size).mono ?_; rintro e w1 ⟨rfl, v1, s1, h1, t1, q1⟩; replace h1 := zh h1; replace t1 := zh t1; replace q1 := zh q1; go_wp2_with fail; refine (pput_any h1.out t hb).mono ?_; rintro e w2 ⟨rfl, ho⟩; replace ho := zh ho; go_wp2; go_end0; exact ⟨rfl, POut.step t1.out q1.out ho.out⟩
variable {w0 : World}
set_option maxRecDepth 100000 in
set_option maxHeartbeats 1000000 in
theorem plist_any (h : PAt N p w v s) (hb : Vw w0 p v w) (l : List Int) (a : Option Addr) (c : Nat) (hi : IntsIn w0 a l) :
 Calls Tryz.prog 158 #[.pointer (some ⟨p, 0, none⟩), .slice a l.length c] w fun e w' => e = .returned (.tuple #[]) ∧ POut N p w v s (numsC l).flatten w' := by
 obtain ⟨n, hl⟩ : ∃ n, l.length = n := ⟨_, rfl⟩
 have hl63 := hi.1; rw [hl] at hl63 ⊢; replace h := zh h; replace hb := zh hb; replace hi := zh hi; replace hl := zh hl; go_enter Tryz.func158, Tryz.ntmps158; go_wp2_with fail; refine (pu_any h.out n).mono ?_; rintro e w1 ⟨rfl, v1, s1, h1, t1, q1⟩; replace h1 := zh h1; replace t1 := zh t1; replace q1 := zh q1; go_wp2_with fail; go_loopw [4] (fun vi wr => ∃ (i : Nat) (v2 : Value) (s2 : PS), i ≤ n ∧ vi = .int .i64 i ∧ Hid (PAt N p wr v2 s2) ∧ Hid (Tr p v v2 w wr) ∧ Hid (Pen s (uB n ++ ((l.take i).map uB).flatten) s2)) (fun vi _ => n - (intOf vi).toNat)
 case atStart => exact ⟨0, v1, s1, Nat.zero_le _, rfl, h1, t1, zh (by simpa using q1.out)⟩
 case round =>
  obtain ⟨i, v2, s2, hle, rfl, h2, t2, q2⟩ := hrel; have ov := h2.out.c1
  have hall : (numsC l).flatten = uB n ++ ((l.take i).map uB).flatten ++ ((l.drop i).map uB).flatten := by unfold numsC; rw [List.flatten_cons, hl.out, List.append_assoc, ← List.flatten_append, ← List.map_append, List.take_append_drop]
  replace hall := zh hall
  by_cases hlt : i < n
  · by_cases hov : s2.o = true
    · rw [hov] at ov; go_wp2; go_end0; exact ⟨rfl, by rw [hall.out]; exact ⟨v2, s2, h2.out, t2.out, q2.out.stop hov⟩⟩
    have hov2 : s2.o = false := (by simpa using hov)
    rw [hov2] at ov; clear hov hov2; obtain ⟨x, hx⟩ : ∃ x, l[i]? = some x := ⟨_, List.getElem?_eq_getElem (by rw [hl.out]; exact hlt)⟩
    obtain ⟨b, o, rfl, hc⟩ := (hi.out.old (hb.out.tr t2.out)).cell hx
    have hst : uB n ++ ((l.take (i + 1)).map uB).flatten = (uB n ++ ((l.take i).map uB).flatten) ++ uB x := by rw [List.take_add_one, hx]; simp
    replace hst := zh hst; clear hx; go_wp2_with fail; refine (pu_any h2.out x).mono ?_; rintro e w3 ⟨rfl, v3, s3, h3, t3, q3⟩; replace h3 := zh h3; replace q3 := zh (q2.out.trans q3); replace t3 := zh (t2.out.trans t3); go_wp2; exact ⟨⟨i + 1, v3, s3, by omega, by simp, h3, t3, zh (by rw [hst.out]; exact q3.out)⟩, by simp [intOf]; omega⟩
  · have hin : i = n := (by omega)
    have hz : l.drop i = [] := List.drop_eq_nil_of_le (by rw [hl.out]; omega); replace hz := zh hz; go_wp2; go_end0; exact ⟨rfl, by rw [hall.out, hz.out]; exact ⟨v2, s2, h2.out, t2.out, by simpa using q2.out⟩⟩
set_option maxRecDepth 100000 in
set_option maxHeartbeats 1000000 in
theorem ptypes_any (h : PAt N p w v s) (hb : Vw w0 p v w) (l : List Int) (a : Option Addr) (c : Nat) (hi : IntsIn w0 a l) :
 Calls Tryz.prog 153 #[.pointer (some ⟨p, 0, none⟩), .slice a l.length c] w fun e w' => e = .returned (.tuple #[]) ∧ POut N p w v s (bytsC l).flatten w' := by
 obtain ⟨n, hl⟩ : ∃ n, l.length = n := ⟨_, rfl⟩
 have hl63 := hi.1; rw [hl] at hl63 ⊢; replace h := zh h; replace hb := zh hb; replace hi := zh hi; replace hl := zh hl; go_enter Tryz.func153, Tryz.ntmps153; go_wp2_with fail; refine (pu_any h.out n).mono ?_; rintro e w1 ⟨rfl, v1, s1, h1, t1, q1⟩; replace h1 := zh h1; replace t1 := zh t1; replace q1 := zh q1; go_wp2_with fail; go_loopw [4] (fun vi wr => ∃ (i : Nat) (v2 : Value) (s2 : PS), i ≤ n ∧ vi = .int .i64 i ∧ Hid (PAt N p wr v2 s2) ∧ Hid (Tr p v v2 w wr) ∧ Hid (Pen s (uB n ++ ((l.take i).map (fun n => [b1 n])).flatten) s2)) (fun vi _ => n - (intOf vi).toNat)
 case atStart => exact ⟨0, v1, s1, Nat.zero_le _, rfl, h1, t1, zh (by simpa using q1.out)⟩
 case round =>
  obtain ⟨i, v2, s2, hle, rfl, h2, t2, q2⟩ := hrel; have ov := h2.out.c1
  have hall : (bytsC l).flatten = uB n ++ ((l.take i).map (fun n => [b1 n])).flatten ++ ((l.drop i).map (fun n => [b1 n])).flatten := by unfold bytsC; rw [List.flatten_cons, hl.out, List.append_assoc, ← List.flatten_append, ← List.map_append, List.take_append_drop]
  replace hall := zh hall
  by_cases hlt : i < n
  · obtain ⟨x, hx⟩ : ∃ x, l[i]? = some x := ⟨_, List.getElem?_eq_getElem (by rw [hl.out]; exact hlt)⟩
    obtain ⟨b, o, rfl, hc⟩ := (hi.out.old (hb.out.tr t2.out)).cell hx
    have hst : uB n ++ ((l.take (i + 1)).map (fun n => [b1 n])).flatten = (uB n ++ ((l.take i).map (fun n => [b1 n])).flatten) ++ (fun n => [b1 n]) x := by rw [List.take_add_one, hx]; simp
    replace hst := zh hst; clear hx; go_wp2_with fail; refine (pbyte_any h2.out x).mono ?_; rintro e w3 ⟨rfl, v3, s3, h3, t3, q3⟩; replace h3 := zh h3; replace q3 := zh (q2.out.trans q3); replace t3 := zh (t2.out.trans t3); go_wp2; exact ⟨⟨i + 1, v3, s3, by omega, by simp, h3, t3, zh (by rw [hst.out]; exact q3.out)⟩, by simp [intOf]; omega⟩
  · have hin : i = n := (by omega)
    have hz : l.drop i = [] := List.drop_eq_nil_of_le (by rw [hl.out]; omega); replace hz := zh hz; go_wp2; go_end0; exact ⟨rfl, by rw [hall.out, hz.out]; exact ⟨v2, s2, h2.out, t2.out, by simpa using q2.out⟩⟩
end
end Go.Proofs.YtkbfjkbokifgkaaGreatDoor
