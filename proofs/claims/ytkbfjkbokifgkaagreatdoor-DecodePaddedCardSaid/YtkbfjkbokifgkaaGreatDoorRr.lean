/- The reader: what it holds; its small functions. -/
import Derived.Test.YtkbfjkbokifgkaaGreatDoorLe
import Derived.Test.YtkbfjkbokifgkaaGreatDoorVa
import Derived.BigQuiet
import Derived.Deep.DeepCutAuto
import Derived.StillTailTactics
import Derived.Deep.RegionHeld3
namespace Go.Proofs.YtkbfjkbokifgkaaGreatDoor
open Go.RowKit
set_option linter.unusedVariables false
set_option linter.unusedSimpArgs false
def flt (n : Int) : List PanicEntry := [{ v := .iface 118 (.agg #[.int .i64 n]), recovered := false }]
theorem dwant_yes (n : Int) (w : World) : Calls Tryz.prog 79 #[.bool true, .int .i64 n] w fun e w' => e = .returned (.tuple #[]) ∧ w = w' := by go_enter Tryz.func79, Tryz.ntmps79; go_wp2; go_end0; exact ⟨rfl, rfl⟩
theorem dwant_no (n : Int) (w : World) : Calls Tryz.prog 79 #[.bool false, .int .i64 n] w fun e w' => e = .panicked (flt n) ∧ w = w' := by go_enter Tryz.func79, Tryz.ntmps79; go_wp2; exact ⟨rfl, rfl, rfl⟩
structure Wr (S : Nat → Prop) (w w' : World) : Prop where
 os : w'.os = w.os
 tape : w'.tape = w.tape
 output : w'.output = w.output
 size : w.heap.size ≤ w'.heap.size
 block : ∀ k, k < w.heap.size → ¬ S k → w'.heap[k]? = w.heap[k]?
theorem Wr.refl (S : Nat → Prop) (w : World) : Wr S w w := ⟨rfl, rfl, rfl, Nat.le_refl _, fun _ _ _ => rfl⟩
theorem Wr.trans {S : Nat → Prop} {a b c : World} (h : Wr S a b) (k : Wr S b c) : Wr S a c :=
 ⟨k.os.trans h.os, k.tape.trans h.tape, k.output.trans h.output, Nat.le_trans h.size k.size, fun i hi hs => (k.block i (Nat.lt_of_lt_of_le hi h.size) hs).trans (h.block i hi hs)⟩
theorem Wr.drew {S : Nat → Prop} {a b : World} (h : Wr S a b) : Wr S a b.drew := ⟨h.os, h.tape, h.output, h.size, h.block⟩
theorem Wr.of_below {S : Nat → Prop} {w w' : World} (h : Below w.heap.size w w') : Wr S w w' := ⟨h.os, h.tape, h.output, h.size, fun k hk _ => h.block k hk⟩
theorem Wr.mono {S S' : Nat → Prop} {w w' : World} (h : Wr S w w') (hs : ∀ k, S k → S' k) : Wr S' w w' := ⟨h.os, h.tape, h.output, h.size, fun k hk hn => h.block k hk (fun e => hn (hs k e))⟩
theorem Wr.set {S : Nat → Prop} {a b : World} (h : Wr S a b) {p : Nat} (hp : S p) (o : Nat) (u : Value) : Wr S a (b.setCell ⟨p, o, none⟩ u) :=
 ⟨h.os, h.tape, h.output, by have := h.size; simpa [World.setCell] using this, fun k hk hs => (Below.heap_setCell _ _ _ _ (show k ≠ p by rintro rfl; exact hs hp)).trans (h.block k hk hs)⟩
structure RdAt (w : World) (p : Nat) (s : ByteArray) (a e l : Int) (cs : List Value) : Prop where
 row : w.heap[p]? = some (.cells (.string s :: .int .i64 a :: .int .i64 e :: .int .i64 l :: cs).toArray 65 (0, 0))
 eleven : cs.length = 11
theorem RdAt.c0 {w : World} {p : Nat} {s : ByteArray} {a e l : Int} {cs : List Value} (h : RdAt w p s a e l cs) : w.cell? ⟨p, 0, none⟩ = some (.string s) := by rw [cell_of_row w p 0 _ _ _ h.row]; rfl
theorem RdAt.c1 {w : World} {p : Nat} {s : ByteArray} {a e l : Int} {cs : List Value} (h : RdAt w p s a e l cs) : w.cell? ⟨p, 1, none⟩ = some (.int .i64 a) := by rw [cell_of_row w p 1 _ _ _ h.row]; rfl
theorem RdAt.c2 {w : World} {p : Nat} {s : ByteArray} {a e l : Int} {cs : List Value} (h : RdAt w p s a e l cs) : w.cell? ⟨p, 2, none⟩ = some (.int .i64 e) := by rw [cell_of_row w p 2 _ _ _ h.row]; rfl
theorem RdAt.c3 {w : World} {p : Nat} {s : ByteArray} {a e l : Int} {cs : List Value} (h : RdAt w p s a e l cs) : w.cell? ⟨p, 3, none⟩ = some (.int .i64 l) := by rw [cell_of_row w p 3 _ _ _ h.row]; rfl
theorem RdAt.fr {w : World} {p : Nat} {s : ByteArray} {a e l : Int} {cs : List Value} (h : RdAt w p s a e l cs) (o : Nat) : w.frozen? ⟨p, o, none⟩ = false := frozen_of_row w p o _ _ h.row
theorem RdAt.lt {w : World} {p : Nat} {s : ByteArray} {a e l : Int} {cs : List Value} (h : RdAt w p s a e l cs) : p < w.heap.size := (Array.getElem?_eq_some_iff.1 h.row).1
theorem RdAt.drew {w : World} {p : Nat} {s : ByteArray} {a e l : Int} {cs : List Value} (h : RdAt w p s a e l cs) : RdAt w.drew p s a e l cs := ⟨h.row, h.eleven⟩
theorem RdAt.drewN {w : World} {p : Nat} {s : ByteArray} {a e l : Int} {cs : List Value} (h : RdAt w p s a e l cs) (n : Nat) : RdAt (w.drewN n) p s a e l cs := ⟨h.row, h.eleven⟩
theorem Wr.drewN {S : Nat → Prop} {a b : World} (h : Wr S a b) (n : Nat) : Wr S a (b.drewN n) := ⟨h.os, h.tape, h.output, h.size, h.block⟩
theorem RdAt.below {w w' : World} {p : Nat} {s : ByteArray} {a e l : Int} {cs : List Value} (h : RdAt w p s a e l cs) (k : Below w.heap.size w w') : RdAt w' p s a e l cs := ⟨(k.block p h.lt).trans h.row, h.eleven⟩
theorem RdAt.set1 {w : World} {p : Nat} {s : ByteArray} {a e l : Int} {cs : List Value} (h : RdAt w p s a e l cs) (b : Int) : RdAt (w.setCell ⟨p, 1, none⟩ (.int .i64 b)) p s b e l cs := by refine ⟨?_, h.eleven⟩; rw [heap_setCell_same w p 1 _ _ _ h.row]; rfl
theorem RdAt.set2 {w : World} {p : Nat} {s : ByteArray} {a e l : Int} {cs : List Value} (h : RdAt w p s a e l cs) (b : Int) : RdAt (w.setCell ⟨p, 2, none⟩ (.int .i64 b)) p s a b l cs := by refine ⟨?_, h.eleven⟩; rw [heap_setCell_same w p 2 _ _ _ h.row]; rfl
theorem RdAt.set3 {w : World} {p : Nat} {s : ByteArray} {a e l : Int} {cs : List Value} (h : RdAt w p s a e l cs) (b : Int) : RdAt (w.setCell ⟨p, 3, none⟩ (.int .i64 b)) p s a e b cs := by refine ⟨?_, h.eleven⟩; rw [heap_setCell_same w p 3 _ _ _ h.row]; rfl
def Rd {α : Type} (V : α → Value → Prop) (p : Nat) (s : ByteArray) (e : Nat) (l : Int) (cs : List Value) (g : Got α) (w : World) (end_ : Ending) (w' : World) : Prop :=
 Wr (· = p) w w' ∧ ((∃ v a v', g = .ok (v, a) ∧ a ≤ e ∧ V v v' ∧ end_ = .returned v' ∧ RdAt w' p s (a : Int) (e : Int) l cs) ∨ (∃ n, g = .error n ∧ end_ = .panicked (flt n)))
def VInt (v : Int) (x : Value) : Prop := x = .int .i64 v ∧ 0 ≤ v ∧ v < 4294967296
def VByte (v : Int) (x : Value) : Prop := x = .int .i64 v ∧ 0 ≤ v ∧ v < 256
set_option maxRecDepth 100000 in
set_option maxHeartbeats 4000000 in
theorem byte_any {w : World} {p : Nat} {s : ByteArray} {a e : Nat} {l : Int} {cs : List Value} (h : RdAt w p s (a : Int) (e : Int) l cs) (hs : s.size ≤ 262144) (he : e ≤ s.size) :
 Calls Tryz.prog 78 #[.pointer (some ⟨p, 0, none⟩)] w (Rd VByte p s e l cs (gByte (strl s) e a) w) := by
 have c1 := h.c1; have c2 := h.c2
 by_cases hlt : a < e
 · have hi : (a : Int) < (e : Int) := (by omega)
   have h1 : IntKind.i64.wrap ((a : Int) + 1) = (a : Int) + 1 := wid64 _ (by omega) (by omega); have h2 : IntKind.i64.wrap ((a : Int) + 1 - 1) = (a : Int) := (by rw [show (a : Int) + 1 - 1 = a by omega]; exact wid64 _ (by omega) (by omega))
   have f1 := h.fr 1
   have hg : gByte (strl s) e a = .ok ((((strl s)[a]?.getD 0).toNat : Int), a + 1) := by unfold gByte; rw [if_pos hlt]
   rw [str_get (show a < s.size by omega), Option.getD_some] at hg; have has : a < s.size := (by omega)
   replace hg := zh hg; go_enter Tryz.func78, Tryz.ntmps78; go_wp2_with fail; refine wp_region_still_tail 9 (by kernel_rfl) (by kernel_rfl) ?_; simp only [List.take_succ_cons, List.take_zero, List.drop_succ_cons, List.drop_zero]
   repeat still_step
   refine wpStill_nil ?_; change wpList _ _ _ _ _ w.drew; have hd := h.drew; have td := (Wr.refl (· = p) w).drew; obtain ⟨w1, hw1⟩ : ∃ w1, w1 = w.drew := ⟨_, rfl⟩
   rw [← hw1] at hd td ⊢; clear hw1 h c1 c2 f1; have c1 := hd.c1; have f1 := hd.fr 1; go_wp2_with fail; refine (dwant_yes 50 w1).mono ?_; rintro e' w' ⟨rfl, rfl⟩
   go_upto_region 3 with (fail)
   have h2' := hd.set1 ((a : Int) + 1); have t2 := td.set (S := (· = p)) rfl 1 (.int .i64 ((a : Int) + 1)); obtain ⟨w2, hw2⟩ : ∃ w2, w2 = w1.setCell ⟨p, 1, none⟩ (.int .i64 ((a : Int) + 1)) := ⟨_, rfl⟩
   rw [← hw2] at h2' t2 ⊢; clear hw2 hd td c1 f1; have c0 := h2'.c0; have c1 := h2'.c1
   go_quiet (fail)
   go_wp2_with fail; refine bodyPost_ret (by simp [results, Tryz.results78, go_sem] <;> rfl) rfl ?_; rw [show wrap64 (s[a].toNat : Int) = (s[a].toNat : Int) from (by have := s[a].toNat_lt; unfold wrap64; omega)]; exact ⟨t2.drewN nq, .inl ⟨_, _, _, hg.out, by omega, ⟨rfl, by omega, by have := s[a].toNat_lt; omega⟩, rfl, h2'.drewN nq⟩⟩
 · have hi : ¬ (a : Int) < (e : Int) := (by omega)
   have hg : gByte (strl s) e a = .error 50 := by unfold gByte; rw [if_neg hlt]
   replace hg := zh hg; go_enter Tryz.func78, Tryz.ntmps78; go_wp2_with fail; refine wp_region_still_tail 9 (by kernel_rfl) (by kernel_rfl) ?_; simp only [List.take_succ_cons, List.take_zero, List.drop_succ_cons, List.drop_zero]
   repeat still_step
   refine wpStill_nil ?_; change wpList _ _ _ _ _ w.drew; go_wp2_with fail; refine (dwant_no 50 w.drew).mono ?_; rintro e' w' ⟨rfl, rfl⟩; exact ⟨rfl, (Wr.refl (· = p) w).drew, .inr ⟨50, hg.out, rfl⟩⟩
theorem rd_bind {α β : Type} {g : Got α} {f : α × Nat → Got β} {v : α} {a : Nat} (h : g = .ok (v, a)) : g.bind f = f (v, a) := by rw [h]; rfl
theorem rd_err {α β : Type} {g : Got α} {f : α × Nat → Got β} {n : Int} (h : g = .error n) : g.bind f = .error n := by rw [h]; rfl
set_option maxRecDepth 100000 in
set_option maxHeartbeats 4000000 in
theorem is_any {w : World} {p : Nat} {s : ByteArray} {a e : Nat} {l : Int} {cs : List Value} (h : RdAt w p s (a : Int) (e : Int) l cs) (hs : s.size ≤ 262144) (he : e ≤ s.size) (b : Int) :
 Calls Tryz.prog 65 #[.pointer (some ⟨p, 0, none⟩), .int .i64 b] w (Rd (fun _ x => x = .tuple #[]) p s e l cs (gIs (strl s) e a b) w) := by
 go_enter Tryz.func65, Tryz.ntmps65; go_wp2_with fail; refine (byte_any h hs he).mono ?_; rintro e' w' ⟨hW, ⟨v, a', v', hg, ha, ⟨rfl, hv0, hv1⟩, rfl, hR⟩ | ⟨n, hg, rfl⟩⟩
 · by_cases hb : v = b
   · subst hb; go_wp2_with fail; refine (dwant_yes 50 w').mono ?_; rintro e' w2 ⟨rfl, rfl⟩; go_wp2_with fail; refine bodyPost_ret (by simp [results, Tryz.results65, go_sem] <;> rfl) rfl ?_; exact ⟨hW, .inl ⟨(), a', _, by unfold gIs; rw [rd_bind hg, if_pos rfl], ha, rfl, rfl, hR⟩⟩
   · have hbb : (v == b) = false := (by rw [beq_eq_false_iff_ne]; exact hb)
     replace hb := zh hb; go_wp2_with fail; refine (dwant_no 50 w').mono ?_; rintro e' w2 ⟨rfl, rfl⟩; exact ⟨rfl, hW, .inr ⟨50, by unfold gIs; rw [rd_bind hg, if_neg hb.out], rfl⟩⟩
 · exact ⟨rfl, hW, .inr ⟨n, by unfold gIs; rw [rd_err hg], rfl⟩⟩
set_option maxRecDepth 100000 in
set_option maxHeartbeats 4000000 in
theorem flag_any {w : World} {p : Nat} {s : ByteArray} {a e : Nat} {l : Int} {cs : List Value} (h : RdAt w p s (a : Int) (e : Int) l cs) (hs : s.size ≤ 262144) (he : e ≤ s.size) :
 Calls Tryz.prog 132 #[.pointer (some ⟨p, 0, none⟩)] w (Rd (fun b x => x = .bool b) p s e l cs (gFlag (strl s) e a) w) := by
 go_enter Tryz.func132, Tryz.ntmps132; go_wp2_with fail; refine (byte_any h hs he).mono ?_; rintro e' w' ⟨hW, ⟨v, a', v', hg, ha, ⟨rfl, hv0, hv1⟩, rfl, hR⟩ | ⟨n, hg, rfl⟩⟩
 · by_cases hb : v ≤ 1
   · go_wp2_with fail; refine (dwant_yes 50 w').mono ?_; rintro e' w2 ⟨rfl, rfl⟩; go_wp2_with fail; refine bodyPost_ret (by simp [results, Tryz.results132, go_sem] <;> rfl) rfl ?_; exact ⟨hW, .inl ⟨_, a', _, by unfold gFlag; rw [rd_bind hg, if_pos hb], ha, rfl, rfl, hR⟩⟩
   · have hbb : decide (v ≤ 1) = false := decide_eq_false hb; replace hb := zh hb; go_wp2_with fail; refine (dwant_no 50 w').mono ?_; rintro e' w2 ⟨rfl, rfl⟩; exact ⟨rfl, hW, .inr ⟨50, by unfold gFlag; rw [rd_bind hg]; exact if_neg (by have := hb.out; show ¬ v ≤ 1; omega), rfl⟩⟩
 · exact ⟨rfl, hW, .inr ⟨n, by unfold gFlag; rw [rd_err hg], rfl⟩⟩
set_option maxRecDepth 100000 in
set_option maxHeartbeats 4000000 in
theorem typ_any {w : World} {p : Nat} {s : ByteArray} {a e : Nat} {l : Int} {cs : List Value} (h : RdAt w p s (a : Int) (e : Int) l cs) (hs : s.size ≤ 262144) (he : e ≤ s.size) :
 Calls Tryz.prog 122 #[.pointer (some ⟨p, 0, none⟩)] w (Rd VByte p s e l cs (gTyp (strl s) e a) w) := by
 go_enter Tryz.func122, Tryz.ntmps122; go_wp2_with fail; refine (byte_any h hs he).mono ?_; rintro e' w' ⟨hW, ⟨v, a', v', hg, ha, ⟨rfl, hv0, hv1⟩, rfl, hR⟩ | ⟨n, hg, rfl⟩⟩
 · by_cases hb : v = 125 ∨ v = 124
   · replace hg := zh hg
     rcases zh hb with hb'
     rcases hb with rfl | rfl
     all_goals
      go_wp2_with fail; refine (dwant_no 51 w').mono ?_; rintro e' w2 ⟨rfl, rfl⟩; exact ⟨rfl, hW, .inr ⟨51, by unfold gTyp; rw [rd_bind hg.out]; simp, rfl⟩⟩
   · have n1 : ¬ v = 125 := fun e => hb (.inl e); have n2 : ¬ v = 124 := fun e => hb (.inr e); have m1 : (v != 125) = true := (by simp [n1])
     have m2 : (v != 124) = true := (by simp [n2])
     replace hg := zh hg; replace hb := zh hb
     by_cases hc : v = 127 ∨ v = 126
     · rcases zh hc with hc'
       rcases hc with rfl | rfl
       all_goals
        go_wp2_with fail; refine (dwant_yes 51 w').mono ?_; rintro e' w2 ⟨rfl, rfl⟩; go_wp2_with fail; refine (dwant_yes 50 w').mono ?_; rintro e' w2 ⟨rfl, rfl⟩; go_wp2_with fail; refine bodyPost_ret (by simp [results, Tryz.results122, go_sem] <;> rfl) rfl ?_; exact ⟨hW, .inl ⟨_, a', _, by unfold gTyp; rw [rd_bind hg.out]; simp, ha, ⟨rfl, by omega, by omega⟩, rfl, hR⟩⟩
     · have n3 : ¬ v = 127 := fun e => hc (.inl e); have n4 : ¬ v = 126 := fun e => hc (.inr e); have e3 : (v == 127) = false := (by rw [beq_eq_false_iff_ne]; exact n3)
       have e4 : (v == 126) = false := (by rw [beq_eq_false_iff_ne]; exact n4)
       replace hc := zh hc; go_wp2_with fail; refine (dwant_yes 51 w').mono ?_; rintro e' w2 ⟨rfl, rfl⟩; go_wp2_with fail; refine (dwant_no 50 w').mono ?_; rintro e' w2 ⟨rfl, rfl⟩; exact ⟨rfl, hW, .inr ⟨50, by unfold gTyp; rw [rd_bind hg.out, if_neg hb.out, if_neg hc.out], rfl⟩⟩
 · exact ⟨rfl, hW, .inr ⟨n, by unfold gTyp; rw [rd_err hg], rfl⟩⟩
theorem ext_size {s : ByteArray} {e : Nat} (he : e ≤ s.size) : (s.extract 0 e).size = e := by rw [ByteArray.size_extract]; omega
theorem ext_strl {s : ByteArray} {e : Nat} (he : e ≤ s.size) : strl (s.extract 0 e) = (strl s).take e := by unfold strl; rw [ByteArray.data_extract, Array.toList_extract]; simp
theorem from_ext {s : ByteArray} {e a : Nat} (he : e ≤ s.size) : from_ (s.extract 0 e) a = win (strl s) a e := by unfold from_ win; rw [ext_strl he]
def UOut (P : Nat → Nat → Option Int) (K : Nat) (L : List UInt8) (e a : Nat) (x y z : Int) : Prop :=
 (∃ n c v, grp K L = some (n, c) ∧ 1 ≤ c ∧ a + c ≤ e ∧ P n c = some v ∧ x = v ∧ y = ((a + c : Nat) : Int) ∧ z = 0) ∨ ((∀ n c, grp K L = some (n, c) → P n c = none) ∧ z = 10)
def pU (n c : Nat) : Option Int := if n < 4294967296 then some (n : Int) else none
def pS32 (n c : Nat) : Option Int := if -2147483648 ≤ sgn n c ∧ sgn n c ≤ 2147483647 then some (sgn n c) else none
def pS64 (n c : Nat) : Option Int := if -9223372036854775808 ≤ sgn n c ∧ sgn n c ≤ 9223372036854775807 then some (sgn n c) else none
theorem leb_u32x (s : ByteArray) (hs : s.size ≤ 262144) (e : Nat) (he : e ≤ s.size) (a : Nat) (ha : a ≤ e) (w : World) :
 Calls Tryz.prog 176 #[.string (s.extract 0 e), .int .i64 a, .int .i64 32] w fun e' w' => Below w.heap.size w w' ∧ ∃ x y z, e' = .returned (.tuple #[.int .u64 x, .int .i64 y, .int .i64 z]) ∧ UOut pU 5 (win (strl s) a e) e a x y z := by
 refine (leb_u32 (s.extract 0 e) (by rw [ext_size he]; omega) a (by rw [ext_size he]; exact ha) w).mono ?_; rintro e' w' ⟨hB, ⟨n, c, hg, h1, h2, h3, rfl⟩ | ⟨hn, rfl⟩⟩
 · rw [from_ext he] at hg; rw [ext_size he] at h2; exact ⟨hB, _, _, _, rfl, .inl ⟨n, c, n, hg, h1, h2, if_pos h3, rfl, rfl, rfl⟩⟩
 · rw [from_ext he] at hn; exact ⟨hB, _, _, _, rfl, .inr ⟨fun n c h => if_neg (by have := hn n c h; omega), rfl⟩⟩
theorem leb_s32x (s : ByteArray) (hs : s.size ≤ 262144) (e : Nat) (he : e ≤ s.size) (a : Nat) (ha : a ≤ e) (w : World) :
 Calls Tryz.prog 198 #[.string (s.extract 0 e), .int .i64 a, .int .i64 32] w fun e' w' => Below w.heap.size w w' ∧ ∃ x y z, e' = .returned (.tuple #[.int .i64 x, .int .i64 y, .int .i64 z]) ∧ UOut pS32 5 (win (strl s) a e) e a x y z := by
 refine (leb_s32 (s.extract 0 e) (by rw [ext_size he]; omega) a (by rw [ext_size he]; exact ha) w).mono ?_; rintro e' w' ⟨hB, ⟨n, c, hg, h1, h2, h3, h4, rfl⟩ | ⟨hn, rfl⟩⟩
 · rw [from_ext he] at hg; rw [ext_size he] at h2; exact ⟨hB, _, _, _, rfl, .inl ⟨n, c, _, hg, h1, h2, if_pos ⟨h3, h4⟩, rfl, rfl, rfl⟩⟩
 · rw [from_ext he] at hn; exact ⟨hB, _, _, _, rfl, .inr ⟨fun n c h => if_neg (hn n c h), rfl⟩⟩
theorem leb_s64x (s : ByteArray) (hs : s.size ≤ 262144) (e : Nat) (he : e ≤ s.size) (a : Nat) (ha : a ≤ e) (w : World) :
 Calls Tryz.prog 198 #[.string (s.extract 0 e), .int .i64 a, .int .i64 64] w fun e' w' => Below w.heap.size w w' ∧ ∃ x y z, e' = .returned (.tuple #[.int .i64 x, .int .i64 y, .int .i64 z]) ∧ UOut pS64 10 (win (strl s) a e) e a x y z := by
 refine (leb_s64 (s.extract 0 e) (by rw [ext_size he]; omega) a (by rw [ext_size he]; exact ha) w).mono ?_; rintro e' w' ⟨hB, ⟨n, c, hg, h1, h2, h3, h4, rfl⟩ | ⟨hn, rfl⟩⟩
 · rw [from_ext he] at hg; rw [ext_size he] at h2; exact ⟨hB, _, _, _, rfl, .inl ⟨n, c, _, hg, h1, h2, if_pos ⟨h3, h4⟩, rfl, rfl, rfl⟩⟩
 · rw [from_ext he] at hn; exact ⟨hB, _, _, _, rfl, .inr ⟨fun n c h => if_neg (hn n c h), rfl⟩⟩
def VSgn (v : Int) (x : Value) : Prop := x = .int .i64 v ∧ -9223372036854775808 ≤ v ∧ v ≤ 9223372036854775807
set_option maxRecDepth 100000 in
set_option maxHeartbeats 4000000 in
theorem u_any {w : World} {p : Nat} {s : ByteArray} {a e : Nat} {l : Int} {cs : List Value} (h : RdAt w p s (a : Int) (e : Int) l cs) (hs : s.size ≤ 262144) (he : e ≤ s.size) (ha : a ≤ e) :
 Calls Tryz.prog 126 #[.pointer (some ⟨p, 0, none⟩)] w (Rd VInt p s e l cs (gU (strl s) e a) w) := by
 have c0 := h.c0; have c1 := h.c1; have c2 := h.c2; go_enter Tryz.func126, Tryz.ntmps126; go_wp2_with fail
 go_region_held3 (fun w' => w'.cell? ⟨p, 0, none⟩ = some (.string s) ∧ w'.cell? ⟨p, 1, none⟩ = some (.int .i64 a) ∧ w'.cell? ⟨p, 2, none⟩ = some (.int .i64 e)) (go_keep)
  (first | (go_at_call 176; refine (leb_u32x s hs e he a ha _).mono ?_; rintro e' w1 ⟨hB, x, y, z, rfl, hU⟩; have k0 := keep_below hB ⟨p, 0, none⟩ _ c0; have k1 := keep_below hB ⟨p, 1, none⟩ _ c1; have k2 := keep_below hB ⟨p, 2, none⟩ _ c2; replace hU := zh hU; replace hB := zh hB))
 have h1 : RdAt w1 p s (a : Int) (e : Int) l cs := (h.drew).below hB.out; have t1 : Wr (· = p) w w1 := (Wr.refl (· = p) w).drew.trans (Wr.of_below hB.out); clear k0 k1 k2 c0 c1 c2 h hB
 rcases hU.out with ⟨n, c, v, hgr, hc1, hce, hP, rfl, rfl, rfl⟩ | ⟨hno, rfl⟩
 · have hv : 0 ≤ x ∧ x < 4294967296 := by
    unfold pU at hP; split at hP
    · simp only [Option.some.injEq] at hP; omega
    · simp at hP
   have hgg : gU (strl s) e a = .ok (x, a + c) := by
    unfold gU; rw [hgr]; unfold pU at hP; split at hP
    · rename_i hin; obtain rfl := Option.some.inj hP; exact if_pos hin
    · simp at hP
   have hw : IntKind.i64.wrap x = x := wid64 _ (by omega) (by omega); replace hgg := zh hgg; replace hP := zh hP; replace hgr := zh hgr; clear hU; have f1 := h1.fr 1; go_wp2_with fail; refine (dwant_yes 50 w1).mono ?_; rintro e' w2 ⟨rfl, rfl⟩; go_wp2_with fail; refine bodyPost_ret (by simp [results, Tryz.results126, go_sem] <;> rfl) rfl ?_; exact ⟨t1.set (S := (· = p)) rfl 1 _, .inl ⟨x, a + c, _, hgg.out, by omega, ⟨rfl, hv.1, hv.2⟩, rfl, by have := h1.set1 ((a + c : Nat) : Int); simpa using this⟩⟩
 · have hgg : gU (strl s) e a = .error 50 := by
    unfold gU; cases hq : grp 5 (win (strl s) a e) with
    | none => rfl
    | some q =>
      have := hno q.1 q.2 hq; unfold pU at this; split at this
      · simp at this
      · rename_i hin; exact if_neg hin
   replace hgg := zh hgg; clear hU hno; go_wp2_with fail; refine (dwant_no 50 w1).mono ?_; rintro e' w2 ⟨rfl, rfl⟩; exact ⟨rfl, t1, .inr ⟨50, hgg.out, rfl⟩⟩
set_option maxRecDepth 100000 in
set_option maxHeartbeats 4000000 in
theorem s32_any {w : World} {p : Nat} {s : ByteArray} {a e : Nat} {l : Int} {cs : List Value} (h : RdAt w p s (a : Int) (e : Int) l cs) (hs : s.size ≤ 262144) (he : e ≤ s.size) (ha : a ≤ e) :
 Calls Tryz.prog 190 #[.pointer (some ⟨p, 0, none⟩), .int .i64 32] w (Rd VSgn p s e l cs (gS32 (strl s) e a) w) := by
 have c0 := h.c0; have c1 := h.c1; have c2 := h.c2; go_enter Tryz.func190, Tryz.ntmps190; go_wp2_with fail
 go_region_held3 (fun w' => w'.cell? ⟨p, 0, none⟩ = some (.string s) ∧ w'.cell? ⟨p, 1, none⟩ = some (.int .i64 a) ∧ w'.cell? ⟨p, 2, none⟩ = some (.int .i64 e)) (go_keep)
  (first | (go_at_call 198; refine (leb_s32x s hs e he a ha _).mono ?_; rintro e' w1 ⟨hB, x, y, z, rfl, hU⟩; have k0 := keep_below hB ⟨p, 0, none⟩ _ c0; have k1 := keep_below hB ⟨p, 1, none⟩ _ c1; have k2 := keep_below hB ⟨p, 2, none⟩ _ c2; replace hU := zh hU; replace hB := zh hB))
 have h1 : RdAt w1 p s (a : Int) (e : Int) l cs := (h.drew).below hB.out; have t1 : Wr (· = p) w w1 := (Wr.refl (· = p) w).drew.trans (Wr.of_below hB.out); clear k0 k1 k2 c0 c1 c2 h hB
 rcases hU.out with ⟨n, c, v, hgr, hc1, hce, hP, rfl, rfl, rfl⟩ | ⟨hno, rfl⟩
 · have hv : -9223372036854775808 ≤ x ∧ x ≤ 9223372036854775807 := by
    unfold pS32 at hP; split at hP
    · simp only [Option.some.injEq] at hP; omega
    · simp at hP
   have hgg : gS32 (strl s) e a = .ok (x, a + c) := by
    unfold gS32; rw [hgr]; unfold pS32 at hP; split at hP
    · rename_i hin; obtain rfl := Option.some.inj hP; exact if_pos hin
    · simp at hP
   skip
   replace hgg := zh hgg; replace hP := zh hP; replace hgr := zh hgr; clear hU; have f1 := h1.fr 1; go_wp2_with fail; refine (dwant_yes 50 w1).mono ?_; rintro e' w2 ⟨rfl, rfl⟩; go_wp2_with fail; refine bodyPost_ret (by simp [results, Tryz.results190, go_sem] <;> rfl) rfl ?_; exact ⟨t1.set (S := (· = p)) rfl 1 _, .inl ⟨x, a + c, _, hgg.out, by omega, ⟨rfl, hv.1, hv.2⟩, rfl, by have := h1.set1 ((a + c : Nat) : Int); simpa using this⟩⟩
 · have hgg : gS32 (strl s) e a = .error 50 := by
    unfold gS32; cases hq : grp 5 (win (strl s) a e) with
    | none => rfl
    | some q =>
      have := hno q.1 q.2 hq; unfold pS32 at this; split at this
      · simp at this
      · rename_i hin; exact if_neg hin
   replace hgg := zh hgg; clear hU hno; go_wp2_with fail; refine (dwant_no 50 w1).mono ?_; rintro e' w2 ⟨rfl, rfl⟩; exact ⟨rfl, t1, .inr ⟨50, hgg.out, rfl⟩⟩
set_option maxRecDepth 100000 in
set_option maxHeartbeats 4000000 in
theorem s64_any {w : World} {p : Nat} {s : ByteArray} {a e : Nat} {l : Int} {cs : List Value} (h : RdAt w p s (a : Int) (e : Int) l cs) (hs : s.size ≤ 262144) (he : e ≤ s.size) (ha : a ≤ e) :
 Calls Tryz.prog 190 #[.pointer (some ⟨p, 0, none⟩), .int .i64 64] w (Rd VSgn p s e l cs (gS64 (strl s) e a) w) := by
 have c0 := h.c0; have c1 := h.c1; have c2 := h.c2; go_enter Tryz.func190, Tryz.ntmps190; go_wp2_with fail
 go_region_held3 (fun w' => w'.cell? ⟨p, 0, none⟩ = some (.string s) ∧ w'.cell? ⟨p, 1, none⟩ = some (.int .i64 a) ∧ w'.cell? ⟨p, 2, none⟩ = some (.int .i64 e)) (go_keep)
  (first | (go_at_call 198; refine (leb_s64x s hs e he a ha _).mono ?_; rintro e' w1 ⟨hB, x, y, z, rfl, hU⟩; have k0 := keep_below hB ⟨p, 0, none⟩ _ c0; have k1 := keep_below hB ⟨p, 1, none⟩ _ c1; have k2 := keep_below hB ⟨p, 2, none⟩ _ c2; replace hU := zh hU; replace hB := zh hB))
 have h1 : RdAt w1 p s (a : Int) (e : Int) l cs := (h.drew).below hB.out; have t1 : Wr (· = p) w w1 := (Wr.refl (· = p) w).drew.trans (Wr.of_below hB.out); clear k0 k1 k2 c0 c1 c2 h hB
 rcases hU.out with ⟨n, c, v, hgr, hc1, hce, hP, rfl, rfl, rfl⟩ | ⟨hno, rfl⟩
 · have hv : -9223372036854775808 ≤ x ∧ x ≤ 9223372036854775807 := by
    unfold pS64 at hP; split at hP
    · simp only [Option.some.injEq] at hP; omega
    · simp at hP
   have hgg : gS64 (strl s) e a = .ok (x, a + c) := by
    unfold gS64; rw [hgr]; unfold pS64 at hP; split at hP
    · rename_i hin; obtain rfl := Option.some.inj hP; exact if_pos hin
    · simp at hP
   skip
   replace hgg := zh hgg; replace hP := zh hP; replace hgr := zh hgr; clear hU; have f1 := h1.fr 1; go_wp2_with fail; refine (dwant_yes 50 w1).mono ?_; rintro e' w2 ⟨rfl, rfl⟩; go_wp2_with fail; refine bodyPost_ret (by simp [results, Tryz.results190, go_sem] <;> rfl) rfl ?_; exact ⟨t1.set (S := (· = p)) rfl 1 _, .inl ⟨x, a + c, _, hgg.out, by omega, ⟨rfl, hv.1, hv.2⟩, rfl, by have := h1.set1 ((a + c : Nat) : Int); simpa using this⟩⟩
 · have hgg : gS64 (strl s) e a = .error 50 := by
    unfold gS64; cases hq : grp 10 (win (strl s) a e) with
    | none => rfl
    | some q =>
      have := hno q.1 q.2 hq; unfold pS64 at this; split at this
      · simp at this
      · rename_i hin; exact if_neg hin
   replace hgg := zh hgg; clear hU hno; go_wp2_with fail; refine (dwant_no 50 w1).mono ?_; rintro e' w2 ⟨rfl, rfl⟩; exact ⟨rfl, t1, .inr ⟨50, hgg.out, rfl⟩⟩
end Go.Proofs.YtkbfjkbokifgkaaGreatDoor
