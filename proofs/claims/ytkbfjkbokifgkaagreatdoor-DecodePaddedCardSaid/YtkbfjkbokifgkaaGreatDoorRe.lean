/- read: the reader's block, the deferred recover. -/
import Derived.Test.YtkbfjkbokifgkaaGreatDoorGy
namespace Go.Proofs.YtkbfjkbokifgkaaGreatDoor
open Go.RowKit
set_option linter.unusedVariables false
set_option linter.unusedSimpArgs false
def csN : List Value := [.slice none 0 0, .slice none 0 0, .slice none 0 0, .slice none 0 0, .slice none 0 0, .slice none 0 0, .slice none 0 0, .slice none 0 0, .slice none 0 0, .slice none 0 0, .bool false]
theorem Bk.same {w : World} {q : Nat} {u : Value} {T : TypeId} (h : Bk w q [u] T) : w.setCell ⟨q, 0, none⟩ u = w := by
 unfold World.setCell
 have : (w.heap.modify q fun | .cells c elem frozen => .cells (if (none : Option Nat).isSome then c else c.setIfInBounds 0 u) elem frozen | o => o) = w.heap := by
  apply Array.ext_getElem?; intro i; rw [Array.getElem?_modify]; split
  · rename_i e; subst e; rw [h.row]; rfl
  · rfl
 exact congrArg (fun x => { w with heap := x }) this
structure ReadB (N : Nat) (w1 : World) : Prop where
 b0 : Bk w1 N [.pointer (some ⟨N + 1 + 1, 0, none⟩)] 60
 b1 : Bk w1 (N + 1) [.int .i64 0] 34
structure ReadQ (w : World) (s : ByteArray) (a : Nat) (w1 : World) : Prop where
 below : Below w.heap.size w w1
 rd : RdAt w1 (w.heap.size + 1 + 1) s (a : Int) (s.size : Int) 65536 csN
 bk : ReadB w.heap.size w1
 size : w1.heap.size = w.heap.size + 1 + 1 + 1
theorem caught_at {N : Nat} {w2 : World} {n : Int} (h : ReadB N w2) : (caughtW w2 N (N + 1) n).cell? ⟨N, 0, none⟩ = some (.pointer none) ∧ (caughtW w2 N (N + 1) n).cell? ⟨N + 1, 0, none⟩ = some (.int .i64 n) := by have hB : Below w2.heap.size w2 (w2.alloc (.cells #[.int .i64 n] 118)).drew := ((Below.refl _ _).alloc (Nat.le_refl _) _).drew; have h0 := (h.b0.below hB).set 0 (.pointer none); have h1 := (h.b1.below hB).far (p := N) (by omega) 0 (.pointer none); exact ⟨(h0.far (p := N + 1) (by omega) 0 (.int .i64 n)).cell rfl, (h1.set 0 (.int .i64 n)).cell rfl⟩
theorem size_of {w : World} {h : Nat} (hh : w.heap.size = h) (o : Obj) : (w.alloc o).heap.size = h + 1 := by simp [hh]
set_option maxRecDepth 100000 in
set_option maxHeartbeats 4000000 in
theorem read_any {w : World} {s : ByteArray} {a K : Nat} {caps : Array Value} {J : World → Prop} {F : Int → Prop} {V : World → Prop} (hs : s.size ≤ 262144) (ha : a ≤ s.size)
 (hcall : ∀ w', (callFunc K (#[.pointer (some ⟨w.heap.size + 1 + 1, 0, none⟩)] ++ caps)).run Tryz.prog w' = .ok (.enter K (#[.pointer (some ⟨w.heap.size + 1 + 1, 0, none⟩)] ++ caps)) w')
 (hw : ∀ w1, ReadQ w s a w1 → Calls Tryz.prog K (#[.pointer (some ⟨w.heap.size + 1 + 1, 0, none⟩)] ++ caps) w1 fun e' w2 => ReadB w.heap.size w2 ∧ ((J w2 ∧ e' = .returned (.tuple #[])) ∨ (∃ n, F n ∧ e' = .panicked (flt n) ∧ V w2))) :
 Calls Tryz.prog 24 #[.string s, .int .i64 (a : Int), .func (Fn.func K) #[] caps] w fun e' w' =>
  (J w' ∧ e' = .returned (.tuple #[.pointer (some ⟨w.heap.size + 1 + 1, 0, none⟩), .int .i64 0])) ∨
  (∃ n, F n ∧ e' = .returned (.tuple #[.pointer none, .int .i64 n]) ∧ ∃ w2, V w2 ∧ ReadB w.heap.size w2 ∧ w' = caughtW w2 w.heap.size (w.heap.size + 1) n) := by
 have hi1 : ¬ (262144 : Int) < (s.size : Int) := (by omega)
 have hi2 : ¬ (a : Int) < 0 := (by omega)
 have hi3 : ¬ (s.size : Int) < (a : Int) := (by omega)
 have hmf := hmf; replace hw := zh hw
 go_enter_defers Tryz.func24, Tryz.ntmps24
 go_upto_region 7 with (fail)
 obtain ⟨w1, hw1⟩ : ∃ w1, w1 = (((w.alloc (Obj.cells #[.pointer (some ⟨w.heap.size + 1 + 1, 0, none⟩)] 60)).alloc (Obj.cells #[.int .i64 0] 34)).alloc (Obj.cells #[.string s, .int .i64 (a : Int), .int .i64 (s.size : Int), .int .i64 65536, .slice none 0 0, .slice none 0 0, .slice none 0 0, .slice none 0 0, .slice none 0 0, .slice none 0 0, .slice none 0 0, .slice none 0 0, .slice none 0 0, .slice none 0 0, .bool false] 65)) := ⟨_, rfl⟩
 have hQ : ReadQ w s a w1 := by
  have s1 := size_of (w := w) rfl (Obj.cells #[.pointer (some ⟨w.heap.size + 1 + 1, 0, none⟩)] 60); have r0 : Bk (w.alloc (Obj.cells #[.pointer (some ⟨w.heap.size + 1 + 1, 0, none⟩)] 60)) w.heap.size [.pointer (some ⟨w.heap.size + 1 + 1, 0, none⟩)] 60 := Bk.new w _ 60; have b1 : Below w.heap.size w (w.alloc (Obj.cells #[.pointer (some ⟨w.heap.size + 1 + 1, 0, none⟩)] 60)) := (Below.refl _ _).alloc (Nat.le_refl _) _; obtain ⟨wx, hwx⟩ : ∃ wx, wx = w.alloc (Obj.cells #[.pointer (some ⟨w.heap.size + 1 + 1, 0, none⟩)] 60) := ⟨_, rfl⟩
  rw [← hwx] at s1 r0 b1 hw1; have s2 := size_of s1 (Obj.cells #[.int .i64 0] 34); have r1 : Bk (wx.alloc (Obj.cells #[.int .i64 0] 34)) (w.heap.size + 1) [.int .i64 0] 34 := (by rw [← s1]; exact Bk.new wx _ 34)
  have r2 := r0.below (w' := wx.alloc (Obj.cells #[.int .i64 0] 34)) ((Below.refl _ _).alloc (Nat.le_refl _) _); have b2 := b1.alloc (by omega) (Obj.cells #[.int .i64 0] 34); obtain ⟨wy, hwy⟩ : ∃ wy, wy = wx.alloc (Obj.cells #[.int .i64 0] 34) := ⟨_, rfl⟩
  rw [← hwy] at s2 r1 r2 b2 hw1; have h3 : Below wy.heap.size wy w1 := (by rw [hw1]; exact (Below.refl _ _).alloc (Nat.le_refl _) _)
  have b3 : Below w.heap.size w w1 := b2.trans (h3.mono (by omega)); refine ⟨b3, ⟨?_, rfl⟩, ⟨r2.below h3, r1.below h3⟩, ?_⟩
  · rw [hw1, ← s2]; exact heap_alloc_new _ _
  · rw [hw1]; exact size_of s2 _
 rw [← hw1]; clear hw1; have c0 := hQ.bk.b0.cell (j := 0) rfl; have hcl := hw.out w1 hQ; replace hcl := zh hcl; replace hQ := zh hQ; clear hw; go_wp2_with fail; refine hcl.out.mono ?_; rintro e' w2 ⟨hB, ⟨hJ, rfl⟩ | ⟨n, hF, rfl, hV⟩⟩
 · have c0 := hB.b0.cell (j := 0) rfl; have c1 := hB.b1.cell (j := 0) rfl; have f0 := hB.b0.fr 0; have f1 := hB.b1.fr 0; have e1 := hB.b0.same; have e2 := hB.b1.same; replace hB := zh hB; replace e1 := zh e1; replace e2 := zh e2; go_wp2_with fail; rw [e1.out, e2.out]; refine leaves_cons (f := 64) (args := #[.pointer (some ⟨w.heap.size, 0, none⟩), .pointer (some ⟨w.heap.size + 1, 0, none⟩)]) (by simp) (by simp [go_sem]) ?_; refine (rcatch_idle ⟨w.heap.size, 0, none⟩ ⟨w.heap.size + 1, 0, none⟩ _).mono ?_; rintro e u' w'' ⟨rfl, rfl, rfl⟩; simp [Leaves, settle, results, Tryz.results24, go_sem, c0, c1]; exact hJ
 · go_wp2; unfold flt; refine leaves_cons (f := 64) (args := #[.pointer (some ⟨w.heap.size, 0, none⟩), .pointer (some ⟨w.heap.size + 1, 0, none⟩)]) (by simp) (by simp [go_sem]) ?_; refine (rcatch_fault w.heap.size (w.heap.size + 1) (by omega) _ _ n [] _ hB.b0 hB.b1).mono ?_; rintro e u' w'' ⟨rfl, rfl, rfl⟩; have hc1 := (caught_at (n := n) hB).1; have hc2 := (caught_at (n := n) hB).2; simp [Leaves, settle, results, Tryz.results24, go_sem]; rw [hc1]; refine ⟨.tuple #[.pointer none, .int .i64 n], ?_, .inr ⟨n, hF, rfl, w2, hV, hB, rfl⟩⟩
   dsimp only [Result.andThen]
   rw [hc2]
theorem MS.old {N N' : Nat} {S : Nat → Prop} {w w' : World} {p : Nat} {v0 v1 v2 v3 v4 v5 v6 v7 v8 v9 : Value} {m : Md} {cd : Bool} (h : MS N w p v0 v1 v2 v3 v4 v5 v6 v7 v8 v9 m cd) (k : Wr S w w') (hS : ∀ b, S b → b < N) (hN : N' ≤ N) : MS N' w' p v0 v1 v2 v3 v4 v5 v6 v7 v8 v9 m cd := by
 refine ⟨h.types.keep k (fun b hb hs => by have := hS b hs; have := hb.2.2; omega) (fun b hb _ => ⟨hb.1, hb.2.1, by have := hb.2.2; omega⟩), h.imports.keep k (fun b hb hs => by have := hS b hs; have := hb.2.2; omega) (fun b hb _ => ⟨hb.1, hb.2.1, by have := hb.2.2; omega⟩), h.tables.keep k (fun b hb hs => by have := hS b hs; have := hb.2.2; omega) (fun b hb _ => ⟨hb.1, hb.2.1, by have := hb.2.2; omega⟩), h.mems.keep k (fun b hb hs => by have := hS b hs; have := hb.2.2; omega) (fun b hb _ => ⟨hb.1, hb.2.1, by have := hb.2.2; omega⟩), h.globals.keep k (fun b hb hs => by have := hS b hs; have := hb.2.2; omega) (fun b hb _ => ⟨hb.1, hb.2.1, by have := hb.2.2; omega⟩), h.exports.keep k (fun b hb hs => by have := hS b hs; have := hb.2.2; omega) (fun b hb _ => ⟨hb.1, hb.2.1, by have := hb.2.2; omega⟩), h.start.keep k (fun b hb hs => by have := hS b hs; have := hb.2.2; omega) (fun b hb _ => ⟨hb.1, hb.2.1, by have := hb.2.2; omega⟩), h.elems.keep k (fun b hb hs => by have := hS b hs; have := hb.2.2; omega) (fun b hb _ => ⟨hb.1, hb.2.1, by have := hb.2.2; omega⟩), h.datas.keep k (fun b hb hs => by have := hS b hs; have := hb.2.2; omega) (fun b hb _ => ⟨hb.1, hb.2.1, by have := hb.2.2; omega⟩), ?_⟩
 rcases h.funcs with ⟨tys, h1, hl, h2⟩ | ⟨h0, g, cap, cur, rs, h1, h2, h3, h4, h5, h6, h7, h8⟩
 · exact .inl ⟨tys, h1, hl, h2.keep k (fun b hb hs => by have := hS b hs; have := hb.2; omega) (fun b hb _ => ⟨hb.1, by have := hb.2; omega⟩)⟩
 · exact .inr ⟨h0, g, cap, cur, rs, h1, h2, h3.wr k (fun hs => by have := hS g hs; omega), h4, h5, by omega, h7, fun r hr => (h8 r hr).keep (keeps_wrS k (fun b hb hs => by have := hS b hs; have := hb.2.2; omega) (fun b hb _ => ⟨hb.1, hb.2.1, by have := hb.2.2; omega⟩))⟩
def popW (w : World) : World := { w with heap := w.heap.pop }
theorem pop_size {w : World} {n : Nat} (h : w.heap.size = n + 1) : (popW w).heap.size = n := by
 unfold popW
 show w.heap.pop.size = n
 rw [Array.size_pop, h]; rfl
theorem pop_below {w : World} {n : Nat} (h : w.heap.size = n + 1) : Below n (popW w) w := by
 refine ⟨rfl, rfl, rfl, by rw [pop_size h]; omega, fun k hk => ?_⟩
 show _ = w.heap.pop[k]?
 rw [Array.getElem?_pop]; split
 · rfl
 · omega
theorem ss0 {W0 w1 : World} {p : Nat} {s : ByteArray} (h : RdAt w1 p s ((0 : Nat) : Int) (s.size : Int) ((65536 : Nat) : Int) csN) (hb : Below W0.heap.size W0 w1) (hp : W0.heap.size ≤ p) : SS W0 w1 p s 0 s.size 0 md0 false 65536 (.slice none 0 0) (.slice none 0 0) (.slice none 0 0) (.slice none 0 0) (.slice none 0 0) (.slice none 0 0) (.slice none 0 0) (.slice none 0 0) (.slice none 0 0) (.slice none 0 0) :=
 ⟨h, ⟨FdOk.nil, FdOk.nil, FdOk.nil, FdOk.nil, FdOk.nil, FdOk.nil, FdOk.nil, FdOk.nil, FdOk.nil, .inl ⟨[], rfl, by decide, FdOk.nil⟩⟩, fun _ => rfl, fun _ => rfl, fun _ => rfl, fun _ => rfl, fun _ => rfl, fun _ => rfl, fun _ => rfl, fun _ => rfl, fun _ => rfl, fun _ => rfl, fun _ => ⟨rfl, rfl⟩, hb, hp⟩
def DJ (w : World) (s : ByteArray) (w2 : World) : Prop := ∃ W0 m a lt cd l v0 v1 v2 v3 v4 v5 v6 v7 v8 v9, W0.heap.size = w.heap.size + 1 + 1 ∧ Below w.heap.size w W0 ∧ gModule (strl s) = .ok m ∧ SS W0 w2 (w.heap.size + 1 + 1) s a s.size lt m cd l v0 v1 v2 v3 v4 v5 v6 v7 v8 v9
set_option maxRecDepth 100000 in
theorem readM_any {w : World} {s : ByteArray} (hs : s.size ≤ 262144) (hT : TabU w) :
 Calls Tryz.prog 24 #[.string s, .int .i64 0, .func (Fn.func 25) #[] #[]] w fun e' w' =>
  (DJ w s w' ∧ e' = .returned (.tuple #[.pointer (some ⟨w.heap.size + 1 + 1, 0, none⟩), .int .i64 0])) ∨
  (∃ n, gModule (strl s) = .error n ∧ e' = .returned (.tuple #[.pointer none, .int .i64 n]) ∧ ∃ w2, Below w.heap.size w w2 ∧ ReadB w.heap.size w2 ∧ w' = caughtW w2 w.heap.size (w.heap.size + 1) n) := by
 refine read_any (a := 0) (K := 25) (caps := #[]) (J := DJ w s) (F := fun n => gModule (strl s) = .error n) (V := fun w2 => Below w.heap.size w w2) hs (Nat.zero_le _) (fun w' => by rw [Array.append_empty]; rfl) fun w1 hQ => ?_; rw [Array.append_empty]
 have hM : gModule (strl s) = gRest (strl s) headL 0 := by unfold gModule; rw [if_neg (by rw [strl_length]; omega)]; rfl
 have hp := pop_below hQ.size; have hz := pop_size hQ.size; have h0 : Below w.heap.size w (popW w1) := ⟨hQ.below.os, hQ.below.tape, hQ.below.output, by omega, fun k hk => (hp.block k (by omega)).symm.trans (hQ.below.block k hk)⟩
 have hB : ∀ w2, Below (w.heap.size + 1 + 1) (popW w1) w2 → ReadB w.heap.size w2 := fun w2 h => ⟨⟨(h.block _ (by omega)).trans ((hp.block _ (by omega)).symm.trans hQ.bk.b0.row)⟩, ⟨(h.block _ (by omega)).trans ((hp.block _ (by omega)).symm.trans hQ.bk.b1.row)⟩⟩
 refine (module_any (ss0 (W0 := popW w1) (by rw [show ((65536 : Nat) : Int) = 65536 by omega]; exact hQ.rd) (by rw [hz]; exact hp) (by omega)) (hT.below h0) hs).mono ?_; rintro e' w2 (⟨m, hm, rfl, a, lt, cd, l, v0, v1, v2, v3, v4, v5, v6, v7, v8, v9, hS⟩ | ⟨n, hn, rfl, hV⟩)
 · exact ⟨hB w2 (by have := hS.bl; rwa [hz] at this), .inl ⟨⟨popW w1, m, a, lt, cd, l, v0, v1, v2, v3, v4, v5, v6, v7, v8, v9, hz, h0, hM.trans hm, hS⟩, rfl⟩⟩
 · rw [hz] at hV; exact ⟨hB w2 hV, .inr ⟨n, hM.trans hn, rfl, h0.trans (hV.mono (by omega))⟩⟩
set_option maxRecDepth 100000 in
set_option maxHeartbeats 4000000 in
theorem read_big {w : World} {s : ByteArray} {a : Int} {v : Value} (hs : 262144 < s.size) :
 Calls Tryz.prog 24 #[.string s, .int .i64 a, v] w fun e' w' => e' = .returned (.tuple #[.pointer none, .int .i64 2]) ∧ Below w.heap.size w w' := by
 have hi1 : (262144 : Int) < (s.size : Int) := (by omega)
 go_enter Tryz.func24, Tryz.ntmps24; go_wp2_with fail; have hb : Below w.heap.size w ((w.alloc (.cells #[.pointer none] 60)).alloc (.cells #[.int .i64 2] 34)) := ((Below.refl _ _).alloc (Nat.le_refl _) _).alloc (by simp) _
 have c0 : ((w.alloc (.cells #[.pointer none] 60)).alloc (.cells #[.int .i64 2] 34)).cell? ⟨w.heap.size, 0, none⟩ = some (.pointer none) := by rw [World.cell?_alloc_past _ _ _ (by simp)]; exact World.cell?_alloc_at _ _ _ _ rfl
 have c1 : ((w.alloc (.cells #[.pointer none] 60)).alloc (.cells #[.int .i64 2] 34)).cell? ⟨w.heap.size + 1, 0, none⟩ = some (.int .i64 2) := World.cell?_alloc_at _ _ _ _ (by simp); obtain ⟨wz, hwz⟩ : ∃ wz, wz = (w.alloc (.cells #[.pointer none] 60)).alloc (.cells #[.int .i64 2] 34) := ⟨_, rfl⟩
 rw [← hwz] at hb c0 c1 ⊢; simp [bodyPost, results, Tryz.results24, go_sem, c0, c1]; exact hb
def zeroM : Value := .agg #[.slice none 0 0, .slice none 0 0, .slice none 0 0, .slice none 0 0, .slice none 0 0, .slice none 0 0, .slice none 0 0, .slice none 0 0, .slice none 0 0, .slice none 0 0]
theorem caught_wr {N : Nat} {w2 : World} {n : Int} : Wr (fun b => b = N ∨ b = N + 1) w2 (caughtW w2 N (N + 1) n) := by have hB : Below w2.heap.size w2 (w2.alloc (.cells #[.int .i64 n] 118)).drew := ((Below.refl _ _).alloc (Nat.le_refl _) _).drew; exact ((Wr.of_below hB).set (.inl rfl) 0 _).set (.inr rfl) 0 _
theorem put10 {w : World} {q : Nat} {u0 u1 u2 u3 u4 u5 u6 u7 u8 u9 v0 v1 v2 v3 v4 v5 v6 v7 v8 v9 : Value} {Ty : TypeId} (h : Bk w q [u0, u1, u2, u3, u4, u5, u6, u7, u8, u9] Ty) : ∃ wz, wz = ((((((((((w.setCell ⟨q, 0, none⟩ v0).setCell ⟨q, 1, none⟩ v1).setCell ⟨q, 2, none⟩ v2).setCell ⟨q, 3, none⟩ v3).setCell ⟨q, 4, none⟩ v4).setCell ⟨q, 5, none⟩ v5).setCell ⟨q, 6, none⟩ v6).setCell ⟨q, 7, none⟩ v7).setCell ⟨q, 8, none⟩ v8).setCell ⟨q, 9, none⟩ v9) ∧ Bk wz q [v0, v1, v2, v3, v4, v5, v6, v7, v8, v9] Ty ∧ Wr (· = q) w wz :=
 ⟨_, rfl, ((((((((((h.set 0 v0).set 1 v1).set 2 v2).set 3 v3).set 4 v4).set 5 v5).set 6 v6).set 7 v7).set 8 v8).set 9 v9), (((((((((((Wr.refl (· = q) w).set (S := (· = q)) rfl 0 v0).set (S := (· = q)) rfl 1 v1).set (S := (· = q)) rfl 2 v2).set (S := (· = q)) rfl 3 v3).set (S := (· = q)) rfl 4 v4).set (S := (· = q)) rfl 5 v5).set (S := (· = q)) rfl 6 v6).set (S := (· = q)) rfl 7 v7).set (S := (· = q)) rfl 8 v8).set (S := (· = q)) rfl 9 v9)⟩
theorem FdOk.slice {α : Type} {K : Kd α} {E : TypeId} {R : Nat → Prop} {w : World} {v : Value} {xs : List α} (h : FdOk K E R w v xs) : ∃ a c, v = .slice a xs.length c := by
 obtain ⟨ts, h1, h2, _⟩ := h; have hl : ts.length = xs.length := (by rw [← h1, List.length_map])
 rcases h2.2 with ⟨e1, e2⟩ | ⟨g, cap, cur, e1, _⟩
 · exact ⟨none, 0, by rw [e1, ← hl, e2]⟩
 · exact ⟨_, cap, by rw [e1, hl]⟩
theorem Fns.slice {N : Nat} {w : World} {p : Nat} {v : Value} {fs : List (Int × List Int × Il)} {cd : Bool} (h : Fns N w p v fs cd) : ∃ a c, v = .slice a fs.length c := by
 rcases h with ⟨tys, h1, _, h2⟩ | ⟨_, g, cap, cur, rs, h1, h2, _⟩
 · obtain ⟨a, c, e⟩ := h2.slice; exact ⟨a, c, by rw [h1, List.length_map]; exact e⟩
 · exact ⟨_, cap, by rw [h1, h2, List.length_map]⟩
def DecV (w : World) (s : ByteArray) (e : Ending) (w' : World) : Prop :=
 (∃ m cd p, ∃ (a0 a1 a2 a3 a4 a5 a6 a7 a8 a9 : Option Addr) (k0 k1 k2 k3 k4 k5 k6 k7 k8 k9 : Nat), gModule (strl s) = .ok m ∧ e = .returned (.tuple #[.agg #[.slice a0 m.types.length k0, .slice a1 m.imports.length k1, .slice a2 m.funcs.length k2, .slice a3 m.tables.length k3, .slice a4 m.mems.length k4, .slice a5 m.globals.length k5, .slice a6 m.exports.length k6, .slice a7 m.start.length k7, .slice a8 m.elems.length k8, .slice a9 m.datas.length k9], .int .i64 0]) ∧ MS w.heap.size w' p (.slice a0 m.types.length k0) (.slice a1 m.imports.length k1) (.slice a2 m.funcs.length k2) (.slice a3 m.tables.length k3) (.slice a4 m.mems.length k4) (.slice a5 m.globals.length k5) (.slice a6 m.exports.length k6) (.slice a7 m.start.length k7) (.slice a8 m.elems.length k8) (.slice a9 m.datas.length k9) m cd) ∨ (∃ n, gModule (strl s) = .error n ∧ e = .returned (.tuple #[zeroM, .int .i64 n]))
set_option maxRecDepth 100000 in
set_option maxHeartbeats 8000000 in
theorem decode_any {w : World} {s : ByteArray} (hT : TabU w) (hn0 : gModule (strl s) ≠ .error 0) : Calls Tryz.prog 10 #[.string s] w fun e w' => Below w.heap.size w w' ∧ DecV w s e w' := by
 have hB : Below w.heap.size w (w.alloc (.cells #[.slice none 0 0, .slice none 0 0, .slice none 0 0, .slice none 0 0, .slice none 0 0, .slice none 0 0, .slice none 0 0, .slice none 0 0, .slice none 0 0, .slice none 0 0] 33)) := (Below.refl _ _).alloc (Nat.le_refl _) _; have hK : Bk (w.alloc (.cells #[.slice none 0 0, .slice none 0 0, .slice none 0 0, .slice none 0 0, .slice none 0 0, .slice none 0 0, .slice none 0 0, .slice none 0 0, .slice none 0 0, .slice none 0 0] 33)) w.heap.size [.slice none 0 0, .slice none 0 0, .slice none 0 0, .slice none 0 0, .slice none 0 0, .slice none 0 0, .slice none 0 0, .slice none 0 0, .slice none 0 0, .slice none 0 0] 33 := Bk.new w [.slice none 0 0, .slice none 0 0, .slice none 0 0, .slice none 0 0, .slice none 0 0, .slice none 0 0, .slice none 0 0, .slice none 0 0, .slice none 0 0, .slice none 0 0] 33; have hz : (w.alloc (.cells #[.slice none 0 0, .slice none 0 0, .slice none 0 0, .slice none 0 0, .slice none 0 0, .slice none 0 0, .slice none 0 0, .slice none 0 0, .slice none 0 0, .slice none 0 0] 33)).heap.size = w.heap.size + 1 := (by simp)
 go_enter Tryz.func10, Tryz.ntmps10; go_wp2_with fail; obtain ⟨w1, hw1⟩ : ∃ w1, w1 = w.alloc (.cells #[.slice none 0 0, .slice none 0 0, .slice none 0 0, .slice none 0 0, .slice none 0 0, .slice none 0 0, .slice none 0 0, .slice none 0 0, .slice none 0 0, .slice none 0 0] 33) := ⟨_, rfl⟩
 rw [← hw1] at hB hK hz ⊢; clear hw1; have hT1 := hT.below hB
 by_cases hs : 262144 < s.size
 · have hM : gModule (strl s) = .error 2 := by unfold gModule; rw [if_pos (by rw [strl_length]; omega)]
   refine (read_big hs).mono ?_; rintro e' w2 ⟨rfl, hB2⟩; have hB3 := hB.trans (hB2.mono hB.size); have hK2 := hK.below hB2; have c0 := hK2.cell (j := 0) rfl; have f0 := hK2.fr 0; have c1 := hK2.cell (j := 1) rfl; have f1 := hK2.fr 1; have c2 := hK2.cell (j := 2) rfl; have f2 := hK2.fr 2; have c3 := hK2.cell (j := 3) rfl; have f3 := hK2.fr 3; have c4 := hK2.cell (j := 4) rfl; have f4 := hK2.fr 4; have c5 := hK2.cell (j := 5) rfl; have f5 := hK2.fr 5; have c6 := hK2.cell (j := 6) rfl; have f6 := hK2.fr 6; have c7 := hK2.cell (j := 7) rfl; have f7 := hK2.fr 7; have c8 := hK2.cell (j := 8) rfl; have f8 := hK2.fr 8; have c9 := hK2.cell (j := 9) rfl; have f9 := hK2.fr 9; replace hB3 := zh hB3; replace hK2 := zh hK2; replace hM := zh hM; clear hn0 hB hK hz hT1 hB2; go_wp2_with fail; obtain ⟨wz, hwz, hKz, hWz⟩ := put10 (v0 := .slice none 0 0) (v1 := .slice none 0 0) (v2 := .slice none 0 0) (v3 := .slice none 0 0) (v4 := .slice none 0 0) (v5 := .slice none 0 0) (v6 := .slice none 0 0) (v7 := .slice none 0 0) (v8 := .slice none 0 0) (v9 := .slice none 0 0) hK2.out; rw [← hwz]; clear hwz; have z0 := hKz.cell (j := 0) rfl; have z1 := hKz.cell (j := 1) rfl; have z2 := hKz.cell (j := 2) rfl; have z3 := hKz.cell (j := 3) rfl; have z4 := hKz.cell (j := 4) rfl; have z5 := hKz.cell (j := 5) rfl; have z6 := hKz.cell (j := 6) rfl; have z7 := hKz.cell (j := 7) rfl; have z8 := hKz.cell (j := 8) rfl; have z9 := hKz.cell (j := 9) rfl; have hBz : Below w.heap.size w wz := Wr.below_of hB3.out hWz (fun b e => by have : b = w.heap.size := e; omega) hB3.out.size
   replace hBz := zh hBz; simp [bodyPost, results, Tryz.results10, go_sem, z0, z1, z2, z3, z4, z5, z6, z7, z8, z9]; exact ⟨hBz.out, .inr ⟨2, hM.out, rfl⟩⟩
 · refine (readM_any (by omega) hT1).mono ?_; rintro e' w2 (⟨hJ, rfl⟩ | ⟨n, hn, rfl, w3, hV, hR, rfl⟩)
   · obtain ⟨W0, m, a, lt, cd, l, v0, v1, v2, v3, v4, v5, v6, v7, v8, v9, hz0, h0, hm, hS⟩ := hJ; rw [hz] at hz0 hS ⊢; have hbl := h0.trans (hS.bl.mono (by omega)); have hK2 := hK.below hbl; have hB3 := hB.trans (hbl.mono hB.size); have c0 := hK2.cell (j := 0) rfl; have f0 := hK2.fr 0; have c1 := hK2.cell (j := 1) rfl; have f1 := hK2.fr 1; have c2 := hK2.cell (j := 2) rfl; have f2 := hK2.fr 2; have c3 := hK2.cell (j := 3) rfl; have f3 := hK2.fr 3; have c4 := hK2.cell (j := 4) rfl; have f4 := hK2.fr 4; have c5 := hK2.cell (j := 5) rfl; have f5 := hK2.fr 5; have c6 := hK2.cell (j := 6) rfl; have f6 := hK2.fr 6; have c7 := hK2.cell (j := 7) rfl; have f7 := hK2.fr 7; have c8 := hK2.cell (j := 8) rfl; have f8 := hK2.fr 8; have c9 := hK2.cell (j := 9) rfl; have f9 := hK2.fr 9
     have d0 : w2.cell? ⟨w.heap.size + 1 + 1 + 1, 4, none⟩ = some v0 := by rw [cell_of_row w2 _ 4 _ _ _ hS.rd.row]; rfl
     have d1 : w2.cell? ⟨w.heap.size + 1 + 1 + 1, 5, none⟩ = some v1 := by rw [cell_of_row w2 _ 5 _ _ _ hS.rd.row]; rfl
     have d2 : w2.cell? ⟨w.heap.size + 1 + 1 + 1, 6, none⟩ = some v2 := by rw [cell_of_row w2 _ 6 _ _ _ hS.rd.row]; rfl
     have d3 : w2.cell? ⟨w.heap.size + 1 + 1 + 1, 7, none⟩ = some v3 := by rw [cell_of_row w2 _ 7 _ _ _ hS.rd.row]; rfl
     have d4 : w2.cell? ⟨w.heap.size + 1 + 1 + 1, 8, none⟩ = some v4 := by rw [cell_of_row w2 _ 8 _ _ _ hS.rd.row]; rfl
     have d5 : w2.cell? ⟨w.heap.size + 1 + 1 + 1, 9, none⟩ = some v5 := by rw [cell_of_row w2 _ 9 _ _ _ hS.rd.row]; rfl
     have d6 : w2.cell? ⟨w.heap.size + 1 + 1 + 1, 10, none⟩ = some v6 := by rw [cell_of_row w2 _ 10 _ _ _ hS.rd.row]; rfl
     have d7 : w2.cell? ⟨w.heap.size + 1 + 1 + 1, 11, none⟩ = some v7 := by rw [cell_of_row w2 _ 11 _ _ _ hS.rd.row]; rfl
     have d8 : w2.cell? ⟨w.heap.size + 1 + 1 + 1, 12, none⟩ = some v8 := by rw [cell_of_row w2 _ 12 _ _ _ hS.rd.row]; rfl
     have d9 : w2.cell? ⟨w.heap.size + 1 + 1 + 1, 13, none⟩ = some v9 := by rw [cell_of_row w2 _ 13 _ _ _ hS.rd.row]; rfl
     obtain ⟨q, hq⟩ : ∃ q, q = w.heap.size + 1 + 1 + 1 := ⟨_, rfl⟩
     have hMS : MS W0.heap.size w2 q v0 v1 v2 v3 v4 v5 v6 v7 v8 v9 m cd := by rw [hq]; exact hS.ms
     obtain ⟨a0, k0, rfl⟩ := hMS.types.slice; obtain ⟨a1, k1, rfl⟩ := hMS.imports.slice; obtain ⟨a2, k2, rfl⟩ := hMS.funcs.slice; obtain ⟨a3, k3, rfl⟩ := hMS.tables.slice; obtain ⟨a4, k4, rfl⟩ := hMS.mems.slice; obtain ⟨a5, k5, rfl⟩ := hMS.globals.slice; obtain ⟨a6, k6, rfl⟩ := hMS.exports.slice; obtain ⟨a7, k7, rfl⟩ := hMS.start.slice; obtain ⟨a8, k8, rfl⟩ := hMS.elems.slice; obtain ⟨a9, k9, rfl⟩ := hMS.datas.slice; rw [← hq] at d0 d1 d2 d3 d4 d5 d6 d7 d8 d9 ⊢; have hN : w.heap.size < W0.heap.size := (by omega)
     replace hMS := zh hMS; replace hB3 := zh hB3; replace hK2 := zh hK2; replace hm := zh hm; clear hn0 hB hK hz hT1 hS h0 hbl hz0 hq; go_wp2_with fail; obtain ⟨wz, hwz, hKz, hWz⟩ := put10 (v0 := .slice a0 m.types.length k0) (v1 := .slice a1 m.imports.length k1) (v2 := .slice a2 m.funcs.length k2) (v3 := .slice a3 m.tables.length k3) (v4 := .slice a4 m.mems.length k4) (v5 := .slice a5 m.globals.length k5) (v6 := .slice a6 m.exports.length k6) (v7 := .slice a7 m.start.length k7) (v8 := .slice a8 m.elems.length k8) (v9 := .slice a9 m.datas.length k9) hK2.out; rw [← hwz]; clear hwz; have z0 := hKz.cell (j := 0) rfl; have z1 := hKz.cell (j := 1) rfl; have z2 := hKz.cell (j := 2) rfl; have z3 := hKz.cell (j := 3) rfl; have z4 := hKz.cell (j := 4) rfl; have z5 := hKz.cell (j := 5) rfl; have z6 := hKz.cell (j := 6) rfl; have z7 := hKz.cell (j := 7) rfl; have z8 := hKz.cell (j := 8) rfl; have z9 := hKz.cell (j := 9) rfl; have hBz : Below w.heap.size w wz := Wr.below_of hB3.out hWz (fun b e => by have : b = w.heap.size := e; omega) hB3.out.size; replace hBz := zh hBz; simp [bodyPost, results, Tryz.results10, go_sem, z0, z1, z2, z3, z4, z5, z6, z7, z8, z9]; exact ⟨hBz.out, .inl ⟨m, cd, q, a0, a1, a2, a3, a4, a5, a6, a7, a8, a9, k0, k1, k2, k3, k4, k5, k6, k7, k8, k9, hm.out, rfl, hMS.out.old hWz (fun b e => by have : b = w.heap.size := e; omega) (by omega)⟩⟩
   · have hK2 := (hK.below hV).wr (caught_wr (N := w1.heap.size) (n := n)) (by omega); have hB3 : Below w.heap.size w (caughtW w3 w1.heap.size (w1.heap.size + 1) n) := Wr.below_of (hB.trans (hV.mono hB.size)) (caught_wr (N := w1.heap.size) (n := n)) (fun b hb => by omega) (by have := hB.size; have := hV.size; omega); have c0 := hK2.cell (j := 0) rfl; have f0 := hK2.fr 0; have c1 := hK2.cell (j := 1) rfl; have f1 := hK2.fr 1; have c2 := hK2.cell (j := 2) rfl; have f2 := hK2.fr 2; have c3 := hK2.cell (j := 3) rfl; have f3 := hK2.fr 3; have c4 := hK2.cell (j := 4) rfl; have f4 := hK2.fr 4; have c5 := hK2.cell (j := 5) rfl; have f5 := hK2.fr 5; have c6 := hK2.cell (j := 6) rfl; have f6 := hK2.fr 6; have c7 := hK2.cell (j := 7) rfl; have f7 := hK2.fr 7; have c8 := hK2.cell (j := 8) rfl; have f8 := hK2.fr 8; have c9 := hK2.cell (j := 9) rfl; have f9 := hK2.fr 9; have hq : ((n : Int) == 0) = false := beq_eq_false_iff_ne.2 (fun e => hn0 (by rw [hn, e])); obtain ⟨w2, hw2⟩ : ∃ w2, w2 = caughtW w3 w1.heap.size (w1.heap.size + 1) n := ⟨_, rfl⟩
     rw [← hw2] at hK2 hB3 c0 f0 c1 f1 c2 f2 c3 f3 c4 f4 c5 f5 c6 f6 c7 f7 c8 f8 c9 f9 ⊢; clear hw2 hR hV hz hT1 hB hK; replace hB3 := zh hB3; replace hK2 := zh hK2; replace hn := zh hn; clear hn0; go_wp2_with fail; obtain ⟨wz, hwz, hKz, hWz⟩ := put10 (v0 := .slice none 0 0) (v1 := .slice none 0 0) (v2 := .slice none 0 0) (v3 := .slice none 0 0) (v4 := .slice none 0 0) (v5 := .slice none 0 0) (v6 := .slice none 0 0) (v7 := .slice none 0 0) (v8 := .slice none 0 0) (v9 := .slice none 0 0) hK2.out; rw [← hwz]; clear hwz; have z0 := hKz.cell (j := 0) rfl; have z1 := hKz.cell (j := 1) rfl; have z2 := hKz.cell (j := 2) rfl; have z3 := hKz.cell (j := 3) rfl; have z4 := hKz.cell (j := 4) rfl; have z5 := hKz.cell (j := 5) rfl; have z6 := hKz.cell (j := 6) rfl; have z7 := hKz.cell (j := 7) rfl; have z8 := hKz.cell (j := 8) rfl; have z9 := hKz.cell (j := 9) rfl; have hBz : Below w.heap.size w wz := Wr.below_of hB3.out hWz (fun b e => by have : b = w.heap.size := e; omega) hB3.out.size; replace hBz := zh hBz; simp [bodyPost, results, Tryz.results10, go_sem, z0, z1, z2, z3, z4, z5, z6, z7, z8, z9]; exact ⟨hBz.out, .inr ⟨n, hn.out, rfl⟩⟩
structure Nz {α : Type} (g : Except Int α) : Prop where
 out : ∀ n, g = .error n → n ≠ 0
theorem Nz.ok {α : Type} {v : α} : Nz (.ok v : Except Int α) := ⟨fun n h => (by cases h)⟩
theorem Nz.err {α : Type} {k : Int} (h : k ≠ 0) : Nz (.error k : Except Int α) := ⟨fun n e => (by cases e; exact h)⟩
theorem Nz.bind {α β : Type} {g : Except Int α} {f : α → Except Int β} (h : Nz g) (hf : ∀ v, Nz (f v)) : Nz (g.bind f) := by
 refine ⟨fun n e => ?_⟩; cases g with
 | error k => exact h.out n (by cases e; rfl)
 | ok v => exact (hf v).out n e
theorem Nz.ite {α : Type} {c : Prop} [Decidable c] {a b : Except Int α} (h : Nz a) (k : Nz b) : Nz (if c then a else b) := by
 split
 · exact h
 · exact k
theorem nzByte {s : List UInt8} {e a : Nat} : Nz (gByte s e a) := Nz.ite Nz.ok (Nz.err (by decide))
theorem nzU {s : List UInt8} {e a : Nat} : Nz (gU s e a) := by
 unfold gU; split
 · exact Nz.ite Nz.ok (Nz.err (by decide))
 · exact Nz.err (by decide)
theorem nzS32 {s : List UInt8} {e a : Nat} : Nz (gS32 s e a) := by
 unfold gS32; split
 · exact Nz.ite Nz.ok (Nz.err (by decide))
 · exact Nz.err (by decide)
theorem nzS64 {s : List UInt8} {e a : Nat} : Nz (gS64 s e a) := by
 unfold gS64; split
 · exact Nz.ite Nz.ok (Nz.err (by decide))
 · exact Nz.err (by decide)
theorem nzIs {s : List UInt8} {e a : Nat} {b : Int} : Nz (gIs s e a b) := nzByte.bind fun _ => Nz.ite Nz.ok (Nz.err (by decide))
theorem nzFlag {s : List UInt8} {e a : Nat} : Nz (gFlag s e a) := nzByte.bind fun _ => Nz.ite Nz.ok (Nz.err (by decide))
theorem nzCount {s : List UInt8} {e a : Nat} : Nz (gCount s e a) := nzU.bind fun _ => Nz.ite Nz.ok (Nz.err (by decide))
theorem nzText {s : List UInt8} {e a : Nat} : Nz (gText s e a) := nzU.bind fun _ => Nz.ite Nz.ok (Nz.err (by decide))
theorem nzName {s : List UInt8} {e a : Nat} : Nz (gName s e a) := nzText.bind fun _ => Nz.ite Nz.ok (Nz.err (by decide))
theorem nzTyp {s : List UInt8} {e a : Nat} : Nz (gTyp s e a) := nzByte.bind fun _ => Nz.ite (Nz.err (by decide)) (Nz.ite Nz.ok (Nz.err (by decide)))
theorem nzMany {α : Type} {f : Nat → Got α} (h : ∀ a, Nz (f a)) : ∀ k a, Nz (gMany f k a) := by
 intro k
 induction k with
 | zero => intro a; exact Nz.ok
 | succ k ih => intro a; exact (h a).bind fun q => (ih _).bind fun r => Nz.ok
theorem nzEach {α : Type} {s : List UInt8} {e a : Nat} {f : Nat → Got α} (h : ∀ a, Nz (f a)) : Nz (gEach s e a f) := nzCount.bind fun q => nzMany h _ _
theorem nzResult {s : List UInt8} {e a : Nat} : Nz (gResult s e a) := by unfold gResult; exact Nz.ite Nz.ok nzTyp
theorem nzParts {s : List UInt8} {e : Nat} {rec : Nat → Bool → Nat → Nat → Except Int ((Il × Bool × Nat) × Nat)} {op : Int} {depth left a : Nat} (h : ∀ d c l a, Nz (rec d c l a)) : Nz (gParts s e rec op depth left a) := by
 unfold gParts
 exact Nz.ite (Nz.ite (nzIs.bind fun _ => Nz.ok) Nz.ok) (Nz.ite (nzResult.bind fun q => (h _ _ _ _).bind fun b => Nz.ite ((h _ _ _ _).bind fun c => Nz.ok) Nz.ok) (Nz.ite (nzU.bind fun _ => Nz.ok) (Nz.ite ((nzEach fun _ => nzU).bind fun _ => nzU.bind fun _ => Nz.ok)
  (Nz.ite (nzU.bind fun _ => nzIs.bind fun _ => Nz.ok) (Nz.ite (nzU.bind fun _ => nzU.bind fun _ => Nz.ok) (Nz.ite (Nz.ite (nzS32.bind fun _ => Nz.ok) (nzS64.bind fun _ => Nz.ok)) Nz.ok))))))
theorem nzList {s : List UInt8} {e : Nat} : ∀ k d c l a, Nz (gList s e k d c l a) := by
 intro k
 induction k with
 | zero => intro d c l a; exact Nz.err (by decide)
 | succ k ih => intro d c l a; rw [gList]; exact nzByte.bind fun q => Nz.ite Nz.ok (Nz.ite (Nz.err (by decide)) (Nz.ite (Nz.err (by decide)) (Nz.ite (Nz.err (by decide)) (Nz.ite (Nz.err (by decide)) ((nzParts ih).bind fun r => (ih _ _ _ _).bind fun t => Nz.ok)))))
theorem nzLimits {s : List UInt8} {e a : Nat} : Nz (gLimits s e a) := nzFlag.bind fun f => nzU.bind fun n => Nz.ite (nzU.bind fun _ => Nz.ok) Nz.ok
theorem nzConst {s : List UInt8} {e a : Nat} : Nz (gConst s e a) := nzByte.bind fun q => Nz.ite (Nz.err (by decide)) (Nz.ite ((nzParts fun _ _ _ _ => Nz.err (by decide)).bind fun r => nzIs.bind fun z => Nz.ok) (Nz.err (by decide)))
theorem nzType {s : List UInt8} {e a : Nat} : Nz (gType s e a) := nzIs.bind fun _ => (nzEach fun _ => nzTyp).bind fun _ => (nzEach fun _ => nzTyp).bind fun _ => Nz.ok
theorem nzImport {s : List UInt8} {e a : Nat} : Nz (gImport s e a) := nzName.bind fun _ => nzName.bind fun _ => nzIs.bind fun _ => nzU.bind fun _ => Nz.ok
theorem nzTable {s : List UInt8} {e a : Nat} : Nz (gTable s e a) := nzIs.bind fun _ => nzLimits
theorem nzGlobal {s : List UInt8} {e a : Nat} : Nz (gGlobal s e a) := nzTyp.bind fun _ => nzFlag.bind fun _ => nzConst.bind fun _ => Nz.ok
theorem nzExport {s : List UInt8} {e a : Nat} : Nz (gExport s e a) := nzName.bind fun _ => nzByte.bind fun _ => Nz.ite (nzU.bind fun _ => Nz.ok) (Nz.err (by decide))
theorem nzElem {s : List UInt8} {e a : Nat} : Nz (gElem s e a) := nzIs.bind fun _ => nzConst.bind fun _ => (nzEach fun _ => nzU).bind fun _ => Nz.ok
theorem nzData {s : List UInt8} {e a : Nat} : Nz (gData s e a) := nzIs.bind fun _ => nzConst.bind fun _ => nzText.bind fun _ => Nz.ok
theorem nzRuns {s : List UInt8} {e : Nat} : ∀ k l a, Nz (gRuns s e k l a) := by
 intro k
 induction k with
 | zero => intro l a; exact Nz.ok
 | succ k ih => intro l a; rw [gRuns]; exact nzU.bind fun n => Nz.ite (nzTyp.bind fun t => ih _ _) (Nz.err (by decide))
theorem nzLong {α : Type} {s : List UInt8} {e a : Nat} {f : Nat → Nat → Got α} (h : ∀ e a, Nz (f e a)) : Nz (gLong s e a f) := nzU.bind fun n => (h _ _).bind fun r => Nz.ite Nz.ok (Nz.err (by decide))
theorem nzCode {s : List UInt8} {l e a : Nat} : Nz (gCode s l e a) := by unfold gCode; refine nzLong fun e a => nzCount.bind fun n => (nzRuns _ _ _).bind fun l => (nzList _ _ _ _ _).bind fun b => Nz.ok
theorem nzCodes {s : List UInt8} {e : Nat} : ∀ ts l a, Nz (gCodes s e ts l a) := by
 intro ts
 induction ts with
 | nil => intro l a; exact Nz.ok
 | cons t r ih => intro l a; exact nzCode.bind fun c => (ih _ _).bind fun l => Nz.ok
theorem nzSection {s : List UInt8} {id : Nat} {m : Md} {e a : Nat} : Nz (gSection s id m e a) := by
 unfold gSection; split
 · exact nzText.bind fun _ => Nz.ite Nz.ok (Nz.err (by decide))
 · exact (nzEach fun _ => nzType).bind fun _ => Nz.ok
 · exact (nzEach fun _ => nzImport).bind fun _ => Nz.ok
 · exact (nzEach fun _ => nzU).bind fun _ => Nz.ok
 · exact (nzEach fun _ => nzTable).bind fun _ => Nz.ok
 · exact (nzEach fun _ => nzLimits).bind fun _ => Nz.ok
 · exact (nzEach fun _ => nzGlobal).bind fun _ => Nz.ok
 · exact (nzEach fun _ => nzExport).bind fun _ => Nz.ok
 · exact nzU.bind fun _ => Nz.ok
 · exact (nzEach fun _ => nzElem).bind fun _ => Nz.ok
 · exact nzCount.bind fun _ => Nz.ite ((nzCodes _ _ _).bind fun _ => Nz.ok) (Nz.err (by decide))
 · exact (nzEach fun _ => nzData).bind fun _ => Nz.ok
theorem nzSections {s : List UInt8} : ∀ k lt cd m a, Nz (gSections s k lt cd m a) := by
 intro k
 induction k with
 | zero => intro lt cd m a; exact Nz.err (by decide)
 | succ k ih => intro lt cd m a; rw [gSections]; exact Nz.ite (nzByte.bind fun b => Nz.ite ((nzLong fun _ _ => nzSection).bind fun r => ih _ _ _ _) (Nz.err (by decide))) (Nz.ite Nz.ok (Nz.err (by decide)))
theorem nzHead {s : List UInt8} : ∀ l a, Nz (gHead s l a) := by
 intro l
 induction l with
 | nil => intro a; exact Nz.ok
 | cons b r ih => intro a; exact nzIs.bind fun z => ih _
theorem nzModule {s : List UInt8} : Nz (gModule s) := by unfold gModule; exact Nz.ite (Nz.err (by decide)) ((nzHead _ _).bind fun z => nzSections _ _ _ _ _)
theorem dec_any {w : World} {s : ByteArray} (hT : TabU w) : Calls Tryz.prog 10 #[.string s] w fun e w' => Below w.heap.size w w' ∧ DecV w s e w' := decode_any hT (fun h => nzModule.out 0 h rfl)
def wk1 : ByteArray := ⟨#[0, 97, 115, 109, 1, 0, 0, 0, 0, 2, 1, 120, 1, 4, 1, 96, 0, 0]⟩
def wk2 : ByteArray := ⟨#[0, 97, 115, 109, 1, 0, 0, 0, 1, 5, 1, 96, 0, 0, 0]⟩
theorem wk1_val : (match gModule (strl wk1) with | .ok m => m.types.length == 1 | .error _ => false) = true := by kernel_rfl
theorem wk2_val : (match gModule (strl wk2) with | .ok _ => false | .error n => n == 50) = true := by kernel_rfl
theorem wk1_ok : ∃ m, gModule (strl wk1) = .ok m ∧ m.types.length = 1 := by
 have h := wk1_val; split at h
 · rename_i m hm; exact ⟨m, hm, eq_of_beq h⟩
 · cases h
theorem wk2_err : gModule (strl wk2) = .error 50 := by
 have h := wk2_val; split at h
 · cases h
 · rename_i n hn; rw [hn, eq_of_beq h]
theorem decv_err {w w' : World} {s : ByteArray} {e : Ending} {n : Int} (h : DecV w s e w') (hg : gModule (strl s) = .error n) : e = .returned (.tuple #[zeroM, .int .i64 n]) := by
 rcases h with ⟨m, cd, p, a0, a1, a2, a3, a4, a5, a6, a7, a8, a9, k0, k1, k2, k3, k4, k5, k6, k7, k8, k9, h1, h2, h3⟩ | ⟨n', h1, h2⟩
 · rw [hg] at h1; cases h1
 · rw [hg] at h1; cases h1; exact h2
theorem decv_ok {w w' : World} {s : ByteArray} {e : Ending} {m : Md} (h : DecV w s e w') (hg : gModule (strl s) = .ok m) : ∃ (a0 a1 a2 a3 a4 a5 a6 a7 a8 a9 : Option Addr) (k0 k1 k2 k3 k4 k5 k6 k7 k8 k9 : Nat), e = .returned (.tuple #[.agg #[.slice a0 m.types.length k0, .slice a1 m.imports.length k1, .slice a2 m.funcs.length k2, .slice a3 m.tables.length k3, .slice a4 m.mems.length k4, .slice a5 m.globals.length k5, .slice a6 m.exports.length k6, .slice a7 m.start.length k7, .slice a8 m.elems.length k8, .slice a9 m.datas.length k9], .int .i64 0]) := by
 rcases h with ⟨m', cd, p, a0, a1, a2, a3, a4, a5, a6, a7, a8, a9, k0, k1, k2, k3, k4, k5, k6, k7, k8, k9, h1, h2, h3⟩ | ⟨n', h1, h2⟩
 · rw [hg] at h1; cases h1; exact ⟨a0, a1, a2, a3, a4, a5, a6, a7, a8, a9, k0, k1, k2, k3, k4, k5, k6, k7, k8, k9, h2⟩
 · rw [hg] at h1; cases h1
set_option maxRecDepth 100000 in
set_option maxHeartbeats 4000000 in
theorem wakes_any {w : World} (hT : TabU w) : Calls Tryz.prog 9 #[] w fun e w' => e = .returned (.bool true) ∧ Below w.heap.size w w' := by obtain ⟨m, hm, hl⟩ := wk1_ok; go_enter Tryz.func9, Tryz.ntmps9; go_wp2_with fail; refine (dec_any (s := wk1) hT).mono ?_; rintro e w1 ⟨hB1, hD⟩; obtain ⟨a0, a1, a2, a3, a4, a5, a6, a7, a8, a9, k0, k1, k2, k3, k4, k5, k6, k7, k8, k9, rfl⟩ := decv_ok hD hm; have hT1 := hT.below hB1; rw [hl]; clear hm hD hl; replace hB1 := zh hB1; replace hT1 := zh hT1; go_wp2_with fail; have hBa : Below w1.heap.size w1 (w1.alloc (.cells #[.slice a0 1 k0, .slice a1 m.imports.length k1, .slice a2 m.funcs.length k2, .slice a3 m.tables.length k3, .slice a4 m.mems.length k4, .slice a5 m.globals.length k5, .slice a6 m.exports.length k6, .slice a7 m.start.length k7, .slice a8 m.elems.length k8, .slice a9 m.datas.length k9] 33)) := (Below.refl _ _).alloc (Nat.le_refl _) _; have hKa := Bk.new w1 [.slice a0 1 k0, .slice a1 m.imports.length k1, .slice a2 m.funcs.length k2, .slice a3 m.tables.length k3, .slice a4 m.mems.length k4, .slice a5 m.globals.length k5, .slice a6 m.exports.length k6, .slice a7 m.start.length k7, .slice a8 m.elems.length k8, .slice a9 m.datas.length k9] 33; refine (dec_any (s := wk2) (hT1.out.below hBa)).mono ?_; rintro e w2 ⟨hB2, hD⟩; obtain rfl := decv_err hD wk2_err; have hc := (hKa.below hB2).cell (j := 0) rfl; have hB3 := hB1.out.trans ((hBa.trans (hB2.mono hBa.size)).mono hB1.out.size); have hlt : w1.heap.size < w2.heap.size := World.block_lt_of_cell? _ _ hc; clear hD hB2 hKa hBa hT1 hB1 hT; unfold zeroM; go_wp2_with fail; go_ret; exact ⟨rfl, hB3.alloc hB3.size _⟩
end Go.Proofs.YtkbfjkbokifgkaaGreatDoor
