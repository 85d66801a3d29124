/- The region of the reference's code that draws its order. -/
import Derived.Test.YtkbfjkbokifgkaaGreatDoorDv
import Derived.Deep.AppendLies
import Derived.Test.YtkbfjkbokifgkaaGreatDoorHc
import Derived.Test.YtkbfjkbokifgkaaGreatDoorGd
import Derived.BigQuiet
import Derived.Deep.QuietTactic
import Derived.Deep.Cut
namespace Go.Proofs.YtkbfjkbokifgkaaGreatDoor
open Go.RowKit
set_option linter.unusedVariables false
set_option linter.unusedSimpArgs false
def opsRc : Array Oper := #[⟨some 42, .move (.tmp 4), 29, "ref.go:133", #[], none⟩, ⟨some 43, .buildSlice 29 1 #[(0, .const (.int .i64 1))], 29, "ref.go:133", #[], none⟩, ⟨some 44, .call ⟨.builtin .append, #[.tmp 42, .tmp 43], #[29, 29]⟩, 29, "ref.go:133", #[⟨0, .data⟩, ⟨1, .data⟩], none⟩, ⟨some 45, .move (.tmp 5), 29, "ref.go:133", #[], none⟩, ⟨some 46, .fieldAddr 83 (.tmp 1) 1, 0, "ref.go:133", #[], none⟩, ⟨some 47, .load 29 (.tmp 46), 29, "ref.go:133", #[⟨4, .data⟩], none⟩, ⟨some 48, .move (.tmp 6), 3, "ref.go:133", #[], none⟩, ⟨some 49, .indexAddr 29 (.tmp 47) (.tmp 48), 0, "ref.go:133", #[⟨5, .data⟩, ⟨6, .data⟩], none⟩, ⟨some 50, .load 3 (.tmp 49), 3, "ref.go:133", #[⟨7, .data⟩], none⟩, ⟨some 51, .buildSlice 29 1 #[(0, .tmp 50)], 29, "ref.go:133", #[⟨8, .data⟩], none⟩, ⟨some 52, .call ⟨.builtin .append, #[.tmp 45, .tmp 51], #[29, 29]⟩, 29, "ref.go:133", #[⟨3, .data⟩, ⟨9, .data⟩, ⟨2, .chain⟩], none⟩, ⟨some 4, .assign (.tmp 44), 29, "ref.go:133", #[⟨2, .data⟩, ⟨10, .chain⟩, ⟨0, .phase⟩, ⟨1, .phase⟩, ⟨2, .phase⟩, { on := 3, ground := Ground.textOnly Departure.lateStores }, { on := 4, ground := Ground.textOnly Departure.lateStores }, { on := 5, ground := Ground.textOnly Departure.lateStores }, { on := 6, ground := Ground.textOnly Departure.lateStores }, { on := 7, ground := Ground.textOnly Departure.lateStores }, { on := 8, ground := Ground.textOnly Departure.lateStores }, { on := 9, ground := Ground.textOnly Departure.lateStores }, { on := 10, ground := Ground.textOnly Departure.lateStoresUnsure }], none⟩, ⟨some 5, .assign (.tmp 52), 29, "ref.go:133", #[⟨10, .data⟩, ⟨11, .chain⟩, ⟨0, .phase⟩, ⟨1, .phase⟩, ⟨2, .phase⟩, ⟨3, .phase⟩, ⟨4, .phase⟩, ⟨5, .phase⟩, ⟨6, .phase⟩, ⟨7, .phase⟩, ⟨8, .phase⟩, ⟨9, .phase⟩, ⟨10, .phase⟩, ⟨11, .phase⟩], none⟩]
theorem pown_below {w w' : World} {N : Nat} {e : TypeId} {size : Nat} {v : Value} {n : Nat} {xs : List Value} (h : w.ownsRow N e size v n xs) (hb : Below w.heap.size w w') : w'.ownsRow N e size v n xs := by
 refine ⟨h.1, ?_⟩
 rcases h.2 with e | ⟨g, cap, cur, e, hg, hh, r⟩
 · exact .inl e
 · exact .inr ⟨g, cap, cur, e, hg, (hb.block g (lt_of_block hh)).trans hh, r⟩
theorem own_sx {w w' : World} {N : Nat} {e : TypeId} {size : Nat} {v V : Value} {n : Nat} {xs : List Value} (h : w.ownsRow N e size v n xs) (hs : Sx V w w') (hd : ∀ g, V.ownBlock = some g → v.ownBlock ≠ some g) : w'.ownsRow N e size v n xs := by
 refine ⟨h.1, ?_⟩
 rcases h.2 with e | ⟨g, cap, cur, e, hg, hh, r⟩
 · exact .inl e
 · exact .inr ⟨g, cap, cur, e, hg, (hs.block g (lt_of_block hh) (fun e2 => hd g e2 (by rw [e]; rfl))).trans hh, r⟩
theorem Sx.cell {V : Value} {w w' : World} (h : Sx V w w') {a : Addr} {u : Value} (hc : w.cell? a = some u) (hv : V.ownBlock ≠ some a.block) : w'.cell? a = some u :=
 (World.cell?_of_block (h.block _ (World.block_lt_of_cell? _ _ hc) hv)).trans hc
def RD (N0 H k : Nat) (V4 V5 P1 LS : Value) (i x : Int) (P2 : Value) (rA : List Value) : Nat → Value → World → Prop
 | 0, v, _ => v = V4
 | 1, v, w => ∃ g, v = .slice (some ⟨g, 0, none⟩) 1 1 ∧ w.heap[g]? = some (.cells #[.int .i64 1] 3 (0, 0)) ∧ V4.ownBlock ≠ some g
 | 2, v, w => ∃ g cp, v = .slice (some ⟨g, 0, none⟩) (k + 1) cp ∧ w.ownsRow N0 3 1 (.slice (some ⟨g, 0, none⟩) (k + 1) cp) (k + 1) (rA ++ [.int .i64 1]) ∧ (V4.ownBlock = some g ∨ H ≤ g)
 | 3, v, _ => v = V5
 | 4, v, _ => v = P1
 | 5, v, _ => v = LS
 | 6, v, _ => v = .int .i64 i
 | 7, v, _ => v = P2
 | 8, v, _ => v = .int .i64 x
 | _, v, w => ∃ g, v = .slice (some ⟨g, 0, none⟩) 1 1 ∧ w.heap[g]? = some (.cells #[.int .i64 x] 3 (0, 0)) ∧ V4.ownBlock ≠ some g
theorem RD_keep {N0 H k : Nat} {V4 V5 P1 LS : Value} {i x : Int} {P2 : Value} {rA : List Value} (j : Nat) (v : Value) (w w' : World) (hb : Below w.heap.size w w') (h : RD N0 H k V4 V5 P1 LS i x P2 rA j v w) : RD N0 H k V4 V5 P1 LS i x P2 rA j v w' := by
 match j with
 | 0 | 3 | 4 | 5 | 6 | 7 | 8 => exact h
 | 1 => obtain ⟨g, e, hg, hv⟩ := h; exact ⟨g, e, (hb.block g (lt_of_block hg)).trans hg, hv⟩
 | 2 => obtain ⟨g, cp, e, ho, hv⟩ := h; exact ⟨g, cp, e, pown_below ho hb, hv⟩
 | t + 9 => obtain ⟨g, e, hg, hv⟩ := h; exact ⟨g, e, (hb.block g (lt_of_block hg)).trans hg, hv⟩
theorem RD_keepS {N0 H k : Nat} {V4 V5 P1 LS : Value} {i x : Int} {P2 : Value} {rA : List Value} (j : Nat) (v : Value) (w w' : World) (hj : j ≠ 2) (hs : Sx V4 w w') (h : RD N0 H k V4 V5 P1 LS i x P2 rA j v w) : RD N0 H k V4 V5 P1 LS i x P2 rA j v w' := by
 match j, hj with
 | 0, _ => exact h
 | 3, _ => exact h
 | 4, _ => exact h
 | 5, _ => exact h
 | 6, _ => exact h
 | 7, _ => exact h
 | 8, _ => exact h
 | 1, _ => obtain ⟨g, e, hg, hv⟩ := h; exact ⟨g, e, (hs.block g (lt_of_block hg) hv).trans hg, hv⟩
 | 2, h2 => exact absurd rfl h2
 | t + 9, _ => obtain ⟨g, e, hg, hv⟩ := h; exact ⟨g, e, (hs.block g (lt_of_block hg) hv).trans hg, hv⟩
set_option maxRecDepth 100000 in
set_option maxHeartbeats 4000000 in
theorem region_code {Q : Exit → Act → World → Prop} {f0 : Nat → Value} {W : World} {N0 c b o n cl i k : Nat} {x : Int} {a4 : Option Addr} {c4 : Nat} {a5 : Option Addr} {c5 : Nat} {rA rB : List Value} {i3 : TypeInfo}
 (hi3 : Tryz.prog.info? 3 = some i3) (hz3 : i3.zero = some (.int .i64 0)) (hs3 : i3.size = 1) (hby3 : i3.bytes = 8) (hmix : Tryz.prog.follows .mixedOrders = true)
 (f1 : f0 1 = .pointer (some ⟨c, 0, none⟩)) (f4 : f0 4 = .slice a4 k c4) (f5 : f0 5 = .slice a5 k c5) (f6 : f0 6 = .int .i64 i)
 (hA : W.ownsRow N0 3 1 (.slice a4 k c4) k rA) (hB : W.ownsRow N0 3 1 (.slice a5 k c5) k rB) (hAB : ∀ g, (Value.slice a4 k c4).ownBlock = some g → (Value.slice a5 k c5).ownBlock ≠ some g)
 (hx : W.cell? ⟨c, 1, none⟩ = some (.slice (some ⟨b, o, none⟩) n cl)) (hc : c < N0) (hl : W.cell? ⟨b, o + i, none⟩ = some (.int .i64 x)) (hb : b < N0) (hN : N0 ≤ W.heap.size) (hin : i < n) (hn : n ≤ 9223372036854775807) (hk : k ≤ 65536)
 (fin : ∀ w' f g cp g' cp', w'.ownsRow N0 3 1 (.slice (some ⟨g, 0, none⟩) (k + 1) cp) (k + 1) (rA ++ [.int .i64 1]) → w'.ownsRow N0 3 1 (.slice (some ⟨g', 0, none⟩) (k + 1) cp') (k + 1) (rB ++ [.int .i64 x]) → g ≠ g' → Below N0 W w' →
  f 4 = .slice (some ⟨g, 0, none⟩) (k + 1) cp → f 5 = .slice (some ⟨g', 0, none⟩) (k + 1) cp' → Q .normal (Fv 80 (ovk f0 f [42, 43, 44, 45, 46, 47, 48, 49, 50, 51, 52, 4, 5])) w') : (Code.region 9 opsRc true).wp Tryz.prog Q (Fv 80 f0) W := by
 have hVlt : ∀ g, (Value.slice a4 k c4).ownBlock = some g → N0 ≤ g ∧ g < W.heap.size := fun g e => hA.lt g e; refine region_tail3 (.slice a4 k c4) hmix 80 10 2 (fun j => 42 + j) (by decide) (ops := opsRc) rfl (by kernel_rfl) (by kernel_rfl) (by kernel_rfl) (by kernel_rfl) (by kernel_rfl) (RD N0 W.heap.size k (.slice a4 k c4) (.slice a5 k c5) (.pointer (some ⟨c, 1, none⟩)) (.slice (some ⟨b, o, none⟩) n cl) i x (.pointer (some ⟨b, o + i, none⟩)) rA) RD_keep RD_keepS ?_ ?_ ?_
 · intro i' hi' him f w' hS hoth hv; have f1' := fv_get (n := 80) (by decide) ((hoth 1 (fun j hj e => by omega)).trans f1); have f4' := fv_get (n := 80) (by decide) ((hoth 4 (fun j hj e => by omega)).trans f4); have f5' := fv_get (n := 80) (by decide) ((hoth 5 (fun j hj e => by omega)).trans f5); have f6' := fv_get (n := 80) (by decide) ((hoth 6 (fun j hj e => by omega)).trans f6); have xc := hS.cell hx (fun e => by have := (hVlt _ e).1; simp only at this; omega); have lc := hS.cell hl (fun e => by have := (hVlt _ e).1; simp only at this; omega); have hsz := hS.size
   match i', hi' with
   | 0, _ => refine wpOp_step (o := ⟨some 42, .move (.tmp 4), 29, _, _, none⟩) rfl ?_; intro K' hK'; rw [if_pos (wanted_none rfl)]; go_simp; (try simp only [f4']); (try go_simp); exact hK' _ _ ⟨_, fv_set _ _, rfl, Below.refl _ _⟩
   | 1, _ => refine wpOp_step (o := ⟨some 43, .buildSlice 29 1 #[(0, .const (.int .i64 1))], 29, _, _, none⟩) rfl ?_; intro K' hK'; rw [if_pos (wanted_none rfl)]; go_simp; (try simp only [f4']); (try go_simp); exact hK' _ _ ⟨_, fv_set _ _, ⟨w'.heap.size, rfl, heap_alloc_new _ _, fun e => by have := (hVlt _ e).2; omega⟩, (Below.refl _ _).alloc (Nat.le_refl _) _⟩
   | 2, _ => exact absurd rfl him
   | 3, _ => refine wpOp_step (o := ⟨some 45, .move (.tmp 5), 29, _, _, none⟩) rfl ?_; intro K' hK'; rw [if_pos (wanted_none rfl)]; go_simp; (try simp only [f5']); (try go_simp); exact hK' _ _ ⟨_, fv_set _ _, rfl, Below.refl _ _⟩
   | 4, _ => refine wpOp_step (o := ⟨some 46, .fieldAddr 83 (.tmp 1) 1, 0, _, _, none⟩) rfl ?_; intro K' hK'; rw [if_pos (wanted_none rfl)]; go_simp; (try simp only [f1']); (try go_simp); exact hK' _ _ ⟨_, fv_set _ _, rfl, Below.refl _ _⟩
   | 5, _ => have g := fv_get (n := 80) (by decide) (show f 46 = .pointer (some ⟨c, 1, none⟩) from hv 4 (by kernel_rfl)); refine wpOp_step (o := ⟨some 47, .load 29 (.tmp 46), 29, _, _, none⟩) rfl ?_; intro K' hK'; rw [if_pos (wanted_none rfl)]; go_simp; (try simp only [g]); (try go_simp); exact hK' _ _ ⟨_, fv_set _ _, rfl, Below.refl _ _⟩
   | 6, _ => refine wpOp_step (o := ⟨some 48, .move (.tmp 6), 3, _, _, none⟩) rfl ?_; intro K' hK'; rw [if_pos (wanted_none rfl)]; go_simp; (try simp only [f6']); (try go_simp); exact hK' _ _ ⟨_, fv_set _ _, rfl, Below.refl _ _⟩
   | 7, _ => have g := fv_get (n := 80) (by decide) (show f 47 = .slice (some ⟨b, o, none⟩) n cl from hv 5 (by kernel_rfl)); have g2 := fv_get (n := 80) (by decide) (show f 48 = .int .i64 i from hv 6 (by kernel_rfl)); refine wpOp_step (o := ⟨some 49, .indexAddr 29 (.tmp 47) (.tmp 48), 0, _, _, none⟩) rfl ?_; intro K' hK'; rw [if_pos (wanted_none rfl)]; go_simp; (try simp only [g, g2]); (try go_simp); exact hK' _ _ ⟨_, fv_set _ _, rfl, Below.refl _ _⟩
   | 8, _ => have g := fv_get (n := 80) (by decide) (show f 49 = .pointer (some ⟨b, o + i, none⟩) from hv 7 (by kernel_rfl)); refine wpOp_step (o := ⟨some 50, .load 3 (.tmp 49), 3, _, _, none⟩) rfl ?_; intro K' hK'; rw [if_pos (wanted_none rfl)]; go_simp; (try simp only [g]); (try go_simp); exact hK' _ _ ⟨_, fv_set _ _, rfl, Below.refl _ _⟩
   | 9, _ => have e : f 50 = .int .i64 x := hv 8 (by kernel_rfl); have g := fv_get (n := 80) (by decide) e; refine wpOp_step (o := ⟨some 51, .buildSlice 29 1 #[(0, .tmp 50)], 29, _, _, none⟩) rfl ?_; intro K' hK'; rw [if_pos (wanted_none rfl)]; go_simp; (try simp only [g]); (try go_simp); exact hK' _ _ ⟨_, fv_set _ _, ⟨w'.heap.size, rfl, heap_alloc_new _ _, fun e => by have := (hVlt _ e).2; omega⟩, (Below.refl _ _).alloc (Nat.le_refl _) _⟩
   | t + 10, h => exact absurd h (by omega)
 · intro f w' hbw hoth hv; have e42 : f 42 = .slice a4 k c4 := hv 0 (by kernel_rfl); obtain ⟨g1, e43, hg1, hv1⟩ := hv 1 (by kernel_rfl); have e43' : f 43 = .slice (some ⟨g1, 0, none⟩) 1 1 := e43; have hA' := pown_below hA hbw; refine wpOp_step (o := ⟨some 44, .call ⟨.builtin .append, #[.tmp 42, .tmp 43], #[29, 29]⟩, 29, _, _, none⟩) rfl ?_; intro K' hK'; rw [if_pos (wanted_none rfl)]; refine wp_append_lies _ _ _ _ rfl N0 3 i3 (.int .i64 0) 1 8 Tryz.underlying29 hi3 hz3 hs3 hby3 rfl (by decide) (.slice a4 k c4) k rA (fv_get (n := 80) (by decide) e42) hA' ⟨g1, 0, none⟩ 1 1 [.int .i64 1] (fv_get (n := 80) (by decide) e43') rfl (World.news_of_block (cs := #[.int .i64 1]) (t := 3) (fr := (0, 0)) hg1) (by intro u hu; simp only [List.mem_cons, List.mem_nil_iff, or_false] at hu; subst hu; rfl) (by decide) (by unfold maxLen; omega) (by omega) (Nat.le_trans hN hbw.size) w'.heap.size rfl ?_; intro g cap w1 hown hgrow hlies hlt; refine hK' _ _ ⟨.slice (some ⟨g, 0, none⟩) (k + 1) cap, fv_put _ _, ⟨g, cap, rfl, hown, ?_⟩, Sx.grown hgrow⟩
   rcases hlies with e | e
   · exact .inl e
   · exact .inr (by rw [e]; exact hbw.size)
 · intro f w' hS hoth hv; have e45 : f 45 = .slice a5 k c5 := hv 3 (by decide); obtain ⟨g1, e51, hg1, hv1⟩ := hv 9 (by decide); have e51' : f 51 = .slice (some ⟨g1, 0, none⟩) 1 1 := e51; obtain ⟨g, cp, e44, hownA, hlA⟩ := hv 2 (by decide); have e44' : f 44 = .slice (some ⟨g, 0, none⟩) (k + 1) cp := e44; have hB' := own_sx hB hS hAB
   have hgB : ∀ h, (Value.slice a5 k c5).ownBlock = some h → h ≠ g := fun h e e2 => by
    subst e2
    rcases hlA with e3 | e3
    · exact hAB _ e3 e
    · have := (hB.lt h e).2; omega
   refine wpOp_step (o := ⟨some 52, .call ⟨.builtin .append, #[.tmp 45, .tmp 51], #[29, 29]⟩, 29, _, _, none⟩) rfl ?_; intro K' hK'; rw [if_pos (wanted_none rfl)]; refine wp_append_lies _ _ _ _ rfl N0 3 i3 (.int .i64 0) 1 8 Tryz.underlying29 hi3 hz3 hs3 hby3 rfl (by decide) (.slice a5 k c5) k rB (fv_get (n := 80) (by decide) e45) hB' ⟨g1, 0, none⟩ 1 1 [.int .i64 x] (fv_get (n := 80) (by decide) e51') rfl (World.news_of_block (cs := #[.int .i64 x]) (t := 3) (fr := (0, 0)) hg1) (by intro u hu; simp only [List.mem_cons, List.mem_nil_iff, or_false] at hu; subst hu; rfl) (by decide) (by unfold maxLen; omega) (by omega) (Nat.le_trans hN hS.size) w'.heap.size rfl ?_; intro g' cap' w1 hown hgrow hlies hlt; have hgA : g < w'.heap.size := (hownA.lt g rfl).2
   have hgg : g ≠ g' := fun e => by
    rcases hlies with e2 | e2
    · exact hgB g' e2 e.symm
    · omega
   have hownA' := own_sx hownA (Sx.grown hgrow) (fun h e e2 => hgB h e (by simpa [Value.ownBlock] using e2.symm)); have hbel : Below N0 W w1 := (hS.below (fun g e => (hVlt g e).1) hN).trans ((Sx.grown hgrow).below (fun g e => (hB.lt g e).1) (Nat.le_trans hN hS.size)); refine hK' _ _ ?_; rw [fv_put]; have u44 := fv_get (n := 80) (f := upv f 52 (.slice (some ⟨g', 0, none⟩) (k + 1) cap')) (t := 44) (by decide) e44'; refine wpOp_step (o := ⟨some 4, .assign (.tmp 44), 29, _, _, none⟩) rfl ?_; intro K2 hK2; rw [if_pos (wanted_none rfl)]; go_simp; (try simp only [u44]); (try go_simp); refine hK2 _ _ ?_; rw [fv_set]; have u52 := fv_get (n := 80) (f := upv (upv f 52 (.slice (some ⟨g', 0, none⟩) (k + 1) cap')) 4 (.slice (some ⟨g, 0, none⟩) (k + 1) cp)) (t := 52) (v := .slice (some ⟨g', 0, none⟩) (k + 1) cap') (by decide) rfl
   refine wpOp_step (o := ⟨some 5, .assign (.tmp 52), 29, _, _, none⟩) rfl ?_; intro K3 hK3; rw [if_pos (wanted_none rfl)]; go_simp; (try simp only [u52]); (try go_simp); refine hK3 _ _ ?_; rw [fv_set]; have hq := fin w1 (upv (upv (upv f 52 (.slice (some ⟨g', 0, none⟩) (k + 1) cap')) 4 (.slice (some ⟨g, 0, none⟩) (k + 1) cp)) 5 (.slice (some ⟨g', 0, none⟩) (k + 1) cap')) g cp g' cap' hownA' hown hgg hbel rfl rfl; rw [← ovk_eq (f0 := f0) (f := upv (upv (upv f 52 (.slice (some ⟨g', 0, none⟩) (k + 1) cap')) 4 (.slice (some ⟨g, 0, none⟩) (k + 1) cp)) 5 (.slice (some ⟨g', 0, none⟩) (k + 1) cap')) (ds := [42, 43, 44, 45, 46, 47, 48, 49, 50, 51, 52, 4, 5]) (fun t ht => ?_)] at hq
   · exact hq
   · simp only [List.mem_cons, List.not_mem_nil, or_false, not_or] at ht; rw [show upv (upv (upv f 52 _) 4 _) 5 _ t = f t by simp [upv, ht]]; exact hoth t (fun j hj e => by omega)
theorem Below.of_drewN {N m : Nat} {w w' : World} (h : Below N (w.drewN m) w') : Below N w w' := ⟨h.os, h.tape, h.output, h.size, h.block⟩
theorem Below.to_drewN {N m : Nat} {w w' : World} (h : Below N w w') : Below N w (w'.drewN m) := ⟨h.os, h.tape, h.output, h.size, h.block⟩
def cnts (r : List (Nat × Int)) : List Int := r.reverse.map fun q => ((q.1 : Nat) : Int)
def typs (r : List (Nat × Int)) : List Int := r.reverse.map fun q => q.2
theorem cnts_cons (q : Nat × Int) (r : List (Nat × Int)) : cnts (q :: r) = cnts r ++ [((q.1 : Nat) : Int)] := by simp [cnts]
theorem typs_cons (q : Nat × Int) (r : List (Nat × Int)) : typs (q :: r) = typs r ++ [q.2] := by simp [typs]
theorem cnts_length (r : List (Nat × Int)) : (cnts r).length = r.length := by simp [cnts]
theorem typs_length (r : List (Nat × Int)) : (typs r).length = r.length := by simp [typs]
set_option maxRecDepth 100000 in
set_option maxHeartbeats 8000000 in
theorem pcode_any (ty : Int) (lo : List Int) (bo : Il) (u1 : Option Addr) (r1 : Nat) (u2 : Option Addr) (r2 : Nat) (w : World) (i1 : IntsIn w u1 lo) (hm : lo.length ≤ 65536) (l2 : bo.len ≤ 9223372036854775807) (i2 : IlIn w u2 0 bo) (ok : nOk bo) :
 Calls Tryz.prog 159 #[.agg #[.int .i64 ty, .slice u1 lo.length r1, .slice u2 bo.len r2]] w fun e w' => PNew w (xLoc lo ++ xEx bo) e w' := by
 have hmix : Tryz.prog.follows .mixedOrders = true := (by kernel_rfl)
 obtain ⟨i3, hi3, hz3, hs3, hby3⟩ := infoE3_parts; obtain ⟨n, hl⟩ : ∃ n, lo.length = n := ⟨_, rfl⟩
 have hkn := zh (rns_known lo); rw [hl] at hm ⊢; have hn63 : n ≤ 9223372036854775807 := (by omega)
 obtain ⟨c, hc⟩ : ∃ c, w.heap.size = c := ⟨_, rfl⟩
 obtain ⟨wA, hwA⟩ : ∃ wA, wA = w.alloc (.cells #[.int .i64 ty, .slice u1 n r1, .slice u2 bo.len r2] 83) := ⟨_, rfl⟩
 have hbel : Below w.heap.size w wA := (by rw [hwA]; exact (Below.refl _ _).alloc (Nat.le_refl _) _)
 have hbx : Box wA c #[.int .i64 ty, .slice u1 n r1, .slice u2 bo.len r2] := (by rw [hwA, ← hc]; exact box_new w _ _)
 obtain ⟨p, hp2⟩ : ∃ p, c + 1 = p := ⟨_, rfl⟩
 have hp : wA.heap.size = p := (by rw [hwA, ← hp2, ← hc]; simp)
 obtain ⟨wB, hwB⟩ : ∃ wB, wB = wA.alloc (.cells #[.slice none 0 0, .bool false] 101) := ⟨_, rfl⟩
 have hbelB : Below wA.heap.size wA wB := (by rw [hwB]; exact (Below.refl _ _).alloc (Nat.le_refl _) _)
 have h0 : PAt w.heap.size p wB (.slice none 0 0) ⟨[], false⟩ := (by rw [hwB, ← hp]; exact (PAt.new wA).mono hbel.size)
 have hV : Vw wA p (.slice none 0 0) wB := (by rw [← hp] at h0 ⊢; exact Vw.oldp (by rw [hwB]; exact PAt.new wA) hbelB)
 have hBw : Below w.heap.size w wB := hbel.trans (hbelB.mono hbel.size); have hI := zh (i1.keep (keep_below hbel)); have hI2 := zh (i2.below hbel); have hbB := zh (hbx.keep (keep_below hbelB)); have hIB := zh ((i1.keep (keep_below hbel)).keep (keep_below hbelB)); have hcN : c < wB.heap.size := (by rw [← hc]; have := hbelB.size; rw [hwA] at this; simp at this; omega)
 have hbNs := zh (fun (b o j : Nat) (x : Int) (h : u1 = some ⟨b, o, none⟩) (hj : lo[j]? = some x) => (by
  obtain ⟨b', o', e, hcell⟩ := hIB.out.cell hj; rw [h] at e; cases e; exact World.block_lt_of_cell? _ _ hcell : b < wB.heap.size))
 replace h0 := zh h0; replace hV := zh hV; replace hBw := zh hBw; replace hl := zh hl; have hbx' := zh hbx; clear i1 i2 hbel hbelB hbx; go_enter Tryz.func159, Tryz.ntmps159; go_wp2_with fail; rw [← hwA, ← hwB]; clear hwA hwB hc hp hp2; go_loopw [4, 5, 6] (fun v4 v5 v6 wr => ∃ (i k : Nat) (a4 : Option Addr) (c4 : Nat) (a5 : Option Addr) (c5 : Nat), i ≤ n ∧ v6 = .int .i64 i ∧ v4 = .slice a4 k c4 ∧ v5 = .slice a5 k c5 ∧ k ≤ i ∧ Hid (k = (rns (lo.take i)).length ∧ wr.ownsRow wB.heap.size 3 1 (.slice a4 k c4) k (ic (cnts (rns (lo.take i)))) ∧ wr.ownsRow wB.heap.size 3 1 (.slice a5 k c5) k (ic (typs (rns (lo.take i)))) ∧ ∀ g, (Value.slice a4 k c4).ownBlock = some g → (Value.slice a5 k c5).ownBlock ≠ some g) ∧ Hid (Below wB.heap.size wB wr)) (fun _ _ v6 _ => n - (intOf v6).toNat)
 case atStart => exact ⟨0, 0, none, 0, none, 0, Nat.zero_le _, rfl, rfl, rfl, Nat.le_refl _, zh ⟨rfl, World.ownsRow_nil _ _ _ _, World.ownsRow_nil _ _ _ _, fun g e => by cases e⟩, zh (Below.refl _ _)⟩
 case round =>
  obtain ⟨i, k, a4, c4, a5, c5, hle, rfl, rfl, rfl, hki, hown, hB⟩ := hrel; have hkl := zh hown.out.1; have hdis := hown.out.2.2.2; have X1 : wr.cell? ⟨c, 1, none⟩ = some (.slice u1 n r1) := keep_below hB.out _ _ (hbB.out 1 _ rfl)
  by_cases hlt : i < n
  · obtain ⟨x, hx⟩ : ∃ x, lo[i]? = some x := ⟨_, List.getElem?_eq_getElem (by rw [hl.out]; exact hlt)⟩
    have hst := rns_take hx; obtain ⟨b, o, rfl, hcl⟩ := (hIB.out.keep (keep_below hB.out)).cell hx; have hbN := zh (hbNs.out b o i x rfl hx); obtain ⟨j1, j2, j3, j4⟩ := hkn.out i (by rw [hl.out]; omega)
    rcases j4 with ⟨hi0, hr0⟩ | ⟨k', c', t, r, hik, hk', hr0⟩
    · have hst2 := zh (show rns (lo.take (i + 1)) = (1, x) :: rns (lo.take i) by rw [hst, hr0]; rfl); have hk0 : ¬ 0 < k := (by rw [hkl.out, hr0]; simp)
      have hd : decide (0 < k) = false := decide_eq_false hk0; have hdi : decide ((0 : Int) < (k : Int)) = false := decide_eq_false (by omega); clear hx hst j1 j2 j3 hi0 hr0; go_wp2_with fail
      go_quiet (fail)
      have hB9 := hB.out; have hN9 := hB9.size
      go_upto_region 9 with fail
      refine wpk_then ?_; intro K hK
      go_cut [4, 5] from 42 to 52 (fun v4 v5 wx => ∃ g cp g' cp', v4 = .slice (some ⟨g, 0, none⟩) (k + 1) cp ∧ v5 = .slice (some ⟨g', 0, none⟩) (k + 1) cp' ∧ Hid (wx.ownsRow wB.heap.size 3 1 (.slice (some ⟨g, 0, none⟩) (k + 1) cp) (k + 1) (ic (cnts (rns (lo.take i))) ++ [.int .i64 1])) ∧ Hid (wx.ownsRow wB.heap.size 3 1 (.slice (some ⟨g', 0, none⟩) (k + 1) cp') (k + 1) (ic (typs (rns (lo.take i))) ++ [.int .i64 x])) ∧ Hid (g ≠ g') ∧ Hid (Below wB.heap.size wB wx))
      case first => refine wp_fv _ 80 rfl (region_code (i := i) (k := k) (x := x) (b := b) (o := o) (c := c) (N0 := wB.heap.size) hi3 hz3 hs3 hby3 hmix rfl rfl rfl rfl (hown.out.2.1) (hown.out.2.2.1) hdis (X1) hcN (hcl) (hbN.out) (hB.out.size) hlt hn63 (by omega) ?_); intro w' f g cp g' cp' h1 h2 h3 h4 h5 h6; replace h1 := zh h1; replace h2 := zh h2; replace h3 := zh h3; replace h4 := zh (hB.out.trans (Below.of_drewN h4)); go_wp2_with fail; go_meet; exact ⟨g, cp, g', cp', h5, h6, h1, h2, h3, h4⟩
      case rest =>
      obtain ⟨g, cp, g', cp', rfl, rfl, z1, z2, z3, z4⟩ := hcut; refine (hK _ _).2 ?_; clear hK; have z1' := z1.out; have z2' := z2.out; go_wp2; exact ⟨⟨i + 1, k + 1, some ⟨g, 0, none⟩, cp, some ⟨g', 0, none⟩, cp', by omega, by simp, rfl, rfl, by omega, zh ⟨by rw [hst2.out, List.length_cons, hkl.out], by rw [hst2.out, cnts_cons, ic_append]; exact z1', by rw [hst2.out, typs_cons, ic_append]; exact z2', fun h e e2 => z3.out (by rw [Value.ownBlock] at e e2; cases e; cases e2; rfl)⟩, z4⟩, by simp [intOf]; omega⟩
    · obtain ⟨b', o', hbo, hcl'⟩ := (hIB.out.keep (keep_below hB.out)).cell hk'; cases hbo; obtain ⟨kk, hkk⟩ : ∃ kk, r.length = kk := ⟨_, rfl⟩
      have hkr : k = kk + 1 := (by rw [hkl.out, hr0, List.length_cons, hkk])
      subst hkr; have hownB := hown.out.2.2.1; rw [hr0, typs_cons, ic_append] at hownB; have helB : (ic (typs r)).length = kk := (by rw [ic_length, typs_length, hkk])
      rcases hownB.2 with ⟨e1, _⟩ | ⟨g5, cap5, cur5, e1, hg5, _⟩
      · cases e1
      cases e1
      have hc5 : wr.cell? ⟨g5, kk, none⟩ = some (.int .i64 t) := by have := hownB.cells (g := g5) rfl kk (.int .i64 t) (by rw [List.getElem?_append_right (by omega), helB, Nat.sub_self]; rfl); simpa [Addr.add_lit] using this
      have hdt : decide ((0 : Int) < ((kk + 1 : Nat) : Int)) = true := decide_eq_true (by omega); have hidx : ((kk + 1 : Nat) : Int) - 1 = (kk : Int) := (by omega)
      by_cases he : t = x
      · subst he; have hst2 := zh (show rns (lo.take (i + 1)) = (c' + 1, t) :: r by rw [hst, hr0]; show (if t = t then _ else _) = _; rw [if_pos rfl]); have hownA := hown.out.2.1; rw [hr0, cnts_cons, ic_append] at hownA; have helA : (ic (cnts r)).length = kk := (by rw [ic_length, cnts_length, hkk])
        rcases hownA.2 with ⟨e1, _⟩ | ⟨g4, cap4, cur4, e1, hg4, _⟩
        · cases e1
        cases e1
        have hc4 : wr.cell? ⟨g4, kk, none⟩ = some (.int .i64 ((c' : Nat) : Int)) := by have := hownA.cells (g := g4) rfl kk (.int .i64 ((c' : Nat) : Int)) (by rw [List.getElem?_append_right (by omega), helA, Nat.sub_self]; rfl); simpa [Addr.add_lit] using this
        have hf4 := own_free hownA kk; have hnewA := zh (fun (m : Nat) => own_set (w := wr.drewN m) hownA kk (.int .i64 (((c' : Nat) : Int) + 1))); have hnewB := zh (fun (m : Nat) => ownsRow_setCell_other (w := wr.drewN m) hownB (a := ⟨g4, kk, none⟩) (fun e => hdis g4 rfl e) (.int .i64 (((c' : Nat) : Int) + 1))); have hbw := zh (fun (m : Nat) => (Below.to_drewN (m := m) hB.out).setCell (p := ⟨g4, kk, none⟩) hg4 (.int .i64 (((c' : Nat) : Int) + 1)))
        have hc'b : c' ≤ n := by rw [hr0, List.reverse_cons, psum_snoc] at j1; simp only at j1; omega
        replace hdis := zh hdis; replace helA := zh helA; clear hx hst j1 j2 j3 hownA hownB hg4 hg5 hk' hcl' hr0 hik helB; go_wp2_with fail
        go_quiet (fail)
        go_wp2
        exact ⟨⟨i + 1, kk + 1, some ⟨g4, 0, none⟩, c4, some ⟨g5, 0, none⟩, c5, by omega, by simp, rfl, rfl, by omega, zh ⟨by rw [hst2.out, List.length_cons, hkk], by
         rw [hst2.out, cnts_cons, ic_append]; have h9 := hnewA.out nq; rw [List.set_append_right _ _ (by rw [helA.out]; omega), helA.out, Nat.sub_self] at h9; exact h9, by
         rw [hst2.out, typs_cons, ic_append]; exact hnewB.out _, hdis.out⟩, zh (hbw.out _)⟩, by simp [intOf]; omega⟩
      · have hne : (t == x) = false := (by simp [he])
        have hst2 := zh (show rns (lo.take (i + 1)) = (1, x) :: rns (lo.take i) by rw [hst, hr0]; show (if t = x then _ else _) = _; rw [if_neg he]); clear hx hst j1 j2 j3 hownB hg5 hk' hcl' hr0 hik helB; go_wp2_with fail
        go_quiet (fail)
        have hB9 := hB.out; have hN9 := hB9.size
        go_upto_region 9 with fail
        refine wpk_then ?_; intro K hK
        go_cut [4, 5] from 42 to 52 (fun v4 v5 wx => ∃ g cp g' cp', v4 = .slice (some ⟨g, 0, none⟩) (kk + 1 + 1) cp ∧ v5 = .slice (some ⟨g', 0, none⟩) (kk + 1 + 1) cp' ∧ Hid (wx.ownsRow wB.heap.size 3 1 (.slice (some ⟨g, 0, none⟩) (kk + 1 + 1) cp) (kk + 1 + 1) (ic (cnts (rns (lo.take i))) ++ [.int .i64 1])) ∧ Hid (wx.ownsRow wB.heap.size 3 1 (.slice (some ⟨g', 0, none⟩) (kk + 1 + 1) cp') (kk + 1 + 1) (ic (typs (rns (lo.take i))) ++ [.int .i64 x])) ∧ Hid (g ≠ g') ∧ Hid (Below wB.heap.size wB wx))
        case first => refine wp_fv _ 80 rfl (region_code (i := i) (k := kk + 1) (x := x) (b := b) (o := o) (c := c) (N0 := wB.heap.size) hi3 hz3 hs3 hby3 hmix rfl rfl rfl rfl (hown.out.2.1) (hown.out.2.2.1) hdis (X1) hcN (hcl) (hbN.out) (hB.out.size) hlt hn63 (by omega) ?_); intro w' f g cp g' cp' h1 h2 h3 h4 h5 h6; replace h1 := zh h1; replace h2 := zh h2; replace h3 := zh h3; replace h4 := zh (hB.out.trans (Below.of_drewN h4)); go_wp2_with fail; go_meet; exact ⟨g, cp, g', cp', h5, h6, h1, h2, h3, h4⟩
        case rest =>
        obtain ⟨g, cp, g', cp', rfl, rfl, z1, z2, z3, z4⟩ := hcut; refine (hK _ _).2 ?_; clear hK; have z1' := z1.out; have z2' := z2.out; go_wp2; exact ⟨⟨i + 1, kk + 1 + 1, some ⟨g, 0, none⟩, cp, some ⟨g', 0, none⟩, cp', by omega, by simp, rfl, rfl, by omega, zh ⟨by rw [hst2.out, List.length_cons, hkl.out], by rw [hst2.out, cnts_cons, ic_append]; exact z1', by rw [hst2.out, typs_cons, ic_append]; exact z2', fun h e e2 => z3.out (by rw [Value.ownBlock] at e e2; cases e; cases e2; rfl)⟩, z4⟩, by simp [intOf]; omega⟩
  · have hin : i = n := (by omega)
    have hrn : rns (lo.take i) = rns lo := (by rw [List.take_of_length_le (by rw [hl.out]; omega)])
    obtain ⟨R, hR⟩ : ∃ R, (rns lo).reverse = R := ⟨_, rfl⟩
    have hkR : k = R.length := (by rw [hkl.out, hrn, ← hR]; simp)
    have hxl : xLoc lo = uB R.length ++ (R.flatMap locF).flatten := (by unfold xLoc locC runs; rw [hR, List.flatten_cons])
    obtain ⟨wq, hwq⟩ : ∃ wq, wq = wr := ⟨_, rfl⟩
    subst hwq; have hcnt : cnts (rns (lo.take i)) = R.map fun q => ((q.1 : Nat) : Int) := (by rw [hrn, ← hR]; rfl)
    have htyp : typs (rns (lo.take i)) = R.map fun q => q.2 := (by rw [hrn, ← hR]; rfl)
    have hpN : p < wB.heap.size := h0.out.lt
    have EA : ∀ j q, R[j]? = some q → ∃ g, a4 = some ⟨g, 0, none⟩ ∧ g ≠ p ∧ wq.cell? ⟨g, j, none⟩ = some (.int .i64 ((q.1 : Nat) : Int)) := fun j q hq => by
     have ho := hown.out.2.1; rw [hcnt] at ho
     rcases ho.2 with ⟨e1, e2⟩ | ⟨g, cap, cur, e1, hg, _⟩
     · have := (List.getElem?_eq_some_iff.1 hq).1; omega
     · cases e1; refine ⟨g, rfl, by omega, ?_⟩; simpa [Addr.add_lit] using ho.cells (g := g) rfl j (.int .i64 ((q.1 : Nat) : Int)) (by unfold ic; rw [List.getElem?_map, List.getElem?_map, hq]; rfl)
    have EB : ∀ j q, R[j]? = some q → ∃ g, a5 = some ⟨g, 0, none⟩ ∧ g ≠ p ∧ wq.cell? ⟨g, j, none⟩ = some (.int .i64 q.2) := fun j q hq => by
     have ho := hown.out.2.2.1; rw [htyp] at ho
     rcases ho.2 with ⟨e1, e2⟩ | ⟨g, cap, cur, e1, hg, _⟩
     · have := (List.getElem?_eq_some_iff.1 hq).1; omega
     · cases e1; refine ⟨g, rfl, by omega, ?_⟩; simpa [Addr.add_lit] using ho.cells (g := g) rfl j (.int .i64 q.2) (by unfold ic; rw [List.getElem?_map, List.getElem?_map, hq]; rfl)
    have hP := zh (h0.out.below hB.out); have hVq := zh (hV.out.tr (Tr.of_below hB.out)); have hBq := zh (hBw.out.trans (hB.out.mono hBw.out.size)); have hwN := zh h0.out.hN; replace EA := zh EA; replace EB := zh EB; replace hxl := zh hxl; have hkR' := zh hkR; have hk63 : k ≤ 65536 := (by omega)
    clear hkR hcnt htyp hrn hR hdis hkn; go_wp2_with fail; refine (pu_any hP.out k).mono ?_; rintro e w1 ⟨rfl, v1, s1, h1, t1, q1⟩; replace h1 := zh h1; replace t1 := zh t1; replace q1 := zh q1; go_wp2_with fail; go_loopw [8] (fun vj wx => ∃ (j : Nat) (v2 : Value) (s2 : PS), j ≤ k ∧ vj = .int .i64 j ∧ Hid (PAt w.heap.size p wx v2 s2) ∧ Hid (Tr p (.slice none 0 0) v2 wq wx) ∧ Hid (Pen ⟨[], false⟩ (uB k ++ ((R.take j).flatMap locF).flatten) s2)) (fun vj _ => k - (intOf vj).toNat)
    case atStart => exact ⟨0, v1, s1, Nat.zero_le _, rfl, h1, t1, zh (by simpa using q1.out)⟩
    case round =>
     obtain ⟨j, v2, s2, hle2, rfl, h2, t2, q2⟩ := hrel
     by_cases hlt2 : j < k
     · obtain ⟨q, hq⟩ : ∃ q, R[j]? = some q := ⟨_, List.getElem?_eq_getElem (by rw [← hkR'.out]; exact hlt2)⟩
       obtain ⟨g4, rfl, n4, z4⟩ := EA.out j q hq; obtain ⟨g5, rfl, n5, z5⟩ := EB.out j q hq; have y4 := t2.out.cell (a := ⟨g4, j, none⟩) n4 (fun e => by cases e) z4; have hst := zh (show ((R.take (j + 1)).flatMap locF).flatten = ((R.take j).flatMap locF).flatten ++ uB ((q.1 : Nat) : Int) ++ [b1 q.2] by rw [List.take_add_one, hq, List.flatMap_append, List.flatten_append]; simp [locF]); replace z5 := zh z5; replace n5 := zh n5; clear hq z4 n4; go_wp2_with fail; refine (pu_any h2.out ((q.1 : Nat) : Int)).mono ?_; rintro e w3 ⟨rfl, v3, s3, h3, t3, q3⟩; replace h3 := zh h3; replace t3 := zh (t2.out.trans t3); replace q3 := zh (q2.out.trans q3); have y5 := t3.out.cell (a := ⟨g5, j, none⟩) n5.out (fun e => by cases e) z5.out; clear y4; go_wp2_with fail; refine (pbyte_any h3.out q.2).mono ?_; rintro e w4 ⟨rfl, v4, s4, h4, t4, q4⟩; replace h4 := zh h4; replace t4 := zh (t3.out.trans t4); replace q4 := zh (show Pen ⟨[], false⟩ (uB k ++ ((R.take (j + 1)).flatMap locF).flatten) s4 by rw [hst.out]; simpa only [List.append_assoc] using q3.out.trans q4); clear y5 hst; go_wp2; exact ⟨⟨j + 1, v4, s4, by omega, by simp, h4, t4, q4⟩, by simp [intOf]; omega⟩
     · have hjk : j = k := (by omega)
       have hfin := zh (show Pen ⟨[], false⟩ (xLoc lo) s2 by
        have := q2.out; rw [List.take_of_length_le (by rw [← hkR'.out]; omega)] at this; rw [hxl.out, ← hkR'.out]; exact this)
       have hV2 := zh (hVq.out.tr t2.out); have X2 : wr.cell? ⟨c, 2, none⟩ = some (.slice u2 bo.len r2) := hV2.out.keeps _ _ (hbx'.out 2 _ rfl); go_wp2_with fail; refine (pexpr_any bo wA w.heap.size p wr v2 s2 u2 r2 h2.out hV2.out l2 hI2.out ok).mono ?_; rintro e w5 ⟨rfl, v5, s5, h5, t5, q5⟩; have hz := zh (hBq.out.trans ((t2.out.trans t5).below hwN.out (fun g e => by cases e) hBq.out.size)); replace h5 := zh h5; replace q5 := zh (hfin.out.trans q5); clear t5 X2; go_wp2; go_ret; exact ⟨p, v5, s5, rfl, h5.out, hz.out, q5.out⟩
end Go.Proofs.YtkbfjkbokifgkaaGreatDoor
