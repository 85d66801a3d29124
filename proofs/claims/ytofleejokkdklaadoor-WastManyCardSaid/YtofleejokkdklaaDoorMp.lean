/- The walk of WastMany. -/
import Derived.Test.YtofleejokkdklaaDoorMo
import Derived.BigRegion
import Derived.Deep.RegionLaw
namespace Go.Proofs.YtofleejokkdklaaDoor
open Go.RowKit
set_option linter.unusedVariables false

theorem sevens_store {w : World} {B N i : Nat} (h : ∀ j, j < N → Seven w B (j * 7) (if j < i then 1 else 0)) (hi : i < N) :
    ∀ j, j < N → Seven (w.setCell ⟨B, i * 7, none⟩ (.int .i64 1)) B (j * 7) (if j < i + 1 then 1 else 0) := fun j hj => by
  have h7 := h j hj
  have ho : ∀ k v, k ≠ i * 7 → w.cell? ⟨B, k, none⟩ = some v → (w.setCell ⟨B, i * 7, none⟩ (.int .i64 1)).cell? ⟨B, k, none⟩ = some v := fun k v hk hv => so_other hv (.inr (fun e => hk e.symm))
  by_cases hji : j = i
  · subst hji
    rw [if_pos (by omega)]
    exact ⟨so_same h7.c0, ho _ _ (by omega) h7.c1, ho _ _ (by omega) h7.c2, ho _ _ (by omega) h7.c3, ho _ _ (by omega) h7.c4, ho _ _ (by omega) h7.c5, ho _ _ (by omega) h7.c6⟩
  · have e : (if j < i + 1 then (1 : Int) else 0) = if j < i then 1 else 0 := by
      by_cases h1 : j < i
      · rw [if_pos h1, if_pos (by omega)]
      · rw [if_neg h1, if_neg (by omega)]
    rw [e]
    exact ⟨ho _ _ (by omega) h7.c0, ho _ _ (by omega) h7.c1, ho _ _ (by omega) h7.c2, ho _ _ (by omega) h7.c3, ho _ _ (by omega) h7.c4, ho _ _ (by omega) h7.c5, ho _ _ (by omega) h7.c6⟩

/-- A module that grows: its box, and the row of its functions. -/
structure Grow (w3 wr : World) (T M : Nat) (v : Value) (fs : List FRec) : Prop where
  below : Below w3.heap.size w3 wr
  lt : M < wr.heap.size
  box : ∀ j u, (mdC (.slice (some ⟨T, 0, none⟩) 1 1) v)[j]? = some u → wr.cell? ⟨M, j, none⟩ = some u
  free : ∀ k, wr.frozen? ⟨M, k, none⟩ = false
  own : wr.ownsRow (M + 1) 49 3 v fs.length (fs.flatMap frecV)
theorem grow_new (w3 : World) (T : Nat) : Grow w3 (w3.alloc (.cells (mdC (.slice (some ⟨T, 0, none⟩) 1 1) (.slice none 0 0)) 36)) T w3.heap.size (.slice none 0 0) [] :=
  ⟨(Below.refl _ _).alloc (Nat.le_refl _) _, by simp, at_of rfl _ _, fun k => World.frozen?_alloc_at _ _ _ _ (by simp), World.ownsRow_nil _ _ _ _⟩
theorem mdC_row (v0 v v' : Value) : ∀ j u, (mdC v0 v')[j]? = some u → (j = 2 ∧ u = v') ∨ (j ≠ 2 ∧ (mdC v0 v)[j]? = some u)
  | 0, u, h => .inr ⟨by decide, h⟩
  | 1, u, h => .inr ⟨by decide, h⟩
  | 2, u, h => .inl ⟨rfl, by simpa [mdC] using h.symm⟩
  | 3, u, h => .inr ⟨by decide, h⟩
  | 4, u, h => .inr ⟨by decide, h⟩
  | 5, u, h => .inr ⟨by decide, h⟩
  | 6, u, h => .inr ⟨by decide, h⟩
  | 7, u, h => .inr ⟨by decide, h⟩
  | 8, u, h => .inr ⟨by decide, h⟩
  | 9, u, h => .inr ⟨by decide, h⟩
  | j + 10, u, h => by simp [mdC] at h
theorem set_grown (w : World) (p : Addr) (v : Value) : w.grownBy (w.setCell p v) (some p.block) :=
  ⟨rfl, rfl, rfl, by simp [World.setCell], fun k hk hne => Below.heap_setCell _ _ _ _ (fun e => hne (by rw [e]))⟩
theorem Grow.cells {w3 wr wx w1 : World} {T M : Nat} {v : Value} {fs : List FRec} (h : Grow w3 wr T M v fs) (hx : Below wr.heap.size wr wx) (hgrow : wx.grownBy w1 v.ownBlock) (j : Nat) :
    w1.cell? ⟨M, j, none⟩ = wr.cell? ⟨M, j, none⟩ ∧ w1.frozen? ⟨M, j, none⟩ = wr.frozen? ⟨M, j, none⟩ := by
  have hM := h.lt
  have hvo : ∀ k, v.ownBlock = some k → M + 1 ≤ k := fun k e => (h.own.lt k e).1
  have hne : some (⟨M, j, none⟩ : Addr).block ≠ v.ownBlock := fun e => Nat.not_succ_le_self _ (hvo _ e.symm)
  exact ⟨by rw [hgrow.cell_far ⟨M, j, none⟩ (Nat.lt_of_lt_of_le hM hx.size) hne, hx.cell (p := ⟨M, j, none⟩) hM], by rw [hgrow.frozen_far ⟨M, j, none⟩ (Nat.lt_of_lt_of_le hM hx.size) hne, hx.frozen (p := ⟨M, j, none⟩) hM]⟩
theorem Grow.step {w3 wr wx w1 : World} {T M : Nat} {v v' : Value} {fs : List FRec} {t : FRec} {g cap n : Nat} (hn : fs.length = n) (h : Grow w3 wr T M v fs) (hM3 : w3.heap.size = M) (hx : Below wr.heap.size wr wx)
    (hv' : v' = .slice (some ⟨g, 0, none⟩) (n + 1) cap) (hown : w1.ownsRow (M + 1) 49 3 v' (n + 1) (fs.flatMap frecV ++ frecV t)) (hgrow : wx.grownBy w1 v.ownBlock) :
    Grow w3 (w1.setCell ⟨M, 2, none⟩ v') T M v' (fs ++ [t]) := by
  subst hM3
  subst hn
  have hM := h.lt
  have hvo : ∀ k, v.ownBlock = some k → w3.heap.size + 1 ≤ k := fun k e => (h.own.lt k e).1
  have hgb : w3.heap.size + 1 ≤ g := (hown.lt g (by rw [hv']; rfl)).1
  have hb1 : Below w3.heap.size w3 w1 := (h.below.trans (hx.mono h.below.size)).grown hgrow (Nat.le_trans h.below.size hx.size) (fun k e => by have := hvo k e; omega)
  have hne : some (⟨w3.heap.size, 2, none⟩ : Addr).block ≠ v.ownBlock := fun e => Nat.not_succ_le_self _ (hvo _ e.symm)
  have hcell : ∀ j, w1.cell? ⟨w3.heap.size, j, none⟩ = wr.cell? ⟨w3.heap.size, j, none⟩ := fun j => by
    rw [hgrow.cell_far ⟨w3.heap.size, j, none⟩ (Nat.lt_of_lt_of_le hM hx.size) hne, hx.cell (p := ⟨w3.heap.size, j, none⟩) hM]
  have hfr : ∀ j, w1.frozen? ⟨w3.heap.size, j, none⟩ = wr.frozen? ⟨w3.heap.size, j, none⟩ := fun j => by
    rw [hgrow.frozen_far ⟨w3.heap.size, j, none⟩ (Nat.lt_of_lt_of_le hM hx.size) hne, hx.frozen (p := ⟨w3.heap.size, j, none⟩) hM]
  refine ⟨hb1.setCell (p := ⟨w3.heap.size, 2, none⟩) (Nat.le_refl _) _, ?_, ?_, ?_, ?_⟩
  · have := hgrow.size
    have := hx.size
    simp [World.setCell]
    omega
  · intro j u hj
    rcases mdC_row _ v v' j u hj with ⟨rfl, rfl⟩ | ⟨hj2, ho⟩
    · exact so_same (by rw [hcell]; exact h.box 2 v rfl)
    · exact so_other (by rw [hcell]; exact h.box j u ho) (.inr (fun e => hj2 e.symm))
  · intro k
    rw [World.frozen?_setCell, hfr]
    exact h.free k
  · have := hown.kept (set_grown w1 ⟨w3.heap.size, 2, none⟩ v') (.inr (by rw [hv']; simp [Value.ownBlock]; omega))
    simpa using this

theorem wrap_i64_small (n : Int) (h0 : 0 ≤ n) (h1 : n < 2 ^ 63) : IntKind.i64.wrap n = n := by
  have e : (2 : Int) ^ 63 = 9223372036854775808 := by decide
  rw [e] at h1
  simp [IntKind.wrap, IntKind.bits, IntKind.signed]
  omega
set_option maxRecDepth 100000 in
set_option maxHeartbeats 1000000 in
theorem many_any (n f d : Int) (w : World) (hT : TabU w) : Calls Tryd.prog 6 #[.int .i64 n, .int .i64 f, .int .i64 d] w fun e w' => e = .returned (.bool true) ∧ Below w.heap.size w w' := by
  have HU := Lib.hid hT
  clear hT
  go_enter Tryd.func6, Tryd.ntmps6
  by_cases hr : n < 0 ∨ n > 66000 ∨ f < 1 ∨ f > 5 ∨ d < 0 ∨ d > 80
  · go_wp2_with fail
    all_goals (
      refine (wakes_any _ HU.out).mono ?_
      rintro e w' ⟨rfl, b⟩
      go_wp2
      go_ret
      exact ⟨rfl, b⟩)
  · obtain ⟨N, rfl⟩ := Int.eq_ofNat_of_zero_le (show 0 ≤ n by omega)
    obtain ⟨F, rfl⟩ := Int.eq_ofNat_of_zero_le (show 0 ≤ f by omega)
    obtain ⟨D, rfl⟩ := Int.eq_ofNat_of_zero_le (show 0 ≤ d by omega)
    have hN : N ≤ 66000 := by omega
    have hF0 : 1 ≤ F := by omega
    have hF1 : F ≤ 5 := by omega
    have hD : D ≤ 80 := by omega
    clear hr
    have hmk := Lib.hid (make_run N w hN)
    have h7 : Hid (∀ j, j < N → Seven (w.alloc (.cells (madeCells zero7 (N * 7)) 45)) w.heap.size (j * 7) (if j < 0 then 1 else 0)) := Lib.hid (fun j hj => by rw [if_neg (by omega)]; exact seven_made w N j hj)
    have hz : Hid (∀ k, (w.alloc (.cells (madeCells zero7 (N * 7)) 45)).frozen? ⟨w.heap.size, k, none⟩ = false) := Lib.hid (fun k => World.frozen?_alloc_at _ _ _ _ (by simp))
    have hb : Hid (Below w.heap.size w (w.alloc (.cells (madeCells zero7 (N * 7)) 45))) := Lib.hid ((Below.refl _ _).alloc (Nat.le_refl _) _)
    go_wp2_with fail
    rw [hmk.out]
    generalize w.alloc (.cells (madeCells zero7 (N * 7)) 45) = w1 at h7 hz hb ⊢
    clear hmk
    go_wp2_with fail
    go_loopw [8] (fun vi wr => ∃ i : Nat, i ≤ N ∧ vi = .int .i64 i ∧ Hid (∀ j, j < N → Seven wr w.heap.size (j * 7) (if j < i then 1 else 0)) ∧ Hid (∀ k, wr.frozen? ⟨w.heap.size, k, none⟩ = false) ∧ Hid (Below w.heap.size w wr)) (fun vi _ => N - (intOf vi).toNat)
    case atStart => exact ⟨0, Nat.zero_le _, rfl, h7, hz, hb⟩
    case round =>
      clear h7 hz hb
      obtain ⟨i, hi, rfl, h7, hz, hb⟩ := hrel
      by_cases hlt : i < N
      · have hc := (h7.out i hlt).c0
        rw [if_neg (Nat.lt_irrefl i)] at hc
        have hfz := hz.out (i * 7)
        have h72 := Lib.hid (sevens_store h7.out hlt)
        have hz2 : Hid (∀ k, (wr.setCell ⟨w.heap.size, i * 7, none⟩ (.int .i64 1)).frozen? ⟨w.heap.size, k, none⟩ = false) := Lib.hid (fun k => by rw [World.frozen?_setCell]; exact hz.out k)
        have hb2 : Hid (Below w.heap.size w (wr.setCell ⟨w.heap.size, i * 7, none⟩ (.int .i64 1))) := Lib.hid (hb.out.setCell (p := ⟨w.heap.size, i * 7, none⟩) (Nat.le_refl _) _)
        clear h7 hz hb
        go_wp2
        go_roundw
        case rel => exact ⟨i + 1, by omega, by simp, h72, hz2, hb2⟩
        case measure => simp [intOf]; omega
      · have hiN : i = N := by omega
        subst hiN
        have h1 : Hid (∀ j, j < i → Seven wr w.heap.size (j * 7) 1) := Lib.hid (fun j hj => by have := h7.out j hj; rwa [if_pos hj] at this)
        clear h7 hi hlt hz
        have hbA := hb
        clear hb
        generalize wr = wA at *
        have hnew : Hid (IlAt (wA.alloc (.cells (instrC 1 (.slice none 0 0)) 45)) wA.heap.size 0 (nest 0)) := Lib.hid (nop_at (at_of rfl _ _))
        have hb0 : Hid (Below wA.heap.size wA (wA.alloc (.cells (instrC 1 (.slice none 0 0)) 45))) := Lib.hid ((Below.refl _ _).alloc (Nat.le_refl _) _)
        unfold instrC at hnew hb0
        go_wp2_with fail
        go_loopw [9, 10] (fun vl vi wr => ∃ k b : Nat, k ≤ D ∧ vi = .int .i64 k ∧ vl = .slice (some ⟨b, 0, none⟩) 1 1 ∧ Hid (IlAt wr b 0 (nest k)) ∧ Hid (Below wA.heap.size wA wr)) (fun _ vi _ => D - (intOf vi).toNat)
        case atStart => exact ⟨0, wA.heap.size, Nat.zero_le _, rfl, rfl, hnew, hb0⟩
        case round =>
          clear hnew hb0
          obtain ⟨k, b, hk, rfl, rfl, hil, hb⟩ := hrel
          by_cases hlt : k < D
          · have hil2 : Hid (IlAt (wr.alloc (.cells (instrC 2 (.slice (some ⟨b, 0, none⟩) 1 1)) 45)) wr.heap.size 0 (nest (k + 1))) := Lib.hid (by
              exact blk1_at (nest_len k) (IlAt.keep (keeps_alloc _ _) _ _ _ hil.out) (at_of rfl _ _))
            have hb2 : Hid (Below wA.heap.size wA (wr.alloc (.cells (instrC 2 (.slice (some ⟨b, 0, none⟩) 1 1)) 45))) := Lib.hid (hb.out.alloc hb.out.size _)
            unfold instrC at hil2 hb2
            go_wp2
            go_roundw
            case rel => exact ⟨k + 1, wr.heap.size, by omega, by simp, rfl, hil2, hb2⟩
            case measure => simp [intOf]; omega
          · have hkD : k = D := by omega
            subst hkD
            clear hk hlt
            have k3 := keeps_alloc wr (.cells #[.slice none 0 0, .slice none 0 0] 47)
            have kA := (show Keeps wA wr from keep_below hb.out).trans k3
            have hT3 : Hid (TypeAt (wr.alloc (.cells #[.slice none 0 0, .slice none 0 0] 47)) wr.heap.size 0 ([], [])) := Lib.hid (by
              have a1 := at_of (w := wr) rfl #[.slice none 0 0, .slice none 0 0] 47
              exact ⟨⟨none, 0, a1 0 _ rfl, ints_nil _⟩, ⟨none, 0, a1 1 _ rfl, ints_nil _⟩⟩)
            have hS3 : Hid (∀ j, j < i → Seven (wr.alloc (.cells #[.slice none 0 0, .slice none 0 0] 47)) w.heap.size (j * 7) 1) := Lib.hid (fun j hj => (h1.out j hj).keep kA)
            have hI3 : Hid (IlAt (wr.alloc (.cells #[.slice none 0 0, .slice none 0 0] 47)) b 0 (nest k)) := Lib.hid (IlAt.keep k3 _ _ _ hil.out)
            have hb3 : Hid (Below w.heap.size w (wr.alloc (.cells #[.slice none 0 0, .slice none 0 0] 47))) := Lib.hid ((hbA.out.trans (hb.out.mono hbA.out.size)).alloc (Nat.le_trans hbA.out.size hb.out.size) _)
            have hG := Lib.hid (grow_new (wr.alloc (.cells #[.slice none 0 0, .slice none 0 0] 47)) wr.heap.size)
            have hs3 : (wr.alloc (.cells #[.slice none 0 0, .slice none 0 0] 47)).heap.size = wr.heap.size + 1 := by simp
            clear hil hb kA k3 h1 hbA
            unfold mdC at hG
            go_wp2_with fail
            generalize wr.alloc (.cells #[.slice none 0 0, .slice none 0 0] 47) = w3 at hT3 hS3 hI3 hb3 hG hs3 ⊢
            generalize wr.heap.size = T at *
            rw [hs3] at hG
            go_loopw [12] (fun vi wr => ∃ (q : Nat) (fs : List FRec) (v : Value), q ≤ F ∧ vi = .int .i64 q ∧ fs.length = q ∧ Hid (fs.map (fun t => t.il) = (List.range q).map (fun j => nops (segN i F j))) ∧ Hid (∀ t ∈ fs, FOk w3 t) ∧ Hid (Grow w3 wr T (T + 1) v fs)) (fun vi _ => F - (intOf vi).toNat)
            case atStart => exact ⟨0, [], _, Nat.zero_le _, rfl, rfl, Lib.hid rfl, Lib.hid (fun t ht => absurd ht (by simp)), hG⟩
            case round =>
              clear hG
              obtain ⟨q, fs, v, hq, rfl, hfl, hseg, hok, hG⟩ := hrel
              have x2 : wr.cell? ⟨T + 1, 2, none⟩ = some v := hG.out.box 2 v rfl
              by_cases hlt : q < F
              · have hfz := hG.out.free 2
                have hm0 : (0 : Int) ≤ (i : Int) * (q : Int) := Int.mul_nonneg (by omega) (by omega)
                have hm1 : (i : Int) * (q : Int) ≤ 66000 * 5 := Int.mul_le_mul (by omega) (by omega) (by omega) (by omega)
                have hm2 : (0 : Int) ≤ (i : Int) * ((q : Int) + 1) := Int.mul_nonneg (by omega) (by omega)
                have hm3 : (i : Int) * ((q : Int) + 1) ≤ 66000 * 5 := Int.mul_le_mul (by omega) (by omega) (by omega) (by omega)
                have q1 : ((i : Int) * (q : Int)).tdiv (F : Int) = ((loN i F q : Nat) : Int) := by
                  rw [← Int.natCast_mul]; exact (Int.ofNat_tdiv _ _).symm
                have q2 : ((i : Int) * ((q : Int) + 1)).tdiv (F : Int) = ((loN i F (q + 1) : Nat) : Int) := by
                  rw [show (q : Int) + 1 = ((q + 1 : Nat) : Int) by omega, ← Int.natCast_mul]; exact (Int.ofNat_tdiv _ _).symm
                have l1 := loN_mono i F q
                have l2 := loN_le i F (q + 1) hF0 (by omega)
                have hFne : F ≠ 0 := by omega
                have eW : ∀ x : Int, 0 ≤ x → x < 2 ^ 63 → IntKind.i64.wrap x = x := fun x h0 h1 => wrap_i64_small x h0 h1
                have eq1 : IntKind.i64.wrap ((q : Int) + 1) = (q : Int) + 1 := eW _ (by omega) (by omega)
                have eA : IntKind.i64.wrap ((i : Int) * (q : Int)) = (i : Int) * (q : Int) := eW _ hm0 (by omega)
                have eB : IntKind.i64.wrap ((i : Int) * ((q : Int) + 1)) = (i : Int) * ((q : Int) + 1) := eW _ hm2 (by omega)
                have eC : IntKind.i64.wrap ((loN i F q : Nat) : Int) = ((loN i F q : Nat) : Int) := eW _ (by omega) (by omega)
                have eD : IntKind.i64.wrap ((loN i F (q + 1) : Nat) : Int) = ((loN i F (q + 1) : Nat) : Int) := eW _ (by omega) (by omega)
                clear eW hm0 hm1 hm2 hm3
                generalize hlo : loN i F q = lo at *
                generalize hhi : loN i F (q + 1) = hi at *
                have n1 : (0 : Int) ≤ (lo : Int) := by omega
                have n2 : (lo : Int) ≤ (hi : Int) := by omega
                have n3 : (hi : Int) ≤ (i : Int) := by omega
                obtain ⟨t, htD⟩ : ∃ t : FRec, t = ⟨if i = lo then some ⟨w.heap.size, 0, none⟩ else some ⟨w.heap.size, lo * 7, none⟩, i - lo, nops (hi - lo)⟩ := ⟨_, rfl⟩
                have hseg2 : Hid ((fs ++ [t]).map (fun t => t.il) = (List.range (q + 1)).map (fun j => nops (segN i F j))) := Lib.hid (by
                  rw [List.map_append, hseg.out, List.range_succ, List.map_append]
                  have : segN i F q = hi - lo := by unfold segN; rw [hlo, hhi]
                  simp [htD, this])
                have hok2 : Hid (∀ u ∈ fs ++ [t], FOk w3 u) := Lib.hid (by
                  intro u hu
                  rcases List.mem_append.1 hu with h | h
                  · exact hok.out u h
                  · obtain rfl := List.mem_singleton.1 h
                    rw [htD]
                    refine ⟨by rw [nops_len]; omega, ?_⟩
                    by_cases hil : i = lo
                    · left
                      show nops (hi - lo) = .nil
                      rw [show hi - lo = 0 by omega]
                      rfl
                    · right
                      exact ⟨w.heap.size, lo * 7, by rw [if_neg hil], nops_at hS3.out (hi - lo) lo (by omega)⟩)
                have hfr : Hid ([.int .i64 0, .slice none 0 0, .slice (if i = lo then some ⟨w.heap.size, 0, none⟩ else some ⟨w.heap.size, lo * 7, none⟩) (hi - lo) (i - lo)] = frecV t) := Lib.hid (by rw [htD]; simp [frecV, nops_len])
                have hfl2 : (fs ++ [t]).length = q + 1 := by simp [hfl]
                clear htD hseg hok
                have hG2 := hG.out
                have own := hG2.own
                rw [hfl] at own
                have hlr : T + 1 < wr.heap.size := hG2.lt
                obtain ⟨ie, hie, hze, hse, hbe⟩ := info_parts info49
                go_wp2_with fail
                go_region_law ((
                  refine step_append_lies _ (by rfl) _ _ _ (by rfl) (T + 1 + 1) 49 ie _ 3 56 Tryd.underlying28 hie hze hse hbe rfl (by omega) v q (fs.flatMap frecV) (by rfl) (by first | exact own.drew.alloc _ | exact (own.alloc _).drew)
                    ⟨wr.heap.size, 0, none⟩ 1 1 [.int .i64 0, .slice none 0 0, .slice (if i = lo then some ⟨w.heap.size, 0, none⟩ else some ⟨w.heap.size, lo * 7, none⟩) (hi - lo) (i - lo)] (by rfl) (by rfl)
                    (World.news_of_block (cs := #[.int .i64 0, .slice none 0 0, .slice (if i = lo then some ⟨w.heap.size, 0, none⟩ else some ⟨w.heap.size, lo * 7, none⟩) (hi - lo) (i - lo)]) (t := 49) (fr := (0, 0)) (heap_alloc_new _ _)) (by intro u hu; simp only [List.mem_cons, List.mem_nil_iff, or_false] at hu; rcases hu with rfl | rfl | rfl <;> rfl)
                    (by omega) (by unfold maxLen; omega) (by omega) (by simp; omega) (wr.heap.size + 1) (by simp) ?_
                  intro g cap w1 hown1 hgrow hat hlt1
                  have hx := (Below.refl wr.heap.size wr).drew.alloc (Nat.le_refl _) (.cells #[.int .i64 0, .slice none 0 0, .slice (if i = lo then some ⟨w.heap.size, 0, none⟩ else some ⟨w.heap.size, lo * 7, none⟩) (hi - lo) (i - lo)] 49)
                  have hst : w1.cell? ⟨T + 1, 2, none⟩ = some v := (hG2.cells hx hgrow 2).1.trans x2
                  have hsf : w1.frozen? ⟨T + 1, 2, none⟩ = false := (hG2.cells hx hgrow 2).2.trans hfz))
                all_goals go_wp2
                all_goals (
                  rw [hfr.out] at hown1
                  exact ⟨⟨q + 1, fs ++ [t], _, by omega, by simp, hfl2, hseg2, hok2, Lib.hid (hG2.step hfl hs3 hx rfl hown1 hgrow)⟩, by simp [intOf]; omega⟩)
              · have hqF : q = F := by omega
                subst hqF
                have hG2 := hG.out
                have own := hG2.own
                rw [hfl] at own
                have hlr : T + 1 < wr.heap.size := hG2.lt
                have hfz := hG.out.free 2
                obtain ⟨ie, hie, hze, hse, hbe⟩ := info_parts info49
                obtain ⟨t, htD⟩ : ∃ t : FRec, t = ⟨some ⟨b, 0, none⟩, 1, nest k⟩ := ⟨_, rfl⟩
                have hseg2 : Hid ((fs ++ [t]).map (fun t => fil t.il) = manyF ((List.range q).map (segN i q)) k) := Lib.hid (by
                  have e : (fs ++ [t]).map (fun t => fil t.il) = ((fs ++ [t]).map (fun t => t.il)).map fil := by rw [List.map_map]; rfl
                  rw [e, List.map_append, hseg.out]
                  unfold manyF
                  rw [List.map_map, htD]
                  rfl)
                have hok2 : Hid (∀ u ∈ fs ++ [t], FOk w3 u) := Lib.hid (by
                  intro u hu
                  rcases List.mem_append.1 hu with h | h
                  · exact hok.out u h
                  · obtain rfl := List.mem_singleton.1 h
                    rw [htD]
                    refine ⟨by rw [nest_len]; decide, .inr ⟨b, 0, rfl, by simpa using hI3.out⟩⟩)
                have hfr : Hid ([.int .i64 0, .slice none 0 0, .slice (some ⟨b, 0, none⟩) 1 1] = frecV t) := Lib.hid (by rw [htD]; simp [frecV, nest_len])
                have hfl2 : (fs ++ [t]).length = q + 1 := by simp [hfl]
                clear htD hseg hok
                go_upto_region 19 with (first | (
                  at_builtin
                  refine wpList_append_lies _ rfl _ _ _ rfl (T + 1 + 1) 49 ie _ 3 56 Tryd.underlying28 hie hze hse hbe rfl (by omega) v q (fs.flatMap frecV) (by rfl) (own.alloc _)
                    ⟨wr.heap.size, 0, none⟩ 1 1 [.int .i64 0, .slice none 0 0, .slice (some ⟨b, 0, none⟩) 1 1] (by rfl) (by rfl)
                    (World.news_of_block (cs := #[.int .i64 0, .slice none 0 0, .slice (some ⟨b, 0, none⟩) 1 1]) (t := 49) (fr := (0, 0)) (heap_alloc_new _ _)) (by intro u hu; simp only [List.mem_cons, List.mem_nil_iff, or_false] at hu; rcases hu with rfl | rfl | rfl <;> rfl)
                    (by omega) (by unfold maxLen; omega) (by omega) (by simp; omega) (wr.heap.size + 1) (by simp) ?_
                  intro g cap w1 hown1 hgrow hat hlt1
                  have hx := (Below.refl wr.heap.size wr).alloc (Nat.le_refl _) (.cells #[.int .i64 0, .slice none 0 0, .slice (some ⟨b, 0, none⟩) 1 1] 49)
                  have hst : w1.cell? ⟨T + 1, 2, none⟩ = some v := (hG2.cells hx hgrow 2).1.trans x2
                  have hsf : w1.frozen? ⟨T + 1, 2, none⟩ = false := (hG2.cells hx hgrow 2).2.trans hfz))
                rw [hfr.out] at hown1
                have hG3 := Lib.hid (hG2.step hfl hs3 hx rfl hown1 hgrow)
                clear hown1 hgrow hat hlt1 hx hst hsf hG2 own hlr hfz x2 hG
                generalize Value.slice (some ⟨g, 0, none⟩) (q + 1) cap = vF at hG3 ⊢
                generalize w1.setCell ⟨T + 1, 2, none⟩ vF = w5 at hG3 ⊢
                obtain ⟨segs, hsg⟩ : ∃ segs, segs = (List.range q).map (segN i q) := ⟨_, rfl⟩
                have hsl : segs.length ≤ 5 := by rw [hsg]; simp; omega
                have hsum : segs.sum = i := by rw [hsg, segN_sum, loN_top i q hF0]
                rw [← hsg] at hseg2
                have hok5 : ∀ u ∈ fs ++ [t], FOk w5 u := fun u hu => (hok2.out u hu).keep (keep_below hG3.out.below)
                obtain ⟨a2, c2, hvF, hrows⟩ := rows_frec hG3.out.own hok5 (by omega)
                rw [hseg2.out] at hrows
                have hlen : (fs ++ [t]).length = (manyF segs k).length := by rw [← hseg2.out, List.length_map]
                rw [hlen] at hvF
                subst hvF
                have hMd : Hid (MdAt w5 (manyM segs k) (some ⟨T, 0, none⟩) 1 none 0 a2 c2 none 0 none 0 none 0 none 0 none 0 none 0 none 0) := Lib.hid (md_TF (rows_one (hT3.out.keep (keep_below hG3.out.below))) hrows)
                have hB5 : Hid (Below w.heap.size w w5) := Lib.hid (hb3.out.trans (hG3.out.below.mono hb3.out.size))
                have hU5 := Lib.hid (HU.out.below hB5.out)
                clear hok5 hrows hlen hseg2 hok2 hfr hsg
                by_cases hM : (i : Int) + k + 1 > 65536
                · have hV : checkV (manyM segs k) = 3 := by rw [many_check segs k hsl hD, hsum]; exact if_pos hM
                  have hC : 65536 - cntF (manyM segs k).funcs 65536 = 65537 := by rw [many_count, hsum]; exact if_pos hM
                  have x0 : w5.cell? ⟨T + 1, 0, none⟩ = some (.slice (some ⟨T, 0, none⟩) 1 1) := hG3.out.box 0 _ rfl
                  have x1 : w5.cell? ⟨T + 1, 1, none⟩ = some (.slice none 0 0) := hG3.out.box 1 _ rfl
                  have x2 : w5.cell? ⟨T + 1, 2, none⟩ = some (.slice a2 (manyF segs k).length c2) := hG3.out.box 2 _ rfl
                  have x3 : w5.cell? ⟨T + 1, 3, none⟩ = some (.slice none 0 0) := hG3.out.box 3 _ rfl
                  have x4 : w5.cell? ⟨T + 1, 4, none⟩ = some (.slice none 0 0) := hG3.out.box 4 _ rfl
                  have x5 : w5.cell? ⟨T + 1, 5, none⟩ = some (.slice none 0 0) := hG3.out.box 5 _ rfl
                  have x6 : w5.cell? ⟨T + 1, 6, none⟩ = some (.slice none 0 0) := hG3.out.box 6 _ rfl
                  have x7 : w5.cell? ⟨T + 1, 7, none⟩ = some (.slice none 0 0) := hG3.out.box 7 _ rfl
                  have x8 : w5.cell? ⟨T + 1, 8, none⟩ = some (.slice none 0 0) := hG3.out.box 8 _ rfl
                  have x9 : w5.cell? ⟨T + 1, 9, none⟩ = some (.slice none 0 0) := hG3.out.box 9 _ rfl
                  go_wp2_with fail
                  refine (check_any (manyM segs k) _ _ _ _ _ _ _ _ _ _ _ _ _ _ _ _ _ _ _ _ _ hMd.out hU5.out).mono ?_
                  rintro e w6 ⟨rfl, b6⟩
                  rw [hV]
                  have B6 := Lib.hid b6
                  clear b6
                  clear x0 x1 x2 x3 x4 x5 x6 x7 x8 x9
                  have x0 : w6.cell? ⟨T + 1, 0, none⟩ = some (.slice (some ⟨T, 0, none⟩) 1 1) := keep_below B6.out _ _ (hG3.out.box 0 _ rfl)
                  have x1 : w6.cell? ⟨T + 1, 1, none⟩ = some (.slice none 0 0) := keep_below B6.out _ _ (hG3.out.box 1 _ rfl)
                  have x2 : w6.cell? ⟨T + 1, 2, none⟩ = some (.slice a2 (manyF segs k).length c2) := keep_below B6.out _ _ (hG3.out.box 2 _ rfl)
                  have x3 : w6.cell? ⟨T + 1, 3, none⟩ = some (.slice none 0 0) := keep_below B6.out _ _ (hG3.out.box 3 _ rfl)
                  have x4 : w6.cell? ⟨T + 1, 4, none⟩ = some (.slice none 0 0) := keep_below B6.out _ _ (hG3.out.box 4 _ rfl)
                  have x5 : w6.cell? ⟨T + 1, 5, none⟩ = some (.slice none 0 0) := keep_below B6.out _ _ (hG3.out.box 5 _ rfl)
                  have x6 : w6.cell? ⟨T + 1, 6, none⟩ = some (.slice none 0 0) := keep_below B6.out _ _ (hG3.out.box 6 _ rfl)
                  have x7 : w6.cell? ⟨T + 1, 7, none⟩ = some (.slice none 0 0) := keep_below B6.out _ _ (hG3.out.box 7 _ rfl)
                  have x8 : w6.cell? ⟨T + 1, 8, none⟩ = some (.slice none 0 0) := keep_below B6.out _ _ (hG3.out.box 8 _ rfl)
                  have x9 : w6.cell? ⟨T + 1, 9, none⟩ = some (.slice none 0 0) := keep_below B6.out _ _ (hG3.out.box 9 _ rfl)
                  have M := hMd.out.keep (keep_below B6.out)
                  go_wp2_with fail
                  refine (count_core (manyM segs k) _ _ _ _ _ _ _ _ _ _ _ _ M.funcs).mono ?_
                  rintro e w7 ⟨rfl, b7⟩
                  rw [hC]
                  have B7 := Lib.hid (B6.out.trans (b7.mono B6.out.size))
                  clear b7 B6 M
                  clear x0 x1 x2 x3 x4 x5 x6 x7 x8 x9
                  go_wp2_with fail
                  refine (wakes_any _ (hU5.out.below B7.out)).mono ?_
                  rintro e w8 ⟨rfl, b8⟩
                  have B8 := hB5.out.trans ((B7.out.trans (b8.mono B7.out.size)).mono hB5.out.size)
                  clear b8 B7
                  go_wp2
                  go_ret
                  exact ⟨rfl, B8⟩
                · by_cases h64 : k > 64
                  · have hV : checkV (manyM segs k) = 4 := by rw [many_check segs k hsl hD, hsum]; exact (if_neg hM).trans (if_pos h64)
                    have hC : 65536 - cntF (manyM segs k).funcs 65536 = (i : Int) + k + 1 := by rw [many_count, hsum]; exact if_neg hM
                    have x0 : w5.cell? ⟨T + 1, 0, none⟩ = some (.slice (some ⟨T, 0, none⟩) 1 1) := hG3.out.box 0 _ rfl
                    have x1 : w5.cell? ⟨T + 1, 1, none⟩ = some (.slice none 0 0) := hG3.out.box 1 _ rfl
                    have x2 : w5.cell? ⟨T + 1, 2, none⟩ = some (.slice a2 (manyF segs k).length c2) := hG3.out.box 2 _ rfl
                    have x3 : w5.cell? ⟨T + 1, 3, none⟩ = some (.slice none 0 0) := hG3.out.box 3 _ rfl
                    have x4 : w5.cell? ⟨T + 1, 4, none⟩ = some (.slice none 0 0) := hG3.out.box 4 _ rfl
                    have x5 : w5.cell? ⟨T + 1, 5, none⟩ = some (.slice none 0 0) := hG3.out.box 5 _ rfl
                    have x6 : w5.cell? ⟨T + 1, 6, none⟩ = some (.slice none 0 0) := hG3.out.box 6 _ rfl
                    have x7 : w5.cell? ⟨T + 1, 7, none⟩ = some (.slice none 0 0) := hG3.out.box 7 _ rfl
                    have x8 : w5.cell? ⟨T + 1, 8, none⟩ = some (.slice none 0 0) := hG3.out.box 8 _ rfl
                    have x9 : w5.cell? ⟨T + 1, 9, none⟩ = some (.slice none 0 0) := hG3.out.box 9 _ rfl
                    go_wp2_with fail
                    refine (check_any (manyM segs k) _ _ _ _ _ _ _ _ _ _ _ _ _ _ _ _ _ _ _ _ _ hMd.out hU5.out).mono ?_
                    rintro e w6 ⟨rfl, b6⟩
                    rw [hV]
                    have B6 := Lib.hid b6
                    clear b6
                    clear x0 x1 x2 x3 x4 x5 x6 x7 x8 x9
                    have x0 : w6.cell? ⟨T + 1, 0, none⟩ = some (.slice (some ⟨T, 0, none⟩) 1 1) := keep_below B6.out _ _ (hG3.out.box 0 _ rfl)
                    have x1 : w6.cell? ⟨T + 1, 1, none⟩ = some (.slice none 0 0) := keep_below B6.out _ _ (hG3.out.box 1 _ rfl)
                    have x2 : w6.cell? ⟨T + 1, 2, none⟩ = some (.slice a2 (manyF segs k).length c2) := keep_below B6.out _ _ (hG3.out.box 2 _ rfl)
                    have x3 : w6.cell? ⟨T + 1, 3, none⟩ = some (.slice none 0 0) := keep_below B6.out _ _ (hG3.out.box 3 _ rfl)
                    have x4 : w6.cell? ⟨T + 1, 4, none⟩ = some (.slice none 0 0) := keep_below B6.out _ _ (hG3.out.box 4 _ rfl)
                    have x5 : w6.cell? ⟨T + 1, 5, none⟩ = some (.slice none 0 0) := keep_below B6.out _ _ (hG3.out.box 5 _ rfl)
                    have x6 : w6.cell? ⟨T + 1, 6, none⟩ = some (.slice none 0 0) := keep_below B6.out _ _ (hG3.out.box 6 _ rfl)
                    have x7 : w6.cell? ⟨T + 1, 7, none⟩ = some (.slice none 0 0) := keep_below B6.out _ _ (hG3.out.box 7 _ rfl)
                    have x8 : w6.cell? ⟨T + 1, 8, none⟩ = some (.slice none 0 0) := keep_below B6.out _ _ (hG3.out.box 8 _ rfl)
                    have x9 : w6.cell? ⟨T + 1, 9, none⟩ = some (.slice none 0 0) := keep_below B6.out _ _ (hG3.out.box 9 _ rfl)
                    have M := hMd.out.keep (keep_below B6.out)
                    go_wp2_with fail
                    refine (count_core (manyM segs k) _ _ _ _ _ _ _ _ _ _ _ _ M.funcs).mono ?_
                    rintro e w7 ⟨rfl, b7⟩
                    rw [hC]
                    have B7 := Lib.hid (B6.out.trans (b7.mono B6.out.size))
                    clear b7 B6 M
                    clear x0 x1 x2 x3 x4 x5 x6 x7 x8 x9
                    go_wp2_with fail
                    refine (wakes_any _ (hU5.out.below B7.out)).mono ?_
                    rintro e w8 ⟨rfl, b8⟩
                    have B8 := hB5.out.trans ((B7.out.trans (b8.mono B7.out.size)).mono hB5.out.size)
                    clear b8 B7
                    go_wp2
                    go_ret
                    exact ⟨rfl, B8⟩
                  · have hV : checkV (manyM segs k) = 0 := by rw [many_check segs k hsl hD, hsum]; exact (if_neg hM).trans (if_neg h64)
                    have hC : 65536 - cntF (manyM segs k).funcs 65536 = (i : Int) + k + 1 := by rw [many_count, hsum]; exact if_neg hM
                    have x0 : w5.cell? ⟨T + 1, 0, none⟩ = some (.slice (some ⟨T, 0, none⟩) 1 1) := hG3.out.box 0 _ rfl
                    have x1 : w5.cell? ⟨T + 1, 1, none⟩ = some (.slice none 0 0) := hG3.out.box 1 _ rfl
                    have x2 : w5.cell? ⟨T + 1, 2, none⟩ = some (.slice a2 (manyF segs k).length c2) := hG3.out.box 2 _ rfl
                    have x3 : w5.cell? ⟨T + 1, 3, none⟩ = some (.slice none 0 0) := hG3.out.box 3 _ rfl
                    have x4 : w5.cell? ⟨T + 1, 4, none⟩ = some (.slice none 0 0) := hG3.out.box 4 _ rfl
                    have x5 : w5.cell? ⟨T + 1, 5, none⟩ = some (.slice none 0 0) := hG3.out.box 5 _ rfl
                    have x6 : w5.cell? ⟨T + 1, 6, none⟩ = some (.slice none 0 0) := hG3.out.box 6 _ rfl
                    have x7 : w5.cell? ⟨T + 1, 7, none⟩ = some (.slice none 0 0) := hG3.out.box 7 _ rfl
                    have x8 : w5.cell? ⟨T + 1, 8, none⟩ = some (.slice none 0 0) := hG3.out.box 8 _ rfl
                    have x9 : w5.cell? ⟨T + 1, 9, none⟩ = some (.slice none 0 0) := hG3.out.box 9 _ rfl
                    go_wp2_with fail
                    refine (check_any (manyM segs k) _ _ _ _ _ _ _ _ _ _ _ _ _ _ _ _ _ _ _ _ _ hMd.out hU5.out).mono ?_
                    rintro e w6 ⟨rfl, b6⟩
                    rw [hV]
                    have B6 := Lib.hid b6
                    clear b6
                    clear x0 x1 x2 x3 x4 x5 x6 x7 x8 x9
                    have x0 : w6.cell? ⟨T + 1, 0, none⟩ = some (.slice (some ⟨T, 0, none⟩) 1 1) := keep_below B6.out _ _ (hG3.out.box 0 _ rfl)
                    have x1 : w6.cell? ⟨T + 1, 1, none⟩ = some (.slice none 0 0) := keep_below B6.out _ _ (hG3.out.box 1 _ rfl)
                    have x2 : w6.cell? ⟨T + 1, 2, none⟩ = some (.slice a2 (manyF segs k).length c2) := keep_below B6.out _ _ (hG3.out.box 2 _ rfl)
                    have x3 : w6.cell? ⟨T + 1, 3, none⟩ = some (.slice none 0 0) := keep_below B6.out _ _ (hG3.out.box 3 _ rfl)
                    have x4 : w6.cell? ⟨T + 1, 4, none⟩ = some (.slice none 0 0) := keep_below B6.out _ _ (hG3.out.box 4 _ rfl)
                    have x5 : w6.cell? ⟨T + 1, 5, none⟩ = some (.slice none 0 0) := keep_below B6.out _ _ (hG3.out.box 5 _ rfl)
                    have x6 : w6.cell? ⟨T + 1, 6, none⟩ = some (.slice none 0 0) := keep_below B6.out _ _ (hG3.out.box 6 _ rfl)
                    have x7 : w6.cell? ⟨T + 1, 7, none⟩ = some (.slice none 0 0) := keep_below B6.out _ _ (hG3.out.box 7 _ rfl)
                    have x8 : w6.cell? ⟨T + 1, 8, none⟩ = some (.slice none 0 0) := keep_below B6.out _ _ (hG3.out.box 8 _ rfl)
                    have x9 : w6.cell? ⟨T + 1, 9, none⟩ = some (.slice none 0 0) := keep_below B6.out _ _ (hG3.out.box 9 _ rfl)
                    have M := hMd.out.keep (keep_below B6.out)
                    go_wp2_with fail
                    refine (count_core (manyM segs k) _ _ _ _ _ _ _ _ _ _ _ _ M.funcs).mono ?_
                    rintro e w7 ⟨rfl, b7⟩
                    rw [hC]
                    have B7 := Lib.hid (B6.out.trans (b7.mono B6.out.size))
                    clear b7 B6 M
                    clear x0 x1 x2 x3 x4 x5 x6 x7 x8 x9
                    go_wp2_with fail
                    refine (wakes_any _ (hU5.out.below B7.out)).mono ?_
                    rintro e w8 ⟨rfl, b8⟩
                    have B8 := hB5.out.trans ((B7.out.trans (b8.mono B7.out.size)).mono hB5.out.size)
                    clear b8 B7
                    go_wp2
                    go_ret
                    exact ⟨rfl, B8⟩
end Go.Proofs.YtofleejokkdklaaDoor
