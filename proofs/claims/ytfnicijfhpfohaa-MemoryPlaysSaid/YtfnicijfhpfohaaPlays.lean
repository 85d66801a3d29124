/- The law MemoryPlays' walk. -/
import Derived.Test.YtfnicijfhpfohaaPd
import Derived.ProofKit
import Derived.OpenShut
import Derived.ChangeOld
import Derived.Below
import Derived.Carry
import Derived.SizedLaws
namespace Go.Proofs.Ytfnicijfhpfohaa
open Go.ChangeShapes Go.WideShapes Go.ChangeAt Go.RowKit
set_option linter.unusedVariables false

structure StepAt (w : World) (b o : Nat) (kind : Int) (at_ : Nat) (n : Int) (V : Nat) (s : ByteArray) : Prop where
  c0 : w.cell? ⟨b, o, none⟩ = some (.int .i64 kind)
  c1 : w.cell? ⟨b, o + 1, none⟩ = some (.int .u64 (at_ : Int))
  c2 : w.cell? ⟨b, o + 2, none⟩ = some (.int .i64 n)
  c3 : w.cell? ⟨b, o + 3, none⟩ = some (.int .u64 (V : Int))
  c4 : w.cell? ⟨b, o + 4, none⟩ = some (.string s)
  hat : at_ < 18446744073709551616
  hn1 : -9223372036854775808 ≤ n
  hn : n ≤ 9223372036854775807

def StepsAt (w : World) (ao : Option Addr) (N : Nat) : Prop := N = 0 ∨ ∃ b o, ao = some ⟨b, o, none⟩ ∧ b < w.heap.size ∧ ∀ i, i < N → ∃ kind at_ n V s, StepAt w b (o + i * 5) kind at_ n V s
theorem StepAt.below {w w' : World} {B b o : Nat} {kind : Int} {at_ : Nat} {n : Int} {V : Nat} {s : ByteArray} (h : StepAt w b o kind at_ n V s) (hb : b < B) (hB : Below B w w') : StepAt w' b o kind at_ n V s := by
  have f : ∀ j, w'.cell? ⟨b, j, none⟩ = w.cell? ⟨b, j, none⟩ := fun j => hB.cell hb
  exact ⟨by rw [f]; exact h.c0, by rw [f]; exact h.c1, by rw [f]; exact h.c2, by rw [f]; exact h.c3, by rw [f]; exact h.c4, h.hat, h.hn1, h.hn⟩
theorem TwinAt.mono {w : World} {B C p q cap p' q' cap' : Nat} {l : List Nat} {pg most : Nat} (h : TwinAt w B p q cap p' q' cap' l pg most) (hC : C ≤ B) : TwinAt w C p q cap p' q' cap' l pg most :=
  ⟨h.m, h.r, h.d1, h.d2, h.d3, h.d4, Nat.le_trans hC h.b1, Nat.le_trans hC h.b2, Nat.le_trans hC h.b3, Nat.le_trans hC h.b4⟩
theorem Twin.size {w : World} {B : Nat} {u v : Value} (h : Twin w B u v) : B ≤ w.heap.size := by
  rcases h with ⟨_, _, h⟩ | ⟨_, _, _, _, _, _, _, _, _, _, _, h⟩
  · exact h
  · exact h.size
theorem below_alloc (W : World) (o : Obj) : Below W.heap.size W (W.alloc o) := ((Chg.refl W []).alloc o).below (Nat.le_refl _) (by simp)

theorem wrap_step (X : Nat) : IntKind.u64.wrap ((X : Int) + 1) = (((X + 1) % 18446744073709551616 : Nat) : Int) := by rw [IntKind.wrap_u64]; omega

/-- What holds ahead of each round. -/
structure Round (W wr : World) (u v : Value) : Prop where
  twin : Twin wr W.heap.size u v
  below : Below W.heap.size W wr
theorem Round.next {W wr w2 : World} {u v u' v' : Value} (h : Round W wr u v) (ht : Twin w2 W.heap.size u' v') (hb : Below W.heap.size wr w2) : Round W w2 u' v' := ⟨ht, h.below.trans hb⟩
theorem pages_end {wr : World} {u v : Value} {B : Nat} (h : Twin wr B u v) : ∃ pg : Nat, (∀ w, wr = w → Calls Try.prog 15 #[u] w fun e w' => e = .returned (.int .i64 pg) ∧ w = w') ∧ (∀ w, wr = w → Calls Try.prog 17 #[v] w fun e w' => e = .returned (.int .i64 pg) ∧ w = w') := by
  rcases h with ⟨rfl, rfl, _⟩ | ⟨p, q, cap, p', q', cap', l, pg, most, rfl, rfl, ht⟩
  · exact ⟨0, fun w e => pages_nil w, fun w e => rpages_nil w⟩
  · exact ⟨pg, fun w e => by subst e; exact pages_any p q cap l pg most _ ht.m, fun w e => by subst e; exact rpages_any p' q' cap' l pg most _ ht.r⟩

theorem step_of {W : World} {ao : Option Addr} {N k : Nat} (h : StepsAt W ao N) (hk : k < N) : ∃ b o, ao = some ⟨b, o, none⟩ ∧ ∃ kind at_ n V s, b < W.heap.size ∧ StepAt W b (o + k * 5) kind at_ n V s := by
  rcases h with h | ⟨b, o, e, hb, h⟩
  · omega
  · obtain ⟨kind, at_, n, V, s, hs⟩ := h k hk
    exact ⟨b, o, e, kind, at_, n, V, s, hb, hs⟩

set_option maxRecDepth 100000 in
set_option maxHeartbeats 4000000 in
theorem plays_yes (m : Nat) (mx : Int) (has : Bool) (ao : Option Addr) (N cap : Nat) (W : World) (hN : N ≤ 9223372036854775807) (hS : StepsAt W ao N) (hm : m ≤ 32) :
    Calls Try.prog 7 #[.agg #[.int .i64 m, .int .i64 mx, .bool has], .slice ao N cap] W fun e W' => e = .returned (.bool true) ∧ Below W.heap.size W W' := by
  have HS := Lib.hid hS
  clear hS
  go_enter Try.func7, Try.ntmps7
  go_wp2_with fail
  refine (new_any m mx m has _ rfl (by omega)).mono ?_
  rintro e w1 ⟨p, q, rfl, hm1⟩
  have c0 : w1.cell? ⟨W.heap.size, 0, none⟩ = some (.int .i64 m) := hm1.chg.cell (World.cell?_alloc_at _ _ _ 0 (by simp)) (by simp)
  have c1 : w1.cell? ⟨W.heap.size, 1, none⟩ = some (.int .i64 mx) := hm1.chg.cell (World.cell?_alloc_at _ _ _ 1 (by simp)) (by simp)
  have c2 : w1.cell? ⟨W.heap.size, 2, none⟩ = some (.bool has) := hm1.chg.cell (World.cell?_alloc_at _ _ _ 2 (by simp)) (by simp)
  go_wp2_with fail
  refine (rnew_any m mx m has _ rfl (by omega)).mono ?_
  rintro e w2 ⟨p', q', rfl, hm2⟩
  have hR0 : Hid (Round W w2 (.pointer (some ⟨p, 0, none⟩)) (.pointer (some ⟨p', 0, none⟩))) := Lib.hid ⟨.inr ⟨p, q, _, p', q', _, _, _, _, rfl, rfl, (twin_new hm1 hm2).mono (by simp)⟩, (below_alloc W _).trans ((twin_new_below hm1 hm2).mono (by simp))⟩
  clear c0 c1 c2 hm1 hm2
  go_wp2_with fail
  go_loopw [5, 7, 9, 10] (fun u v f i wr => ∃ k fk : Nat, k ≤ N ∧ fk ≤ 4 ∧ i = .int .i64 k ∧ f = .int .i64 fk ∧ Hid (Round W wr u v)) (fun _ _ _ i _ => N - (intOf i).toNat)
  case atStart => exact ⟨0, 0, Nat.zero_le _, Nat.zero_le _, rfl, rfl, hR0⟩
  case round =>
    obtain ⟨k, fk, hk, hfk, rfl, rfl, hR⟩ := hrel
    by_cases hlt : k < N ∧ k < 60
    · obtain ⟨hk1, hk2⟩ := hlt
      obtain ⟨b, o, rfl, kind, at_, n, V, s, hb, hs⟩ := step_of HS.out hk1
      have hs2 := hs.below hb hR.out.below
      obtain ⟨c0, c1, c2, c3, c4, hat, hn1, hn⟩ := hs2
      clear hs
      rcases hR.out.twin with ⟨rfl, rfl, _⟩ | ⟨p, q, cap, p', q', cap', l, pg, most, rfl, rfl, ht0⟩
      · by_cases h5 : kind = 5
        · subst h5
          by_cases h4 : fk < 4
          · go_wp2_with fail
            refine (plays_any 5 n at_ V s wr W.heap.size _ _ hR.out.twin hat hn1 hn).mono ?_
            rintro e w2 ⟨rfl, hT2, hB2⟩
            have hR2 := Lib.hid (hR.out.next hT2 hB2)
            clear hT2 hB2 hR
            go_wp2
            go_roundw
            case rel => exact ⟨k + 1, fk, by omega, by omega, by simp, by simp, hR2⟩
            case measure => simp [intOf]; omega
          · go_wp2_with fail
            refine (plays_any 5 n at_ V s wr W.heap.size _ _ hR.out.twin hat hn1 hn).mono ?_
            rintro e w2 ⟨rfl, hT2, hB2⟩
            have hR2 := Lib.hid (hR.out.next hT2 hB2)
            clear hT2 hB2 hR
            go_wp2
            go_roundw
            case rel => exact ⟨k + 1, fk, by omega, by omega, by simp, by simp, hR2⟩
            case measure => simp [intOf]; omega
        · have q5 : (kind == 5) = false := by simp [h5]
          go_wp2_with fail
          refine (plays_any kind n at_ V s wr W.heap.size _ _ hR.out.twin hat hn1 hn).mono ?_
          rintro e w2 ⟨rfl, hT2, hB2⟩
          have hR2 := Lib.hid (hR.out.next hT2 hB2)
          clear hT2 hB2 hR
          go_wp2
          go_roundw
          case rel => exact ⟨k + 1, fk, by omega, by omega, by simp, by simp, hR2⟩
          case measure => simp [intOf]; omega
      · have ht := Lib.hid ht0
        clear ht0
        by_cases h5 : kind = 5
        · subst h5
          by_cases h4 : fk < 4
          · go_wp2_with fail
            refine (rpages_any p' q' cap' l pg most _ ht.out.r).mono ?_
            rintro e w' ⟨rfl, rfl⟩
            go_wp2_with fail
            refine (rload_mem p' q' cap' l pg most 0 8 0 _ ht.out.r rfl (by omega) (by omega) (by omega)).mono ?_
            rintro e w' ⟨rfl, rfl⟩
            go_wp2_with fail
            refine (fork_any p q cap l pg most _ ht.out.m).mono ?_
            rintro e w2 ⟨p2, q2, cap2, rfl, hf⟩
            go_wp2_with fail
            refine (rfork_any p' q' cap' l pg most _ (ht.out.r.kept hf.chg (by simp) (by simp))).mono ?_
            rintro e w3 ⟨p2', q2', cap2', rfl, hg⟩
            have hk := Lib.hid (forked ht.out hf hg)
            clear hf hg
            go_wp2_with fail
            refine (store_any p2 q2 cap2 l 0 8 _ 0 ((loadOut l 0 8 + 1) % 18446744073709551616) _ rfl (wrap_step _) hk.out.twin.m.slice hk.out.twin.m.row (by omega) (by omega)).mono ?_
            rintro e w4 ⟨rfl, hs1⟩
            have hr4 := Lib.hid (hk.out.twin.r.kept hs1.chg (by have := hk.out.twin.d3; simp; omega) (by have := hk.out.twin.d4; simp; omega))
            go_wp2_with fail
            refine (rstore_any p2' q2' cap2' l 0 8 _ 0 ((loadOut l 0 8 + 1) % 18446744073709551616) _ hr4.out.pq rfl (wrap_step _) hr4.out.slice hr4.out.lt hr4.out.row (by omega) (by omega) (by omega)).mono ?_
            rintro e w5 ⟨rfl, hs2⟩
            have hd := Lib.hid (forked_done hk.out hs1 hs2 (storeOut_length _ _ _ _))
            have hR2 : Hid (Round W w5 (.pointer (some ⟨p2, 0, none⟩)) (.pointer (some ⟨p2', 0, none⟩))) := Lib.hid (hR.out.next (.inr ⟨p2, q2, cap2, p2', q2', cap2', _, pg, most, rfl, rfl, hd.out.1.1⟩) hd.out.1.2)
            clear hs1 hs2 hr4 hk hR
            go_wp2_with fail
            refine (load_mem p q cap l pg most 0 8 0 _ hd.out.2 rfl (by omega) (by omega)).mono ?_
            rintro e w' ⟨rfl, rfl⟩
            go_wp2_with fail
            refine (pages_any p q cap l pg most _ hd.out.2).mono ?_
            rintro e w' ⟨rfl, rfl⟩
            go_wp2
            go_roundw
            case rel => exact ⟨k + 1, fk + 1, by omega, by omega, by simp, by simp, hR2⟩
            case measure => simp [intOf]; omega
          · go_wp2_with fail
            refine (plays_any 5 n at_ V s wr W.heap.size _ _ hR.out.twin hat hn1 hn).mono ?_
            rintro e w2 ⟨rfl, hT2, hB2⟩
            have hR2 := Lib.hid (hR.out.next hT2 hB2)
            clear hT2 hB2 hR
            go_wp2
            go_roundw
            case rel => exact ⟨k + 1, fk, by omega, by omega, by simp, by simp, hR2⟩
            case measure => simp [intOf]; omega
        · have q5 : (kind == 5) = false := by simp [h5]
          go_wp2_with fail
          refine (plays_any kind n at_ V s wr W.heap.size _ _ hR.out.twin hat hn1 hn).mono ?_
          rintro e w2 ⟨rfl, hT2, hB2⟩
          have hR2 := Lib.hid (hR.out.next hT2 hB2)
          clear hT2 hB2 hR
          go_wp2
          go_roundw
          case rel => exact ⟨k + 1, fk, by omega, by omega, by simp, by simp, hR2⟩
          case measure => simp [intOf]; omega
    · obtain ⟨pg, hp1, hp2⟩ := pages_end hR.out.twin
      have H1 := fun w h => Lib.hid (hp1 w h)
      have H2 := fun w h => Lib.hid (hp2 w h)
      clear hp1 hp2
      by_cases hkN : k < N
      · have hk60 : ¬ (k < 60) := fun h => hlt ⟨hkN, h⟩
        go_wp2_with fail
        refine (H1 _ rfl).out.mono ?_
        rintro e w' ⟨rfl, rfl⟩
        go_wp2_with fail
        refine (H2 _ rfl).out.mono ?_
        rintro e w' ⟨rfl, rfl⟩
        go_wp2_with fail
        refine (wakes_any _).mono ?_
        rintro e w3 ⟨rfl, h3⟩
        go_wp2
        go_ret
        exact ⟨rfl, hR.out.below.trans (h3.below hR.out.twin.size (by simp))⟩
      · go_wp2_with fail
        refine (H1 _ rfl).out.mono ?_
        rintro e w' ⟨rfl, rfl⟩
        go_wp2_with fail
        refine (H2 _ rfl).out.mono ?_
        rintro e w' ⟨rfl, rfl⟩
        go_wp2_with fail
        refine (wakes_any _).mono ?_
        rintro e w3 ⟨rfl, h3⟩
        go_wp2
        go_ret
        exact ⟨rfl, hR.out.below.trans (h3.below hR.out.twin.size (by simp))⟩

set_option maxRecDepth 100000 in
set_option maxHeartbeats 4000000 in
theorem plays_no (mn mx : Int) (has : Bool) (ao : Option Addr) (N cap : Nat) (W : World) (hN : N ≤ 9223372036854775807) (hS : StepsAt W ao N) (hm : ¬ (0 ≤ mn ∧ mn ≤ 32)) :
    Calls Try.prog 7 #[.agg #[.int .i64 mn, .int .i64 mx, .bool has], .slice ao N cap] W fun e W' => e = .returned (.bool true) ∧ Below W.heap.size W W' := by
  have HS := Lib.hid hS
  have HM := Lib.hid hm
  clear hS hm
  go_enter Try.func7, Try.ntmps7
  go_wp2_with fail
  refine (new_no mn mx has _ HM.out).mono ?_
  rintro e w1 ⟨rfl, hm1⟩
  have c0 : w1.cell? ⟨W.heap.size, 0, none⟩ = some (.int .i64 mn) := hm1.cell (World.cell?_alloc_at _ _ _ 0 (by simp)) (by simp)
  have c1 : w1.cell? ⟨W.heap.size, 1, none⟩ = some (.int .i64 mx) := hm1.cell (World.cell?_alloc_at _ _ _ 1 (by simp)) (by simp)
  have c2 : w1.cell? ⟨W.heap.size, 2, none⟩ = some (.bool has) := hm1.cell (World.cell?_alloc_at _ _ _ 2 (by simp)) (by simp)
  go_wp2_with fail
  refine (rnew_no mn mx has _ HM.out).mono ?_
  rintro e w2 ⟨rfl, hm2⟩
  have hR0 : Hid (Round W w2 (.pointer none) (.pointer none)) := by
    have hb : Below W.heap.size W w2 := (below_alloc W _).trans ((hm1.trans hm2).below (by simp) (by simp))
    exact Lib.hid ⟨.inl ⟨rfl, rfl, hb.size⟩, hb⟩
  clear c0 c1 c2 hm1 hm2
  go_wp2_with fail
  go_loopw [5, 7, 9, 10] (fun u v f i wr => ∃ k : Nat, k ≤ N ∧ u = .pointer none ∧ v = .pointer none ∧ i = .int .i64 k ∧ f = .int .i64 0 ∧ Hid (Round W wr (.pointer none) (.pointer none))) (fun _ _ _ i _ => N - (intOf i).toNat)
  case atStart => exact ⟨0, Nat.zero_le _, rfl, rfl, rfl, rfl, hR0⟩
  case round =>
    obtain ⟨k, hk, rfl, rfl, rfl, rfl, hR⟩ := hrel
    by_cases hlt : k < N ∧ k < 60
    · obtain ⟨hk1, hk2⟩ := hlt
      obtain ⟨b, o, rfl, kind, at_, n, V, s, hb, hs⟩ := step_of HS.out hk1
      have hs2 := hs.below hb hR.out.below
      obtain ⟨c0, c1, c2, c3, c4, hat, hn1, hn⟩ := hs2
      clear hs
      by_cases h5 : kind = 5
      · subst h5
        go_wp2_with fail
        refine (plays_any 5 n at_ V s wr W.heap.size _ _ hR.out.twin hat hn1 hn).mono ?_
        rintro e w2 ⟨rfl, hT2, hB2⟩
        have hR2 := Lib.hid (hR.out.next hT2 hB2)
        clear hT2 hB2 hR
        go_wp2
        go_roundw
        case rel => exact ⟨k + 1, by omega, rfl, rfl, by simp, rfl, hR2⟩
        case measure => simp [intOf]; omega
      · have q5 : (kind == 5) = false := by simp [h5]
        go_wp2_with fail
        refine (plays_any kind n at_ V s wr W.heap.size _ _ hR.out.twin hat hn1 hn).mono ?_
        rintro e w2 ⟨rfl, hT2, hB2⟩
        have hR2 := Lib.hid (hR.out.next hT2 hB2)
        clear hT2 hB2 hR
        go_wp2
        go_roundw
        case rel => exact ⟨k + 1, by omega, rfl, rfl, by simp, rfl, hR2⟩
        case measure => simp [intOf]; omega
    · by_cases hkN : k < N
      · have hk60 : ¬ (k < 60) := fun h => hlt ⟨hkN, h⟩
        go_wp2_with fail
        refine (pages_nil _).mono ?_
        rintro e w' ⟨rfl, rfl⟩
        go_wp2_with fail
        refine (rpages_nil _).mono ?_
        rintro e w' ⟨rfl, rfl⟩
        go_wp2_with fail
        refine (wakes_any _).mono ?_
        rintro e w3 ⟨rfl, h3⟩
        go_wp2
        go_ret
        exact ⟨rfl, hR.out.below.trans (h3.below hR.out.twin.size (by simp))⟩
      · go_wp2_with fail
        refine (pages_nil _).mono ?_
        rintro e w' ⟨rfl, rfl⟩
        go_wp2_with fail
        refine (rpages_nil _).mono ?_
        rintro e w' ⟨rfl, rfl⟩
        go_wp2_with fail
        refine (wakes_any _).mono ?_
        rintro e w3 ⟨rfl, h3⟩
        go_wp2
        go_ret
        exact ⟨rfl, hR.out.below.trans (h3.below hR.out.twin.size (by simp))⟩
end Go.Proofs.Ytfnicijfhpfohaa
