/- The law of a chain in a drawn region, where only what binds counts. -/
import Derived.Test.YtkbfjkbokifgkaaGreatDoorDv
import Derived.Test.YtkbfjkbokifgkaaGreatDoorSp
import Derived.Defers
import Derived.Recover
import Derived.Laws.Pointers
namespace Go.Proofs.YtkbfjkbokifgkaaGreatDoor
open Go.RowKit
set_option linter.unusedVariables false
set_option linter.unusedSimpArgs false
def ordC (ops : Array Oper) (s : Nat) : Bool := (List.range s).all fun i => match ops[i]? with | some o => o.after.all (fun e => !Region.binds .any e || decide (e.on < i)) | none => false
theorem ordC_at {ops : Array Oper} {s i : Nat} (h : ordC ops s = true) (hi : i < s) : ∃ o, ops[i]? = some o ∧ ∀ e ∈ o.after, Region.binds .any e = true → e.on < i := by
 unfold ordC at h; rw [List.all_eq_true] at h; have := h i (List.mem_range.2 hi); cases ho : ops[i]? with
 | none => rw [ho] at this; simp at this
 | some o => rw [ho] at this; simp only [Array.all_eq_true_iff_forall_mem, Bool.or_eq_true, Bool.not_eq_true', decide_eq_true_eq] at this; exact ⟨o, rfl, fun e he hb => (this e he).resolve_left (fun h => by rw [hb] at h; cases h)⟩
theorem region_chainC {P : Program} {Q : Exit → Act → World → Prop} {id : Nat} {ops : Array Oper} {f0 : Nat → Value} {w : World} (hmix : P.follows .mixedOrders = true) (n s m : Nat) (c D : Nat → Nat) (hs : ops.size = s + 1) (hq : ordC ops (s + 1) = true) (hd : difB D s = true) (hl : lastB ops s = true)
 (hcB : chainB ops c m s = true) (vals : Nat → Value) (X : Nat → Value → World → Prop) (hX : X 0 undef w.drew)
 (quiet : ∀ i, i < s → (∀ k, k ≤ m → c k ≠ i) → ∀ k v f w', k ≤ m → X k v w' → (∀ t, (∀ j, j < s → D j ≠ t) → f t = f0 t) → (∀ j, depB ops i j = true → (∀ k, k ≤ m → c k ≠ j) → f (D j) = vals j) → wpOp P ops Q i (fun a' w'' => a' = Fv n (upv f (D i) (vals i)) ∧ w'' = w') (Fv n f) w')
 (chain : ∀ k, k < m → ∀ v f w', X k v w' → (0 < k → f (D (c (k - 1))) = v) → (∀ t, (∀ j, j < s → D j ≠ t) → f t = f0 t) → (∀ j, depB ops (c k) j = true → (∀ k, k ≤ m → c k ≠ j) → f (D j) = vals j) → wpOp P ops Q (c k) (fun a' w'' => ∃ v', a' = Fv n (upv f (D (c k)) v') ∧ X (k + 1) v' w'') (Fv n f) w')
 (last : ∀ v f w', X m v w' → (0 < m → f (D (c (m - 1))) = v) → (∀ t, (∀ j, j < s → D j ≠ t) → f t = f0 t) → (∀ j, j < s → (∀ k, k ≤ m → c k ≠ j) → f (D j) = vals j) → wpOp P ops Q s (fun a' w'' => Q .normal a' w'') (Fv n f) w') : (Code.region id ops true).wp P Q (Fv n f0) w := by
 obtain ⟨hcs, hlt, hinj, hdep⟩ := chainB_at hcB; refine wp_region_any hmix ?_; refine any_inv (JX Q ops n s m c D vals X f0) (fun listed a w' hJ i o ho hl2 hall => ?_) (fun listed a w' hJ hr => ?_) ops.size _ _ _ ?_ ?_
 · obtain ⟨hsz, hclo, hoff, hon⟩ := hJ
   have hi : i < s + 1 := by rw [← hs]; exact (Array.getElem?_eq_some_iff.1 ho).1
   have hl3 : listed.getD i false = false := (by rw [lget_flip (d := true) (by omega)]; exact hl2)
   have hdp : ∀ j, depB ops i j = true → j < i ∧ listed.getD j false = true := fun j hj => by
    unfold depB at hj; rw [ho] at hj; simp only [Array.any_eq_true, Bool.and_eq_true, beq_iff_eq] at hj; obtain ⟨k, hk, rfl, hbd⟩ := hj; obtain ⟨o', ho', hlt⟩ := ordC_at hq hi; obtain rfl : o = o' := Option.some.inj (ho.symm.trans ho'); have hm := Array.getElem_mem hk; exact ⟨hlt _ hm hbd, hall _ hm hbd⟩
   have hls : listed.getD s false = false := by
    cases h : listed.getD s false with
    | false => rfl
    | true =>
      by_cases e : i = s
      · rw [e, h] at hl3; exact hl3
      · have := (hon h).1 i (by omega); rw [hl3] at this; exact this.symm
   obtain ⟨k, f, hkm, rfl, hoth, hv, hch, hXk⟩ := (hoff hls).act
   have hclo2 : ∀ i2 j, i2 < s → (listed.setIfInBounds i true).getD i2 false = true → depB ops i2 j = true → (listed.setIfInBounds i true).getD j false = true := fun i2 j h1 h2 h3 => by
    have hj : listed.getD j false = true := by
     by_cases e : i = i2
     · subst e; exact (hdp j h3).2
     · exact hclo i2 j h1 ((lget_set e).symm.trans h2) h3
    by_cases e : i = j
    · subst e; rw [hl3] at hj; cases hj
    · exact (lget_set e).trans hj
   have hset : (listed.setIfInBounds i true).getD i false = true := by rw [Array.getD_eq_getD_getElem?, Array.getElem?_setIfInBounds_self_of_lt (by omega)]; rfl
   by_cases his : i = s
   · subst his; have hallj : ∀ j, j < i → listed.getD j false = true := fun j hj => last_all (L := fun j => listed.getD j false = true) hl (fun j hj => (hdp j hj).2) (fun i2 j h1 h2 h3 => hclo i2 j h1 h2 h3) i j hj (by omega)
     have hk : k = m := by
      rcases Nat.lt_or_ge k m with h | h
      · have := (hch k h).1 (hallj _ (hlt k h)); omega
      · omega
     subst hk; refine wpOp_mono (fun a' w'' h => ?_) (last _ f w' hXk (fun h0 => by rw [if_neg (by omega)]) hoth (fun j hj hn => hv j hj hn (hallj j hj))); exact ⟨by rw [Array.size_setIfInBounds]; exact hsz, hclo2, fun h2 => by rw [hset] at h2; (cases h2), fun _ => ⟨fun j hj => (lget_set (by omega)).trans (hallj j hj), h⟩⟩
   · have hi2 : i < s := (by omega)
     have hls2 : (listed.setIfInBounds i true).getD s false = true → False := fun h2 => by
      rw [lget_set his, hls] at h2; cases h2
     by_cases hck : ∃ k', k' ≤ m ∧ c k' = i
     · obtain ⟨k', hk', rfl⟩ := hck
       have hkm' : k' < m := by
        rcases Nat.lt_or_ge k' m with h | h
        · exact h
        · obtain rfl : k' = m := by omega
          exact absurd hcs his
       have hge : ¬ k' < k := fun h => by
        have := (hch k' hkm').2 h; rw [hl3] at this; cases this
       have hle : k' ≤ k := by
        rcases Nat.eq_zero_or_pos k' with h | h
        · omega
        · have h1 := hdep (k' - 1) (by omega); rw [show k' - 1 + 1 = k' by omega] at h1; have := (hch (k' - 1) (by omega)).1 (hdp _ h1).2; omega
       obtain rfl : k' = k := by omega
       refine wpOp_mono (fun a' w'' h => ?_) (chain k' hkm' _ f w' hXk (fun h0 => by rw [if_neg (by omega)]) hoth (fun j hj hn => hv j (by have := (hdp j hj).1; omega) hn (hdp j hj).2)); obtain ⟨v', rfl, hX'⟩ := h; refine ⟨by rw [Array.size_setIfInBounds]; exact hsz, hclo2, fun _ => ⟨k' + 1, _, by omega, rfl, fun t ht => ?_, fun j hj hn hlj => ?_, fun i2 hi2' => ?_, ?_⟩, fun h2 => (hls2 h2).elim⟩
       · rw [show upv f (D (c k')) v' t = f t from if_neg (fun e => ht _ hi2 e.symm)]; exact hoth t ht
       · rw [show upv f (D (c k')) v' (D j) = f (D j) from if_neg (fun e => hn k' hk' (difB_at hd hj hi2 e).symm)]; exact hv j hj hn ((lget_set (hn k' hk')).symm.trans hlj)
       · by_cases e : i2 = k'
         · subst e; exact ⟨fun _ => by omega, fun _ => hset⟩
         · rw [lget_set (fun e2 => e (hinj _ _ (by omega) hk' e2.symm)), hch i2 hi2']; omega
       · rw [if_neg (by omega), show k' + 1 - 1 = k' by omega, show upv f (D (c k')) v' (D (c k')) = v' from if_pos rfl]; exact hX'
     · have hnc : ∀ k', k' ≤ m → c k' ≠ i := fun k' h e => hck ⟨k', h, e⟩; refine wpOp_mono (fun a' w'' h => ?_) (quiet i hi2 hnc k _ f w' hkm hXk hoth (fun j hj hn => hv j (by have := (hdp j hj).1; omega) hn (hdp j hj).2)); obtain ⟨rfl, rfl⟩ := h; refine ⟨by rw [Array.size_setIfInBounds]; exact hsz, hclo2, fun _ => ⟨k, _, hkm, rfl, fun t ht => ?_, fun j hj hn hlj => ?_, fun i2 hi2' => ?_, ?_⟩, fun h2 => (hls2 h2).elim⟩
       · rw [show upv f (D i) (vals i) t = f t from if_neg (fun e => ht i hi2 e.symm)]; exact hoth t ht
       · by_cases e : i = j
         · subst e; exact if_pos rfl
         · rw [show upv f (D i) (vals i) (D j) = f (D j) from if_neg (fun e2 => e (difB_at hd hj hi2 e2).symm)]; exact hv j hj hn ((lget_set e).symm.trans hlj)
       · rw [lget_set (fun e => hnc i2 (by omega) e.symm)]; exact hch i2 hi2'
       · by_cases h0 : k = 0
         · rw [if_pos h0] at hXk ⊢; exact hXk
         · rw [if_neg h0] at hXk ⊢; rw [show upv f (D i) (vals i) (D (c (k - 1))) = f (D (c (k - 1))) from if_neg (fun e2 => hnc (k - 1) (by omega) (difB_at hd (hlt _ (by omega)) hi2 e2))]; exact hXk
 · obtain ⟨hsz, hclo, hoff, hon⟩ := hJ
   have hall : ∀ i, i < s + 1 → listed.getD i true = true := by
    intro i
    induction i using Nat.strongRecOn with
    | ind i ih =>
      intro hi; cases hl : listed.getD i true with
      | true => rfl
      | false =>
        exfalso; obtain ⟨o, ho, hall⟩ := ordC_at hq hi
        have hm : i ∈ Region.ready .any ops listed := mem_ready.2 ⟨hl, o, ho, fun e he hbd => by
         have hlt := hall e he hbd; rw [lget_flip (d := true) (by omega)]; exact ih e.on hlt (by omega)⟩
        rw [hr] at hm; cases hm
   exact (hon (by rw [lget_flip (d := true) (by omega)]; exact hall s (by omega))).2
 · have hno : ∀ k, (Array.replicate ops.size false).getD k false = false := fun k => by
    rw [Array.getD_eq_getD_getElem?, Array.getElem?_replicate]; split <;> rfl
   refine ⟨by rw [Array.size_replicate, hs], fun i j _ h _ => ?_, fun _ => ⟨0, f0, Nat.zero_le _, rfl, fun _ _ => rfl, fun j hj _ h => ?_, fun i hi => ⟨fun h => ?_, fun h => by omega⟩, ?_⟩, fun h => ?_⟩
   · rw [hno] at h; cases h
   · rw [hno] at h; cases h
   · rw [hno] at h; cases h
   · rw [if_pos rfl]; exact hX
   · rw [hno] at h; cases h
 · exact Nat.le_trans (countN _) (by rw [Array.size_replicate]; exact Nat.le_refl _)
theorem rcatch_idle (p q : Addr) (w : World) :
 CallsD Tryz.prog 64 #[.pointer (some p), .pointer (some q)] .returning w fun e u' w' => e = .returned (.tuple #[]) ∧ u' = .returning ∧ w' = w := by
 refine callsD_of_wpS Tryz.func64 rfl fun c₀ cs hu => ?_; apply wpS_seq; apply wpS_region; simp [wpOpsS, go_sem, recoverD, hu, Tryz.ntmps64, Exit.thenS]; refine wpS_of_wp ?_; go_wp2; cases c₀
 simp_all [bodyPostS, results, Tryz.results64]
theorem rassert_fault (n : Int) (w : World) : (Instr.typeAssert (Value.iface 118 (.agg #[.int .i64 n])) 20 118 true).run Tryz.prog w = .ok (.tuple #[.agg #[.int .i64 n], .bool true]) w := by kernel_rfl
def caughtW (w : World) (p q : Nat) (n : Int) : World := (((w.alloc (.cells #[.int .i64 n] 118)).drew.setCell ⟨p, 0, none⟩ (.pointer none)).setCell ⟨q, 0, none⟩ (.int .i64 n))
def Xc (wa : World) (p : Nat) : Nat → Value → World → Prop := fun k _ w' => w' = if k = 0 then wa.drew else wa.drew.setCell ⟨p, 0, none⟩ (.pointer none)
set_option maxRecDepth 100000 in
set_option maxHeartbeats 4000000 in
theorem rcatch_fault (p q : Nat) (hpq : p ≠ q) (x y : Value) (n : Int) (older : List PanicEntry) (w : World) (hp : Bk w p [x] 60) (hq : Bk w q [y] 34) :
 CallsD Tryz.prog 64 #[.pointer (some ⟨p, 0, none⟩), .pointer (some ⟨q, 0, none⟩)] (.panicking ({ v := .iface 118 (.agg #[.int .i64 n]), recovered := false } :: older)) w fun e u' w' =>
  e = .returned (.tuple #[]) ∧ u' = .panicking ({ v := .iface 118 (.agg #[.int .i64 n]), recovered := true } :: older) ∧ w' = caughtW w p q n := by
 refine callsD_of_wpS Tryz.func64 rfl fun c₀ cs hu => ?_; apply wpS_seq; apply wpS_region; simp [wpOpsS, go_sem, recoverD, hu, Tryz.ntmps64, Exit.thenS]; refine wpS_of_wp ?_; have hta := rassert_fault n; have hpl := hp.lt; have hql := hq.lt; have hB : Below w.heap.size w (w.alloc (.cells #[.int .i64 n] 118)) := (Below.refl _ _).alloc (Nat.le_refl _) _; have hp1 := (hp.below hB)
 have hq1 := (hq.below hB)
 have hz1 : Bk (w.alloc (.cells #[.int .i64 n] 118)) w.heap.size [.int .i64 n] 118 := Bk.new w [.int .i64 n] 118; obtain ⟨z, hz⟩ : ∃ z, z = w.heap.size := ⟨_, rfl⟩
 replace hp1 := zh hp1; replace hq1 := zh hq1; replace hz1 := zh hz1; change Code.wp Tryz.prog _ _ { tmps := #[.pointer (some ⟨p, 0, none⟩), .pointer (some ⟨q, 0, none⟩), undef, undef, undef, .iface 118 (.agg #[.int .i64 n]), undef, undef, undef, undef, undef, undef, undef], defers := [] } w
 go_upto_region 7 with (fail)
 obtain ⟨wa, hwa⟩ : ∃ wa, wa = w.alloc (.cells #[.int .i64 n] 118) := ⟨_, rfl⟩
 rw [← hwa] at hp1 hq1 hz1 ⊢; have hfin : caughtW w p q n = (wa.drew.setCell ⟨p, 0, none⟩ (.pointer none)).setCell ⟨q, 0, none⟩ (.int .i64 n) := (by rw [hwa]; rfl)
 clear hwa hp hq hB; refine wp_fv _ 13 rfl ?_; refine region_chainC hmix 13 3 1 (fun k => match k with | 0 => 2 | _ => 3) (fun j => match j with | 0 => 11 | 1 => 12 | _ => 13) rfl (by kernel_rfl) (by kernel_rfl) (by kernel_rfl) (by kernel_rfl) (fun j => match j with | 0 => .pointer (some ⟨w.heap.size, 0, none⟩) | 1 => .int .i64 n | _ => undef) (Xc wa p) ?_ ?_ ?_ ?_
 · rfl
 · intro i hi hn k v f w' hk hX hoth hv
   have hcz : w'.cell? ⟨w.heap.size, 0, none⟩ = some (.int .i64 n) := by
    unfold Xc at hX; rw [hX]; split
    · exact ((hz1.out.wr ((Wr.refl (· = p) wa).drew) (by omega))).cell rfl
    · exact ((hz1.out.wr ((Wr.refl (· = p) wa).drew) (by omega)).far (by omega) _ _).cell rfl
   clear hX
   match i, hi with
   | 0, _ => have z0 := fv_get (n := 13) (by decide) (show f 3 = .pointer (some ⟨w.heap.size, 0, none⟩) from (hoth 3 (by decide)).trans rfl); refine wpOp_step rfl ?_; intro K' hK'; rw [if_pos (wanted_none rfl)]; go_simp; (try simp only [z0]); (try go_simp); exact hK' _ _ ⟨fv_set _ _, rfl⟩
   | 1, _ => have z0 := fv_get (n := 13) (by decide) (show f 11 = .pointer (some ⟨w.heap.size, 0, none⟩) from hv 0 (by kernel_rfl) (by decide)); refine wpOp_step rfl ?_; intro K' hK'; rw [if_pos (wanted_none rfl)]; go_simp; (try simp only [z0]); (try go_simp); exact hK' _ _ ⟨fv_set _ _, rfl⟩
   | 2, _ => exact absurd rfl (hn 0 (by decide))
   | i + 3, h => exact absurd h (by omega)
 · intro k hk v f w' hX hfv hoth hv; obtain rfl : k = 0 := by omega
   have hX' : w' = wa.drew := hX; subst hX'; have hb := hp1.out; have c0 := hb.cell (j := 0) rfl; have f0 := hb.fr 0; have z0 := fv_get (n := 13) (by decide) (show f 0 = .pointer (some ⟨p, 0, none⟩) from (hoth 0 (by decide)).trans rfl)
   show wpOp _ _ _ 2 _ _ _
   refine wpOp_step rfl ?_; intro K' hK'; rw [if_pos (wanted_none rfl)]; go_simp; (try simp only [z0]); (try go_simp); refine hK' _ _ ⟨f 13, ?_, rfl⟩
   have : upv f 13 (f 13) = f := by
    funext t; unfold upv; split
    · rename_i e; rw [e]
    · rfl
   show _ = Fv 13 (upv f 13 (f 13))
   rw [this]
 · intro v f w' hX hfv hoth hv; have hX' : w' = wa.drew.setCell ⟨p, 0, none⟩ (.pointer none) := hX; subst hX'; have hb := hq1.out; have c0 := hb.cell (j := 0) rfl; have f0 := hb.fr 0; have z0 := fv_get (n := 13) (by decide) (show f 1 = .pointer (some ⟨q, 0, none⟩) from (hoth 1 (by decide)).trans rfl); have z1 := fv_get (n := 13) (by decide) (show f 12 = .int .i64 n from hv 1 (by decide) (by decide)); refine wpOp_step rfl ?_; intro K' hK'; rw [if_pos (wanted_none rfl)]; go_simp; (try simp only [z0, z1]); (try go_simp); refine hK' _ _ ?_
   have hfin2 : caughtW w p q n = ((wa.setCell ⟨p, 0, none⟩ (.pointer none)).setCell ⟨q, 0, none⟩ (.int .i64 n)).drew := by rw [hfin, World.setCell_drew, World.setCell_drew]
   simp only [Exit.inBlock]; exact ⟨rfl, _, rfl, _, results_none rfl _ _ _, rfl, rfl, hfin2.symm⟩
end Go.Proofs.YtkbfjkbokifgkaaGreatDoor
