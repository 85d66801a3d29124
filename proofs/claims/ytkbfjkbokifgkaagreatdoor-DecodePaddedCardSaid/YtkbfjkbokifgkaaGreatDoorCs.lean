/- Custom sections and padded ones: small words. -/
import Derived.Test.YtkbfjkbokifgkaaGreatDoorCz
import Derived.Test.YtkbfjkbokifgkaaGreatDoorSs
import Derived.Test.YtkbfjkbokifgkaaGreatDoorUl
import Derived.Test.YtkbfjkbokifgkaaGreatDoorWa
import Derived.Test.YtkbfjkbokifgkaaGreatDoorHp
import Derived.Test.YtkbfjkbokifgkaaGreatDoorHg
import Derived.SizedLaws
import Derived.Test.YtkbfjkbokifgkaaGreatDoorDv
import Derived.Test.YtkbfjkbokifgkaaGreatDoorMa
namespace Go.Proofs.YtkbfjkbokifgkaaGreatDoor
open Go.RowKit
set_option linter.unusedVariables false
set_option linter.unusedSimpArgs false
def TuD (m : Md) (n : Int) (v : Value) (w : World) : Prop := ∃ (a0 a1 a2 a3 a4 a5 a6 a7 a8 a9 : Option Addr) (k0 k1 k2 k3 k4 k5 k6 k7 k8 k9 : Nat), v = .tuple #[mdV m a0 k0 a1 k1 a2 k2 a3 k3 a4 k4 a5 k5 a6 k6 a7 k7 a8 k8 a9 k9, .int .i64 n] ∧ MdS w m a0 a1 a2 a3 a4 a5 a6 a7 a8 a9
def TuM (m : Md) (v : Value) (w : World) : Prop := ∃ (a0 a1 a2 a3 a4 a5 a6 a7 a8 a9 : Option Addr) (k0 k1 k2 k3 k4 k5 k6 k7 k8 k9 : Nat), v = mdV m a0 k0 a1 k1 a2 k2 a3 k3 a4 k4 a5 k5 a6 k6 a7 k7 a8 k8 a9 k9 ∧ MdS w m a0 a1 a2 a3 a4 a5 a6 a7 a8 a9
theorem TuD.keep {m : Md} {n : Int} {v : Value} {w w' : World} (h : TuD m n v w) (f : Keeps w w') : TuD m n v w' := by obtain ⟨a0, a1, a2, a3, a4, a5, a6, a7, a8, a9, k0, k1, k2, k3, k4, k5, k6, k7, k8, k9, e, h⟩ := h; exact ⟨a0, a1, a2, a3, a4, a5, a6, a7, a8, a9, k0, k1, k2, k3, k4, k5, k6, k7, k8, k9, e, h.keep f⟩
theorem TuM.keep {m : Md} {v : Value} {w w' : World} (h : TuM m v w) (f : Keeps w w') : TuM m v w' := by obtain ⟨a0, a1, a2, a3, a4, a5, a6, a7, a8, a9, k0, k1, k2, k3, k4, k5, k6, k7, k8, k9, e, h⟩ := h; exact ⟨a0, a1, a2, a3, a4, a5, a6, a7, a8, a9, k0, k1, k2, k3, k4, k5, k6, k7, k8, k9, e, h.keep f⟩
theorem rd_of {g : Except Int Md} {w : World} {v : Value} (h : DecS g w (.returned v)) {m : Md} {n : Int} (hg : (g = .ok m ∧ n = 0) ∨ (g = .error n ∧ m = md0)) : TuD m n v w := by obtain ⟨m', n', a0, a1, a2, a3, a4, a5, a6, a7, a8, a9, k0, k1, k2, k3, k4, k5, k6, k7, k8, k9, h1, h2, h3⟩ := h; obtain ⟨rfl, rfl⟩ := dec_same hg h1; cases h2; exact ⟨a0, a1, a2, a3, a4, a5, a6, a7, a8, a9, k0, k1, k2, k3, k4, k5, k6, k7, k8, k9, rfl, h3⟩
theorem decs_ret {g : Except Int Md} {w : World} {e : Ending} (h : DecS g w e) : ∃ v, e = .returned v := by obtain ⟨m', n', a0, a1, a2, a3, a4, a5, a6, a7, a8, a9, k0, k1, k2, k3, k4, k5, k6, k7, k8, k9, h1, h2, h3⟩ := h; exact ⟨_, h2⟩
theorem encE_ok {m : Md} (h : encE m = 0) : checkV m = 0 ∧ (xMd m).length ≤ 262144 ∧ encB m = xMd m := by
 unfold encE at h; unfold encB; split at h
 · rename_i hc; split at h
   · rename_i hl; rw [if_pos hc, if_pos hl]; exact ⟨hc, hl, rfl⟩
   · cases h
 · rename_i hc; exact absurd h hc
theorem strl_append (a b : ByteArray) : strl (a ++ b) = strl a ++ strl b := by unfold strl; rw [ByteArray.data_append]; exact Array.toList_append
theorem uB_nat' (n : Nat) (h : n < 18446744073709551616 := by omega) : lebU n = uB (n : Int) := by unfold uB; congr 1; omega
theorem strl_ext (s : ByteArray) (a b : Nat) : strl (s.extract a b) = ((strl s).take b).drop a := by rw [ext_win]; rfl
theorem nm_of {m : Md} (h : NOk m) : Nm m := ⟨h.nf, h.ng, h.ne, h.nd⟩
theorem endsC_len : ∀ (cks : List Ck) (a : Nat), (endsC cks a).length = cks.length
 | [], _ => rfl
 | k :: r, a => by rw [endsC, List.length_cons, List.length_cons, endsC_len r]
end Go.Proofs.YtkbfjkbokifgkaaGreatDoor
namespace Go.Proofs.YtkbfjkbokifgkaaGreatDoor
open Go.RowKit
set_option linter.unusedVariables false
set_option linter.unusedSimpArgs false
def ordX (ops : Array Oper) (s : Nat) : Bool := (List.range s).all fun i => match ops[i]? with | some o => o.after.all (fun e => !Region.binds .any e || decide (e.on < i)) | none => false
theorem ordX_at {ops : Array Oper} {s i : Nat} (h : ordX ops s = true) (hi : i < s) : ∃ o, ops[i]? = some o ∧ ∀ e ∈ o.after, Region.binds .any e = true → e.on < i := by
 unfold ordX at h; rw [List.all_eq_true] at h; have := h i (List.mem_range.2 hi); cases ho : ops[i]? with
 | none => rw [ho] at this; simp at this
 | some o => rw [ho] at this; simp only [Array.all_eq_true_iff_forall_mem] at this; refine ⟨o, rfl, fun e he hb => ?_⟩; have := this e he; rw [hb] at this; simpa using this
def wipe (p : Nat) (w : World) : World := { w with heap := w.heap.setIfInBounds p (.cells #[] 0) }
theorem wipe_at {p : Nat} {w : World} {b : Nat} (h : b ≠ p) : (wipe p w).heap[b]? = w.heap[b]? := by unfold wipe; exact Array.getElem?_setIfInBounds_ne h.symm
theorem wcell_heap {w w' : World} {a : Addr} (h : w'.heap[a.block]? = w.heap[a.block]?) : w'.cell? a = w.cell? a := by unfold World.cell?; rw [h]
theorem wipe_cell {p : Nat} {w : World} {a : Addr} (h : a.block ≠ p) : (wipe p w).cell? a = w.cell? a := wcell_heap (wipe_at h)
theorem wipe_none {p : Nat} {w : World} {a : Addr} {v : Value} (hc : (wipe p w).cell? a = some v) : a.block ≠ p := fun e => by
 subst e; unfold World.cell? wipe at hc; rw [Array.getElem?_setIfInBounds] at hc; rw [if_pos rfl] at hc
 by_cases hl : a.block < w.heap.size
 · rw [if_pos hl] at hc; simp at hc
 · rw [if_neg hl] at hc; simp at hc
theorem wipe_keeps (p : Nat) (w : World) : Keeps (wipe p w) w := fun a v hc => by rw [← hc]; exact (wipe_cell (wipe_none hc)).symm
theorem keeps_wipe {p : Nat} {w w' : World} (hb : Below w.heap.size w w') (hp : w.heap.size ≤ p) : Keeps w (wipe p w') := fun a v hc => by
 have hl := World.block_lt_of_cell? _ _ hc; rw [wipe_cell (by omega)]; exact keep_below hb a v hc
theorem wipe_wipe {p : Nat} {w w' : World} (hb : Below w.heap.size w w') : Keeps (wipe p w) (wipe p w') := fun a v hc => by
 have hne := wipe_none hc; rw [wipe_cell hne] at hc ⊢; exact keep_below hb a v hc
theorem wipe_same {p : Nat} {w w' : World} (h : ∀ b, b ≠ p → w'.heap[b]? = w.heap[b]?) : Keeps (wipe p w) (wipe p w') := fun a v hc => by
 have hne := wipe_none hc; rw [wipe_cell hne] at hc ⊢; rw [← hc]; exact wcell_heap (h _ hne)
def isPtr (p : Nat) : Value := .pointer (some ⟨p, 0, none⟩)
structure PB (n s ia is k : Nat) (D : Nat → Nat) (T : TypeId) (zs : Array Value) (G : Value → Array Value → Prop) (w0 : World) (R : Nat → Value → World → Prop) (f : Nat → Value) (listed : Array Bool) (w : World) (p : Nat) (cs : Array Value) : Prop where
 ge : w0.heap.size ≤ p
 ptr : f (D ia) = isPtr p
 blk : w.heap[p]? = some (.cells cs T)
 off : listed.getD is false = false → cs = zs
 on : listed.getD is false = true → G (f (D k)) cs
 rel : ∀ j, j < s → j ≠ ia → j ≠ is → listed.getD j false = true → R j (f (D j)) (wipe p w)
structure JB (Q : Exit → Act → World → Prop) (ops : Array Oper) (n s ia is k : Nat) (D : Nat → Nat) (T : TypeId) (zs : Array Value) (G : Value → Array Value → Prop) (w0 : World) (R : Nat → Value → World → Prop) (f0 : Nat → Value) (listed : Array Bool) (a : Act) (w : World) : Prop where
 size : listed.size = s + 1
 clo : ∀ i j, i < s → listed.getD i false = true → depB ops i j = true → listed.getD j false = true
 off : listed.getD s false = false → ∃ f, a = Fv n f ∧ (∀ t, (∀ j, j < s → D j ≠ t) → f t = f0 t) ∧ Below w0.heap.size w0 w ∧
  ((listed.getD ia false = false ∧ ∀ j, j < s → j ≠ ia → j ≠ is → listed.getD j false = true → R j (f (D j)) w) ∨
   (listed.getD ia false = true ∧ ∃ p cs, PB n s ia is k D T zs G w0 R f listed w p cs))
 on : listed.getD s false = true → (∀ j, j < s → listed.getD j false = true) ∧ Q .normal a w
theorem region_box {P : Program} {Q : Exit → Act → World → Prop} {id : Nat} {ops : Array Oper} {f0 : Nat → Value} {w : World} (hmix : P.follows .mixedOrders = true) (n s ia is k : Nat) (D : Nat → Nat) (T : TypeId) (zs : Array Value) (G : Value → Array Value → Prop)
 (hs : ops.size = s + 1) (hq : ordX ops (s + 1) = true) (hd : difB D s = true) (hl : lastB ops s = true) (hia : ia < s) (his : is < s) (hk : k < s) (hne : ia ≠ is) (hki : k ≠ ia) (hks : k ≠ is) (hda : depB ops is ia = true) (hdk : depB ops is k = true)
 (R : Nat → Value → World → Prop) (hK : ∀ j v w w', Keeps w w' → R j v w → R j v w')
 (step : ∀ i, i < s → i ≠ ia → i ≠ is → ∀ f w', Below w.heap.size w w' → (∀ t, (∀ j, j < s → D j ≠ t) → f t = f0 t) → (∀ j, j ≠ ia → j ≠ is → depB ops i j = true → R j (f (D j)) w') →
  wpOp P ops Q i (fun a' w'' => ∃ v, a' = Fv n (upv f (D i) v) ∧ Below w'.heap.size w' w'' ∧ R i v w'' ∧ ∀ p, w.heap.size ≤ p → p < w'.heap.size → (∀ j, j ≠ ia → j ≠ is → depB ops i j = true → R j (f (D j)) (wipe p w')) → R i v (wipe p w'')) (Fv n f) w')
 (make : ∀ f w', wpOp P ops Q ia (fun a' w'' => a' = Fv n (upv f (D ia) (isPtr w'.heap.size)) ∧ w'' = w'.alloc (.cells zs T)) (Fv n f) w')
 (store : ∀ f w' p, w.heap.size ≤ p → f (D ia) = isPtr p → w'.heap[p]? = some (.cells zs T) → (∀ j, j ≠ ia → j ≠ is → depB ops is j = true → R j (f (D j)) (wipe p w')) →
  wpOp P ops Q is (fun a' w'' => a' = Fv n f ∧ (∃ cs, w''.heap[p]? = some (.cells cs T) ∧ G (f (D k)) cs) ∧ (∀ b, b ≠ p → w''.heap[b]? = w'.heap[b]?) ∧ Below p w' w'') (Fv n f) w')
 (last : ∀ f w' p cs, Below w.heap.size w w' → w.heap.size ≤ p → (∀ t, (∀ j, j < s → D j ≠ t) → f t = f0 t) → f (D ia) = isPtr p → w'.heap[p]? = some (.cells cs T) → G (f (D k)) cs → (∀ j, j < s → j ≠ ia → j ≠ is → R j (f (D j)) (wipe p w')) →
  wpOp P ops Q s (fun a' w'' => Q .normal a' w'') (Fv n f) w') : (Code.region id ops true).wp P Q (Fv n f0) w := by
 refine wp_region_any hmix ?_; refine any_inv (JB Q ops n s ia is k D T zs G w R f0) (fun listed a w' hJ i o ho hl2 hall => ?_) (fun listed a w' hJ hr => ?_) ops.size _ _ _ ?_ ?_
 · obtain ⟨hsz, hclo, hoff, hon⟩ := hJ
   have hi : i < s + 1 := by rw [← hs]; exact (Array.getElem?_eq_some_iff.1 ho).1
   have hl3 : listed.getD i false = false := (by rw [lget_flip (d := true) (by omega)]; exact hl2)
   have hdp : ∀ j, depB ops i j = true → j < i ∧ listed.getD j false = true := fun j hj => by
    unfold depB at hj; rw [ho] at hj; simp only [Array.any_eq_true, Bool.and_eq_true, beq_iff_eq] at hj; obtain ⟨k, hk, rfl, hbd⟩ := hj; obtain ⟨o', ho', hlt⟩ := ordX_at hq hi; obtain rfl : o = o' := Option.some.inj (ho.symm.trans ho'); have hm := Array.getElem_mem hk; exact ⟨hlt _ hm hbd, hall _ hm hbd⟩
   have hls : listed.getD s false = false := by
    cases h : listed.getD s false with
    | false => rfl
    | true =>
      by_cases e : i = s
      · rw [e, h] at hl3; exact hl3
      · have := (hon h).1 i (by omega); rw [hl3] at this; exact this.symm
   obtain ⟨f, rfl, hoth, hB, hcase⟩ := hoff hls
   have hclo2 : ∀ i2 j, i2 < s → (listed.setIfInBounds i true).getD i2 false = true → depB ops i2 j = true → (listed.setIfInBounds i true).getD j false = true := fun i2 j h1 h2 h3 => by
    have hj : listed.getD j false = true := by
     by_cases e : i = i2
     · subst e; exact (hdp j h3).2
     · exact hclo i2 j h1 ((lget_set e).symm.trans h2) h3
    by_cases e : i = j
    · subst e; rw [hl3] at hj; cases hj
    · exact (lget_set e).trans hj
   have hset : (listed.setIfInBounds i true).getD i false = true := by rw [Array.getD_eq_getD_getElem?, Array.getElem?_setIfInBounds_self_of_lt (by omega)]; rfl
   have hsz2 : (listed.setIfInBounds i true).size = s + 1 := (by rw [Array.size_setIfInBounds]; exact hsz)
   by_cases hiS : i = s
   · subst hiS; have hallj : ∀ j, j < i → listed.getD j false = true := fun j hj => last_all (L := fun j => listed.getD j false = true) hl (fun j hj => (hdp j hj).2) (fun i2 j h1 h2 h3 => hclo i2 j h1 h2 h3) i j hj (by omega)
     rcases hcase with ⟨h, _⟩ | ⟨_, p, cs, hP⟩
     · rw [hallj _ hia] at h; cases h
     · refine wpOp_mono (fun a' w'' h => ?_) (last f w' p cs hB hP.ge hoth hP.ptr hP.blk (hP.on (hallj _ his)) (fun j hj h1 h2 => hP.rel j hj h1 h2 (hallj j hj))); exact ⟨hsz2, hclo2, fun h2 => by rw [hset] at h2; (cases h2), fun _ => ⟨fun j hj => (lget_set (by omega)).trans (hallj j hj), h⟩⟩
   · have hi2 : i < s := (by omega)
     have hls2 : (listed.setIfInBounds i true).getD s false = false := (by rw [lget_set hiS]; exact hls)
     have fin : ∀ a' w'', (∃ f', a' = Fv n f' ∧ (∀ t, (∀ j, j < s → D j ≠ t) → f' t = f0 t) ∧ Below w.heap.size w w'' ∧
      (((listed.setIfInBounds i true).getD ia false = false ∧ ∀ j, j < s → j ≠ ia → j ≠ is → (listed.setIfInBounds i true).getD j false = true → R j (f' (D j)) w'') ∨
       ((listed.setIfInBounds i true).getD ia false = true ∧ ∃ p cs, PB n s ia is k D T zs G w R f' (listed.setIfInBounds i true) w'' p cs))) → JB Q ops n s ia is k D T zs G w R f0 (listed.setIfInBounds i true) a' w'' := fun a' w'' h =>
      ⟨hsz2, hclo2, fun _ => h, fun h2 => by rw [hls2] at h2; cases h2⟩
     have hup : ∀ v t, (∀ j, j < s → D j ≠ t) → upv f (D i) v t = f0 t := fun v t ht => by
      rw [show upv f (D i) v t = f t from if_neg (fun e => ht i hi2 e.symm)]; exact hoth t ht
     have hat : ∀ v j, j < s → j ≠ i → upv f (D i) v (D j) = f (D j) := fun v j hj hji => if_neg (fun e => hji (difB_at hd hj hi2 e)); have hself : ∀ v, upv f (D i) v (D i) = v := fun v => if_pos rfl
     by_cases h1 : i = ia
     · subst h1
       rcases hcase with ⟨_, hr⟩ | ⟨h, _⟩
       · refine wpOp_mono (fun a' w'' h => ?_) (make f w'); obtain ⟨rfl, rfl⟩ := h; have hbA : Below w'.heap.size w' (w'.alloc (.cells zs T)) := (Below.refl _ _).alloc (Nat.le_refl _) _; refine fin _ _ ⟨_, rfl, hup _, hB.trans (hbA.mono hB.size), .inr ⟨hset, w'.heap.size, zs, hB.size, hself _, heap_alloc_new _ _, fun _ => rfl, fun h => ?_, fun j hj e1 e2 hlj => ?_⟩⟩
         · rw [lget_set hne] at h; have := hclo is i his h hda; rw [hl3] at this; cases this
         · rw [hat _ j hj e1]; exact hK j _ _ _ (keeps_wipe hbA (Nat.le_refl _)) (hr j hj e1 e2 ((lget_set (fun e => e1 e.symm)).symm.trans hlj))
       · rw [hl3] at h; cases h
     · by_cases h2 : i = is
       · subst h2
         rcases hcase with ⟨h, _⟩ | ⟨hA, p, cs, hP⟩
         · have := (hdp _ hda).2; rw [h] at this; cases this
         · have hcs := hP.off hl3; subst hcs; refine wpOp_mono (fun a' w'' h => ?_) (store f w' p hP.ge hP.ptr hP.blk (fun j e1 e2 hj => hP.rel j (by have := (hdp j hj).1; omega) e1 e2 (hdp j hj).2)); obtain ⟨rfl, ⟨cs', hc1, hc2⟩, hoB, hBp⟩ := h; refine fin _ _ ⟨f, rfl, hoth, hB.trans (hBp.mono hP.ge), .inr ⟨(lget_set hne.symm).trans hA, p, cs', hP.ge, hP.ptr, hc1, fun h => by rw [hset] at h; (cases h), fun _ => hc2, fun j hj e1 e2 hlj => ?_⟩⟩; exact hK j _ _ _ (wipe_same hoB) (hP.rel j hj e1 e2 ((lget_set (fun e => e2 e.symm)).symm.trans hlj))
       · have hdr : ∀ j, j ≠ ia → j ≠ is → depB ops i j = true → R j (f (D j)) w' := fun j e1 e2 hj => by
          rcases hcase with ⟨_, hr⟩ | ⟨_, p, cs, hP⟩
          · exact hr j (by have := (hdp j hj).1; omega) e1 e2 (hdp j hj).2
          · exact hK j _ _ _ (wipe_keeps p w') (hP.rel j (by have := (hdp j hj).1; omega) e1 e2 (hdp j hj).2)
         refine wpOp_mono (fun a' w'' h => ?_) (step i hi2 h1 h2 f w' hB hoth hdr); obtain ⟨v, rfl, hb, hr2, hr3⟩ := h
         rcases hcase with ⟨hA, hr⟩ | ⟨hA, p, cs, hP⟩
         · refine fin _ _ ⟨_, rfl, hup v, hB.trans (hb.mono hB.size), .inl ⟨(lget_set h1).trans hA, fun j hj e1 e2 hlj => ?_⟩⟩
           by_cases e : j = i
           · subst e; rw [hself]; exact hr2
           · rw [hat v j hj e]; exact hK j _ _ _ (keep_below hb) (hr j hj e1 e2 ((lget_set (fun e' => e e'.symm)).symm.trans hlj))
         · have hplt : p < w'.heap.size := (Array.getElem?_eq_some_iff.1 hP.blk).1; refine fin _ _ ⟨_, rfl, hup v, hB.trans (hb.mono hB.size), .inr ⟨(lget_set h1).trans hA, p, cs, hP.ge, (hat v ia hia (fun e => h1 e.symm)).trans hP.ptr, (hb.block p hplt).trans hP.blk, fun h => hP.off ((lget_set h2).symm.trans h), fun h => ?_, fun j hj e1 e2 hlj => ?_⟩⟩
           · have hisl := (lget_set h2).symm.trans h; have hkl := hclo is k his hisl hdk; rw [hat v k hk (fun e => by subst e; rw [hl3] at hkl; cases hkl)]; exact hP.on hisl
           · by_cases e : j = i
             · subst e; rw [hself]; exact hr3 p hP.ge hplt (fun j2 e3 e4 hj2 => hP.rel j2 (by have := (hdp j2 hj2).1; omega) e3 e4 (hdp j2 hj2).2)
             · rw [hat v j hj e]; exact hK j _ _ _ (wipe_wipe hb) (hP.rel j hj e1 e2 ((lget_set (fun e' => e e'.symm)).symm.trans hlj))
 · obtain ⟨hsz, hclo, hoff, hon⟩ := hJ
   have hall : ∀ i, i < s + 1 → listed.getD i true = true := by
    intro i
    induction i using Nat.strongRecOn with
    | ind i ih =>
      intro hi; cases hl : listed.getD i true with
      | true => rfl
      | false =>
        exfalso; obtain ⟨o, ho, hall⟩ := ordX_at hq hi
        have hm : i ∈ Region.ready .any ops listed := mem_ready.2 ⟨hl, o, ho, fun e he hb => by
         have hlt := hall e he hb; rw [lget_flip (d := true) (by omega)]; exact ih e.on hlt (by omega)⟩
        rw [hr] at hm; cases hm
   exact (hon (by rw [lget_flip (d := true) (by omega)]; exact hall s (by omega))).2
 · have hno : ∀ k, (Array.replicate ops.size false).getD k false = false := fun k => by
    rw [Array.getD_eq_getD_getElem?, Array.getElem?_replicate]; split <;> rfl
   refine ⟨by rw [Array.size_replicate, hs], fun i j _ h _ => ?_, fun _ => ⟨f0, rfl, fun _ _ => rfl, (Below.refl _ _).drew, .inl ⟨hno _, fun j hj _ _ h => ?_⟩⟩, fun h => ?_⟩
   · rw [hno] at h; cases h
   · rw [hno] at h; cases h
   · rw [hno] at h; cases h
 · exact Nat.le_trans (countN _) (by rw [Array.size_replicate]; exact Nat.le_refl _)
def NeedsR (D : Nat → Nat) (rs : List (Value → World → Prop)) (f : Nat → Value) (w : World) : List Edge → Prop
 | [] => True
 | e :: es => (Region.binds .any e = true → (rs.getD e.on (fun _ _ => True)) (f (D e.on)) w) ∧ NeedsR D rs f w es
theorem needsR_of {D : Nat → Nat} {rs : List (Value → World → Prop)} {f : Nat → Value} {w : World} : ∀ {l : List Edge}, (∀ e ∈ l, Region.binds .any e = true → (rs.getD e.on (fun _ _ => True)) (f (D e.on)) w) → NeedsR D rs f w l
 | [], _ => trivial
 | e :: es, h => ⟨h e (by simp), needsR_of fun e' he h' => h e' (by simp [he]) h'⟩
def isV (u : Value) : Value → World → Prop := fun v _ => v = u
inductive StepB (P : Program) (Q : Exit → Act → World → Prop) (n : Nat) (D : Nat → Nat) (B : Nat) (ex : List Nat) (rs : List (Value → World → Prop)) (f : Nat → Value) (w : World) : Nat → List Oper → List (Value → World → Prop) → Prop
 | nil {d : Nat} {us : List (Value → World → Prop)} : StepB P Q n D B ex rs f w d [] us
 | pass {d : Nat} {o : Oper} {os : List Oper} {us : List (Value → World → Prop)} (he : ex.contains d = true) (k : StepB P Q n D B ex rs f w (d + 1) os us) : StepB P Q n D B ex rs f w d (o :: os) ((fun _ _ => True) :: us)
 | run {d : Nat} {o : Oper} {os : List Oper} {v : Value} {us : List (Value → World → Prop)} (hg : o.guard = none) (h : NeedsR D rs f w o.after.toList → ∀ K' : Act → World → Prop, (∀ a u, a = Fv n (upv f (D d) v) ∧ Below w.heap.size w u → K' a u) → Oper.wp P o (Fv n f) w K' Q)
  (k : StepB P Q n D B ex rs f w (d + 1) os us) : StepB P Q n D B ex rs f w d (o :: os) (isV v :: us)
 | tell {d : Nat} {o : Oper} {os : List Oper} {r : Value → World → Prop} {us : List (Value → World → Prop)} (hg : o.guard = none)
  (h : NeedsR D rs f w o.after.toList → ∀ K' : Act → World → Prop, (∀ v u, Below w.heap.size w u → r v u → (∀ p, B ≤ p → p < w.heap.size → NeedsR D rs f (wipe p w) o.after.toList → r v (wipe p u)) → K' (Fv n (upv f (D d) v)) u) → Oper.wp P o (Fv n f) w K' Q)
  (k : StepB P Q n D B ex rs f w (d + 1) os us) : StepB P Q n D B ex rs f w d (o :: os) (r :: us)
theorem stepB_at {P : Program} {Q : Exit → Act → World → Prop} {n : Nat} {D : Nat → Nat} {B : Nat} {ex : List Nat} {rs : List (Value → World → Prop)} {f : Nat → Value} {w : World} : ∀ {d : Nat} {os : List Oper} {us : List (Value → World → Prop)}, StepB P Q n D B ex rs f w d os us → ∀ k o, os[k]? = some o →
 ex.contains (d + k) = true ∨ (o.guard = none ∧ (NeedsR D rs f w o.after.toList → ∀ K' : Act → World → Prop, (∀ v u, Below w.heap.size w u → (us.getD k (fun _ _ => True)) v u → (∀ p, B ≤ p → p < w.heap.size → NeedsR D rs f (wipe p w) o.after.toList → (us.getD k (fun _ _ => True)) v (wipe p u)) → K' (Fv n (upv f (D (d + k)) v)) u) → Oper.wp P o (Fv n f) w K' Q)) := by
 intro d os us h
 induction h with
 | nil => intro k o ho; simp at ho
 | pass he k ih =>
   intro j o ho; cases j with
   | zero => left; exact he
   | succ j => have := ih j o (by simpa using ho); rw [show ∀ d : Nat, d + (j + 1) = d + 1 + j by omega]; exact this
 | run hg h k ih =>
   intro j o ho; cases j with
   | zero => simp at ho; subst ho; right; exact ⟨hg, fun hn K' hK' => h hn K' (fun a u ⟨e, hb⟩ => by rw [e]; exact hK' _ _ hb rfl (fun _ _ _ _ => rfl))⟩
   | succ j => have := ih j o (by simpa using ho); rw [show ∀ d : Nat, d + (j + 1) = d + 1 + j by omega]; exact this
 | tell hg h k ih =>
   intro j o ho; cases j with
   | zero => simp at ho; subst ho; right; exact ⟨hg, fun hn K' hK' => h hn K' hK'⟩
   | succ j => have := ih j o (by simpa using ho); rw [show ∀ d : Nat, d + (j + 1) = d + 1 + j by omega]; exact this
theorem region_boxl {P : Program} {Q : Exit → Act → World → Prop} {id : Nat} {l : List Oper} {f0 : Nat → Value} {w : World} (hmix : P.follows .mixedOrders = true) (n s ia is k : Nat) (Ds : List Nat) (T : TypeId) (zs : Array Value) (G : Value → Array Value → Prop) (rs : List (Value → World → Prop))
 (hs : l.length = s + 1) (hq : ordX l.toArray (s + 1) = true) (hd : difB (fun j => Ds.getD j 0) s = true) (hl : lastB l.toArray s = true) (hnum : (decide (ia < s) && decide (is < s) && decide (k < s) && decide (ia ≠ is) && decide (k ≠ ia) && decide (k ≠ is) && depB l.toArray is ia && depB l.toArray is k) = true)
 (hri : rs[ia]? = some (fun _ _ => True)) (hrs : rs[is]? = some (fun _ _ => True))
 (hK : ∀ r ∈ rs, ∀ v w w', Keeps w w' → r v w → r v w')
 (steps : ∀ f w', Below w.heap.size w w' → (∀ t, (∀ j, j < s → Ds.getD j 0 ≠ t) → f t = f0 t) → StepB P Q n (fun j => Ds.getD j 0) w.heap.size [ia, is, s] rs f w' 0 l rs)
 (make : ∀ f w', wpOp P l.toArray Q ia (fun a' w'' => a' = Fv n (upv f (Ds.getD ia 0) (isPtr w'.heap.size)) ∧ w'' = w'.alloc (.cells zs T)) (Fv n f) w')
 (store : ∀ f w' p, w.heap.size ≤ p → f (Ds.getD ia 0) = isPtr p → w'.heap[p]? = some (.cells zs T) → (rs.getD k (fun _ _ => True)) (f (Ds.getD k 0)) (wipe p w') →
  wpOp P l.toArray Q is (fun a' w'' => a' = Fv n f ∧ (∃ cs, w''.heap[p]? = some (.cells cs T) ∧ G (f (Ds.getD k 0)) cs) ∧ (∀ b, b ≠ p → w''.heap[b]? = w'.heap[b]?) ∧ Below p w' w'') (Fv n f) w')
 (last : ∀ f w' p cs, Below w.heap.size w w' → w.heap.size ≤ p → (∀ t, (∀ j, j < s → Ds.getD j 0 ≠ t) → f t = f0 t) → f (Ds.getD ia 0) = isPtr p → w'.heap[p]? = some (.cells cs T) → G (f (Ds.getD k 0)) cs → (∀ j, j < s → (rs.getD j (fun _ _ => True)) (f (Ds.getD j 0)) (wipe p w')) →
  wpOp P l.toArray Q s (fun a' w'' => Q .normal a' w'') (Fv n f) w') : (Code.region id l.toArray true).wp P Q (Fv n f0) w := by
 simp only [Bool.and_eq_true, decide_eq_true_eq] at hnum; obtain ⟨⟨⟨⟨⟨⟨⟨h1, h2⟩, h3⟩, h4⟩, h5⟩, h6⟩, h7⟩, h8⟩ := hnum; have tri : ∀ v w, (rs.getD ia (fun _ _ => True)) v w := fun v w => by rw [List.getD_eq_getElem?_getD, hri]; trivial
 have trs : ∀ v w, (rs.getD is (fun _ _ => True)) v w := fun v w => by rw [List.getD_eq_getElem?_getD, hrs]; trivial
 refine region_box hmix n s ia is k (fun j => Ds.getD j 0) T zs G (by simpa using hs) hq hd hl h1 h2 h3 h4 h5 h6 h7 h8 (fun j => rs.getD j (fun _ _ => True)) (fun j v w1 w2 hk hr => ?_) (fun i hi e1 e2 f w' hb ho hdp => ?_) make (fun f w' p hp hf hz hr => store f w' p hp hf hz (hr k h5 h6 h8)) (fun f w' p cs hb hp ho hf hz hG hr => last f w' p cs hb hp ho hf hz hG (fun j hj => ?_))
 · rw [List.getD_eq_getElem?_getD] at hr ⊢; cases hj : rs[j]? with
   | none => rw [hj] at hr; exact trivial
   | some r => rw [hj] at hr; exact hK r (List.mem_of_getElem? hj) v w1 w2 hk hr
 · obtain ⟨o, hoi⟩ : ∃ o, l[i]? = some o := ⟨_, List.getElem?_eq_getElem (by omega)⟩
   have hoa : l.toArray[i]? = some o := (by simpa using hoi)
   rcases stepB_at (steps f w' hb ho) i o hoi with h | ⟨hg, h⟩
   · exfalso; rw [Nat.zero_add] at h; simp at h; omega
   · refine wpOp_step hoa fun K' hK' => ?_; rw [if_pos (wanted_none hg)]
     have hn : ∀ w', (∀ j, j ≠ ia → j ≠ is → depB l.toArray i j = true → (rs.getD j (fun _ _ => True)) (f (Ds.getD j 0)) w') → NeedsR (fun j => Ds.getD j 0) rs f w' o.after.toList := fun w' hdp => needsR_of fun e he hbd => by
      by_cases q1 : e.on = ia
      · rw [q1]; exact tri _ _
      · by_cases q2 : e.on = is
        · rw [q2]; exact trs _ _
        · exact hdp e.on q1 q2 (depB_of hoi he hbd)
     refine h (hn w' hdp) K' (fun v u hb hr hp => hK' _ _ ⟨v, ?_, hb, hr, fun p h1 h2 h3 => hp p h1 h2 (hn _ h3)⟩); rw [Nat.zero_add]
 · by_cases q1 : j = ia
   · rw [q1]; exact tri _ _
   · by_cases q2 : j = is
     · rw [q2]; exact trs _ _
     · exact hr j hj q1 q2
theorem box_out {f f0 : Nat → Value} {Ds : List Nat} {s : Nat} (ho : ∀ t, (∀ j, j < s → Ds.getD j 0 ≠ t) → f t = f0 t) (ia ib lo c : Nat)
 (hD : ((List.range s).all fun j => Ds.getD j 0 == ia || (Ds.getD j 0 == ib || (decide (lo ≤ Ds.getD j 0) && decide (Ds.getD j 0 < lo + c)))) = true) {u : Value} (v : Value) (hu : f ia = u) : upv f ib v = upv (upv (ovv f0 f lo c) ia u) ib v := by
 rw [List.all_eq_true] at hD; funext t; unfold upv ovv
 by_cases t1 : t = ib
 · rw [if_pos t1, if_pos t1]
 · rw [if_neg t1, if_neg t1]
   by_cases t2 : t = ia
   · rw [if_pos t2, t2]; exact hu
   · rw [if_neg t2]
     by_cases t3 : lo ≤ t ∧ t < lo + c
     · rw [if_pos t3]
     · rw [if_neg t3]; refine ho t (fun j hj e => ?_); have := hD j (List.mem_range.2 hj); simp only [Bool.or_eq_true, beq_iff_eq, Bool.and_eq_true, decide_eq_true_eq] at this; omega
end Go.Proofs.YtkbfjkbokifgkaaGreatDoor
