/- Kinds of rows that a section appends to the module. -/
import Derived.Test.YtkbfjkbokifgkaaGreatDoorPs
namespace Go.Proofs.YtkbfjkbokifgkaaGreatDoor
open Go.RowKit
set_option linter.unusedVariables false
set_option linter.unusedSimpArgs false
structure Kd (α : Type) where
 R : Type
 enc : R → List Value
 sz : Nat
 of : R → α
 ok : (Nat → Prop) → World → R → Prop
 len : ∀ t, (enc t).length = sz
 one : ∀ t, ∀ u ∈ enc t, u.oneCell' = true
 keep : ∀ {S S' : Nat → Prop} {w w' : World} {t : R}, KeepsR S S' w w' → ok S w t → ok S' w' t
structure SecAt {α : Type} (K : Kd α) (E : TypeId) (w0 w : World) (p br : Nat) (s : ByteArray) (a e l : Int) (cs : List Value) (j : Nat) (v : Value) (ts : List K.R) : Prop where
 rd : RdAt w p s a e l (cs.set j v)
 bx : Bk w br [.pointer (some ⟨p, 0, none⟩)] 60
 wr : Wr (· = p) w0 w
 own : w.ownsRow (br + 1) E K.sz v ts.length (ts.flatMap K.enc)
 oks : ∀ t ∈ ts, K.ok (fun b => br + 1 ≤ b ∧ some b ≠ v.ownBlock) w t
structure SecGo {α : Type} (K : Kd α) (E : TypeId) (w0 w : World) (p br : Nat) (s : ByteArray) (a e l : Int) (cs : List Value) (j : Nat) (v v' : Value) (ts : List K.R) : Prop where
 rd : RdAt w p s a e l (cs.set j v)
 bx : Bk w br [.pointer (some ⟨p, 0, none⟩)] 60
 wr : Wr (· = p) w0 w
 own : w.ownsRow (br + 1) E K.sz v' ts.length (ts.flatMap K.enc)
 oks : ∀ t ∈ ts, K.ok (fun b => br + 1 ≤ b ∧ some b ≠ v'.ownBlock) w t
theorem RdAt.field {w : World} {p : Nat} {s : ByteArray} {a e l : Int} {cs : List Value} {j : Nat} {v : Value} (h : RdAt w p s a e l (cs.set j v)) (hj : j < 11) : w.cell? ⟨p, 4 + j, none⟩ = some v := by
 have hl : cs.length = 11 := (by rw [← h.eleven, List.length_set])
 rw [cell_of_row w p (4 + j) _ _ _ h.row]; simp only [List.getElem?_toArray]; rw [show 4 + j = j + 1 + 1 + 1 + 1 by omega]; simp only [List.getElem?_cons_succ]; exact List.getElem?_set_self (by omega)
theorem RdAt.setm {w : World} {p : Nat} {s : ByteArray} {a e l : Int} {cs : List Value} {j : Nat} {v : Value} (h : RdAt w p s a e l (cs.set j v)) (v' : Value) : RdAt (w.setCell ⟨p, 4 + j, none⟩ v') p s a e l (cs.set j v') := by refine ⟨?_, by rw [List.length_set]; simpa using h.eleven⟩; rw [heap_setCell_same w p (4 + j) _ _ _ h.row]; rw [show 4 + j = j + 1 + 1 + 1 + 1 by omega]; simp
theorem SecAt.rdd {α : Type} {K : Kd α} {E : TypeId} {w0 w w' : World} {p br : Nat} {s : ByteArray} {a e l : Int} {cs : List Value} {j : Nat} {v : Value} {ts : List K.R} (h : SecAt K E w0 w p br s a e l cs j v ts) (hp : p < br) {a' e' l' : Int} (k : Wr (· = p) w w') (r : RdAt w' p s a' e' l' (cs.set j v)) : SecAt K E w0 w' p br s a' e' l' cs j v ts :=
 ⟨r, h.bx.wr k (by omega), h.wr.trans k, own_same h.own fun g hg => k.block g (h.own.lt g hg).2 (by have := (h.own.lt g hg).1; omega), fun t ht => K.keep (keeps_wrR k fun b hb => by have := hb.1; omega) (h.oks t ht)⟩
theorem SecAt.below {α : Type} {K : Kd α} {E : TypeId} {w0 w w' : World} {p br : Nat} {s : ByteArray} {a e l : Int} {cs : List Value} {j : Nat} {v : Value} {ts : List K.R} (h : SecAt K E w0 w p br s a e l cs j v ts) (hp : p < br) (k : Below w.heap.size w w') : SecAt K E w0 w' p br s a e l cs j v ts :=
 h.rdd hp (Wr.of_below k) (h.rd.below k)
theorem SecAt.drew {α : Type} {K : Kd α} {E : TypeId} {w0 w : World} {p br : Nat} {s : ByteArray} {a e l : Int} {cs : List Value} {j : Nat} {v : Value} {ts : List K.R} (h : SecAt K E w0 w p br s a e l cs j v ts) (hp : p < br) : SecAt K E w0 w.drew p br s a e l cs j v ts := h.below hp (Below.refl _ _).drew
theorem SecAt.append {α : Type} {K : Kd α} {E : TypeId} {w0 w w5 : World} {p br : Nat} {s : ByteArray} {a e l : Int} {cs : List Value} {j : Nat} {v : Value} {ts : List K.R} {t : K.R} {g cap N : Nat} (h : SecAt K E w0 w p br s a e l cs j v ts) (hp : p < br) (hw0 : w0.heap.size ≤ br) (ht : K.ok (fun b => N ≤ b) w t) (hN : ∀ g, v.ownBlock = some g → g < N) (hbN : br + 1 ≤ N)
 (hown : w5.ownsRow (br + 1) E K.sz (.slice (some ⟨g, 0, none⟩) (ts.length + 1) cap) (ts.length + 1) (ts.flatMap K.enc ++ K.enc t)) (hgrow : w.grownBy w5 v.ownBlock) (hat : v.ownBlock = some g ∨ g = w.heap.size) : SecGo K E w0 w5 p br s a e l cs j v (.slice (some ⟨g, 0, none⟩) (ts.length + 1) cap) (ts ++ [t]) := by
 have hr : ∀ k, v.ownBlock = some k → br + 1 ≤ k := fun k hk => (h.own.lt k hk).1; refine ⟨h.rd.grown hgrow (fun e => by have := hr p e.symm; omega), h.bx.grown hgrow (fun e => by have := hr br e.symm; omega), h.wr.newer (Wr.of_grown (S := fun k => v.ownBlock = some k) hgrow fun k e _ => e) (fun k e hk => by have := hr k e; omega), ?_, fun u hu => ?_⟩
 · rw [List.length_append, List.flatMap_append]; simpa using hown
 · rcases List.mem_append.1 hu with hu | hu
   · exact K.keep (KeepsR.grown2 hgrow (hat.imp id (fun e => Nat.le_of_eq e.symm))) (h.oks u hu)
   · obtain rfl : u = t := by simpa using hu
     refine K.keep ⟨fun a x hb hc => hgrow.cell hc (fun e => ?_), fun b hb hlt => ⟨Nat.le_trans hbN hb, fun e => ?_⟩⟩ ht
     · have := hN _ e.symm; have : N ≤ a.block := hb; omega
     · have e2 : b = g := (by simpa [Value.ownBlock] using e)
       have : N ≤ b := hb
       rcases hat with h1 | h1
       · have := hN g h1; omega
       · omega
theorem SecGo.store {α : Type} {K : Kd α} {E : TypeId} {w0 w : World} {p br : Nat} {s : ByteArray} {a e l : Int} {cs : List Value} {j : Nat} {v v' : Value} {ts : List K.R} (h : SecGo K E w0 w p br s a e l cs j v v' ts) (hp : p < br) : SecAt K E w0 (w.setCell ⟨p, 4 + j, none⟩ v') p br s a e l cs j v' ts := by have k : Wr (· = p) w (w.setCell ⟨p, 4 + j, none⟩ v') := (Wr.refl (· = p) w).set rfl _ _; exact ⟨h.rd.setm v', h.bx.wr k (by omega), h.wr.trans k, own_same h.own fun g hg => k.block g (h.own.lt g hg).2 (by have := (h.own.lt g hg).1; omega), fun t ht => K.keep (keeps_wrR k fun b hb => by have := hb.1; omega) (h.oks t ht)⟩
def JK {α : Type} (K : Kd α) (E : TypeId) (w0 : World) (p br : Nat) (s : ByteArray) (e l : Int) (cs : List Value) (j : Nat) (xs : List α) (a : Nat) (w : World) : Prop := ∃ (ts : List K.R) (v : Value), SecAt K E w0 w p br s (a : Int) e l cs j v ts ∧ ts.map K.of = xs
def Sec {α : Type} (K : Kd α) (E : TypeId) (j : Nat) (p : Nat) (s : ByteArray) (e : Nat) (l : Int) (cs : List Value) (g : Got (List α)) (w : World) (e' : Ending) (w' : World) : Prop :=
 Wr (· = p) w w' ∧ ((∃ (xs : List α) (a' : Nat) (ts : List K.R) (v : Value), g = .ok (xs, a') ∧ a' ≤ e ∧ e' = .returned (.tuple #[]) ∧ RdAt w' p s (a' : Int) (e : Int) l (cs.set j v) ∧ w'.ownsRow (w.heap.size + 1) E K.sz v ts.length (ts.flatMap K.enc) ∧ (∀ t ∈ ts, K.ok (fun b => w.heap.size + 1 ≤ b ∧ some b ≠ v.ownBlock) w' t) ∧ ts.map K.of = xs) ∨
  (∃ n, g = .error n ∧ e' = .panicked (flt n)))
def RowFn {α : Type} (K : Kd α) (E : TypeId) (j k : Nat) (g : List UInt8 → Nat → Nat → Got α) : Prop := ∀ (w0 w : World) (p br : Nat) (s : ByteArray) (a e l : Nat) (cs : List Value) (xs : List α), p < br → br = w0.heap.size → s.size ≤ 262144 → e ≤ s.size → a ≤ e → xs.length < 4096 → JK K E w0 p br s (e : Int) (l : Int) cs j xs a w →
 Calls Tryz.prog k #[.pointer (some ⟨br, 0, none⟩)] w fun e' w' => (∃ v a', g (strl s) e a = .ok (v, a') ∧ a' ≤ e ∧ e' = .returned (.tuple #[]) ∧ JK K E w0 p br s (e : Int) (l : Int) cs j (xs ++ [v]) a' w') ∨ (∃ n, g (strl s) e a = .error n ∧ e' = .panicked (flt n) ∧ Wr (· = p) w0 w')
def RowFnT {α : Type} (K : Kd α) (E : TypeId) (j k : Nat) (g : List UInt8 → Nat → Nat → Got α) : Prop := ∀ (w0 w : World) (p br : Nat) (s : ByteArray) (a e l : Nat) (cs : List Value) (xs : List α), TabP p w0 → p < br → br = w0.heap.size → s.size ≤ 262144 → e ≤ s.size → a ≤ e → xs.length < 4096 → JK K E w0 p br s (e : Int) (l : Int) cs j xs a w →
 Calls Tryz.prog k #[.pointer (some ⟨br, 0, none⟩)] w fun e' w' => (∃ v a', g (strl s) e a = .ok (v, a') ∧ a' ≤ e ∧ e' = .returned (.tuple #[]) ∧ JK K E w0 p br s (e : Int) (l : Int) cs j (xs ++ [v]) a' w') ∨ (∃ n, g (strl s) e a = .error n ∧ e' = .panicked (flt n) ∧ Wr (· = p) w0 w')
theorem sec_start {α : Type} (K : Kd α) (E : TypeId) {w w' : World} {p : Nat} {s : ByteArray} {a e l : Int} {cs : List Value} {j : Nat} (hc : cs[j]? = some (.slice none 0 0)) (hR : RdAt w' p s a e l cs) (hb : Bk w' w.heap.size [.pointer (some ⟨p, 0, none⟩)] 60) (hW : Wr (· = p) w w') : SecAt K E w w' p w.heap.size s a e l cs j (.slice none 0 0) [] := by
 refine ⟨?_, hb, hW, World.ownsRow_nil _ _ _ _, fun t ht => by cases ht⟩
 have : cs.set j (.slice none 0 0) = cs := by obtain ⟨hlt, he⟩ := List.getElem?_eq_some_iff.1 hc; rw [← he]; exact List.set_getElem_self hlt
 rw [this]; exact hR
def PhS {α : Type} (K : Kd α) (E : TypeId) (w0 : World) (p br : Nat) (s : ByteArray) (e l : Nat) (cs : List Value) (j : Nat) (v0 : Value) (ts : List K.R) (x : Nat) (vs : List Value) (T : TypeId) (N : Nat) (z : α) (a' : Nat) (v : Value) (w' : World) : Prop :=
 ∃ b t, v = .slice (some ⟨b, 0, none⟩) 1 1 ∧ w'.heap[b]? = some (.cells (K.enc t).toArray E (0, 0)) ∧ K.of t = z ∧ K.ok (fun b => N ≤ b) w' t ∧ SecAt K E w0 w' p br s (a' : Int) (e : Int) (l : Int) cs j v0 ts ∧ Bk w' x vs T
def PhA {α : Type} (K : Kd α) (E : TypeId) (w0 : World) (p br : Nat) (s : ByteArray) (e l : Nat) (cs : List Value) (j : Nat) (v0 : Value) (ts : List K.R) (x : Nat) (vs : List Value) (T : TypeId) (z : α) (a' : Nat) (v : Value) (w' : World) : Prop :=
 ∃ g cap t, v = .slice (some ⟨g, 0, none⟩) (ts.length + 1) cap ∧ K.of t = z ∧ SecGo K E w0 w' p br s (a' : Int) (e : Int) (l : Int) cs j v0 v (ts ++ [t]) ∧ Bk w' x vs T
section
variable {α : Type} {K : Kd α} {E : TypeId} {w0 w : World} {p br : Nat} {s : ByteArray} {e l : Nat} {cs : List Value} {j : Nat} {v0 : Value} {ts : List K.R} {x : Nat} {vs : List Value} {T : TypeId} {N : Nat} {z : α} {a' : Nat}
theorem PhS.of (h : SecAt K E w0 w p br s (a' : Int) (e : Int) (l : Int) cs j v0 ts) (hp : p < br) (hx : Bk w x vs T) (t : K.R) (hz : K.of t = z) (ht : K.ok (fun b => N ≤ b) w t) : PhS K E w0 p br s e l cs j v0 ts x vs T N z a' (.slice (some ⟨w.heap.size, 0, none⟩) 1 1) (w.alloc (.cells (K.enc t).toArray E)) :=
 ⟨w.heap.size, t, rfl, heap_alloc_new _ _, hz, K.keep (KeepsR.below ((Below.refl _ _).alloc (Nat.le_refl _) _)) ht, h.below hp ((Below.refl _ _).alloc (Nat.le_refl _) _), hx.below ((Below.refl _ _).alloc (Nat.le_refl _) _)⟩
theorem PhA.of {w5 : World} {t : K.R} {g cap : Nat} (h : SecAt K E w0 w p br s (a' : Int) (e : Int) (l : Int) cs j v0 ts) (hp : p < br) (hw0 : w0.heap.size ≤ br) (hx : Bk w x vs T) (hxv : ∀ g, v0.ownBlock = some g → x ≠ g) (hz : K.of t = z) (ht : K.ok (fun b => N ≤ b) w t) (hN : ∀ g, v0.ownBlock = some g → g < N) (hbN : br + 1 ≤ N)
 (hown : w5.ownsRow (br + 1) E K.sz (.slice (some ⟨g, 0, none⟩) (ts.length + 1) cap) (ts.length + 1) (ts.flatMap K.enc ++ K.enc t)) (hgrow : w.grownBy w5 v0.ownBlock) (hat : v0.ownBlock = some g ∨ g = w.heap.size) :
 PhA K E w0 p br s e l cs j v0 ts x vs T z a' (.slice (some ⟨g, 0, none⟩) (ts.length + 1) cap) w5 :=
 ⟨g, cap, t, rfl, hz, h.append hp hw0 ht hN hbN hown hgrow hat, hx.grown hgrow (fun e => hxv x e.symm rfl)⟩
theorem PhS.cells {v : Value} (h : PhS K E w0 p br s e l cs j v0 ts x vs T N z a' v w) (hj : j < 11) : w.cell? ⟨br, 0, none⟩ = some (.pointer (some ⟨p, 0, none⟩)) ∧ w.cell? ⟨p, 4 + j, none⟩ = some v0 ∧ Bk w x vs T := by obtain ⟨b, t, _, _, _, _, hS, hx⟩ := h; exact ⟨hS.bx.cell rfl, hS.rd.field hj, hx⟩
theorem PhA.cells {v : Value} (h : PhA K E w0 p br s e l cs j v0 ts x vs T z a' v w) (hj : j < 11) : w.cell? ⟨br, 0, none⟩ = some (.pointer (some ⟨p, 0, none⟩)) ∧ w.cell? ⟨p, 4 + j, none⟩ = some v0 ∧ Bk w x vs T := by obtain ⟨g, cap, t, _, _, hS, hx⟩ := h; exact ⟨hS.bx.cell rfl, hS.rd.field hj, hx⟩
theorem SecAt.cells2 {a : Int} (h : SecAt K E w0 w p br s a (e : Int) (l : Int) cs j v0 ts) (hx : Bk w x vs T) (hj : j < 11) : w.cell? ⟨br, 0, none⟩ = some (.pointer (some ⟨p, 0, none⟩)) ∧ w.cell? ⟨p, 4 + j, none⟩ = some v0 ∧ Bk w x vs T := ⟨h.bx.cell rfl, h.rd.field hj, hx⟩
end
def XB {α : Type} (K : Kd α) (E : TypeId) (w0 w : World) (p br : Nat) (s : ByteArray) (e l : Nat) (cs : List Value) (j : Nat) (v0 : Value) (ts : List K.R) (N : Nat) (G : Got α) (val : List (α → Value)) (k : Nat) (v : Value) (w' : World) : Prop :=
 if k = 0 then w' = w.drew
 else match val[k - 1]? with
  | some f => ∃ z a', G = .ok (z, a') ∧ a' ≤ e ∧ v = f z ∧ SecAt K E w0 w' p br s (a' : Int) (e : Int) (l : Int) cs j v0 ts
  | none => if k = val.length + 1 then ∃ z a', G = .ok (z, a') ∧ a' ≤ e ∧ PhS K E w0 p br s e l cs j v0 ts br [.pointer (some ⟨p, 0, none⟩)] 60 N z a' v w'
    else ∃ z a', G = .ok (z, a') ∧ a' ≤ e ∧ PhA K E w0 p br s e l cs j v0 ts br [.pointer (some ⟨p, 0, none⟩)] 60 z a' v w'
theorem XB.cells {α : Type} {K : Kd α} {E : TypeId} {w0 w w' : World} {p br : Nat} {s : ByteArray} {a : Int} {e l : Nat} {cs : List Value} {j : Nat} {v0 : Value} {ts : List K.R} {N : Nat} {G : Got α} {val : List (α → Value)} {k : Nat} {v : Value}
 (h : SecAt K E w0 w p br s a (e : Int) (l : Int) cs j v0 ts) (hp : p < br) (hX : XB K E w0 w p br s e l cs j v0 ts N G val k v w') (hj : j < 11) : w'.cell? ⟨br, 0, none⟩ = some (.pointer (some ⟨p, 0, none⟩)) ∧ w'.cell? ⟨p, 4 + j, none⟩ = some v0 := by
 unfold XB at hX; split at hX
 · subst hX; exact ⟨(h.drew hp).bx.cell rfl, (h.drew hp).rd.field hj⟩
 · split at hX
   · obtain ⟨z, a', _, _, _, hS⟩ := hX; exact ⟨hS.bx.cell rfl, hS.rd.field hj⟩
   · split at hX
     · obtain ⟨z, a', _, _, hS⟩ := hX; exact ⟨(hS.cells hj).1, (hS.cells hj).2.1⟩
     · obtain ⟨z, a', _, _, hS⟩ := hX; exact ⟨(hS.cells hj).1, (hS.cells hj).2.1⟩
def XC {α : Type} (K : Kd α) (E : TypeId) (w0 w : World) (p br : Nat) (s : ByteArray) (e l : Nat) (cs : List Value) (j : Nat) (v0 : Value) (ts : List K.R) (x : Nat) (vs : List Value) (T : TypeId) (N : Nat) (z : α) (a' : Nat) (k : Nat) (v : Value) (w' : World) : Prop :=
 if k = 0 then w' = w.drew else if k = 1 then PhS K E w0 p br s e l cs j v0 ts x vs T N z a' v w' else PhA K E w0 p br s e l cs j v0 ts x vs T z a' v w'
theorem XC.cells {α : Type} {K : Kd α} {E : TypeId} {w0 w w' : World} {p br : Nat} {s : ByteArray} {e l : Nat} {cs : List Value} {j : Nat} {v0 : Value} {ts : List K.R} {x : Nat} {vs : List Value} {T : TypeId} {N : Nat} {z : α} {a' : Nat} {k : Nat} {v : Value}
 (h : SecAt K E w0 w p br s (a' : Int) (e : Int) (l : Int) cs j v0 ts) (hp : p < br) (hx : Bk w x vs T) (hX : XC K E w0 w p br s e l cs j v0 ts x vs T N z a' k v w') (hj : j < 11) : w'.cell? ⟨br, 0, none⟩ = some (.pointer (some ⟨p, 0, none⟩)) ∧ w'.cell? ⟨p, 4 + j, none⟩ = some v0 ∧ Bk w' x vs T := by
 unfold XC at hX; split at hX
 · subst hX; exact (h.drew hp).cells2 (hx.below (Below.refl _ _).drew) hj
 · split at hX
   · exact hX.cells hj
   · exact hX.cells hj
end Go.Proofs.YtkbfjkbokifgkaaGreatDoor
