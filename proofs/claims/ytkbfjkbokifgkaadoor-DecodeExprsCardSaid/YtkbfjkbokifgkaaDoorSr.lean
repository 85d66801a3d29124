/- The steps of a section's append. -/
import Derived.Test.YtkbfjkbokifgkaaDoorSq
namespace Go.Proofs.YtkbfjkbokifgkaaDoor
open Go.RowKit
set_option linter.unusedVariables false
set_option linter.unusedSimpArgs false

/-- The new row lies in a block of its own. -/
def PhS {α : Type} (K : Kd α) (E : TypeId) (w0 : World) (p br : Nat) (s : ByteArray) (e l : Nat) (cs : List Value) (j : Nat) (v0 : Value) (ts : List K.R) (x : Nat) (vs : List Value) (T : TypeId) (N : Nat) (z : α) (a' : Nat) (v : Value) (w' : World) : Prop :=
  ∃ b t, v = .slice (some ⟨b, 0, none⟩) 1 1 ∧ w'.heap[b]? = some (.cells (K.enc t).toArray E (0, 0)) ∧ K.of t = z ∧ K.ok (fun b => N ≤ b) w' t ∧ SecAt K E w0 w' p br s (a' : Int) (e : Int) (l : Int) cs j v0 ts ∧ Bk w' x vs T
/-- The row is appended. -/
def PhA {α : Type} (K : Kd α) (E : TypeId) (w0 : World) (p br : Nat) (s : ByteArray) (e l : Nat) (cs : List Value) (j : Nat) (v0 : Value) (ts : List K.R) (x : Nat) (vs : List Value) (T : TypeId) (z : α) (a' : Nat) (v : Value) (w' : World) : Prop :=
  ∃ g cap t, v = .slice (some ⟨g, 0, none⟩) (ts.length + 1) cap ∧ K.of t = z ∧ SecGo K E w0 w' p br s (a' : Int) (e : Int) (l : Int) cs j v0 v (ts ++ [t]) ∧ Bk w' x vs T
section
variable {α : Type} {K : Kd α} {E : TypeId} {w0 w : World} {p br : Nat} {s : ByteArray} {e l : Nat} {cs : List Value} {j : Nat} {v0 : Value} {ts : List K.R} {x : Nat} {vs : List Value} {T : TypeId} {N : Nat} {z : α} {a' : Nat}
theorem PhS.of (h : SecAt K E w0 w p br s (a' : Int) (e : Int) (l : Int) cs j v0 ts) (hp : p < br) (hx : Bk w x vs T) (t : K.R) (hz : K.of t = z) (ht : K.ok (fun b => N ≤ b) w t) : PhS K E w0 p br s e l cs j v0 ts x vs T N z a' (.slice (some ⟨w.heap.size, 0, none⟩) 1 1) (w.alloc (.cells (K.enc t).toArray E)) :=
  ⟨w.heap.size, t, rfl, heap_alloc_new _ _, hz, K.keep (KeepsR.below ((Below.refl _ _).alloc (Nat.le_refl _) _)) ht, h.below hp ((Below.refl _ _).alloc (Nat.le_refl _) _), hx.below ((Below.refl _ _).alloc (Nat.le_refl _) _)⟩
theorem PhA.of {w5 : World} {t : K.R} {g cap : Nat} (h : SecAt K E w0 w p br s (a' : Int) (e : Int) (l : Int) cs j v0 ts) (hp : p < br) (hw0 : w0.heap.size ≤ br) (hx : Bk w x vs T) (hxv : ∀ g, v0.ownBlock = some g → x ≠ g) (hz : K.of t = z) (ht : K.ok (fun b => N ≤ b) w t) (hN : ∀ g, v0.ownBlock = some g → g < N) (hbN : br + 1 ≤ N)
    (hown : w5.ownsRow (br + 1) E K.sz (.slice (some ⟨g, 0, none⟩) (ts.length + 1) cap) (ts.length + 1) (ts.flatMap K.enc ++ K.enc t)) (hgrow : w.grownBy w5 v0.ownBlock) (hat : v0.ownBlock = some g ∨ g = w.heap.size) :
    PhA K E w0 p br s e l cs j v0 ts x vs T z a' (.slice (some ⟨g, 0, none⟩) (ts.length + 1) cap) w5 :=
  ⟨g, cap, t, rfl, hz, h.append hp hw0 ht hN hbN hown hgrow hat, hx.grown hgrow (fun e => hxv x e.symm rfl)⟩
/-- The cells that the region reads, at whatever step. -/
theorem PhS.cells {v : Value} (h : PhS K E w0 p br s e l cs j v0 ts x vs T N z a' v w) (hj : j < 11) : w.cell? ⟨br, 0, none⟩ = some (.pointer (some ⟨p, 0, none⟩)) ∧ w.cell? ⟨p, 4 + j, none⟩ = some v0 ∧ Bk w x vs T := by
  obtain ⟨b, t, _, _, _, _, hS, hx⟩ := h
  exact ⟨hS.bx.cell rfl, hS.rd.field hj, hx⟩
theorem PhA.cells {v : Value} (h : PhA K E w0 p br s e l cs j v0 ts x vs T z a' v w) (hj : j < 11) : w.cell? ⟨br, 0, none⟩ = some (.pointer (some ⟨p, 0, none⟩)) ∧ w.cell? ⟨p, 4 + j, none⟩ = some v0 ∧ Bk w x vs T := by
  obtain ⟨g, cap, t, _, _, hS, hx⟩ := h
  exact ⟨hS.bx.cell rfl, hS.rd.field hj, hx⟩
theorem SecAt.cells2 {a : Int} (h : SecAt K E w0 w p br s a (e : Int) (l : Int) cs j v0 ts) (hx : Bk w x vs T) (hj : j < 11) : w.cell? ⟨br, 0, none⟩ = some (.pointer (some ⟨p, 0, none⟩)) ∧ w.cell? ⟨p, 4 + j, none⟩ = some v0 ∧ Bk w x vs T := ⟨h.bx.cell rfl, h.rd.field hj, hx⟩
end
/-- What a region that calls, lays, appends and stores has done. -/
def XB {α : Type} (K : Kd α) (E : TypeId) (w0 w : World) (p br : Nat) (s : ByteArray) (e l : Nat) (cs : List Value) (j : Nat) (v0 : Value) (ts : List K.R) (N : Nat) (G : Got α) (val : List (α → Value)) (k : Nat) (v : Value) (w' : World) : Prop :=
  if k = 0 then w' = w.drew
  else match val[k - 1]? with
    | some f => ∃ z a', G = .ok (z, a') ∧ a' ≤ e ∧ v = f z ∧ SecAt K E w0 w' p br s (a' : Int) (e : Int) (l : Int) cs j v0 ts
    | none => if k = val.length + 1 then ∃ z a', G = .ok (z, a') ∧ a' ≤ e ∧ PhS K E w0 p br s e l cs j v0 ts br [.pointer (some ⟨p, 0, none⟩)] 53 N z a' v w'
      else ∃ z a', G = .ok (z, a') ∧ a' ≤ e ∧ PhA K E w0 p br s e l cs j v0 ts br [.pointer (some ⟨p, 0, none⟩)] 53 z a' v w'
theorem XB.cells {α : Type} {K : Kd α} {E : TypeId} {w0 w w' : World} {p br : Nat} {s : ByteArray} {a : Int} {e l : Nat} {cs : List Value} {j : Nat} {v0 : Value} {ts : List K.R} {N : Nat} {G : Got α} {val : List (α → Value)} {k : Nat} {v : Value}
    (h : SecAt K E w0 w p br s a (e : Int) (l : Int) cs j v0 ts) (hp : p < br) (hX : XB K E w0 w p br s e l cs j v0 ts N G val k v w') (hj : j < 11) : w'.cell? ⟨br, 0, none⟩ = some (.pointer (some ⟨p, 0, none⟩)) ∧ w'.cell? ⟨p, 4 + j, none⟩ = some v0 := by
  unfold XB at hX
  split at hX
  · subst hX
    exact ⟨(h.drew hp).bx.cell rfl, (h.drew hp).rd.field hj⟩
  · split at hX
    · obtain ⟨z, a', _, _, _, hS⟩ := hX
      exact ⟨hS.bx.cell rfl, hS.rd.field hj⟩
    · split at hX
      · obtain ⟨z, a', _, _, hS⟩ := hX
        exact ⟨(hS.cells hj).1, (hS.cells hj).2.1⟩
      · obtain ⟨z, a', _, _, hS⟩ := hX
        exact ⟨(hS.cells hj).1, (hS.cells hj).2.1⟩
/-- What a region that lays, appends and stores has done. -/
def XC {α : Type} (K : Kd α) (E : TypeId) (w0 w : World) (p br : Nat) (s : ByteArray) (e l : Nat) (cs : List Value) (j : Nat) (v0 : Value) (ts : List K.R) (x : Nat) (vs : List Value) (T : TypeId) (N : Nat) (z : α) (a' : Nat) (k : Nat) (v : Value) (w' : World) : Prop :=
  if k = 0 then w' = w.drew else if k = 1 then PhS K E w0 p br s e l cs j v0 ts x vs T N z a' v w' else PhA K E w0 p br s e l cs j v0 ts x vs T z a' v w'
theorem XC.cells {α : Type} {K : Kd α} {E : TypeId} {w0 w w' : World} {p br : Nat} {s : ByteArray} {e l : Nat} {cs : List Value} {j : Nat} {v0 : Value} {ts : List K.R} {x : Nat} {vs : List Value} {T : TypeId} {N : Nat} {z : α} {a' : Nat} {k : Nat} {v : Value}
    (h : SecAt K E w0 w p br s (a' : Int) (e : Int) (l : Int) cs j v0 ts) (hp : p < br) (hx : Bk w x vs T) (hX : XC K E w0 w p br s e l cs j v0 ts x vs T N z a' k v w') (hj : j < 11) : w'.cell? ⟨br, 0, none⟩ = some (.pointer (some ⟨p, 0, none⟩)) ∧ w'.cell? ⟨p, 4 + j, none⟩ = some v0 ∧ Bk w' x vs T := by
  unfold XC at hX
  split at hX
  · subst hX
    exact (h.drew hp).cells2 (hx.below (Below.refl _ _).drew) hj
  · split at hX
    · exact hX.cells hj
    · exact hX.cells hj
end Go.Proofs.YtkbfjkbokifgkaaDoor
