/- Lists of instructions in given blocks; lists built by appending. (Turned from text Ca of the encode seat.) -/
import Derived.Test.YtkbfjkbokifgkaaGreatDoorRt
import Derived.Test.YtkbfjkbokifgkaaGreatDoorFa
import Derived.Deep.AppendLies
namespace Go.Proofs.YtkbfjkbokifgkaaGreatDoor
open Go.RowKit
set_option linter.unusedVariables false
set_option linter.unusedSimpArgs false
def IntsR (R : Nat → Prop) (w : World) (ao : Option Addr) (l : List Int) : Prop :=
 l.length ≤ 9223372036854775807 ∧ (l = [] ∨ ∃ b o, ao = some ⟨b, o, none⟩ ∧ R b ∧ ∀ i x, l[i]? = some x → w.cell? ⟨b, o + i, none⟩ = some (.int .i64 x))
def IlR (R : Nat → Prop) (w : World) (b o : Nat) : Il → Prop
 | .nil => True
 | .cons op x y n ls body els rest =>
   (w.cell? ⟨b, o, none⟩ = some (.int .i64 op) ∧ w.cell? ⟨b, o + 1, none⟩ = some (.int .i64 x) ∧ w.cell? ⟨b, o + 2, none⟩ = some (.int .i64 y) ∧ w.cell? ⟨b, o + 3, none⟩ = some (.int .i64 n)) ∧
   (∃ ao c, w.cell? ⟨b, o + 4, none⟩ = some (.slice ao ls.length c) ∧ IntsR R w ao ls) ∧
   (∃ ao c, w.cell? ⟨b, o + 5, none⟩ = some (.slice ao body.len c) ∧ body.len ≤ 9223372036854775807 ∧ (body = .nil ∨ ∃ b2 o2, ao = some ⟨b2, o2, none⟩ ∧ R b2 ∧ IlR R w b2 o2 body)) ∧
   (∃ ao c, w.cell? ⟨b, o + 6, none⟩ = some (.slice ao els.len c) ∧ els.len ≤ 9223372036854775807 ∧ (els = .nil ∨ ∃ b2 o2, ao = some ⟨b2, o2, none⟩ ∧ R b2 ∧ IlR R w b2 o2 els)) ∧
   IlR R w b (o + 7) rest
def SlR (R : Nat → Prop) (w : World) (ao : Option Addr) (l : Il) : Prop := l = .nil ∨ ∃ b o, ao = some ⟨b, o, none⟩ ∧ R b ∧ IlR R w b o l
theorem IntsR.ints {R : Nat → Prop} {w : World} {ao : Option Addr} {l : List Int} (h : IntsR R w ao l) : IntsIn w ao l := by
 rcases h with ⟨hl, h | ⟨b, o, e, _, h⟩⟩
 · exact ⟨hl, .inl h⟩
 · exact ⟨hl, .inr ⟨b, o, e, h⟩⟩
theorem IlR.at {R : Nat → Prop} {w : World} : ∀ (l : Il) (b o : Nat), IlR R w b o l → IlAt w b o l
 | .nil, _, _, _ => trivial
 | .cons op x y n ls body els rest, b, o, h => by
   obtain ⟨h0, ⟨a4, k4, h4, i4⟩, ⟨a5, k5, h5, l5, i5⟩, ⟨a6, k6, h6, l6, i6⟩, hr⟩ := h; refine ⟨h0, ⟨a4, k4, h4, i4.ints⟩, ⟨a5, k5, h5, l5, ?_⟩, ⟨a6, k6, h6, l6, ?_⟩, IlR.at rest b (o + 7) hr⟩
   · rcases i5 with e | ⟨b2, o2, e, _, i5⟩
     · exact .inl e
     · exact .inr ⟨b2, o2, e, IlR.at body b2 o2 i5⟩
   · rcases i6 with e | ⟨b2, o2, e, _, i6⟩
     · exact .inl e
     · exact .inr ⟨b2, o2, e, IlR.at els b2 o2 i6⟩
theorem SlR.il {R : Nat → Prop} {w : World} {ao : Option Addr} {l : Il} (h : SlR R w ao l) : IlIn w ao 0 l := by
 rcases h with h | ⟨b, o, e, _, h⟩
 · exact .inl h
 · exact .inr ⟨b, o, e, by simpa using IlR.at _ _ _ h⟩
def KeepsR (R S : Nat → Prop) (w w' : World) : Prop := (∀ a v, R a.block → w.cell? a = some v → w'.cell? a = some v) ∧ (∀ b, R b → b < w.heap.size → S b)
theorem IntsR.keep {R S : Nat → Prop} {w w' : World} {ao : Option Addr} {l : List Int} (f : KeepsR R S w w') (h : IntsR R w ao l) : IntsR S w' ao l := by
 rcases h with ⟨hl, h | ⟨b, o, e, hb, h⟩⟩
 · exact ⟨hl, .inl h⟩
 · refine ⟨hl, ?_⟩; cases l with
   | nil => exact .inl rfl
   | cons x r => have hlt := World.block_lt_of_cell? w _ (h 0 x rfl); exact .inr ⟨b, o, e, f.2 b hb hlt, fun i x hx => f.1 _ _ hb (h i x hx)⟩
theorem IlR.keep {R S : Nat → Prop} {w w' : World} (f : KeepsR R S w w') : ∀ (l : Il) (b o : Nat), R b → IlR R w b o l → IlR S w' b o l
 | .nil, _, _, _, _ => trivial
 | .cons op x y n ls body els rest, b, o, hb, h => by
   obtain ⟨⟨h0, h1, h2, h3⟩, ⟨a4, k4, h4, i4⟩, ⟨a5, k5, h5, l5, i5⟩, ⟨a6, k6, h6, l6, i6⟩, hr⟩ := h; refine ⟨⟨f.1 _ _ hb h0, f.1 _ _ hb h1, f.1 _ _ hb h2, f.1 _ _ hb h3⟩, ⟨a4, k4, f.1 _ _ hb h4, i4.keep f⟩, ⟨a5, k5, f.1 _ _ hb h5, l5, ?_⟩, ⟨a6, k6, f.1 _ _ hb h6, l6, ?_⟩, IlR.keep f rest b (o + 7) hb hr⟩
   · rcases i5 with e | ⟨b2, o2, e, hb2, i5⟩
     · exact .inl e
     · cases body with
       | nil => exact .inl rfl
       | cons q1 q2 q3 q4 q5 q6 q7 q8 => have hlt := World.block_lt_of_cell? w _ i5.1.1; exact .inr ⟨b2, o2, e, f.2 b2 hb2 hlt, IlR.keep f _ b2 o2 hb2 i5⟩
   · rcases i6 with e | ⟨b2, o2, e, hb2, i6⟩
     · exact .inl e
     · cases els with
       | nil => exact .inl rfl
       | cons q1 q2 q3 q4 q5 q6 q7 q8 => have hlt := World.block_lt_of_cell? w _ i6.1.1; exact .inr ⟨b2, o2, e, f.2 b2 hb2 hlt, IlR.keep f _ b2 o2 hb2 i6⟩
theorem SlR.keep {R S : Nat → Prop} {w w' : World} {ao : Option Addr} {l : Il} (f : KeepsR R S w w') (h : SlR R w ao l) : SlR S w' ao l := by
 rcases h with h | ⟨b, o, e, hb, h⟩
 · exact .inl h
 · cases l with
   | nil => exact .inl rfl
   | cons q1 q2 q3 q4 q5 q6 q7 q8 => have hlt := World.block_lt_of_cell? w _ h.1.1; exact .inr ⟨b, o, e, f.2 b hb hlt, IlR.keep f _ b o hb h⟩
theorem KeepsR.below {R : Nat → Prop} {w w' : World} (hb : Below w.heap.size w w') : KeepsR R R w w' := ⟨fun a v _ h => keep_below hb a v h, fun b h _ => h⟩
theorem KeepsR.grown {w w' : World} {B g g' : Nat} {row : Option Nat} (hrow : row = some g ∨ row = none) (hg : w.grownBy w' row) (hg' : row = some g' ∨ w.heap.size ≤ g') :
 KeepsR (fun b => B ≤ b ∧ some b ≠ row) (fun b => B ≤ b ∧ some b ≠ some g') w w' := by
 refine ⟨fun a v hr h => hg.cell h hr.2, fun b hr hl => ⟨hr.1, fun e => ?_⟩⟩
 rcases hg' with h | h
 · exact hr.2 (by rw [h, e])
 · have := Option.some.inj e; omega
structure ERec where
 op : Int
 x : Int
 y : Int
 n : Int
 ls : List Int
 body : Il
 els : Il
 a4 : Option Addr
 c4 : Nat
 a5 : Option Addr
 c5 : Nat
 a6 : Option Addr
 c6 : Nat
def eV (t : ERec) : List Value := [.int .i64 t.op, .int .i64 t.x, .int .i64 t.y, .int .i64 t.n, .slice t.a4 t.ls.length t.c4, .slice t.a5 t.body.len t.c5, .slice t.a6 t.els.len t.c6]
structure EOk (R : Nat → Prop) (w : World) (t : ERec) : Prop where
 i4 : IntsR R w t.a4 t.ls
 l5 : t.body.len ≤ 9223372036854775807
 i5 : SlR R w t.a5 t.body
 l6 : t.els.len ≤ 9223372036854775807
 i6 : SlR R w t.a6 t.els
theorem EOk.keep {R S : Nat → Prop} {w w' : World} {t : ERec} (f : KeepsR R S w w') (h : EOk R w t) : EOk S w' t := ⟨h.i4.keep f, h.l5, h.i5.keep f, h.l6, h.i6.keep f⟩
def ilOf : List ERec → Il → Il
 | [], r => r
 | t :: ts, r => .cons t.op t.x t.y t.n t.ls t.body t.els (ilOf ts r)
theorem ilOf_snoc (t : ERec) (r : Il) : ∀ ts, ilOf (ts ++ [t]) r = ilOf ts (.cons t.op t.x t.y t.n t.ls t.body t.els r)
 | [] => rfl
 | s :: ts => by
   show Il.cons _ _ _ _ _ _ _ (ilOf (ts ++ [t]) r) = _
   rw [ilOf_snoc t r ts]; rfl
theorem ilOf_len (r : Il) : ∀ ts, (ilOf ts r).len = ts.length + r.len
 | [] => by simp [ilOf]
 | s :: ts => by
   show (ilOf ts r).len + 1 = _
   rw [ilOf_len r ts, List.length_cons]; omega
theorem row_il {R : Nat → Prop} {w : World} {g : Nat} : ∀ (ts : List ERec) (o : Nat), (∀ j u, (ts.flatMap eV)[j]? = some u → w.cell? ⟨g, o + j, none⟩ = some u) → (∀ t ∈ ts, EOk R w t) → IlR R w g o (ilOf ts .nil)
 | [], _, _, _ => trivial
 | t :: ts, o, hc, hok => by
   have ht := hok t (List.mem_cons_self ..)
   have hc0 : ∀ j u, (eV t)[j]? = some u → w.cell? ⟨g, o + j, none⟩ = some u := fun j u hj => hc j u (by
    rw [List.flatMap_cons, List.getElem?_append_left (List.getElem?_eq_some_iff.1 hj).1]; exact hj)
   have hr := row_il ts (o + 7) (fun j u hj => by
    have := hc (7 + j) u (by
     rw [List.flatMap_cons, List.getElem?_append_right (by simp [eV])]; simpa [eV] using hj)
    have e : o + (7 + j) = o + 7 + j := (by omega)
    rw [e] at this; exact this) (fun s hs => hok s (List.mem_cons_of_mem _ hs))
   refine ⟨⟨hc0 0 _ rfl, hc0 1 _ rfl, hc0 2 _ rfl, hc0 3 _ rfl⟩, ⟨_, _, hc0 4 _ rfl, ht.i4⟩, ⟨_, _, hc0 5 _ rfl, ht.l5, ht.i5⟩, ⟨_, _, hc0 6 _ rfl, ht.l6, ht.i6⟩, hr⟩
theorem KeepsR.grown2 {w w' : World} {B g' : Nat} {row : Option Nat} (hg : w.grownBy w' row) (hg' : row = some g' ∨ w.heap.size ≤ g') :
 KeepsR (fun b => B ≤ b ∧ some b ≠ row) (fun b => B ≤ b ∧ some b ≠ some g') w w' := by
 refine ⟨fun a v hr h => hg.cell h hr.2, fun b hr hl => ⟨hr.1, fun e => ?_⟩⟩
 rcases hg' with h | h
 · exact hr.2 (by rw [h, e])
 · have := Option.some.inj e; omega
theorem Below.by_grown {w w' : World} (h : Below w.heap.size w w') (row : Option Nat) : w.grownBy w' row := ⟨h.os, h.tape, h.output, h.size, fun k hk _ => h.block k hk⟩
theorem own_below {w w' : World} {base : Nat} {e : TypeId} {size : Nat} {v : Value} {n : Nat} {xs : List Value} (h : w.ownsRow base e size v n xs) (hb : Below w.heap.size w w') : w'.ownsRow base e size v n xs :=
 h.kept (Below.by_grown hb none) (by cases v.ownBlock with | none => exact .inl rfl | some k => exact .inr (by simp))
end Go.Proofs.YtkbfjkbokifgkaaGreatDoor
