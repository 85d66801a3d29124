/- Lists of instructions, as they lie in memory. -/
import Derived.Test.YtkbfjkbokifgkaaGreatDoorRows
import Derived.WalkKit
import Derived.Below
import Derived.Lib.Hide
import Derived.WalkLawsBesides
namespace Go.Proofs.YtkbfjkbokifgkaaGreatDoor
open Go.RowKit
set_option linter.unusedVariables false
set_option linter.unusedSimpArgs false
theorem zh {P : Prop} (h : P) : Hid P := Lib.hid h
inductive Il where
 | nil
 | cons (op a b n : Int) (ls : List Int) (body els rest : Il)
def Il.len : Il → Nat
 | .nil => 0
 | .cons _ _ _ _ _ _ _ r => r.len + 1
def IntsIn (w : World) (ao : Option Addr) (l : List Int) : Prop :=
 l.length ≤ 9223372036854775807 ∧ (l = [] ∨ ∃ b o, ao = some ⟨b, o, none⟩ ∧ ∀ i x, l[i]? = some x → w.cell? ⟨b, o + i, none⟩ = some (.int .i64 x))
def IlAt (w : World) (b o : Nat) : Il → Prop
 | .nil => True
 | .cons op x y n ls body els rest =>
   (w.cell? ⟨b, o, none⟩ = some (.int .i64 op) ∧ w.cell? ⟨b, o + 1, none⟩ = some (.int .i64 x) ∧ w.cell? ⟨b, o + 2, none⟩ = some (.int .i64 y) ∧ w.cell? ⟨b, o + 3, none⟩ = some (.int .i64 n)) ∧
   (∃ ao c, w.cell? ⟨b, o + 4, none⟩ = some (.slice ao ls.length c) ∧ IntsIn w ao ls) ∧
   (∃ ao c, w.cell? ⟨b, o + 5, none⟩ = some (.slice ao body.len c) ∧ body.len ≤ 9223372036854775807 ∧ (body = .nil ∨ ∃ b2 o2, ao = some ⟨b2, o2, none⟩ ∧ IlAt w b2 o2 body)) ∧
   (∃ ao c, w.cell? ⟨b, o + 6, none⟩ = some (.slice ao els.len c) ∧ els.len ≤ 9223372036854775807 ∧ (els = .nil ∨ ∃ b2 o2, ao = some ⟨b2, o2, none⟩ ∧ IlAt w b2 o2 els)) ∧
   IlAt w b (o + 7) rest
def IlIn (w : World) (ao : Option Addr) (i : Nat) (l : Il) : Prop := l = .nil ∨ ∃ b o, ao = some ⟨b, o, none⟩ ∧ IlAt w b (o + i * 7) l
theorem IntsIn.keep {w w' : World} {ao : Option Addr} {l : List Int} (h : IntsIn w ao l) (f : ∀ a v, w.cell? a = some v → w'.cell? a = some v) : IntsIn w' ao l := by
 rcases h with ⟨hl, h | ⟨b, o, e, h⟩⟩
 · exact ⟨hl, .inl h⟩
 · exact ⟨hl, .inr ⟨b, o, e, fun i x hx => f _ _ (h i x hx)⟩⟩
theorem IlAt.keep {w w' : World} (f : ∀ a v, w.cell? a = some v → w'.cell? a = some v) : ∀ (l : Il) (b o : Nat), IlAt w b o l → IlAt w' b o l
 | .nil, _, _, _ => trivial
 | .cons op x y n ls body els rest, b, o, h => by
   obtain ⟨⟨h0, h1, h2, h3⟩, ⟨a4, k4, h4, i4⟩, ⟨a5, k5, h5, l5, i5⟩, ⟨a6, k6, h6, l6, i6⟩, hr⟩ := h; refine ⟨⟨f _ _ h0, f _ _ h1, f _ _ h2, f _ _ h3⟩, ⟨a4, k4, f _ _ h4, i4.keep f⟩, ⟨a5, k5, f _ _ h5, l5, ?_⟩, ⟨a6, k6, f _ _ h6, l6, ?_⟩, IlAt.keep f rest b (o + 7) hr⟩
   · rcases i5 with e | ⟨b2, o2, e, i5⟩
     · exact .inl e
     · exact .inr ⟨b2, o2, e, IlAt.keep f body b2 o2 i5⟩
   · rcases i6 with e | ⟨b2, o2, e, i6⟩
     · exact .inl e
     · exact .inr ⟨b2, o2, e, IlAt.keep f els b2 o2 i6⟩
theorem keep_below {w w' : World} (hb : Below w.heap.size w w') : ∀ a v, w.cell? a = some v → w'.cell? a = some v := fun a v h => by
 have hs := World.cell?_spot h; obtain ⟨b, o, s⟩ := a; cases hs; rw [hb.cell (World.block_lt_of_cell? _ _ h), h]
theorem IntsIn.below {w w' : World} {ao : Option Addr} {l : List Int} (h : IntsIn w ao l) (hb : Below w.heap.size w w') : IntsIn w' ao l := h.keep (keep_below hb)
theorem IlIn.below {w w' : World} {ao : Option Addr} {i : Nat} {l : Il} (h : IlIn w ao i l) (hb : Below w.heap.size w w') : IlIn w' ao i l := by
 rcases h with h | ⟨b, o, e, h⟩
 · exact .inl h
 · exact .inr ⟨b, o, e, IlAt.keep (keep_below hb) _ _ _ h⟩
structure HeadIn (w : World) (b o : Nat) (op x y n : Int) (ls : List Int) (body els : Il) (a4 : Option Addr) (k4 : Nat) (a5 : Option Addr) (k5 : Nat) (a6 : Option Addr) (k6 : Nat) : Prop where
 c0 : w.cell? ⟨b, o, none⟩ = some (.int .i64 op)
 c1 : w.cell? ⟨b, o + 1, none⟩ = some (.int .i64 x)
 c2 : w.cell? ⟨b, o + 2, none⟩ = some (.int .i64 y)
 c3 : w.cell? ⟨b, o + 3, none⟩ = some (.int .i64 n)
 c4 : w.cell? ⟨b, o + 4, none⟩ = some (.slice a4 ls.length k4)
 c5 : w.cell? ⟨b, o + 5, none⟩ = some (.slice a5 body.len k5)
 c6 : w.cell? ⟨b, o + 6, none⟩ = some (.slice a6 els.len k6)
 i4 : IntsIn w a4 ls
 l5 : body.len ≤ 9223372036854775807
 i5 : IlIn w a5 0 body
 l6 : els.len ≤ 9223372036854775807
 i6 : IlIn w a6 0 els
theorem IlIn.head {w : World} {ao : Option Addr} {i : Nat} {op x y n : Int} {ls : List Int} {body els rest : Il} (h : IlIn w ao i (.cons op x y n ls body els rest)) :
 ∃ b o a4 k4 a5 k5 a6 k6, ao = some ⟨b, o, none⟩ ∧ HeadIn w b (o + i * 7) op x y n ls body els a4 k4 a5 k5 a6 k6 ∧ IlIn w ao (i + 1) rest := by
 rcases h with h | ⟨b, o, e, h⟩
 · cases h
 · obtain ⟨⟨h0, h1, h2, h3⟩, ⟨a4, k4, h4, i4⟩, ⟨a5, k5, h5, l5, i5⟩, ⟨a6, k6, h6, l6, i6⟩, hr⟩ := h; refine ⟨b, o, a4, k4, a5, k5, a6, k6, e, ⟨h0, h1, h2, h3, h4, h5, h6, i4, l5, ?_, l6, ?_⟩, .inr ⟨b, o, e, ?_⟩⟩
   · simpa [IlIn] using i5
   · simpa [IlIn] using i6
   · have e7 : o + (i + 1) * 7 = o + i * 7 + 7 := (by omega)
     rw [e7]; exact hr
def Sub (C : Il → Prop) : Il → Prop
 | .nil => True
 | .cons _ _ _ _ _ body els rest => C body ∧ C els ∧ Sub C rest
theorem Il.all {C : Il → Prop} (step : ∀ l, Sub C l → C l) : ∀ l, Sub C l
 | .nil => trivial
 | .cons _ _ _ _ _ body els rest => ⟨step _ (Il.all step body), step _ (Il.all step els), Il.all step rest⟩
theorem Il.each {C : Il → Prop} (step : ∀ l, Sub C l → C l) (l : Il) : C l := step l (Il.all step l)
def fault (n : Int) : List PanicEntry := [{ v := .iface 129 (.agg #[.int .i64 n]), recovered := false }]
def endE (ok : Bool) (n : Int) : Ending := if ok = true then .returned (.tuple #[]) else .panicked (fault n)
end Go.Proofs.YtkbfjkbokifgkaaGreatDoor
namespace Go.Proofs.YtkbfjkbokifgkaaGreatDoor
open Go.RowKit
set_option linter.unusedVariables false
set_option linter.unusedSimpArgs false
theorem want_yes (n : Int) (w : World) : Calls Tryz.prog 161 #[.bool true, .int .i64 n] w fun e w' => e = .returned (.tuple #[]) ∧ w = w' := by go_enter Tryz.func161, Tryz.ntmps161; go_wp2; go_end0; exact ⟨rfl, rfl⟩
theorem want_no (n : Int) (w : World) : Calls Tryz.prog 161 #[.bool false, .int .i64 n] w fun e w' => e = .panicked (fault n) ∧ w = w' := by go_enter Tryz.func161, Tryz.ntmps161; go_wp2; exact ⟨rfl, rfl, rfl⟩
def cnt : Il → Int → Int
 | .nil, left => left
 | .cons _ _ _ _ _ body els rest, left =>
   let l2 := if 0 ≤ left - 1 then cnt body (left - 1) else left - 1
   let l3 := if 0 ≤ l2 then cnt els l2 else l2
   if l3 < 0 then -1 else cnt rest l3
theorem cnt_bd : ∀ (l : Il) (left : Int), 0 ≤ left → -1 ≤ cnt l left ∧ cnt l left ≤ left
 | .nil, left, h => by unfold cnt; omega
 | .cons _ _ _ _ _ body els rest, left, h => by
   unfold cnt
   have hb : -1 ≤ (if 0 ≤ left - 1 then cnt body (left - 1) else left - 1) ∧ (if 0 ≤ left - 1 then cnt body (left - 1) else left - 1) ≤ left - 1 := by
    split
    · rename_i h1; exact cnt_bd body _ h1
    · omega
   generalize (if 0 ≤ left - 1 then cnt body (left - 1) else left - 1) = l2 at *
   have he : -1 ≤ (if 0 ≤ l2 then cnt els l2 else l2) ∧ (if 0 ≤ l2 then cnt els l2 else l2) ≤ l2 := by
    split
    · rename_i h1; exact cnt_bd els _ h1
    · omega
   show -1 ≤ (if (if 0 ≤ l2 then cnt els l2 else l2) < 0 then -1 else cnt rest (if 0 ≤ l2 then cnt els l2 else l2)) ∧ (if (if 0 ≤ l2 then cnt els l2 else l2) < 0 then -1 else cnt rest (if 0 ≤ l2 then cnt els l2 else l2)) ≤ left
   generalize (if 0 ≤ l2 then cnt els l2 else l2) = l3 at *
   split
   · omega
   · have := cnt_bd rest l3 (by omega); omega
theorem endE_yes (n : Int) : endE true n = .returned (.tuple #[]) := rfl
theorem endE_no (n : Int) : endE false n = .panicked (fault n) := rfl
theorem IntsIn.cell {w : World} {ao : Option Addr} {l : List Int} {i : Nat} {x : Int} (h : IntsIn w ao l) (hx : l[i]? = some x) : ∃ b o, ao = some ⟨b, o, none⟩ ∧ w.cell? ⟨b, o + i, none⟩ = some (.int .i64 x) := by
 rcases h with ⟨_, rfl | ⟨b, o, e, h⟩⟩
 · simp at hx
 · exact ⟨b, o, e, h i x hx⟩
def idx1 (n : Int) : Bool := decide (0 ≤ n) && decide (n < 4294967296)
def typ1 (n : Int) : Bool := n == 127 || n == 126
theorem all_drop {f : Int → Bool} {l : List Int} {i : Nat} {x : Int} (hx : l[i]? = some x) (h : (l.take i).all f = true) : (f x = true → (l.take (i + 1)).all f = true) ∧ (f x = false → l.all f = false) := by
 have hi := (List.getElem?_eq_some_iff.1 hx).1; have he := (List.getElem?_eq_some_iff.1 hx).2; constructor
 · intro hf; rw [List.take_add_one, hx]; simp [h, hf]
 · intro hf; rw [List.all_eq_false]; exact ⟨x, by rw [← he]; exact List.getElem_mem hi, by simp [hf]⟩
def lab : Il → Bool
 | .nil => true
 | .cons _ _ _ _ ls body els rest => decide (ls.length ≤ 4096) && (lab body && (lab els && lab rest))
def flatR : Il → Int → Bool
 | .nil, _ => true
 | .cons _ _ _ _ _ body els rest, d => ((body.len == 0 || decide (d + 1 ≤ 64)) && flatR body (d + 1)) && (((els.len == 0 || decide (d + 1 ≤ 64)) && flatR els (d + 1)) && flatR rest d)
def flatB (l : Il) (d : Int) : Bool := (l.len == 0 || decide (d ≤ 64)) && flatR l d
end Go.Proofs.YtkbfjkbokifgkaaGreatDoor
namespace Go.Proofs.YtkbfjkbokifgkaaGreatDoor
open Go.RowKit
set_option linter.unusedVariables false
set_option linter.unusedSimpArgs false
structure One where
 op : Int
 x : Int
 y : Int
 n : Int
 ls : List Int
 body : Il
 els : Il
def One.il (q : One) : Il := .cons q.op q.x q.y q.n q.ls q.body q.els .nil
structure Md where
 types : List (List Int × List Int)
 imports : List (ByteArray × ByteArray × Int)
 funcs : List (Int × List Int × Il)
 tables : List (Int × Int × Bool)
 mems : List (Int × Int × Bool)
 globals : List (Int × Bool × One)
 exports : List (ByteArray × Int × Int)
 start : List Int
 elems : List (One × List Int)
 datas : List (One × ByteArray)
def RowsIn {α : Type} (F : World → Nat → Nat → α → Prop) (k : Nat) (w : World) (ao : Option Addr) (xs : List α) : Prop :=
 xs.length ≤ 9223372036854775807 ∧ (xs = [] ∨ ∃ b o, ao = some ⟨b, o, none⟩ ∧ ∀ i x, xs[i]? = some x → F w b (o + i * k) x)
def IntsCell (w : World) (b o : Nat) (l : List Int) : Prop := ∃ a c, w.cell? ⟨b, o, none⟩ = some (.slice a l.length c) ∧ IntsIn w a l
def IlCell (w : World) (b o : Nat) (l : Il) : Prop := ∃ a c, w.cell? ⟨b, o, none⟩ = some (.slice a l.len c) ∧ l.len ≤ 9223372036854775807 ∧ IlIn w a 0 l
def StrCell (w : World) (b o : Nat) (s : ByteArray) : Prop := w.cell? ⟨b, o, none⟩ = some (.string s) ∧ s.size ≤ 9223372036854775807
def IntCell (w : World) (b o : Nat) (n : Int) : Prop := w.cell? ⟨b, o, none⟩ = some (.int .i64 n)
def BoolCell (w : World) (b o : Nat) (c : Bool) : Prop := w.cell? ⟨b, o, none⟩ = some (.bool c)
def TypeAt (w : World) (b o : Nat) (t : List Int × List Int) : Prop := IntsCell w b o t.1 ∧ IntsCell w b (o + 1) t.2
def ImportAt (w : World) (b o : Nat) (t : ByteArray × ByteArray × Int) : Prop := StrCell w b o t.1 ∧ StrCell w b (o + 1) t.2.1 ∧ IntCell w b (o + 2) t.2.2
def FuncAt (w : World) (b o : Nat) (t : Int × List Int × Il) : Prop := IntCell w b o t.1 ∧ IntsCell w b (o + 1) t.2.1 ∧ IlCell w b (o + 2) t.2.2
def LimitsAt (w : World) (b o : Nat) (t : Int × Int × Bool) : Prop := IntCell w b o t.1 ∧ IntCell w b (o + 1) t.2.1 ∧ BoolCell w b (o + 2) t.2.2
def GlobalAt (w : World) (b o : Nat) (t : Int × Bool × One) : Prop := IntCell w b o t.1 ∧ BoolCell w b (o + 1) t.2.1 ∧ IlAt w b (o + 2) t.2.2.il
def ExportAt (w : World) (b o : Nat) (t : ByteArray × Int × Int) : Prop := StrCell w b o t.1 ∧ IntCell w b (o + 1) t.2.1 ∧ IntCell w b (o + 2) t.2.2
def ElemAt (w : World) (b o : Nat) (t : One × List Int) : Prop := IlAt w b o t.1.il ∧ IntsCell w b (o + 7) t.2
def DataAt (w : World) (b o : Nat) (t : One × ByteArray) : Prop := IlAt w b o t.1.il ∧ StrCell w b (o + 7) t.2
def Keeps (w w' : World) : Prop := ∀ a v, w.cell? a = some v → w'.cell? a = some v
theorem IntsCell.keep {w w' : World} (f : Keeps w w') {b o : Nat} {l : List Int} (h : IntsCell w b o l) : IntsCell w' b o l := by obtain ⟨a, c, h, hi⟩ := h; exact ⟨a, c, f _ _ h, hi.keep f⟩
theorem IlIn.keep {w w' : World} (f : Keeps w w') {ao : Option Addr} {i : Nat} {l : Il} (h : IlIn w ao i l) : IlIn w' ao i l := by
 rcases h with h | ⟨b, o, e, h⟩
 · exact .inl h
 · exact .inr ⟨b, o, e, IlAt.keep f _ _ _ h⟩
theorem IlCell.keep {w w' : World} (f : Keeps w w') {b o : Nat} {l : Il} (h : IlCell w b o l) : IlCell w' b o l := by obtain ⟨a, c, h, hl, hi⟩ := h; exact ⟨a, c, f _ _ h, hl, hi.keep f⟩
theorem StrCell.keep {w w' : World} (f : Keeps w w') {b o : Nat} {s : ByteArray} (h : StrCell w b o s) : StrCell w' b o s := ⟨f _ _ h.1, h.2⟩
theorem TypeAt.keep {w w' : World} (f : Keeps w w') {b o : Nat} {t : List Int × List Int} (h : TypeAt w b o t) : TypeAt w' b o t := ⟨h.1.keep f, h.2.keep f⟩
theorem ImportAt.keep {w w' : World} (f : Keeps w w') {b o : Nat} {t : ByteArray × ByteArray × Int} (h : ImportAt w b o t) : ImportAt w' b o t := ⟨h.1.keep f, h.2.1.keep f, f _ _ h.2.2⟩
theorem FuncAt.keep {w w' : World} (f : Keeps w w') {b o : Nat} {t : Int × List Int × Il} (h : FuncAt w b o t) : FuncAt w' b o t := ⟨f _ _ h.1, h.2.1.keep f, h.2.2.keep f⟩
theorem LimitsAt.keep {w w' : World} (f : Keeps w w') {b o : Nat} {t : Int × Int × Bool} (h : LimitsAt w b o t) : LimitsAt w' b o t := ⟨f _ _ h.1, f _ _ h.2.1, f _ _ h.2.2⟩
theorem GlobalAt.keep {w w' : World} (f : Keeps w w') {b o : Nat} {t : Int × Bool × One} (h : GlobalAt w b o t) : GlobalAt w' b o t := ⟨f _ _ h.1, f _ _ h.2.1, IlAt.keep f _ _ _ h.2.2⟩
theorem ExportAt.keep {w w' : World} (f : Keeps w w') {b o : Nat} {t : ByteArray × Int × Int} (h : ExportAt w b o t) : ExportAt w' b o t := ⟨h.1.keep f, f _ _ h.2.1, f _ _ h.2.2⟩
theorem ElemAt.keep {w w' : World} (f : Keeps w w') {b o : Nat} {t : One × List Int} (h : ElemAt w b o t) : ElemAt w' b o t := ⟨IlAt.keep f _ _ _ h.1, h.2.keep f⟩
theorem DataAt.keep {w w' : World} (f : Keeps w w') {b o : Nat} {t : One × ByteArray} (h : DataAt w b o t) : DataAt w' b o t := ⟨IlAt.keep f _ _ _ h.1, h.2.keep f⟩
theorem RowsIn.keep {α : Type} {F : World → Nat → Nat → α → Prop} {k : Nat} {w w' : World} {ao : Option Addr} {xs : List α} (hF : ∀ b o x, F w b o x → F w' b o x) (h : RowsIn F k w ao xs) : RowsIn F k w' ao xs := by
 rcases h with ⟨hl, h | ⟨b, o, e, h⟩⟩
 · exact ⟨hl, .inl h⟩
 · exact ⟨hl, .inr ⟨b, o, e, fun i x hx => hF _ _ _ (h i x hx)⟩⟩
theorem RowsIn.row {α : Type} {F : World → Nat → Nat → α → Prop} {k : Nat} {w : World} {ao : Option Addr} {xs : List α} {i : Nat} {x : α} (h : RowsIn F k w ao xs) (hx : xs[i]? = some x) : ∃ b o, ao = some ⟨b, o, none⟩ ∧ F w b (o + i * k) x := by
 rcases h with ⟨_, rfl | ⟨b, o, e, h⟩⟩
 · simp at hx
 · exact ⟨b, o, e, h i x hx⟩
theorem all_row {α : Type} {f : α → Bool} {l : List α} {i : Nat} {x : α} (hx : l[i]? = some x) (h : (l.take i).all f = true) : (f x = true → (l.take (i + 1)).all f = true) ∧ (f x = false → l.all f = false) := by
 have hi := (List.getElem?_eq_some_iff.1 hx).1; have he := (List.getElem?_eq_some_iff.1 hx).2; constructor
 · intro hf; rw [List.take_add_one, hx]; simp [h, hf]
 · intro hf; rw [List.all_eq_false]; exact ⟨x, by rw [← he]; exact List.getElem_mem hi, by simp [hf]⟩
structure MdAt (w : World) (m : Md) (a0 : Option Addr) (k0 : Nat) (a1 : Option Addr) (k1 : Nat) (a2 : Option Addr) (k2 : Nat) (a3 : Option Addr) (k3 : Nat) (a4 : Option Addr) (k4 : Nat) (a5 : Option Addr) (k5 : Nat)
 (a6 : Option Addr) (k6 : Nat) (a7 : Option Addr) (k7 : Nat) (a8 : Option Addr) (k8 : Nat) (a9 : Option Addr) (k9 : Nat) : Prop where
 types : RowsIn TypeAt 2 w a0 m.types
 imports : RowsIn ImportAt 3 w a1 m.imports
 funcs : RowsIn FuncAt 3 w a2 m.funcs
 tables : RowsIn LimitsAt 3 w a3 m.tables
 mems : RowsIn LimitsAt 3 w a4 m.mems
 globals : RowsIn GlobalAt 9 w a5 m.globals
 exports : RowsIn ExportAt 3 w a6 m.exports
 start : IntsIn w a7 m.start
 elems : RowsIn ElemAt 8 w a8 m.elems
 datas : RowsIn DataAt 8 w a9 m.datas
theorem MdAt.keep {w w' : World} (f : Keeps w w') {m : Md} {a0 : Option Addr} {k0 : Nat} {a1 : Option Addr} {k1 : Nat} {a2 : Option Addr} {k2 : Nat} {a3 : Option Addr} {k3 : Nat} {a4 : Option Addr} {k4 : Nat} {a5 : Option Addr} {k5 : Nat}
 {a6 : Option Addr} {k6 : Nat} {a7 : Option Addr} {k7 : Nat} {a8 : Option Addr} {k8 : Nat} {a9 : Option Addr} {k9 : Nat} (h : MdAt w m a0 k0 a1 k1 a2 k2 a3 k3 a4 k4 a5 k5 a6 k6 a7 k7 a8 k8 a9 k9) : MdAt w' m a0 k0 a1 k1 a2 k2 a3 k3 a4 k4 a5 k5 a6 k6 a7 k7 a8 k8 a9 k9 :=
 ⟨h.types.keep fun _ _ _ => .keep f, h.imports.keep fun _ _ _ => .keep f, h.funcs.keep fun _ _ _ => .keep f, h.tables.keep fun _ _ _ => .keep f, h.mems.keep fun _ _ _ => .keep f, h.globals.keep fun _ _ _ => .keep f, h.exports.keep fun _ _ _ => .keep f,
  h.start.keep f, h.elems.keep fun _ _ _ => .keep f, h.datas.keep fun _ _ _ => .keep f⟩
def mdV (m : Md) (a0 : Option Addr) (k0 : Nat) (a1 : Option Addr) (k1 : Nat) (a2 : Option Addr) (k2 : Nat) (a3 : Option Addr) (k3 : Nat) (a4 : Option Addr) (k4 : Nat) (a5 : Option Addr) (k5 : Nat)
 (a6 : Option Addr) (k6 : Nat) (a7 : Option Addr) (k7 : Nat) (a8 : Option Addr) (k8 : Nat) (a9 : Option Addr) (k9 : Nat) : Value :=
 .agg #[.slice a0 m.types.length k0, .slice a1 m.imports.length k1, .slice a2 m.funcs.length k2, .slice a3 m.tables.length k3, .slice a4 m.mems.length k4, .slice a5 m.globals.length k5, .slice a6 m.exports.length k6, .slice a7 m.start.length k7, .slice a8 m.elems.length k8, .slice a9 m.datas.length k9]
end Go.Proofs.YtkbfjkbokifgkaaGreatDoor
