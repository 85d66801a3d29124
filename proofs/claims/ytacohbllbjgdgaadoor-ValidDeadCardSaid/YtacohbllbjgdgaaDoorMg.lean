/- Modules, as they lie in memory. -/
import Derived.Test.YtacohbllbjgdgaaDoorMe
namespace Go.Proofs.YtacohbllbjgdgaaDoor
open Go.RowKit
set_option linter.unusedVariables false

/-- One instruction. -/
structure One where
  op : Int
  x : Int
  y : Int
  n : Int
  ls : List Int
  body : Il
  els : Il
def One.il (q : One) : Il := .cons q.op q.x q.y q.n q.ls q.body q.els .nil

/-- A module. -/
structure Md where
  types : List (List Int × List Int)
  imports : List (ByteArray × ByteArray × Int)
  funcs : List (Int × List Int × Il)
  tables : List (Int × Int × Bool)
  mems : List (Int × Int × Bool)
  globals : List (Int × Bool × One)
  exports : List (ByteArray × Int × Int)
  start : List Int
  elems : List (One × List Int)
  datas : List (One × ByteArray)

/-- Rows of k cells each, one behind the other. -/
def RowsIn {α : Type} (F : World → Nat → Nat → α → Prop) (k : Nat) (w : World) (ao : Option Addr) (xs : List α) : Prop :=
  xs.length ≤ 9223372036854775807 ∧ (xs = [] ∨ ∃ b o, ao = some ⟨b, o, none⟩ ∧ ∀ i x, xs[i]? = some x → F w b (o + i * k) x)

def IntsCell (w : World) (b o : Nat) (l : List Int) : Prop := ∃ a c, w.cell? ⟨b, o, none⟩ = some (.slice a l.length c) ∧ IntsIn w a l
def IlCell (w : World) (b o : Nat) (l : Il) : Prop := ∃ a c, w.cell? ⟨b, o, none⟩ = some (.slice a l.len c) ∧ l.len ≤ 9223372036854775807 ∧ IlIn w a 0 l
def StrCell (w : World) (b o : Nat) (s : ByteArray) : Prop := w.cell? ⟨b, o, none⟩ = some (.string s) ∧ s.size ≤ 9223372036854775807
def IntCell (w : World) (b o : Nat) (n : Int) : Prop := w.cell? ⟨b, o, none⟩ = some (.int .i64 n)
def BoolCell (w : World) (b o : Nat) (c : Bool) : Prop := w.cell? ⟨b, o, none⟩ = some (.bool c)

def TypeAt (w : World) (b o : Nat) (t : List Int × List Int) : Prop := IntsCell w b o t.1 ∧ IntsCell w b (o + 1) t.2
def ImportAt (w : World) (b o : Nat) (t : ByteArray × ByteArray × Int) : Prop := StrCell w b o t.1 ∧ StrCell w b (o + 1) t.2.1 ∧ IntCell w b (o + 2) t.2.2
def FuncAt (w : World) (b o : Nat) (t : Int × List Int × Il) : Prop := IntCell w b o t.1 ∧ IntsCell w b (o + 1) t.2.1 ∧ IlCell w b (o + 2) t.2.2
def LimitsAt (w : World) (b o : Nat) (t : Int × Int × Bool) : Prop := IntCell w b o t.1 ∧ IntCell w b (o + 1) t.2.1 ∧ BoolCell w b (o + 2) t.2.2
def GlobalAt (w : World) (b o : Nat) (t : Int × Bool × One) : Prop := IntCell w b o t.1 ∧ BoolCell w b (o + 1) t.2.1 ∧ IlAt w b (o + 2) t.2.2.il
def ExportAt (w : World) (b o : Nat) (t : ByteArray × Int × Int) : Prop := StrCell w b o t.1 ∧ IntCell w b (o + 1) t.2.1 ∧ IntCell w b (o + 2) t.2.2
def ElemAt (w : World) (b o : Nat) (t : One × List Int) : Prop := IlAt w b o t.1.il ∧ IntsCell w b (o + 7) t.2
def DataAt (w : World) (b o : Nat) (t : One × ByteArray) : Prop := IlAt w b o t.1.il ∧ StrCell w b (o + 7) t.2

def Keeps (w w' : World) : Prop := ∀ a v, w.cell? a = some v → w'.cell? a = some v
theorem IntsCell.keep {w w' : World} (f : Keeps w w') {b o : Nat} {l : List Int} (h : IntsCell w b o l) : IntsCell w' b o l := by
  obtain ⟨a, c, h, hi⟩ := h
  exact ⟨a, c, f _ _ h, hi.keep f⟩
theorem IlIn.keep {w w' : World} (f : Keeps w w') {ao : Option Addr} {i : Nat} {l : Il} (h : IlIn w ao i l) : IlIn w' ao i l := by
  rcases h with h | ⟨b, o, e, h⟩
  · exact .inl h
  · exact .inr ⟨b, o, e, IlAt.keep f _ _ _ h⟩
theorem IlCell.keep {w w' : World} (f : Keeps w w') {b o : Nat} {l : Il} (h : IlCell w b o l) : IlCell w' b o l := by
  obtain ⟨a, c, h, hl, hi⟩ := h
  exact ⟨a, c, f _ _ h, hl, hi.keep f⟩
theorem StrCell.keep {w w' : World} (f : Keeps w w') {b o : Nat} {s : ByteArray} (h : StrCell w b o s) : StrCell w' b o s := ⟨f _ _ h.1, h.2⟩
theorem TypeAt.keep {w w' : World} (f : Keeps w w') {b o : Nat} {t : List Int × List Int} (h : TypeAt w b o t) : TypeAt w' b o t := ⟨h.1.keep f, h.2.keep f⟩
theorem ImportAt.keep {w w' : World} (f : Keeps w w') {b o : Nat} {t : ByteArray × ByteArray × Int} (h : ImportAt w b o t) : ImportAt w' b o t := ⟨h.1.keep f, h.2.1.keep f, f _ _ h.2.2⟩
theorem FuncAt.keep {w w' : World} (f : Keeps w w') {b o : Nat} {t : Int × List Int × Il} (h : FuncAt w b o t) : FuncAt w' b o t := ⟨f _ _ h.1, h.2.1.keep f, h.2.2.keep f⟩
theorem LimitsAt.keep {w w' : World} (f : Keeps w w') {b o : Nat} {t : Int × Int × Bool} (h : LimitsAt w b o t) : LimitsAt w' b o t := ⟨f _ _ h.1, f _ _ h.2.1, f _ _ h.2.2⟩
theorem GlobalAt.keep {w w' : World} (f : Keeps w w') {b o : Nat} {t : Int × Bool × One} (h : GlobalAt w b o t) : GlobalAt w' b o t := ⟨f _ _ h.1, f _ _ h.2.1, IlAt.keep f _ _ _ h.2.2⟩
theorem ExportAt.keep {w w' : World} (f : Keeps w w') {b o : Nat} {t : ByteArray × Int × Int} (h : ExportAt w b o t) : ExportAt w' b o t := ⟨h.1.keep f, f _ _ h.2.1, f _ _ h.2.2⟩
theorem ElemAt.keep {w w' : World} (f : Keeps w w') {b o : Nat} {t : One × List Int} (h : ElemAt w b o t) : ElemAt w' b o t := ⟨IlAt.keep f _ _ _ h.1, h.2.keep f⟩
theorem DataAt.keep {w w' : World} (f : Keeps w w') {b o : Nat} {t : One × ByteArray} (h : DataAt w b o t) : DataAt w' b o t := ⟨IlAt.keep f _ _ _ h.1, h.2.keep f⟩
theorem RowsIn.keep {α : Type} {F : World → Nat → Nat → α → Prop} {k : Nat} {w w' : World} {ao : Option Addr} {xs : List α} (hF : ∀ b o x, F w b o x → F w' b o x) (h : RowsIn F k w ao xs) : RowsIn F k w' ao xs := by
  rcases h with ⟨hl, h | ⟨b, o, e, h⟩⟩
  · exact ⟨hl, .inl h⟩
  · exact ⟨hl, .inr ⟨b, o, e, fun i x hx => hF _ _ _ (h i x hx)⟩⟩
theorem RowsIn.row {α : Type} {F : World → Nat → Nat → α → Prop} {k : Nat} {w : World} {ao : Option Addr} {xs : List α} {i : Nat} {x : α} (h : RowsIn F k w ao xs) (hx : xs[i]? = some x) : ∃ b o, ao = some ⟨b, o, none⟩ ∧ F w b (o + i * k) x := by
  rcases h with ⟨_, rfl | ⟨b, o, e, h⟩⟩
  · simp at hx
  · exact ⟨b, o, e, h i x hx⟩
theorem all_row {α : Type} {f : α → Bool} {l : List α} {i : Nat} {x : α} (hx : l[i]? = some x) (h : (l.take i).all f = true) : (f x = true → (l.take (i + 1)).all f = true) ∧ (f x = false → l.all f = false) := by
  have hi := (List.getElem?_eq_some_iff.1 hx).1
  have he := (List.getElem?_eq_some_iff.1 hx).2
  constructor
  · intro hf
    rw [List.take_add_one, hx]
    simp [h, hf]
  · intro hf
    rw [List.all_eq_false]
    exact ⟨x, by rw [← he]; exact List.getElem_mem hi, by simp [hf]⟩

/-- A module's ten slices, as one value. -/
structure MdAt (w : World) (m : Md) (a0 : Option Addr) (k0 : Nat) (a1 : Option Addr) (k1 : Nat) (a2 : Option Addr) (k2 : Nat) (a3 : Option Addr) (k3 : Nat) (a4 : Option Addr) (k4 : Nat) (a5 : Option Addr) (k5 : Nat)
    (a6 : Option Addr) (k6 : Nat) (a7 : Option Addr) (k7 : Nat) (a8 : Option Addr) (k8 : Nat) (a9 : Option Addr) (k9 : Nat) : Prop where
  types : RowsIn TypeAt 2 w a0 m.types
  imports : RowsIn ImportAt 3 w a1 m.imports
  funcs : RowsIn FuncAt 3 w a2 m.funcs
  tables : RowsIn LimitsAt 3 w a3 m.tables
  mems : RowsIn LimitsAt 3 w a4 m.mems
  globals : RowsIn GlobalAt 9 w a5 m.globals
  exports : RowsIn ExportAt 3 w a6 m.exports
  start : IntsIn w a7 m.start
  elems : RowsIn ElemAt 8 w a8 m.elems
  datas : RowsIn DataAt 8 w a9 m.datas
theorem MdAt.keep {w w' : World} (f : Keeps w w') {m : Md} {a0 : Option Addr} {k0 : Nat} {a1 : Option Addr} {k1 : Nat} {a2 : Option Addr} {k2 : Nat} {a3 : Option Addr} {k3 : Nat} {a4 : Option Addr} {k4 : Nat} {a5 : Option Addr} {k5 : Nat}
    {a6 : Option Addr} {k6 : Nat} {a7 : Option Addr} {k7 : Nat} {a8 : Option Addr} {k8 : Nat} {a9 : Option Addr} {k9 : Nat} (h : MdAt w m a0 k0 a1 k1 a2 k2 a3 k3 a4 k4 a5 k5 a6 k6 a7 k7 a8 k8 a9 k9) : MdAt w' m a0 k0 a1 k1 a2 k2 a3 k3 a4 k4 a5 k5 a6 k6 a7 k7 a8 k8 a9 k9 :=
  ⟨h.types.keep fun _ _ _ => .keep f, h.imports.keep fun _ _ _ => .keep f, h.funcs.keep fun _ _ _ => .keep f, h.tables.keep fun _ _ _ => .keep f, h.mems.keep fun _ _ _ => .keep f, h.globals.keep fun _ _ _ => .keep f, h.exports.keep fun _ _ _ => .keep f,
    h.start.keep f, h.elems.keep fun _ _ _ => .keep f, h.datas.keep fun _ _ _ => .keep f⟩
/-- The module's value. -/
def mdV (m : Md) (a0 : Option Addr) (k0 : Nat) (a1 : Option Addr) (k1 : Nat) (a2 : Option Addr) (k2 : Nat) (a3 : Option Addr) (k3 : Nat) (a4 : Option Addr) (k4 : Nat) (a5 : Option Addr) (k5 : Nat)
    (a6 : Option Addr) (k6 : Nat) (a7 : Option Addr) (k7 : Nat) (a8 : Option Addr) (k8 : Nat) (a9 : Option Addr) (k9 : Nat) : Value :=
  .agg #[.slice a0 m.types.length k0, .slice a1 m.imports.length k1, .slice a2 m.funcs.length k2, .slice a3 m.tables.length k3, .slice a4 m.mems.length k4, .slice a5 m.globals.length k5, .slice a6 m.exports.length k6, .slice a7 m.start.length k7, .slice a8 m.elems.length k8, .slice a9 m.datas.length k9]
end Go.Proofs.YtacohbllbjgdgaaDoor
