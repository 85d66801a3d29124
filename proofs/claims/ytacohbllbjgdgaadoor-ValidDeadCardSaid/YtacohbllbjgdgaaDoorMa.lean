/- Lists of instructions, as they lie in memory. -/
import Derived.Test.YtacohbllbjgdgaaDoorRows
import Derived.WalkKit
import Derived.Below
import Derived.Lib.Hide
import Derived.WalkLawsBesides
namespace Go.Proofs.YtacohbllbjgdgaaDoor
open Go.RowKit
set_option linter.unusedVariables false

/-- Instructions one behind the other: each has its byte, three numbers, labels, a body and another one. -/
inductive Il where
  | nil
  | cons (op a b n : Int) (ls : List Int) (body els rest : Il)

def Il.len : Il → Nat
  | .nil => 0
  | .cons _ _ _ _ _ _ _ r => r.len + 1

/-- Numbers one behind the other. -/
def IntsIn (w : World) (ao : Option Addr) (l : List Int) : Prop :=
  l.length ≤ 9223372036854775807 ∧ (l = [] ∨ ∃ b o, ao = some ⟨b, o, none⟩ ∧ ∀ i x, l[i]? = some x → w.cell? ⟨b, o + i, none⟩ = some (.int .i64 x))

def IlAt (w : World) (b o : Nat) : Il → Prop
  | .nil => True
  | .cons op x y n ls body els rest =>
    (w.cell? ⟨b, o, none⟩ = some (.int .i64 op) ∧ w.cell? ⟨b, o + 1, none⟩ = some (.int .i64 x) ∧ w.cell? ⟨b, o + 2, none⟩ = some (.int .i64 y) ∧ w.cell? ⟨b, o + 3, none⟩ = some (.int .i64 n)) ∧
    (∃ ao c, w.cell? ⟨b, o + 4, none⟩ = some (.slice ao ls.length c) ∧ IntsIn w ao ls) ∧
    (∃ ao c, w.cell? ⟨b, o + 5, none⟩ = some (.slice ao body.len c) ∧ body.len ≤ 9223372036854775807 ∧ (body = .nil ∨ ∃ b2 o2, ao = some ⟨b2, o2, none⟩ ∧ IlAt w b2 o2 body)) ∧
    (∃ ao c, w.cell? ⟨b, o + 6, none⟩ = some (.slice ao els.len c) ∧ els.len ≤ 9223372036854775807 ∧ (els = .nil ∨ ∃ b2 o2, ao = some ⟨b2, o2, none⟩ ∧ IlAt w b2 o2 els)) ∧
    IlAt w b (o + 7) rest

/-- What is left of a slice of instructions, from a place on. -/
def IlIn (w : World) (ao : Option Addr) (i : Nat) (l : Il) : Prop := l = .nil ∨ ∃ b o, ao = some ⟨b, o, none⟩ ∧ IlAt w b (o + i * 7) l

theorem IntsIn.keep {w w' : World} {ao : Option Addr} {l : List Int} (h : IntsIn w ao l) (f : ∀ a v, w.cell? a = some v → w'.cell? a = some v) : IntsIn w' ao l := by
  rcases h with ⟨hl, h | ⟨b, o, e, h⟩⟩
  · exact ⟨hl, .inl h⟩
  · exact ⟨hl, .inr ⟨b, o, e, fun i x hx => f _ _ (h i x hx)⟩⟩
theorem IlAt.keep {w w' : World} (f : ∀ a v, w.cell? a = some v → w'.cell? a = some v) : ∀ (l : Il) (b o : Nat), IlAt w b o l → IlAt w' b o l
  | .nil, _, _, _ => trivial
  | .cons op x y n ls body els rest, b, o, h => by
    obtain ⟨⟨h0, h1, h2, h3⟩, ⟨a4, k4, h4, i4⟩, ⟨a5, k5, h5, l5, i5⟩, ⟨a6, k6, h6, l6, i6⟩, hr⟩ := h
    refine ⟨⟨f _ _ h0, f _ _ h1, f _ _ h2, f _ _ h3⟩, ⟨a4, k4, f _ _ h4, i4.keep f⟩, ⟨a5, k5, f _ _ h5, l5, ?_⟩, ⟨a6, k6, f _ _ h6, l6, ?_⟩, IlAt.keep f rest b (o + 7) hr⟩
    · rcases i5 with e | ⟨b2, o2, e, i5⟩
      · exact .inl e
      · exact .inr ⟨b2, o2, e, IlAt.keep f body b2 o2 i5⟩
    · rcases i6 with e | ⟨b2, o2, e, i6⟩
      · exact .inl e
      · exact .inr ⟨b2, o2, e, IlAt.keep f els b2 o2 i6⟩
theorem keep_below {w w' : World} (hb : Below w.heap.size w w') : ∀ a v, w.cell? a = some v → w'.cell? a = some v := fun a v h => by
  have hs := World.cell?_spot h
  obtain ⟨b, o, s⟩ := a
  cases hs
  rw [hb.cell (World.block_lt_of_cell? _ _ h), h]
theorem IntsIn.below {w w' : World} {ao : Option Addr} {l : List Int} (h : IntsIn w ao l) (hb : Below w.heap.size w w') : IntsIn w' ao l := h.keep (keep_below hb)
theorem IlIn.below {w w' : World} {ao : Option Addr} {i : Nat} {l : Il} (h : IlIn w ao i l) (hb : Below w.heap.size w w') : IlIn w' ao i l := by
  rcases h with h | ⟨b, o, e, h⟩
  · exact .inl h
  · exact .inr ⟨b, o, e, IlAt.keep (keep_below hb) _ _ _ h⟩

/-- The first of what is left. -/
structure HeadIn (w : World) (b o : Nat) (op x y n : Int) (ls : List Int) (body els : Il) (a4 : Option Addr) (k4 : Nat) (a5 : Option Addr) (k5 : Nat) (a6 : Option Addr) (k6 : Nat) : Prop where
  c0 : w.cell? ⟨b, o, none⟩ = some (.int .i64 op)
  c1 : w.cell? ⟨b, o + 1, none⟩ = some (.int .i64 x)
  c2 : w.cell? ⟨b, o + 2, none⟩ = some (.int .i64 y)
  c3 : w.cell? ⟨b, o + 3, none⟩ = some (.int .i64 n)
  c4 : w.cell? ⟨b, o + 4, none⟩ = some (.slice a4 ls.length k4)
  c5 : w.cell? ⟨b, o + 5, none⟩ = some (.slice a5 body.len k5)
  c6 : w.cell? ⟨b, o + 6, none⟩ = some (.slice a6 els.len k6)
  i4 : IntsIn w a4 ls
  l5 : body.len ≤ 9223372036854775807
  i5 : IlIn w a5 0 body
  l6 : els.len ≤ 9223372036854775807
  i6 : IlIn w a6 0 els
theorem IlIn.head {w : World} {ao : Option Addr} {i : Nat} {op x y n : Int} {ls : List Int} {body els rest : Il} (h : IlIn w ao i (.cons op x y n ls body els rest)) :
    ∃ b o a4 k4 a5 k5 a6 k6, ao = some ⟨b, o, none⟩ ∧ HeadIn w b (o + i * 7) op x y n ls body els a4 k4 a5 k5 a6 k6 ∧ IlIn w ao (i + 1) rest := by
  rcases h with h | ⟨b, o, e, h⟩
  · cases h
  · obtain ⟨⟨h0, h1, h2, h3⟩, ⟨a4, k4, h4, i4⟩, ⟨a5, k5, h5, l5, i5⟩, ⟨a6, k6, h6, l6, i6⟩, hr⟩ := h
    refine ⟨b, o, a4, k4, a5, k5, a6, k6, e, ⟨h0, h1, h2, h3, h4, h5, h6, i4, l5, ?_, l6, ?_⟩, .inr ⟨b, o, e, ?_⟩⟩
    · simpa [IlIn] using i5
    · simpa [IlIn] using i6
    · have e7 : o + (i + 1) * 7 = o + i * 7 + 7 := by omega
      rw [e7]
      exact hr
/-- All that stands within. -/
def Sub (C : Il → Prop) : Il → Prop
  | .nil => True
  | .cons _ _ _ _ _ body els rest => C body ∧ C els ∧ Sub C rest
theorem Il.all {C : Il → Prop} (step : ∀ l, Sub C l → C l) : ∀ l, Sub C l
  | .nil => trivial
  | .cons _ _ _ _ _ body els rest => ⟨step _ (Il.all step body), step _ (Il.all step els), Il.all step rest⟩
theorem Il.each {C : Il → Prop} (step : ∀ l, Sub C l → C l) (l : Il) : C l := step l (Il.all step l)

/-- A panic that tells an error's number. -/
def fault (n : Int) : List PanicEntry := [{ v := .iface 56 (.agg #[.int .i64 n]), recovered := false }]
def endE (ok : Bool) (n : Int) : Ending := if ok = true then .returned (.tuple #[]) else .panicked (fault n)
end Go.Proofs.YtacohbllbjgdgaaDoor
namespace Go.Proofs.YtacohbllbjgdgaaDoor
open Go.RowKit
set_option linter.unusedVariables false

theorem want_yes (n : Int) (w : World) : Calls Tryd.prog 27 #[.bool true, .int .i64 n] w fun e w' => e = .returned (.tuple #[]) ∧ w = w' := by
  go_enter Tryd.func27, Tryd.ntmps27
  go_wp2
  go_end0
  exact ⟨rfl, rfl⟩

theorem want_no (n : Int) (w : World) : Calls Tryd.prog 27 #[.bool false, .int .i64 n] w fun e w' => e = .panicked (fault n) ∧ w = w' := by
  go_enter Tryd.func27, Tryd.ntmps27
  go_wp2
  exact ⟨rfl, rfl, rfl⟩

theorem want_any (ok : Bool) (n : Int) (w : World) : Calls Tryd.prog 27 #[.bool ok, .int .i64 n] w fun e w' => e = endE ok n ∧ w = w' := by
  cases ok
  · exact want_no n w
  · exact want_yes n w
end Go.Proofs.YtacohbllbjgdgaaDoor
