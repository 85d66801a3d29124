/- A map that says which names were met. -/
import Derived.Test.YtacohbllbjgdgaaDoorVw
import Derived.Maps.Own
import Derived.Maps.OwnOps
import Derived.Maps.OwnSet
import Derived.Maps.Views
import Derived.StringKeys
import Derived.Deep.AppendSrc
import Derived.Deep.AppendLies
import Derived.Deep.RegionLaw
import Derived.Deep.RegionHeld3
import Derived.Deep.Cut
import Derived.Deep.CutRange
import Derived.Orders
import Derived.RegionTactic
namespace Go.Proofs.YtacohbllbjgdgaaDoor
open Go.RowKit Go.Maps
set_option linter.unusedVariables false
set_option linter.unusedSimpArgs false

theorem law92 : Keyed Tryd.prog 9 := string_keyed Tryd.underlying9
theorem zero3 (w : World) : (zeroValue 3).run Tryd.prog w = .ok (.int .i64 0) w := by kernel_rfl
def zi : DataW Unit := .lit (.int .i64 0)
def metN (seen : List ByteArray) (l : List UInt8) : Int := if l ∈ seen.map (fun s => s.data.toList) then 1 else 0
/-- A map that says which names were met. -/
def MapOf (w : World) (M n : Nat) (seen : List ByteArray) : Prop := ∃ D : DataW Unit, w.ownsMap Tryd.prog 9 (plainElem Tryd.prog 3) M n D ∧ ∀ l : List UInt8, D.atKey (.string l) zi = .lit (.int .i64 (metN seen l))
theorem mapOf_new (w : World) : MapOf (w.alloc (.map #[] 0)) w.heap.size 0 [] := ⟨.map [], World.ownsMap_made _ _ _ _, fun l => by
  have h : Maps.has (.map [] : DataW Unit) (.string l) = false := rfl
  rw [atKey_of_not_has h]
  rfl⟩
theorem MapOf.kept {w w' : World} {M n : Nat} {seen : List ByteArray} {row : Option Nat} (h : MapOf w M n seen) (g : w.grownBy w' row) (hne : some M ≠ row) : MapOf w' M n seen := by
  obtain ⟨D, h1, h2⟩ := h
  exact ⟨D, h1.kept g hne, h2⟩
theorem below_grown {w w' : World} (b : Below w.heap.size w w') : w.grownBy w' none := ⟨b.os, b.tape, b.output, b.size, fun k hk _ => b.block k hk⟩
theorem MapOf.step {w w' : World} {M n : Nat} {seen : List ByteArray} (h : MapOf w M n seen) (b : Below w.heap.size w w') : MapOf w' M n seen := h.kept (below_grown b) (by simp)
theorem metN_cons (seen : List ByteArray) (s : ByteArray) (l : List UInt8) : metN (s :: seen) l = if l = s.data.toList then 1 else metN seen l := by
  unfold metN
  by_cases h : l = s.data.toList
  · rw [if_pos h, if_pos (by rw [h]; simp)]
  · rw [if_neg h]
    simp only [List.map_cons, List.mem_cons]
    by_cases h2 : l ∈ seen.map (fun s => s.data.toList)
    · rw [if_pos (.inr h2), if_pos h2]
    · rw [if_neg (by rintro (q | q); exact h q; exact h2 q), if_neg h2]
theorem met_put {seen : List ByteArray} {D : DataW Unit} (hD : ∀ l : List UInt8, D.atKey (.string l) zi = .lit (.int .i64 (metN seen l))) (hm : IsMap D) (s : ByteArray) (l : List UInt8) :
    (D.put (.string s.data.toList) (.lit (.int .i64 1))).atKey (.string l) zi = .lit (.int .i64 (metN (s :: seen) l)) := by
  rw [metN_cons]
  by_cases h : l = s.data.toList
  · rw [if_pos h, h, atKey_put_same hm (by simp [WideAt.IsKeyLit])]
  · rw [if_neg h, atKey_put_other (by intro q; exact h (by simpa using q)), hD]
theorem expGo_step {m : Md} {x : ByteArray × Int × Int} {r : List (ByteArray × Int × Int)} {seen : List ByteArray} : expGo m (x :: r) seen = if metN seen x.1.data.toList = 1 then 63 else if x.2.2 < manyV m x.2.1 then expGo m r (x.1 :: seen) else 61 := by
  show (if x.1.data.toList ∈ seen.map (fun s => s.data.toList) then _ else _) = _
  unfold metN
  by_cases h : x.1.data.toList ∈ seen.map (fun s => s.data.toList)
  · rw [if_pos h, if_pos h, if_pos rfl]
  · rw [if_neg h, if_neg h, if_neg (show ¬ (0 : Int) = 1 by decide)]
theorem atone {D : DataW Unit} {l : List UInt8} {c v : Int} (h : D.atKey (.string l) zi = .lit (.int .i64 v)) (k : D.atKey (.string l) (.lit (.int .i64 0)) = .lit (.int .i64 c)) : c = v := by
  have := k.symm.trans h
  simpa using this

end Go.Proofs.YtacohbllbjgdgaaDoor
namespace Go.Proofs.YtacohbllbjgdgaaDoor
open Go.RowKit
set_option linter.unusedVariables false

def IntsR (R : Nat → Prop) (w : World) (ao : Option Addr) (l : List Int) : Prop :=
  l.length ≤ 9223372036854775807 ∧ (l = [] ∨ ∃ b o, ao = some ⟨b, o, none⟩ ∧ R b ∧ ∀ i x, l[i]? = some x → w.cell? ⟨b, o + i, none⟩ = some (.int .i64 x))
def IlR (R : Nat → Prop) (w : World) (b o : Nat) : Il → Prop
  | .nil => True
  | .cons op x y n ls body els rest =>
    (w.cell? ⟨b, o, none⟩ = some (.int .i64 op) ∧ w.cell? ⟨b, o + 1, none⟩ = some (.int .i64 x) ∧ w.cell? ⟨b, o + 2, none⟩ = some (.int .i64 y) ∧ w.cell? ⟨b, o + 3, none⟩ = some (.int .i64 n)) ∧
    (∃ ao c, w.cell? ⟨b, o + 4, none⟩ = some (.slice ao ls.length c) ∧ IntsR R w ao ls) ∧
    (∃ ao c, w.cell? ⟨b, o + 5, none⟩ = some (.slice ao body.len c) ∧ body.len ≤ 9223372036854775807 ∧ (body = .nil ∨ ∃ b2 o2, ao = some ⟨b2, o2, none⟩ ∧ R b2 ∧ IlR R w b2 o2 body)) ∧
    (∃ ao c, w.cell? ⟨b, o + 6, none⟩ = some (.slice ao els.len c) ∧ els.len ≤ 9223372036854775807 ∧ (els = .nil ∨ ∃ b2 o2, ao = some ⟨b2, o2, none⟩ ∧ R b2 ∧ IlR R w b2 o2 els)) ∧
    IlR R w b (o + 7) rest
/-- A slice of instructions, its blocks as R says. -/
def SlR (R : Nat → Prop) (w : World) (ao : Option Addr) (l : Il) : Prop := l = .nil ∨ ∃ b o, ao = some ⟨b, o, none⟩ ∧ R b ∧ IlR R w b o l

theorem IntsR.ints {R : Nat → Prop} {w : World} {ao : Option Addr} {l : List Int} (h : IntsR R w ao l) : IntsIn w ao l := by
  rcases h with ⟨hl, h | ⟨b, o, e, _, h⟩⟩
  · exact ⟨hl, .inl h⟩
  · exact ⟨hl, .inr ⟨b, o, e, h⟩⟩
theorem IlR.at {R : Nat → Prop} {w : World} : ∀ (l : Il) (b o : Nat), IlR R w b o l → IlAt w b o l
  | .nil, _, _, _ => trivial
  | .cons op x y n ls body els rest, b, o, h => by
    obtain ⟨h0, ⟨a4, k4, h4, i4⟩, ⟨a5, k5, h5, l5, i5⟩, ⟨a6, k6, h6, l6, i6⟩, hr⟩ := h
    refine ⟨h0, ⟨a4, k4, h4, i4.ints⟩, ⟨a5, k5, h5, l5, ?_⟩, ⟨a6, k6, h6, l6, ?_⟩, IlR.at rest b (o + 7) hr⟩
    · rcases i5 with e | ⟨b2, o2, e, _, i5⟩
      · exact .inl e
      · exact .inr ⟨b2, o2, e, IlR.at body b2 o2 i5⟩
    · rcases i6 with e | ⟨b2, o2, e, _, i6⟩
      · exact .inl e
      · exact .inr ⟨b2, o2, e, IlR.at els b2 o2 i6⟩
end Go.Proofs.YtacohbllbjgdgaaDoor

namespace Go.Proofs.YtacohbllbjgdgaaDoor
open Go.RowKit
set_option linter.unusedVariables false

end Go.Proofs.YtacohbllbjgdgaaDoor

namespace Go.Proofs.YtacohbllbjgdgaaDoor
open Go.RowKit
set_option linter.unusedVariables false

/-- An instruction, as its seven cells have it. -/
structure ERec where
  op : Int
  x : Int
  y : Int
  n : Int
  ls : List Int
  body : Il
  els : Il
  a4 : Option Addr
  c4 : Nat
  a5 : Option Addr
  c5 : Nat
  a6 : Option Addr
  c6 : Nat
def eV (t : ERec) : List Value := [.int .i64 t.op, .int .i64 t.x, .int .i64 t.y, .int .i64 t.n, .slice t.a4 t.ls.length t.c4, .slice t.a5 t.body.len t.c5, .slice t.a6 t.els.len t.c6]
structure EOk (R : Nat → Prop) (w : World) (t : ERec) : Prop where
  i4 : IntsR R w t.a4 t.ls
  l5 : t.body.len ≤ 9223372036854775807
  i5 : SlR R w t.a5 t.body
  l6 : t.els.len ≤ 9223372036854775807
  i6 : SlR R w t.a6 t.els
def ilOf : List ERec → Il → Il
  | [], r => r
  | t :: ts, r => .cons t.op t.x t.y t.n t.ls t.body t.els (ilOf ts r)
theorem ilOf_snoc (t : ERec) (r : Il) : ∀ ts, ilOf (ts ++ [t]) r = ilOf ts (.cons t.op t.x t.y t.n t.ls t.body t.els r)
  | [] => rfl
  | s :: ts => by
    show Il.cons _ _ _ _ _ _ _ (ilOf (ts ++ [t]) r) = _
    rw [ilOf_snoc t r ts]
    rfl
theorem ilOf_len (r : Il) : ∀ ts, (ilOf ts r).len = ts.length + r.len
  | [] => by simp [ilOf]
  | s :: ts => by
    show (ilOf ts r).len + 1 = _
    rw [ilOf_len r ts, List.length_cons]
    omega
theorem row_il {R : Nat → Prop} {w : World} {g : Nat} : ∀ (ts : List ERec) (o : Nat), (∀ j u, (ts.flatMap eV)[j]? = some u → w.cell? ⟨g, o + j, none⟩ = some u) → (∀ t ∈ ts, EOk R w t) → IlR R w g o (ilOf ts .nil)
  | [], _, _, _ => trivial
  | t :: ts, o, hc, hok => by
    have ht := hok t (List.mem_cons_self ..)
    have hc0 : ∀ j u, (eV t)[j]? = some u → w.cell? ⟨g, o + j, none⟩ = some u := fun j u hj => hc j u (by
      rw [List.flatMap_cons, List.getElem?_append_left (List.getElem?_eq_some_iff.1 hj).1]
      exact hj)
    have hr := row_il ts (o + 7) (fun j u hj => by
      have := hc (7 + j) u (by
        rw [List.flatMap_cons, List.getElem?_append_right (by simp [eV])]
        simpa [eV] using hj)
      have e : o + (7 + j) = o + 7 + j := by omega
      rw [e] at this
      exact this) (fun s hs => hok s (List.mem_cons_of_mem _ hs))
    refine ⟨⟨hc0 0 _ rfl, hc0 1 _ rfl, hc0 2 _ rfl, hc0 3 _ rfl⟩, ⟨_, _, hc0 4 _ rfl, ht.i4⟩, ⟨_, _, hc0 5 _ rfl, ht.l5, ht.i5⟩, ⟨_, _, hc0 6 _ rfl, ht.l6, ht.i6⟩, hr⟩

end Go.Proofs.YtacohbllbjgdgaaDoor

namespace Go.Proofs.YtacohbllbjgdgaaDoor
open Go.RowKit
set_option linter.unusedVariables false

def fr (A B C : Value) (f : Nat → Value) : Act := { tmps := #[A, B, C, f 3, undef, undef, undef, undef, undef, undef, f 10, f 11, f 12, f 13, f 14, f 15, f 16, f 17, f 18, f 19, f 20, f 21, f 22, f 23, f 24, f 25, f 26, f 27, f 28, f 29, f 30, undef, undef, undef, undef, undef, undef, undef, undef, undef, undef, undef, undef, undef, undef, undef, undef, undef, undef, undef, undef, undef, undef, undef, undef, undef, undef, undef, undef, undef, undef, undef, undef, undef, undef, undef, undef, undef, undef, undef, undef, undef, undef, undef, undef, undef, undef, undef, undef, undef, undef, undef, undef, undef, undef, undef, undef, undef, undef, undef, undef, undef, undef, undef, undef, undef, undef, undef, undef, undef, undef, undef, undef, undef, undef, undef, undef, undef, undef, undef, undef, undef, undef, undef, undef, undef, undef, undef, undef, undef, undef, undef, undef, undef, undef, undef, undef, undef, undef, undef, undef, undef, undef, undef, undef, undef, undef, undef, undef, undef, undef, undef, undef, undef, undef, undef, undef, undef, undef, undef, undef, undef, undef, undef, undef, undef, undef, undef, undef, undef, undef, undef, undef, undef, undef, undef, undef, undef, undef, undef, undef, undef, undef, undef, undef, undef, undef, undef, undef, undef], defers := [] }
end Go.Proofs.YtacohbllbjgdgaaDoor

namespace Go.Proofs.YtacohbllbjgdgaaDoor
open Go.RowKit
set_option linter.unusedVariables false

end Go.Proofs.YtacohbllbjgdgaaDoor
namespace Go.Proofs.YtacohbllbjgdgaaDoor
open Go.RowKit
set_option linter.unusedVariables false
set_option linter.unusedSimpArgs false

theorem tmod_in (a : Int) (n : Nat) (hn : 1 ≤ n) : -(n : Int) < Int.tmod a n ∧ Int.tmod a n < n := by
  have h := Int.natAbs_tmod a n
  have h2 : a.natAbs % n < n := Nat.mod_lt _ (by omega)
  simp only [Int.natAbs_natCast] at h
  omega
def modN (a : Int) (n : Nat) : Nat := (Int.tmod a n + n).toNat % n
theorem modN_lt (a : Int) {n : Nat} (hn : 1 ≤ n) : modN a n < n := Nat.mod_lt _ (by omega)
theorem mod_any (a : Int) (n : Nat) (hn : 1 ≤ n) (hn2 : n ≤ 262144) (w : World) : Calls Tryd.prog 4 #[.int .i64 a, .int .i64 (n : Int)] w fun e w' => e = .returned (.int .i64 (modN a n : Int)) ∧ w' = w := by
  obtain ⟨r, hr⟩ : ∃ r, r = Int.tmod a n := ⟨_, rfl⟩
  have h1 := tmod_in a n hn
  rw [← hr] at h1
  obtain ⟨m, hm⟩ : ∃ m : Nat, (m : Int) = r + n := ⟨(r + n).toNat, by omega⟩
  have hw1 : IntKind.i64.wrap (r + n) = (m : Int) := by rw [← hm]; exact wrap_id64 _ (by omega) (by omega)
  have h2 : Int.tmod (m : Int) (n : Int) = ((m % n : Nat) : Int) := by
    rw [Int.tmod_eq_emod_of_nonneg (by omega)]
    rfl
  have h3 : m % n < n := Nat.mod_lt _ (by omega)
  have hw2 : IntKind.i64.wrap ((m % n : Nat) : Int) = ((m % n : Nat) : Int) := wrap_id64 _ (by omega) (by omega)
  have hz : ¬ (n : Int) < 1 := by omega
  have hz2 : ((n : Int) == 0) = false := beq_eq_false_iff_ne.2 (by omega)
  have hz3 : (n : Int) ≠ 0 := by omega
  obtain ⟨k, hk⟩ : ∃ k, k = m % n := ⟨_, rfl⟩
  have hkn : modN a n = k := by
    unfold modN
    rw [← hr, ← hm, Int.toNat_natCast, hk]
  rw [hkn]
  rw [← hk] at h2 h3 hw2
  have hs : IntKind.i64.wrap r = r := by
    have hh : ∀ x : Int, -262144 ≤ x → x ≤ 262144 → IntKind.i64.wrap x = x := fun x h1 h2 => by
      simp [IntKind.wrap, IntKind.bits, IntKind.signed]
      omega
    exact hh r (by omega) (by omega)
  replace hk := Lib.hid hk
  replace hm := Lib.hid hm
  replace hkn := Lib.hid hkn
  have hr' : Int.tmod a n = r := hr.symm
  replace hr := Lib.hid hr
  go_enter Tryd.func4, Tryd.ntmps4
  go_wp2_with fail
  go_ret
  exact ⟨rfl, rfl⟩
end Go.Proofs.YtacohbllbjgdgaaDoor
