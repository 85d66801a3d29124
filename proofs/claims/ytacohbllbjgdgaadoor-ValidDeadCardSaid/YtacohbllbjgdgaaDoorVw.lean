/- Which modules are valid, plainly: what is wrong first, and in which function; -1: in none. -/
import Derived.Test.YtacohbllbjgdgaaDoorXv
import Derived.Test.YtacohbllbjgdgaaDoorOa
import Derived.Test.YtacohbllbjgdgaaDoorMj
import Derived.Laws.ResultCell
import Derived.Test.YtacohbllbjgdgaaDoorXh
import Derived.Deep.AppendLies
import Derived.Laws.MakeOwn
import Derived.Laws.AppendOwn
import Derived.OwnWalk
import Derived.KernelRfl
import Derived.Test.YtacohbllbjgdgaaDoorMi
import Derived.RegionTactic
import Derived.BigRegion
import Derived.Deep.Cut
import Derived.Deep.CutRange
import Derived.Deep.RegionHeld3
import Derived.Test.YtacohbllbjgdgaaDoorMc
namespace Go.Proofs.YtacohbllbjgdgaaDoor
open Go.RowKit
set_option linter.unusedVariables false

def typesV (m : Md) : Int := firstL (fun t => if t.2.length ≤ 1 then 0 else 60) m.types
/-- The numbers of the functions' types. -/
def idxL (m : Md) : List Int := m.imports.map (fun t => t.2.2) ++ m.funcs.map (fun t => t.1)
def idxV (m : Md) : Int := firstL (fun n => eHas n m.types.length) (idxL m)
/-- The functions' types. -/
def funcT (m : Md) : List (List Int × List Int) := (idxL m).map fun n => m.types.getD n.toNat ([], [])
def manyV (m : Md) (k : Int) : Int := if k = 0 then (funcT m).length else if k = 1 then m.tables.length else if k = 2 then m.mems.length else m.globals.length
def expGo (m : Md) : List (ByteArray × Int × Int) → List ByteArray → Int
  | [], _ => 0
  | x :: r, seen => if x.1.data.toList ∈ seen.map (fun s => s.data.toList) then 63 else if x.2.2 < manyV m x.2.1 then expGo m r (x.1 :: seen) else 61
def eStart (m : Md) (n : Int) : Int := if n < ((funcT m).length : Int) then (if ((funcT m).getD n.toNat ([], [])).1.length = 0 ∧ ((funcT m).getD n.toNat ([], [])).2.length = 0 then 0 else 60) else 61
def exportsV (m : Md) : Int := fst2 (expGo m m.exports []) (firstL (eStart m) m.start)
def bodiesGo (m : Md) : List (Int × List Int × Il) → Nat → Int × Int
  | [], _ => (-1, 0)
  | fn :: r, n => match bodyT m (funcT m) ((funcT m).getD n ([], [])) fn with
    | .ok _ => bodiesGo m r (n + 1)
    | .error e => (n, e)
def headV (m : Md) : Int := fst2 (checkV m) (fst2 (typesV m) (fst2 (idxV m) (fst2 (partsV m) (fst2 (exportsV m) (fillsV m (funcT m).length)))))
def whereV (m : Md) : Int × Int := if headV m = 0 then bodiesGo m m.funcs m.imports.length else (-1, headV m)
theorem firstL_zero {α : Type} {f : α → Int} : ∀ {l : List α}, firstL f l = 0 → ∀ x ∈ l, f x = 0
  | [], _, x, hx => by cases hx
  | y :: r, h, x, hx => by
    unfold firstL at h
    by_cases hy : f y = 0
    · rw [if_pos hy] at h
      rcases List.mem_cons.1 hx with rfl | hx
      · exact hy
      · exact firstL_zero h x hx
    · rw [if_neg hy] at h; exact absurd h hy
theorem fst2_zero {a b : Int} (h : fst2 a b = 0) : a = 0 ∧ b = 0 := by
  unfold fst2 at h
  by_cases ha : a = 0
  · rw [if_pos ha] at h; exact ⟨ha, h⟩
  · rw [if_neg ha] at h; exact absurd h ha

end Go.Proofs.YtacohbllbjgdgaaDoor
namespace Go.Proofs.YtacohbllbjgdgaaDoor
open Go.RowKit
set_option linter.unusedVariables false
set_option linter.unusedSimpArgs false

/-- Where a module's lists lie. -/
structure MA where
  a0 : Option Addr
  k0 : Nat
  a1 : Option Addr
  k1 : Nat
  a2 : Option Addr
  k2 : Nat
  a3 : Option Addr
  k3 : Nat
  a4 : Option Addr
  k4 : Nat
  a5 : Option Addr
  k5 : Nat
  a6 : Option Addr
  k6 : Nat
  a7 : Option Addr
  k7 : Nat
  a8 : Option Addr
  k8 : Nat
  a9 : Option Addr
  k9 : Nat
def MA.v (A : MA) (m : Md) : M10 := ⟨.slice A.a0 m.types.length A.k0, .slice A.a1 m.imports.length A.k1, .slice A.a2 m.funcs.length A.k2, .slice A.a3 m.tables.length A.k3, .slice A.a4 m.mems.length A.k4, .slice A.a5 m.globals.length A.k5, .slice A.a6 m.exports.length A.k6, .slice A.a7 m.start.length A.k7, .slice A.a8 m.elems.length A.k8, .slice A.a9 m.datas.length A.k9⟩
def MdA (w : World) (m : Md) (A : MA) : Prop := MdAt w m A.a0 A.k0 A.a1 A.k1 A.a2 A.k2 A.a3 A.k3 A.a4 A.k4 A.a5 A.k5 A.a6 A.k6 A.a7 A.k7 A.a8 A.k8 A.a9 A.k9
section
variable {wa : World} {N p : Nat} {A : MA} {lv : Value} {m : Md} {E : Ev} {w w' : World} {sv fv sv' fv' : Value} {s u : Rs}
end
end Go.Proofs.YtacohbllbjgdgaaDoor
namespace Go.Proofs.YtacohbllbjgdgaaDoor
open Go.RowKit
set_option linter.unusedVariables false
set_option linter.unusedSimpArgs false

theorem idx_imp {m : Md} {k : Nat} {x : ByteArray × ByteArray × Int} (h : m.imports[k]? = some x) : (idxL m)[k]? = some x.2.2 := by
  have hl := (List.getElem?_eq_some_iff.1 h).1
  unfold idxL
  rw [List.getElem?_append_left (by simpa using hl), List.getElem?_map, h]
  rfl
theorem idx_fun {m : Md} {k : Nat} {x : Int × List Int × Il} (h : m.funcs[k]? = some x) : (idxL m)[m.imports.length + k]? = some x.1 := by
  unfold idxL
  rw [List.getElem?_append_right (by simp), List.length_map, Nat.add_sub_cancel_left, List.getElem?_map, h]
  rfl
theorem alloc2 (w : World) (o o' : Obj) : ((w.alloc o).alloc o').heap[w.heap.size + 1]? = some o' := by
  have h := heap_alloc_new (w.alloc o) o'
  have e : (w.alloc o).heap.size = w.heap.size + 1 := by simp
  rw [e] at h
  exact h
theorem below2 (w : World) (o o' : Obj) : Below w.heap.size w ((w.alloc o).alloc o') := (Below.of_alloc w o).trans ((Below.of_alloc (w.alloc o) o').mono (by simp))
section
variable {wa w : World} {m : Md} {A : MA}
end
end Go.Proofs.YtacohbllbjgdgaaDoor
namespace Go.Proofs.YtacohbllbjgdgaaDoor
open Go.RowKit
set_option linter.unusedVariables false
set_option linter.unusedSimpArgs false

section
variable {w : World}
end
end Go.Proofs.YtacohbllbjgdgaaDoor
namespace Go.Proofs.YtacohbllbjgdgaaDoor
open Go.RowKit
set_option linter.unusedVariables false
set_option linter.unusedSimpArgs false

section
variable {wa : World} {N p : Nat} {A : MA} {lv : Value} {m : Md} {E : Ev} {w w' : World} {sv fv sv' fv' : Value} {s u : Rs}
end
end Go.Proofs.YtacohbllbjgdgaaDoor
namespace Go.Proofs.YtacohbllbjgdgaaDoor
open Go.RowKit
set_option linter.unusedVariables false

def zero7 : Array Value := #[.int .i64 0, .int .i64 0, .int .i64 0, .int .i64 0, .slice none 0 0, .slice none 0 0, .slice none 0 0]
theorem info45 : (Tryd.prog.info? 26).map (fun i => (i.zero, i.size, i.bytes)) = some (some (.agg zero7), 7, 104) := by kernel_rfl
end Go.Proofs.YtacohbllbjgdgaaDoor
namespace Go.Proofs.YtacohbllbjgdgaaDoor
open Go.RowKit
set_option linter.unusedVariables false

end Go.Proofs.YtacohbllbjgdgaaDoor
namespace Go.Proofs.YtacohbllbjgdgaaDoor
open Go.RowKit
set_option linter.unusedVariables false

/-- How heavy. -/
def wt : Il → Nat
  | .nil => 0
  | .cons _ _ _ _ ls body els rest => 1 + ls.length / 10 + wt body + wt els + wt rest
end Go.Proofs.YtacohbllbjgdgaaDoor

namespace Go.Proofs.YtacohbllbjgdgaaDoor
open Go.RowKit
set_option linter.unusedVariables false

end Go.Proofs.YtacohbllbjgdgaaDoor
