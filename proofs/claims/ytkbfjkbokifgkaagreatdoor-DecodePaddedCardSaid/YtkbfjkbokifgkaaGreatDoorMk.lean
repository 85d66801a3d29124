/- The contract of few. -/
import Derived.Test.YtkbfjkbokifgkaaGreatDoorFa
import Derived.Test.YtkbfjkbokifgkaaGreatDoorVa
import Derived.Test.YtkbfjkbokifgkaaGreatDoorRe
import Derived.Defers
import Derived.Recover
import Derived.Laws.Pointers
namespace Go.Proofs.YtkbfjkbokifgkaaGreatDoor
open Go.RowKit
set_option linter.unusedVariables false
set_option linter.unusedSimpArgs false
def le4 (n : Int) : Bool := decide (n ≤ 4096)
def lens (m : Md) : List Int := [(m.types.length : Int), m.imports.length, m.funcs.length, m.tables.length, m.mems.length, m.globals.length, m.exports.length, m.elems.length, m.datas.length]
def dataFit : List (One × ByteArray) → Int → Bool
 | [], _ => true
 | d :: r, left => decide ((d.2.size : Int) ≤ left) && dataFit r (left - d.2.size)
def typFew (t : List Int × List Int) : Bool := decide ((t.1.length : Int) ≤ 4096) && decide ((t.2.length : Int) ≤ 4096)
def elmFew (t : One × List Int) : Bool := decide ((t.2.length : Int) ≤ 4096)
def funFew (t : Int × List Int × Il) : Bool := decide ((t.2.1.length : Int) ≤ 256) && lab t.2.2
def few5 (m : Md) : Bool := m.funcs.all funFew
def few4 (m : Md) : Bool := decide (65536 - cntF m.funcs 65536 ≤ 65536) && few5 m
def few3 (m : Md) : Bool := dataFit m.datas 262144 && few4 m
def few2 (m : Md) : Bool := m.elems.all elmFew && few3 m
def few1 (m : Md) : Bool := m.types.all typFew && few2 m
def few0 (m : Md) : Bool := decide ((m.start.length : Int) ≤ 1) && few1 m
def fewB (m : Md) : Bool := (lens m).all le4 && few0 m
def typS (t : List Int × List Int) : Bool := t.1.all typ1 && t.2.all typ1
def impS (t : ByteArray × ByteArray × Int) : Bool := nameB t.1 && (nameB t.2.1 && idx1 t.2.2)
def gloS (t : Int × Bool × One) : Bool := typ1 t.1 && beg1 t.2.2
def expS (t : ByteArray × Int × Int) : Bool := nameB t.1 && ((decide (0 ≤ t.2.1) && decide (t.2.1 ≤ 3)) && idx1 t.2.2)
def elmS (t : One × List Int) : Bool := beg1 t.1 && t.2.all idx1
def datS (t : One × ByteArray) : Bool := beg1 t.1
def funS (t : Int × List Int × Il) : Bool := idx1 t.1 && (t.2.1.all typ1 && formB t.2.2)
def sh9 (m : Md) : Bool := m.funcs.all funS
def sh8 (m : Md) : Bool := m.datas.all datS && sh9 m
def sh7 (m : Md) : Bool := m.elems.all elmS && sh8 m
def sh6 (m : Md) : Bool := m.start.all idx1 && sh7 m
def sh5 (m : Md) : Bool := m.exports.all expS && sh6 m
def sh4 (m : Md) : Bool := m.globals.all gloS && sh5 m
def sh3 (m : Md) : Bool := m.mems.all lim1 && sh4 m
def sh2 (m : Md) : Bool := m.tables.all lim1 && sh3 m
def sh1 (m : Md) : Bool := m.imports.all impS && sh2 m
def shapedB (m : Md) : Bool := m.types.all typS && sh1 m
theorem all_1 (f : Int → Bool) (x : Int) : [x].all f = f x := by simp
def flatM (m : Md) : Bool := m.funcs.all fun t => flatB t.2.2 0
def checkV (m : Md) : Int := if fewB m = false then 3 else if flatM m = false then 4 else if shapedB m = false then 30 else 0
end Go.Proofs.YtkbfjkbokifgkaaGreatDoor
