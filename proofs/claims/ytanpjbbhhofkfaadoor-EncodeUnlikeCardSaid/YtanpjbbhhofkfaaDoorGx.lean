/- The bytes of instructions, plainly. -/
import Derived.Test.YtanpjbbhhofkfaaDoorGg
import Derived.Test.YtanpjbbhhofkfaaDoorHa
namespace Go.Proofs.YtanpjbbhhofkfaaDoor
open Go.RowKit
set_option linter.unusedVariables false

def xTail (f op x y n : Int) (ls : List Int) (elen : Nat) (B E : List UInt8) : List UInt8 :=
  if f = 1 then (if op = 63 ∨ op = 64 then [b1 0] else [])
  else if f = 2 ∨ f = 3 then [b1 (if x = 0 then 64 else x)] ++ B ++ (if 0 < elen then [b1 5] ++ E else []) ++ [b1 11]
  else if f = 4 ∨ f = 6 then uB x
  else if f = 5 then (numsC ls).flatten ++ uB x
  else if f = 7 then uB x ++ [b1 0]
  else if f = 8 then uB x ++ uB y
  else if f = 9 then lebS n
  else []
def xl : Il → List UInt8
  | .nil => []
  | .cons op x y n ls b e r => ([b1 op] ++ xTail (formV op) op x y n ls e.len (xl b) (xl e)) ++ xl r
def xi (op x y n : Int) (ls : List Int) (b e : Il) : List UInt8 := [b1 op] ++ xTail (formV op) op x y n ls e.len (xl b) (xl e)
def xEx (l : Il) : List UInt8 := xl l ++ [b1 11]
def xLim (t : Int × Int × Bool) : List UInt8 := if t.2.2 = true then ([b1 1] ++ uB t.1) ++ uB t.2.1 else [b1 0] ++ uB t.1
end Go.Proofs.YtanpjbbhhofkfaaDoor
