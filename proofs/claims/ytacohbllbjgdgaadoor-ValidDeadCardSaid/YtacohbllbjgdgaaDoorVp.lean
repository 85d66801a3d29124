/- What a body's types are, plainly: as the program finds them. -/
import Derived.Test.YtacohbllbjgdgaaDoorFa
import Derived.Test.YtacohbllbjgdgaaDoorMg
namespace Go.Proofs.YtacohbllbjgdgaaDoor
open Go.RowKit
set_option linter.unusedVariables false
set_option linter.unusedSimpArgs false

/-- What an instruction that reckons is: its kind, which, its type. -/
def sgV (op : Int) : Int × Int × Int :=
  if op = 69 then (2, 0, 127) else if op = 80 then (2, 0, 126) else if 70 ≤ op ∧ op ≤ 79 then (4, op - 70, 127) else if 81 ≤ op ∧ op ≤ 90 then (4, op - 81, 126)
  else if 103 ≤ op ∧ op ≤ 105 then (1, op - 103, 127) else if 121 ≤ op ∧ op ≤ 123 then (1, op - 121, 126) else if 106 ≤ op ∧ op ≤ 120 then (3, op - 106, 127) else if 124 ≤ op ∧ op ≤ 138 then (3, op - 124, 126)
  else if op = 167 then (5, 0, 126) else if op = 172 then (5, 1, 127) else if op = 173 then (5, 2, 127) else (0, 0, 0)
/-- How many values an instruction of a kind takes; what it tells. -/
def sgN (k : Int) : Nat := if k = 0 then 0 else if k = 3 ∨ k = 4 then 2 else 1
def sgR (k t : Int) : Int := if k = 0 then 0 else if k = 1 ∨ k = 3 then t else if k = 5 then (if t = 126 then 127 else 126) else 127

structure Fr where
  goes : List Int
  ends : List Int
  h : Nat
  dead : Bool
/-- What a body is typed with: the types, the last first; the frames, the innermost first. -/
structure Ts where
  st : List Int
  fs : List Fr
/-- What a body is typed in. -/
structure Ev where
  types : List (List Int × List Int)
  funcs : List (List Int × List Int)
  globals : List (Int × Bool)
  tables : Nat
  mems : Nat
  locals : List Int

def tPop (t : Int) (s : Ts) : Except Int (Int × Ts) :=
  match s.fs with
  | [] => .error 0
  | f :: _ =>
    if s.st.length = f.h then (if f.dead = true then .ok (0, s) else .error 60)
    else match s.st with
      | [] => .error 0
      | x :: r => if t ≠ 0 ∧ x ≠ 0 ∧ x ≠ t then .error 60 else .ok (x, ⟨r, s.fs⟩)
def tPops : List Int → Ts → Except Int Ts
  | [], s => .ok s
  | t :: r, s => (tPop t s).bind fun q => tPops r q.2
def tPopL (l : List Int) (s : Ts) : Except Int Ts := tPops l.reverse s
def tPush (l : List Int) (s : Ts) : Ts := ⟨l.reverse ++ s.st, s.fs⟩
def tDies (s : Ts) : Ts :=
  match s.fs with
  | [] => s
  | f :: r => ⟨s.st.drop (s.st.length - f.h), { f with dead := true } :: r⟩
def fr0 : Fr := ⟨[], [], 0, false⟩
def tGoes (n : Int) (s : Ts) : Except Int (List Int) := if n < (s.fs.length : Int) then .ok (s.fs.getD n.toNat fr0).goes else .error 61
def tCalls (t : List Int × List Int) (s : Ts) : Except Int Ts := (tPopL t.1 s).bind fun s => .ok (tPush t.2 s)
def resV (n : Int) : List Int := if n = 0 then [] else [n]
def tBlock (B : Ts → Except Int Ts) (goes ends : List Int) (s : Ts) : Except Int Ts :=
  (B ⟨s.st, ⟨goes, ends, s.st.length, false⟩ :: s.fs⟩).bind fun s1 =>
    match s1.fs with
    | [] => .error 0
    | f :: r => (tPopL f.ends s1).bind fun s2 => if s2.st.length = f.h then .ok ⟨s2.st, r⟩ else .error 60
def tBlocks (op a : Int) (n : Nat) (B C : Ts → Except Int Ts) (s : Ts) : Except Int Ts :=
  if op = 2 then (tBlock B (resV a) (resV a) s).bind fun s => .ok (tPush (resV a) s)
  else if op = 3 then (tBlock B [] (resV a) s).bind fun s => .ok (tPush (resV a) s)
  else (tPop 127 s).bind fun q => if 0 < n ∨ a = 0 then (tBlock B (resV a) (resV a) q.2).bind fun s => (if 0 < n then tBlock C (resV a) (resV a) s else .ok s).bind fun s => .ok (tPush (resV a) s) else .error 60
def tAll : List Int → Ts → Except Int Unit
  | [], _ => .ok ()
  | n :: r, s => (tGoes n s).bind fun _ => tAll r s
def tLike (g : List Int) : List Int → Ts → Except Int Unit
  | [], _ => .ok ()
  | n :: r, s => (tGoes n s).bind fun k => if k = g then tLike g r s else .error 60
def tLeaves (op a : Int) (ls : List Int) (s : Ts) : Except Int Ts :=
  (tAll ls s).bind fun _ => (tGoes a s).bind fun g => (if op ≠ 12 then (tPop 127 s).bind fun q => .ok q.2 else .ok s).bind fun s =>
    (tLike g ls s).bind fun _ => (tPopL g s).bind fun s => .ok (if op = 13 then tPush g s else tDies s)
def tNamed (E : Ev) (op a : Int) (s : Ts) : Except Int Ts :=
  if op = 16 then (match E.funcs[a.toNat]? with | some t => tCalls t s | none => .error 61)
  else if op = 35 then (match E.globals[a.toNat]? with | some g => .ok (tPush [g.1] s) | none => .error 61)
  else if op = 36 then (match E.globals[a.toNat]? with | some g => if g.2 = true then (tPop g.1 s).bind fun q => .ok q.2 else .error 62 | none => .error 61)
  else match E.locals[a.toNat]? with
    | some t => (if op ≠ 32 then (tPop t s).bind fun q => .ok q.2 else .ok s).bind fun s => .ok (if op ≠ 33 then tPush [t] s else s)
    | none => .error 61
def bytesV (op : Int) : Int := if op = 41 ∨ op = 55 then 3 else if op = 40 ∨ op = 52 ∨ op = 53 ∨ op = 54 ∨ op = 62 then 2 else if op = 44 ∨ op = 45 ∨ op = 48 ∨ op = 49 ∨ op = 58 ∨ op = 60 then 0 else 1
def memT (op : Int) : Int := if op = 40 ∨ op = 44 ∨ op = 45 ∨ op = 46 ∨ op = 47 ∨ op = 54 ∨ op = 58 ∨ op = 59 then 127 else 126
def tMemory (E : Ev) (op a : Int) (s : Ts) : Except Int Ts :=
  if 0 < E.mems then (if a ≤ bytesV op then
    (if 54 ≤ op then (tPop (memT op) s).bind fun q => .ok q.2 else .ok s).bind fun s => (tPop 127 s).bind fun q => .ok (if op < 54 then tPush [memT op] q.2 else q.2) else .error 60) else .error 61
def tRet (s : Ts) : List Int := match s.fs.getLast? with | some f => f.ends | none => []
def tPlain (E : Ev) (op : Int) (s : Ts) : Except Int Ts :=
  if op = 0 then .ok (tDies s)
  else if op = 15 then (tPopL (tRet s) s).bind fun s => .ok (tDies s)
  else if op = 26 then (tPop 0 s).bind fun q => .ok q.2
  else if op = 27 then (tPop 127 s).bind fun q => (tPop 0 q.2).bind fun a => (tPop 0 a.2).bind fun b => if a.1 = b.1 ∨ a.1 = 0 ∨ b.1 = 0 then .ok (tPush [if a.1 = 0 then b.1 else a.1] b.2) else .error 60
  else if op = 63 then (if 0 < E.mems then .ok (tPush [127] s) else .error 61)
  else if op = 64 then (if 0 < E.mems then (tPop 127 s).bind fun q => .ok (tPush [127] q.2) else .error 61)
  else .ok s
def tIndirect (E : Ev) (a : Int) (s : Ts) : Except Int Ts :=
  if 0 < E.tables then (match E.types[a.toNat]? with | some t => (tPop 127 s).bind fun q => tCalls t q.2 | none => .error 61) else .error 61
def tInstr (E : Ev) (op a : Int) (ls : List Int) (n : Nat) (B C : Ts → Except Int Ts) (s : Ts) : Except Int Ts :=
  if (sgV op).1 ≠ 0 then (tPopL (List.replicate (sgN (sgV op).1) (sgV op).2.2) s).bind fun s => .ok (tPush [sgR (sgV op).1 (sgV op).2.2] s)
  else if formV op = 2 ∨ formV op = 3 then tBlocks op a n B C s
  else if formV op = 4 ∨ formV op = 5 then tLeaves op a ls s
  else if formV op = 6 then tNamed E op a s
  else if formV op = 7 then tIndirect E a s
  else if formV op = 8 then tMemory E op a s
  else if formV op = 9 then .ok (tPush [if op = 65 then 127 else 126] s)
  else tPlain E op s
def tyL (E : Ev) : Il → Ts → Except Int Ts
  | .nil, s => .ok s
  | .cons op a _ _ ls body els rest, s => (tInstr E op a ls els.len (tyL E body) (tyL E els) s).bind (tyL E rest)

end Go.Proofs.YtacohbllbjgdgaaDoor
namespace Go.Proofs.YtacohbllbjgdgaaDoor
open Go.RowKit
set_option linter.unusedVariables false
set_option linter.unusedSimpArgs false

/-- The reference's checker of a body: what is wrong first, the types, the last first; the frames, the innermost first. -/
structure Rs where
  w : Int
  st : List Int
  fs : List Fr
def rBad (e : Int) (s : Rs) : Rs := if s.w = 0 then { s with w := e } else s
def rPush (l : List Int) (s : Rs) : Rs := if s.w = 0 then { s with st := l.reverse ++ s.st } else s
def rPop (t : Int) (s : Rs) : Int × Rs :=
  if s.w = 0 then
    match s.fs with
    | [] => (0, s)
    | f :: _ =>
      if s.st.length = f.h then (0, if f.dead = true then s else rBad 60 s)
      else match s.st with
        | [] => (0, s)
        | x :: r => (x, if t ≠ 0 ∧ x ≠ 0 ∧ x ≠ t then rBad 60 { s with st := r } else { s with st := r })
  else (0, s)
def rPops : List Int → Rs → Rs
  | [], s => s
  | t :: r, s => rPops r (rPop t s).2
def rPopL (l : List Int) (s : Rs) : Rs := rPops l.reverse s
def rDead (s : Rs) : Rs :=
  if s.w = 0 then match s.fs with
    | [] => s
    | f :: r => { s with st := s.st.drop (s.st.length - f.h), fs := { f with dead := true } :: r }
  else s
def rHas (n : Int) (s : Rs) : Prop := 0 ≤ n ∧ n < (s.fs.length : Int)
instance (n : Int) (s : Rs) : Decidable (rHas n s) := by unfold rHas; infer_instance
def rLab (n : Int) (s : Rs) : List Int := (s.fs.getD n.toNat fr0).goes
def rBlock (B : Rs → Rs) (goes ends : List Int) (s : Rs) : Rs :=
  if s.w = 0 then
    let s2 := rPopL ends (B { s with fs := ⟨goes, ends, s.st.length, false⟩ :: s.fs })
    let s3 := if s2.w = 0 ∧ s2.st.length ≠ (s2.fs.headD fr0).h then rBad 60 s2 else s2
    { s3 with fs := s3.fs.tail }
  else s
def rVariable (E : Ev) (op a : Int) (s : Rs) : Rs :=
  if 35 ≤ op then match E.globals[a.toNat]? with
    | none => rBad 61 s
    | some g => if op = 35 then rPush [g.1] s else (rPop g.1 (if g.2 = true then s else rBad 62 s)).2
  else match E.locals[a.toNat]? with
    | none => rBad 61 s
    | some t =>
      let s := if op ≠ 32 then (rPop t s).2 else s
      if op ≠ 33 then rPush [t] s else s
def wideN (op : Int) : Int := if op = 40 ∨ op = 54 then 4 else if op = 41 ∨ op = 55 then 8 else if op = 44 ∨ op = 45 ∨ op = 58 then 1 else if op = 46 ∨ op = 47 ∨ op = 59 then 2 else if op = 48 ∨ op = 49 ∨ op = 60 then 1 else if op = 50 ∨ op = 51 ∨ op = 61 then 2 else 4
def wideT (op : Int) : Int := if op = 40 ∨ op = 54 then 127 else if op = 41 ∨ op = 55 then 126 else if op = 44 ∨ op = 45 ∨ op = 58 then 127 else if op = 46 ∨ op = 47 ∨ op = 59 then 127 else 126
def tooWide (op a : Int) : Prop := 3 < a ∨ wideN op < 2 ^ a.toNat
instance (op a : Int) : Decidable (tooWide op a) := by unfold tooWide; infer_instance
def rMemory (E : Ev) (op a : Int) (s : Rs) : Rs :=
  if E.mems = 0 then rBad 61 s
  else if op = 63 then rPush [127] s
  else if op = 64 then rPush [127] (rPop 127 s).2
  else
    let s := if tooWide op a then rBad 60 s else s
    if 54 ≤ op then (rPop 127 (rPop (wideT op) s).2).2 else rPush [wideT op] (rPop 127 s).2
def rOks : List Int → Rs → Bool × Rs
  | [], s => (true, s)
  | n :: r, s => let q := rOks r (if rHas n s then s else rBad 61 s); (decide (rHas n s) && q.1, q.2)
def rLike (g : List Int) : List Int → Rs → Rs
  | [], s => s
  | n :: r, s => rLike g r (if rLab n s = g then s else rBad 60 s)
def rTable (a : Int) (ls : List Int) (s : Rs) : Rs :=
  let q := rOks (a :: ls) s
  if q.1 = true then rDead (rPopL (rLab a q.2) (rLike (rLab a q.2) ls (rPop 127 q.2).2)) else q.2
def rCall (t : List Int × List Int) (s : Rs) : Rs := rPush t.2 (rPopL t.1 s)
def rRet (s : Rs) : List Int := match s.fs.getLast? with | some f => f.ends | none => []
def rInstr (E : Ev) (op a : Int) (ls : List Int) (n : Nat) (B C : Rs → Rs) (s : Rs) : Rs :=
  if op = 0 then rDead s
  else if op = 1 then s
  else if op = 2 ∨ op = 3 then rPush (resV a) (rBlock B (if op = 3 then [] else resV a) (resV a) s)
  else if op = 4 then
    let s := (rPop 127 s).2
    let s := if n = 0 ∧ 0 < (resV a).length then rBad 60 s else s
    let s := rBlock B (resV a) (resV a) s
    let s := if 0 < n then rBlock C (resV a) (resV a) s else s
    rPush (resV a) s
  else if op = 12 ∨ op = 13 then
    if rHas a s then (if op = 13 then let g := rLab a s; rPush g (rPopL g (rPop 127 s).2) else rDead (rPopL (rLab a s) s)) else rBad 61 s
  else if op = 14 then rTable a ls s
  else if op = 15 then rDead (rPopL (rRet s) s)
  else if op = 16 then match E.funcs[a.toNat]? with | some t => rCall t s | none => rBad 61 s
  else if op = 17 then (if E.tables = 0 then rBad 61 s else match E.types[a.toNat]? with | some t => rCall t (rPop 127 s).2 | none => rBad 61 s)
  else if op = 26 then (rPop 0 s).2
  else if op = 27 then
    let s := (rPop 127 s).2
    let x := rPop 0 s
    let y := rPop 0 x.2
    let s := if x.1 ≠ 0 ∧ y.1 ≠ 0 ∧ x.1 ≠ y.1 then rBad 60 y.2 else y.2
    rPush [max x.1 y.1] s
  else if op = 65 then rPush [127] s
  else if op = 66 then rPush [126] s
  else if formV op = 6 then rVariable E op a s
  else if formV op = 8 ∨ op = 63 ∨ op = 64 then rMemory E op a s
  else rPush [sgR (sgV op).1 (sgV op).2.2] (rPops (List.replicate (sgN (sgV op).1) (sgV op).2.2) s)
def ryL (E : Ev) : Il → Rs → Rs
  | .nil, s => s
  | .cons op a _ _ ls body els rest, s => if s.w = 0 then ryL E rest (rInstr E op a ls els.len (ryL E body) (ryL E els) s) else s

end Go.Proofs.YtacohbllbjgdgaaDoor
