/- What bytes are read as, plainly. -/
import Derived.Test.YtkbfjkbokifgkaaGreatDoorMa
import Derived.Test.YtkbfjkbokifgkaaGreatDoorFa
import Derived.Test.YtkbfjkbokifgkaaGreatDoorVa
import Derived.Laws.BitsAllLaws
namespace Go.Proofs.YtkbfjkbokifgkaaGreatDoor
open Go.RowKit
set_option linter.unusedVariables false
set_option linter.unusedSimpArgs false
def mkb (l : List UInt8) : ByteArray := ⟨l.toArray⟩
def grp : Nat → List UInt8 → Option (Nat × Nat)
 | 0, _ => none
 | _ + 1, [] => none
 | k + 1, b :: r => if b.toNat < 128 then some (b.toNat, 1) else (grp k r).map fun q => (b.toNat - 128 + 128 * q.1, q.2 + 1)
def win (s : List UInt8) (a e : Nat) : List UInt8 := (s.take e).drop a
abbrev Got (α : Type) := Except Int (α × Nat)
def gByte (s : List UInt8) (e a : Nat) : Got Int := if a < e then .ok (((s[a]?.getD 0).toNat : Int), a + 1) else .error 50
def gU (s : List UInt8) (e a : Nat) : Got Int :=
 match grp 5 (win s a e) with
 | some (n, c) => if n < 4294967296 then .ok ((n : Int), a + c) else .error 50
 | none => .error 50
def sgn (n c : Nat) : Int := if 2 ^ (7 * c - 1) ≤ n then (n : Int) - (2 ^ (7 * c) : Nat) else n
def gS32 (s : List UInt8) (e a : Nat) : Got Int :=
 match grp 5 (win s a e) with
 | some (n, c) => if -2147483648 ≤ sgn n c ∧ sgn n c ≤ 2147483647 then .ok (sgn n c, a + c) else .error 50
 | none => .error 50
def gS64 (s : List UInt8) (e a : Nat) : Got Int :=
 match grp 10 (win s a e) with
 | some (n, c) => if -9223372036854775808 ≤ sgn n c ∧ sgn n c ≤ 9223372036854775807 then .ok (sgn n c, a + c) else .error 50
 | none => .error 50
def gIs (s : List UInt8) (e a : Nat) (b : Int) : Got Unit := (gByte s e a).bind fun q => if q.1 = b then .ok ((), q.2) else .error 50
def gFlag (s : List UInt8) (e a : Nat) : Got Bool := (gByte s e a).bind fun q => if q.1 ≤ 1 then .ok (q.1 == 1, q.2) else .error 50
def gCount (s : List UInt8) (e a : Nat) : Got Int := (gU s e a).bind fun q => if q.1 ≤ 4096 then .ok q else .error 3
def gText (s : List UInt8) (e a : Nat) : Got (List UInt8) := (gU s e a).bind fun q => if q.1 ≤ (e : Int) - q.2 then .ok (win s q.2 (q.2 + q.1.toNat), q.2 + q.1.toNat) else .error 50
def gName (s : List UInt8) (e a : Nat) : Got (List UInt8) := (gText s e a).bind fun q => if nameB (mkb q.1) then .ok q else .error 50
def gTyp (s : List UInt8) (e a : Nat) : Got Int := (gByte s e a).bind fun q => if q.1 = 125 ∨ q.1 = 124 then .error 51 else if q.1 = 127 ∨ q.1 = 126 then .ok q else .error 50
def gMany {α : Type} (f : Nat → Got α) : Nat → Nat → Got (List α)
 | 0, a => .ok ([], a)
 | k + 1, a => (f a).bind fun q => (gMany f k q.2).bind fun r => .ok (q.1 :: r.1, r.2)
def gEach {α : Type} (s : List UInt8) (e a : Nat) (f : Nat → Got α) : Got (List α) := (gCount s e a).bind fun q => gMany f q.1.toNat q.2
def gResult (s : List UInt8) (e a : Nat) : Got Int := if a < e ∧ (s[a]?.getD 0) = 64 then .ok (0, a + 1) else gTyp s e a
def gParts (s : List UInt8) (e : Nat) (rec : Nat → Bool → Nat → Nat → Except Int ((Il × Bool × Nat) × Nat)) (op : Int) (depth left a : Nat) : Except Int ((One × Nat) × Nat) :=
 if formV op = 1 then (if op = 63 ∨ op = 64 then (gIs s e a 0).bind fun q => .ok ((⟨op, 0, 0, 0, [], .nil, .nil⟩, left), q.2) else .ok ((⟨op, 0, 0, 0, [], .nil, .nil⟩, left), a))
 else if formV op = 2 ∨ formV op = 3 then (gResult s e a).bind fun q => (rec (depth + 1) (op == 4) left q.2).bind fun b =>
  if b.1.2.1 = true then (rec (depth + 1) false b.1.2.2 b.2).bind fun c => .ok ((⟨op, q.1, 0, 0, [], b.1.1, c.1.1⟩, c.1.2.2), c.2)
  else .ok ((⟨op, q.1, 0, 0, [], b.1.1, .nil⟩, b.1.2.2), b.2)
 else if formV op = 4 ∨ formV op = 6 then (gU s e a).bind fun q => .ok ((⟨op, q.1, 0, 0, [], .nil, .nil⟩, left), q.2)
 else if formV op = 5 then (gEach s e a (gU s e)).bind fun l => (gU s e l.2).bind fun q => .ok ((⟨op, q.1, 0, 0, l.1, .nil, .nil⟩, left), q.2)
 else if formV op = 7 then (gU s e a).bind fun q => (gIs s e q.2 0).bind fun z => .ok ((⟨op, q.1, 0, 0, [], .nil, .nil⟩, left), z.2)
 else if formV op = 8 then (gU s e a).bind fun q => (gU s e q.2).bind fun z => .ok ((⟨op, q.1, z.1, 0, [], .nil, .nil⟩, left), z.2)
 else if formV op = 9 then (if op = 65 then (gS32 s e a).bind fun q => .ok ((⟨op, 0, 0, q.1, [], .nil, .nil⟩, left), q.2) else (gS64 s e a).bind fun q => .ok ((⟨op, 0, 0, q.1, [], .nil, .nil⟩, left), q.2))
 else .ok ((⟨op, 0, 0, 0, [], .nil, .nil⟩, left), a)
def gList (s : List UInt8) (e : Nat) : Nat → Nat → Bool → Nat → Nat → Except Int ((Il × Bool × Nat) × Nat)
 | 0, _, _, _, _ => .error 50
 | k + 1, depth, halves, left, a => (gByte s e a).bind fun q =>
   if q.1 = 11 ∨ (q.1 = 5 ∧ halves = true) then .ok ((.nil, q.1 == 5, left), q.2)
   else if formV q.1 = 0 then .error 50
   else if formV q.1 = 10 then .error 51
   else if left = 0 then .error 3
   else if 64 < depth then .error 4
   else (gParts s e (gList s e k) q.1 depth (left - 1) q.2).bind fun r => (gList s e k depth halves r.1.2 r.2).bind fun t =>
    .ok ((.cons q.1 r.1.1.x r.1.1.y r.1.1.n r.1.1.ls r.1.1.body r.1.1.els t.1.1, t.1.2.1, t.1.2.2), t.2)
def gLimits (s : List UInt8) (e a : Nat) : Got (Int × Int × Bool) := (gFlag s e a).bind fun f => (gU s e f.2).bind fun n =>
 if f.1 = true then (gU s e n.2).bind fun x => .ok ((n.1, x.1, true), x.2) else .ok ((n.1, 0, false), n.2)
def gConst (s : List UInt8) (e a : Nat) : Got One := (gByte s e a).bind fun q =>
 if formV q.1 = 10 then .error 51
 else if q.1 = 65 ∨ q.1 = 66 ∨ q.1 = 35 then (gParts s e (fun _ _ _ _ => .error 50) q.1 0 0 q.2).bind fun r => (gIs s e r.2 11).bind fun z => .ok (r.1.1, z.2)
 else .error 50
def gType (s : List UInt8) (e a : Nat) : Got (List Int × List Int) := (gIs s e a 96).bind fun z => (gEach s e z.2 (gTyp s e)).bind fun p => (gEach s e p.2 (gTyp s e)).bind fun r => .ok ((p.1, r.1), r.2)
def gImport (s : List UInt8) (e a : Nat) : Got (ByteArray × ByteArray × Int) := (gName s e a).bind fun p => (gName s e p.2).bind fun n => (gIs s e n.2 0).bind fun z => (gU s e z.2).bind fun t => .ok ((mkb p.1, mkb n.1, t.1), t.2)
def gTable (s : List UInt8) (e a : Nat) : Got (Int × Int × Bool) := (gIs s e a 112).bind fun z => gLimits s e z.2
def gGlobal (s : List UInt8) (e a : Nat) : Got (Int × Bool × One) := (gTyp s e a).bind fun t => (gFlag s e t.2).bind fun f => (gConst s e f.2).bind fun c => .ok ((t.1, f.1, c.1), c.2)
def gExport (s : List UInt8) (e a : Nat) : Got (ByteArray × Int × Int) := (gName s e a).bind fun n => (gByte s e n.2).bind fun k => if k.1 ≤ 3 then (gU s e k.2).bind fun i => .ok ((mkb n.1, k.1, i.1), i.2) else .error 50
def gElem (s : List UInt8) (e a : Nat) : Got (One × List Int) := (gIs s e a 0).bind fun z => (gConst s e z.2).bind fun c => (gEach s e c.2 (gU s e)).bind fun l => .ok ((c.1, l.1), l.2)
def gData (s : List UInt8) (e a : Nat) : Got (One × ByteArray) := (gIs s e a 0).bind fun z => (gConst s e z.2).bind fun c => (gText s e c.2).bind fun t => .ok ((c.1, mkb t.1), t.2)
def gRuns (s : List UInt8) (e : Nat) : Nat → List Int → Nat → Got (List Int)
 | 0, l, a => .ok (l, a)
 | k + 1, l, a => (gU s e a).bind fun n => if n.1 ≤ 256 - (l.length : Int) then (gTyp s e n.2).bind fun t => gRuns s e k (l ++ List.replicate n.1.toNat t.1) t.2 else .error 3
def gLong {α : Type} (s : List UInt8) (e a : Nat) (f : Nat → Nat → Got α) : Got α := (gU s e a).bind fun n => (f (min (n.2 + n.1.toNat) e) n.2).bind fun r => if r.2 = n.2 + n.1.toNat then .ok r else .error 50
def gCode (s : List UInt8) (left e a : Nat) : Got ((List Int × Il) × Nat) := gLong s e a fun e a => (gCount s e a).bind fun n => (gRuns s e n.1.toNat [] n.2).bind fun l => (gList s e (e + 1) 0 false left l.2).bind fun b => .ok (((l.1, b.1.1), b.1.2.2), b.2)
def gCodes (s : List UInt8) (e : Nat) : List Int → Nat → Nat → Got (List (Int × List Int × Il))
 | [], _, a => .ok ([], a)
 | t :: r, left, a => (gCode s left e a).bind fun c => (gCodes s e r c.1.2 c.2).bind fun l => .ok ((t, c.1.1.1, c.1.1.2) :: l.1, l.2)
def gSection (s : List UInt8) (id : Nat) (m : Md) (e a : Nat) : Got Md :=
 match id with
 | 0 => (gText s e a).bind fun t => if Lib.validD t.1 = true then .ok (m, e) else .error 50
 | 1 => (gEach s e a (gType s e)).bind fun l => .ok ({ m with types := m.types ++ l.1 }, l.2)
 | 2 => (gEach s e a (gImport s e)).bind fun l => .ok ({ m with imports := m.imports ++ l.1 }, l.2)
 | 3 => (gEach s e a (gU s e)).bind fun l => .ok ({ m with funcs := m.funcs ++ l.1.map fun t => (t, [], .nil) }, l.2)
 | 4 => (gEach s e a (gTable s e)).bind fun l => .ok ({ m with tables := m.tables ++ l.1 }, l.2)
 | 5 => (gEach s e a (gLimits s e)).bind fun l => .ok ({ m with mems := m.mems ++ l.1 }, l.2)
 | 6 => (gEach s e a (gGlobal s e)).bind fun l => .ok ({ m with globals := m.globals ++ l.1 }, l.2)
 | 7 => (gEach s e a (gExport s e)).bind fun l => .ok ({ m with exports := m.exports ++ l.1 }, l.2)
 | 8 => (gU s e a).bind fun n => .ok ({ m with start := m.start ++ [n.1] }, n.2)
 | 9 => (gEach s e a (gElem s e)).bind fun l => .ok ({ m with elems := m.elems ++ l.1 }, l.2)
 | 10 => (gCount s e a).bind fun n => if n.1 = m.funcs.length then (gCodes s e (m.funcs.map (·.1)) 65536 n.2).bind fun l => .ok ({ m with funcs := l.1 }, l.2) else .error 50
 | _ => (gEach s e a (gData s e)).bind fun l => .ok ({ m with datas := m.datas ++ l.1 }, l.2)
def gSections (s : List UInt8) : Nat → Nat → Bool → Md → Nat → Except Int Md
 | 0, _, _, _, _ => .error 50
 | k + 1, last, coded, m, a =>
   if a < s.length then (gByte s s.length a).bind fun b =>
    if b.1 < 12 ∧ (b.1 = 0 ∨ (last : Int) < b.1) then (gLong s s.length b.2 (gSection s b.1.toNat m)).bind fun r => gSections s k (max last b.1.toNat) (coded || b.1 == 10) r.1 r.2
    else .error 50
   else if coded = true ∨ m.funcs = [] then .ok m else .error 50
def gHead (s : List UInt8) : List UInt8 → Nat → Got Unit
 | [], a => .ok ((), a)
 | b :: r, a => (gIs s s.length a (b.toNat : Int)).bind fun z => gHead s r z.2
def md0 : Md := ⟨[], [], [], [], [], [], [], [], [], []⟩
def gModule (s : List UInt8) : Except Int Md := if 262144 < s.length then .error 2 else (gHead s [0, 97, 115, 109, 1, 0, 0, 0] 0).bind fun z => gSections s (s.length + 1) 0 false md0 z.2
def gv : List UInt8 → Nat
 | [] => 0
 | b :: r => b.toNat % 128 + 128 * gv r
theorem gv_lt : ∀ l : List UInt8, gv l < 2 ^ (7 * l.length)
 | [] => by simp [gv]
 | b :: r => by
   have h := gv_lt r
   have e : 2 ^ (7 * (b :: r).length) = 128 * 2 ^ (7 * r.length) := by rw [List.length_cons, Nat.mul_add, Nat.pow_add]; omega
   rw [e]; unfold gv; omega
theorem gv_snoc : ∀ (l : List UInt8) (b : UInt8), gv (l ++ [b]) = gv l + 2 ^ (7 * l.length) * (b.toNat % 128)
 | [], b => by simp [gv]
 | c :: r, b => by
   have e : 2 ^ (7 * (c :: r).length) = 128 * 2 ^ (7 * r.length) := by rw [List.length_cons, Nat.mul_add, Nat.pow_add]; omega
   rw [List.cons_append, gv, gv_snoc r b, gv, e, Nat.mul_add, Nat.mul_assoc]; omega
theorem take_snoc2 {l : List UInt8} {j : Nat} {b : UInt8} (h : l[j]? = some b) : l.take (j + 1) = l.take j ++ [b] := by rw [List.take_add_one, h]; rfl
theorem grp_at : ∀ (K : Nat) (l : List UInt8) (j : Nat), j ≤ K → (∀ i b, i < j → l[i]? = some b → 128 ≤ b.toNat) → j ≤ l.length →
 (j = K ∨ l.length = j → grp K l = none) ∧ (∀ b, j < K → l[j]? = some b → b.toNat < 128 → grp K l = some (gv (l.take (j + 1)), j + 1))
 | 0, l, j, hj, _, _ => by
   obtain rfl : j = 0 := by omega
   exact ⟨fun _ => rfl, fun b h => by omega⟩
 | K + 1, [], j, hj, _, hl => by
   obtain rfl : j = 0 := by simpa using hl
   exact ⟨fun _ => rfl, fun b _ h => by simp at h⟩
 | K + 1, c :: r, 0, hj, _, _ => by
   refine ⟨fun h => ?_, fun b _ h hb => ?_⟩
   · rcases h with h | h
     · omega
     · simp at h
   · simp only [List.getElem?_cons_zero, Option.some.injEq] at h; subst h; unfold grp; rw [if_pos hb]; simp [gv]; omega
 | K + 1, c :: r, j + 1, hj, hall, hl => by
   have hc := hall 0 c (by omega) rfl; have ih := grp_at K r j (by omega) (fun i b hi h => hall (i + 1) b (by omega) h) (by simpa using hl); unfold grp; rw [if_neg (by omega)]; refine ⟨fun h => ?_, fun b h1 h hb => ?_⟩
   · rw [ih.1 (by rcases h with h | h
                  · left; omega
                  · right; simpa using h)]
     rfl
   · rw [ih.2 b (by omega) (by simpa using h) hb]; have := c.toNat_lt; simp only [Option.map_some, List.take_succ_cons, gv, Option.some.injEq, Prod.mk.injEq, and_true]; omega
theorem or_low {n x j : Nat} (h : n < 2 ^ j) : n ||| (x * 2 ^ j) = n + x * 2 ^ j := by rw [Nat.or_comm, Nat.mul_comm, ← Nat.two_pow_add_eq_or_of_lt h, Nat.add_comm]
theorem group_more {n x j : Nat} (hn : n < 2 ^ (7 * j)) (hx : x < 128) (hj : j ≤ 9) : (n % 18446744073709551616) ||| ((x * 2 ^ (7 * j)) % 18446744073709551616) = (n + x * 2 ^ (7 * j)) % 18446744073709551616 := by
 by_cases h9 : j = 9
 · subst h9; have e : (2 : Nat) ^ (7 * 9) = 9223372036854775808 := (by decide)
   rw [e] at hn ⊢; have h1 : n % 18446744073709551616 = n := Nat.mod_eq_of_lt (by omega)
   have h2 : x * 9223372036854775808 % 18446744073709551616 = (x % 2) * 2 ^ 63 := by
    have : (2 : Nat) ^ 63 = 9223372036854775808 := (by decide)
    omega
   have h3 : (2 : Nat) ^ 63 = 9223372036854775808 := (by decide)
   rw [h1, h2, or_low (by rw [h3]; exact hn), h3]; omega
 · have hp : 2 ^ (7 * j) ≤ 2 ^ 56 := Nat.pow_le_pow_right (by decide) (by omega); have e : (2 : Nat) ^ 56 = 72057594037927936 := (by decide)
   rw [e] at hp; have hm : x * 2 ^ (7 * j) ≤ 127 * 72057594037927936 := Nat.mul_le_mul (by omega) hp; rw [Nat.mod_eq_of_lt (by omega : n < 18446744073709551616), Nat.mod_eq_of_lt (by omega : x * 2 ^ (7 * j) < 18446744073709551616), or_low hn, Nat.mod_eq_of_lt (by omega)]
theorem sgn_up {n c : Nat} (hc : 1 ≤ c) (h9 : c ≤ 9) (hn : n < 2 ^ (7 * c)) :
 (if (n * 2 ^ (64 - 7 * c)) % 18446744073709551616 < 9223372036854775808 then (((n * 2 ^ (64 - 7 * c)) % 18446744073709551616 : Nat) : Int) else (((n * 2 ^ (64 - 7 * c)) % 18446744073709551616 : Nat) : Int) - 18446744073709551616) / ((2 ^ (64 - 7 * c) : Nat) : Int) = sgn n c := by
 unfold sgn; have : c = 1 ∨ c = 2 ∨ c = 3 ∨ c = 4 ∨ c = 5 ∨ c = 6 ∨ c = 7 ∨ c = 8 ∨ c = 9 := (by omega)
 rcases this with rfl | rfl | rfl | rfl | rfl | rfl | rfl | rfl | rfl <;> simp only [Nat.reduceMul, Nat.reduceSub, Nat.reducePow] at hn ⊢ <;> (repeat' split) <;> omega
end Go.Proofs.YtkbfjkbokifgkaaGreatDoor
