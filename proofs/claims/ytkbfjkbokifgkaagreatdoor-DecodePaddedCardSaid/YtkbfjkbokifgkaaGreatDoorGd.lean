/- Numbers in groups of seven bits. -/
import Derived.Test.YtkbfjkbokifgkaaGreatDoorGa
import Derived.Laws.BytesArg
import Derived.Test.YtkbfjkbokifgkaaGreatDoorMa
import Derived.Laws.Bits64
import Derived.Test.YtkbfjkbokifgkaaGreatDoorFa
import Derived.Test.YtkbfjkbokifgkaaGreatDoorFc
import Derived.Deep.Cut
import Derived.Deep.RegionLaw
import Derived.Test.YtkbfjkbokifgkaaGreatDoorDv
import Derived.StillTailTactics
import Derived.Outline
import Derived.Test.YtkbfjkbokifgkaaGreatDoorMk
namespace Go.Proofs.YtkbfjkbokifgkaaGreatDoor
open Go.RowKit
set_option linter.unusedVariables false
set_option linter.unusedSimpArgs false
def lebU (n : Nat) : List UInt8 := if h : n < 128 then [UInt8.ofNat n] else UInt8.ofNat (n % 128 + 128) :: lebU (n / 128)
termination_by n
decreasing_by omega
theorem lebU_last {n : Nat} (h : n < 128) : lebU n = [UInt8.ofNat n] := by rw [lebU, dif_pos h]
theorem lebU_more {n : Nat} (h : ¬ n < 128) : lebU n = UInt8.ofNat (n % 128 + 128) :: lebU (n / 128) := by rw [lebU, dif_neg h]
theorem lebU_len : ∀ (k n : Nat), n < 128 ^ (k + 1) → (lebU n).length ≤ k + 1
 | 0, n, h => by
   rw [lebU_last (by simpa using h)]; simp
 | k + 1, n, h => by
   by_cases hn : n < 128
   · rw [lebU_last hn]; simp
   · rw [lebU_more hn, List.length_cons]
     have := lebU_len k (n / 128) (by
      rw [Nat.div_lt_iff_lt_mul (by omega)]; rw [Nat.pow_succ] at h; exact h)
     omega
theorem lebU_ten {n : Nat} (h : n < 18446744073709551616) : (lebU n).length ≤ 10 := lebU_len 9 n (by
 have : (128 : Nat) ^ 10 = 1180591620717411303424 := (by decide)
 omega)
def lebS (n : Int) : List UInt8 := if h : -64 ≤ n ∧ n ≤ 63 then [UInt8.ofNat (n % 128).toNat] else UInt8.ofNat ((n % 128).toNat + 128) :: lebS (n / 128)
termination_by n.natAbs
decreasing_by omega
theorem lebS_last {n : Int} (h : -64 ≤ n ∧ n ≤ 63) : lebS n = [UInt8.ofNat (n % 128).toNat] := by rw [lebS, dif_pos h]
theorem lebS_more {n : Int} (h : ¬ (-64 ≤ n ∧ n ≤ 63)) : lebS n = UInt8.ofNat ((n % 128).toNat + 128) :: lebS (n / 128) := by rw [lebS, dif_neg h]
theorem lebS_len : ∀ (k : Nat) (n b : Int), b = 64 * 128 ^ k → -b ≤ n → n < b → (lebS n).length ≤ k + 1
 | 0, n, b, hb, h1, h2 => by
   rw [lebS_last (by simp at hb; omega)]; simp
 | k + 1, n, b, hb, h1, h2 => by
   by_cases hn : -64 ≤ n ∧ n ≤ 63
   · rw [lebS_last hn]; simp
   · rw [lebS_more hn, List.length_cons]; have e : b = 64 * 128 ^ k * 128 := (by rw [hb, Int.pow_succ, Int.mul_assoc])
     obtain ⟨c, hc⟩ : ∃ c : Int, c = 64 * 128 ^ k := ⟨_, rfl⟩
     rw [← hc] at e; have := lebS_len k (n / 128) c hc (by omega) (by omega); omega
theorem lebS_ten {n : Int} (h1 : -9223372036854775808 ≤ n) (h2 : n ≤ 9223372036854775807) : (lebS n).length ≤ 10 := lebS_len 9 n _ rfl (by
 have : (64 * 128 ^ 9 : Int) = 590295810358705651712 := (by decide)
 omega) (by
 have : (64 * 128 ^ 9 : Int) = 590295810358705651712 := (by decide)
 omega)
theorem or_128 (m : Nat) : bits BinOp.or .u8 ((m : Int) % 256) 128 = ((UInt8.ofNat (m % 128 + 128)).toNat : Int) := by
 have h : ∀ r : Fin 256, bits BinOp.or .u8 ((r.val : Nat) : Int) 128 = ((r.val % 128 + 128 : Nat) : Int) := (by decide +kernel)
 have := h ⟨m % 256, by omega⟩; simp only at this; have e : ((m % 256 : Nat) : Int) = (m : Int) % 256 := (by omega)
 rw [e] at this; rw [this]; have e2 : m % 256 % 128 = m % 128 := (by omega)
 rw [e2, UInt8.toNat_ofNat']; congr 1; omega
theorem or_128i (m : Int) : bits BinOp.or .u8 (m % 256) 128 = ((UInt8.ofNat ((m % 128).toNat + 128)).toNat : Int) := by
 have := or_128 (m % 256).toNat; have e : (((m % 256).toNat : Int) % 256) = m % 256 := (by omega)
 rw [e] at this; rw [this]; congr 4; omega
theorem and_127i (m : Int) : bits BinOp.and .u8 (m % 256) 127 = ((UInt8.ofNat (m % 128).toNat).toNat : Int) := by
 have h : ∀ r : Fin 256, bits BinOp.and .u8 ((r.val : Nat) : Int) 127 = ((r.val % 128 : Nat) : Int) := (by decide +kernel)
 have := h ⟨(m % 256).toNat, by omega⟩; simp only at this; have e : (((m % 256).toNat : Nat) : Int) = m % 256 := (by omega)
 rw [e] at this; rw [this, UInt8.toNat_ofNat']; congr 1; omega
theorem u8_small {m : Nat} (h : m < 256) : (m : Int) = ((UInt8.ofNat m).toNat : Int) := by rw [UInt8.toNat_ofNat']; congr 1; omega
theorem conv_own {w : World} {base : Nat} {v : Value} {n : Nat} {l : List UInt8} (h : w.ownsRow base 5 1 v n (cb l)) : (convert 54 9 v).run Tryz.prog w = .ok (.string (mks l)) w := by
 have hn : l.length = n := (by simpa [cb] using h.1)
 rcases h.2 with ⟨rfl, h0⟩ | ⟨g, cap, cur, rfl, _⟩
 · have : l = [] := List.eq_nil_of_length_eq_zero (by omega); subst this; exact run_convert_bytes_nil w 54 5 Tryz.underlying54 Tryz.underlying5 0 0 9 Tryz.underlying9
 · subst hn
   exact run_convert_bytes_back w 54 9 5 ⟨g, 0, none⟩ cap l Tryz.underlying54 Tryz.underlying5 Tryz.underlying9 (fun j hj => by
    have := h.cells (g := g) rfl j (.int .u8 (l[j].toNat : Int)) (by simp [cb, hj]); exact this)
def b1 (n : Int) : UInt8 := UInt8.ofNat (n % 256).toNat
def uB (n : Int) : List UInt8 := lebU (n % 18446744073709551616).toNat
theorem b1_val (n : Int) : n % 256 = ((b1 n).toNat : Int) := by unfold b1; rw [UInt8.toNat_ofNat']; omega
theorem uB_len (n : Int) : (uB n).length ≤ 10 := lebU_ten (by omega)
theorem strl_mks_len (l : List UInt8) : (mks l).size = l.length := rfl
theorem Tr.cell {p : Nat} {v v' : Value} {w w' : World} (h : Tr p v v' w w') {a : Addr} {u : Value} (hp : a.block ≠ p) (hv : v.ownBlock ≠ some a.block) (hc : w.cell? a = some u) : w'.cell? a = some u :=
 (World.cell?_of_block (h.block a.block (World.block_lt_of_cell? w a hc) hp hv)).trans hc
def BIn (w : World) (v2 : Value) (l : List UInt8) : Prop :=
 (v2 = .slice none 0 0 ∧ l = []) ∨ ∃ g c, v2 = .slice (some ⟨g, 0, none⟩) l.length c ∧ ∀ j (hj : j < l.length), w.cell? ⟨g, j, none⟩ = some (.int .u8 (l[j].toNat : Int))
theorem BIn.conv {w : World} {v2 : Value} {l : List UInt8} (h : BIn w v2 l) : (convert 54 9 v2).run Tryz.prog w = .ok (.string (mks l)) w := by
 rcases h with ⟨rfl, rfl⟩ | ⟨g, c, rfl, hc⟩
 · exact run_convert_bytes_nil w 54 5 Tryz.underlying54 Tryz.underlying5 0 0 9 Tryz.underlying9
 · exact run_convert_bytes_back w 54 9 5 ⟨g, 0, none⟩ c l Tryz.underlying54 Tryz.underlying5 Tryz.underlying9 (fun j hj => by simpa [Addr.add_lit] using hc j hj)
section
variable {N p : Nat} {w : World} {mv : List Value} {v : Value} {s : WS}
end
def numsC (l : List Int) : List (List UInt8) := uB l.length :: l.map uB
def bytsC (l : List Int) : List (List UInt8) := uB l.length :: l.map fun n => [b1 n]
def Vw (V : World) (p : Nat) (v : Value) (w : World) : Prop := ∀ a u, V.cell? a = some u → w.cell? a = some u ∧ a.block ≠ p ∧ v.ownBlock ≠ some a.block
theorem Vw.keeps {V w : World} {p : Nat} {v : Value} (h : Vw V p v w) : ∀ a u, V.cell? a = some u → w.cell? a = some u := fun a u hc => (h a u hc).1
theorem Vw.tr {V w w' : World} {p : Nat} {v v' : Value} (h : Vw V p v w) (ht : Tr p v v' w w') : Vw V p v' w' := fun a u hc => by
 obtain ⟨h1, h2, h3⟩ := h a u hc; refine ⟨ht.cell h2 h3 h1, h2, ?_⟩
 rcases ht.own with e | e
 · rw [e]; exact h3
 · intro e2; have := e _ e2; have := World.block_lt_of_cell? w a h1; omega
theorem IntsIn.old {w0 w : World} {p : Nat} {v : Value} {a : Option Addr} {l : List Int} (h : IntsIn w0 a l) (hb : Vw w0 p v w) : IntsIn w a l := h.keep hb.keeps
section
variable {N : Nat} {w0 : World} {p : Nat} {w : World} {mv : List Value} {v : Value} {s : WS}
end
def wTail (f op x y n : Int) (ls : List Int) (elen : Nat) (B E : WS → WS) (s : WS) : WS :=
 if f = 1 then (if op = 63 ∨ op = 64 then put [b1 0] s else s)
 else if f = 2 ∨ f = 3 then
  put [b1 11] (if 0 < elen then E (put [b1 5] (B (put [b1 (if x = 0 then 64 else x)] s))) else B (put [b1 (if x = 0 then 64 else x)] s))
 else if f = 4 ∨ f = 6 then put (uB x) s
 else if f = 5 then put (uB x) (puts (numsC ls) s)
 else if f = 7 then put [b1 0] (put (uB x) s)
 else if f = 8 then put (uB y) (put (uB x) s)
 else if f = 9 then put (lebS n) s
 else s
def wl : Il → WS → WS
 | .nil, s => s
 | .cons op x y n ls b e r, s => if 1048576 < s.n then s else wl r (wTail (formV op) op x y n ls e.len (wl b) (wl e) (put [b1 op] s))
def cl : Il → Nat
 | .nil => 0
 | .cons op x y n ls b e r => 40 + 10 * ls.length + cl b + cl e + cl r
theorem formV_range (op : Int) : 0 ≤ formV op ∧ formV op ≤ 10 := by unfold formV; constructor <;> (repeat' split) <;> omega
theorem formV_cases (op : Int) : formV op = 0 ∨ formV op = 1 ∨ formV op = 2 ∨ formV op = 3 ∨ formV op = 4 ∨ formV op = 5 ∨ formV op = 6 ∨ formV op = 7 ∨ formV op = 8 ∨ formV op = 9 ∨ formV op = 10 := by have := formV_range op; omega
def nOk : Il → Prop
 | .nil => True
 | .cons _ _ _ n _ b e r => (-9223372036854775808 ≤ n ∧ n ≤ 9223372036854775807) ∧ nOk b ∧ nOk e ∧ nOk r
theorem Tr.box {p : Nat} {v v' : Value} {w w' : World} (h : Tr p v v' w w') {q : Nat} {vs : Array Value} (hp : q ≠ p) (hv : v.ownBlock ≠ some q) (hb : Box w q vs) : Box w' q vs := fun j u hu => h.cell hp hv (hb j u hu)
def fo {α : Type} (f : α → WS → WS) (l : List α) (s : WS) : WS := l.foldl (fun s x => f x s) s
def cs {α : Type} (c : α → Nat) (l : List α) : Nat := (l.map c).sum
def lg (l : List UInt8) (s : WS) : WS := put l (put (uB l.length) s)
def wEx (l : Il) (s : WS) : WS := put [b1 11] (wl l s)
def wLim (t : Int × Int × Bool) (s : WS) : WS := if t.2.2 = true then put (uB t.2.1) (put (uB t.1) (put [b1 1] s)) else put (uB t.1) (put [b1 0] s)
theorem one_view {w0 w : World} {p q : Nat} {v : Value} {op x y n : Int} {ls : List Int} {body els : Il} {u4 u5 u6 : Option Addr} {r4 r5 r6 : Nat} (hv : Vw w0 p v w) (hb : Box w q #[.int .i64 op, .int .i64 x, .int .i64 y, .int .i64 n, .slice u4 ls.length r4, .slice u5 body.len r5, .slice u6 els.len r6]) (hp : q ≠ p) (hq : v.ownBlock ≠ some q)
 (i4 : IntsIn w0 u4 ls) (l5 : body.len ≤ 9223372036854775807) (i5 : body = .nil ∨ ∃ b2 o2, u5 = some ⟨b2, o2, none⟩ ∧ IlAt w0 b2 o2 body) (l6 : els.len ≤ 9223372036854775807) (i6 : els = .nil ∨ ∃ b2 o2, u6 = some ⟨b2, o2, none⟩ ∧ IlAt w0 b2 o2 els) :
 ∃ V, Vw V p v w ∧ IlIn V (some ⟨q, 0, none⟩) 0 (Il.cons op x y n ls body els .nil) := by
 obtain ⟨V, hV⟩ : ∃ V : World, V = { w with heap := (w.heap.setIfInBounds p (.cells #[] 0 (0, 0))).setIfInBounds (v.ownBlock.getD p) (.cells #[] 0 (0, 0)) } := ⟨_, rfl⟩
 have far : ∀ k, k ≠ p → v.ownBlock ≠ some k → V.heap[k]? = w.heap[k]? := fun k hk hk2 => by
  rw [hV]; simp only; rw [Array.getElem?_setIfInBounds_ne, Array.getElem?_setIfInBounds_ne (fun e => hk e.symm)]; intro e; cases ho : v.ownBlock with
  | none => rw [ho] at e; exact hk e.symm
  | some g => rw [ho] at e hk2; exact hk2 (by rw [← e]; rfl)
 have near : ∀ a u, V.cell? a = some u → a.block ≠ p ∧ v.ownBlock ≠ some a.block := fun a u hc => by
  have hnone : ∀ k, (k = p ∨ v.ownBlock = some k) → V.heap[k]? = none ∨ V.heap[k]? = some (.cells #[] 0 (0, 0)) := fun k hk => by
   rcases Nat.lt_or_ge k V.heap.size with hlt | hge
   · right; rw [hV] at hlt ⊢; simp only [Array.size_setIfInBounds] at hlt ⊢
     by_cases e : v.ownBlock.getD p = k
     · rw [e, Array.getElem?_setIfInBounds_self_of_lt (by simpa using hlt)]
     · rw [Array.getElem?_setIfInBounds_ne e]
       rcases hk with rfl | hk
       · rw [Array.getElem?_setIfInBounds_self_of_lt hlt]
       · rw [hk] at e; exact absurd rfl e
   · left; exact Array.getElem?_eq_none hge
  have hno : ∀ k, (k = p ∨ v.ownBlock = some k) → a.block = k → False := fun k hk e => by
   have h0 := hnone k hk; rw [← e] at h0; unfold World.cell? at hc
   rcases h0 with h0 | h0
   · rw [h0] at hc; simp at hc
   · rw [h0] at hc; split at hc <;> simp_all
  exact ⟨fun e => hno p (.inl rfl) e, fun e => hno a.block (.inr e) rfl⟩
 have hVw : Vw V p v w := fun a u hc => by
  obtain ⟨h1, h2⟩ := near a u hc; exact ⟨(World.cell?_of_block (far a.block h1 h2)).symm.trans hc, h1, h2⟩
 have up : ∀ a u, w0.cell? a = some u → V.cell? a = some u := fun a u hc => by
  obtain ⟨h1, h2, h3⟩ := hv a u hc; exact (World.cell?_of_block (far a.block h2 h3)).trans h1
 have c : ∀ j u, (#[.int .i64 op, .int .i64 x, .int .i64 y, .int .i64 n, .slice u4 ls.length r4, .slice u5 body.len r5, .slice u6 els.len r6] : Array Value)[j]? = some u → V.cell? ⟨q, j, none⟩ = some u := fun j u hu => (World.cell?_of_block (far q hp hq)).trans (hb j u hu); refine ⟨V, hVw, .inr ⟨q, 0, rfl, ?_⟩⟩; refine ⟨⟨c 0 _ rfl, c 1 _ rfl, c 2 _ rfl, c 3 _ rfl⟩, ⟨u4, r4, c 4 _ rfl, i4.keep up⟩, ⟨u5, r5, c 5 _ rfl, l5, ?_⟩, ⟨u6, r6, c 6 _ rfl, l6, ?_⟩, trivial⟩
 · rcases i5 with e | ⟨b2, o2, e, h⟩
   · exact .inl e
   · exact .inr ⟨b2, o2, e, IlAt.keep up _ _ _ h⟩
 · rcases i6 with e | ⟨b2, o2, e, h⟩
   · exact .inl e
   · exact .inr ⟨b2, o2, e, IlAt.keep up _ _ _ h⟩
def fTypes : List Int × List Int → WS → WS := fun t s => puts (bytsC t.2) (puts (bytsC t.1) (put [b1 96] s))
def cTypes : List Int × List Int → Nat := fun t => 21 + t.1.length + t.2.length
def fImports : ByteArray × ByteArray × Int → WS → WS := fun t s => put (uB t.2.2) (put [b1 0] (lg (strl t.2.1) (lg (strl t.1) s)))
def cImports : ByteArray × ByteArray × Int → Nat := fun t => 31 + t.1.size + t.2.1.size
def fFuncs : Int × List Int × Il → WS → WS := fun t s => put (uB t.1) s
def cFuncs : Int × List Int × Il → Nat := fun t => 10
def fTables : Int × Int × Bool → WS → WS := fun t s => wLim t (put [b1 112] s)
def cTables : Int × Int × Bool → Nat := fun t => 22
def fMems : Int × Int × Bool → WS → WS := fun t s => wLim t s
def cMems : Int × Int × Bool → Nat := fun t => 21
def fGlobals : Int × Bool × One → WS → WS := fun t s => wEx t.2.2.il (put [b1 (if t.2.1 = true then 1 else 0)] (put [b1 t.1] s))
def cGlobals : Int × Bool × One → Nat := fun t => 3 + cl t.2.2.il
def fExports : ByteArray × Int × Int → WS → WS := fun t s => put (uB t.2.2) (put [b1 t.2.1] (lg (strl t.1) s))
def cExports : ByteArray × Int × Int → Nat := fun t => 21 + t.1.size
def fElems : One × List Int → WS → WS := fun t s => puts (numsC t.2) (wEx t.1.il (put [b1 0] s))
def cElems : One × List Int → Nat := fun t => 12 + 10 * t.2.length + cl t.1.il
def fDatas : One × ByteArray → WS → WS := fun t s => lg (strl t.2) (wEx t.1.il (put [b1 0] s))
def cDatas : One × ByteArray → Nat := fun t => 12 + t.2.size + cl t.1.il
theorem infoE3 : (Tryz.prog.info? 3).map (fun i => (i.zero, i.size, i.bytes)) = some (some (.int .i64 0), 1, 8) := by kernel_rfl
theorem infoE3_parts : ∃ i, Tryz.prog.info? 3 = some i ∧ i.zero = some (.int .i64 0) ∧ i.size = 1 ∧ i.bytes = 8 := by
 have h := infoE3; cases hi : Tryz.prog.info? 3 with
 | none => rw [hi] at h; cases h
 | some i => rw [hi] at h; simp only [Option.map_some, Option.some.injEq, Prod.mk.injEq] at h; exact ⟨i, rfl, h.1, h.2.1, h.2.2⟩
def ic (l : List Int) : List Value := l.map fun x => .int .i64 x
theorem ic_append (l t : List Int) : ic (l ++ t) = ic l ++ ic t := by simp [ic]
theorem ic_length (l : List Int) : (ic l).length = l.length := by simp [ic]
theorem own_set {w : World} {base n : Nat} {e : TypeId} {g cap : Nat} {xs : List Value} (h : w.ownsRow base e 1 (.slice (some ⟨g, 0, none⟩) n cap) n xs) (j : Nat) (u : Value) : (w.setCell ⟨g, j, none⟩ u).ownsRow base e 1 (.slice (some ⟨g, 0, none⟩) n cap) n (xs.set j u) := by
 refine ⟨by rw [List.length_set]; exact h.1, ?_⟩
 rcases h.2 with ⟨e1, _⟩ | ⟨g', cap', cur, e1, hg, hh, h1, h2, h3, h4⟩
 · cases e1
 · cases e1; refine .inr ⟨g, cap, cur.setIfInBounds j u, rfl, hg, heap_setCell_same w g j _ _ _ hh, h1, h2, by rw [Array.size_setIfInBounds]; exact h3, ?_⟩; rw [Array.toList_setIfInBounds, ← h4, List.take_set]
theorem own_free {w : World} {base n : Nat} {e : TypeId} {g cap : Nat} {xs : List Value} (h : w.ownsRow base e 1 (.slice (some ⟨g, 0, none⟩) n cap) n xs) (j : Nat) : w.frozen? ⟨g, j, none⟩ = false := by
 rcases h.2 with ⟨e1, _⟩ | ⟨g', cap', cur, e1, hg, hh, _⟩
 · cases e1
 · cases e1; exact frozen_of_row w g j _ _ hh
def rstep (r : List (Nat × Int)) (x : Int) : List (Nat × Int) :=
 match r with
 | [] => [(1, x)]
 | (c, t) :: r => if t = x then (c + 1, t) :: r else (1, x) :: (c, t) :: r
def rns (l : List Int) : List (Nat × Int) := l.foldl rstep []
def runs (l : List Int) : List (Nat × Int) := (rns l).reverse
def psum (R : List (Nat × Int)) : Nat := (R.map (·.1)).sum
theorem rns_take {l : List Int} {i : Nat} {x : Int} (hx : l[i]? = some x) : rns (l.take (i + 1)) = rstep (rns (l.take i)) x := by rw [rns, List.take_add_one, hx, List.foldl_append]; rfl
theorem psum_snoc (R : List (Nat × Int)) (q : Nat × Int) : psum (R ++ [q]) = psum R + q.1 := by simp [psum]
theorem rns_known (l : List Int) : ∀ i, i ≤ l.length → psum (rns (l.take i)).reverse = i ∧ (rns (l.take i)).length ≤ i ∧ (∀ j q, (rns (l.take i)).reverse[j]? = some q → l[psum ((rns (l.take i)).reverse.take j)]? = some q.2) ∧ ((i = 0 ∧ rns (l.take i) = []) ∨ ∃ k c t r, i = k + 1 ∧ l[k]? = some t ∧ rns (l.take i) = (c, t) :: r)
 | 0, _ => by
   rw [List.take_zero]; exact ⟨rfl, Nat.le_refl _, fun j q h => by simp [rns] at h, .inl ⟨rfl, rfl⟩⟩
 | i + 1, hi => by
   obtain ⟨x, hx⟩ : ∃ x, l[i]? = some x := ⟨_, List.getElem?_eq_getElem (by omega)⟩
   obtain ⟨h1, h2, h3, h4⟩ := rns_known l i (by omega); rw [rns_take hx]; generalize rns (l.take i) = rr at h1 h2 h3 h4 ⊢
   have new : ∀ rr' : List (Nat × Int), rr' = rr → psum ((1, x) :: rr').reverse = i + 1 ∧ ((1, x) :: rr').length ≤ i + 1 ∧ (∀ j q, ((1, x) :: rr').reverse[j]? = some q → l[psum (((1, x) :: rr').reverse.take j)]? = some q.2) := by
    rintro rr' rfl; rw [List.reverse_cons]; refine ⟨by rw [psum_snoc, h1], by simpa using h2, fun j q hq => ?_⟩
    by_cases hj : j < rr'.reverse.length
    · rw [List.getElem?_append_left hj] at hq; rw [List.take_append_of_le_length (by omega)]; exact h3 j q hq
    · have hlt := (List.getElem?_eq_some_iff.1 hq).1; rw [List.length_append, List.length_singleton] at hlt; have hje : j = rr'.reverse.length := (by omega)
      subst hje; rw [List.getElem?_append_right (Nat.le_refl _), Nat.sub_self] at hq; cases hq; rw [List.take_left, h1]; exact hx
   rcases h4 with ⟨rfl, rfl⟩ | ⟨k, c, t, r, rfl, hk, rfl⟩
   · obtain ⟨a1, a2, a3⟩ := new [] rfl; exact ⟨a1, a2, a3, .inr ⟨0, 1, x, [], rfl, hx, rfl⟩⟩
   · unfold rstep
     by_cases he : t = x
     · subst he; simp only [if_pos]; rw [List.reverse_cons] at h1 h3 ⊢; rw [psum_snoc] at h1; refine ⟨by rw [psum_snoc]; simp only at h1 ⊢; omega, by simpa using Nat.le_succ_of_le h2, fun j q hq => ?_, .inr ⟨k + 1, c + 1, t, r, rfl, hx, rfl⟩⟩
       by_cases hj : j < r.reverse.length
       · rw [List.getElem?_append_left hj] at hq; rw [List.take_append_of_le_length (by omega)]; have := h3 j q (by rw [List.getElem?_append_left hj]; exact hq); rw [List.take_append_of_le_length (by omega)] at this; exact this
       · have hlt := (List.getElem?_eq_some_iff.1 hq).1; rw [List.length_append, List.length_singleton] at hlt; have hje : j = r.reverse.length := (by omega)
         subst hje; rw [List.getElem?_append_right (Nat.le_refl _), Nat.sub_self] at hq; cases hq; have := h3 r.reverse.length (c, t) (by rw [List.getElem?_append_right (Nat.le_refl _), Nat.sub_self]; rfl); rw [List.take_left] at this ⊢; exact this
     · simp only [if_neg he]; obtain ⟨a1, a2, a3⟩ := new _ rfl; exact ⟨a1, a2, a3, .inr ⟨k + 1, 1, x, _, rfl, hx, rfl⟩⟩
def locF (q : Nat × Int) : List (List UInt8) := [uB q.1, [b1 q.2]]
def locC (l : List Int) : List (List UInt8) := uB (runs l).length :: (runs l).flatMap locF
section
variable {N : Nat} {w0 : World} {p : Nat} {w : World} {mv : List Value} {v : Value} {s : WS}
end
def ap (f : WS → WS) (s : WS) : WS := lg (f ⟨[], s.n⟩).l ⟨s.l, (f ⟨[], s.n⟩).n⟩
def wCode (lo : List Int) (bo : Il) (s : WS) : WS := wEx bo (puts (locC lo) s)
def cCode (lo : List Int) (bo : Il) : Nat := 11 + 11 * lo.length + cl bo
section
variable {N p : Nat} {w0 w : World} {mv : List Value} {v : Value} {s : WS}
end
def fCodes : Int × List Int × Il → WS → WS := fun t s => ap (wCode t.2.1 t.2.2) s
def cCodes : Int × List Int × Il → Nat := fun t => 2 * cCode t.2.1 t.2.2 + 10
structure PS where
 l : List UInt8
 o : Bool
structure Pen (s : PS) (B : List UInt8) (s' : PS) : Prop where
 stays : s.o = true → s'.o = true
 fits : s'.o = false → s'.l = s.l ++ B ∧ s'.l.length ≤ 524288
 goes : (s.l ++ B).length ≤ 524288 → s.o = false → s'.o = false
theorem Pen.refl {s : PS} (h : s.l.length ≤ 524288) : Pen s [] s := ⟨fun h => h, fun _ => ⟨by simp, h⟩, fun _ h => h⟩
theorem Pen.trans {s t u : PS} {B C : List UInt8} (h : Pen s B t) (k : Pen t C u) : Pen s (B ++ C) u := by
 refine ⟨fun e => k.stays (h.stays e), fun e => ?_, fun e e2 => ?_⟩
 · have ht : t.o = false := by
    cases ho : t.o with
    | false => rfl
    | true => rw [k.stays ho] at e; cases e
   obtain ⟨a1, a2⟩ := h.fits ht; obtain ⟨b1, b2⟩ := k.fits e; exact ⟨by rw [b1, a1, List.append_assoc], b2⟩
 · rw [← List.append_assoc] at e; have ht := h.goes (by rw [List.length_append] at e; omega) e2; exact k.goes (by rw [(h.fits ht).1]; exact e) ht
theorem Pen.stop {s t : PS} {B C : List UInt8} (h : Pen s B t) (ht : t.o = true) : Pen s (B ++ C) t := by refine ⟨h.stays, fun e => (by rw [ht] at e; cases e), fun e e2 => ?_⟩; have := h.goes (by rw [List.length_append] at e; rw [List.length_append] at e ⊢; omega) e2; rw [ht] at this; cases this
theorem Pen.of {s : PS} (hs : s.l.length ≤ 524288) (t : List UInt8) : Pen s t (if 524288 < s.l.length + t.length then ⟨s.l, true⟩ else ⟨s.l ++ t, s.o⟩) := by
 split
 · rename_i h; exact ⟨fun _ => rfl, fun e => (by cases e), fun e _ => by rw [List.length_append] at e; omega⟩
 · rename_i h; exact ⟨fun e => e, fun _ => ⟨rfl, by rw [List.length_append]; omega⟩, fun _ e => e⟩
def xLg (l : List UInt8) : List UInt8 := uB l.length ++ l
variable {w0 : World}
def xTail (f op x y n : Int) (ls : List Int) (elen : Nat) (B E : List UInt8) : List UInt8 :=
 if f = 1 then (if op = 63 ∨ op = 64 then [b1 0] else [])
 else if f = 2 ∨ f = 3 then [b1 (if x = 0 then 64 else x)] ++ B ++ (if 0 < elen then [b1 5] ++ E else []) ++ [b1 11]
 else if f = 4 ∨ f = 6 then uB x
 else if f = 5 then (numsC ls).flatten ++ uB x
 else if f = 7 then uB x ++ [b1 0]
 else if f = 8 then uB x ++ uB y
 else if f = 9 then lebS n
 else []
def xl : Il → List UInt8
 | .nil => []
 | .cons op x y n ls b e r => ([b1 op] ++ xTail (formV op) op x y n ls e.len (xl b) (xl e)) ++ xl r
def xi (op x y n : Int) (ls : List Int) (b e : Il) : List UInt8 := [b1 op] ++ xTail (formV op) op x y n ls e.len (xl b) (xl e)
def xEx (l : Il) : List UInt8 := xl l ++ [b1 11]
def xLim (t : Int × Int × Bool) : List UInt8 := if t.2.2 = true then ([b1 1] ++ uB t.1) ++ uB t.2.1 else [b1 0] ++ uB t.1
def xTypes (t : List Int × List Int) : List UInt8 := ([b1 96] ++ (bytsC t.1).flatten) ++ (bytsC t.2).flatten
def xImports (t : ByteArray × ByteArray × Int) : List UInt8 := ((xLg (strl t.1) ++ xLg (strl t.2.1)) ++ [b1 0]) ++ uB t.2.2
def xFuncs (t : Int × List Int × Il) : List UInt8 := uB t.1
def xTables (t : Int × Int × Bool) : List UInt8 := [b1 112] ++ xLim t
def xGlobals (t : Int × Bool × One) : List UInt8 := ([b1 t.1] ++ [b1 (if t.2.1 = true then 1 else 0)]) ++ xEx t.2.2.il
def xExports (t : ByteArray × Int × Int) : List UInt8 := (xLg (strl t.1) ++ [b1 t.2.1]) ++ uB t.2.2
def xElems (t : One × List Int) : List UInt8 := ([b1 0] ++ xEx t.1.il) ++ (numsC t.2).flatten
def xDatas (t : One × ByteArray) : List UInt8 := ([b1 0] ++ xEx t.1.il) ++ xLg (strl t.2)
def xLoc (l : List Int) : List UInt8 := (locC l).flatten
def xCodes (t : Int × List Int × Il) : List UInt8 := xLg (xLoc t.2.1 ++ xEx t.2.2)
def xSec {α : Type} (b : α → List UInt8) (l : List α) : List UInt8 := uB l.length ++ l.flatMap b
def xStart (l : List Int) : List UInt8 := (l.map uB).flatten
def wStart (l : List Int) (s : WS) : WS := puts (l.map uB) s
structure Sc where
 some : Bool
 f : WS → WS
 x : List UInt8
def scs (m : Md) : List Sc := [
 ⟨decide (0 < m.types.length), fun s => fo fTypes m.types (put (uB m.types.length) s), xSec xTypes m.types⟩,
 ⟨decide (0 < m.imports.length), fun s => fo fImports m.imports (put (uB m.imports.length) s), xSec xImports m.imports⟩,
 ⟨decide (0 < m.funcs.length), fun s => fo fFuncs m.funcs (put (uB m.funcs.length) s), xSec xFuncs m.funcs⟩,
 ⟨decide (0 < m.tables.length), fun s => fo fTables m.tables (put (uB m.tables.length) s), xSec xTables m.tables⟩,
 ⟨decide (0 < m.mems.length), fun s => fo fMems m.mems (put (uB m.mems.length) s), xSec xLim m.mems⟩,
 ⟨decide (0 < m.globals.length), fun s => fo fGlobals m.globals (put (uB m.globals.length) s), xSec xGlobals m.globals⟩,
 ⟨decide (0 < m.exports.length), fun s => fo fExports m.exports (put (uB m.exports.length) s), xSec xExports m.exports⟩,
 ⟨decide (0 < m.start.length), wStart m.start, xStart m.start⟩,
 ⟨decide (0 < m.elems.length), fun s => fo fElems m.elems (put (uB m.elems.length) s), xSec xElems m.elems⟩,
 ⟨decide (0 < m.funcs.length), fun s => fo fCodes m.funcs (put (uB m.funcs.length) s), xSec xCodes m.funcs⟩,
 ⟨decide (0 < m.datas.length), fun s => fo fDatas m.datas (put (uB m.datas.length) s), xSec xDatas m.datas⟩]
def xScs : Nat → List Sc → List UInt8
 | _, [] => []
 | i, c :: r => (if c.some = true then b1 ((i : Int) + 1) :: xLg c.x else []) ++ xScs (i + 1) r
def headB : List UInt8 := [0, 97, 115, 109, 1, 0, 0, 0]
def xMd (m : Md) : List UInt8 := headB ++ xScs 0 (scs m)
structure Fit (m : Md) : Prop where
 types : cs cTypes m.types ≤ 1152921504606846976
 imports : cs cImports m.imports ≤ 1152921504606846976
 funcs : cs cFuncs m.funcs ≤ 1152921504606846976
 tables : cs cTables m.tables ≤ 1152921504606846976
 mems : cs cMems m.mems ≤ 1152921504606846976
 globals : cs cGlobals m.globals ≤ 1152921504606846976
 exports : cs cExports m.exports ≤ 1152921504606846976
 start : 10 * m.start.length ≤ 1152921504606846976
 elems : cs cElems m.elems ≤ 1152921504606846976
 codes : cs cCodes m.funcs ≤ 1152921504606846976
 datas : cs cDatas m.datas ≤ 1152921504606846976
 ng : ∀ t ∈ m.globals, nOk t.2.2.il
 ne : ∀ t ∈ m.elems, nOk t.1.il
 nd : ∀ t ∈ m.datas, nOk t.1.il
 nf : ∀ t ∈ m.funcs, nOk t.2.2
 lo : ∀ t ∈ m.funcs, t.2.1.length ≤ 65536
 one : m.start.length ≤ 1
def encE (m : Md) : Int := if checkV m = 0 then (if (xMd m).length ≤ 262144 then 0 else 2) else checkV m
def encB (m : Md) : List UInt8 := if checkV m = 0 then (if (xMd m).length ≤ 262144 then xMd m else []) else []
structure NOk (m : Md) : Prop where
 ng : ∀ t ∈ m.globals, nOk t.2.2.il
 ne : ∀ t ∈ m.elems, nOk t.1.il
 nd : ∀ t ∈ m.datas, nOk t.1.il
 nf : ∀ t ∈ m.funcs, nOk t.2.2
theorem cs_le {α : Type} (c : α → Nat) (K : Nat) : ∀ {l : List α}, (∀ x ∈ l, c x ≤ K) → cs c l ≤ K * l.length
 | [], _ => by simp [cs]
 | y :: l, h => by
   have e : cs c (y :: l) = c y + cs c l := (by simp [cs])
   have h1 := h y (List.mem_cons_self ..); have h2 := cs_le c K (l := l) fun x hx => h x (List.mem_cons_of_mem _ hx); rw [e, List.length_cons, Nat.mul_add, Nat.mul_one]; omega
theorem cs_60 {α : Type} (c : α → Nat) (K : Nat) {l : List α} (h : ∀ x ∈ l, c x ≤ K) (hl : l.length ≤ 4096) (hK : K ≤ 281474976710656) : cs c l ≤ 1152921504606846976 := by have h1 := cs_le c K h; have h2 : K * l.length ≤ 281474976710656 * 4096 := Nat.mul_le_mul hK hl; omega
theorem cl_cnt : ∀ (l : Il) (left : Int), 0 ≤ left → lab l = true → 0 ≤ cnt l left → (cl l : Int) ≤ 41000 * (left - cnt l left)
 | .nil, left, _, _, _ => by simp [cl, cnt]
 | .cons op x y n ls body els rest, left, h, hl, hc => by
   unfold lab at hl; simp only [Bool.and_eq_true, decide_eq_true_eq] at hl; obtain ⟨l1, l2, l3, l4⟩ := hl; unfold cnt at hc ⊢; simp only at hc ⊢
   by_cases h0 : 0 ≤ left - 1
   · rw [if_pos h0] at hc ⊢; have b1 := cnt_bd body (left - 1) h0; have c1 := cl_cnt body (left - 1) h0 l2; generalize cnt body (left - 1) = x1 at hc b1 c1 ⊢
     by_cases h1 : 0 ≤ x1
     · rw [if_pos h1] at hc ⊢; have b2 := cnt_bd els x1 h1; have c2 := cl_cnt els x1 h1 l3; generalize cnt els x1 = x2 at hc b2 c2 ⊢
       by_cases h2 : x2 < 0
       · rw [if_pos h2] at hc; omega
       · rw [if_neg h2] at hc ⊢; have b3 := cnt_bd rest x2 (by omega); have c3 := cl_cnt rest x2 (by omega) l4 hc; have c1' := c1 h1; have c2' := c2 (by omega); unfold cl; push_cast; omega
     · rw [if_neg h1, if_pos (by omega)] at hc; omega
   · simp only [if_neg h0] at hc; rw [if_pos (by omega)] at hc; omega
theorem cntF_all : ∀ (l : List (Int × List Int × Il)) (left : Int), 0 ≤ left → left ≤ 65536 → 0 ≤ cntF l left → (∀ t ∈ l, lab t.2.2 = true) → ∀ t ∈ l, cl t.2.2 ≤ 2687000000
 | [], _, _, _, _, _, t, ht => by cases ht
 | f :: r, left, h, h6, hc, hl, t, ht => by
   unfold cntF at hc; split at hc
   · omega
   · rename_i hn; have b := cnt_bd f.2.2 left h
     rcases List.mem_cons.1 ht with rfl | ht
     · have := cl_cnt t.2.2 left h (hl t (List.mem_cons_self ..)) (by omega); omega
     · exact cntF_all r _ (by omega) (by omega) hc (fun t ht => hl t (List.mem_cons_of_mem _ ht)) t ht
theorem len_zero_cl : ∀ {l : Il}, l.len = 0 → cl l = 0
 | .nil, _ => rfl
 | .cons .., h => by simp [Il.len] at h
theorem cl_beg {q : One} (h : beg1 q = true) : cl q.il = 40 := by
 obtain ⟨op, x, y, n, ls, body, els⟩ := q; unfold beg1 at h; simp only [Bool.and_eq_true, Bool.or_eq_true, beq_iff_eq] at h; obtain ⟨hop, hf⟩ := h; unfold One.il formB at hf; simp only [Bool.and_eq_true] at hf; have hf1 := hf.1
 have key : ls.length = 0 ∧ body.len = 0 ∧ els.len = 0 := by
  unfold form1 at hf1
  rcases hop with rfl | rfl | rfl
  · have hv : formV 65 = 9 := (by decide)
    rw [hv] at hf1; simp at hf1; exact ⟨by rw [hf1.2.2.2.1]; rfl, hf1.2.2.2.2.1, hf1.2.2.2.2.2⟩
  · have hv : formV 66 = 9 := (by decide)
    rw [hv] at hf1; simp at hf1; exact ⟨by rw [hf1.2.2.1]; rfl, hf1.2.2.2.1, hf1.2.2.2.2⟩
  · have hv : formV 35 = 6 := (by decide)
    rw [hv] at hf1; simp at hf1; exact ⟨by rw [hf1.2.2.2.1]; rfl, hf1.2.2.2.2.1, hf1.2.2.2.2.2⟩
 unfold One.il cl; rw [key.1, len_zero_cl key.2.1, len_zero_cl key.2.2]; rfl
theorem dataFit_all : ∀ (l : List (One × ByteArray)) (left : Int), dataFit l left = true → ∀ t ∈ l, (t.2.size : Int) ≤ left
 | [], _, _, t, ht => by cases ht
 | d :: r, left, h, t, ht => by
   unfold dataFit at h; simp only [Bool.and_eq_true, decide_eq_true_eq] at h
   rcases List.mem_cons.1 ht with rfl | ht
   · exact h.1
   · have := dataFit_all r _ h.2 t ht; omega
theorem fit_of {m : Md} (hn : NOk m) (hc : checkV m = 0) : Fit m := by
 unfold checkV at hc; split at hc
 · cases hc
 rename_i hf; split at hc
 · cases hc
 split at hc
 · cases hc
 rename_i hs; have hf2 : fewB m = true := (by simpa using hf)
 have hs2 : shapedB m = true := (by simpa using hs)
 unfold fewB few0 few1 few2 few3 few4 few5 lens at hf2; simp only [Bool.and_eq_true, decide_eq_true_eq, List.all_cons, List.all_nil, le4, List.all_eq_true] at hf2; obtain ⟨⟨l0, l1, l2, l3, l4, l5, l6, l8, l9, _⟩, f0, f1, f2, f3, f4, f5⟩ := hf2; unfold shapedB sh1 sh2 sh3 sh4 sh5 sh6 sh7 sh8 sh9 at hs2; simp only [Bool.and_eq_true, List.all_eq_true] at hs2; obtain ⟨s0, s1, s2, s3, s4, s5, s6, s7, s8, s9⟩ := hs2
 have hcode := cntF_all m.funcs 65536 (by decide) (by decide) (by omega) (fun t ht => by
  have := f5 t ht; unfold funFew at this; rw [Bool.and_eq_true] at this; exact this.2)
 have hlo : ∀ t ∈ m.funcs, t.2.1.length ≤ 256 := fun t ht => by
  have := f5 t ht; unfold funFew at this; rw [Bool.and_eq_true, decide_eq_true_eq] at this; omega
 refine ⟨?_, ?_, ?_, ?_, ?_, ?_, ?_, by omega, ?_, ?_, ?_, hn.ng, hn.ne, hn.nd, hn.nf, fun t ht => by have := hlo t ht; omega, by omega⟩
 · refine cs_60 cTypes 9000 (fun t ht => ?_) (by omega) (by decide); have := f1 t ht; unfold typFew at this; rw [Bool.and_eq_true, decide_eq_true_eq, decide_eq_true_eq] at this; unfold cTypes; omega
 · refine cs_60 cImports 200 (fun t ht => ?_) (by omega) (by decide); have := s1 t ht; unfold impS nameB at this; simp only [Bool.and_eq_true, decide_eq_true_eq] at this; unfold cImports; omega
 · exact cs_60 cFuncs 10 (fun t ht => Nat.le_refl _) (by omega) (by decide)
 · exact cs_60 cTables 22 (fun t ht => Nat.le_refl _) (by omega) (by decide)
 · exact cs_60 cMems 21 (fun t ht => Nat.le_refl _) (by omega) (by decide)
 · refine cs_60 cGlobals 43 (fun t ht => ?_) (by omega) (by decide); have := s4 t ht; unfold gloS at this; rw [Bool.and_eq_true] at this; have := cl_beg this.2; unfold cGlobals; omega
 · refine cs_60 cExports 100 (fun t ht => ?_) (by omega) (by decide); have := s5 t ht; unfold expS nameB at this; simp only [Bool.and_eq_true, decide_eq_true_eq] at this; unfold cExports; omega
 · refine cs_60 cElems 50000 (fun t ht => ?_) (by omega) (by decide); have h1 := s7 t ht; unfold elmS at h1; rw [Bool.and_eq_true] at h1; have h2 := cl_beg h1.1; have h3 := f2 t ht; unfold elmFew at h3; rw [decide_eq_true_eq] at h3; unfold cElems; omega
 · refine cs_60 cCodes 281474976710656 (fun t ht => ?_) (by omega) (by decide); have h1 := hcode t ht; have h2 := hlo t ht; unfold cCodes cCode; omega
 · refine cs_60 cDatas 300000 (fun t ht => ?_) (by omega) (by decide); have h1 := s8 t ht; unfold datS at h1; have h2 := cl_beg h1; have h3 := dataFit_all m.datas 262144 f3 t ht; unfold cDatas; omega
end Go.Proofs.YtkbfjkbokifgkaaGreatDoor
