/- Gp -/
import Derived.Test.YtanpjbbhhofkfaaGreatDoorGsCodes
import Derived.Test.YtanpjbbhhofkfaaGreatDoorGsTypes
import Derived.Test.YtanpjbbhhofkfaaGreatDoorGx
namespace Go.Proofs.YtanpjbbhhofkfaaGreatDoor
open Go.RowKit
set_option linter.unusedVariables false
set_option linter.unusedSimpArgs false
set_option maxRecDepth 100000
set_option maxHeartbeats 4000000
def Wr (k : Nat) (f : WS → WS) (B : List UInt8) : Prop := ∀ s, s.n ≤ (f s).n ∧ ((f s).n ≤ 1048576 → (f s).l = s.l ++ B ∧ s.n + B.length ≤ (f s).n) ∧ (s.n + (k * B.length : Nat) ≤ 1048576 → (f s).n ≤ s.n + (k * B.length : Nat))
theorem Wr.put {k : Nat} (hk : 1 ≤ k) (t : List UInt8) : Wr k (put t) t := fun s => by
 have h1 : t.length ≤ k * t.length := Nat.le_mul_of_pos_left _ hk; refine ⟨by rw [put_n]; omega, fun h => ?_, fun h => by rw [put_n]; omega⟩; rw [put_n] at h ⊢; refine ⟨?_, Int.le_refl _⟩; unfold Go.Proofs.YtanpjbbhhofkfaaGreatDoor.put; rw [if_pos h]
theorem Wr.id (k : Nat) : Wr k (fun s => s) [] := fun s => ⟨Int.le_refl _, fun h => ⟨by simp, by simp⟩, fun h => by simp⟩
theorem Wr.comp {k : Nat} {f g : WS → WS} {A B : List UInt8} (hf : Wr k f A) (hg : Wr k g B) : Wr k (fun s => g (f s)) (A ++ B) := fun s => by
 obtain ⟨f1, f2, f3⟩ := hf s; obtain ⟨g1, g2, g3⟩ := hg (f s); rw [List.length_append, Nat.mul_add]; refine ⟨by show s.n ≤ (g (f s)).n; omega, fun h => ?_, fun h => ?_⟩
 · obtain ⟨a1, a2⟩ := g2 h; obtain ⟨b1, b2⟩ := f2 (by change (g (f s)).n ≤ _ at h; omega); exact ⟨by show (g (f s)).l = _; rw [a1, b1, List.append_assoc], by show _ ≤ (g (f s)).n; push_cast; omega⟩
 · have e1 := f3 (by push_cast at h ⊢; omega); have e2 := g3 (by push_cast at h e1 ⊢; omega)
   show (g (f s)).n ≤ _
   push_cast at e1 e2 ⊢; omega
theorem Wr.mono {k k' : Nat} {f : WS → WS} {B : List UInt8} (h : Wr k f B) (hk : k ≤ k') : Wr k' f B := fun s => by
 obtain ⟨f1, f2, f3⟩ := h s; have h1 : k * B.length ≤ k' * B.length := Nat.mul_le_mul_right _ hk; exact ⟨f1, f2, fun h => by have := f3 (by omega); omega⟩
theorem Wr.puts {k : Nat} (hk : 1 ≤ k) : ∀ c : List (List UInt8), Wr k (puts c) c.flatten
 | [] => Wr.id k
 | t :: r => (Wr.put hk t).comp (Wr.puts hk r)
theorem Wr.fo {α : Type} {k : Nat} {f : α → WS → WS} {b : α → List UInt8} : ∀ l : List α, (∀ x ∈ l, Wr k (f x) (b x)) → Wr k (fo f l) (l.flatMap b)
 | [], _ => Wr.id k
 | x :: l, h => by
   rw [List.flatMap_cons]; exact (h x (List.mem_cons_self ..)).comp (Wr.fo l fun y hy => h y (List.mem_cons_of_mem _ hy))
theorem Wr.lg {k : Nat} (hk : 1 ≤ k) (l : List UInt8) : Wr k (lg l) (uB l.length ++ l) := (Wr.put hk _).comp (Wr.put hk l)
theorem Wr.ap {k : Nat} {f : WS → WS} {B : List UInt8} (h : Wr k f B) : Wr (k + 1) (ap f) (uB B.length ++ B) := fun s => by
 obtain ⟨f1, f2, f3⟩ := h ⟨[], s.n⟩; generalize hs1 : f ⟨[], s.n⟩ = s1 at f1 f2 f3; obtain ⟨l1, l2, _⟩ := Wr.lg (Nat.le_refl 1) s1.l ⟨s.l, s1.n⟩; have hap : Go.Proofs.YtanpjbbhhofkfaaGreatDoor.ap f s = Go.Proofs.YtanpjbbhhofkfaaGreatDoor.lg s1.l ⟨s.l, s1.n⟩ := (by unfold Go.Proofs.YtanpjbbhhofkfaaGreatDoor.ap; rw [hs1])
 rw [hap]; simp only at f1 f2 f3 l1 l2; refine ⟨by omega, fun h => ?_, fun h => ?_⟩
 · obtain ⟨a1, a2⟩ := f2 (by omega); obtain ⟨b1, b2⟩ := l2 h; rw [List.nil_append] at a1; rw [a1] at b1 b2 ⊢; exact ⟨b1, by omega⟩
 · rw [Nat.add_mul, Nat.one_mul] at h ⊢; have e0 : k * B.length ≤ k * (uB B.length ++ B).length := Nat.mul_le_mul_left _ (by simp); have e1 := f3 (by omega); obtain ⟨a1, a2⟩ := f2 (by omega); rw [List.nil_append] at a1
   have e2 : (Go.Proofs.YtanpjbbhhofkfaaGreatDoor.lg s1.l ⟨s.l, s1.n⟩).n = s1.n + (uB B.length ++ B).length := by rw [a1]; unfold Go.Proofs.YtanpjbbhhofkfaaGreatDoor.lg; rw [put_n, put_n, List.length_append]; push_cast; omega
   rw [e2]; omega
theorem Wr.tail {k : Nat} (hk : 1 ≤ k) (f op x y n : Int) (ls : List Int) (elen : Nat) {B E : WS → WS} {b e : List UInt8} (hB : Wr k B b) (hE : Wr k E e) : Wr k (wTail f op x y n ls elen B E) (xTail f op x y n ls elen b e) := by
 unfold wTail xTail; split
 · split
   · exact Wr.put hk _
   · exact Wr.id k
 split
 · split
   · have h := ((((Wr.put hk [b1 (if x = 0 then 64 else x)]).comp hB).comp (Wr.put hk [b1 5])).comp hE).comp (Wr.put hk [b1 11]); simpa only [List.append_assoc] using h
   · have h := ((Wr.put hk [b1 (if x = 0 then 64 else x)]).comp hB).comp (Wr.put hk [b1 11]); simpa only [List.append_assoc, List.append_nil, List.nil_append] using h
 split
 · exact Wr.put hk _
 split
 · exact (Wr.puts hk _).comp (Wr.put hk _)
 split
 · exact (Wr.put hk _).comp (Wr.put hk _)
 split
 · exact (Wr.put hk _).comp (Wr.put hk _)
 split
 · exact Wr.put hk _
 · exact Wr.id k
theorem Wr.wl {k : Nat} (hk : 1 ≤ k) : ∀ l : Il, Wr k (wl l) (xl l)
 | .nil => Wr.id k
 | .cons op x y n ls b e r => fun s => by
   have h := (((Wr.put hk [b1 op]).comp (Wr.tail hk (formV op) op x y n ls e.len (Wr.wl hk b) (Wr.wl hk e))).comp (Wr.wl hk r)) s; unfold Go.Proofs.YtanpjbbhhofkfaaGreatDoor.wl; split
   · rename_i hlt; exact ⟨Int.le_refl _, fun h => by omega, fun h => by omega⟩
   · exact h
theorem Wr.ex {k : Nat} (hk : 1 ≤ k) (l : Il) : Wr k (wEx l) (xEx l) := (Wr.wl hk l).comp (Wr.put hk [b1 11])
theorem Wr.lim {k : Nat} (hk : 1 ≤ k) (t : Int × Int × Bool) : Wr k (wLim t) (xLim t) := by
 unfold wLim xLim; split
 · exact ((Wr.put hk _).comp (Wr.put hk _)).comp (Wr.put hk _)
 · exact (Wr.put hk _).comp (Wr.put hk _)
def xTypes (t : List Int × List Int) : List UInt8 := ([b1 96] ++ (bytsC t.1).flatten) ++ (bytsC t.2).flatten
def xImports (t : ByteArray × ByteArray × Int) : List UInt8 := ((xLg (strl t.1) ++ xLg (strl t.2.1)) ++ [b1 0]) ++ uB t.2.2
def xFuncs (t : Int × List Int × Il) : List UInt8 := uB t.1
def xTables (t : Int × Int × Bool) : List UInt8 := [b1 112] ++ xLim t
def xGlobals (t : Int × Bool × One) : List UInt8 := ([b1 t.1] ++ [b1 (if t.2.1 = true then 1 else 0)]) ++ xEx t.2.2.il
def xExports (t : ByteArray × Int × Int) : List UInt8 := (xLg (strl t.1) ++ [b1 t.2.1]) ++ uB t.2.2
def xElems (t : One × List Int) : List UInt8 := ([b1 0] ++ xEx t.1.il) ++ (numsC t.2).flatten
def xDatas (t : One × ByteArray) : List UInt8 := ([b1 0] ++ xEx t.1.il) ++ xLg (strl t.2)
def xLoc (l : List Int) : List UInt8 := (locC l).flatten
def xCodes (t : Int × List Int × Il) : List UInt8 := xLg (xLoc t.2.1 ++ xEx t.2.2)
def xSec {α : Type} (b : α → List UInt8) (l : List α) : List UInt8 := uB l.length ++ l.flatMap b
theorem Wr.sec {α : Type} {k : Nat} (hk : 1 ≤ k) {f : α → WS → WS} {b : α → List UInt8} (l : List α) (h : ∀ x, Wr k (f x) (b x)) : Wr k (fun s => Go.Proofs.YtanpjbbhhofkfaaGreatDoor.fo f l (Go.Proofs.YtanpjbbhhofkfaaGreatDoor.put (uB l.length) s)) (xSec b l) := (Wr.put hk _).comp (Wr.fo l fun x _ => h x)
theorem wrTypes (t) : Wr 2 (fTypes t) (xTypes t) := ((Wr.put (by decide) _).comp (Wr.puts (by decide) _)).comp (Wr.puts (by decide) _)
theorem wrImports (t) : Wr 2 (fImports t) (xImports t) := (((Wr.lg (by decide) _).comp (Wr.lg (by decide) _)).comp (Wr.put (by decide) _)).comp (Wr.put (by decide) _)
theorem wrFuncs (t) : Wr 2 (fFuncs t) (xFuncs t) := Wr.put (by decide) _
theorem wrTables (t) : Wr 2 (fTables t) (xTables t) := (Wr.put (by decide) _).comp (Wr.lim (by decide) t)
theorem wrMems (t) : Wr 2 (fMems t) (xLim t) := Wr.lim (by decide) t
theorem wrGlobals (t) : Wr 2 (fGlobals t) (xGlobals t) := ((Wr.put (by decide) _).comp (Wr.put (by decide) _)).comp (Wr.ex (by decide) _)
theorem wrExports (t) : Wr 2 (fExports t) (xExports t) := ((Wr.lg (by decide) _).comp (Wr.put (by decide) _)).comp (Wr.put (by decide) _)
theorem wrElems (t) : Wr 2 (fElems t) (xElems t) := ((Wr.put (by decide) _).comp (Wr.ex (by decide) _)).comp (Wr.puts (by decide) _)
theorem wrDatas (t) : Wr 2 (fDatas t) (xDatas t) := ((Wr.put (by decide) _).comp (Wr.ex (by decide) _)).comp (Wr.lg (by decide) _)
theorem wrCodes (t) : Wr 2 (fCodes t) (xCodes t) := ((Wr.puts (Nat.le_refl 1) (locC t.2.1)).comp (Wr.ex (Nat.le_refl 1) t.2.2)).ap
def xStart (l : List Int) : List UInt8 := (l.map uB).flatten
def wStart (l : List Int) (s : WS) : WS := puts (l.map uB) s
theorem wrStart (l) : Wr 2 (wStart l) (xStart l) := Wr.puts (by decide) _
structure Sc where
 some : Bool
 f : WS → WS
 x : List UInt8
def scs (m : Md) : List Sc := [
 ⟨decide (0 < m.types.length), fun s => fo fTypes m.types (put (uB m.types.length) s), xSec xTypes m.types⟩,
 ⟨decide (0 < m.imports.length), fun s => fo fImports m.imports (put (uB m.imports.length) s), xSec xImports m.imports⟩,
 ⟨decide (0 < m.funcs.length), fun s => fo fFuncs m.funcs (put (uB m.funcs.length) s), xSec xFuncs m.funcs⟩,
 ⟨decide (0 < m.tables.length), fun s => fo fTables m.tables (put (uB m.tables.length) s), xSec xTables m.tables⟩,
 ⟨decide (0 < m.mems.length), fun s => fo fMems m.mems (put (uB m.mems.length) s), xSec xLim m.mems⟩,
 ⟨decide (0 < m.globals.length), fun s => fo fGlobals m.globals (put (uB m.globals.length) s), xSec xGlobals m.globals⟩,
 ⟨decide (0 < m.exports.length), fun s => fo fExports m.exports (put (uB m.exports.length) s), xSec xExports m.exports⟩,
 ⟨decide (0 < m.start.length), wStart m.start, xStart m.start⟩,
 ⟨decide (0 < m.elems.length), fun s => fo fElems m.elems (put (uB m.elems.length) s), xSec xElems m.elems⟩,
 ⟨decide (0 < m.funcs.length), fun s => fo fCodes m.funcs (put (uB m.funcs.length) s), xSec xCodes m.funcs⟩,
 ⟨decide (0 < m.datas.length), fun s => fo fDatas m.datas (put (uB m.datas.length) s), xSec xDatas m.datas⟩]
def Sc.ok (c : Sc) : Prop := Wr 2 c.f c.x ∧ (c.some = false → c.x.length ≤ 10)
theorem sec_none {α : Type} (b : α → List UInt8) (l : List α) (h : decide (0 < l.length) = false) : (xSec b l).length ≤ 10 := by
 have : l = [] := by
  cases l with
  | nil => rfl
  | cons a r => simp at h
 subst this; have := uB_len 0; simpa [xSec] using this
theorem scs_ok (m : Md) : ∀ c ∈ scs m, c.ok := by
 intro c hc; simp only [scs, List.mem_cons, List.not_mem_nil, or_false] at hc
 rcases hc with rfl | rfl | rfl | rfl | rfl | rfl | rfl | rfl | rfl | rfl | rfl
 · exact ⟨Wr.sec (by decide) _ wrTypes, sec_none _ _⟩
 · exact ⟨Wr.sec (by decide) _ wrImports, sec_none _ _⟩
 · exact ⟨Wr.sec (by decide) _ wrFuncs, sec_none _ _⟩
 · exact ⟨Wr.sec (by decide) _ wrTables, sec_none _ _⟩
 · exact ⟨Wr.sec (by decide) _ wrMems, sec_none _ _⟩
 · exact ⟨Wr.sec (by decide) _ wrGlobals, sec_none _ _⟩
 · exact ⟨Wr.sec (by decide) _ wrExports, sec_none _ _⟩
 · refine ⟨wrStart _, fun h => ?_⟩
   have : m.start = [] := by
    cases hs : m.start with
    | nil => rfl
    | cons a r => rw [hs] at h; simp at h
   rw [this]; decide
 · exact ⟨Wr.sec (by decide) _ wrElems, sec_none _ _⟩
 · exact ⟨Wr.sec (by decide) _ wrCodes, sec_none _ _⟩
 · exact ⟨Wr.sec (by decide) _ wrDatas, sec_none _ _⟩
def turn1 (i : Nat) (c : Sc) (s : WS) : WS := if c.some = true then lg (c.f ⟨[], s.n⟩).l (put [b1 ((i : Int) + 1)] ⟨s.l, (c.f ⟨[], s.n⟩).n⟩) else ⟨s.l, (c.f ⟨[], s.n⟩).n⟩
def bad (s : WS) : Bool := decide (1048576 < s.n) || decide (262144 < s.l.length)
def turns : Nat → List Sc → WS → Option WS
 | _, [], s => some s
 | i, c :: r, s => if bad (turn1 i c s) = true then none else turns (i + 1) r (turn1 i c s)
def xScs : Nat → List Sc → List UInt8
 | _, [] => []
 | i, c :: r => (if c.some = true then b1 ((i : Int) + 1) :: xLg c.x else []) ++ xScs (i + 1) r
theorem turn1_ok {i : Nat} {c : Sc} (h : c.ok) (s : WS) (X : List UInt8) (hX : X = if c.some = true then b1 ((i : Int) + 1) :: xLg c.x else []) :
 s.n ≤ (turn1 i c s).n ∧ ((turn1 i c s).n ≤ 1048576 → (turn1 i c s).l = s.l ++ X) ∧ (s.n + 3 * X.length + 20 ≤ 1048576 → (turn1 i c s).n ≤ s.n + 3 * X.length + 20) := by
 obtain ⟨f1, f2, f3⟩ := h.1 ⟨[], s.n⟩; have h2 := h.2; unfold turn1; generalize c.f ⟨[], s.n⟩ = s1 at f1 f2 f3 ⊢; simp only [List.nil_append] at f1 f2 f3
 by_cases hs : c.some = true
 · rw [if_pos hs] at hX ⊢; obtain ⟨l1, l2, _⟩ := ((Wr.put (Nat.le_refl 1) [b1 ((i : Int) + 1)]).comp (Wr.lg (Nat.le_refl 1) s1.l)) ⟨s.l, s1.n⟩
   simp only at l1 l2; have hXl : X.length = 1 + (xLg c.x).length := (by rw [hX]; simp; omega)
   have hge : c.x.length ≤ (xLg c.x).length := (by simp [xLg])
   refine ⟨by omega, fun h => ?_, fun h => ?_⟩
   · obtain ⟨a1, a2⟩ := f2 (by omega); rw [(l2 h).1, hX, a1]; rfl
   · have e1 := f3 (by omega); obtain ⟨a1, a2⟩ := f2 (by omega)
     have e2 : (lg s1.l (put [b1 ((i : Int) + 1)] ⟨s.l, s1.n⟩)).n = s1.n + 1 + (xLg c.x).length := by rw [a1]; unfold lg xLg; rw [put_n, put_n, put_n, List.length_append]; simp only [List.length_cons, List.length_nil]; omega
     rw [e2]; omega
 · rw [if_neg hs] at hX ⊢; have := h2 (by simpa using hs); subst hX; refine ⟨f1, fun _ => by simp, fun h => ?_⟩; simp only [List.length_nil] at h ⊢; have := f3 (by omega); omega
theorem turns_ok : ∀ (r : List Sc) (i : Nat) (s : WS) (k : Nat), (∀ c ∈ r, c.ok) → s.n ≤ 3 * s.l.length + 20 * k → k + r.length ≤ 11 → s.l.length ≤ 262144 →
 ((s.l ++ xScs i r).length ≤ 262144 → ∃ n, turns i r s = some ⟨s.l ++ xScs i r, n⟩) ∧ (262144 < (s.l ++ xScs i r).length → turns i r s = none)
 | [], i, s, k, _, hn, _, hl => by
   simp only [xScs, List.append_nil, turns]; exact ⟨fun _ => ⟨s.n, rfl⟩, fun h => by omega⟩
 | c :: r, i, s, k, ho, hn, hk, hl => by
   obtain ⟨X, hX⟩ : ∃ X, X = (if c.some = true then b1 ((i : Int) + 1) :: xLg c.x else []) := ⟨_, rfl⟩
   obtain ⟨t1, t2, t3⟩ := turn1_ok (ho c (List.mem_cons_self ..)) s X hX; simp only [xScs, turns, ← hX]; generalize turn1 i c s = s' at t1 t2 t3 ⊢; rw [← List.append_assoc]; simp only [List.length_cons] at hk
   by_cases hXl : (s.l ++ X).length ≤ 262144
   · have hXl' := hXl; rw [List.length_append] at hXl'; have e3 := t3 (by omega); have e2 := t2 (by omega)
     have hb : bad s' = false := by unfold bad; rw [e2]; simp only [Bool.or_eq_false_iff, decide_eq_false_iff_not]; exact ⟨by omega, by omega⟩
     rw [hb, if_neg (by simp), ← e2]; exact turns_ok r (i + 1) s' (k + 1) (fun c hc => ho c (List.mem_cons_of_mem _ hc)) (by rw [e2, List.length_append]; push_cast; omega) (by omega) (by rw [e2]; exact hXl)
   · have hb : bad s' = true := by
      unfold bad; simp only [Bool.or_eq_true, decide_eq_true_eq]
      by_cases h : 1048576 < s'.n
      · exact .inl h
      · right; rw [t2 (by omega)]; omega
     rw [hb, if_pos rfl]; refine ⟨fun h => ?_, fun _ => rfl⟩; rw [List.length_append] at h; omega
def headB : List UInt8 := [0, 97, 115, 109, 1, 0, 0, 0]
def xMd (m : Md) : List UInt8 := headB ++ xScs 0 (scs m)
theorem encodes (m : Md) : ((xMd m).length ≤ 262144 → ∃ n, turns 0 (scs m) ⟨headB, 8⟩ = some ⟨xMd m, n⟩) ∧ (262144 < (xMd m).length → turns 0 (scs m) ⟨headB, 8⟩ = none) :=
 turns_ok (scs m) 0 ⟨headB, 8⟩ 0 (scs_ok m) (by decide) (Nat.le_refl 11) (by decide)
end Go.Proofs.YtanpjbbhhofkfaaGreatDoor
