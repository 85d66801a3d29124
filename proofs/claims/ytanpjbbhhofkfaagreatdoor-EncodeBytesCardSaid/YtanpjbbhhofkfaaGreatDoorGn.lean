/- Gn -/
import Derived.Test.YtanpjbbhhofkfaaGreatDoorGp
import Derived.Test.YtanpjbbhhofkfaaGreatDoorOa
namespace Go.Proofs.YtanpjbbhhofkfaaGreatDoor
open Go.RowKit
set_option linter.unusedVariables false
set_option linter.unusedSimpArgs false
set_option maxRecDepth 100000
set_option maxHeartbeats 4000000
structure Fit (m : Md) : Prop where
 types : cs cTypes m.types ≤ 1152921504606846976
 imports : cs cImports m.imports ≤ 1152921504606846976
 funcs : cs cFuncs m.funcs ≤ 1152921504606846976
 tables : cs cTables m.tables ≤ 1152921504606846976
 mems : cs cMems m.mems ≤ 1152921504606846976
 globals : cs cGlobals m.globals ≤ 1152921504606846976
 exports : cs cExports m.exports ≤ 1152921504606846976
 start : 10 * m.start.length ≤ 1152921504606846976
 elems : cs cElems m.elems ≤ 1152921504606846976
 codes : cs cCodes m.funcs ≤ 1152921504606846976
 datas : cs cDatas m.datas ≤ 1152921504606846976
 ng : ∀ t ∈ m.globals, nOk t.2.2.il
 ne : ∀ t ∈ m.elems, nOk t.1.il
 nd : ∀ t ∈ m.datas, nOk t.1.il
 nf : ∀ t ∈ m.funcs, nOk t.2.2
 lo : ∀ t ∈ m.funcs, t.2.1.length ≤ 65536
 one : m.start.length ≤ 1
def mvL (m : Md) (a0 : Option Addr) (k0 : Nat) (a1 : Option Addr) (k1 : Nat) (a2 : Option Addr) (k2 : Nat) (a3 : Option Addr) (k3 : Nat) (a4 : Option Addr) (k4 : Nat) (a5 : Option Addr) (k5 : Nat) (a6 : Option Addr) (k6 : Nat) (a7 : Option Addr) (k7 : Nat) (a8 : Option Addr) (k8 : Nat) (a9 : Option Addr) (k9 : Nat) : List Value := [.slice a0 m.types.length k0, .slice a1 m.imports.length k1, .slice a2 m.funcs.length k2, .slice a3 m.tables.length k3, .slice a4 m.mems.length k4, .slice a5 m.globals.length k5, .slice a6 m.exports.length k6, .slice a7 m.start.length k7, .slice a8 m.elems.length k8, .slice a9 m.datas.length k9]
theorem sec_any {m : Md} {a0 : Option Addr} {k0 : Nat} {a1 : Option Addr} {k1 : Nat} {a2 : Option Addr} {k2 : Nat} {a3 : Option Addr} {k3 : Nat} {a4 : Option Addr} {k4 : Nat} {a5 : Option Addr} {k5 : Nat} {a6 : Option Addr} {k6 : Nat} {a7 : Option Addr} {k7 : Nat} {a8 : Option Addr} {k8 : Nat} {a9 : Option Addr} {k9 : Nat} {V : World} (h : MdAt V m a0 k0 a1 k1 a2 k2 a3 k3 a4 k4 a5 k5 a6 k6 a7 k7 a8 k8 a9 k9) (fit : Fit m) {i : Nat} {c : Sc} (hc : (scs m)[i]? = some c) {N p : Nat} {w : World} {v : Value} {s : WS} (hW : WAt N p w (mvL m a0 k0 a1 k1 a2 k2 a3 k3 a4 k4 a5 k5 a6 k6 a7 k7 a8 k8 a9 k9) v s) (hv : Vw V p v w) (hn : s.n ≤ 1048576) :
 Calls Tryz.prog (15 + i) #[.pointer (some ⟨p, 0, none⟩)] w fun e w' => e = .returned (.bool c.some) ∧ WOut N p w (mvL m a0 k0 a1 k1 a2 k2 a3 k3 a4 k4 a5 k5 a6 k6 a7 k7 a8 k8 a9 k9) v (c.f s) w' := by
 match i with
 | 0 => cases hc; exact sTypes_any hW hv m.types a0 k0 rfl h.types (by have := fit.types; omega)
 | 1 => cases hc; exact sImports_any hW hv m.imports a1 k1 rfl h.imports (by have := fit.imports; omega)
 | 2 => cases hc; exact sFuncs_any hW hv m.funcs a2 k2 rfl h.funcs (by have := fit.funcs; omega)
 | 3 => cases hc; exact sTables_any hW hv m.tables a3 k3 rfl h.tables (by have := fit.tables; omega)
 | 4 => cases hc; exact sMems_any hW hv m.mems a4 k4 rfl h.mems (by have := fit.mems; omega)
 | 5 => cases hc; exact sGlobals_any hW hv m.globals a5 k5 rfl h.globals fit.ng (by have := fit.globals; omega)
 | 6 => cases hc; exact sExports_any hW hv m.exports a6 k6 rfl h.exports (by have := fit.exports; omega)
 | 7 => cases hc; exact sStart_any hW hv m.start a7 k7 rfl h.start (by have := fit.start; omega)
 | 8 => cases hc; exact sElems_any hW hv m.elems a8 k8 rfl h.elems fit.ne (by have := fit.elems; omega)
 | 9 => cases hc; exact sCodes_any hW hv m.funcs a2 k2 rfl h.funcs fit.nf fit.lo (by have := fit.codes; omega)
 | 10 => cases hc; exact sDatas_any hW hv m.datas a9 k9 rfl h.datas fit.nd (by have := fit.datas; omega)
 | k + 11 => exact absurd hc (by simp [scs])
theorem sec_n {m : Md} (fit : Fit m) {i fi : Nat} (hfi : 15 + i = fi) {c : Sc} {r : List Sc} (hd : (scs m).drop i = c :: r) (s : WS) : s.n ≤ (c.f s).n ∧ (c.f s).n ≤ s.n + 1152921504606846986 := by
 have hc : (scs m)[i]? = some c := by
  have : ((scs m).drop i)[0]? = some c := (by rw [hd]; rfl)
  rwa [List.getElem?_drop] at this
 have key : ∀ {α : Type} {f : α → WS → WS} {k : α → Nat} (l : List α), (∀ x ∈ l, InR (f x) (k x)) → cs k l ≤ 1152921504606846976 → s.n ≤ (fo f l (put (uB l.length) s)).n ∧ (fo f l (put (uB l.length) s)).n ≤ s.n + 1152921504606846986 := fun {α f k} l h hl => by
  have h1 := fo_n l (put (uB l.length) s) h; have h2 := uB_len (l.length : Int); rw [put_n] at h1; omega
 match i with
 | 0 => cases hc; exact key m.types inTypes fit.types
 | 1 => cases hc; exact key m.imports inImports fit.imports
 | 2 => cases hc; exact key m.funcs inFuncs fit.funcs
 | 3 => cases hc; exact key m.tables inTables fit.tables
 | 4 => cases hc; exact key m.mems inMems fit.mems
 | 5 => cases hc; exact key m.globals (inGlobals fit.ng) fit.globals
 | 6 => cases hc; exact key m.exports inExports fit.exports
 | 7 =>
   cases hc; have h1 := puts_n (m.start.map uB) s; have h2 := tot_map uB 10 (fun x => uB_len x) m.start; have h3 := fit.start
   show s.n ≤ (puts (m.start.map uB) s).n ∧ (puts (m.start.map uB) s).n ≤ _
   omega
 | 8 => cases hc; exact key m.elems (inElems fit.ne) fit.elems
 | 9 => cases hc; exact key m.funcs (inCodes fit.nf) fit.codes
 | 10 => cases hc; exact key m.datas (inDatas fit.nd) fit.datas
 | k + 11 => exact absurd hc (by simp [scs])
theorem WAt.new {N : Nat} (w : World) (mv : List Value) (hm : mv.length = 10) (hN : N ≤ w.heap.size) : WAt N w.heap.size (w.alloc (.cells (mv ++ [Value.slice none 0 0, Value.int .i64 0]).toArray 64)) mv (.slice none 0 0) ⟨[], 0⟩ :=
 ⟨hm, heap_alloc_new _ _, World.ownsRow_nil _ _ _ _, (fun e => by cases e), hN, by simp; omega, Int.le_refl _, by decide⟩
theorem fns_at (w : World) (p i : Nat) (hi : i < 11) : (w.alloc (.cells #[.func (.func 15) #[.pointer (some ⟨p, 0, none⟩)] #[], .func (.func 16) #[.pointer (some ⟨p, 0, none⟩)] #[], .func (.func 17) #[.pointer (some ⟨p, 0, none⟩)] #[], .func (.func 18) #[.pointer (some ⟨p, 0, none⟩)] #[], .func (.func 19) #[.pointer (some ⟨p, 0, none⟩)] #[], .func (.func 20) #[.pointer (some ⟨p, 0, none⟩)] #[], .func (.func 21) #[.pointer (some ⟨p, 0, none⟩)] #[], .func (.func 22) #[.pointer (some ⟨p, 0, none⟩)] #[], .func (.func 23) #[.pointer (some ⟨p, 0, none⟩)] #[], .func (.func 24) #[.pointer (some ⟨p, 0, none⟩)] #[], .func (.func 25) #[.pointer (some ⟨p, 0, none⟩)] #[]] 34)).cell? ⟨w.heap.size, i, none⟩ = some (.func (.func (15 + i)) #[.pointer (some ⟨p, 0, none⟩)] #[]) := by
 refine box_new w #[.func (.func 15) #[.pointer (some ⟨p, 0, none⟩)] #[], .func (.func 16) #[.pointer (some ⟨p, 0, none⟩)] #[], .func (.func 17) #[.pointer (some ⟨p, 0, none⟩)] #[], .func (.func 18) #[.pointer (some ⟨p, 0, none⟩)] #[], .func (.func 19) #[.pointer (some ⟨p, 0, none⟩)] #[], .func (.func 20) #[.pointer (some ⟨p, 0, none⟩)] #[], .func (.func 21) #[.pointer (some ⟨p, 0, none⟩)] #[], .func (.func 22) #[.pointer (some ⟨p, 0, none⟩)] #[], .func (.func 23) #[.pointer (some ⟨p, 0, none⟩)] #[], .func (.func 24) #[.pointer (some ⟨p, 0, none⟩)] #[], .func (.func 25) #[.pointer (some ⟨p, 0, none⟩)] #[]] 34 i _ ?_
 match i, hi with
 | 0, _ => rfl
 | 1, _ => rfl
 | 2, _ => rfl
 | 3, _ => rfl
 | 4, _ => rfl
 | 5, _ => rfl
 | 6, _ => rfl
 | 7, _ => rfl
 | 8, _ => rfl
 | 9, _ => rfl
 | 10, _ => rfl
 | k + 11, h => exact absurd h (by omega)
theorem enters (i : Nat) (hi : i < 11) (args : Array Value) (w : World) : (callFunc (15 + i) args).run Tryz.prog w = .ok (.enter (15 + i) args) w := by
 match i, hi with
 | 0, _ => simp [callFunc, go_sem, Tryz.func15, Tryz.f15]
 | 1, _ => simp [callFunc, go_sem, Tryz.func16, Tryz.f16]
 | 2, _ => simp [callFunc, go_sem, Tryz.func17, Tryz.f17]
 | 3, _ => simp [callFunc, go_sem, Tryz.func18, Tryz.f18]
 | 4, _ => simp [callFunc, go_sem, Tryz.func19, Tryz.f19]
 | 5, _ => simp [callFunc, go_sem, Tryz.func20, Tryz.f20]
 | 6, _ => simp [callFunc, go_sem, Tryz.func21, Tryz.f21]
 | 7, _ => simp [callFunc, go_sem, Tryz.func22, Tryz.f22]
 | 8, _ => simp [callFunc, go_sem, Tryz.func23, Tryz.f23]
 | 9, _ => simp [callFunc, go_sem, Tryz.func24, Tryz.f24]
 | 10, _ => simp [callFunc, go_sem, Tryz.func25, Tryz.f25]
 | k + 11, h => exact absurd h (by omega)
def encE (m : Md) : Int := if checkV m = 0 then (if (xMd m).length ≤ 262144 then 0 else 2) else checkV m
def encB (m : Md) : List UInt8 := if checkV m = 0 then (if (xMd m).length ≤ 262144 then xMd m else []) else []
theorem enc_bad {m : Md} (hc : checkV m = 0) (h : turns 0 (scs m) ⟨headB, 8⟩ = none) : encE m = 2 ∧ encB m = [] := by
 have hn : ¬ (xMd m).length ≤ 262144 := fun hl => by
  obtain ⟨n, hn⟩ := (encodes m).1 hl; rw [h] at hn; cases hn
 unfold encE encB; rw [if_pos hc, if_neg hn, if_pos hc, if_neg hn]; exact ⟨rfl, rfl⟩
theorem enc_good {m : Md} {s : WS} (hc : checkV m = 0) (h : turns 0 (scs m) ⟨headB, 8⟩ = some s) : encE m = 0 ∧ encB m = s.l := by
 have hn : (xMd m).length ≤ 262144 := by
  rcases Nat.lt_or_ge 262144 (xMd m).length with hl | hl
  · rw [(encodes m).2 hl] at h; cases h
  · exact hl
 obtain ⟨n, e⟩ := (encodes m).1 hn; rw [h] at e; cases e; unfold encE encB; rw [if_pos hc, if_pos hn, if_pos hc, if_pos hn]; exact ⟨rfl, rfl⟩
theorem enc_any (m : Md) (a0 : Option Addr) (k0 : Nat) (a1 : Option Addr) (k1 : Nat) (a2 : Option Addr) (k2 : Nat) (a3 : Option Addr) (k3 : Nat) (a4 : Option Addr) (k4 : Nat) (a5 : Option Addr) (k5 : Nat) (a6 : Option Addr) (k6 : Nat) (a7 : Option Addr) (k7 : Nat) (a8 : Option Addr) (k8 : Nat) (a9 : Option Addr) (k9 : Nat) (w : World) (h : MdAt w m a0 k0 a1 k1 a2 k2 a3 k3 a4 k4 a5 k5 a6 k6 a7 k7 a8 k8 a9 k9) (hT : TabU w) (hfit : checkV m = 0 → Fit m) :
 Calls Tryz.prog 8 #[mdV m a0 k0 a1 k1 a2 k2 a3 k3 a4 k4 a5 k5 a6 k6 a7 k7 a8 k8 a9 k9] w fun e w' => e = .returned (.tuple #[.string (mks (encB m)), .int .i64 (encE m)]) ∧ Below w.heap.size w w' := by
 unfold mdV; obtain ⟨q, hq⟩ : ∃ q, w.heap.size = q := ⟨_, rfl⟩
 obtain ⟨wA, hwA⟩ : ∃ wA, wA = w.alloc (.cells (mdA m a0 k0 a1 k1 a2 k2 a3 k3 a4 k4 a5 k5 a6 k6 a7 k7 a8 k8 a9 k9) 32) := ⟨_, rfl⟩
 have hbel : Below w.heap.size w wA := (by rw [hwA]; exact (Below.refl _ _).alloc (Nat.le_refl _) _)
 have hbx : Box wA q (mdA m a0 k0 a1 k1 a2 k2 a3 k3 a4 k4 a5 k5 a6 k6 a7 k7 a8 k8 a9 k9) := (by rw [hwA, ← hq]; exact box_new w _ _)
 have HM := zh (h.keep (keep_below hbel)); have HU := zh (hT.below hbel); have b0 : wA.cell? ⟨q, 0, none⟩ = some (.slice a0 m.types.length k0) := hbx 0 _ rfl; have b1 : wA.cell? ⟨q, 1, none⟩ = some (.slice a1 m.imports.length k1) := hbx 1 _ rfl; have b2 : wA.cell? ⟨q, 2, none⟩ = some (.slice a2 m.funcs.length k2) := hbx 2 _ rfl; have b3 : wA.cell? ⟨q, 3, none⟩ = some (.slice a3 m.tables.length k3) := hbx 3 _ rfl; have b4 : wA.cell? ⟨q, 4, none⟩ = some (.slice a4 m.mems.length k4) := hbx 4 _ rfl; have b5 : wA.cell? ⟨q, 5, none⟩ = some (.slice a5 m.globals.length k5) := hbx 5 _ rfl; have b6 : wA.cell? ⟨q, 6, none⟩ = some (.slice a6 m.exports.length k6) := hbx 6 _ rfl; have b7 : wA.cell? ⟨q, 7, none⟩ = some (.slice a7 m.start.length k7) := hbx 7 _ rfl; have b8 : wA.cell? ⟨q, 8, none⟩ = some (.slice a8 m.elems.length k8) := hbx 8 _ rfl; have b9 : wA.cell? ⟨q, 9, none⟩ = some (.slice a9 m.datas.length k9) := hbx 9 _ rfl; replace hbel := zh hbel; replace hbx := zh hbx; replace hfit := zh hfit; replace h := zh h; clear hT; go_enter Tryz.func8, Tryz.ntmps8; rw [hwA] at b0 b1 b2 b3 b4 b5 b6 b7 b8 b9; go_wp2_with fail; rw [← hwA]; clear b0 b1 b2 b3 b4 b5 b6 b7 b8 b9 hwA hq; refine (check_any m a0 k0 a1 k1 a2 k2 a3 k3 a4 k4 a5 k5 a6 k6 a7 k7 a8 k8 a9 k9 wA HM.out HU.out).mono ?_; rintro e w2 ⟨rfl, hb2⟩; have hbx2 := zh (hbx.out.keep (keep_below hb2)); have hB2 := zh (hbel.out.trans (hb2.mono hbel.out.size)); clear hb2; obtain ⟨cv, hcv⟩ : ∃ cv, checkV m = cv := ⟨_, rfl⟩
 rw [hcv]
 by_cases hc0 : cv = 0
 · subst hc0; have fit := zh (hfit.out hcv); replace hcv := zh hcv; have d0 : w2.cell? ⟨q, 0, none⟩ = some (.slice a0 m.types.length k0) := hbx2.out 0 _ rfl; have d1 : w2.cell? ⟨q, 1, none⟩ = some (.slice a1 m.imports.length k1) := hbx2.out 1 _ rfl; have d2 : w2.cell? ⟨q, 2, none⟩ = some (.slice a2 m.funcs.length k2) := hbx2.out 2 _ rfl; have d3 : w2.cell? ⟨q, 3, none⟩ = some (.slice a3 m.tables.length k3) := hbx2.out 3 _ rfl; have d4 : w2.cell? ⟨q, 4, none⟩ = some (.slice a4 m.mems.length k4) := hbx2.out 4 _ rfl; have d5 : w2.cell? ⟨q, 5, none⟩ = some (.slice a5 m.globals.length k5) := hbx2.out 5 _ rfl; have d6 : w2.cell? ⟨q, 6, none⟩ = some (.slice a6 m.exports.length k6) := hbx2.out 6 _ rfl; have d7 : w2.cell? ⟨q, 7, none⟩ = some (.slice a7 m.start.length k7) := hbx2.out 7 _ rfl; have d8 : w2.cell? ⟨q, 8, none⟩ = some (.slice a8 m.elems.length k8) := hbx2.out 8 _ rfl; have d9 : w2.cell? ⟨q, 9, none⟩ = some (.slice a9 m.datas.length k9) := hbx2.out 9 _ rfl; obtain ⟨p, hp⟩ : ∃ p, w2.heap.size = p := ⟨_, rfl⟩
   obtain ⟨wP, hwP⟩ : ∃ wP, wP = w2.alloc (.cells #[.slice a0 m.types.length k0, .slice a1 m.imports.length k1, .slice a2 m.funcs.length k2, .slice a3 m.tables.length k3, .slice a4 m.mems.length k4, .slice a5 m.globals.length k5, .slice a6 m.exports.length k6, .slice a7 m.start.length k7, .slice a8 m.elems.length k8, .slice a9 m.datas.length k9, .slice none 0 0, .int .i64 0] 64) := ⟨_, rfl⟩
   have hW0 : WAt w.heap.size p wP (mvL m a0 k0 a1 k1 a2 k2 a3 k3 a4 k4 a5 k5 a6 k6 a7 k7 a8 k8 a9 k9) (.slice none 0 0) ⟨[], 0⟩ := (by rw [hwP, ← hp]; exact WAt.new w2 (mvL m a0 k0 a1 k1 a2 k2 a3 k3 a4 k4 a5 k5 a6 k6 a7 k7 a8 k8 a9 k9) rfl hB2.out.size)
   have hBP : Below w.heap.size w wP := (by rw [hwP]; exact hB2.out.alloc hB2.out.size _)
   replace hW0 := zh hW0; replace hBP := zh hBP; go_wp2_with fail; rw [← hwP]; clear d0 d1 d2 d3 d4 d5 d6 d7 d8 d9 hwP; refine (text_any hW0.out _ (by decide)).mono ?_; rintro e w3 ⟨rfl, v3, h3, t3⟩; have h3' : WAt w.heap.size p w3 (mvL m a0 k0 a1 k1 a2 k2 a3 k3 a4 k4 a5 k5 a6 k6 a7 k7 a8 k8 a9 k9) v3 ⟨headB, 8⟩ := h3; replace h3 := zh h3'; clear h3'; replace t3 := zh t3; go_wp2_with fail; have hv3N := zh (fun g e => h3.out.ownN g e : ∀ g, v3.ownBlock = some g → w.heap.size ≤ g); obtain ⟨fb, hfb⟩ : ∃ fb, w3.heap.size = fb := ⟨_, rfl⟩
   obtain ⟨w4, hw4⟩ : ∃ w4, w4 = w3.alloc (.cells #[.func (.func 15) #[.pointer (some ⟨p, 0, none⟩)] #[], .func (.func 16) #[.pointer (some ⟨p, 0, none⟩)] #[], .func (.func 17) #[.pointer (some ⟨p, 0, none⟩)] #[], .func (.func 18) #[.pointer (some ⟨p, 0, none⟩)] #[], .func (.func 19) #[.pointer (some ⟨p, 0, none⟩)] #[], .func (.func 20) #[.pointer (some ⟨p, 0, none⟩)] #[], .func (.func 21) #[.pointer (some ⟨p, 0, none⟩)] #[], .func (.func 22) #[.pointer (some ⟨p, 0, none⟩)] #[], .func (.func 23) #[.pointer (some ⟨p, 0, none⟩)] #[], .func (.func 24) #[.pointer (some ⟨p, 0, none⟩)] #[], .func (.func 25) #[.pointer (some ⟨p, 0, none⟩)] #[]] 34) := ⟨_, rfl⟩
   have hbel4 : Below w3.heap.size w3 w4 := (by rw [hw4]; exact (Below.refl _ _).alloc (Nat.le_refl _) _)
   have hF := zh (fun i (hi : i < 11) => (by rw [hw4, ← hfb]; exact fns_at w3 p i hi : w4.cell? ⟨fb, i, none⟩ = some (.func (.func (15 + i)) #[.pointer (some ⟨p, 0, none⟩)] #[]))); have h4 := zh (h3.out.below hbel4); have hfp := zh (show fb ≠ p by have := h3.out.lt; omega); have hfv := zh (show v3.ownBlock ≠ some fb from fun e => by have := (h3.out.own.lt fb e).2; omega); have hNp := zh h3.out.hN; have hBw := zh ((hBP.out.trans (t3.out.below hNp.out (fun g e => by cases e) hBP.out.size)).trans (hbel4.mono h3.out.hw)); have hN4 := zh hBw.out.size; clear hbel4 t3; rw [← hw4]; clear hw4; go_loopw [45] (fun vi wr => ∃ (i : Nat) (v : Value) (s : WS), i ≤ 11 ∧ vi = .int .i64 i ∧ Hid (WAt w.heap.size p wr (mvL m a0 k0 a1 k1 a2 k2 a3 k3 a4 k4 a5 k5 a6 k6 a7 k7 a8 k8 a9 k9) v s) ∧ Hid (Tr p v3 v w4 wr) ∧ Hid (turns 0 (scs m) ⟨headB, 8⟩ = turns i ((scs m).drop i) s) ∧ s.n ≤ 1048576) (fun vi _ => 11 - (intOf vi).toNat)
   case atStart => exact ⟨0, v3, ⟨headB, 8⟩, Nat.zero_le _, rfl, h4, zh (Tr.refl _ _ _), zh rfl, by decide⟩
   case round =>
    obtain ⟨i, v, s, hle, rfl, h5, t5, htu, hsn⟩ := hrel; have hBr := hBw.out.trans (t5.out.below hNp.out (fun g e => hv3N.out g e) hN4.out)
    by_cases hlt : i < 11
    · obtain ⟨c, hc⟩ : ∃ c, (scs m)[i]? = some c := ⟨_, List.getElem?_eq_getElem hlt⟩
      have hdrop := zh (drop_at hc); have cF := t5.out.cell (a := ⟨fb, i, none⟩) hfp.out hfv.out (hF.out i hlt); obtain ⟨fi, hfi⟩ : ∃ fi, 15 + i = fi := ⟨_, rfl⟩
      rw [hfi] at cF; have hvw := Vw.old h5.out hBr; obtain ⟨av, cv2, hvv⟩ := own_slice h5.out.own; subst hvv; have x10 := h5.out.c10; have fr := h5.out.free 10; have hnil := zh h5.out.nil; have tn := zh (Tr.nil p (.slice av s.l.length cv2) wr); have hback := zh (fun (w2 : World) (v2 : Value) (s2 : WS) (h2 : WAt w.heap.size p w2 (mvL m a0 k0 a1 k1 a2 k2 a3 k3 a4 k4 a5 k5 a6 k6 a7 k7 a8 k8 a9 k9) v2 s2) (t : Tr p (.slice none 0 0) v2 (wr.setCell ⟨p, 10, none⟩ (.slice none 0 0)) w2) (hn : s.n ≤ s2.n) => h5.out.back h2 t hn); have hcall := zh (sec_any h.out fit.out hc hnil.out (hvw.tr tn.out) hsn); obtain ⟨wN, hwN⟩ : ∃ wN, wN = wr.setCell ⟨p, 10, none⟩ (.slice none 0 0) := ⟨_, rfl⟩
      rw [← hwN] at hnil tn hback hcall; rw [hfi] at hcall; have eg := fun (args : Array Value) (w : World) => enters i hlt args w; rw [hfi] at eg; clear hc hvw hBr; go_wp2_with fail; rw [← hwN]; clear hwN cF x10 fr eg; refine hcall.out.mono ?_; rintro e w6 ⟨rfl, v6, h6, t6⟩; have hgr := (sec_n fit.out hfi hdrop.out ⟨[], s.n⟩)
      obtain ⟨S6, hS6⟩ : ∃ S6, c.f ⟨[], s.n⟩ = S6 := ⟨_, rfl⟩
      rw [hS6] at h6 hgr; obtain ⟨K6, u6, b6, n6, m6⟩ := hback.out w6 v6 S6 h6 t6 hgr.1; have o6 : ∀ g, v6.ownBlock = some g → g < w6.heap.size := fun g e => (h6.own.lt g e).2; obtain ⟨a6', c6', hv6⟩ := own_slice h6.own; subst hv6; have x10 := h6.c10; have fr := h6.free 10
      have hvm : ∀ g, (Value.slice a6' S6.l.length c6').ownBlock = some g → (Value.slice av s.l.length cv2).ownBlock ≠ some g := fun g e e2 => by
       have := m6 g e; have := (h5.out.own.lt g e2).2; omega
      obtain ⟨w7, hw7⟩ : ∃ w7, w7 = w6.setCell ⟨p, 10, none⟩ (.slice av s.l.length cv2) := ⟨_, rfl⟩
      have o7 : ∀ g, (Value.slice a6' S6.l.length c6').ownBlock = some g → g < w7.heap.size := fun g e => by have := o6 g e; rw [hw7]; simpa using this
      rw [← hw7] at K6 u6 b6; have hcapS6 := h6.cap; replace K6 := zh K6; replace u6 := zh (t5.out.trans u6); replace b6 := zh b6; replace n6 := zh n6; replace hvm := zh hvm; replace o7 := zh o7; replace hS6 := zh hS6; clear h6 t6 m6 o6; have hgr1 := hgr.1; have hgr2 := hgr.2; clear hgr; obtain ⟨bs, hbs⟩ : ∃ bs, c.some = bs := ⟨_, rfl⟩
      rw [hbs]; cases bs
      · obtain ⟨S, hS⟩ : ∃ S, turn1 i c s = S := ⟨_, rfl⟩
        have hSe : S = ⟨s.l, S6.n⟩ := (by rw [← hS]; unfold turn1; rw [if_neg (by rw [hbs]; simp), hS6.out])
        have hW : WAt w.heap.size p w7 (mvL m a0 k0 a1 k1 a2 k2 a3 k3 a4 k4 a5 k5 a6 k6 a7 k7 a8 k8 a9 k9) (.slice av s.l.length cv2) S := (by rw [hSe]; exact K6.out)
        have tW := u6; obtain ⟨vT, hvT0⟩ : ∃ vT, vT = Value.slice av s.l.length cv2 := ⟨_, rfl⟩
        rw [← hvT0] at hW tW; clear hSe hvT0; replace hW := zh hW; have hdr := zh (htu.out.trans (by rw [hdrop.out]; rfl : turns i ((scs m).drop i) s = if bad (turn1 i c s) = true then none else turns (i + 1) ((scs m).drop (i + 1)) (turn1 i c s))); rw [hS] at hdr; obtain ⟨aT, cT, hvT⟩ := own_slice hW.out.own; subst hvT; have xT := hW.out.c10; go_wp2_with fail; rw [← hw7]; clear hw7 x10 fr; refine (full_any hW.out).mono ?_; rintro e wz ⟨rfl, rfl⟩; simp only
        by_cases hfull : 1048576 < S.n
        · have hd : decide (1048576 < S.n) = true := decide_eq_true hfull; have hbad := zh (enc_bad hcv.out (hdr.out.trans (if_pos (by unfold bad; rw [hd]; rfl)))); rw [hd]; have hfin := zh (hBw.out.trans (tW.out.below hNp.out (fun g e => hv3N.out g e) hN4.out)); go_wp2; go_ret2; exact ⟨by rw [hbad.out.1, hbad.out.2]; rfl, hfin.out⟩
        · have hd : decide (1048576 < S.n) = false := decide_eq_false hfull; rw [hd]; have hcapS := hW.out.cap
          by_cases hlong : 262144 < S.l.length
          · have hbad := zh (enc_bad hcv.out (hdr.out.trans (if_pos (by unfold bad; rw [decide_eq_true hlong]; simp)))); have hfin := zh (hBw.out.trans (tW.out.below hNp.out (fun g e => hv3N.out g e) hN4.out)); go_wp2; go_ret2; exact ⟨by rw [hbad.out.1, hbad.out.2]; rfl, hfin.out⟩
          · have hnext := zh (hdr.out.trans (if_neg (by unfold bad; rw [hd, decide_eq_false hlong]; simp))); go_wp2; exact ⟨⟨_, _, _, _, _, _, _, .int .i64 ((i : Int) + 1), ⟨i + 1, by omega, by simp, _, S, hW, tW, hnext, by omega⟩, rfl, rfl, rfl, rfl, rfl, rfl, rfl, rfl⟩, by simp [intOf]; omega⟩
      · have hk := zh (show (i : Int) + 1 = (i : Int) + 1 from rfl); go_wp2_with fail; rw [← hw7]; clear hw7 x10 fr; refine (byte_any K6.out ((i : Int) + 1) (by simp only; omega)).mono ?_; rintro e w8 ⟨rfl, v8, h8, t8⟩; have b8 := b6.out.tr t8 n6.out hvm.out
        have m8 : ∀ g, (Value.slice a6' S6.l.length c6').ownBlock = some g → v8.ownBlock ≠ some g := fun g e e2 => by
         rcases t8.own with e3 | e3
         · rw [e3] at e2; exact hvm.out g e e2
         · have := e3 g e2; have := o7.out g e; omega
        replace h8 := zh h8; replace t8 := zh (u6.out.trans t8); replace b8 := zh b8; replace m8 := zh m8; go_wp2_with fail; refine (long_any h8.out _ S6.l b8.out n6.out m8.out (by rw [put_n]; simp only [List.length_cons, List.length_nil]; omega)).mono ?_; rintro e w9 ⟨rfl, vT, h9, t9⟩; obtain ⟨S, hS⟩ : ∃ S, turn1 i c s = S := ⟨_, rfl⟩
        have hSe : S = put S6.l (put (uB S6.l.length) (put [b1 ((i : Int) + 1)] ⟨s.l, S6.n⟩)) := (by rw [← hS]; unfold turn1; rw [if_pos hbs, hS6.out]; rfl)
        rw [← hSe] at h9; have hW := zh h9; have tW := zh (t8.out.trans t9); clear hSe h9 t9 b8 m8 h8 t8; have hdr := zh (htu.out.trans (by rw [hdrop.out]; rfl : turns i ((scs m).drop i) s = if bad (turn1 i c s) = true then none else turns (i + 1) ((scs m).drop (i + 1)) (turn1 i c s))); rw [hS] at hdr; obtain ⟨aT, cT, hvT⟩ := own_slice hW.out.own; subst hvT; have xT := hW.out.c10; go_wp2_with fail; refine (full_any hW.out).mono ?_; rintro e wz ⟨rfl, rfl⟩; simp only
        by_cases hfull : 1048576 < S.n
        · have hd : decide (1048576 < S.n) = true := decide_eq_true hfull; have hbad := zh (enc_bad hcv.out (hdr.out.trans (if_pos (by unfold bad; rw [hd]; rfl)))); rw [hd]; have hfin := zh (hBw.out.trans (tW.out.below hNp.out (fun g e => hv3N.out g e) hN4.out)); go_wp2; go_ret2; exact ⟨by rw [hbad.out.1, hbad.out.2]; rfl, hfin.out⟩
        · have hd : decide (1048576 < S.n) = false := decide_eq_false hfull; rw [hd]; have hcapS := hW.out.cap
          by_cases hlong : 262144 < S.l.length
          · have hbad := zh (enc_bad hcv.out (hdr.out.trans (if_pos (by unfold bad; rw [decide_eq_true hlong]; simp)))); have hfin := zh (hBw.out.trans (tW.out.below hNp.out (fun g e => hv3N.out g e) hN4.out)); go_wp2; go_ret2; exact ⟨by rw [hbad.out.1, hbad.out.2]; rfl, hfin.out⟩
          · have hnext := zh (hdr.out.trans (if_neg (by unfold bad; rw [hd, decide_eq_false hlong]; simp))); go_wp2; exact ⟨⟨_, _, _, _, _, _, _, .int .i64 ((i : Int) + 1), ⟨i + 1, by omega, by simp, _, S, hW, tW, hnext, by omega⟩, rfl, rfl, rfl, rfl, rfl, rfl, rfl, rfl⟩, by simp [intOf]; omega⟩
    · have hi11 : i = 11 := (by omega)
      have hgood := zh (enc_good hcv.out (htu.out.trans (by rw [List.drop_eq_nil_of_le (show (scs m).length ≤ i by show 11 ≤ i; omega)]; rfl))); have hcv2 := conv_own h5.out.own; obtain ⟨av, cv2, hvv⟩ := own_slice h5.out.own; subst hvv; have x10 := h5.out.c10; have hBr2 := zh hBr; clear hBr; go_wp2; go_ret2; exact ⟨by rw [hgood.out.1, hgood.out.2]; rfl, hBr2.out⟩
 · have hE : encE m = cv := (by unfold encE; rw [if_neg (by rw [hcv]; exact hc0), hcv])
   have hS : encB m = [] := (by unfold encB; rw [if_neg (by rw [hcv]; exact hc0)])
   replace hE := zh hE; replace hS := zh hS; replace hcv := zh hcv; have hne : (cv == 0) = false := (by simp [hc0])
   go_wp2; go_ret2; exact ⟨by rw [hE.out, hS.out]; rfl, hB2.out⟩
end Go.Proofs.YtanpjbbhhofkfaaGreatDoor
