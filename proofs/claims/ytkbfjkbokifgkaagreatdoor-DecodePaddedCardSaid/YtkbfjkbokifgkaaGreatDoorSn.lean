/- The module, as the reader has it. -/
import Derived.Test.YtkbfjkbokifgkaaGreatDoorSm
namespace Go.Proofs.YtkbfjkbokifgkaaGreatDoor
open Go.RowKit
set_option linter.unusedVariables false
set_option linter.unusedSimpArgs false
def FdOk {α : Type} (K : Kd α) (E : TypeId) (R : Nat → Prop) (w : World) (v : Value) (xs : List α) : Prop := ∃ ts : List K.R, ts.map K.of = xs ∧ w.ownsRow 0 E K.sz v ts.length (ts.flatMap K.enc) ∧ (∀ g, v.ownBlock = some g → R g) ∧ ∀ t ∈ ts, K.ok R w t
theorem keeps_wrS {R R' S : Nat → Prop} {w w' : World} (k : Wr S w w') (hS : ∀ b, R b → ¬ S b) (hR : ∀ b, R b → b < w.heap.size → R' b) : KeepsR R R' w w' := ⟨fun a v hb hc => by
 have hs := World.cell?_spot hc; obtain ⟨b, o, s⟩ := a; cases hs; have hlt := World.block_lt_of_cell? _ _ hc; rw [World.cell?_of_block (w := w) (w' := w') (k.block b hlt (hS b hb))]; exact hc, hR⟩
theorem FdOk.keep {α : Type} {K : Kd α} {E : TypeId} {R R' S : Nat → Prop} {w w' : World} {v : Value} {xs : List α} (h : FdOk K E R w v xs) (k : Wr S w w') (hS : ∀ b, R b → ¬ S b) (hR : ∀ b, R b → b < w.heap.size → R' b) : FdOk K E R' w' v xs := by obtain ⟨ts, h1, h2, h3, h4⟩ := h; exact ⟨ts, h1, own_same h2 fun g hg => k.block g (h2.lt g hg).2 (hS g (h3 g hg)), fun g hg => hR g (h3 g hg) (h2.lt g hg).2, fun t ht => K.keep (keeps_wrS k hS hR) (h4 t ht)⟩
theorem FdOk.nil {α : Type} {K : Kd α} {E : TypeId} {R : Nat → Prop} {w : World} : FdOk K E R w (.slice none 0 0) ([] : List α) := ⟨[], rfl, World.ownsRow_nil _ _ _ _, fun g h => (by cases h), fun t h => (by cases h)⟩
theorem FdOk.empty {α : Type} {K : Kd α} {E : TypeId} {R : Nat → Prop} {w : World} {xs : List α} (h : FdOk K E R w (.slice none 0 0) xs) : xs = [] := by
 obtain ⟨ts, rfl, h2, _, _⟩ := h
 rcases h2.2 with ⟨_, h0⟩ | ⟨g, cap, cur, hv, _⟩
 · rw [List.length_eq_zero_iff.1 h0]; rfl
 · cases hv
theorem own_low {w : World} {base B : Nat} {e : TypeId} {size : Nat} {v : Value} {n : Nat} {xs : List Value} (h : w.ownsRow base e size v n xs) (hB : B ≤ base) : w.ownsRow B e size v n xs := by
 refine ⟨h.1, ?_⟩
 rcases h.2 with hn | ⟨g, cap, cur, h1, hb, rest⟩
 · exact .inl hn
 · exact .inr ⟨g, cap, cur, h1, Nat.le_trans hB hb, rest⟩
theorem FdOk.of {α : Type} {K : Kd α} {E : TypeId} {R : Nat → Prop} {w : World} {v : Value} {B : Nat} {ts : List K.R} (h : w.ownsRow B E K.sz v ts.length (ts.flatMap K.enc)) (ok : ∀ t ∈ ts, K.ok (fun b => B ≤ b ∧ some b ≠ v.ownBlock) w t) (hR : ∀ b, B ≤ b → R b) : FdOk K E R w v (ts.map K.of) :=
 ⟨ts, rfl, own_low h (Nat.zero_le _), fun g hg => hR g (h.lt g hg).1, fun t ht => K.keep ⟨fun _ _ _ h => h, fun b hb _ => hR b hb.1⟩ (ok t ht)⟩
def Fns (N : Nat) (w : World) (p : Nat) (v : Value) (fs : List (Int × List Int × Il)) (cd : Bool) : Prop :=
 (∃ tys : List Int, fs = tys.map (fun t => (t, [], .nil)) ∧ tys.length ≤ 4096 ∧ FdOk fnK 83 (fun b => b ≠ p ∧ N ≤ b) w v tys) ∨
 (cd = true ∧ ∃ g cap cur rs, v = .slice (some ⟨g, 0, none⟩) rs.length cap ∧ fs = rs.map FnR.p ∧ Bk w g cur 83 ∧ FnRow cur rs ∧ g ≠ p ∧ N ≤ g ∧ rs.length ≤ 9223372036854775807 ∧ ∀ r ∈ rs, FnOk (fun b => b ≠ p ∧ b ≠ g ∧ N ≤ b) w r)
theorem Fns.lt {N : Nat} {w : World} {p : Nat} {v : Value} {fs : List (Int × List Int × Il)} {cd : Bool} (h : Fns N w p v fs cd) : ∀ g, v.ownBlock = some g → g < w.heap.size := by
 intro g hg
 rcases h with ⟨tys, _, _, ts, _, h2, _⟩ | ⟨_, g', cap, cur, rs, rfl, _, hb, _⟩
 · exact (h2.lt g hg).2
 · cases hg; exact hb.lt
theorem Fns.wr {N : Nat} {w w' : World} {p : Nat} {v : Value} {fs : List (Int × List Int × Il)} {cd : Bool} (h : Fns N w p v fs cd) (k : Wr (· = p) w w') : Fns N w' p v fs cd := by
 rcases h with ⟨tys, h1, hl, h2⟩ | ⟨h0, g, cap, cur, rs, h1, h2, h3, h4, h5, h6, h7, h8⟩
 · exact .inl ⟨tys, h1, hl, h2.keep k (fun b hb => hb.1) (fun b hb _ => hb)⟩
 · exact .inr ⟨h0, g, cap, cur, rs, h1, h2, h3.wr k h5, h4, h5, h6, h7, fun r hr => (h8 r hr).keep (keeps_wrS k (fun b hb => hb.1) (fun b hb _ => hb))⟩
def Rx (N p : Nat) (v2 : Value) : Nat → Prop := fun b => b ≠ p ∧ v2.ownBlock ≠ some b ∧ N ≤ b
structure MS (N : Nat) (w : World) (p : Nat) (v0 v1 v2 v3 v4 v5 v6 v7 v8 v9 : Value) (m : Md) (cd : Bool) : Prop where
 types : FdOk typK 78 (Rx N p v2) w v0 m.types
 imports : FdOk impK 80 (Rx N p v2) w v1 m.imports
 tables : FdOk limK 86 (Rx N p v2) w v3 m.tables
 mems : FdOk limK 86 (Rx N p v2) w v4 m.mems
 globals : FdOk gloK 90 (Rx N p v2) w v5 m.globals
 exports : FdOk expK 93 (Rx N p v2) w v6 m.exports
 start : FdOk stK 3 (Rx N p v2) w v7 m.start
 elems : FdOk elmK 95 (Rx N p v2) w v8 m.elems
 datas : FdOk datK 97 (Rx N p v2) w v9 m.datas
 funcs : Fns N w p v2 m.funcs cd
theorem MS.wr {N : Nat} {w w' : World} {p : Nat} {v0 v1 v2 v3 v4 v5 v6 v7 v8 v9 : Value} {m : Md} {cd : Bool} (h : MS N w p v0 v1 v2 v3 v4 v5 v6 v7 v8 v9 m cd) (k : Wr (· = p) w w') : MS N w' p v0 v1 v2 v3 v4 v5 v6 v7 v8 v9 m cd :=
 ⟨h.types.keep k (fun b hb => hb.1) (fun b hb _ => hb), h.imports.keep k (fun b hb => hb.1) (fun b hb _ => hb), h.tables.keep k (fun b hb => hb.1) (fun b hb _ => hb), h.mems.keep k (fun b hb => hb.1) (fun b hb _ => hb), h.globals.keep k (fun b hb => hb.1) (fun b hb _ => hb), h.exports.keep k (fun b hb => hb.1) (fun b hb _ => hb), h.start.keep k (fun b hb => hb.1) (fun b hb _ => hb), h.elems.keep k (fun b hb => hb.1) (fun b hb _ => hb), h.datas.keep k (fun b hb => hb.1) (fun b hb _ => hb), h.funcs.wr k⟩
theorem MS.types' {N : Nat} {w w' : World} {p : Nat} {v1 v2 v3 v4 v5 v6 v7 v8 v9 v' : Value} {m : Md} {cd : Bool} (h : MS N w p (.slice none 0 0) v1 v2 v3 v4 v5 v6 v7 v8 v9 m cd) (k : Wr (· = p) w w') (hp : p < w.heap.size) (hN : N ≤ w.heap.size) {ts : List (typK).R} (own : w'.ownsRow (w.heap.size + 1) 78 (typK).sz v' ts.length (ts.flatMap (typK).enc)) (ok : ∀ t ∈ ts, (typK).ok (fun b => w.heap.size + 1 ≤ b ∧ some b ≠ v'.ownBlock) w' t) :
 MS N w' p v' v1 v2 v3 v4 v5 v6 v7 v8 v9 { m with types := m.types ++ ts.map (typK).of } cd := by
 have hl := h.funcs.lt; have h' := h.wr k; have he := h.types.empty; refine ⟨?_, h'.imports, h'.tables, h'.mems, h'.globals, h'.exports, h'.start, h'.elems, h'.datas, h'.funcs⟩; rw [he, List.nil_append]; exact FdOk.of own ok (fun b hb => ⟨by omega, fun e => by have := hl b e; omega, by omega⟩)
theorem MS.imports' {N : Nat} {w w' : World} {p : Nat} {v0 v2 v3 v4 v5 v6 v7 v8 v9 v' : Value} {m : Md} {cd : Bool} (h : MS N w p v0 (.slice none 0 0) v2 v3 v4 v5 v6 v7 v8 v9 m cd) (k : Wr (· = p) w w') (hp : p < w.heap.size) (hN : N ≤ w.heap.size) {ts : List (impK).R} (own : w'.ownsRow (w.heap.size + 1) 80 (impK).sz v' ts.length (ts.flatMap (impK).enc)) (ok : ∀ t ∈ ts, (impK).ok (fun b => w.heap.size + 1 ≤ b ∧ some b ≠ v'.ownBlock) w' t) :
 MS N w' p v0 v' v2 v3 v4 v5 v6 v7 v8 v9 { m with imports := m.imports ++ ts.map (impK).of } cd := by
 have hl := h.funcs.lt; have h' := h.wr k; have he := h.imports.empty; refine ⟨h'.types, ?_, h'.tables, h'.mems, h'.globals, h'.exports, h'.start, h'.elems, h'.datas, h'.funcs⟩; rw [he, List.nil_append]; exact FdOk.of own ok (fun b hb => ⟨by omega, fun e => by have := hl b e; omega, by omega⟩)
theorem MS.tables' {N : Nat} {w w' : World} {p : Nat} {v0 v1 v2 v4 v5 v6 v7 v8 v9 v' : Value} {m : Md} {cd : Bool} (h : MS N w p v0 v1 v2 (.slice none 0 0) v4 v5 v6 v7 v8 v9 m cd) (k : Wr (· = p) w w') (hp : p < w.heap.size) (hN : N ≤ w.heap.size) {ts : List (limK).R} (own : w'.ownsRow (w.heap.size + 1) 86 (limK).sz v' ts.length (ts.flatMap (limK).enc)) (ok : ∀ t ∈ ts, (limK).ok (fun b => w.heap.size + 1 ≤ b ∧ some b ≠ v'.ownBlock) w' t) :
 MS N w' p v0 v1 v2 v' v4 v5 v6 v7 v8 v9 { m with tables := m.tables ++ ts.map (limK).of } cd := by
 have hl := h.funcs.lt; have h' := h.wr k; have he := h.tables.empty; refine ⟨h'.types, h'.imports, ?_, h'.mems, h'.globals, h'.exports, h'.start, h'.elems, h'.datas, h'.funcs⟩; rw [he, List.nil_append]; exact FdOk.of own ok (fun b hb => ⟨by omega, fun e => by have := hl b e; omega, by omega⟩)
theorem MS.mems' {N : Nat} {w w' : World} {p : Nat} {v0 v1 v2 v3 v5 v6 v7 v8 v9 v' : Value} {m : Md} {cd : Bool} (h : MS N w p v0 v1 v2 v3 (.slice none 0 0) v5 v6 v7 v8 v9 m cd) (k : Wr (· = p) w w') (hp : p < w.heap.size) (hN : N ≤ w.heap.size) {ts : List (limK).R} (own : w'.ownsRow (w.heap.size + 1) 86 (limK).sz v' ts.length (ts.flatMap (limK).enc)) (ok : ∀ t ∈ ts, (limK).ok (fun b => w.heap.size + 1 ≤ b ∧ some b ≠ v'.ownBlock) w' t) :
 MS N w' p v0 v1 v2 v3 v' v5 v6 v7 v8 v9 { m with mems := m.mems ++ ts.map (limK).of } cd := by
 have hl := h.funcs.lt; have h' := h.wr k; have he := h.mems.empty; refine ⟨h'.types, h'.imports, h'.tables, ?_, h'.globals, h'.exports, h'.start, h'.elems, h'.datas, h'.funcs⟩; rw [he, List.nil_append]; exact FdOk.of own ok (fun b hb => ⟨by omega, fun e => by have := hl b e; omega, by omega⟩)
theorem MS.globals' {N : Nat} {w w' : World} {p : Nat} {v0 v1 v2 v3 v4 v6 v7 v8 v9 v' : Value} {m : Md} {cd : Bool} (h : MS N w p v0 v1 v2 v3 v4 (.slice none 0 0) v6 v7 v8 v9 m cd) (k : Wr (· = p) w w') (hp : p < w.heap.size) (hN : N ≤ w.heap.size) {ts : List (gloK).R} (own : w'.ownsRow (w.heap.size + 1) 90 (gloK).sz v' ts.length (ts.flatMap (gloK).enc)) (ok : ∀ t ∈ ts, (gloK).ok (fun b => w.heap.size + 1 ≤ b ∧ some b ≠ v'.ownBlock) w' t) :
 MS N w' p v0 v1 v2 v3 v4 v' v6 v7 v8 v9 { m with globals := m.globals ++ ts.map (gloK).of } cd := by
 have hl := h.funcs.lt; have h' := h.wr k; have he := h.globals.empty; refine ⟨h'.types, h'.imports, h'.tables, h'.mems, ?_, h'.exports, h'.start, h'.elems, h'.datas, h'.funcs⟩; rw [he, List.nil_append]; exact FdOk.of own ok (fun b hb => ⟨by omega, fun e => by have := hl b e; omega, by omega⟩)
theorem MS.exports' {N : Nat} {w w' : World} {p : Nat} {v0 v1 v2 v3 v4 v5 v7 v8 v9 v' : Value} {m : Md} {cd : Bool} (h : MS N w p v0 v1 v2 v3 v4 v5 (.slice none 0 0) v7 v8 v9 m cd) (k : Wr (· = p) w w') (hp : p < w.heap.size) (hN : N ≤ w.heap.size) {ts : List (expK).R} (own : w'.ownsRow (w.heap.size + 1) 93 (expK).sz v' ts.length (ts.flatMap (expK).enc)) (ok : ∀ t ∈ ts, (expK).ok (fun b => w.heap.size + 1 ≤ b ∧ some b ≠ v'.ownBlock) w' t) :
 MS N w' p v0 v1 v2 v3 v4 v5 v' v7 v8 v9 { m with exports := m.exports ++ ts.map (expK).of } cd := by
 have hl := h.funcs.lt; have h' := h.wr k; have he := h.exports.empty; refine ⟨h'.types, h'.imports, h'.tables, h'.mems, h'.globals, ?_, h'.start, h'.elems, h'.datas, h'.funcs⟩; rw [he, List.nil_append]; exact FdOk.of own ok (fun b hb => ⟨by omega, fun e => by have := hl b e; omega, by omega⟩)
theorem MS.start' {N : Nat} {w w' : World} {p : Nat} {v0 v1 v2 v3 v4 v5 v6 v8 v9 v' : Value} {m : Md} {cd : Bool} (h : MS N w p v0 v1 v2 v3 v4 v5 v6 (.slice none 0 0) v8 v9 m cd) (k : Wr (· = p) w w') (hp : p < w.heap.size) (hN : N ≤ w.heap.size) {ts : List (stK).R} (own : w'.ownsRow (w.heap.size + 1) 3 (stK).sz v' ts.length (ts.flatMap (stK).enc)) (ok : ∀ t ∈ ts, (stK).ok (fun b => w.heap.size + 1 ≤ b ∧ some b ≠ v'.ownBlock) w' t) :
 MS N w' p v0 v1 v2 v3 v4 v5 v6 v' v8 v9 { m with start := m.start ++ ts.map (stK).of } cd := by
 have hl := h.funcs.lt; have h' := h.wr k; have he := h.start.empty; refine ⟨h'.types, h'.imports, h'.tables, h'.mems, h'.globals, h'.exports, ?_, h'.elems, h'.datas, h'.funcs⟩; rw [he, List.nil_append]; exact FdOk.of own ok (fun b hb => ⟨by omega, fun e => by have := hl b e; omega, by omega⟩)
theorem MS.elems' {N : Nat} {w w' : World} {p : Nat} {v0 v1 v2 v3 v4 v5 v6 v7 v9 v' : Value} {m : Md} {cd : Bool} (h : MS N w p v0 v1 v2 v3 v4 v5 v6 v7 (.slice none 0 0) v9 m cd) (k : Wr (· = p) w w') (hp : p < w.heap.size) (hN : N ≤ w.heap.size) {ts : List (elmK).R} (own : w'.ownsRow (w.heap.size + 1) 95 (elmK).sz v' ts.length (ts.flatMap (elmK).enc)) (ok : ∀ t ∈ ts, (elmK).ok (fun b => w.heap.size + 1 ≤ b ∧ some b ≠ v'.ownBlock) w' t) :
 MS N w' p v0 v1 v2 v3 v4 v5 v6 v7 v' v9 { m with elems := m.elems ++ ts.map (elmK).of } cd := by
 have hl := h.funcs.lt; have h' := h.wr k; have he := h.elems.empty; refine ⟨h'.types, h'.imports, h'.tables, h'.mems, h'.globals, h'.exports, h'.start, ?_, h'.datas, h'.funcs⟩; rw [he, List.nil_append]; exact FdOk.of own ok (fun b hb => ⟨by omega, fun e => by have := hl b e; omega, by omega⟩)
theorem MS.datas' {N : Nat} {w w' : World} {p : Nat} {v0 v1 v2 v3 v4 v5 v6 v7 v8 v' : Value} {m : Md} {cd : Bool} (h : MS N w p v0 v1 v2 v3 v4 v5 v6 v7 v8 (.slice none 0 0) m cd) (k : Wr (· = p) w w') (hp : p < w.heap.size) (hN : N ≤ w.heap.size) {ts : List (datK).R} (own : w'.ownsRow (w.heap.size + 1) 97 (datK).sz v' ts.length (ts.flatMap (datK).enc)) (ok : ∀ t ∈ ts, (datK).ok (fun b => w.heap.size + 1 ≤ b ∧ some b ≠ v'.ownBlock) w' t) :
 MS N w' p v0 v1 v2 v3 v4 v5 v6 v7 v8 v' { m with datas := m.datas ++ ts.map (datK).of } cd := by
 have hl := h.funcs.lt; have h' := h.wr k; have he := h.datas.empty; refine ⟨h'.types, h'.imports, h'.tables, h'.mems, h'.globals, h'.exports, h'.start, h'.elems, ?_, h'.funcs⟩; rw [he, List.nil_append]; exact FdOk.of own ok (fun b hb => ⟨by omega, fun e => by have := hl b e; omega, by omega⟩)
theorem MS.funcs' {N : Nat} {w w' : World} {p : Nat} {v0 v1 v3 v4 v5 v6 v7 v8 v9 v' : Value} {m : Md} {cd : Bool} (h : MS N w p v0 v1 (.slice none 0 0) v3 v4 v5 v6 v7 v8 v9 m cd) (k : Wr (· = p) w w') (hp : p < w.heap.size) (hN : N ≤ w.heap.size) {ts : List (fnK).R} (hle : ts.length ≤ 4096) (own : w'.ownsRow (w.heap.size + 1) 83 (fnK).sz v' ts.length (ts.flatMap (fnK).enc)) (ok : ∀ t ∈ ts, (fnK).ok (fun b => w.heap.size + 1 ≤ b ∧ some b ≠ v'.ownBlock) w' t) :
 MS N w' p v0 v1 v' v3 v4 v5 v6 v7 v8 v9 { m with funcs := m.funcs ++ (ts.map (fnK).of).map (fun t => (t, [], .nil)) } cd := by
 have hb : ∀ b, Rx N p (.slice none 0 0) b → b < w.heap.size → Rx N p v' b := fun b hb hlt => ⟨hb.1, fun e => by have := (own.lt b e).1; omega, hb.2.2⟩
 have he : m.funcs = [] := by
  rcases h.funcs with ⟨tys, h1, _, h2⟩ | ⟨_, g, cap, cur, rs, h1, _⟩
  · rw [h1, h2.empty]; rfl
  · cases h1
 refine ⟨h.types.keep k (fun b hb => hb.1) hb, h.imports.keep k (fun b hb => hb.1) hb, h.tables.keep k (fun b hb => hb.1) hb, h.mems.keep k (fun b hb => hb.1) hb, h.globals.keep k (fun b hb => hb.1) hb, h.exports.keep k (fun b hb => hb.1) hb, h.start.keep k (fun b hb => hb.1) hb, h.elems.keep k (fun b hb => hb.1) hb, h.datas.keep k (fun b hb => hb.1) hb, .inl ⟨ts.map (fnK).of, ?_, by rw [List.length_map]; exact hle, FdOk.of own ok (fun b hb => ⟨by omega, by omega⟩)⟩⟩; rw [he, List.nil_append]
theorem MS.codes' {N : Nat} {w w' : World} {p g cap : Nat} {v0 v1 v3 v4 v5 v6 v7 v8 v9 : Value} {n : Nat} {m : Md} {cd : Bool} {cur : List Value} {rs : List FnR} (h : MS N w p v0 v1 (.slice (some ⟨g, 0, none⟩) n cap) v3 v4 v5 v6 v7 v8 v9 m cd) (k : Wr (Spq p g) w w') (hp : p < w.heap.size) (hg : g < w.heap.size) (hgp : g ≠ p) (hN : N ≤ g) (hn : rs.length = n) (hn2 : n ≤ 9223372036854775807)
 (hb : Bk w' g cur 83) (hr : FnRow cur rs) (ok : ∀ r ∈ rs, FnOk (fun b => w.heap.size ≤ b) w' r) : MS N w' p v0 v1 (.slice (some ⟨g, 0, none⟩) n cap) v3 v4 v5 v6 v7 v8 v9 { m with funcs := rs.map FnR.p } true := by
 have hS : ∀ b, Rx N p (.slice (some ⟨g, 0, none⟩) n cap) b → ¬ Spq p g b := fun b hb e => e.elim hb.1 (fun e => hb.2.1 (by rw [e]; rfl)); refine ⟨h.types.keep k hS (fun b hb _ => hb), h.imports.keep k hS (fun b hb _ => hb), h.tables.keep k hS (fun b hb _ => hb), h.mems.keep k hS (fun b hb _ => hb), h.globals.keep k hS (fun b hb _ => hb), h.exports.keep k hS (fun b hb _ => hb), h.start.keep k hS (fun b hb _ => hb), h.elems.keep k hS (fun b hb _ => hb), h.datas.keep k hS (fun b hb _ => hb), .inr ⟨rfl, g, cap, cur, rs, by rw [hn], rfl, hb, hr, hgp, hN, by omega, fun r hr => (ok r hr).keep ⟨fun _ _ _ h => h, fun b hb _ => by have : w.heap.size ≤ b := hb; exact ⟨by omega, by omega, by omega⟩⟩⟩⟩
theorem gMany_len {α : Type} {f : Nat → Got α} : ∀ {k a a' : Nat} {l : List α}, gMany f k a = .ok (l, a') → l.length = k
 | 0, a, a', l, h => by cases h; rfl
 | k + 1, a, a', l, h => by
   obtain ⟨q, h1, h2⟩ := bind_ok h; obtain ⟨r, h3, h4⟩ := bind_ok h2; cases h4; rw [List.length_cons, gMany_len (show gMany f k q.2 = .ok (r.1, r.2) from h3)]
theorem gEach_le {α : Type} {s : List UInt8} {e a a' : Nat} {f : Nat → Got α} {l : List α} (h : gEach s e a f = .ok (l, a')) : l.length ≤ 4096 := by obtain ⟨q, h1, h2⟩ := bind_ok h; have hq := gCount_le (show gCount s e a = .ok (q.1, q.2) from h1); rw [gMany_len h2]; omega
theorem flat_at2 {α : Type} {enc : α → List Value} {k : Nat} (hlen : ∀ x, (enc x).length = k) : ∀ (xs : List α) (i r : Nat) (x : α) (u : Value), xs[i]? = some x → (enc x)[r]? = some u → (xs.flatMap enc)[i * k + r]? = some u
 | [], i, r, x, u, h, _ => by simp at h
 | y :: l, 0, r, x, u, h, hu => by
   simp only [List.getElem?_cons_zero, Option.some.injEq] at h; subst h; rw [List.flatMap_cons, List.getElem?_append_left (by have := (List.getElem?_eq_some_iff.1 hu).1; omega)]; simpa using hu
 | y :: l, i + 1, r, x, u, h, hu => by
   simp only [List.getElem?_cons_succ] at h; rw [List.flatMap_cons, List.getElem?_append_right (by rw [hlen, Nat.add_mul]; omega)]; have e : (i + 1) * k + r - (enc y).length = i * k + r := (by rw [hlen, Nat.add_mul]; omega)
   rw [e]; exact flat_at2 hlen l i r x u h hu
set_option maxRecDepth 100000 in
set_option maxHeartbeats 8000000 in
theorem codes0_any {w : World} {p : Nat} {s : ByteArray} {a e : Nat} {l : Int} {cs : List Value} {cd : Bool} (hR : RdAt w p s (a : Int) (e : Int) l cs) (hc2 : cs[2]? = some (.slice none 0 0)) (hc10 : cs[10]? = some (.bool cd)) (hs : s.size ≤ 262144) (he : e ≤ s.size) (ha : a ≤ e) :
 Calls Tryz.prog 76 #[.pointer (some ⟨p, 0, none⟩)] w fun e' w' => Wr (· = p) w w' ∧ ((∃ a', (gCount (strl s) e a).bind (fun n => if n.1 = (0 : Int) then Except.ok ((), n.2) else .error 50) = .ok ((), a') ∧ a' ≤ e ∧ e' = .returned (.tuple #[]) ∧ RdAt w' p s (a' : Int) (e : Int) l (cs.set 10 (.bool true))) ∨
  (∃ m, (gCount (strl s) e a).bind (fun n => if n.1 = (0 : Int) then Except.ok ((), n.2) else .error 50) = .error m ∧ e' = .panicked (flt m))) := by
 obtain ⟨R, hG0⟩ : ∃ R : Got Unit, ((gCount (strl s) e a).bind fun n => if n.1 = (0 : Int) then Except.ok ((), n.2) else .error 50) = R := ⟨_, rfl⟩
 rw [hG0]; replace hG0 := zh hG0; obtain ⟨br, hbr⟩ : ∃ br, br = w.heap.size := ⟨_, rfl⟩
 have hpw : p < br := (by rw [hbr]; exact hR.lt)
 have hB : Below w.heap.size w (w.alloc (.cells #[.pointer (some ⟨p, 0, none⟩)] 60)) := (Below.refl _ _).alloc (Nat.le_refl _) _; have hR1 := hR.below hB; have hb1 := Bk.new w [.pointer (some ⟨p, 0, none⟩)] 60; have hW1 := Wr.of_below (S := (· = p)) hB; rw [← hbr] at hb1; clear hR hB; go_enter Tryz.func76, Tryz.ntmps76
 go_upto_region 1 with (fail)
 obtain ⟨w1, hw1⟩ : ∃ w1, w1 = w.alloc (.cells #[.pointer (some ⟨p, 0, none⟩)] 60) := ⟨_, rfl⟩
 rw [← hbr]; rw [show (w.alloc (.cells [.pointer (some ⟨p, 0, none⟩)].toArray 60)) = w1 from hw1.symm] at hb1; rw [← hw1] at hR1 hW1 ⊢; clear hw1; replace hbr := zh hbr; have c0 := hb1.cell (j := 0) rfl; replace hR1 := zh hR1; replace hb1 := zh hb1; replace hW1 := zh hW1; replace hc2 := zh hc2; replace hc10 := zh hc10; go_wp2_with fail; refine (count_any hR1.out hs he ha).mono ?_; rintro e' w2 ⟨hV, ⟨m, a2, v', hg, ha2, ⟨rfl, hm0, hm1⟩, rfl, hR2⟩ | ⟨n, hg, rfl⟩⟩
 rotate_left
 · exact ⟨rfl, hW1.out.trans hV, .inr ⟨n, by rw [← hG0.out, rd_err hg], rfl⟩⟩
 have hG2 : R = if m = (0 : Int) then Except.ok ((), a2) else .error 50 := (by rw [← hG0.out, rd_bind hg])
 replace hG2 := zh hG2; have hb2 := hb1.out.wr hV (by omega); have hW2 := hW1.out.trans hV; clear hg hG0 hV hR1 hb1 hW1 c0; have c0 := hb2.cell (j := 0) rfl
 have c6 : w2.cell? ⟨p, 6, none⟩ = some (.slice none 0 0) := by have h := hR2; rw [← set_same7 hc2.out] at h; exact h.field (j := 2) (by decide)
 replace hR2 := zh hR2; replace hb2 := zh hb2; replace hW2 := zh hW2
 by_cases hmn : m = (0 : Int)
 rotate_left
 · have hb : (m == (0 : Int)) = false := (by rw [beq_eq_false_iff_ne]; exact hmn)
   have hf : R = .error 50 := (by rw [hG2.out, if_neg hmn])
   replace hf := zh hf; replace hmn := zh hmn; go_wp2_with fail; refine (dwant_no 50 _).mono ?_; rintro e' w3 ⟨rfl, rfl⟩; exact ⟨rfl, hW2.out, .inr ⟨50, hf.out, rfl⟩⟩
 have hG3 : R = Except.ok ((), a2) := (by rw [hG2.out, if_pos hmn])
 replace hG3 := zh hG3; clear hG2; subst hmn; go_wp2_with fail; refine (dwant_yes 50 _).mono ?_; rintro e' w3 ⟨rfl, rfl⟩
 have c14 : w2.cell? ⟨p, 14, none⟩ = some (.bool cd) := by have h := hR2.out; rw [← set_same7 hc10.out] at h; exact h.field (j := 10) (by decide)
 have f14 := hR2.out.fr 14
 have hR4 : RdAt (w2.setCell ⟨p, 14, none⟩ (.bool true)) p s (a2 : Int) (e : Int) l (cs.set 10 (.bool true)) := by have h := hR2.out; rw [← set_same7 hc10.out] at h; exact h.setm (.bool true)
 have hW4 := hW2.out.set (S := (· = p)) rfl 14 (.bool true)
 go_upto_region 4 with (fail)
 obtain ⟨w4, hw4⟩ : ∃ w4, w4 = w2.setCell ⟨p, 14, none⟩ (.bool true) := ⟨_, rfl⟩
 rw [← hw4] at hR4 hW4 ⊢; clear hw4 c0 c6 c14 f14 hR2 hb2 hW2 hc2 hc10; replace hR4 := zh hR4; replace hW4 := zh hW4; go_wp2_with fail; refine wp_loop_rounds 1 ?_; rw [rounds_succ]; go_wp2_with fail; go_end0; exact ⟨hW4.out, .inl ⟨a2, hG3.out, ha2, rfl, hR4.out⟩⟩
structure SS (W0 : World) (w : World) (p : Nat) (s : ByteArray) (a e lt : Nat) (m : Md) (cd : Bool) (l : Nat) (v0 v1 v2 v3 v4 v5 v6 v7 v8 v9 : Value) : Prop where
 rd : RdAt w p s (a : Int) (e : Int) (l : Int) [v0, v1, v2, v3, v4, v5, v6, v7, v8, v9, .bool cd]
 ms : MS W0.heap.size w p v0 v1 v2 v3 v4 v5 v6 v7 v8 v9 m cd
 n0 : lt < 1 → v0 = .slice none 0 0
 n1 : lt < 2 → v1 = .slice none 0 0
 n2 : lt < 3 → v2 = .slice none 0 0
 n3 : lt < 4 → v3 = .slice none 0 0
 n4 : lt < 5 → v4 = .slice none 0 0
 n5 : lt < 6 → v5 = .slice none 0 0
 n6 : lt < 7 → v6 = .slice none 0 0
 n7 : lt < 8 → v7 = .slice none 0 0
 n8 : lt < 9 → v8 = .slice none 0 0
 n9 : lt < 11 → v9 = .slice none 0 0
 nl : lt < 10 → l = 65536 ∧ cd = false
 bl : Below W0.heap.size W0 w
 pN : W0.heap.size ≤ p
theorem Wr.below_of {S : Nat → Prop} {W0 w w' : World} {N : Nat} (h : Below N W0 w) (k : Wr S w w') (hS : ∀ b, S b → N ≤ b) (hN : N ≤ w.heap.size) : Below N W0 w' :=
 ⟨k.os.trans h.os, k.tape.trans h.tape, k.output.trans h.output, Nat.le_trans h.size k.size, fun j hj => (k.block j (by omega) (fun e => by have := hS j e; omega)).trans (h.block j hj)⟩
theorem tabP_of {W0 w : World} {p : Nat} (hT : TabU W0) (hp : W0.heap.size ≤ p) (hb : Below W0.heap.size W0 w) : TabP p w := by have h3 := World.block_lt_of_cell? _ _ (hT.1 0 (by decide)); have h4 := World.block_lt_of_cell? _ _ (hT.2 0 (by decide)).1; have h3' : Tryz.laysValid_ren.g 3 < W0.heap.size := h3; have h4' : Tryz.laysValid_ren.g 4 < W0.heap.size := h4; exact ⟨hT.below hb, by omega, by omega⟩
theorem SS.wr {W0 w w' : World} {p : Nat} {s : ByteArray} {a e a' e' lt : Nat} {m : Md} {cd : Bool} {l : Nat} {v0 v1 v2 v3 v4 v5 v6 v7 v8 v9 : Value} (h : SS W0 w p s a e lt m cd l v0 v1 v2 v3 v4 v5 v6 v7 v8 v9) (k : Wr (· = p) w w') (r : RdAt w' p s (a' : Int) (e' : Int) (l : Int) [v0, v1, v2, v3, v4, v5, v6, v7, v8, v9, .bool cd]) : SS W0 w' p s a' e' lt m cd l v0 v1 v2 v3 v4 v5 v6 v7 v8 v9 :=
 ⟨r, h.ms.wr k, h.n0, h.n1, h.n2, h.n3, h.n4, h.n5, h.n6, h.n7, h.n8, h.n9, h.nl, Wr.below_of h.bl k (fun b e => by have := h.pN; omega) h.bl.size, h.pN⟩
def Sg (p : Nat) (v2 : Value) : Nat → Prop := fun b => b = p ∨ v2.ownBlock = some b
set_option maxHeartbeats 4000000 in
theorem sect_any {W0 w : World} {p : Nat} {s : ByteArray} {a e lt id : Nat} {m : Md} {cd : Bool} {l : Nat} {v0 v1 v2 v3 v4 v5 v6 v7 v8 v9 : Value} (h : SS W0 w p s a e lt m cd l v0 v1 v2 v3 v4 v5 v6 v7 v8 v9) (hT : TabU W0) (hid : id = 0 ∨ (lt < id ∧ id < 12)) (hs : s.size ≤ 262144) (he : e ≤ s.size) (ha : a ≤ e) :
 Calls Tryz.prog (66 + id) #[.pointer (some ⟨p, 0, none⟩)] w fun e' w' => (∃ m' b, gSection (strl s) id m e a = .ok (m', b) ∧ b ≤ e ∧ e' = .returned (.tuple #[]) ∧ ∃ l' v0' v1' v2' v3' v4' v5' v6' v7' v8' v9', SS W0 w' p s b e (max lt id) m' (cd || id == 10) l' v0' v1' v2' v3' v4' v5' v6' v7' v8' v9' ∧ Wr (Sg p v2) w w' ∧ ∀ b, b < w.heap.size → v2.ownBlock ≠ some b → v2'.ownBlock ≠ some b) ∨
  (∃ n, gSection (strl s) id m e a = .error n ∧ e' = .panicked (flt n) ∧ Below W0.heap.size W0 w') := by
 obtain ⟨hR, hM, n0, n1, n2, n3, n4, n5, n6, n7, n8, n9, hl, hbl, hpN⟩ := h; have hTP := tabP_of hT hpN hbl; have hWB : ∀ {w' : World}, Wr (· = p) w w' → Below W0.heap.size W0 w' := fun k => Wr.below_of hbl k (fun b e => by omega) hbl.size; have hpl := hR.lt; have hcases : id = 0 ∨ id = 1 ∨ id = 2 ∨ id = 3 ∨ id = 4 ∨ id = 5 ∨ id = 6 ∨ id = 7 ∨ id = 8 ∨ id = 9 ∨ id = 10 ∨ id = 11 := (by omega)
 rcases hcases with rfl | rfl | rfl | rfl | rfl | rfl | rfl | rfl | rfl | rfl | rfl | rfl
 · refine (custom_any hR hs he ha hTP).mono ?_; rintro e' w' ⟨hW, ⟨_, b, v', hg, hb, rfl, rfl, hR'⟩ | ⟨n, hg, rfl⟩⟩
   · obtain ⟨tx, h1, h2⟩ := bind_ok hg; refine .inl ⟨m, b, ?_, hb, rfl, l, v0, v1, v2, v3, v4, v5, v6, v7, v8, v9, ?_⟩
     · show (gText (strl s) e a).bind _ = _
       rw [rd_bind h1]
       dsimp only at h2 ⊢
       split at h2
       · rename_i hv; cases h2; rw [if_pos hv]
       · cases h2
     · rw [show max lt 0 = lt by omega, show (cd || (0 : Nat) == 10) = cd by simp]; exact ⟨⟨hR', hM.wr hW, n0, n1, n2, n3, n4, n5, n6, n7, n8, n9, hl, hWB hW, hpN⟩, hW.mono (fun _ e => .inl e), fun b _ h => h⟩
   · refine .inr ⟨n, ?_, rfl, hWB hW⟩
     show (gText (strl s) e a).bind _ = _
     cases hx : gText (strl s) e a with
     | error k => rw [hx] at hg; cases hg; rfl
     | ok q =>
       rw [hx] at hg; have hg' : (if Lib.validD q.1 = true then Except.ok ((), e) else Except.error (50 : Int)) = .error n := hg
       show (if Lib.validD q.1 = true then Except.ok (m, e) else Except.error (50 : Int)) = .error n
       split at hg'
       · cases hg'
       · rename_i hv; cases hg'; rw [if_neg hv]
 · have hv := n0 (by omega); subst hv; refine (stypes_any hR rfl hs he ha).mono ?_; rintro e' w' ⟨hW, ⟨xs, b, ts, v, hg, hb, rfl, hR', own, ok, rfl⟩ | ⟨n, hg, rfl⟩⟩
   · refine .inl ⟨_, b, (show (gEach (strl s) e a (gType (strl s) e)).bind _ = _ from rd_bind hg), hb, rfl, l, v, v1, v2, v3, v4, v5, v6, v7, v8, v9, ?_⟩; rw [show max lt 1 = 1 by omega, show (cd || 1 == 10) = cd by simp]; exact ⟨⟨hR', hM.types' hW hpl hbl.size own ok, (fun h => absurd h (by omega)), (fun h => n1 (by omega)), (fun h => n2 (by omega)), (fun h => n3 (by omega)), (fun h => n4 (by omega)), (fun h => n5 (by omega)), (fun h => n6 (by omega)), (fun h => n7 (by omega)), (fun h => n8 (by omega)), (fun h => n9 (by omega)), fun h => hl (by omega), hWB hW, hpN⟩, hW.mono (fun _ e => .inl e), fun b _ h => h⟩
   · exact .inr ⟨n, (show (gEach (strl s) e a (gType (strl s) e)).bind _ = _ from rd_err hg), rfl, hWB hW⟩
 · have hv := n1 (by omega); subst hv; refine (simports_any hR rfl hs he ha hTP).mono ?_; rintro e' w' ⟨hW, ⟨xs, b, ts, v, hg, hb, rfl, hR', own, ok, rfl⟩ | ⟨n, hg, rfl⟩⟩
   · refine .inl ⟨_, b, (show (gEach (strl s) e a (gImport (strl s) e)).bind _ = _ from rd_bind hg), hb, rfl, l, v0, v, v2, v3, v4, v5, v6, v7, v8, v9, ?_⟩; rw [show max lt 2 = 2 by omega, show (cd || 2 == 10) = cd by simp]; exact ⟨⟨hR', hM.imports' hW hpl hbl.size own ok, (fun h => absurd h (by omega)), (fun h => absurd h (by omega)), (fun h => n2 (by omega)), (fun h => n3 (by omega)), (fun h => n4 (by omega)), (fun h => n5 (by omega)), (fun h => n6 (by omega)), (fun h => n7 (by omega)), (fun h => n8 (by omega)), (fun h => n9 (by omega)), fun h => hl (by omega), hWB hW, hpN⟩, hW.mono (fun _ e => .inl e), fun b _ h => h⟩
   · exact .inr ⟨n, (show (gEach (strl s) e a (gImport (strl s) e)).bind _ = _ from rd_err hg), rfl, hWB hW⟩
 · have hv := n2 (by omega); subst hv; refine (sfuncs_any hR rfl hs he ha).mono ?_; rintro e' w' ⟨hW, ⟨xs, b, ts, v, hg, hb, rfl, hR', own, ok, rfl⟩ | ⟨n, hg, rfl⟩⟩
   · refine .inl ⟨_, b, (show (gEach (strl s) e a (gU (strl s) e)).bind _ = _ from rd_bind hg), hb, rfl, l, v0, v1, v, v3, v4, v5, v6, v7, v8, v9, ?_⟩; rw [show max lt 3 = 3 by omega, show (cd || 3 == 10) = cd by simp]; exact ⟨⟨hR', hM.funcs' hW hpl hbl.size (by have := gEach_le hg; rw [List.length_map] at this; exact this) own ok, (fun h => absurd h (by omega)), (fun h => absurd h (by omega)), (fun h => absurd h (by omega)), (fun h => n3 (by omega)), (fun h => n4 (by omega)), (fun h => n5 (by omega)), (fun h => n6 (by omega)), (fun h => n7 (by omega)), (fun h => n8 (by omega)), (fun h => n9 (by omega)), fun h => hl (by omega), hWB hW, hpN⟩, hW.mono (fun _ e => .inl e), fun b hb _ e => by have := (own.lt b e).1; omega⟩
   · exact .inr ⟨n, (show (gEach (strl s) e a (gU (strl s) e)).bind _ = _ from rd_err hg), rfl, hWB hW⟩
 · have hv := n3 (by omega); subst hv; refine (stables_any hR rfl hs he ha).mono ?_; rintro e' w' ⟨hW, ⟨xs, b, ts, v, hg, hb, rfl, hR', own, ok, rfl⟩ | ⟨n, hg, rfl⟩⟩
   · refine .inl ⟨_, b, (show (gEach (strl s) e a (gTable (strl s) e)).bind _ = _ from rd_bind hg), hb, rfl, l, v0, v1, v2, v, v4, v5, v6, v7, v8, v9, ?_⟩; rw [show max lt 4 = 4 by omega, show (cd || 4 == 10) = cd by simp]; exact ⟨⟨hR', hM.tables' hW hpl hbl.size own ok, (fun h => absurd h (by omega)), (fun h => absurd h (by omega)), (fun h => absurd h (by omega)), (fun h => absurd h (by omega)), (fun h => n4 (by omega)), (fun h => n5 (by omega)), (fun h => n6 (by omega)), (fun h => n7 (by omega)), (fun h => n8 (by omega)), (fun h => n9 (by omega)), fun h => hl (by omega), hWB hW, hpN⟩, hW.mono (fun _ e => .inl e), fun b _ h => h⟩
   · exact .inr ⟨n, (show (gEach (strl s) e a (gTable (strl s) e)).bind _ = _ from rd_err hg), rfl, hWB hW⟩
 · have hv := n4 (by omega); subst hv; refine (smems_any hR rfl hs he ha).mono ?_; rintro e' w' ⟨hW, ⟨xs, b, ts, v, hg, hb, rfl, hR', own, ok, rfl⟩ | ⟨n, hg, rfl⟩⟩
   · refine .inl ⟨_, b, (show (gEach (strl s) e a (gLimits (strl s) e)).bind _ = _ from rd_bind hg), hb, rfl, l, v0, v1, v2, v3, v, v5, v6, v7, v8, v9, ?_⟩; rw [show max lt 5 = 5 by omega, show (cd || 5 == 10) = cd by simp]; exact ⟨⟨hR', hM.mems' hW hpl hbl.size own ok, (fun h => absurd h (by omega)), (fun h => absurd h (by omega)), (fun h => absurd h (by omega)), (fun h => absurd h (by omega)), (fun h => absurd h (by omega)), (fun h => n5 (by omega)), (fun h => n6 (by omega)), (fun h => n7 (by omega)), (fun h => n8 (by omega)), (fun h => n9 (by omega)), fun h => hl (by omega), hWB hW, hpN⟩, hW.mono (fun _ e => .inl e), fun b _ h => h⟩
   · exact .inr ⟨n, (show (gEach (strl s) e a (gLimits (strl s) e)).bind _ = _ from rd_err hg), rfl, hWB hW⟩
 · have hv := n5 (by omega); subst hv; refine (sglobals_any hR rfl hs he ha).mono ?_; rintro e' w' ⟨hW, ⟨xs, b, ts, v, hg, hb, rfl, hR', own, ok, rfl⟩ | ⟨n, hg, rfl⟩⟩
   · refine .inl ⟨_, b, (show (gEach (strl s) e a (gGlobal (strl s) e)).bind _ = _ from rd_bind hg), hb, rfl, l, v0, v1, v2, v3, v4, v, v6, v7, v8, v9, ?_⟩; rw [show max lt 6 = 6 by omega, show (cd || 6 == 10) = cd by simp]; exact ⟨⟨hR', hM.globals' hW hpl hbl.size own ok, (fun h => absurd h (by omega)), (fun h => absurd h (by omega)), (fun h => absurd h (by omega)), (fun h => absurd h (by omega)), (fun h => absurd h (by omega)), (fun h => absurd h (by omega)), (fun h => n6 (by omega)), (fun h => n7 (by omega)), (fun h => n8 (by omega)), (fun h => n9 (by omega)), fun h => hl (by omega), hWB hW, hpN⟩, hW.mono (fun _ e => .inl e), fun b _ h => h⟩
   · exact .inr ⟨n, (show (gEach (strl s) e a (gGlobal (strl s) e)).bind _ = _ from rd_err hg), rfl, hWB hW⟩
 · have hv := n6 (by omega); subst hv; refine (sexports_any hR rfl hs he ha hTP).mono ?_; rintro e' w' ⟨hW, ⟨xs, b, ts, v, hg, hb, rfl, hR', own, ok, rfl⟩ | ⟨n, hg, rfl⟩⟩
   · refine .inl ⟨_, b, (show (gEach (strl s) e a (gExport (strl s) e)).bind _ = _ from rd_bind hg), hb, rfl, l, v0, v1, v2, v3, v4, v5, v, v7, v8, v9, ?_⟩; rw [show max lt 7 = 7 by omega, show (cd || 7 == 10) = cd by simp]; exact ⟨⟨hR', hM.exports' hW hpl hbl.size own ok, (fun h => absurd h (by omega)), (fun h => absurd h (by omega)), (fun h => absurd h (by omega)), (fun h => absurd h (by omega)), (fun h => absurd h (by omega)), (fun h => absurd h (by omega)), (fun h => absurd h (by omega)), (fun h => n7 (by omega)), (fun h => n8 (by omega)), (fun h => n9 (by omega)), fun h => hl (by omega), hWB hW, hpN⟩, hW.mono (fun _ e => .inl e), fun b _ h => h⟩
   · exact .inr ⟨n, (show (gEach (strl s) e a (gExport (strl s) e)).bind _ = _ from rd_err hg), rfl, hWB hW⟩
 · have hv := n7 (by omega); subst hv; refine (sstart_any hR rfl hs he ha).mono ?_; rintro e' w' ⟨hW, ⟨xs, b, ts, v, hg, hb, rfl, hR', own, ok, rfl⟩ | ⟨n, hg, rfl⟩⟩
   · obtain ⟨q, h1, h2⟩ := bind_ok hg; have h3 : ([q.1], q.2) = (ts.map (stK).of, b) := Except.ok.inj h2; refine .inl ⟨{ m with start := m.start ++ ts.map (stK).of }, b, ?_, hb, rfl, l, v0, v1, v2, v3, v4, v5, v6, v, v8, v9, ?_⟩
     · show (gU (strl s) e a).bind _ = _
       rw [rd_bind h1]; have e1 := congrArg Prod.fst h3; have e2 := congrArg Prod.snd h3
       dsimp only at e1 e2 ⊢
       rw [← e1, ← e2]
     · rw [show max lt 8 = 8 by omega, show (cd || 8 == 10) = cd by simp]; exact ⟨⟨hR', hM.start' hW hpl hbl.size own ok, (fun h => absurd h (by omega)), (fun h => absurd h (by omega)), (fun h => absurd h (by omega)), (fun h => absurd h (by omega)), (fun h => absurd h (by omega)), (fun h => absurd h (by omega)), (fun h => absurd h (by omega)), (fun h => absurd h (by omega)), (fun h => n8 (by omega)), (fun h => n9 (by omega)), fun h => hl (by omega), hWB hW, hpN⟩, hW.mono (fun _ e => .inl e), fun b _ h => h⟩
   · refine .inr ⟨n, ?_, rfl, hWB hW⟩
     show (gU (strl s) e a).bind _ = _
     cases hx : gU (strl s) e a with
     | error k => rw [hx] at hg; cases hg; rfl
     | ok q => rw [hx] at hg; cases hg
 · have hv := n8 (by omega); subst hv; refine (selems_any hR rfl hs he ha).mono ?_; rintro e' w' ⟨hW, ⟨xs, b, ts, v, hg, hb, rfl, hR', own, ok, rfl⟩ | ⟨n, hg, rfl⟩⟩
   · refine .inl ⟨_, b, (show (gEach (strl s) e a (gElem (strl s) e)).bind _ = _ from rd_bind hg), hb, rfl, l, v0, v1, v2, v3, v4, v5, v6, v7, v, v9, ?_⟩; rw [show max lt 9 = 9 by omega, show (cd || 9 == 10) = cd by simp]; exact ⟨⟨hR', hM.elems' hW hpl hbl.size own ok, (fun h => absurd h (by omega)), (fun h => absurd h (by omega)), (fun h => absurd h (by omega)), (fun h => absurd h (by omega)), (fun h => absurd h (by omega)), (fun h => absurd h (by omega)), (fun h => absurd h (by omega)), (fun h => absurd h (by omega)), (fun h => absurd h (by omega)), (fun h => n9 (by omega)), fun h => hl (by omega), hWB hW, hpN⟩, hW.mono (fun _ e => .inl e), fun b _ h => h⟩
   · exact .inr ⟨n, (show (gEach (strl s) e a (gElem (strl s) e)).bind _ = _ from rd_err hg), rfl, hWB hW⟩
 · obtain ⟨rfl, rfl⟩ := hl (by omega)
   rcases hM.funcs with ⟨tys, hfs, hn4, ts, hts, hown, hRx, hok⟩ | ⟨h0, _⟩
   · have htl : m.funcs.length = tys.length := (by rw [hfs, List.length_map])
     have hmap : m.funcs.map (·.1) = tys := (by rw [hfs, List.map_map]; exact List.map_id' tys)
     have hid2 : tys = ts := (by rw [← hts]; exact List.map_id' ts)
     subst hid2
     have hG : gSection (strl s) 10 m e a = (gCount (strl s) e a).bind fun n => if n.1 = (tys.length : Int) then (gCodes (strl s) e tys 65536 n.2).bind fun l => .ok ({ m with funcs := l.1 }, l.2) else .error 50 := by
      show (gCount (strl s) e a).bind (fun n => if n.1 = m.funcs.length then (gCodes (strl s) e (m.funcs.map (·.1)) 65536 n.2).bind fun l => .ok ({ m with funcs := l.1 }, l.2) else .error 50) = _
      rw [htl, hmap]
     rcases hown.2 with ⟨hv2, hlen⟩ | ⟨g, cap, cur, hv2, _, hgb, hnc, hcm, _, htk⟩
     · have hts0 : tys = [] := List.length_eq_zero_iff.1 hlen; subst hv2; subst hts0; refine (codes0_any hR rfl rfl hs he ha).mono ?_; rintro e' w' ⟨hW, ⟨b, hg, hb, rfl, hR'⟩ | ⟨n, hg, rfl⟩⟩
       · obtain ⟨q, h1, h2⟩ := bind_ok hg; refine .inl ⟨m, b, ?_, hb, rfl, 65536, v0, v1, .slice none 0 0, v3, v4, v5, v6, v7, v8, v9, ?_⟩
         · rw [hG, rd_bind h1]
           dsimp only at h2 ⊢
           split at h2
           · rename_i hq; cases h2; rw [if_pos (by rw [hq]; rfl)]
             show Except.ok ({ m with funcs := [] }, _) = _
             have : m.funcs = [] := hfs; rw [← this]
           · cases h2
         · rw [show max lt 10 = 10 by omega]; have hM' := hM.wr hW; exact ⟨⟨hR', ⟨hM'.types, hM'.imports, hM'.tables, hM'.mems, hM'.globals, hM'.exports, hM'.start, hM'.elems, hM'.datas, .inl ⟨[], hfs, by decide, .nil⟩⟩, (fun h => absurd h (by omega)), (fun h => absurd h (by omega)), (fun h => absurd h (by omega)), (fun h => absurd h (by omega)), (fun h => absurd h (by omega)), (fun h => absurd h (by omega)), (fun h => absurd h (by omega)), (fun h => absurd h (by omega)), (fun h => absurd h (by omega)), (fun h => n9 (by omega)), fun h => absurd h (by omega), hWB hW, hpN⟩, hW.mono (fun _ e => .inl e), fun b _ h => h⟩
       · refine .inr ⟨n, ?_, rfl, hWB hW⟩; rw [hG]; cases hx : gCount (strl s) e a with
         | error k => rw [hx] at hg; cases hg; rfl
         | ok q =>
           rw [hx] at hg; have hg' : (if q.1 = (0 : Int) then Except.ok ((), q.2) else Except.error (50 : Int)) = .error n := hg
           show (if q.1 = (([] : List Int).length : Int) then _ else _) = _
           split at hg'
           · cases hg'
           · rename_i hq; cases hg'; rw [if_neg (by simpa using hq)]
     · subst hv2; have hgx : g ≠ p ∧ W0.heap.size ≤ g := hRx g rfl
       have hrow : FnRow cur.toList (tys.map fn0) := by
        intro i r hr; rw [List.getElem?_map] at hr; obtain ⟨x, hx, rfl⟩ := Option.map_eq_some_iff.1 hr; have hcell := fun (q : Nat) (u : Value) (hq : ((fnK).enc x)[q]? = some u) => flat_at2 (enc := (fnK).enc) (fnK).len tys i q x u hx hq
        have hget : ∀ (j : Nat) (u : Value), (tys.flatMap (fnK).enc)[j]? = some u → cur.toList[j]? = some u := fun j u hj => by
         have h1 : (cur.toList.take (tys.length * (fnK).sz))[j]? = some u := (congrArg (fun l : List Value => l[j]?) htk).trans hj
         have hjl : j < tys.length * (fnK).sz := by have := (List.getElem?_eq_some_iff.1 h1).1; rw [List.length_take] at this; omega
         rw [List.getElem?_take_of_lt hjl] at h1; exact h1
        exact ⟨hget _ _ (hcell 0 _ rfl), hget _ _ (hcell 1 _ rfl), hget _ _ (hcell 2 _ rfl)⟩
       have hbk : Bk w g cur.toList 83 := ⟨by simpa using hgb⟩
       refine (codes_any hR rfl rfl hbk hgx.1 hrow hn4 hs he ha).mono ?_; rintro e' w' ⟨hW, ⟨rs, b, l', cu, hg, hb, rfl, hR', hb', hrw, hrl, hok'⟩ | ⟨n, hg, rfl⟩⟩
       · obtain ⟨q, h1, h2⟩ := bind_ok hg; refine .inl ⟨{ m with funcs := rs.map FnR.p }, b, ?_, hb, rfl, l', v0, v1, .slice (some ⟨g, 0, none⟩) tys.length cap, v3, v4, v5, v6, v7, v8, v9, ?_⟩
         · rw [hG, rd_bind h1]
           dsimp only at h2 ⊢
           split at h2
           · rename_i hq; rw [if_pos hq, rd_bind h2]
           · cases h2
         · rw [show max lt 10 = 10 by omega]; exact ⟨⟨hR', hM.codes' hW hpl hbk.lt hgx.1 hgx.2 hrl (Nat.le_trans hn4 (by decide)) hb' hrw hok', (fun h => absurd h (by omega)), (fun h => absurd h (by omega)), (fun h => absurd h (by omega)), (fun h => absurd h (by omega)), (fun h => absurd h (by omega)), (fun h => absurd h (by omega)), (fun h => absurd h (by omega)), (fun h => absurd h (by omega)), (fun h => absurd h (by omega)), (fun h => n9 (by omega)), fun h => absurd h (by omega), Wr.below_of hbl hW (fun b e => by rcases e with rfl | rfl; exact hpN; exact hgx.2) hbl.size, hpN⟩, hW.mono (fun b e => e.elim .inl (fun e => .inr (by rw [e]; rfl))), fun b _ h => h⟩
       · refine .inr ⟨n, ?_, rfl, Wr.below_of hbl hW (fun b e => by rcases e with rfl | rfl; exact hpN; exact hgx.2) hbl.size⟩; rw [hG]; cases hx : gCount (strl s) e a with
         | error k => rw [hx] at hg; cases hg; rfl
         | ok q =>
           rw [hx] at hg; have hg' : (if q.1 = (tys.length : Int) then gCodes (strl s) e tys 65536 q.2 else Except.error (50 : Int)) = .error n := hg
           show (if q.1 = (tys.length : Int) then _ else _) = _
           split at hg'
           · rename_i hq; rw [if_pos hq, rd_err hg']
           · rename_i hq; cases hg'; rw [if_neg hq]
   · cases h0
 · have hv := n9 (by omega); subst hv; refine (sdatas_any hR rfl hs he ha).mono ?_; rintro e' w' ⟨hW, ⟨xs, b, ts, v, hg, hb, rfl, hR', own, ok, rfl⟩ | ⟨n, hg, rfl⟩⟩
   · refine .inl ⟨_, b, (show (gEach (strl s) e a (gData (strl s) e)).bind _ = _ from rd_bind hg), hb, rfl, l, v0, v1, v2, v3, v4, v5, v6, v7, v8, v, ?_⟩; rw [show max lt 11 = 11 by omega, show (cd || 11 == 10) = cd by simp]; exact ⟨⟨hR', hM.datas' hW hpl hbl.size own ok, (fun h => absurd h (by omega)), (fun h => absurd h (by omega)), (fun h => absurd h (by omega)), (fun h => absurd h (by omega)), (fun h => absurd h (by omega)), (fun h => absurd h (by omega)), (fun h => absurd h (by omega)), (fun h => absurd h (by omega)), (fun h => absurd h (by omega)), (fun h => absurd h (by omega)), fun h => hl (by omega), hWB hW, hpN⟩, hW.mono (fun _ e => .inl e), fun b _ h => h⟩
   · exact .inr ⟨n, (show (gEach (strl s) e a (gData (strl s) e)).bind _ = _ from rd_err hg), rfl, hWB hW⟩
end Go.Proofs.YtkbfjkbokifgkaaGreatDoor
