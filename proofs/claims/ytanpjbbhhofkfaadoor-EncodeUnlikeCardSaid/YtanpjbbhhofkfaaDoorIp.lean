/- A module's bytes tell the module: plain. -/
import Derived.Test.YtanpjbbhhofkfaaDoorIn
import Derived.Test.YtanpjbbhhofkfaaDoorHt
namespace Go.Proofs.YtanpjbbhhofkfaaDoor
open Go.RowKit
set_option linter.unusedVariables false
set_option linter.unusedSimpArgs false

theorem all_mem {α : Type} {f : α → Bool} {l : List α} (h : l.all f = true) : ∀ x ∈ l, f x = true := List.all_eq_true.1 h
theorem cl_nil : ∀ {l : Il}, cl l = 0 → l = .nil
  | .nil, _ => rfl
  | .cons .., h => by
    unfold cl at h
    omega
theorem beg_il {q : One} (h : beg1 q = true) : ilP q.il := by
  have hc := cl_beg h
  obtain ⟨op, x, y, n, ls, body, els⟩ := q
  unfold One.il cl at hc
  simp only [cl] at hc
  have h1 : ls.length = 0 := by omega
  have h2 : body = .nil := cl_nil (by omega)
  have h3 : els = .nil := cl_nil (by omega)
  unfold beg1 at h
  rw [Bool.and_eq_true] at h
  refine ⟨h.2, ?_⟩
  subst h2 h3
  unfold One.il
  simp only [lab, h1]
  decide
theorem one_inj {p q : One} (h : p.il = q.il) : p = q := by
  obtain ⟨op, x, y, n, ls, body, els⟩ := p
  obtain ⟨op', x', y', n', ls', body', els'⟩ := q
  unfold One.il at h
  simp only [Il.cons.injEq] at h
  obtain ⟨rfl, rfl, rfl, rfl, rfl, rfl, rfl, _⟩ := h
  rfl
def typesP (t : List Int × List Int) : Prop := lenP byteP t.1 ∧ lenP byteP t.2
def importsP (t : ByteArray × ByteArray × Int) : Prop := strP t.1 ∧ strP t.2.1 ∧ u64P t.2.2
def limP (t : Int × Int × Bool) : Prop := lim1 t = true
def globalsP (t : Int × Bool × One) : Prop := byteP t.1 ∧ ilP t.2.2.il
def exportsP (t : ByteArray × Int × Int) : Prop := strP t.1 ∧ byteP t.2.1 ∧ u64P t.2.2
def elemsP (t : One × List Int) : Prop := ilP t.1.il ∧ (t.2.length ≤ 1048576 ∧ t.2.all idx1 = true)
def datasP (t : One × ByteArray) : Prop := ilP t.1.il ∧ strP t.2
def funcsP (t : Int × List Int × Il) : Prop := u64P t.1 ∧ locP t.2.1 ∧ ilP t.2.2
theorem types_px : Pfx typesP xTypes id := fun x y r s hx hy h => by
  unfold xTypes at h
  simp only [bytsC_sec, List.cons_append, List.nil_append, List.append_assoc, List.cons.injEq, true_and] at h
  obtain ⟨a, h⟩ := b1_px.sec _ _ _ _ hx.1 hy.1 h
  obtain ⟨b, h⟩ := b1_px.sec _ _ _ _ hx.2 hy.2 h
  exact ⟨Prod.ext (map_id2 a) (map_id2 b), h⟩
theorem imports_px : Pfx importsP xImports id := fun x y r s hx hy h => by
  unfold xImports at h
  simp only [List.append_assoc] at h
  obtain ⟨a, h⟩ := str_px _ _ _ _ hx.1 hy.1 h
  obtain ⟨b, h⟩ := str_px _ _ _ _ hx.2.1 hy.2.1 h
  simp only [List.cons_append, List.nil_append, List.cons.injEq, true_and] at h
  obtain ⟨c, h⟩ := uB_px _ _ _ _ hx.2.2 hy.2.2 h
  exact ⟨Prod.ext a (Prod.ext b c), h⟩
theorem funcs_px : Pfx funcsP xFuncs (fun t => t.1) := fun x y r s hx hy h => uB_px _ _ _ _ hx.1 hy.1 h
theorem codes_px : Pfx funcsP xCodes (fun t => t.2) := by
  have h1 : Pfx funcsP (fun t : Int × List Int × Il => xLoc t.2.1) (fun t => t.2.1) := (loc_px.at (γ := Int × List Int × Il) (fun t => t.2.1)).mono fun t h => h.2.1
  have h2 : Pfx funcsP (fun t : Int × List Int × Il => xEx t.2.2) (fun t => t.2.2) := (ex_px.at (γ := Int × List Int × Il) (fun t => t.2.2)).mono fun t h => h.2.2
  exact (h1.pair h2).lg
theorem lim_px : Pfx limP xLim id := fun x y r s hx hy h => by
  unfold limP lim1 at hx hy
  simp only [Bool.and_eq_true, Bool.or_eq_true, beq_iff_eq] at hx hy
  obtain ⟨x1, x2, x3⟩ := x
  obtain ⟨y1, y2, y3⟩ := y
  simp only at hx hy
  unfold xLim at h
  cases x3 <;> cases y3 <;> simp only [Bool.false_eq_true, if_false, if_true, reduceIte, List.cons_append, List.nil_append, List.append_assoc, List.cons.injEq, true_and] at h
  · obtain ⟨a, h⟩ := uB_px _ _ _ _ (idx_u hx.1.1) (idx_u hy.1.1) h
    have hx2 : x2 = 0 := by simpa using hx.2
    have hy2 : y2 = 0 := by simpa using hy.2
    exact ⟨by rw [hx2, hy2, show x1 = y1 from a], h⟩
  · exact absurd h.1 (by decide)
  · exact absurd h.1 (by decide)
  · obtain ⟨a, h⟩ := uB_px _ _ _ _ (idx_u hx.1.1) (idx_u hy.1.1) h
    obtain ⟨b, h⟩ := uB_px _ _ _ _ (idx_u hx.1.2) (idx_u hy.1.2) h
    exact ⟨by rw [show x1 = y1 from a, show x2 = y2 from b], h⟩
theorem tables_px : Pfx limP xTables id := fun x y r s hx hy h => by
  unfold xTables at h
  simp only [List.cons_append, List.nil_append, List.cons.injEq, true_and] at h
  exact lim_px _ _ _ _ hx hy h
theorem globals_px : Pfx globalsP xGlobals id := by
  rintro ⟨x1, x2, x3⟩ ⟨y1, y2, y3⟩ r s hx hy h
  unfold xGlobals at h
  simp only [List.cons_append, List.nil_append, List.append_assoc, List.cons.injEq] at h
  obtain ⟨a, b, h⟩ := h
  obtain ⟨c, h⟩ := ex_px _ _ _ _ hx.2 hy.2 h
  have hb : x2 = y2 := by
    cases x2 <;> cases y2 <;> first | rfl | (simp only [Bool.false_eq_true, if_false, if_true, reduceIte] at b; exact absurd b (by decide))
  exact ⟨by rw [show x1 = y1 from b1_inj hx.1 hy.1 a, hb, show x3 = y3 from one_inj c], h⟩
theorem exports_px : Pfx exportsP xExports id := fun x y r s hx hy h => by
  unfold xExports at h
  simp only [List.append_assoc] at h
  obtain ⟨a, h⟩ := str_px _ _ _ _ hx.1 hy.1 h
  simp only [List.cons_append, List.nil_append, List.cons.injEq] at h
  obtain ⟨b, h⟩ := h
  obtain ⟨c, h⟩ := uB_px _ _ _ _ hx.2.2 hy.2.2 h
  exact ⟨Prod.ext a (Prod.ext (b1_inj hx.2.1 hy.2.1 b) c), h⟩
theorem elems_px : Pfx elemsP xElems id := fun x y r s hx hy h => by
  unfold xElems at h
  simp only [List.cons_append, List.nil_append, List.append_assoc, List.cons.injEq, true_and] at h
  obtain ⟨a, h⟩ := ex_px _ _ _ _ hx.1 hy.1 h
  obtain ⟨b, h⟩ := nums_px _ _ _ _ hx.2 hy.2 h
  exact ⟨Prod.ext (one_inj a) b, h⟩
theorem datas_px : Pfx datasP xDatas id := fun x y r s hx hy h => by
  unfold xDatas at h
  simp only [List.cons_append, List.nil_append, List.append_assoc, List.cons.injEq, true_and] at h
  obtain ⟨a, h⟩ := ex_px _ _ _ _ hx.1 hy.1 h
  obtain ⟨b, h⟩ := str_px _ _ _ _ hx.2 hy.2 h
  exact ⟨Prod.ext (one_inj a) b, h⟩
/-- What begins with a greater byte, if at all. -/
def HdB (n : Nat) (r : List UInt8) : Prop := ∀ z t, r = z :: t → n < z.toNat
theorem b1_nat {n : Nat} (h : n ≤ 255) : (b1 (n : Int)).toNat = n := by
  have := b1_val (n : Int)
  omega
theorem hd_scs : ∀ (cs : List Sc) (i : Nat), i + cs.length ≤ 200 → HdB i (xScs i cs)
  | [], i, _, z, t, e => by simp [xScs] at e
  | c :: r, i, h, z, t, e => by
    rw [List.length_cons] at h
    unfold xScs at e
    by_cases hc : c.some = true
    · rw [if_pos hc, List.cons_append, List.cons.injEq] at e
      rw [← e.1, show ((i : Int) + 1) = ((i + 1 : Nat) : Int) by omega, b1_nat (by omega)]
      omega
    · rw [if_neg hc, List.nil_append] at e
      have := hd_scs r (i + 1) (by omega) z t e
      omega
theorem step_gen {i : Nat} {c c' : Sc} {r r' : List Sc} (hr : i + r.length ≤ 190) (hr' : i + r'.length ≤ 190) (h : xScs i (c :: r) = xScs i (c' :: r')) :
    (c.some = true ∧ c'.some = true ∧ xLg c.x ++ xScs (i + 1) r = xLg c'.x ++ xScs (i + 1) r') ∨ (c.some = false ∧ c'.some = false ∧ xScs (i + 1) r = xScs (i + 1) r') := by
  unfold xScs at h
  have k := hd_scs r (i + 1) (by omega)
  have k' := hd_scs r' (i + 1) (by omega)
  have hb : (b1 ((i : Int) + 1)).toNat = i + 1 := by rw [show ((i : Int) + 1) = ((i + 1 : Nat) : Int) by omega, b1_nat (by omega)]
  cases hc : c.some <;> cases hc' : c'.some <;> rw [hc, hc'] at h <;> simp only [Bool.false_eq_true, if_false, if_true, reduceIte, List.nil_append, List.cons_append, List.cons.injEq, true_and] at h
  · exact .inr ⟨rfl, rfl, h⟩
  · have := k _ _ h
    omega
  · have := k' _ _ h.symm
    omega
  · exact .inl ⟨rfl, rfl, h⟩
theorem scs_step {α β : Type} {P : α → Prop} {b : α → List UInt8} {g : α → β} (hp : Pfx P b g) {i : Nat} {l l' : List α} {f f' : WS → WS} {r r' : List Sc} (hl : lenP P l) (hl' : lenP P l') (hr : i + r.length ≤ 190) (hr' : i + r'.length ≤ 190)
    (h : xScs i (⟨decide (0 < l.length), f, xSec b l⟩ :: r) = xScs i (⟨decide (0 < l'.length), f', xSec b l'⟩ :: r')) : l.map g = l'.map g ∧ xScs (i + 1) r = xScs (i + 1) r' := by
  rcases step_gen hr hr' h with ⟨_, _, h⟩ | ⟨h1, h2, h⟩
  · exact hp.sec.lg _ _ _ _ hl hl' h
  · simp only [decide_eq_false_iff_not] at h1 h2
    have e1 : l = [] := List.eq_nil_of_length_eq_zero (by omega)
    have e2 : l' = [] := List.eq_nil_of_length_eq_zero (by omega)
    rw [e1, e2]
    exact ⟨rfl, h⟩
theorem start_step {i : Nat} {l l' : List Int} {f f' : WS → WS} {r r' : List Sc} (hl : l.length ≤ 1 ∧ l.all idx1 = true) (hl' : l'.length ≤ 1 ∧ l'.all idx1 = true) (hr : i + r.length ≤ 190) (hr' : i + r'.length ≤ 190)
    (h : xScs i (⟨decide (0 < l.length), f, xStart l⟩ :: r) = xScs i (⟨decide (0 < l'.length), f', xStart l'⟩ :: r')) : l = l' ∧ xScs (i + 1) r = xScs (i + 1) r' := by
  rcases step_gen hr hr' h with ⟨h1, h2, h⟩ | ⟨h1, h2, h⟩
  · simp only [decide_eq_true_eq] at h1 h2
    match l, l', hl, hl', h1, h2, h with
    | [n], [n'], hl, hl', _, _, h =>
      simp only [List.all_cons, List.all_nil, Bool.and_true] at hl hl'
      have hp : Pfx (fun n : Int => u64P n) (fun n => xStart [n]) id := fun x y r s hx hy h => by
        unfold xStart at h
        simp only [List.map_cons, List.map_nil, List.flatten_cons, List.flatten_nil, List.append_nil] at h
        exact uB_px _ _ _ _ hx hy h
      obtain ⟨a, h⟩ := hp.lg n n' _ _ (idx_u hl.2) (idx_u hl'.2) h
      exact ⟨by rw [show n = n' from a], h⟩
    | [], _, _, _, h1, _, _ => simp at h1
    | _, [], _, _, _, h2, _ => simp at h2
    | _ :: _ :: _, _, hl, _, _, _, _ => simp at hl
    | _, _ :: _ :: _, _, hl', _, _, _ => simp at hl'
  · simp only [decide_eq_false_iff_not] at h1 h2
    have e1 : l = [] := List.eq_nil_of_length_eq_zero (by omega)
    have e2 : l' = [] := List.eq_nil_of_length_eq_zero (by omega)
    rw [e1, e2]
    exact ⟨rfl, h⟩
/-- What a module that may be written is like. -/
structure Vm (m : Md) : Prop where
  types : lenP typesP m.types
  imports : lenP importsP m.imports
  funcs : lenP funcsP m.funcs
  tables : lenP limP m.tables
  mems : lenP limP m.mems
  globals : lenP globalsP m.globals
  exports : lenP exportsP m.exports
  start : m.start.length ≤ 1 ∧ m.start.all idx1 = true
  elems : lenP elemsP m.elems
  datas : lenP datasP m.datas
theorem vm_of {m : Md} (hc : checkV m = 0) : Vm m := by
  unfold checkV at hc
  split at hc
  · cases hc
  rename_i hf
  split at hc
  · cases hc
  split at hc
  · cases hc
  rename_i hs
  have hf2 : fewB m = true := by simpa using hf
  have hs2 : shapedB m = true := by simpa using hs
  unfold fewB few0 few1 few2 few3 few4 few5 lens at hf2
  simp only [Bool.and_eq_true, decide_eq_true_eq, List.all_cons, List.all_nil, le4, List.all_eq_true] at hf2
  obtain ⟨⟨l0, l1, l2, l3, l4, l5, l6, l8, l9, _⟩, f0, f1, f2, f3, f4, f5⟩ := hf2
  unfold shapedB sh1 sh2 sh3 sh4 sh5 sh6 sh7 sh8 sh9 at hs2
  rw [Bool.and_eq_true, Bool.and_eq_true, Bool.and_eq_true, Bool.and_eq_true, Bool.and_eq_true, Bool.and_eq_true, Bool.and_eq_true, Bool.and_eq_true, Bool.and_eq_true] at hs2
  obtain ⟨s0, s1, s2, s3, s4, s5, s6, s7, s8, s9⟩ := hs2
  refine ⟨⟨by omega, fun t ht => ?_⟩, ⟨by omega, fun t ht => ?_⟩, ⟨by omega, fun t ht => ?_⟩, ⟨by omega, all_mem s2⟩, ⟨by omega, all_mem s3⟩, ⟨by omega, fun t ht => ?_⟩, ⟨by omega, fun t ht => ?_⟩, ⟨by omega, s6⟩, ⟨by omega, fun t ht => ?_⟩, ⟨by omega, fun t ht => ?_⟩⟩
  · have h1 := f1 t ht
    unfold typFew at h1
    rw [Bool.and_eq_true, decide_eq_true_eq, decide_eq_true_eq] at h1
    have h2 := all_mem s0 t ht
    unfold typS at h2
    rw [Bool.and_eq_true] at h2
    exact ⟨⟨by omega, fun n hn => typ_byte (all_mem h2.1 n hn)⟩, ⟨by omega, fun n hn => typ_byte (all_mem h2.2 n hn)⟩⟩
  · have h2 := all_mem s1 t ht
    unfold impS nameB at h2
    simp only [Bool.and_eq_true, decide_eq_true_eq] at h2
    exact ⟨by unfold strP; omega, by unfold strP; omega, idx_u h2.2.2⟩
  · have h1 := f5 t ht
    unfold funFew at h1
    rw [Bool.and_eq_true, decide_eq_true_eq] at h1
    have h2 := all_mem s9 t ht
    unfold funS at h2
    rw [Bool.and_eq_true, Bool.and_eq_true] at h2
    exact ⟨idx_u h2.1, ⟨by omega, h2.2.1⟩, h2.2.2, h1.2⟩
  · have h2 := all_mem s4 t ht
    unfold gloS at h2
    rw [Bool.and_eq_true] at h2
    exact ⟨typ_byte h2.1, beg_il h2.2⟩
  · have h2 := all_mem s5 t ht
    unfold expS nameB at h2
    simp only [Bool.and_eq_true, decide_eq_true_eq] at h2
    exact ⟨by unfold strP; omega, by unfold byteP; omega, idx_u h2.2.2⟩
  · have h1 := f2 t ht
    unfold elmFew at h1
    rw [decide_eq_true_eq] at h1
    have h2 := all_mem s7 t ht
    unfold elmS at h2
    rw [Bool.and_eq_true] at h2
    exact ⟨beg_il h2.1, by omega, h2.2⟩
  · have h2 := all_mem s8 t ht
    unfold datS at h2
    have h3 := dataFit_all m.datas 262144 f3 t ht
    exact ⟨beg_il h2, by unfold strP; omega⟩
theorem two_maps {α β : Type} : ∀ {l l' : List (α × β)}, l.map (·.1) = l'.map (·.1) → l.map (·.2) = l'.map (·.2) → l = l'
  | [], [], _, _ => rfl
  | [], _ :: _, h, _ => by simp at h
  | _ :: _, [], h, _ => by simp at h
  | a :: l, b :: l', h1, h2 => by
    rw [List.map_cons, List.map_cons, List.cons.injEq] at h1 h2
    rw [two_maps h1.2 h2.2, Prod.ext h1.1 h2.1]
theorem md_inj {m m' : Md} (h : checkV m = 0) (h' : checkV m' = 0) (e : xMd m = xMd m') : m = m' := by
  have v := vm_of h
  have v' := vm_of h'
  unfold xMd at e
  replace e := List.append_cancel_left e
  unfold scs at e
  obtain ⟨e0, e⟩ := scs_step types_px v.types v'.types (by simp) (by simp) e
  obtain ⟨e1, e⟩ := scs_step imports_px v.imports v'.imports (by simp) (by simp) e
  obtain ⟨e2, e⟩ := scs_step funcs_px v.funcs v'.funcs (by simp) (by simp) e
  obtain ⟨e3, e⟩ := scs_step tables_px v.tables v'.tables (by simp) (by simp) e
  obtain ⟨e4, e⟩ := scs_step lim_px v.mems v'.mems (by simp) (by simp) e
  obtain ⟨e5, e⟩ := scs_step globals_px v.globals v'.globals (by simp) (by simp) e
  obtain ⟨e6, e⟩ := scs_step exports_px v.exports v'.exports (by simp) (by simp) e
  obtain ⟨e7, e⟩ := start_step v.start v'.start (by simp) (by simp) e
  obtain ⟨e8, e⟩ := scs_step elems_px v.elems v'.elems (by simp) (by simp) e
  obtain ⟨e9, e⟩ := scs_step codes_px v.funcs v'.funcs (by simp) (by simp) e
  obtain ⟨e10, e⟩ := scs_step datas_px v.datas v'.datas (by simp) (by simp) e
  obtain ⟨x0, x1, x2, x3, x4, x5, x6, x7, x8, x9⟩ := m
  obtain ⟨y0, y1, y2, y3, y4, y5, y6, y7, y8, y9⟩ := m'
  simp only at e0 e1 e2 e3 e4 e5 e6 e7 e8 e9 e10
  rw [map_id2 e0, map_id2 e1, two_maps e2 e9, map_id2 e3, map_id2 e4, map_id2 e5, map_id2 e6, e7, map_id2 e8, map_id2 e10]
end Go.Proofs.YtanpjbbhhofkfaaDoor
