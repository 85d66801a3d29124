/- What was written is read as it was: every module that may be written. Plain. -/
import Derived.Test.YtkbfjkbokifgkaaGreatDoorRx
namespace Go.Proofs.YtkbfjkbokifgkaaGreatDoor
open Go.RowKit
set_option linter.unusedVariables false
set_option linter.unusedSimpArgs false
structure Cm (m : Md) : Prop where
 l0 : m.types.length ≤ 4096
 l1 : m.imports.length ≤ 4096
 l2 : m.funcs.length ≤ 4096
 l3 : m.tables.length ≤ 4096
 l4 : m.mems.length ≤ 4096
 l5 : m.globals.length ≤ 4096
 l6 : m.exports.length ≤ 4096
 l7 : m.start.length ≤ 1
 l8 : m.elems.length ≤ 4096
 l9 : m.datas.length ≤ 4096
 types : ∀ t ∈ m.types, t.1.length ≤ 4096 ∧ t.2.length ≤ 4096 ∧ t.1.all typ1 = true ∧ t.2.all typ1 = true
 imports : ∀ t ∈ m.imports, nameB t.1 = true ∧ nameB t.2.1 = true ∧ idx1 t.2.2 = true
 funcs : ∀ t ∈ m.funcs, idx1 t.1 = true ∧ t.2.1.length ≤ 256 ∧ t.2.1.all typ1 = true ∧ lab t.2.2 = true ∧ formB t.2.2 = true ∧ flatB t.2.2 0 = true
 tables : ∀ t ∈ m.tables, lim1 t = true
 mems : ∀ t ∈ m.mems, lim1 t = true
 globals : ∀ t ∈ m.globals, typ1 t.1 = true ∧ beg1 t.2.2 = true
 exports : ∀ t ∈ m.exports, nameB t.1 = true ∧ (0 ≤ t.2.1 ∧ t.2.1 ≤ 3) ∧ idx1 t.2.2 = true
 start : ∀ n ∈ m.start, idx1 n = true
 elems : ∀ t ∈ m.elems, beg1 t.1 = true ∧ t.2.length ≤ 4096 ∧ t.2.all idx1 = true
 datas : ∀ t ∈ m.datas, beg1 t.1 = true ∧ t.2.size ≤ 1048576
 cnt : 0 ≤ cntF m.funcs 65536
theorem cntF_bd : ∀ (l : List (Int × List Int × Il)) (left : Int), 0 ≤ left → -1 ≤ cntF l left
 | [], left, h => by unfold cntF; omega
 | f :: r, left, h => by
   have := cnt_bd f.2.2 left h; unfold cntF; split
   · omega
   · exact cntF_bd r _ (by omega)
theorem data_all : ∀ (l : List (One × ByteArray)) (left : Int), dataFit l left = true → ∀ d ∈ l, (d.2.size : Int) ≤ left
 | d :: r, left, h, x, hx => by
   unfold dataFit at h; rw [Bool.and_eq_true, decide_eq_true_eq] at h
   rcases List.mem_cons.1 hx with rfl | hx
   · exact h.1
   · have := data_all r _ h.2 x hx; omega
theorem allm {α : Type} {f : α → Bool} {l : List α} (h : l.all f = true) : ∀ x ∈ l, f x = true := List.all_eq_true.1 h
theorem cm_of {m : Md} (hc : checkV m = 0) : Cm m := by
 unfold checkV at hc; split at hc
 · cases hc
 rename_i hf; split at hc
 · cases hc
 rename_i hm; split at hc
 · cases hc
 rename_i hs; have hf2 : fewB m = true := (by simpa using hf)
 have hm2 : flatM m = true := (by simpa using hm)
 have hs2 : shapedB m = true := (by simpa using hs)
 unfold fewB few0 few1 few2 few3 few4 few5 lens at hf2; simp only [Bool.and_eq_true, decide_eq_true_eq, List.all_cons, List.all_nil, le4, List.all_eq_true] at hf2; obtain ⟨⟨l0, l1, l2, l3, l4, l5, l6, l8, l9, _⟩, f0, f1, f2, f3, f4, f5⟩ := hf2; unfold shapedB sh1 sh2 sh3 sh4 sh5 sh6 sh7 sh8 sh9 at hs2; rw [Bool.and_eq_true, Bool.and_eq_true, Bool.and_eq_true, Bool.and_eq_true, Bool.and_eq_true, Bool.and_eq_true, Bool.and_eq_true, Bool.and_eq_true, Bool.and_eq_true] at hs2; obtain ⟨s0, s1, s2, s3, s4, s5, s6, s7, s8, s9⟩ := hs2; refine ⟨by omega, by omega, by omega, by omega, by omega, by omega, by omega, by omega, by omega, by omega, fun t ht => ?_, fun t ht => ?_, fun t ht => ?_, allm s2, allm s3, fun t ht => ?_, fun t ht => ?_, allm s6, fun t ht => ?_, fun t ht => ?_, ?_⟩
 · have h1 := f1 t ht; unfold typFew at h1; rw [Bool.and_eq_true, decide_eq_true_eq, decide_eq_true_eq] at h1; have h2 := allm s0 t ht; unfold typS at h2; rw [Bool.and_eq_true] at h2; exact ⟨by omega, by omega, h2.1, h2.2⟩
 · have h2 := allm s1 t ht; unfold impS at h2; rw [Bool.and_eq_true, Bool.and_eq_true] at h2; exact h2
 · have h1 := f5 t ht; unfold funFew at h1; rw [Bool.and_eq_true, decide_eq_true_eq] at h1; have h2 := allm s9 t ht; unfold funS at h2; rw [Bool.and_eq_true, Bool.and_eq_true] at h2; have h3 := allm hm2 t ht; exact ⟨h2.1, by omega, h2.2.1, h1.2, h2.2.2, h3⟩
 · have h2 := allm s4 t ht; unfold gloS at h2; rw [Bool.and_eq_true] at h2; exact h2
 · have h2 := allm s5 t ht; unfold expS at h2; rw [Bool.and_eq_true, Bool.and_eq_true, Bool.and_eq_true, decide_eq_true_eq, decide_eq_true_eq] at h2; exact h2
 · have h1 := f2 t ht; unfold elmFew at h1; rw [decide_eq_true_eq] at h1; have h2 := allm s7 t ht; unfold elmS at h2; rw [Bool.and_eq_true] at h2; exact ⟨h2.1, by omega, h2.2⟩
 · have h2 := allm s8 t ht; unfold datS at h2; have h3 := data_all m.datas 262144 f3 t ht; exact ⟨h2, by omega⟩
 · have := cntF_bd m.funcs 65536 (by omega); omega
structure Nm (m : Md) : Prop where
 funcs : ∀ t ∈ m.funcs, nOk t.2.2
 globals : ∀ t ∈ m.globals, nOk t.2.2.il
 elems : ∀ t ∈ m.elems, nOk t.1.il
 datas : ∀ t ∈ m.datas, nOk t.1.il
def skel (t : Int × List Int × Il) : Int × List Int × Il := (t.1, [], .nil)
def mSt (m : Md) (i : Nat) : Md := ⟨if 0 < i then m.types else [], if 1 < i then m.imports else [], if 9 < i then m.funcs else if 2 < i then m.funcs.map skel else [], if 3 < i then m.tables else [], if 4 < i then m.mems else [],
 if 5 < i then m.globals else [], if 6 < i then m.exports else [], if 7 < i then m.start else [], if 8 < i then m.elems else [], if 10 < i then m.datas else []⟩
theorem SecRd.of {s : List UInt8} {id : Nat} {m : Md} {c : List UInt8} {m' : Md} (h : Rds s (gSection s id m) c m') : SecRd s id m c m' := fun a hs => h _ a hs (Nat.le_refl _)
theorem flat_in {α : Type} (b : α → List UInt8) : ∀ {l : List α} {x : α}, x ∈ l → (b x).length ≤ (l.flatMap b).length
 | y :: l, x, h => by
   rw [List.flatMap_cons, List.length_append]
   rcases List.mem_cons.1 h with rfl | h
   · omega
   · have := flat_in b h; omega
structure SecsOk (s : List UInt8) (m : Md) : Prop where
 s0 : SecRd s 1 (mSt m 0) (xSec xTypes m.types) (mSt m 1)
 s1 : SecRd s 2 (mSt m 1) (xSec xImports m.imports) (mSt m 2)
 s2 : SecRd s 3 (mSt m 2) (xSec xFuncs m.funcs) (mSt m 3)
 s3 : SecRd s 4 (mSt m 3) (xSec xTables m.tables) (mSt m 4)
 s4 : SecRd s 5 (mSt m 4) (xSec xLim m.mems) (mSt m 5)
 s5 : SecRd s 6 (mSt m 5) (xSec xGlobals m.globals) (mSt m 6)
 s6 : SecRd s 7 (mSt m 6) (xSec xExports m.exports) (mSt m 7)
 s7 : 0 < m.start.length → SecRd s 8 (mSt m 7) (xStart m.start) (mSt m 8)
 s8 : SecRd s 9 (mSt m 8) (xSec xElems m.elems) (mSt m 9)
 s9 : (xSec xCodes m.funcs).length ≤ 262144 → SecRd s 10 (mSt m 9) (xSec xCodes m.funcs) (mSt m 10)
 s10 : SecRd s 11 (mSt m 10) (xSec xDatas m.datas) (mSt m 11)
theorem rd_eachI {α : Type} {s : List UInt8} {f : Nat → Nat → Got α} {b : α → List UInt8} (xs : List α) (hl : xs.length ≤ 4096) (h : ∀ x ∈ xs, Rds s f (b x) x) : Rds s (fun e a => gEach s e a (f e)) (xSec b xs) xs := by have := rd_each (f := f) (b := b) (v := id) xs hl h; rw [List.map_id] at this; exact this
theorem secs_ok (s : List UInt8) {m : Md} (c : Cm m) (n : Nm m) : SecsOk s m := by
 refine ⟨?_, ?_, ?_, ?_, ?_, ?_, ?_, ?_, ?_, ?_, ?_⟩
 · exact .of ((rd_eachI (f := gType s) m.types c.l0 fun t ht => by obtain ⟨h1, h2, h3, h4⟩ := c.types t ht; exact rd_type s h1 h2 h3 h4).then (f := fun l => { mSt m 0 with types := (mSt m 0).types ++ l }))
 · exact .of ((rd_eachI (f := gImport s) m.imports c.l1 fun t ht => by obtain ⟨h1, h2, h3⟩ := c.imports t ht; exact rd_import s h1 h2 h3).then (f := fun l => { mSt m 1 with imports := (mSt m 1).imports ++ l }))
 · have h := (rd_each (f := gU s) (b := xFuncs) (v := fun t => t.1) m.funcs c.l2 fun t ht => rd_u s (c.funcs t ht).1).then (f := fun l => { mSt m 2 with funcs := (mSt m 2).funcs ++ l.map fun t => (t, [], Il.nil) }); refine .of (h.cast (fun e a => rfl) rfl ?_); rw [List.map_map]; rfl
 · have h := (rd_eachI (f := gTable s) m.tables c.l3 fun t ht => rd_table s (c.tables t ht)).then (f := fun (l : List (Int × Int × Bool)) => { mSt m 3 with tables := (mSt m 3).tables ++ l }); exact .of h
 · have h := (rd_eachI (f := gLimits s) m.mems c.l4 fun t ht => rd_limits s (c.mems t ht)).then (f := fun (l : List (Int × Int × Bool)) => { mSt m 4 with mems := (mSt m 4).mems ++ l }); exact .of h
 · have h := (rd_eachI (f := gGlobal s) m.globals c.l5 fun t ht => rd_global s (c.globals t ht).1 (c.globals t ht).2 (n.globals t ht)).then (f := fun (l : List (Int × Bool × One)) => { mSt m 5 with globals := (mSt m 5).globals ++ l }); exact .of h
 · exact .of ((rd_eachI (f := gExport s) m.exports c.l6 fun t ht => by obtain ⟨h1, h2, h3⟩ := c.exports t ht; exact rd_export s h1 h2 h3).then (f := fun l => { mSt m 6 with exports := (mSt m 6).exports ++ l }))
 · intro h1; have h2 := c.l7
   obtain ⟨x, hx⟩ : ∃ x, m.start = [x] := by
    match hm : m.start with
    | [] => rw [hm] at h1; simp at h1
    | [x] => exact ⟨x, rfl⟩
    | _ :: _ :: _ => rw [hm] at h2; simp at h2
   have h := (rd_u s (c.start x (by rw [hx]; exact List.mem_singleton.2 rfl))).then (f := fun l => { mSt m 7 with start := (mSt m 7).start ++ [l] }); refine .of (h.cast (fun e a => rfl) ?_ ?_)
   · unfold xStart; rw [hx]; simp
   · unfold mSt; simp [hx]
 · exact .of ((rd_eachI (f := gElem s) m.elems c.l8 fun t ht => by obtain ⟨h1, h2, h3⟩ := c.elems t ht; exact rd_elem s h1 (n.elems t ht) h2 h3).then (f := fun l => { mSt m 8 with elems := (mSt m 8).elems ++ l }))
 · intro hlen
   have hl2 : (m.funcs.flatMap xCodes).length ≤ 262144 := by unfold xSec at hlen; rw [List.length_append] at hlen; omega
   have hf : ∀ t ∈ m.funcs, Fm t ∧ (xLoc t.2.1 ++ xEx t.2.2).length ≤ 1048576 := fun t ht => by
    obtain ⟨h1, h2, h3, h4, h5, h6⟩ := c.funcs t ht; refine ⟨⟨h1, h2, h3, h4, h5, h6, n.funcs t ht⟩, ?_⟩; have h7 := flat_in xCodes ht
    have h8 : (xLoc t.2.1 ++ xEx t.2.2).length ≤ (xCodes t).length := by unfold xCodes xLg; simp only [List.length_append]; omega
    omega
   have hcnt := c.cnt
   have h := (rd_count s c.l2).bind (f := fun k e a => if k = ((mSt m 9).funcs.length : Int) then (gCodes s e ((mSt m 9).funcs.map (·.1)) 65536 a).bind fun l => .ok ({ mSt m 9 with funcs := l.1 }, l.2) else .error 50) (c := m.funcs.flatMap xCodes) (u := mSt m 10) (by
    have hm9 : (mSt m 9).funcs = m.funcs.map skel := rfl
    have hty : (mSt m 9).funcs.map (·.1) = m.funcs.map (·.1) := by rw [hm9, List.map_map]; rfl
    have hle : ((m.funcs.length : Nat) : Int) = ((mSt m 9).funcs.length : Int) := (by rw [hm9, List.length_map])
    have hk := (rd_codes (s := s) m.funcs 65536 hf hcnt).then (f := fun l => { mSt m 9 with funcs := l }); refine hk.cast (fun e a => ?_) rfl rfl; rw [if_pos hle, hty])
   exact .of (h.cast (fun e a => rfl) rfl rfl)
 · exact .of ((rd_eachI (f := gData s) m.datas c.l9 fun t ht => by obtain ⟨h1, h2⟩ := c.datas t ht; exact rd_data s h1 (n.datas t ht) h2).then (f := fun l => { mSt m 10 with datas := (mSt m 10).datas ++ l }))
def cksOf (m : Md) : Nat → List Sc → List Ck
 | _, [] => []
 | i, c :: r => (if c.some = true then [⟨i + 1, uB (c.x.length : Int), c.x, mSt m (i + 1)⟩] else []) ++ cksOf m (i + 1) r
theorem cks_bytes (m : Md) : ∀ (cs : List Sc) (i : Nat), (cksOf m i cs).flatMap Ck.b = xScs i cs
 | [], _ => rfl
 | c :: r, i => by
   rw [cksOf, xScs, List.flatMap_append, cks_bytes m r (i + 1)]; congr 1; split
   · rw [List.flatMap_cons, List.flatMap_nil, List.append_nil]; unfold Ck.b xLg; simp
   · rfl
theorem sec_good {s : List UInt8} {m : Md} (h : SecsOk s m) {c : Sc} : ∀ j, (scs m)[j]? = some c → (c.some = true → c.x.length ≤ 262144 → SecRd s (j + 1) (mSt m j) c.x (mSt m (j + 1))) ∧ (c.some = false → mSt m j = mSt m (j + 1))
 | 0, hc => by
   obtain rfl := Option.some.inj (show some _ = some c from hc); refine ⟨fun hs => fun _ => h.s0, fun hs => ?_⟩
   have he : m.types = [] := by have : ¬ 0 < m.types.length := of_decide_eq_false hs; exact List.eq_nil_of_length_eq_zero (by omega)
   unfold mSt; simp [he]
 | 1, hc => by
   obtain rfl := Option.some.inj (show some _ = some c from hc); refine ⟨fun hs => fun _ => h.s1, fun hs => ?_⟩
   have he : m.imports = [] := by have : ¬ 0 < m.imports.length := of_decide_eq_false hs; exact List.eq_nil_of_length_eq_zero (by omega)
   unfold mSt; simp [he]
 | 2, hc => by
   obtain rfl := Option.some.inj (show some _ = some c from hc); refine ⟨fun hs => fun _ => h.s2, fun hs => ?_⟩
   have he : m.funcs = [] := by have : ¬ 0 < m.funcs.length := of_decide_eq_false hs; exact List.eq_nil_of_length_eq_zero (by omega)
   unfold mSt; simp [he]
 | 3, hc => by
   obtain rfl := Option.some.inj (show some _ = some c from hc); refine ⟨fun hs => fun _ => h.s3, fun hs => ?_⟩
   have he : m.tables = [] := by have : ¬ 0 < m.tables.length := of_decide_eq_false hs; exact List.eq_nil_of_length_eq_zero (by omega)
   unfold mSt; simp [he]
 | 4, hc => by
   obtain rfl := Option.some.inj (show some _ = some c from hc); refine ⟨fun hs => fun _ => h.s4, fun hs => ?_⟩
   have he : m.mems = [] := by have : ¬ 0 < m.mems.length := of_decide_eq_false hs; exact List.eq_nil_of_length_eq_zero (by omega)
   unfold mSt; simp [he]
 | 5, hc => by
   obtain rfl := Option.some.inj (show some _ = some c from hc); refine ⟨fun hs => fun _ => h.s5, fun hs => ?_⟩
   have he : m.globals = [] := by have : ¬ 0 < m.globals.length := of_decide_eq_false hs; exact List.eq_nil_of_length_eq_zero (by omega)
   unfold mSt; simp [he]
 | 6, hc => by
   obtain rfl := Option.some.inj (show some _ = some c from hc); refine ⟨fun hs => fun _ => h.s6, fun hs => ?_⟩
   have he : m.exports = [] := by have : ¬ 0 < m.exports.length := of_decide_eq_false hs; exact List.eq_nil_of_length_eq_zero (by omega)
   unfold mSt; simp [he]
 | 7, hc => by
   obtain rfl := Option.some.inj (show some _ = some c from hc); refine ⟨fun hs => fun _ => h.s7 (by simpa using hs), fun hs => ?_⟩
   have he : m.start = [] := by have : ¬ 0 < m.start.length := of_decide_eq_false hs; exact List.eq_nil_of_length_eq_zero (by omega)
   unfold mSt; simp [he]
 | 8, hc => by
   obtain rfl := Option.some.inj (show some _ = some c from hc); refine ⟨fun hs => fun _ => h.s8, fun hs => ?_⟩
   have he : m.elems = [] := by have : ¬ 0 < m.elems.length := of_decide_eq_false hs; exact List.eq_nil_of_length_eq_zero (by omega)
   unfold mSt; simp [he]
 | 9, hc => by
   obtain rfl := Option.some.inj (show some _ = some c from hc); refine ⟨fun hs => fun hl => h.s9 hl, fun hs => ?_⟩
   have he : m.funcs = [] := by have : ¬ 0 < m.funcs.length := of_decide_eq_false hs; exact List.eq_nil_of_length_eq_zero (by omega)
   unfold mSt; simp [he]
 | 10, hc => by
   obtain rfl := Option.some.inj (show some _ = some c from hc); refine ⟨fun hs => fun _ => h.s10, fun hs => ?_⟩
   have he : m.datas = [] := by have : ¬ 0 < m.datas.length := of_decide_eq_false hs; exact List.eq_nil_of_length_eq_zero (by omega)
   unfold mSt; simp [he]
 | j + 11, hc => by cases hc
theorem cks_ok {s : List UInt8} {m : Md} (h : SecsOk s m) : ∀ (cs : List Sc) (i last : Nat), (scs m).drop i = cs → last ≤ i → (xScs i cs).length ≤ 262144 → CksOk s (cksOf m i cs) last (mSt m i)
 | [], _, _, _, _, _ => trivial
 | c :: r, i, last, hd, hl, hx => by
   have hc : (scs m)[i]? = some c := by
    have h0 : ((scs m).drop i)[0]? = some c := (by rw [hd]; rfl)
    rw [List.getElem?_drop] at h0; simpa using h0
   have hr : (scs m).drop (i + 1) = r := by rw [← List.drop_drop, hd]; rfl
   have hi : i < 11 := (List.getElem?_eq_some_iff.1 hc).1; rw [xScs, List.length_append] at hx; obtain ⟨g1, g2⟩ := sec_good h i hc; rw [cksOf]
   by_cases hs : c.some = true
   · rw [if_pos hs] at hx ⊢; rw [List.length_cons] at hx; unfold xLg at hx; rw [List.length_append] at hx; have hidx := idx_size (k := c.x.length) (by omega); have hu5 := uB_5 hidx; obtain ⟨k, hk1, hk2, hk3⟩ := uB_nat hidx; have hkk : k = c.x.length := (by omega)
     subst hkk; refine ⟨⟨by show i + 1 < 12; omega, .inr (by show last < i + 1; omega), fun z => ?_, by show c.x.length < _; omega, g1 hs (by omega)⟩, ?_⟩
     · show grp 5 (uB (c.x.length : Int) ++ z) = some (c.x.length, (uB (c.x.length : Int)).length)
       rw [hk3] at hu5 ⊢; exact grp_lebU 5 c.x.length z hu5
     · exact cks_ok h r (i + 1) (max last (i + 1)) hr (by omega) (by omega)
   · have hs2 : c.some = false := (by simpa using hs)
     rw [if_neg hs, List.nil_append, g2 hs2]; exact cks_ok h r (i + 1) last hr (by omega) (by omega)
theorem cks_last {s : List UInt8} {m : Md} (h : SecsOk s m) : ∀ (cs : List Sc) (i : Nat), (scs m).drop i = cs → i ≤ 11 → lastM (cksOf m i cs) (mSt m i) = m
 | [], i, hd, hi => by
   have : 11 ≤ i := by have := List.drop_eq_nil_iff.1 hd; exact this
   obtain rfl : i = 11 := by omega
   rfl
 | c :: r, i, hd, hi => by
   have hc : (scs m)[i]? = some c := by
    have h0 : ((scs m).drop i)[0]? = some c := (by rw [hd]; rfl)
    rw [List.getElem?_drop] at h0; simpa using h0
   have hr : (scs m).drop (i + 1) = r := by rw [← List.drop_drop, hd]; rfl
   have hi : i < 11 := (List.getElem?_eq_some_iff.1 hc).1; obtain ⟨g1, g2⟩ := sec_good h i hc; rw [cksOf]
   by_cases hs : c.some = true
   · rw [if_pos hs]; exact cks_last h r (i + 1) hr (by omega)
   · have hs2 : c.some = false := (by simpa using hs)
     rw [if_neg hs, List.nil_append, g2 hs2]; exact cks_last h r (i + 1) hr (by omega)
theorem coded_keep : ∀ (cks : List Ck), codedC cks true = true
 | [] => rfl
 | k :: r => coded_keep r
theorem cks_coded {m : Md} : ∀ (cs : List Sc) (i : Nat) (c : Bool), (scs m).drop i = cs → i ≤ 9 → codedC (cksOf m i cs) c = true ∨ m.funcs = []
 | [], i, _, hd, hi => by
   have : 11 ≤ i := List.drop_eq_nil_iff.1 hd; omega
 | c :: r, i, b, hd, hi => by
   have hc : (scs m)[i]? = some c := by
    have h0 : ((scs m).drop i)[0]? = some c := (by rw [hd]; rfl)
    rw [List.getElem?_drop] at h0; simpa using h0
   have hr : (scs m).drop (i + 1) = r := by rw [← List.drop_drop, hd]; rfl
   rw [cksOf]
   by_cases h9 : i = 9
   · subst h9; obtain rfl := Option.some.inj (show some _ = some c from hc)
     by_cases hf : 0 < m.funcs.length
     · left; rw [if_pos (decide_eq_true hf)]
       show codedC (cksOf m 10 r) (b || true) = true
       rw [Bool.or_true]; exact coded_keep _
     · exact .inr (List.eq_nil_of_length_eq_zero (by omega))
   · split
     · exact cks_coded r (i + 1) _ hr (by omega)
     · exact cks_coded r (i + 1) _ hr (by omega)
end Go.Proofs.YtkbfjkbokifgkaaGreatDoor
