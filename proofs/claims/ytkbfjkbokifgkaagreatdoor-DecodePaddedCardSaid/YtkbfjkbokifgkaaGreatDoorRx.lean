/- What was written is read as it was: the rows of a module. Plain. -/
import Derived.Test.YtkbfjkbokifgkaaGreatDoorQd
namespace Go.Proofs.YtkbfjkbokifgkaaGreatDoor
open Go.RowKit
set_option linter.unusedVariables false
set_option linter.unusedSimpArgs false
theorem Rds.cast {α : Type} {s : List UInt8} {g g' : Nat → Nat → Got α} {b b' : List UInt8} {v v' : α} (h : Rds s g b v) (hg : ∀ e a, g' e a = g e a) (hb : b' = b) (hv : v' = v) : Rds s g' b' v' := by subst hb; subst hv; intro e a hs he; rw [hg]; exact h e a hs he
theorem Rds.map {α β : Type} {s : List UInt8} {g : Nat → Nat → Got α} {b : List UInt8} {v : α} (h : Rds s g b v) {f : α → Nat → Got β} {u : β} (hf : ∀ a, f v a = .ok (u, a)) : Rds s (fun e a => (g e a).bind fun q => f q.1 q.2) b u := by
 intro e a hs he
 show (g e a).bind _ = _
 rw [h e a hs he]; exact hf _
theorem typ1_or {n : Int} (h : typ1 n = true) : n = 127 ∨ n = 126 := by unfold typ1 at h; rw [Bool.or_eq_true, beq_iff_eq, beq_iff_eq] at h; exact h
theorem rd_typ (s : List UInt8) {n : Int} (h : typ1 n = true) : Rds s (gTyp s) [b1 n] n := by have hn := typ1_or h; refine (rd_b1 s (n := n) (by omega) (by omega)).map (f := fun v a => if v = 125 ∨ v = 124 then .error 51 else if v = 127 ∨ v = 126 then .ok (v, a) else .error 50) (fun a => ?_); rw [if_neg (by omega), if_pos hn]
theorem rd_flag (s : List UInt8) (c : Bool) : Rds s (gFlag s) [b1 (if c = true then 1 else 0)] c := by
 have hb : Rds s (gByte s) [b1 (if c = true then 1 else 0)] (if c = true then 1 else 0) := by
  cases c
  · exact rd_b1 s (by decide) (by decide)
  · exact rd_b1 s (by decide) (by decide)
 refine hb.map (f := fun v a => if v ≤ 1 then .ok (v == 1, a) else .error 50) (fun a => ?_); cases c <;> rfl
theorem bytes_flat (l : List Int) : (bytsC l).flatten = uB (l.length : Int) ++ l.flatMap fun n => [b1 n] := by unfold bytsC; rw [List.flatten_cons, List.flatMap_def]
theorem rd_typs (s : List UInt8) {l : List Int} (hl : l.length ≤ 4096) (h : l.all typ1 = true) : Rds s (fun e a => gEach s e a (gTyp s e)) (bytsC l).flatten l := by have := rd_each (f := gTyp s) (b := fun n : Int => [b1 n]) (v := id) l hl (fun x hx => rd_typ s (List.all_eq_true.1 h x hx)); rw [List.map_id] at this; rw [bytes_flat]; exact this
theorem rd_type (s : List UInt8) {t : List Int × List Int} (h1 : t.1.length ≤ 4096) (h2 : t.2.length ≤ 4096) (h3 : t.1.all typ1 = true) (h4 : t.2.all typ1 = true) : Rds s (gType s) (xTypes t) t := by
 have h := (rd_is s (n := 96) (by decide) (by decide)).bind (f := fun _ e a => (gEach s e a (gTyp s e)).bind fun p => (gEach s e p.2 (gTyp s e)).bind fun r => .ok ((p.1, r.1), r.2))
  ((rd_typs s h1 h3).bind (f := fun p e a => (gEach s e a (gTyp s e)).bind fun r => .ok ((p, r.1), r.2)) ((rd_typs s h2 h4).then (f := fun r => (t.1, r))))
 exact h.cast (fun e a => rfl) (by unfold xTypes; rw [List.append_assoc]) rfl
theorem idx_size {k : Nat} (h : k ≤ 1048576) : idx1 (k : Int) = true := by unfold idx1; rw [Bool.and_eq_true, decide_eq_true_eq, decide_eq_true_eq]; omega
theorem rd_text (s : List UInt8) {b : List UInt8} (h : b.length ≤ 1048576) : Rds s (gText s) (xLg b) b := by
 intro e a hs he; unfold xLg at hs he ⊢; obtain ⟨h1, h2⟩ := hs.app; rw [List.length_append] at he ⊢; unfold gText; rw [rd_u s (idx_size h) e a h1 (by omega)]
 show (if (b.length : Int) ≤ (e : Int) - ((a + (uB (b.length : Int)).length : Nat) : Int) then _ else _) = _
 rw [if_pos (by omega), Int.toNat_natCast]; simp only
 have hw : win s (a + (uB (b.length : Int)).length) (a + (uB (b.length : Int)).length + b.length) = b := by rw [h2.wnd (Nat.le_refl _)]; unfold win; rw [List.drop_take, Nat.sub_self, List.take_zero, List.append_nil]
 rw [hw, Nat.add_assoc]
theorem mkb_strl (b : ByteArray) : mkb (strl b) = b := rfl
theorem rd_name (s : List UInt8) {b : ByteArray} (h : nameB b = true) : Rds s (gName s) (xLg (strl b)) (strl b) := by
 have hl : b.size ≤ 64 := by unfold nameB at h; rw [Bool.and_eq_true, decide_eq_true_eq] at h; omega
 refine (rd_text s (b := strl b) (by rw [strl_length]; omega)).map (f := fun v a => if nameB (mkb v) then .ok (v, a) else .error 50) (fun a => ?_); rw [mkb_strl, if_pos h]
theorem rd_import (s : List UInt8) {t : ByteArray × ByteArray × Int} (h1 : nameB t.1 = true) (h2 : nameB t.2.1 = true) (h3 : idx1 t.2.2 = true) : Rds s (gImport s) (xImports t) t := by
 have h := (rd_name s h1).bind (f := fun p e a => (gName s e a).bind fun n => (gIs s e n.2 0).bind fun z => (gU s e z.2).bind fun u => .ok ((mkb p, mkb n.1, u.1), u.2))
  ((rd_name s h2).bind (f := fun n e a => (gIs s e a 0).bind fun z => (gU s e z.2).bind fun u => .ok ((mkb (strl t.1), mkb n, u.1), u.2))
    ((rd_is s (n := 0) (by decide) (by decide)).bind (f := fun _ e a => (gU s e a).bind fun u => .ok ((mkb (strl t.1), mkb (strl t.2.1), u.1), u.2))
      ((rd_u s h3).then (f := fun u => (mkb (strl t.1), mkb (strl t.2.1), u)))))
 exact h.cast (fun e a => rfl) (by unfold xImports; simp only [List.append_assoc]) rfl
theorem rd_limits (s : List UInt8) {t : Int × Int × Bool} (h : lim1 t = true) : Rds s (gLimits s) (xLim t) t := by
 obtain ⟨mn, mx, c⟩ := t; unfold lim1 at h; simp only [Bool.and_eq_true, Bool.or_eq_true, beq_iff_eq] at h; obtain ⟨⟨h1, h2⟩, h3⟩ := h; unfold xLim; cases c with
 | true =>
   have h := (rd_flag s true).bind (f := fun f e a => (gU s e a).bind fun n => if f = true then (gU s e n.2).bind fun x => .ok ((n.1, x.1, true), x.2) else .ok ((n.1, 0, false), n.2))
    ((rd_u s h1).bind (f := fun n e a => if true = true then (gU s e a).bind fun x => .ok ((n, x.1, true), x.2) else .ok ((n, 0, false), a)) (c := uB mx) (u := (mn, mx, true))
      (((rd_u s h2).then (f := fun x => (mn, x, true))).cast (fun e a => if_pos rfl) rfl rfl))
   exact h.cast (fun e a => rfl) (by rw [if_pos rfl]; simp only [if_true, List.append_assoc]) rfl
 | false =>
   have hx : mx = 0 := h3.resolve_left (by simp); subst hx
   have h := (rd_flag s false).bind (f := fun f e a => (gU s e a).bind fun n => if f = true then (gU s e n.2).bind fun x => .ok ((n.1, x.1, true), x.2) else .ok ((n.1, 0, false), n.2))
    ((rd_u s h1).map (f := fun n a => .ok ((n, 0, false), a)) (fun a => rfl) |>.cast (g' := fun e a => (gU s e a).bind fun n => if false = true then (gU s e n.2).bind fun x => .ok ((n.1, x.1, true), x.2) else .ok ((n.1, 0, false), n.2)) (v' := (mn, 0, false)) (fun e a => rfl) rfl rfl)
   exact h.cast (fun e a => rfl) (by rw [if_neg (by simp)]; rfl) rfl
theorem rd_table (s : List UInt8) {t : Int × Int × Bool} (h : lim1 t = true) : Rds s (gTable s) (xTables t) t := by have h := (rd_is s (n := 112) (by decide) (by decide)).bind (f := fun _ e a => gLimits s e a) (rd_limits s h); exact h.cast (fun e a => rfl) rfl rfl
theorem parts_rec {s : List UInt8} {e : Nat} {r r' : Nat → Bool → Nat → Nat → Except Int ((Il × Bool × Nat) × Nat)} {op : Int} {d l a : Nat} (h : ¬ (formV op = 2 ∨ formV op = 3)) : gParts s e r op d l a = gParts s e r' op d l a := by unfold gParts; rw [if_neg h, if_neg h]
theorem one_parts {q : One} (h : beg1 q = true) : (q.op = 65 ∨ q.op = 66 ∨ q.op = 35) ∧ form1 q.op q.x q.y q.n q.ls q.body.len q.els.len = true ∧ q.ls = [] ∧ q.body = .nil ∧ q.els = .nil := by
 unfold beg1 at h; rw [Bool.and_eq_true, Bool.or_eq_true, Bool.or_eq_true, beq_iff_eq, beq_iff_eq, beq_iff_eq] at h; obtain ⟨h1, h2⟩ := h; unfold One.il formB at h2; rw [Bool.and_eq_true] at h2; have hf := h2.1; refine ⟨h1, hf, ?_⟩; unfold form1 at hf; have e65 : formV 65 = 9 := rfl; have e66 : formV 66 = 9 := rfl; have e35 : formV 35 = 6 := rfl
 have h9 : formV q.op = 9 ∨ formV q.op = 6 := by
  rcases h1 with h | h | h
  · exact .inl (by rw [h]; rfl)
  · exact .inl (by rw [h]; rfl)
  · exact .inr (by rw [h]; rfl)
 rcases h9 with h9 | h9
 · rw [h9] at hf; rw [if_neg (by decide), if_neg (by decide), if_neg (by decide), if_neg (by decide), if_neg (by decide), if_neg (by decide), if_pos rfl] at hf; simp only [Bool.and_eq_true] at hf; obtain ⟨g1, g2, g3, g4, g5, g6⟩ := hf; exact ⟨ls_nil g4, len_nil g5, len_nil g6⟩
 · rw [h9] at hf; rw [if_neg (by decide), if_neg (by decide), if_neg (by decide), if_pos (by decide)] at hf; simp only [Bool.and_eq_true] at hf; obtain ⟨g1, g2, g3, g4, g5, g6⟩ := hf; exact ⟨ls_nil g4, len_nil g5, len_nil g6⟩
theorem rd_const (s : List UInt8) {q : One} (h : beg1 q = true) (ok : nOk q.il) : Rds s (gConst s) (xEx q.il) q := by
 obtain ⟨hop, hf, hls, hb, he⟩ := one_parts h; obtain ⟨op, x, y, n, ls, b, e'⟩ := q; simp only at hop hf hls hb he; subst hls; subst hb; subst he
 have hfo : ¬ (formV op = 2 ∨ formV op = 3) ∧ formV op ≠ 10 := by rcases hop with h | h | h <;> rw [h] <;> decide
 have hr : 0 ≤ op ∧ op < 256 := (by omega)
 intro e a hs ha
 have e1 : xEx (One.il ⟨op, x, y, n, [], .nil, .nil⟩) = [b1 op] ++ (xTail (formV op) op x y n [] Il.nil.len (xl .nil) (xl .nil) ++ [b1 11]) := by unfold xEx One.il; rw [xl]; simp [xl]
 rw [e1] at hs ha ⊢; obtain ⟨s1, s2⟩ := hs.app; obtain ⟨s3, s4⟩ := s2.app; rw [List.length_append, List.length_append] at ha; simp only [List.length_cons, List.length_nil] at ha s2 s3 s4; unfold gConst; rw [rd_b1 s hr.1 hr.2 e a s1 (by simp only [List.length_cons, List.length_nil]; omega)]
 show (if formV op = 10 then _ else if op = 65 ∨ op = 66 ∨ op = 35 then _ else _) = _
 rw [if_neg hfo.2, if_pos hop]; simp only [List.length_cons, List.length_nil]; have r1 := rd_parts (rd_list s .nil) (rd_list s .nil) ⟨ok.1, trivial, trivial⟩ hf rfl rfl (by simp) rfl rfl 0 0 rfl rfl (by simp [cnt]) (by simp [cnt]) (e + 1) e (a + 1) (by simpa using s3) (by first | omega | (dsimp only; omega)) (by first | omega | (dsimp only; omega)); rw [parts_rec hfo.1 (r' := gList s e (e + 1)), r1]; simp only [Except.bind]; rw [rd_isq (by decide) (by decide) s4 (by simp only [List.length_cons, List.length_nil]; omega)]; simp only [List.length_append, List.length_cons, List.length_nil]; congr 2 <;> omega
theorem rd_global (s : List UInt8) {t : Int × Bool × One} (h1 : typ1 t.1 = true) (h2 : beg1 t.2.2 = true) (ok : nOk t.2.2.il) : Rds s (gGlobal s) (xGlobals t) t := by
 have h := (rd_typ s h1).bind (f := fun p e a => (gFlag s e a).bind fun f => (gConst s e f.2).bind fun c => .ok ((p, f.1, c.1), c.2))
  ((rd_flag s t.2.1).bind (f := fun f e a => (gConst s e a).bind fun c => .ok ((t.1, f, c.1), c.2)) ((rd_const s h2 ok).then (f := fun c => (t.1, t.2.1, c))))
 exact h.cast (fun e a => rfl) (by unfold xGlobals; simp only [List.append_assoc]) rfl
theorem rd_export (s : List UInt8) {t : ByteArray × Int × Int} (h1 : nameB t.1 = true) (h2 : 0 ≤ t.2.1 ∧ t.2.1 ≤ 3) (h3 : idx1 t.2.2 = true) : Rds s (gExport s) (xExports t) t := by
 have h := (rd_name s h1).bind (f := fun p e a => (gByte s e a).bind fun k => if k.1 ≤ 3 then (gU s e k.2).bind fun i => .ok ((mkb p, k.1, i.1), i.2) else .error 50)
  ((rd_b1 s (n := t.2.1) (by omega) (by omega)).bind (f := fun k e a => if k ≤ 3 then (gU s e a).bind fun i => .ok ((mkb (strl t.1), k, i.1), i.2) else .error 50) (c := uB t.2.2) (u := t)
    (((rd_u s h3).then (f := fun i => (mkb (strl t.1), t.2.1, i))).cast (fun e a => if_pos h2.2) rfl rfl))
 exact h.cast (fun e a => rfl) (by unfold xExports; simp only [List.append_assoc]) rfl
theorem rd_elem (s : List UInt8) {t : One × List Int} (h1 : beg1 t.1 = true) (ok : nOk t.1.il) (h2 : t.2.length ≤ 4096) (h3 : t.2.all idx1 = true) : Rds s (gElem s) (xElems t) t := by
 have h := (rd_is s (n := 0) (by decide) (by decide)).bind (f := fun _ e a => (gConst s e a).bind fun c => (gEach s e c.2 (gU s e)).bind fun l => .ok ((c.1, l.1), l.2))
  ((rd_const s h1 ok).bind (f := fun c e a => (gEach s e a (gU s e)).bind fun l => .ok ((c, l.1), l.2)) ((rd_nums s h2 h3).then (f := fun l => (t.1, l))))
 exact h.cast (fun e a => rfl) (by unfold xElems; simp only [List.append_assoc]) rfl
theorem rd_data (s : List UInt8) {t : One × ByteArray} (h1 : beg1 t.1 = true) (ok : nOk t.1.il) (h2 : t.2.size ≤ 1048576) : Rds s (gData s) (xDatas t) t := by
 have h := (rd_is s (n := 0) (by decide) (by decide)).bind (f := fun _ e a => (gConst s e a).bind fun c => (gText s e c.2).bind fun l => .ok ((c.1, mkb l.1), l.2))
  ((rd_const s h1 ok).bind (f := fun c e a => (gText s e a).bind fun l => .ok ((c, mkb l.1), l.2)) ((rd_text s (b := strl t.2) (by rw [strl_length]; exact h2)).then (f := fun l => (t.1, mkb l))))
 exact h.cast (fun e a => rfl) (by unfold xDatas; simp only [List.append_assoc]) rfl
end Go.Proofs.YtkbfjkbokifgkaaGreatDoor
namespace Go.Proofs.YtkbfjkbokifgkaaGreatDoor
open Go.RowKit
set_option linter.unusedVariables false
set_option linter.unusedSimpArgs false
def unR (R : List (Nat × Int)) : List Int := R.flatMap fun q => List.replicate q.1 q.2
theorem unR_step (R : List (Nat × Int)) (x : Int) : unR (rstep R x).reverse = unR R.reverse ++ [x] := by
 unfold unR rstep
 match R with
 | [] => simp
 | (c, t) :: r =>
   simp only
   by_cases h : t = x
   · subst h; rw [if_pos rfl]; simp [List.replicate_succ']
   · rw [if_neg h]; simp
theorem unR_fold : ∀ (l : List Int) (R : List (Nat × Int)), unR (l.foldl rstep R).reverse = unR R.reverse ++ l
 | [], R => by simp
 | x :: l, R => by
   rw [List.foldl_cons, unR_fold l, unR_step, List.append_assoc]; rfl
theorem runs_flat (l : List Int) : unR (runs l) = l := by have := unR_fold l []; simpa [unR, runs, rns] using this
theorem loc_bytes (l : List Int) : xLoc l = uB ((runs l).length : Int) ++ (runs l).flatMap fun q => uB (q.1 : Int) ++ [b1 q.2] := by
 have ff : ∀ R : List (Nat × Int), (R.flatMap locF).flatten = R.flatMap fun q => uB (q.1 : Int) ++ [b1 q.2] := fun R => by
  induction R with
  | nil => rfl
  | cons q R ih => rw [List.flatMap_cons, List.flatten_append, ih, List.flatMap_cons]; simp [locF]
 unfold xLoc locC; rw [List.flatten_cons, ff]
theorem rd_runs {s : List UInt8} : ∀ (R : List (Nat × Int)) (l0 : List Int), (∀ q ∈ R, typ1 q.2 = true) → l0.length + (unR R).length ≤ 256 → Rds s (fun e a => gRuns s e R.length l0 a) (R.flatMap fun q => uB (q.1 : Int) ++ [b1 q.2]) (l0 ++ unR R)
 | [], l0, _, _ => (Rds.pure s l0).cast (fun e a => rfl) rfl (by simp [unR])
 | q :: R, l0, ht, hl => by
   have hu : unR (q :: R) = List.replicate q.1 q.2 ++ unR R := rfl; rw [hu, List.length_append, List.length_replicate] at hl; have h1 : idx1 (q.1 : Int) = true := idx_len (by omega)
   have h := (rd_u s h1).bind (f := fun n e a => if n ≤ 256 - (l0.length : Int) then (gTyp s e a).bind fun t => gRuns s e R.length (l0 ++ List.replicate n.toNat t.1) t.2 else .error 3)
    (((rd_typ s (ht q (List.mem_cons_self ..))).bind (f := fun t e a => gRuns s e R.length (l0 ++ List.replicate ((q.1 : Int)).toNat t) a) (rd_runs R (l0 ++ List.replicate q.1 q.2) (fun x hx => ht x (List.mem_cons_of_mem _ hx)) (by rw [List.length_append, List.length_replicate]; omega))).cast (g' := fun e a => if (q.1 : Int) ≤ 256 - (l0.length : Int) then (gTyp s e a).bind fun t => gRuns s e R.length (l0 ++ List.replicate ((q.1 : Int)).toNat t.1) t.2 else .error 3) (fun e a => if_pos (by omega)) rfl rfl)
   exact h.cast (fun e a => rfl) (by rw [List.flatMap_cons, List.append_assoc]) (by rw [hu, List.append_assoc])
theorem runs_typ {l : List Int} (h : l.all typ1 = true) : ∀ q ∈ runs l, q.1 ≠ 0 → typ1 q.2 = true := fun q hq h0 => by
 have hm : q.2 ∈ unR (runs l) := by unfold unR; exact List.mem_flatMap.2 ⟨q, hq, List.mem_replicate.2 ⟨h0, rfl⟩⟩
 rw [runs_flat] at hm; exact List.all_eq_true.1 h _ hm
theorem rstep_pos : ∀ (l : List Int) (R : List (Nat × Int)), (∀ q ∈ R, q.1 ≠ 0) → ∀ q ∈ l.foldl rstep R, q.1 ≠ 0
 | [], R, h => h
 | x :: l, R, h => by
   rw [List.foldl_cons]; refine rstep_pos l _ fun q hq => ?_; unfold rstep at hq; split at hq
   · simp only [List.mem_singleton] at hq; rw [hq]; exact Nat.one_ne_zero
   · split at hq
     · rcases List.mem_cons.1 hq with rfl | hq
       · simp
       · exact h q (List.mem_cons_of_mem _ hq)
     · rcases List.mem_cons.1 hq with rfl | hq
       · simp
       · exact h q hq
theorem runs_pos {l : List Int} : ∀ q ∈ runs l, q.1 ≠ 0 := fun q hq => rstep_pos l [] (fun q h => by cases h) q (List.mem_reverse.1 hq)
theorem len_unR : ∀ R : List (Nat × Int), (∀ q ∈ R, q.1 ≠ 0) → R.length ≤ (unR R).length
 | [], _ => Nat.zero_le _
 | q :: R, h => by
   have hu : unR (q :: R) = List.replicate q.1 q.2 ++ unR R := rfl; have h1 := h q (List.mem_cons_self ..); have h2 := len_unR R fun x hx => h x (List.mem_cons_of_mem _ hx); rw [hu, List.length_append, List.length_replicate, List.length_cons]; omega
theorem rd_loc {s : List UInt8} {l : List Int} (hl : l.length ≤ 256) (ht : l.all typ1 = true) : Rds s (fun e a => (gCount s e a).bind fun n => gRuns s e n.1.toNat [] n.2) (xLoc l) l := by
 have hf := runs_flat l; have h1 := len_unR (runs l) runs_pos; rw [hf] at h1
 have h := (rd_count s (k := (runs l).length) (by omega)).bind (f := fun n e a => gRuns s e n.toNat [] a) (c := (runs l).flatMap fun q => uB (q.1 : Int) ++ [b1 q.2]) (u := [] ++ unR (runs l))
  ((rd_runs (runs l) [] (fun q hq => runs_typ ht q hq (runs_pos q hq)) (by rw [hf]; simpa using hl)).cast (fun e a => by rw [Int.toNat_natCast]) rfl rfl)
 exact h.cast (fun e a => rfl) (loc_bytes l) (by rw [hf, List.nil_append])
theorem rd_long {α : Type} {s : List UInt8} {f : Nat → Nat → Got α} {c : List UInt8} {v : α} (h : Rds s f c v) (hl : c.length ≤ 1048576) : Rds s (fun e a => gLong s e a f) (xLg c) v := by
 intro e a hs he; unfold xLg at hs he ⊢; obtain ⟨h1, h2⟩ := hs.app; rw [List.length_append] at he ⊢
 show gLong s e a f = _
 unfold gLong; rw [rd_u s (idx_size hl) e a h1 (by omega)]; simp only [Except.bind, Int.toNat_natCast]; rw [Nat.min_eq_left (by omega), h _ _ h2 (Nat.le_refl _)]; simp only; rw [if_pos trivial, Nat.add_assoc]
structure Fm (t : Int × List Int × Il) : Prop where
 ty : idx1 t.1 = true
 few : t.2.1.length ≤ 256
 loc : t.2.1.all typ1 = true
 lab : lab t.2.2 = true
 form : formB t.2.2 = true
 flat : flatB t.2.2 0 = true
 num : nOk t.2.2
theorem rd_code {s : List UInt8} {t : Int × List Int × Il} (h : Fm t) {left : Nat} (hc : 0 ≤ cnt t.2.2 (left : Int)) (hl : (xLoc t.2.1 ++ xEx t.2.2).length ≤ 1048576) : Rds s (gCode s left) (xCodes t) ((t.2.1, t.2.2), (cnt t.2.2 (left : Int)).toNat) := by have hL : Rds s (fun e a => gList s e (e + 1) 0 false left a) (xEx t.2.2) (t.2.2, false, (cnt t.2.2 (left : Int)).toNat) := fun e a hs he => rd_list s t.2.2 h.num h.form h.lab 0 left false 11 (.inl rfl) h.flat hc (e + 1) e a hs he (by omega); have h1 := (rd_loc (s := s) h.few h.loc).bind (f := fun l e a => (gList s e (e + 1) 0 false left a).bind fun b => .ok (((l, b.1.1), b.1.2.2), b.2)) (hL.then (f := fun b => ((t.2.1, b.1), b.2.2))); have h2 := rd_long h1 hl; refine h2.cast (fun e a => ?_) rfl rfl; unfold gCode gLong; refine bind_congr fun n _ => ?_; simp only [except_assoc]
theorem rd_codes {s : List UInt8} : ∀ (ts : List (Int × List Int × Il)) (left : Nat), (∀ t ∈ ts, Fm t ∧ (xLoc t.2.1 ++ xEx t.2.2).length ≤ 1048576) → 0 ≤ cntF ts (left : Int) → Rds s (fun e a => gCodes s e (ts.map (·.1)) left a) (ts.flatMap xCodes) ts
 | [], _, _, _ => Rds.pure s []
 | t :: ts, left, h, hc => by
   have ht := h t (List.mem_cons_self ..); unfold cntF at hc
   by_cases h0 : cnt t.2.2 (left : Int) < 0
   · rw [if_pos h0] at hc; omega
   rw [if_neg h0] at hc; have hcb : ((cnt t.2.2 (left : Int)).toNat : Int) = cnt t.2.2 (left : Int) := (by omega)
   have ih := rd_codes (s := s) ts (cnt t.2.2 (left : Int)).toNat (fun x hx => h x (List.mem_cons_of_mem _ hx)) (by rw [hcb]; exact hc); have h1 := (rd_code (s := s) ht.1 (left := left) (by omega) ht.2).bind (f := fun c e a => (gCodes s e (ts.map (·.1)) c.2 a).bind fun l => .ok ((t.1, c.1.1, c.1.2) :: l.1, l.2)) (ih.then (f := fun l => (t.1, t.2.1, t.2.2) :: l)); exact h1.cast (fun e a => rfl) (by rw [List.flatMap_cons]) rfl
def SecRd (s : List UInt8) (id : Nat) (m : Md) (c : List UInt8) (m' : Md) : Prop := ∀ a, StAt s a c → gSection s id m (a + c.length) a = .ok (m', a + c.length)
structure Ck where
 id : Nat
 lb : List UInt8
 c : List UInt8
 m : Md
def Ck.b (k : Ck) : List UInt8 := [b1 (k.id : Int)] ++ (k.lb ++ k.c)
structure CkOk (s : List UInt8) (k : Ck) (last : Nat) (m : Md) : Prop where
 id : k.id < 12
 next : k.id = 0 ∨ last < k.id
 lb : ∀ r, grp 5 (k.lb ++ r) = some (k.c.length, k.lb.length)
 len : k.c.length < 4294967296
 rd : SecRd s k.id m k.c k.m
def CksOk (s : List UInt8) : List Ck → Nat → Md → Prop
 | [], _, _ => True
 | k :: r, last, m => CkOk s k last m ∧ CksOk s r (max last k.id) k.m
def lastL : List Ck → Nat → Nat
 | [], last => last
 | k :: r, last => lastL r (max last k.id)
def lastM : List Ck → Md → Md
 | [], m => m
 | k :: r, _ => lastM r k.m
def codedC : List Ck → Bool → Bool
 | [], c => c
 | k :: r, c => codedC r (c || ((k.id : Int) == 10))
theorem sec_step {s : List UInt8} {k : Ck} {last : Nat} {m : Md} (h : CkOk s k last m) {a n : Nat} {coded : Bool} (hs : StAt s a k.b) (hl : a + k.b.length ≤ s.length) : gSections s (n + 1) last coded m a = gSections s n (max last k.id) (coded || ((k.id : Int) == 10)) k.m (a + k.b.length) := by
 unfold Ck.b at hs hl ⊢; obtain ⟨s1, s2⟩ := hs.app; obtain ⟨s3, s4⟩ := s2.app; rw [List.length_append, List.length_append] at hl ⊢; simp only [List.length_cons, List.length_nil] at hl s2 s3 s4 ⊢; have hid := h.id; rw [gSections, if_pos (by omega), rd_b1 s (n := (k.id : Int)) (by omega) (by omega) s.length a s1 (by simp only [List.length_cons, List.length_nil]; omega)]; simp only [Except.bind, List.length_cons, List.length_nil]; rw [if_pos ⟨by omega, by have := h.next; omega⟩, Int.toNat_natCast]
 have hg : gLong s s.length (a + (0 + 1)) (gSection s k.id m) = .ok (k.m, a + (0 + 1) + k.lb.length + k.c.length) := by
  have hu : gU s s.length (a + (0 + 1)) = .ok ((k.c.length : Int), a + (0 + 1) + k.lb.length) := by unfold gU; rw [s3.wnd (by omega), h.lb]; simp only; rw [if_pos h.len]
  unfold gLong; rw [hu]; simp only [Except.bind, Int.toNat_natCast]; rw [Nat.min_eq_left (by omega), h.rd _ s4]; simp only; rw [if_pos trivial]
 rw [hg]; simp only; congr 1; omega
theorem rd_cks {s : List UInt8} : ∀ (cks : List Ck) (last : Nat) (coded : Bool) (m : Md) (a n : Nat), CksOk s cks last m → StAt s a (cks.flatMap Ck.b) → a + (cks.flatMap Ck.b).length ≤ s.length →
 gSections s (n + cks.length) last coded m a = gSections s n (lastL cks last) (codedC cks coded) (lastM cks m) (a + (cks.flatMap Ck.b).length)
 | [], _, _, _, _, _, _, _, _ => rfl
 | k :: r, last, coded, m, a, n, h, hs, hl => by
   rw [List.flatMap_cons] at hs hl ⊢; obtain ⟨s1, s2⟩ := hs.app; rw [List.length_append] at hl ⊢; rw [List.length_cons, show n + (r.length + 1) = n + r.length + 1 by omega, sec_step h.1 s1 (by omega), rd_cks r _ _ _ _ n h.2 s2 (by omega)]; rw [Nat.add_assoc]; rfl
theorem sec_end {s : List UInt8} {n last : Nat} {coded : Bool} {m : Md} (h : coded = true ∨ m.funcs = []) : gSections s (n + 1) last coded m s.length = .ok m := by rw [gSections, if_neg (by omega), if_pos h]
theorem head_rd {s : List UInt8} : ∀ (l : List UInt8) (a : Nat), StAt s a l → a + l.length ≤ s.length → gHead s l a = .ok ((), a + l.length)
 | [], a, _, _ => rfl
 | b :: r, a, hs, hl => by
   have h := (show b :: r = [b] ++ r from rfl)
   rw [h] at hs; obtain ⟨s1, s2⟩ := hs.app; rw [List.length_cons] at hl ⊢
   have hb : gIs s s.length a (b.toNat : Int) = .ok ((), a + 1) := by
    show (gByte s s.length a).bind _ = _
    rw [rd_byte s b s.length a s1 (by simp only [List.length_cons, List.length_nil]; omega)]
    show (if (b.toNat : Int) = (b.toNat : Int) then _ else _) = _
    rw [if_pos rfl]; rfl
   rw [gHead, hb]
   show gHead s r (a + 1) = _
   rw [head_rd r (a + 1) (by simpa using s2) (by omega)]; congr 2; omega
theorem rd_module {cks : List Ck} (h : CksOk (headB ++ cks.flatMap Ck.b) cks 0 md0) (hl : (headB ++ cks.flatMap Ck.b).length ≤ 262144) (hc : codedC cks false = true ∨ (lastM cks md0).funcs = []) : gModule (headB ++ cks.flatMap Ck.b) = .ok (lastM cks md0) := by
 obtain ⟨s, hs⟩ : ∃ s, s = headB ++ cks.flatMap Ck.b := ⟨_, rfl⟩
 rw [← hs] at h hl ⊢; have hL : s.length = 8 + (cks.flatMap Ck.b).length := (by rw [hs, List.length_append]; rfl)
 have h0 : StAt s 0 (headB ++ cks.flatMap Ck.b) := by unfold StAt; rw [← hs]; simp
 obtain ⟨s1, s2⟩ := h0.app
 have hk : cks.length ≤ (cks.flatMap Ck.b).length := by
  clear hL hs h0 s1 s2 h hl hc
  induction cks with
  | nil => simp
  | cons k r ih =>
    rw [List.flatMap_cons, List.length_append, List.length_cons]
    have e : 1 ≤ (Ck.b k).length := by unfold Ck.b; rw [List.length_append]; simp only [List.length_cons, List.length_nil]; omega
    omega
 unfold gModule; rw [if_neg (by omega)]
 have hh : gHead s [0, 97, 115, 109, 1, 0, 0, 0] 0 = .ok ((), 8) := by have := head_rd (s := s) headB 0 s1 (by show 0 + 8 ≤ _; omega); exact this
 rw [hh]
 show gSections s (s.length + 1) 0 false md0 8 = _
 obtain ⟨n, hn⟩ : ∃ n, s.length + 1 = (n + 1) + cks.length := ⟨s.length - cks.length, by omega⟩
 have h8 : (0 : Nat) + headB.length = 8 := rfl; rw [h8] at s2; rw [hn, rd_cks cks 0 false md0 8 (n + 1) h s2 (by omega), ← hL]; exact sec_end hc
end Go.Proofs.YtkbfjkbokifgkaaGreatDoor
