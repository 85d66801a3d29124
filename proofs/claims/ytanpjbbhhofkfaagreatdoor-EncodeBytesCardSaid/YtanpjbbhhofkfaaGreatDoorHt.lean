/- Ht -/
import Derived.Test.YtanpjbbhhofkfaaGreatDoorGn
namespace Go.Proofs.YtanpjbbhhofkfaaGreatDoor
open Go.RowKit
set_option linter.unusedVariables false
set_option linter.unusedSimpArgs false
set_option maxRecDepth 100000
set_option maxHeartbeats 4000000
structure NOk (m : Md) : Prop where
 ng : ∀ t ∈ m.globals, nOk t.2.2.il
 ne : ∀ t ∈ m.elems, nOk t.1.il
 nd : ∀ t ∈ m.datas, nOk t.1.il
 nf : ∀ t ∈ m.funcs, nOk t.2.2
theorem cs_le {α : Type} (c : α → Nat) (K : Nat) : ∀ {l : List α}, (∀ x ∈ l, c x ≤ K) → cs c l ≤ K * l.length
 | [], _ => by simp [cs]
 | y :: l, h => by
   have e : cs c (y :: l) = c y + cs c l := (by simp [cs])
   have h1 := h y (List.mem_cons_self ..); have h2 := cs_le c K (l := l) fun x hx => h x (List.mem_cons_of_mem _ hx); rw [e, List.length_cons, Nat.mul_add, Nat.mul_one]; omega
theorem cs_60 {α : Type} (c : α → Nat) (K : Nat) {l : List α} (h : ∀ x ∈ l, c x ≤ K) (hl : l.length ≤ 4096) (hK : K ≤ 281474976710656) : cs c l ≤ 1152921504606846976 := by have h1 := cs_le c K h; have h2 : K * l.length ≤ 281474976710656 * 4096 := Nat.mul_le_mul hK hl; omega
theorem cl_cnt : ∀ (l : Il) (left : Int), 0 ≤ left → lab l = true → 0 ≤ cnt l left → (cl l : Int) ≤ 41000 * (left - cnt l left)
 | .nil, left, _, _, _ => by simp [cl, cnt]
 | .cons op x y n ls body els rest, left, h, hl, hc => by
   unfold lab at hl; simp only [Bool.and_eq_true, decide_eq_true_eq] at hl; obtain ⟨l1, l2, l3, l4⟩ := hl; unfold cnt at hc ⊢; simp only at hc ⊢
   by_cases h0 : 0 ≤ left - 1
   · rw [if_pos h0] at hc ⊢; have b1 := cnt_bd body (left - 1) h0; have c1 := cl_cnt body (left - 1) h0 l2; generalize cnt body (left - 1) = x1 at hc b1 c1 ⊢
     by_cases h1 : 0 ≤ x1
     · rw [if_pos h1] at hc ⊢; have b2 := cnt_bd els x1 h1; have c2 := cl_cnt els x1 h1 l3; generalize cnt els x1 = x2 at hc b2 c2 ⊢
       by_cases h2 : x2 < 0
       · rw [if_pos h2] at hc; omega
       · rw [if_neg h2] at hc ⊢; have b3 := cnt_bd rest x2 (by omega); have c3 := cl_cnt rest x2 (by omega) l4 hc; have c1' := c1 h1; have c2' := c2 (by omega); unfold cl; push_cast; omega
     · rw [if_neg h1, if_pos (by omega)] at hc; omega
   · simp only [if_neg h0] at hc; rw [if_pos (by omega)] at hc; omega
theorem cntF_all : ∀ (l : List (Int × List Int × Il)) (left : Int), 0 ≤ left → left ≤ 65536 → 0 ≤ cntF l left → (∀ t ∈ l, lab t.2.2 = true) → ∀ t ∈ l, cl t.2.2 ≤ 2687000000
 | [], _, _, _, _, _, t, ht => by cases ht
 | f :: r, left, h, h6, hc, hl, t, ht => by
   unfold cntF at hc; split at hc
   · omega
   · rename_i hn; have b := cnt_bd f.2.2 left h
     rcases List.mem_cons.1 ht with rfl | ht
     · have := cl_cnt t.2.2 left h (hl t (List.mem_cons_self ..)) (by omega); omega
     · exact cntF_all r _ (by omega) (by omega) hc (fun t ht => hl t (List.mem_cons_of_mem _ ht)) t ht
theorem len_zero_cl : ∀ {l : Il}, l.len = 0 → cl l = 0
 | .nil, _ => rfl
 | .cons .., h => by simp [Il.len] at h
theorem cl_beg {q : One} (h : beg1 q = true) : cl q.il = 40 := by
 obtain ⟨op, x, y, n, ls, body, els⟩ := q; unfold beg1 at h; simp only [Bool.and_eq_true, Bool.or_eq_true, beq_iff_eq] at h; obtain ⟨hop, hf⟩ := h; unfold One.il formB at hf; simp only [Bool.and_eq_true] at hf; have hf1 := hf.1
 have key : ls.length = 0 ∧ body.len = 0 ∧ els.len = 0 := by
  unfold form1 at hf1
  rcases hop with rfl | rfl | rfl
  · have hv : formV 65 = 9 := (by decide)
    rw [hv] at hf1; simp at hf1; exact ⟨by rw [hf1.2.2.2.1]; rfl, hf1.2.2.2.2.1, hf1.2.2.2.2.2⟩
  · have hv : formV 66 = 9 := (by decide)
    rw [hv] at hf1; simp at hf1; exact ⟨by rw [hf1.2.2.1]; rfl, hf1.2.2.2.1, hf1.2.2.2.2⟩
  · have hv : formV 35 = 6 := (by decide)
    rw [hv] at hf1; simp at hf1; exact ⟨by rw [hf1.2.2.2.1]; rfl, hf1.2.2.2.2.1, hf1.2.2.2.2.2⟩
 unfold One.il cl; rw [key.1, len_zero_cl key.2.1, len_zero_cl key.2.2]; rfl
theorem dataFit_all : ∀ (l : List (One × ByteArray)) (left : Int), dataFit l left = true → ∀ t ∈ l, (t.2.size : Int) ≤ left
 | [], _, _, t, ht => by cases ht
 | d :: r, left, h, t, ht => by
   unfold dataFit at h; simp only [Bool.and_eq_true, decide_eq_true_eq] at h
   rcases List.mem_cons.1 ht with rfl | ht
   · exact h.1
   · have := dataFit_all r _ h.2 t ht; omega
theorem fit_of {m : Md} (hn : NOk m) (hc : checkV m = 0) : Fit m := by
 unfold checkV at hc; split at hc
 · cases hc
 rename_i hf; split at hc
 · cases hc
 split at hc
 · cases hc
 rename_i hs; have hf2 : fewB m = true := (by simpa using hf)
 have hs2 : shapedB m = true := (by simpa using hs)
 unfold fewB few0 few1 few2 few3 few4 few5 lens at hf2; simp only [Bool.and_eq_true, decide_eq_true_eq, List.all_cons, List.all_nil, le4, List.all_eq_true] at hf2; obtain ⟨⟨l0, l1, l2, l3, l4, l5, l6, l8, l9, _⟩, f0, f1, f2, f3, f4, f5⟩ := hf2; unfold shapedB sh1 sh2 sh3 sh4 sh5 sh6 sh7 sh8 sh9 at hs2; simp only [Bool.and_eq_true, List.all_eq_true] at hs2; obtain ⟨s0, s1, s2, s3, s4, s5, s6, s7, s8, s9⟩ := hs2
 have hcode := cntF_all m.funcs 65536 (by decide) (by decide) (by omega) (fun t ht => by
  have := f5 t ht; unfold funFew at this; rw [Bool.and_eq_true] at this; exact this.2)
 have hlo : ∀ t ∈ m.funcs, t.2.1.length ≤ 256 := fun t ht => by
  have := f5 t ht; unfold funFew at this; rw [Bool.and_eq_true, decide_eq_true_eq] at this; omega
 refine ⟨?_, ?_, ?_, ?_, ?_, ?_, ?_, by omega, ?_, ?_, ?_, hn.ng, hn.ne, hn.nd, hn.nf, fun t ht => by have := hlo t ht; omega, by omega⟩
 · refine cs_60 cTypes 9000 (fun t ht => ?_) (by omega) (by decide); have := f1 t ht; unfold typFew at this; rw [Bool.and_eq_true, decide_eq_true_eq, decide_eq_true_eq] at this; unfold cTypes; omega
 · refine cs_60 cImports 200 (fun t ht => ?_) (by omega) (by decide); have := s1 t ht; unfold impS nameB at this; simp only [Bool.and_eq_true, decide_eq_true_eq] at this; unfold cImports; omega
 · exact cs_60 cFuncs 10 (fun t ht => Nat.le_refl _) (by omega) (by decide)
 · exact cs_60 cTables 22 (fun t ht => Nat.le_refl _) (by omega) (by decide)
 · exact cs_60 cMems 21 (fun t ht => Nat.le_refl _) (by omega) (by decide)
 · refine cs_60 cGlobals 43 (fun t ht => ?_) (by omega) (by decide); have := s4 t ht; unfold gloS at this; rw [Bool.and_eq_true] at this; have := cl_beg this.2; unfold cGlobals; omega
 · refine cs_60 cExports 100 (fun t ht => ?_) (by omega) (by decide); have := s5 t ht; unfold expS nameB at this; simp only [Bool.and_eq_true, decide_eq_true_eq] at this; unfold cExports; omega
 · refine cs_60 cElems 50000 (fun t ht => ?_) (by omega) (by decide); have h1 := s7 t ht; unfold elmS at h1; rw [Bool.and_eq_true] at h1; have h2 := cl_beg h1.1; have h3 := f2 t ht; unfold elmFew at h3; rw [decide_eq_true_eq] at h3; unfold cElems; omega
 · refine cs_60 cCodes 281474976710656 (fun t ht => ?_) (by omega) (by decide); have h1 := hcode t ht; have h2 := hlo t ht; unfold cCodes cCode; omega
 · refine cs_60 cDatas 300000 (fun t ht => ?_) (by omega) (by decide); have h1 := s8 t ht; unfold datS at h1; have h2 := cl_beg h1; have h3 := dataFit_all m.datas 262144 f3 t ht; unfold cDatas; omega
theorem uB_lt {n : Int} (h0 : 0 ≤ n) (h : n < 128) : uB n = [UInt8.ofNat n.toNat] := by
 unfold uB
 have e : (n % 18446744073709551616).toNat = n.toNat := by congr 1; omega
 rw [e, lebU_last (by omega)]
def mW : Md := ⟨[([], [])], [], [], [], [], [], [], [], [], []⟩
theorem mW_check : checkV mW = 0 := by rfl
theorem mW_bytes : xMd mW = [0, 97, 115, 109, 1, 0, 0, 0, 1, 4, 1, 96, 0, 0] := by
 have h0 : uB 0 = [0] := uB_lt (by decide) (by decide); have h1 : uB 1 = [1] := uB_lt (by decide) (by decide); have h4 : uB 4 = [4] := uB_lt (by decide) (by decide)
 have hs : xSec xTypes [([], [])] = [1, 96, 0, 0] := by
  have : xTypes ([], []) = [96, 0, 0] := by unfold xTypes bytsC; simp only [List.length_nil, List.map_nil, List.flatten_cons, List.flatten_nil, List.append_nil]; rw [show ((0 : Nat) : Int) = 0 from rfl, h0]; rfl
  unfold xSec; simp only [List.length_cons, List.length_nil, List.flatMap_cons, List.flatMap_nil, List.append_nil, this]; rw [show (((0 + 1 : Nat)) : Int) = 1 from rfl, h1]; rfl
 unfold xMd scs; simp only [xScs, mW, List.length_cons, List.length_nil, hs, xLg]; rw [show ((0 + 1 + 1 + 1 + 1 : Nat) : Int) = 4 from rfl, h4]; rfl
theorem mW_enc : encE mW = 0 ∧ encB mW = [0, 97, 115, 109, 1, 0, 0, 0, 1, 4, 1, 96, 0, 0] := by unfold encE encB; rw [mW_check, mW_bytes]; decide
theorem mW_nok : NOk mW := ⟨fun t h => (by cases h), fun t h => (by cases h), fun t h => (by cases h), fun t h => (by cases h)⟩
theorem wakes_any (w : World) (hT : TabU w) : Calls Tryz.prog 6 #[] w fun e w' => e = .returned (.bool true) ∧ Below w.heap.size w w' := by
 obtain ⟨w1, hw1⟩ : ∃ w1, w1 = w.alloc (.cells #[.slice none 0 0, .slice none 0 0] 55) := ⟨_, rfl⟩
 have hbel : Below w.heap.size w w1 := (by rw [hw1]; exact (Below.refl _ _).alloc (Nat.le_refl _) _)
 have hbx : Box w1 w.heap.size #[.slice none 0 0, .slice none 0 0] := (by rw [hw1]; exact box_new w _ _)
 have hnil : ∀ {w : World}, IntsIn w none [] := ⟨by decide, .inl rfl⟩
 have hM : MdAt w1 mW (some ⟨w.heap.size, 0, none⟩) 1 none 0 none 0 none 0 none 0 none 0 none 0 none 0 none 0 none 0 := by
  refine ⟨⟨by decide, .inr ⟨_, 0, rfl, fun i x hx => ?_⟩⟩, ⟨by decide, .inl rfl⟩, ⟨by decide, .inl rfl⟩, ⟨by decide, .inl rfl⟩, ⟨by decide, .inl rfl⟩, ⟨by decide, .inl rfl⟩, ⟨by decide, .inl rfl⟩, ⟨by decide, .inl rfl⟩, ⟨by decide, .inl rfl⟩, ⟨by decide, .inl rfl⟩⟩
  have hi : i = 0 := by have := (List.getElem?_eq_some_iff.1 hx).1; simpa [mW] using this
  subst hi; cases hx; exact ⟨⟨none, 0, hbx 0 _ rfl, hnil⟩, ⟨none, 0, hbx 1 _ rfl, hnil⟩⟩
 have hcall := zh (enc_any mW (some ⟨w.heap.size, 0, none⟩) 1 none 0 none 0 none 0 none 0 none 0 none 0 none 0 none 0 none 0 w1 hM (hT.below hbel) (fit_of mW_nok)); rw [mW_enc.1, mW_enc.2] at hcall; replace hbel := zh hbel; clear hbx hM hT hnil; go_enter Tryz.func6, Tryz.ntmps6; go_wp2_with fail; rw [← hw1]; clear hw1; refine hcall.out.mono ?_; rintro e w2 ⟨rfl, hb⟩; have hfin := zh (hbel.out.trans (hb.mono hbel.out.size)); clear hb hcall; go_wp2; go_ret; exact ⟨by simp [mks], hfin.out⟩

end Go.Proofs.YtanpjbbhhofkfaaGreatDoor
