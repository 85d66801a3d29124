/- Rc -/
import Derived.Test.YtanpjbbhhofkfaaGreatDoorFc
import Derived.Test.YtanpjbbhhofkfaaGreatDoorMf
import Derived.Test.YtanpjbbhhofkfaaGreatDoorMh
import Derived.Test.YtanpjbbhhofkfaaGreatDoorRa
namespace Go.Proofs.YtanpjbbhhofkfaaGreatDoor
open Go.RowKit
set_option linter.unusedVariables false
set_option linter.unusedSimpArgs false
set_option maxRecDepth 100000
set_option maxHeartbeats 4000000
theorem rindex_any (n : Int) (w : World) : Calls Tryz.prog 80 #[.int .i64 n] w fun e w' => e = .returned (.bool (idx1 n)) ∧ w = w' := by
 by_cases h1 : 0 ≤ n
 · by_cases h2 : n ≤ 4294967295
   · have hv : idx1 n = true := (by unfold idx1; rw [decide_eq_true h1, decide_eq_true (by omega)]; rfl)
     go_enter Tryz.func80, Tryz.ntmps80; go_wp2; go_ret; exact ⟨by rw [hv]; rfl, rfl⟩
   · have hv : idx1 n = false := (by unfold idx1; rw [decide_eq_true h1, decide_eq_false (by omega)]; rfl)
     go_enter Tryz.func80, Tryz.ntmps80; go_wp2; go_ret; exact ⟨rfl, rfl⟩
 · have hv : idx1 n = false := (by unfold idx1; rw [decide_eq_false h1]; rfl)
   go_enter Tryz.func80, Tryz.ntmps80; go_wp2; go_ret; exact ⟨rfl, rfl⟩
theorem rtypes_any (l : List Int) (ao : Option Addr) (c : Nat) (w : World) (h : IntsIn w ao l) :
 Calls Tryz.prog 79 #[.slice ao l.length c] w fun e w' => e = .returned (.bool (l.all typ1)) ∧ w = w' := by
 obtain ⟨N, hN⟩ : ∃ N, l.length = N := ⟨_, rfl⟩
 have hl := h.1; have HI := zh h; clear h; rw [hN] at hl ⊢; go_enter Tryz.func79, Tryz.ntmps79; go_wp2_with fail; go_loopw [3] (fun vi wr => ∃ i : Nat, i ≤ N ∧ vi = .int .i64 i ∧ wr = w ∧ Hid ((l.take i).all typ1 = true)) (fun vi _ => N - (intOf vi).toNat)
 case atStart => exact ⟨0, Nat.zero_le _, rfl, rfl, zh rfl⟩
 case round =>
  obtain ⟨i, hi, rfl, rfl, ha⟩ := hrel
  by_cases hlt : i < N
  · obtain ⟨x, hx⟩ : ∃ x, l[i]? = some x := ⟨_, List.getElem?_eq_getElem (by omega)⟩
    obtain ⟨b, o, rfl, hcell⟩ := HI.out.cell hx; have hn := zh (all_drop hx ha.out); clear hx ha
    by_cases h6 : x = 126
    · subst h6; have hn2 := zh (hn.out.1 rfl); clear hn; go_wp2; exact ⟨⟨i + 1, by omega, by simp, trivial, hn2⟩, by simp [intOf]; omega⟩
    by_cases h7 : x = 127
    · subst h7; have hn2 := zh (hn.out.1 rfl); clear hn; go_wp2; exact ⟨⟨i + 1, by omega, by simp, trivial, hn2⟩, by simp [intOf]; omega⟩
    have hf : typ1 x = false := (by unfold typ1; simp [h6, h7])
    have q6 : (x != 126) = true := (by simp [h6])
    have q7 : (x != 127) = true := (by simp [h7])
    have hv := hn.out.2 hf; clear hn; go_wp2; go_ret; exact ⟨by rw [hv]; rfl, rfl⟩
  · have hiN : i = N := (by omega)
    subst hiN; have ha2 : l.all typ1 = true := (by have := ha.out; rwa [List.take_of_length_le (by omega)] at this)
    clear ha; go_wp2; go_ret; exact ⟨by rw [ha2]; rfl, rfl⟩
theorem rindices_any (l : List Int) (ao : Option Addr) (c : Nat) (w : World) (h : IntsIn w ao l) :
 Calls Tryz.prog 85 #[.slice ao l.length c] w fun e w' => e = .returned (.bool (l.all idx1)) ∧ w = w' := by
 obtain ⟨N, hN⟩ : ∃ N, l.length = N := ⟨_, rfl⟩
 have hl := h.1; have HI := zh h; clear h; rw [hN] at hl ⊢; go_enter Tryz.func85, Tryz.ntmps85; go_wp2_with fail; go_loopw [3] (fun vi wr => ∃ i : Nat, i ≤ N ∧ vi = .int .i64 i ∧ wr = w ∧ Hid ((l.take i).all idx1 = true)) (fun vi _ => N - (intOf vi).toNat)
 case atStart => exact ⟨0, Nat.zero_le _, rfl, rfl, zh rfl⟩
 case round =>
  obtain ⟨i, hi, rfl, rfl, ha⟩ := hrel
  by_cases hlt : i < N
  · obtain ⟨x, hx⟩ : ∃ x, l[i]? = some x := ⟨_, List.getElem?_eq_getElem (by omega)⟩
    obtain ⟨b, o, rfl, hcell⟩ := HI.out.cell hx; have hn := zh (all_drop hx ha.out); clear hx ha; go_wp2_with fail; refine (rindex_any x _).mono ?_; rintro e w2 ⟨rfl, rfl⟩; cases hX : idx1 x
    · have hv := hn.out.2 hX; clear hn; go_wp2; go_ret; exact ⟨by rw [hv]; rfl, rfl⟩
    · have hn2 := zh (hn.out.1 hX); clear hn; go_wp2; exact ⟨⟨i + 1, by omega, by simp, trivial, hn2⟩, by simp [intOf]; omega⟩
  · have hiN : i = N := (by omega)
    subst hiN; have ha2 : l.all idx1 = true := (by have := ha.out; rwa [List.take_of_length_le (by omega)] at this)
    clear ha; go_wp2; go_ret; exact ⟨by rw [ha2]; rfl, rfl⟩
theorem rlimits_any (l : List (Int × Int × Bool)) (ao : Option Addr) (c : Nat) (w : World) (h : RowsIn LimitsAt 3 w ao l) :
 Calls Tryz.prog 86 #[.slice ao l.length c] w fun e w' => e = .returned (.bool (l.all lim1)) ∧ w = w' := by
 obtain ⟨N, hN⟩ : ∃ N, l.length = N := ⟨_, rfl⟩
 have hl := h.1; have HI := zh h; clear h; rw [hN] at hl ⊢; go_enter Tryz.func86, Tryz.ntmps86; go_wp2_with fail; go_loopw [3] (fun vi wr => ∃ i : Nat, i ≤ N ∧ vi = .int .i64 i ∧ wr = w ∧ Hid ((l.take i).all lim1 = true)) (fun vi _ => N - (intOf vi).toNat)
 case atStart => exact ⟨0, Nat.zero_le _, rfl, rfl, zh rfl⟩
 case round =>
  obtain ⟨i, hi, rfl, rfl, ha⟩ := hrel
  by_cases hlt : i < N
  · obtain ⟨t, ht⟩ : ∃ t, l[i]? = some t := ⟨_, List.getElem?_eq_getElem (by omega)⟩
    obtain ⟨b, o, rfl, hrow⟩ := HI.out.row ht; obtain ⟨mn, mx, has⟩ := t; obtain ⟨c0, c1, c2⟩ := hrow; have c0 : wr.cell? ⟨b, o + i * 3, none⟩ = some (.int .i64 mn) := c0; have c1 : wr.cell? ⟨b, o + i * 3 + 1, none⟩ = some (.int .i64 mx) := c1; have c2 : wr.cell? ⟨b, o + i * 3 + 2, none⟩ = some (.bool has) := c2; have hn := zh (all_row ht ha.out); clear ht ha; go_wp2_with fail; refine (rindex_any mn _).mono ?_; rintro e w2 ⟨rfl, rfl⟩; cases hX : idx1 mn
    · have hv := hn.out.2 (by unfold lim1; rw [hX]; rfl); clear hn; go_wp2; go_ret; exact ⟨by rw [hv]; rfl, rfl⟩
    · go_wp2_with fail; refine (rindex_any mx _).mono ?_; rintro e w2 ⟨rfl, rfl⟩; cases hY : idx1 mx
      · have hv := hn.out.2 (by unfold lim1; rw [hX, hY]; rfl); clear hn; go_wp2; go_ret; exact ⟨by rw [hv]; rfl, rfl⟩
      · cases has
        · by_cases h0 : mx = 0
          · subst h0; have hn2 := zh (hn.out.1 (by unfold lim1; rw [hX, hY]; rfl)); clear hn; go_wp2; exact ⟨⟨i + 1, by omega, by simp, trivial, hn2⟩, by simp [intOf]; omega⟩
          · have q0 : (mx == 0) = false := (by simp [h0])
            have hv := hn.out.2 (by unfold lim1; rw [hX, hY]; exact q0); clear hn; go_wp2; go_ret; exact ⟨by rw [hv]; rfl, rfl⟩
        · have hn2 := zh (hn.out.1 (by unfold lim1; rw [hX, hY]; rfl)); clear hn; go_wp2; exact ⟨⟨i + 1, by omega, by simp, trivial, hn2⟩, by simp [intOf]; omega⟩
  · have hiN : i = N := (by omega)
    subst hiN; have ha2 : l.all lim1 = true := (by have := ha.out; rwa [List.take_of_length_le (by omega)] at this)
    clear ha; go_wp2; go_ret; exact ⟨by rw [ha2]; rfl, rfl⟩
theorem form_ne {op k : Int} (hk : k ≠ 9) (hf : formV op = k) (h : op = 65) : False := by subst h; exact hk (hf.symm.trans (by decide))
theorem form_nine {op : Int} (hf : formV op = 9) : op = 65 ∨ op = 66 := by
 unfold formV at hf
 repeat' split at hf
 all_goals first | omega | (exfalso; omega)
theorem wrapI32_val (n : Int) : wrapI32 n = (n + 2147483648) % 4294967296 - 2147483648 := by unfold wrapI32 wrap64 wrap32; omega
theorem wrapI32_no (n : Int) (h : n < -2147483648 ∨ n > 2147483647) : ¬ n = wrapI32 n := by rw [wrapI32_val]; omega
theorem wrapI32_yes (n : Int) (h0 : -2147483648 ≤ n) (h1 : n ≤ 2147483647) : wrapI32 n = n := by rw [wrapI32_val]; omega
theorem one_1 (op x y n : Int) (ls : List Int) (bl el : Nat) (a4 : Option Addr) (k4 : Nat) (a5 : Option Addr) (k5 : Nat) (a6 : Option Addr) (k6 : Nat) (w : World) (HI0 : IntsIn w a4 ls) (l5 : bl ≤ 9223372036854775807) (l6 : el ≤ 9223372036854775807) (hf : formV op = 1) :
 Calls Tryz.prog 102 #[.agg #[.int .i64 op, .int .i64 x, .int .i64 y, .int .i64 n, .slice a4 ls.length k4, .slice a5 bl k5, .slice a6 el k6]] w fun e w' => e = .returned (.bool (form1 op x y n ls bl el)) ∧ Below w.heap.size w w' := by
 have hB : Below w.heap.size w (w.alloc (.cells #[.int .i64 op, .int .i64 x, .int .i64 y, .int .i64 n, .slice a4 ls.length k4, .slice a5 bl k5, .slice a6 el k6] 46)) := (Below.refl _ _).alloc (Nat.le_refl _) _; have l4 := HI0.1; have HI := HI0.below hB; clear HI0; go_enter Tryz.func102, Tryz.ntmps102; go_wp2_with fail; refine (rform_any op _).mono ?_; rintro e w2 ⟨rfl, rfl⟩; rw [hf]
 by_cases hx : x = 0
 · subst hx
   by_cases hy : y = 0
   · subst hy
     by_cases hn : n = 0
     · subst hn
       by_cases hls : ls.length = 0
       · obtain rfl := List.eq_nil_of_length_eq_zero hls
         by_cases hbl : bl = 0
         · subst hbl
           by_cases hel : el = 0
           · subst hel; have hop : op ≠ 65 := fun h => form_ne (k := 1) (by decide) hf h; have qop : (op == 65) = false := (by simp [hop])
             have hv : form1 op 0 0 0 [] 0 0 = (idx1 0 && (idx1 0 && ([] : List Int).all idx1)) := (by simp [form1, hf, idx1])
             clear hf; go_wp2_with fail; refine (rindex_any 0 _).mono ?_; rintro e w2 ⟨rfl, rfl⟩; cases hX : idx1 0
             · have hv2 : form1 op 0 0 0 [] 0 0 = false := (by rw [hv, hX]; rfl)
               clear hv; go_wp2; go_ret; exact ⟨by rw [hv2]; rfl, hB⟩
             · go_wp2_with fail; refine (rindex_any 0 _).mono ?_; rintro e w2 ⟨rfl, rfl⟩; cases hY : idx1 0
               · have hv2 : form1 op 0 0 0 [] 0 0 = false := (by first | (rw [hv, hX, hY]; rfl) | (rw [hX] at hY; cases hY))
                 clear hv; go_wp2; go_ret; exact ⟨by rw [hv2]; rfl, hB⟩
               · have hv2 : form1 op 0 0 0 [] 0 0 = ([] : List Int).all idx1 := (by first | (rw [hv, hX, hY]; rfl) | (rw [hv, hX]; rfl))
                 clear hv; go_wp2_with fail; refine (rindices_any ([] : List Int) a4 k4 _ HI).mono ?_; rintro e w2 ⟨rfl, rfl⟩; go_wp2; go_ret; exact ⟨by rw [hv2]; rfl, hB⟩
           · have hv : form1 op 0 0 0 [] 0 el = false := (by simp [form1, hf, hel])
             have q : (0 : Int) < (el : Int) := (by omega)
             clear hf; go_wp2; go_ret; exact ⟨by rw [hv]; rfl, hB⟩
         · have hv : form1 op 0 0 0 [] bl el = false := (by simp [form1, hf, hbl])
           have q : (0 : Int) < (bl : Int) := (by omega)
           clear hf; go_wp2; go_ret; exact ⟨by rw [hv]; rfl, hB⟩
       · have hv : form1 op 0 0 0 ls bl el = false := (by simp [form1, hf, hls])
         have q : (0 : Int) < (ls.length : Int) := (by omega)
         clear hf; go_wp2; go_ret; exact ⟨by rw [hv]; rfl, hB⟩
     · have hv : form1 op 0 0 n ls bl el = false := (by simp [form1, hf, hn])
       have q : (n != 0) = true := (by simp [hn])
       clear hf; go_wp2; go_ret; exact ⟨by rw [hv]; rfl, hB⟩
   · have hv : form1 op 0 y n ls bl el = false := (by simp [form1, hf, hy])
     have q : (y != 0) = true := (by simp [hy])
     clear hf; go_wp2; go_ret; exact ⟨by rw [hv]; rfl, hB⟩
 · have hv : form1 op x y n ls bl el = false := (by simp [form1, hf, hx])
   have q : (x != 0) = true := (by simp [hx])
   clear hf; go_wp2; go_ret; exact ⟨by rw [hv]; rfl, hB⟩
theorem one_2 (op x y n : Int) (ls : List Int) (bl el : Nat) (a4 : Option Addr) (k4 : Nat) (a5 : Option Addr) (k5 : Nat) (a6 : Option Addr) (k6 : Nat) (w : World) (HI0 : IntsIn w a4 ls) (l5 : bl ≤ 9223372036854775807) (l6 : el ≤ 9223372036854775807) (hf : formV op = 2) :
 Calls Tryz.prog 102 #[.agg #[.int .i64 op, .int .i64 x, .int .i64 y, .int .i64 n, .slice a4 ls.length k4, .slice a5 bl k5, .slice a6 el k6]] w fun e w' => e = .returned (.bool (form1 op x y n ls bl el)) ∧ Below w.heap.size w w' := by
 have hB : Below w.heap.size w (w.alloc (.cells #[.int .i64 op, .int .i64 x, .int .i64 y, .int .i64 n, .slice a4 ls.length k4, .slice a5 bl k5, .slice a6 el k6] 46)) := (Below.refl _ _).alloc (Nat.le_refl _) _; have l4 := HI0.1; have HI := HI0.below hB; clear HI0; go_enter Tryz.func102, Tryz.ntmps102; go_wp2_with fail; refine (rform_any op _).mono ?_; rintro e w2 ⟨rfl, rfl⟩; rw [hf]
 by_cases hy : y = 0
 · subst hy
   by_cases hn : n = 0
   · subst hn
     by_cases hls : ls.length = 0
     · obtain rfl := List.eq_nil_of_length_eq_zero hls
       by_cases hel : el = 0
       · subst hel
         by_cases h0 : x = 0
         · subst h0; have hv : form1 op 0 0 0 [] bl 0 = true := (by simp [form1, hf, res1])
           clear hf; go_wp2; go_ret; exact ⟨by rw [hv]; rfl, hB⟩
         by_cases h6 : x = 126
         · subst h6; have hv : form1 op 126 0 0 [] bl 0 = true := (by simp [form1, hf, res1])
           clear hf; go_wp2; go_ret; exact ⟨by rw [hv]; rfl, hB⟩
         by_cases h7 : x = 127
         · subst h7; have hv : form1 op 127 0 0 [] bl 0 = true := (by simp [form1, hf, res1])
           clear hf; go_wp2; go_ret; exact ⟨by rw [hv]; rfl, hB⟩
         have hv : form1 op x 0 0 [] bl 0 = false := (by simp [form1, hf, res1, h0, h6, h7])
         have q0 : (x == 0) = false := (by simp [h0])
         have q6 : (x == 126) = false := (by simp [h6])
         have q7 : (x == 127) = false := (by simp [h7])
         clear hf; go_wp2; go_ret; exact ⟨by rw [hv]; rfl, hB⟩
       · have hv : form1 op x 0 0 [] bl el = false := (by simp [form1, hf, hel])
         have q : (0 : Int) < (el : Int) := (by omega)
         clear hf; go_wp2; go_ret; exact ⟨by rw [hv]; rfl, hB⟩
     · have hv : form1 op x 0 0 ls bl el = false := (by simp [form1, hf, hls])
       have q : (0 : Int) < (ls.length : Int) := (by omega)
       clear hf; go_wp2; go_ret; exact ⟨by rw [hv]; rfl, hB⟩
   · have hv : form1 op x 0 n ls bl el = false := (by simp [form1, hf, hn])
     have q : (n != 0) = true := (by simp [hn])
     clear hf; go_wp2; go_ret; exact ⟨by rw [hv]; rfl, hB⟩
 · have hv : form1 op x y n ls bl el = false := (by simp [form1, hf, hy])
   have q : (y != 0) = true := (by simp [hy])
   clear hf; go_wp2; go_ret; exact ⟨by rw [hv]; rfl, hB⟩
theorem one_3 (op x y n : Int) (ls : List Int) (bl el : Nat) (a4 : Option Addr) (k4 : Nat) (a5 : Option Addr) (k5 : Nat) (a6 : Option Addr) (k6 : Nat) (w : World) (HI0 : IntsIn w a4 ls) (l5 : bl ≤ 9223372036854775807) (l6 : el ≤ 9223372036854775807) (hf : formV op = 3) :
 Calls Tryz.prog 102 #[.agg #[.int .i64 op, .int .i64 x, .int .i64 y, .int .i64 n, .slice a4 ls.length k4, .slice a5 bl k5, .slice a6 el k6]] w fun e w' => e = .returned (.bool (form1 op x y n ls bl el)) ∧ Below w.heap.size w w' := by
 have hB : Below w.heap.size w (w.alloc (.cells #[.int .i64 op, .int .i64 x, .int .i64 y, .int .i64 n, .slice a4 ls.length k4, .slice a5 bl k5, .slice a6 el k6] 46)) := (Below.refl _ _).alloc (Nat.le_refl _) _; have l4 := HI0.1; have HI := HI0.below hB; clear HI0; go_enter Tryz.func102, Tryz.ntmps102; go_wp2_with fail; refine (rform_any op _).mono ?_; rintro e w2 ⟨rfl, rfl⟩; rw [hf]
 by_cases hy : y = 0
 · subst hy
   by_cases hn : n = 0
   · subst hn
     by_cases hls : ls.length = 0
     · obtain rfl := List.eq_nil_of_length_eq_zero hls
       by_cases h0 : x = 0
       · subst h0; have hv : form1 op 0 0 0 [] bl el = true := (by simp [form1, hf, res1])
         clear hf; go_wp2; go_ret; exact ⟨by rw [hv]; rfl, hB⟩
       by_cases h6 : x = 126
       · subst h6; have hv : form1 op 126 0 0 [] bl el = true := (by simp [form1, hf, res1])
         clear hf; go_wp2; go_ret; exact ⟨by rw [hv]; rfl, hB⟩
       by_cases h7 : x = 127
       · subst h7; have hv : form1 op 127 0 0 [] bl el = true := (by simp [form1, hf, res1])
         clear hf; go_wp2; go_ret; exact ⟨by rw [hv]; rfl, hB⟩
       have hv : form1 op x 0 0 [] bl el = false := (by simp [form1, hf, res1, h0, h6, h7])
       have q0 : (x == 0) = false := (by simp [h0])
       have q6 : (x == 126) = false := (by simp [h6])
       have q7 : (x == 127) = false := (by simp [h7])
       clear hf; go_wp2; go_ret; exact ⟨by rw [hv]; rfl, hB⟩
     · have hv : form1 op x 0 0 ls bl el = false := (by simp [form1, hf, hls])
       have q : (0 : Int) < (ls.length : Int) := (by omega)
       clear hf; go_wp2; go_ret; exact ⟨by rw [hv]; rfl, hB⟩
   · have hv : form1 op x 0 n ls bl el = false := (by simp [form1, hf, hn])
     have q : (n != 0) = true := (by simp [hn])
     clear hf; go_wp2; go_ret; exact ⟨by rw [hv]; rfl, hB⟩
 · have hv : form1 op x y n ls bl el = false := (by simp [form1, hf, hy])
   have q : (y != 0) = true := (by simp [hy])
   clear hf; go_wp2; go_ret; exact ⟨by rw [hv]; rfl, hB⟩
theorem one_4 (op x y n : Int) (ls : List Int) (bl el : Nat) (a4 : Option Addr) (k4 : Nat) (a5 : Option Addr) (k5 : Nat) (a6 : Option Addr) (k6 : Nat) (w : World) (HI0 : IntsIn w a4 ls) (l5 : bl ≤ 9223372036854775807) (l6 : el ≤ 9223372036854775807) (hf : formV op = 4) :
 Calls Tryz.prog 102 #[.agg #[.int .i64 op, .int .i64 x, .int .i64 y, .int .i64 n, .slice a4 ls.length k4, .slice a5 bl k5, .slice a6 el k6]] w fun e w' => e = .returned (.bool (form1 op x y n ls bl el)) ∧ Below w.heap.size w w' := by
 have hB : Below w.heap.size w (w.alloc (.cells #[.int .i64 op, .int .i64 x, .int .i64 y, .int .i64 n, .slice a4 ls.length k4, .slice a5 bl k5, .slice a6 el k6] 46)) := (Below.refl _ _).alloc (Nat.le_refl _) _; have l4 := HI0.1; have HI := HI0.below hB; clear HI0; go_enter Tryz.func102, Tryz.ntmps102; go_wp2_with fail; refine (rform_any op _).mono ?_; rintro e w2 ⟨rfl, rfl⟩; rw [hf]
 by_cases hy : y = 0
 · subst hy
   by_cases hn : n = 0
   · subst hn
     by_cases hls : ls.length = 0
     · obtain rfl := List.eq_nil_of_length_eq_zero hls
       by_cases hbl : bl = 0
       · subst hbl
         by_cases hel : el = 0
         · subst hel; have hop : op ≠ 65 := fun h => form_ne (k := 4) (by decide) hf h; have qop : (op == 65) = false := (by simp [hop])
           have hv : form1 op x 0 0 [] 0 0 = (idx1 x && (idx1 0 && ([] : List Int).all idx1)) := (by simp [form1, hf, idx1])
           clear hf; go_wp2_with fail; refine (rindex_any x _).mono ?_; rintro e w2 ⟨rfl, rfl⟩; cases hX : idx1 x
           · have hv2 : form1 op x 0 0 [] 0 0 = false := (by rw [hv, hX]; rfl)
             clear hv; go_wp2; go_ret; exact ⟨by rw [hv2]; rfl, hB⟩
           · go_wp2_with fail; refine (rindex_any 0 _).mono ?_; rintro e w2 ⟨rfl, rfl⟩; cases hY : idx1 0
             · have hv2 : form1 op x 0 0 [] 0 0 = false := (by first | (rw [hv, hX, hY]; rfl) | (rw [hX] at hY; cases hY))
               clear hv; go_wp2; go_ret; exact ⟨by rw [hv2]; rfl, hB⟩
             · have hv2 : form1 op x 0 0 [] 0 0 = ([] : List Int).all idx1 := (by first | (rw [hv, hX, hY]; rfl) | (rw [hv, hX]; rfl))
               clear hv; go_wp2_with fail; refine (rindices_any ([] : List Int) a4 k4 _ HI).mono ?_; rintro e w2 ⟨rfl, rfl⟩; go_wp2; go_ret; exact ⟨by rw [hv2]; rfl, hB⟩
         · have hv : form1 op x 0 0 [] 0 el = false := (by simp [form1, hf, hel])
           have q : (0 : Int) < (el : Int) := (by omega)
           clear hf; go_wp2; go_ret; exact ⟨by rw [hv]; rfl, hB⟩
       · have hv : form1 op x 0 0 [] bl el = false := (by simp [form1, hf, hbl])
         have q : (0 : Int) < (bl : Int) := (by omega)
         clear hf; go_wp2; go_ret; exact ⟨by rw [hv]; rfl, hB⟩
     · have hv : form1 op x 0 0 ls bl el = false := (by simp [form1, hf, hls])
       have q : (0 : Int) < (ls.length : Int) := (by omega)
       clear hf; go_wp2; go_ret; exact ⟨by rw [hv]; rfl, hB⟩
   · have hv : form1 op x 0 n ls bl el = false := (by simp [form1, hf, hn])
     have q : (n != 0) = true := (by simp [hn])
     clear hf; go_wp2; go_ret; exact ⟨by rw [hv]; rfl, hB⟩
 · have hv : form1 op x y n ls bl el = false := (by simp [form1, hf, hy])
   have q : (y != 0) = true := (by simp [hy])
   clear hf; go_wp2; go_ret; exact ⟨by rw [hv]; rfl, hB⟩
theorem one_6 (op x y n : Int) (ls : List Int) (bl el : Nat) (a4 : Option Addr) (k4 : Nat) (a5 : Option Addr) (k5 : Nat) (a6 : Option Addr) (k6 : Nat) (w : World) (HI0 : IntsIn w a4 ls) (l5 : bl ≤ 9223372036854775807) (l6 : el ≤ 9223372036854775807) (hf : formV op = 6) :
 Calls Tryz.prog 102 #[.agg #[.int .i64 op, .int .i64 x, .int .i64 y, .int .i64 n, .slice a4 ls.length k4, .slice a5 bl k5, .slice a6 el k6]] w fun e w' => e = .returned (.bool (form1 op x y n ls bl el)) ∧ Below w.heap.size w w' := by
 have hB : Below w.heap.size w (w.alloc (.cells #[.int .i64 op, .int .i64 x, .int .i64 y, .int .i64 n, .slice a4 ls.length k4, .slice a5 bl k5, .slice a6 el k6] 46)) := (Below.refl _ _).alloc (Nat.le_refl _) _; have l4 := HI0.1; have HI := HI0.below hB; clear HI0; go_enter Tryz.func102, Tryz.ntmps102; go_wp2_with fail; refine (rform_any op _).mono ?_; rintro e w2 ⟨rfl, rfl⟩; rw [hf]
 by_cases hy : y = 0
 · subst hy
   by_cases hn : n = 0
   · subst hn
     by_cases hls : ls.length = 0
     · obtain rfl := List.eq_nil_of_length_eq_zero hls
       by_cases hbl : bl = 0
       · subst hbl
         by_cases hel : el = 0
         · subst hel; have hop : op ≠ 65 := fun h => form_ne (k := 6) (by decide) hf h; have qop : (op == 65) = false := (by simp [hop])
           have hv : form1 op x 0 0 [] 0 0 = (idx1 x && (idx1 0 && ([] : List Int).all idx1)) := (by simp [form1, hf, idx1])
           clear hf; go_wp2_with fail; refine (rindex_any x _).mono ?_; rintro e w2 ⟨rfl, rfl⟩; cases hX : idx1 x
           · have hv2 : form1 op x 0 0 [] 0 0 = false := (by rw [hv, hX]; rfl)
             clear hv; go_wp2; go_ret; exact ⟨by rw [hv2]; rfl, hB⟩
           · go_wp2_with fail; refine (rindex_any 0 _).mono ?_; rintro e w2 ⟨rfl, rfl⟩; cases hY : idx1 0
             · have hv2 : form1 op x 0 0 [] 0 0 = false := (by first | (rw [hv, hX, hY]; rfl) | (rw [hX] at hY; cases hY))
               clear hv; go_wp2; go_ret; exact ⟨by rw [hv2]; rfl, hB⟩
             · have hv2 : form1 op x 0 0 [] 0 0 = ([] : List Int).all idx1 := (by first | (rw [hv, hX, hY]; rfl) | (rw [hv, hX]; rfl))
               clear hv; go_wp2_with fail; refine (rindices_any ([] : List Int) a4 k4 _ HI).mono ?_; rintro e w2 ⟨rfl, rfl⟩; go_wp2; go_ret; exact ⟨by rw [hv2]; rfl, hB⟩
         · have hv : form1 op x 0 0 [] 0 el = false := (by simp [form1, hf, hel])
           have q : (0 : Int) < (el : Int) := (by omega)
           clear hf; go_wp2; go_ret; exact ⟨by rw [hv]; rfl, hB⟩
       · have hv : form1 op x 0 0 [] bl el = false := (by simp [form1, hf, hbl])
         have q : (0 : Int) < (bl : Int) := (by omega)
         clear hf; go_wp2; go_ret; exact ⟨by rw [hv]; rfl, hB⟩
     · have hv : form1 op x 0 0 ls bl el = false := (by simp [form1, hf, hls])
       have q : (0 : Int) < (ls.length : Int) := (by omega)
       clear hf; go_wp2; go_ret; exact ⟨by rw [hv]; rfl, hB⟩
   · have hv : form1 op x 0 n ls bl el = false := (by simp [form1, hf, hn])
     have q : (n != 0) = true := (by simp [hn])
     clear hf; go_wp2; go_ret; exact ⟨by rw [hv]; rfl, hB⟩
 · have hv : form1 op x y n ls bl el = false := (by simp [form1, hf, hy])
   have q : (y != 0) = true := (by simp [hy])
   clear hf; go_wp2; go_ret; exact ⟨by rw [hv]; rfl, hB⟩
theorem one_7 (op x y n : Int) (ls : List Int) (bl el : Nat) (a4 : Option Addr) (k4 : Nat) (a5 : Option Addr) (k5 : Nat) (a6 : Option Addr) (k6 : Nat) (w : World) (HI0 : IntsIn w a4 ls) (l5 : bl ≤ 9223372036854775807) (l6 : el ≤ 9223372036854775807) (hf : formV op = 7) :
 Calls Tryz.prog 102 #[.agg #[.int .i64 op, .int .i64 x, .int .i64 y, .int .i64 n, .slice a4 ls.length k4, .slice a5 bl k5, .slice a6 el k6]] w fun e w' => e = .returned (.bool (form1 op x y n ls bl el)) ∧ Below w.heap.size w w' := by
 have hB : Below w.heap.size w (w.alloc (.cells #[.int .i64 op, .int .i64 x, .int .i64 y, .int .i64 n, .slice a4 ls.length k4, .slice a5 bl k5, .slice a6 el k6] 46)) := (Below.refl _ _).alloc (Nat.le_refl _) _; have l4 := HI0.1; have HI := HI0.below hB; clear HI0; go_enter Tryz.func102, Tryz.ntmps102; go_wp2_with fail; refine (rform_any op _).mono ?_; rintro e w2 ⟨rfl, rfl⟩; rw [hf]
 by_cases hy : y = 0
 · subst hy
   by_cases hn : n = 0
   · subst hn
     by_cases hls : ls.length = 0
     · obtain rfl := List.eq_nil_of_length_eq_zero hls
       by_cases hbl : bl = 0
       · subst hbl
         by_cases hel : el = 0
         · subst hel; have hop : op ≠ 65 := fun h => form_ne (k := 7) (by decide) hf h; have qop : (op == 65) = false := (by simp [hop])
           have hv : form1 op x 0 0 [] 0 0 = (idx1 x && (idx1 0 && ([] : List Int).all idx1)) := (by simp [form1, hf, idx1])
           clear hf; go_wp2_with fail; refine (rindex_any x _).mono ?_; rintro e w2 ⟨rfl, rfl⟩; cases hX : idx1 x
           · have hv2 : form1 op x 0 0 [] 0 0 = false := (by rw [hv, hX]; rfl)
             clear hv; go_wp2; go_ret; exact ⟨by rw [hv2]; rfl, hB⟩
           · go_wp2_with fail; refine (rindex_any 0 _).mono ?_; rintro e w2 ⟨rfl, rfl⟩; cases hY : idx1 0
             · have hv2 : form1 op x 0 0 [] 0 0 = false := (by first | (rw [hv, hX, hY]; rfl) | (rw [hX] at hY; cases hY))
               clear hv; go_wp2; go_ret; exact ⟨by rw [hv2]; rfl, hB⟩
             · have hv2 : form1 op x 0 0 [] 0 0 = ([] : List Int).all idx1 := (by first | (rw [hv, hX, hY]; rfl) | (rw [hv, hX]; rfl))
               clear hv; go_wp2_with fail; refine (rindices_any ([] : List Int) a4 k4 _ HI).mono ?_; rintro e w2 ⟨rfl, rfl⟩; go_wp2; go_ret; exact ⟨by rw [hv2]; rfl, hB⟩
         · have hv : form1 op x 0 0 [] 0 el = false := (by simp [form1, hf, hel])
           have q : (0 : Int) < (el : Int) := (by omega)
           clear hf; go_wp2; go_ret; exact ⟨by rw [hv]; rfl, hB⟩
       · have hv : form1 op x 0 0 [] bl el = false := (by simp [form1, hf, hbl])
         have q : (0 : Int) < (bl : Int) := (by omega)
         clear hf; go_wp2; go_ret; exact ⟨by rw [hv]; rfl, hB⟩
     · have hv : form1 op x 0 0 ls bl el = false := (by simp [form1, hf, hls])
       have q : (0 : Int) < (ls.length : Int) := (by omega)
       clear hf; go_wp2; go_ret; exact ⟨by rw [hv]; rfl, hB⟩
   · have hv : form1 op x 0 n ls bl el = false := (by simp [form1, hf, hn])
     have q : (n != 0) = true := (by simp [hn])
     clear hf; go_wp2; go_ret; exact ⟨by rw [hv]; rfl, hB⟩
 · have hv : form1 op x y n ls bl el = false := (by simp [form1, hf, hy])
   have q : (y != 0) = true := (by simp [hy])
   clear hf; go_wp2; go_ret; exact ⟨by rw [hv]; rfl, hB⟩
theorem one_5 (op x y n : Int) (ls : List Int) (bl el : Nat) (a4 : Option Addr) (k4 : Nat) (a5 : Option Addr) (k5 : Nat) (a6 : Option Addr) (k6 : Nat) (w : World) (HI0 : IntsIn w a4 ls) (l5 : bl ≤ 9223372036854775807) (l6 : el ≤ 9223372036854775807) (hf : formV op = 5) :
 Calls Tryz.prog 102 #[.agg #[.int .i64 op, .int .i64 x, .int .i64 y, .int .i64 n, .slice a4 ls.length k4, .slice a5 bl k5, .slice a6 el k6]] w fun e w' => e = .returned (.bool (form1 op x y n ls bl el)) ∧ Below w.heap.size w w' := by
 have hB : Below w.heap.size w (w.alloc (.cells #[.int .i64 op, .int .i64 x, .int .i64 y, .int .i64 n, .slice a4 ls.length k4, .slice a5 bl k5, .slice a6 el k6] 46)) := (Below.refl _ _).alloc (Nat.le_refl _) _; have l4 := HI0.1; have HI := HI0.below hB; clear HI0; go_enter Tryz.func102, Tryz.ntmps102; go_wp2_with fail; refine (rform_any op _).mono ?_; rintro e w2 ⟨rfl, rfl⟩; rw [hf]
 by_cases hy : y = 0
 · subst hy
   by_cases hn : n = 0
   · subst hn
     by_cases hbl : bl = 0
     · subst hbl
       by_cases hel : el = 0
       · subst hel; have hop : op ≠ 65 := fun h => form_ne (k := 5) (by decide) hf h; have qop : (op == 65) = false := (by simp [hop])
         have hv : form1 op x 0 0 ls 0 0 = (idx1 x && (idx1 0 && ls.all idx1)) := (by simp [form1, hf, idx1])
         clear hf; go_wp2_with fail; refine (rindex_any x _).mono ?_; rintro e w2 ⟨rfl, rfl⟩; cases hX : idx1 x
         · have hv2 : form1 op x 0 0 ls 0 0 = false := (by rw [hv, hX]; rfl)
           clear hv; go_wp2; go_ret; exact ⟨by rw [hv2]; rfl, hB⟩
         · go_wp2_with fail; refine (rindex_any 0 _).mono ?_; rintro e w2 ⟨rfl, rfl⟩; cases hY : idx1 0
           · have hv2 : form1 op x 0 0 ls 0 0 = false := (by first | (rw [hv, hX, hY]; rfl) | (rw [hX] at hY; cases hY))
             clear hv; go_wp2; go_ret; exact ⟨by rw [hv2]; rfl, hB⟩
           · have hv2 : form1 op x 0 0 ls 0 0 = ls.all idx1 := (by first | (rw [hv, hX, hY]; rfl) | (rw [hv, hX]; rfl))
             clear hv; go_wp2_with fail; refine (rindices_any ls a4 k4 _ HI).mono ?_; rintro e w2 ⟨rfl, rfl⟩; go_wp2; go_ret; exact ⟨by rw [hv2]; rfl, hB⟩
       · have hv : form1 op x 0 0 ls 0 el = false := (by simp [form1, hf, hel])
         have q : (0 : Int) < (el : Int) := (by omega)
         clear hf; go_wp2; go_ret; exact ⟨by rw [hv]; rfl, hB⟩
     · have hv : form1 op x 0 0 ls bl el = false := (by simp [form1, hf, hbl])
       have q : (0 : Int) < (bl : Int) := (by omega)
       clear hf; go_wp2; go_ret; exact ⟨by rw [hv]; rfl, hB⟩
   · have hv : form1 op x 0 n ls bl el = false := (by simp [form1, hf, hn])
     have q : (n != 0) = true := (by simp [hn])
     clear hf; go_wp2; go_ret; exact ⟨by rw [hv]; rfl, hB⟩
 · have hv : form1 op x y n ls bl el = false := (by simp [form1, hf, hy])
   have q : (y != 0) = true := (by simp [hy])
   clear hf; go_wp2; go_ret; exact ⟨by rw [hv]; rfl, hB⟩
theorem one_8 (op x y n : Int) (ls : List Int) (bl el : Nat) (a4 : Option Addr) (k4 : Nat) (a5 : Option Addr) (k5 : Nat) (a6 : Option Addr) (k6 : Nat) (w : World) (HI0 : IntsIn w a4 ls) (l5 : bl ≤ 9223372036854775807) (l6 : el ≤ 9223372036854775807) (hf : formV op = 8) :
 Calls Tryz.prog 102 #[.agg #[.int .i64 op, .int .i64 x, .int .i64 y, .int .i64 n, .slice a4 ls.length k4, .slice a5 bl k5, .slice a6 el k6]] w fun e w' => e = .returned (.bool (form1 op x y n ls bl el)) ∧ Below w.heap.size w w' := by
 have hB : Below w.heap.size w (w.alloc (.cells #[.int .i64 op, .int .i64 x, .int .i64 y, .int .i64 n, .slice a4 ls.length k4, .slice a5 bl k5, .slice a6 el k6] 46)) := (Below.refl _ _).alloc (Nat.le_refl _) _; have l4 := HI0.1; have HI := HI0.below hB; clear HI0; go_enter Tryz.func102, Tryz.ntmps102; go_wp2_with fail; refine (rform_any op _).mono ?_; rintro e w2 ⟨rfl, rfl⟩; rw [hf]
 by_cases hn : n = 0
 · subst hn
   by_cases hls : ls.length = 0
   · obtain rfl := List.eq_nil_of_length_eq_zero hls
     by_cases hbl : bl = 0
     · subst hbl
       by_cases hel : el = 0
       · subst hel; have hop : op ≠ 65 := fun h => form_ne (k := 8) (by decide) hf h; have qop : (op == 65) = false := (by simp [hop])
         have hv : form1 op x y 0 [] 0 0 = (idx1 x && (idx1 y && ([] : List Int).all idx1)) := (by simp [form1, hf, idx1, Bool.and_assoc])
         clear hf; go_wp2_with fail; refine (rindex_any x _).mono ?_; rintro e w2 ⟨rfl, rfl⟩; cases hX : idx1 x
         · have hv2 : form1 op x y 0 [] 0 0 = false := (by rw [hv, hX]; rfl)
           clear hv; go_wp2; go_ret; exact ⟨by rw [hv2]; rfl, hB⟩
         · go_wp2_with fail; refine (rindex_any y _).mono ?_; rintro e w2 ⟨rfl, rfl⟩; cases hY : idx1 y
           · have hv2 : form1 op x y 0 [] 0 0 = false := (by first | (rw [hv, hX, hY]; rfl) | (rw [hX] at hY; cases hY))
             clear hv; go_wp2; go_ret; exact ⟨by rw [hv2]; rfl, hB⟩
           · have hv2 : form1 op x y 0 [] 0 0 = ([] : List Int).all idx1 := (by first | (rw [hv, hX, hY]; rfl) | (rw [hv, hX]; rfl))
             clear hv; go_wp2_with fail; refine (rindices_any ([] : List Int) a4 k4 _ HI).mono ?_; rintro e w2 ⟨rfl, rfl⟩; go_wp2; go_ret; exact ⟨by rw [hv2]; rfl, hB⟩
       · have hv : form1 op x y 0 [] 0 el = false := (by simp [form1, hf, hel])
         have q : (0 : Int) < (el : Int) := (by omega)
         clear hf; go_wp2; go_ret; exact ⟨by rw [hv]; rfl, hB⟩
     · have hv : form1 op x y 0 [] bl el = false := (by simp [form1, hf, hbl])
       have q : (0 : Int) < (bl : Int) := (by omega)
       clear hf; go_wp2; go_ret; exact ⟨by rw [hv]; rfl, hB⟩
   · have hv : form1 op x y 0 ls bl el = false := (by simp [form1, hf, hls])
     have q : (0 : Int) < (ls.length : Int) := (by omega)
     clear hf; go_wp2; go_ret; exact ⟨by rw [hv]; rfl, hB⟩
 · have hv : form1 op x y n ls bl el = false := (by simp [form1, hf, hn])
   have q : (n != 0) = true := (by simp [hn])
   clear hf; go_wp2; go_ret; exact ⟨by rw [hv]; rfl, hB⟩
theorem one_9 (op x y n : Int) (ls : List Int) (bl el : Nat) (a4 : Option Addr) (k4 : Nat) (a5 : Option Addr) (k5 : Nat) (a6 : Option Addr) (k6 : Nat) (w : World) (HI0 : IntsIn w a4 ls) (l5 : bl ≤ 9223372036854775807) (l6 : el ≤ 9223372036854775807) (hf : formV op = 9) :
 Calls Tryz.prog 102 #[.agg #[.int .i64 op, .int .i64 x, .int .i64 y, .int .i64 n, .slice a4 ls.length k4, .slice a5 bl k5, .slice a6 el k6]] w fun e w' => e = .returned (.bool (form1 op x y n ls bl el)) ∧ Below w.heap.size w w' := by
 have hB : Below w.heap.size w (w.alloc (.cells #[.int .i64 op, .int .i64 x, .int .i64 y, .int .i64 n, .slice a4 ls.length k4, .slice a5 bl k5, .slice a6 el k6] 46)) := (Below.refl _ _).alloc (Nat.le_refl _) _; have l4 := HI0.1; have HI := HI0.below hB; clear HI0; go_enter Tryz.func102, Tryz.ntmps102; go_wp2_with fail; refine (rform_any op _).mono ?_; rintro e w2 ⟨rfl, rfl⟩; rw [hf]
 by_cases hx : x = 0
 · subst hx
   by_cases hy : y = 0
   · subst hy
     by_cases hls : ls.length = 0
     · obtain rfl := List.eq_nil_of_length_eq_zero hls
       by_cases hbl : bl = 0
       · subst hbl
         by_cases hel : el = 0
         · subst hel; have hop2 : op = 65 ∨ op = 66 := form_nine hf
           rcases hop2 with rfl | rfl
           · by_cases hlo : n < -2147483648
             · have hv : form1 65 0 0 n [] 0 0 = false := by have hw := wrapI32_no n (.inl hlo); simp [form1, hf, hw]
               clear hf; go_wp2; go_ret; exact ⟨by rw [hv]; rfl, hB⟩
             by_cases hhi : n > 2147483647
             · have hv : form1 65 0 0 n [] 0 0 = false := by have hw := wrapI32_no n (.inr hhi); simp [form1, hf, hw]
               clear hf; go_wp2; go_ret; exact ⟨by rw [hv]; rfl, hB⟩
             have hv : form1 65 0 0 n [] 0 0 = (idx1 0 && (idx1 0 && ([] : List Int).all idx1)) := by 
              have hw := wrapI32_yes n (by omega) (by omega); simp [form1, hf, hw, idx1]
             clear hf; go_wp2_with fail; refine (rindex_any 0 _).mono ?_; rintro e w2 ⟨rfl, rfl⟩; cases hX : idx1 0
             · have hv2 : form1 65 0 0 n [] 0 0 = false := (by rw [hv, hX]; rfl)
               clear hv; go_wp2; go_ret; exact ⟨by rw [hv2]; rfl, hB⟩
             · go_wp2_with fail; refine (rindex_any 0 _).mono ?_; rintro e w2 ⟨rfl, rfl⟩; cases hY : idx1 0
               · have hv2 : form1 65 0 0 n [] 0 0 = false := (by first | (rw [hv, hX, hY]; rfl) | (rw [hX] at hY; cases hY))
                 clear hv; go_wp2; go_ret; exact ⟨by rw [hv2]; rfl, hB⟩
               · have hv2 : form1 65 0 0 n [] 0 0 = ([] : List Int).all idx1 := (by first | (rw [hv, hX, hY]; rfl) | (rw [hv, hX]; rfl))
                 clear hv; go_wp2_with fail; refine (rindices_any ([] : List Int) a4 k4 _ HI).mono ?_; rintro e w2 ⟨rfl, rfl⟩; go_wp2; go_ret; exact ⟨by rw [hv2]; rfl, hB⟩
           · have hv : form1 66 0 0 n [] 0 0 = (idx1 0 && (idx1 0 && ([] : List Int).all idx1)) := (by simp [form1, hf, idx1])
             clear hf; go_wp2_with fail; refine (rindex_any 0 _).mono ?_; rintro e w2 ⟨rfl, rfl⟩; cases hX : idx1 0
             · have hv2 : form1 66 0 0 n [] 0 0 = false := (by rw [hv, hX]; rfl)
               clear hv; go_wp2; go_ret; exact ⟨by rw [hv2]; rfl, hB⟩
             · go_wp2_with fail; refine (rindex_any 0 _).mono ?_; rintro e w2 ⟨rfl, rfl⟩; cases hY : idx1 0
               · have hv2 : form1 66 0 0 n [] 0 0 = false := (by first | (rw [hv, hX, hY]; rfl) | (rw [hX] at hY; cases hY))
                 clear hv; go_wp2; go_ret; exact ⟨by rw [hv2]; rfl, hB⟩
               · have hv2 : form1 66 0 0 n [] 0 0 = ([] : List Int).all idx1 := (by first | (rw [hv, hX, hY]; rfl) | (rw [hv, hX]; rfl))
                 clear hv; go_wp2_with fail; refine (rindices_any ([] : List Int) a4 k4 _ HI).mono ?_; rintro e w2 ⟨rfl, rfl⟩; go_wp2; go_ret; exact ⟨by rw [hv2]; rfl, hB⟩
         · have hv : form1 op 0 0 n [] 0 el = false := (by simp [form1, hf, hel])
           have q : (0 : Int) < (el : Int) := (by omega)
           clear hf; go_wp2; go_ret; exact ⟨by rw [hv]; rfl, hB⟩
       · have hv : form1 op 0 0 n [] bl el = false := (by simp [form1, hf, hbl])
         have q : (0 : Int) < (bl : Int) := (by omega)
         clear hf; go_wp2; go_ret; exact ⟨by rw [hv]; rfl, hB⟩
     · have hv : form1 op 0 0 n ls bl el = false := (by simp [form1, hf, hls])
       have q : (0 : Int) < (ls.length : Int) := (by omega)
       clear hf; go_wp2; go_ret; exact ⟨by rw [hv]; rfl, hB⟩
   · have hv : form1 op 0 y n ls bl el = false := (by simp [form1, hf, hy])
     have q : (y != 0) = true := (by simp [hy])
     clear hf; go_wp2; go_ret; exact ⟨by rw [hv]; rfl, hB⟩
 · have hv : form1 op x y n ls bl el = false := (by simp [form1, hf, hx])
   have q : (x != 0) = true := (by simp [hx])
   clear hf; go_wp2; go_ret; exact ⟨by rw [hv]; rfl, hB⟩
theorem one_none (op x y n : Int) (ls : List Int) (bl el : Nat) (a4 : Option Addr) (k4 : Nat) (a5 : Option Addr) (k5 : Nat) (a6 : Option Addr) (k6 : Nat) (w : World) (hf : formV op ≠ 1 ∧ formV op ≠ 2 ∧ formV op ≠ 3 ∧ formV op ≠ 4 ∧ formV op ≠ 6 ∧ formV op ≠ 7 ∧ formV op ≠ 5 ∧ formV op ≠ 8 ∧ formV op ≠ 9) :
 Calls Tryz.prog 102 #[.agg #[.int .i64 op, .int .i64 x, .int .i64 y, .int .i64 n, .slice a4 ls.length k4, .slice a5 bl k5, .slice a6 el k6]] w fun e w' => e = .returned (.bool (form1 op x y n ls bl el)) ∧ Below w.heap.size w w' := by
 have hB : Below w.heap.size w (w.alloc (.cells #[.int .i64 op, .int .i64 x, .int .i64 y, .int .i64 n, .slice a4 ls.length k4, .slice a5 bl k5, .slice a6 el k6] 46)) := (Below.refl _ _).alloc (Nat.le_refl _) _; have hv := form1_no (x := x) (y := y) (n := n) (ls := ls) (bl := bl) (el := el) hf; obtain ⟨f, hfo⟩ : ∃ f, formV op = f := ⟨_, rfl⟩
 rw [hfo] at hf; obtain ⟨h1, h2, h3, h4, h6, h7, h5, h8, h9⟩ := hf; go_enter Tryz.func102, Tryz.ntmps102; go_wp2_with fail; refine (rform_any op _).mono ?_; rintro e w2 ⟨rfl, rfl⟩; rw [hfo]; clear hfo; go_wp2; go_ret; exact ⟨by rw [hv]; rfl, hB⟩
theorem one_any (op x y n : Int) (ls : List Int) (bl el : Nat) (a4 : Option Addr) (k4 : Nat) (a5 : Option Addr) (k5 : Nat) (a6 : Option Addr) (k6 : Nat) (w : World) (HI0 : IntsIn w a4 ls) (l5 : bl ≤ 9223372036854775807) (l6 : el ≤ 9223372036854775807) :
 Calls Tryz.prog 102 #[.agg #[.int .i64 op, .int .i64 x, .int .i64 y, .int .i64 n, .slice a4 ls.length k4, .slice a5 bl k5, .slice a6 el k6]] w fun e w' => e = .returned (.bool (form1 op x y n ls bl el)) ∧ Below w.heap.size w w' := by
 by_cases f1 : formV op = 1
 · exact one_1 op x y n ls bl el a4 k4 a5 k5 a6 k6 w HI0 l5 l6 f1
 by_cases f2 : formV op = 2
 · exact one_2 op x y n ls bl el a4 k4 a5 k5 a6 k6 w HI0 l5 l6 f2
 by_cases f3 : formV op = 3
 · exact one_3 op x y n ls bl el a4 k4 a5 k5 a6 k6 w HI0 l5 l6 f3
 by_cases f4 : formV op = 4
 · exact one_4 op x y n ls bl el a4 k4 a5 k5 a6 k6 w HI0 l5 l6 f4
 by_cases f6 : formV op = 6
 · exact one_6 op x y n ls bl el a4 k4 a5 k5 a6 k6 w HI0 l5 l6 f6
 by_cases f7 : formV op = 7
 · exact one_7 op x y n ls bl el a4 k4 a5 k5 a6 k6 w HI0 l5 l6 f7
 by_cases f5 : formV op = 5
 · exact one_5 op x y n ls bl el a4 k4 a5 k5 a6 k6 w HI0 l5 l6 f5
 by_cases f8 : formV op = 8
 · exact one_8 op x y n ls bl el a4 k4 a5 k5 a6 k6 w HI0 l5 l6 f8
 by_cases f9 : formV op = 9
 · exact one_9 op x y n ls bl el a4 k4 a5 k5 a6 k6 w HI0 l5 l6 f9
 exact one_none op x y n ls bl el a4 k4 a5 k5 a6 k6 w ⟨f1, f2, f3, f4, f6, f7, f5, f8, f9⟩
end Go.Proofs.YtanpjbbhhofkfaaGreatDoor
