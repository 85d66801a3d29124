/- Lists of instructions one behind the other, plainly. -/
import Derived.Test.YtanpjbbhhofkfaaDoorBp
import Derived.Test.YtanpjbbhhofkfaaDoorWa
namespace Go.Proofs.YtanpjbbhhofkfaaDoor
open Go.RowKit
set_option linter.unusedVariables false
set_option linter.unusedSimpArgs false

def Il.app : Il → Il → Il
  | .nil, r => r
  | .cons op x y n ls b e rest, r => .cons op x y n ls b e (rest.app r)
theorem app_len : ∀ a b : Il, (a.app b).len = a.len + b.len
  | .nil, b => by simp [Il.app, Il.len]
  | .cons op x y n ls bo e rest, b => by
    simp only [Il.app, Il.len, app_len rest b]
    omega
theorem app_xl : ∀ a b : Il, xl (a.app b) = xl a ++ xl b
  | .nil, b => by simp [Il.app, xl]
  | .cons op x y n ls bo e rest, b => by
    simp only [Il.app, xl, app_xl rest b, List.append_assoc]
theorem app_nOk : ∀ {a b : Il}, nOk a → nOk b → nOk (a.app b)
  | .nil, b, _, h => h
  | .cons op x y n ls bo e rest, b, h, k => ⟨h.1, h.2.1, h.2.2.1, app_nOk h.2.2.2 k⟩
theorem app_lab : ∀ a b : Il, lab (a.app b) = (lab a && lab b)
  | .nil, b => by simp [Il.app, lab]
  | .cons op x y n ls bo e rest, b => by
    simp only [Il.app, lab, app_lab rest b, Bool.and_assoc]
theorem app_flat : ∀ (a b : Il) (d : Int), flatR (a.app b) d = (flatR a d && flatR b d)
  | .nil, b, d => by simp [Il.app, flatR]
  | .cons op x y n ls bo e rest, b, d => by
    simp only [Il.app, flatR, app_flat rest b, Bool.and_assoc]
theorem app_form : ∀ a b : Il, formB (a.app b) = (formB a && formB b)
  | .nil, b => by simp [Il.app, formB]
  | .cons op x y n ls bo e rest, b => by
    simp only [Il.app, formB, app_form rest b, Bool.and_assoc]
theorem app_wt : ∀ a b : Il, wt (a.app b) = wt a + wt b
  | .nil, b => by simp [Il.app, wt]
  | .cons op x y n ls bo e rest, b => by
    simp only [Il.app, wt, app_wt rest b]
    omega
/-- No more are counted than weighed. -/
theorem cnt_wt : ∀ (l : Il) (left : Int), (wt l : Int) ≤ left → left - wt l ≤ cnt l left
  | .nil, left, h => by simp [cnt, wt]
  | .cons op x y n ls body els rest, left, h => by
    simp only [wt] at h
    have h1 := cnt_wt body (left - 1) (by omega)
    unfold cnt
    simp only
    rw [if_pos (show 0 ≤ left - 1 by omega)]
    generalize cnt body (left - 1) = x1 at h1 ⊢
    have h2 := cnt_wt els x1 (by omega)
    rw [if_pos (show 0 ≤ x1 by omega)]
    generalize cnt els x1 = x2 at h2 ⊢
    have h3 := cnt_wt rest x2 (by omega)
    rw [if_neg (show ¬ x2 < 0 by omega)]
    simp only [wt]
    omega
def okL (l : Il) : Bool := lab l && (flatR l 0 && formB l)
theorem app_ok (a b : Il) : okL (a.app b) = (okL a && okL b) := by
  unfold okL
  rw [app_lab, app_flat, app_form]
  cases lab a <;> cases lab b <;> cases flatR a 0 <;> cases flatR b 0 <;> cases formB a <;> cases formB b <;> rfl
theorem check_mB {l : Il} (h : wt l ≤ 65536) : checkV (mB l) = 0 ↔ okL l = true := by
  have hc := cnt_wt l 65536 (by omega)
  have hcf : cntF (mB l).funcs 65536 = cnt l 65536 := by
    unfold mB cntF
    simp only
    rw [if_neg (by omega)]
    rfl
  have hd : decide (65536 - cntF (mB l).funcs 65536 ≤ 65536) = true := decide_eq_true (by rw [hcf]; omega)
  have hf : fewB (mB l) = lab l := by
    unfold fewB few0 few1 few2 few3 few4
    rw [hd]
    simp [mB, lens, le4, dataFit, few5, funFew]
  have hm : flatM (mB l) = flatR l 0 := by
    unfold flatM
    simp [mB, flatB]
  have hs : shapedB (mB l) = formB l := by
    unfold shapedB sh1 sh2 sh3 sh4 sh5 sh6 sh7 sh8 sh9
    simp [mB, funS, idx1]
  unfold checkV okL
  rw [hf, hm, hs]
  cases lab l <;> cases flatR l 0 <;> cases formB l <;> simp
theorem uB_5 {n : Int} (h : idx1 n = true) : (uB n).length ≤ 5 := by
  unfold idx1 at h
  rw [Bool.and_eq_true, decide_eq_true_eq, decide_eq_true_eq] at h
  unfold uB
  refine lebU_len 4 _ ?_
  have : (128 ^ (4 + 1) : Nat) = 34359738368 := by decide
  omega
theorem flat_5 : ∀ {l : List Int}, l.all idx1 = true → ((l.map uB).flatten).length ≤ 5 * l.length
  | [], _ => by simp
  | n :: r, h => by
    rw [List.all_cons, Bool.and_eq_true] at h
    have h1 := uB_5 h.1
    have h2 := flat_5 h.2
    rw [List.map_cons, List.flatten_cons, List.length_append, List.length_cons]
    omega
theorem len_xl : ∀ {l : Il}, l.len = 0 → xl l = []
  | .nil, _ => rfl
  | .cons .., h => by simp [Il.len] at h
/-- What may be written is not long. -/
theorem xl_wt : ∀ l : Il, nOk l → formB l = true → (xl l).length ≤ 61 * wt l
  | .nil, _, _ => by simp [xl]
  | .cons op x y n ls body els rest, ok, hf => by
    unfold formB at hf
    simp only [Bool.and_eq_true] at hf
    obtain ⟨f1, f2, f3, f4⟩ := hf
    have hb := xl_wt body ok.2.1 f2
    have he := xl_wt els ok.2.2.1 f3
    have hr := xl_wt rest ok.2.2.2 f4
    have hs := lebS_ten ok.1.1 ok.1.2
    have ht : (xTail (formV op) op x y n ls els.len (xl body) (xl els)).length ≤ 60 + 61 * (ls.length / 10) + 61 * wt body + 61 * wt els := by
      unfold form1 at f1
      unfold xTail
      have ux := uB_len x
      have uy := uB_len y
      rcases formV_cases op with h | h | h | h | h | h | h | h | h | h | h <;> rw [h] at f1 ⊢ <;> simp only [Int.reduceEq, if_true, if_false, or_true, true_or, or_false, false_or, or_self, reduceIte] at f1 ⊢
      all_goals first
        | omega
        | (exfalso; cases f1; done)
        | (simp only [List.length_append, List.length_cons, List.length_nil]; omega)
        | ((repeat' split) <;> simp only [List.length_append, List.length_cons, List.length_nil] <;> omega)
        | (rw [Bool.and_eq_true, Bool.and_eq_true] at f1
           have h5 := uB_5 f1.1
           have h6 := flat_5 f1.2.1
           have h7 := uB_len ls.length
           simp only [numsC, List.flatten_cons, List.length_append]
           omega)
    simp only [xl, wt, List.length_append, List.length_cons, List.length_nil]
    omega
theorem bE_ok {l : Il} (ok : nOk l) (h : wt l ≤ 3500) : (bE l = 0 ↔ okL l = true) ∧ (okL l = true → bB l = xEx l) ∧ (bE l = 0 ∨ bB l = []) := by
  have hc := check_mB (l := l) (by omega)
  have hlen : okL l = true → (xEx l).length ≤ 262144 := fun h2 => by
    unfold okL at h2
    simp only [Bool.and_eq_true] at h2
    have := xl_wt l ok h2.2.2
    unfold xEx
    rw [List.length_append, List.length_cons, List.length_nil]
    omega
  by_cases h2 : okL l = true
  · have h3 := body_ok (hc.2 h2) (hlen h2)
    exact ⟨⟨fun _ => h2, fun _ => h3.1⟩, fun _ => h3.2, .inl h3.1⟩
  · have h3 : ¬ checkV (mB l) = 0 := fun e => h2 (hc.1 e)
    have h4 := body_not rfl h3
    exact ⟨⟨fun e => absurd (h4.1.symm.trans e) h3, fun e => absurd e h2⟩, fun e => absurd e h2, .inr h4.2⟩
/-- What EncodeJoins asks. -/
theorem joins_law {a b : Il} (oka : nOk a) (okb : nOk b) (ha : wt a ≤ 1500) (hb : wt b ≤ 1500) :
    ((bE a = 0 ∧ bE b = 0) → bE (a.app b) = 0 ∧ 0 < (bB a).length ∧ bB (a.app b) = (bB a).take ((bB a).length - 1) ++ bB b) ∧
    (¬ (bE a = 0 ∧ bE b = 0) → ¬ bE (a.app b) = 0 ∧ bB (a.app b) = []) := by
  obtain ⟨a1, a2, a3⟩ := bE_ok oka (by omega : wt a ≤ 3500)
  obtain ⟨b1', b2, b3⟩ := bE_ok okb (by omega : wt b ≤ 3500)
  obtain ⟨c1, c2, c3⟩ := bE_ok (app_nOk oka okb) (by rw [app_wt]; omega : wt (a.app b) ≤ 3500)
  rw [app_ok, Bool.and_eq_true, ← a1, ← b1'] at c1 c2
  constructor
  · intro h
    refine ⟨c1.2 h, ?_, ?_⟩
    · rw [a2 (a1.1 h.1)]
      simp [xEx]
    · rw [c2 h, a2 (a1.1 h.1), b2 (b1'.1 h.2)]
      unfold xEx
      rw [app_xl]
      simp
  · intro h
    have h2 : ¬ bE (a.app b) = 0 := fun e => h (c1.1 e)
    exact ⟨h2, c3.resolve_left h2⟩
end Go.Proofs.YtanpjbbhhofkfaaDoor
