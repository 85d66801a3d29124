/- What is cut off, plainly: a reading that ends ahead of the cut is the same, one that goes on behind it is refused. -/
import Derived.Test.YtkbfjkbokifgkaaDoorDq
namespace Go.Proofs.YtkbfjkbokifgkaaDoor
open Go.RowKit
set_option linter.unusedVariables false
set_option linter.unusedSectionVars false

/-- A reading of all, and the one of what is left behind the cut. -/
structure Cu {α : Type} (E : Nat) (x y : Got α) : Prop where
  out : ∀ v b, x = .ok (v, b) → (b ≤ E → y = .ok (v, b)) ∧ (E < b → y = .error 50)
theorem Cu.bind {α β : Type} {E : Nat} {x y : Got α} {f g : α × Nat → Got β} (h : Cu E x y) (hu : ∀ q, Ue q.2 (f q)) (k : ∀ v b, x = .ok (v, b) → b ≤ E → Cu E (f (v, b)) (g (v, b))) : Cu E (x.bind f) (y.bind g) := by
  refine ⟨fun v b e => ?_⟩
  cases hx : x with
  | error n => rw [hx] at e; cases e
  | ok q =>
    obtain ⟨v0, b0⟩ := q
    rw [hx] at e
    have e' : f (v0, b0) = .ok (v, b) := e
    have hle : b0 ≤ b := hu (v0, b0) (v, b) e'
    obtain ⟨h1, h2⟩ := h.out v0 b0 hx
    by_cases hb : b0 ≤ E
    · rw [h1 hb]
      exact (k v0 b0 hx hb).out v b e'
    · rw [h2 (by omega)]
      exact ⟨fun h => by omega, fun _ => rfl⟩
theorem Cu.ok {α : Type} {E b : Nat} {v : α} (h : b ≤ E) : Cu E (.ok (v, b)) (.ok (v, b)) := ⟨fun v' b' e => by cases e; exact ⟨fun _ => rfl, fun h' => by omega⟩⟩
theorem Cu.err {α : Type} {E : Nat} {n : Int} {y : Got α} : Cu E (.error n) y := ⟨fun v b e => by cases e⟩
theorem Cu.ite {α : Type} {E : Nat} {c : Prop} [Decidable c] {x y x' y' : Got α} (h : c → Cu E x y) (k : ¬ c → Cu E x' y') : Cu E (if c then x else x') (if c then y else y') := by
  by_cases hc : c
  · rw [if_pos hc, if_pos hc]; exact h hc
  · rw [if_neg hc, if_neg hc]; exact k hc
theorem grp_take : ∀ (K : Nat) (l : List UInt8) (n c j : Nat), grp K l = some (n, c) → (c ≤ j → grp K (l.take j) = some (n, c)) ∧ (j < c → grp K (l.take j) = none)
  | 0, l, n, c, j, h => by cases h
  | K + 1, [], n, c, j, h => by cases h
  | K + 1, b :: r, n, c, 0, h => by
    refine ⟨fun hc => ?_, fun _ => rfl⟩
    exfalso
    unfold grp at h
    split at h
    · cases h; omega
    · cases hq : grp K r with
      | none => rw [hq] at h; cases h
      | some q => rw [hq] at h; cases h; omega
  | K + 1, b :: r, n, c, j + 1, h => by
    rw [List.take_succ_cons]
    unfold grp at h ⊢
    split at h
    · rename_i hb
      cases h
      rw [if_pos hb]
      exact ⟨fun _ => rfl, fun h => by omega⟩
    · rename_i hb
      rw [if_neg hb]
      cases hq : grp K r with
      | none => rw [hq] at h; cases h
      | some q =>
        obtain ⟨n', c'⟩ := q
        rw [hq] at h
        cases h
        obtain ⟨h1, h2⟩ := grp_take K r n' c' j hq
        refine ⟨fun hc => ?_, fun hc => ?_⟩
        · rw [h1 (by omega)]; rfl
        · rw [h2 (by omega)]; rfl
section
variable {s : List UInt8} {e E K : Nat} (hE : E ≤ e) (hK : E ≤ K)
include hE hK
theorem win_cut {a : Nat} : win (s.take K) a E = (win s a e).take (E - a) := by
  unfold win
  rw [List.take_take, Nat.min_eq_left hK, ← List.drop_take, List.take_take]
  rw [Nat.min_eq_left hE]
theorem win_in {a b : Nat} (h : b ≤ E) : win (s.take K) a b = win s a b := by
  unfold win
  rw [List.take_take, Nat.min_eq_left (by omega)]
theorem cuByte {a : Nat} : Cu E (gByte s e a) (gByte (s.take K) E a) := by
  refine ⟨fun v b h => ?_⟩
  unfold gByte at h ⊢
  split at h
  · cases h
    refine ⟨fun hb => ?_, fun hb => ?_⟩
    · rw [if_pos (by omega), List.getElem?_take_of_lt (by omega)]
    · rw [if_neg (by omega)]
  · cases h
theorem cuU {a : Nat} : Cu E (gU s e a) (gU (s.take K) E a) := by
  refine ⟨fun v b h => ?_⟩
  unfold gU at h ⊢
  rw [win_cut hE hK]
  cases hg : grp 5 (win s a e) with
  | none => rw [hg] at h; cases h
  | some q =>
    obtain ⟨n, c⟩ := q
    rw [hg] at h
    dsimp only at h
    split at h
    · rename_i hn
      cases h
      have hc1 := grp_pos hg
      obtain ⟨h1, h2⟩ := grp_take 5 _ n c (E - a) hg
      refine ⟨fun hb => ?_, fun hb => ?_⟩
      · rw [h1 (by omega)]
        exact if_pos hn
      · rw [h2 (by omega)]
    · cases h
theorem cuS32 {a : Nat} : Cu E (gS32 s e a) (gS32 (s.take K) E a) := by
  refine ⟨fun v b h => ?_⟩
  unfold gS32 at h ⊢
  rw [win_cut hE hK]
  cases hg : grp 5 (win s a e) with
  | none => rw [hg] at h; cases h
  | some q =>
    obtain ⟨n, c⟩ := q
    rw [hg] at h
    dsimp only at h
    split at h
    · rename_i hn
      cases h
      have hc1 := grp_pos hg
      obtain ⟨h1, h2⟩ := grp_take 5 _ n c (E - a) hg
      refine ⟨fun hb => ?_, fun hb => ?_⟩
      · rw [h1 (by omega)]
        exact if_pos hn
      · rw [h2 (by omega)]
    · cases h
theorem cuS64 {a : Nat} : Cu E (gS64 s e a) (gS64 (s.take K) E a) := by
  refine ⟨fun v b h => ?_⟩
  unfold gS64 at h ⊢
  rw [win_cut hE hK]
  cases hg : grp 10 (win s a e) with
  | none => rw [hg] at h; cases h
  | some q =>
    obtain ⟨n, c⟩ := q
    rw [hg] at h
    dsimp only at h
    split at h
    · rename_i hn
      cases h
      have hc1 := grp_pos hg
      obtain ⟨h1, h2⟩ := grp_take 10 _ n c (E - a) hg
      refine ⟨fun hb => ?_, fun hb => ?_⟩
      · rw [h1 (by omega)]
        exact if_pos hn
      · rw [h2 (by omega)]
    · cases h
theorem cuIs {a : Nat} {b : Int} : Cu E (gIs s e a b) (gIs (s.take K) E a b) := (cuByte hE hK).bind (fun _ => .ite (.ok (Nat.le_refl _)) .error) fun v c _ hc => .ite (fun _ => .ok hc) fun _ => .err
theorem cuFlag {a : Nat} : Cu E (gFlag s e a) (gFlag (s.take K) E a) := (cuByte hE hK).bind (fun _ => .ite (.ok (Nat.le_refl _)) .error) fun v c _ hc => .ite (fun _ => .ok hc) fun _ => .err
theorem cuTyp {a : Nat} : Cu E (gTyp s e a) (gTyp (s.take K) E a) := (cuByte hE hK).bind (fun _ => .ite .error (.ite (.ok (Nat.le_refl _)) .error)) fun v c _ hc => .ite (fun _ => .err) fun _ => .ite (fun _ => .ok hc) fun _ => .err
theorem cuCount {a : Nat} : Cu E (gCount s e a) (gCount (s.take K) E a) := (cuU hE hK).bind (fun _ => .ite (.ok (Nat.le_refl _)) .error) fun v c _ hc => .ite (fun _ => .ok hc) fun _ => .err
theorem cuText {a : Nat} : Cu E (gText s e a) (gText (s.take K) E a) := by
  refine (cuU hE hK).bind (fun _ => .ite (.ok (by omega)) .error) fun v c hv hc => ⟨fun v' b' h => ?_⟩
  dsimp only at h ⊢
  have hv0 : 0 ≤ v := by
    unfold gU at hv
    split at hv
    · split at hv
      · cases hv; omega
      · cases hv
    · cases hv
  split at h
  · cases h
    refine ⟨fun hb => ?_, fun hb => ?_⟩
    · rw [if_pos (by omega), win_in hE hK hb]
    · rw [if_neg (by omega)]
  · cases h
theorem cuName {a : Nat} : Cu E (gName s e a) (gName (s.take K) E a) := (cuText hE hK).bind (fun _ => .ite (.ok (Nat.le_refl _)) .error) fun v c _ hc => .ite (fun _ => .ok hc) fun _ => .err
end
end Go.Proofs.YtkbfjkbokifgkaaDoor

namespace Go.Proofs.YtkbfjkbokifgkaaDoor
open Go.RowKit
set_option linter.unusedVariables false
set_option linter.unusedSectionVars false

theorem cuMany {α : Type} {E : Nat} {f g : Nat → Got α} (hu : ∀ a, Ue a (f a)) (h : ∀ a, a ≤ E → Cu E (f a) (g a)) : ∀ k a, a ≤ E → Cu E (gMany f k a) (gMany g k a)
  | 0, a, ha => .ok ha
  | k + 1, a, ha => (h a ha).bind (fun q => (gMany_ue hu _ _).bind fun r => .ok (Nat.le_refl _)) fun v b _ hb => (cuMany hu h k b hb).bind (fun r => .ok (Nat.le_refl _)) fun v' b' _ hb' => .ok hb'
section
variable {s : List UInt8} {e E K : Nat} (hE : E ≤ e) (hK : E ≤ K)
include hE hK
theorem cuEach {α : Type} {f g : Nat → Got α} (hu : ∀ a, Ue a (f a)) (h : ∀ a, a ≤ E → Cu E (f a) (g a)) {a : Nat} : Cu E (gEach s e a f) (gEach (s.take K) E a g) :=
  (cuCount hE hK).bind (fun q => gMany_ue hu _ _) fun v b _ hb => cuMany hu h _ _ hb
theorem cuResult {a : Nat} : Cu E (gResult s e a) (gResult (s.take K) E a) := by
  refine ⟨fun v b h => ?_⟩
  unfold gResult at h ⊢
  by_cases h64 : a < e ∧ (s[a]?.getD 0) = 64
  · rw [if_pos h64] at h
    cases h
    refine ⟨fun hb => ?_, fun hb => ?_⟩
    · rw [if_pos ⟨by omega, by rw [List.getElem?_take_of_lt (by omega)]; exact h64.2⟩]
    · rw [if_neg (fun h => by omega)]
      unfold gTyp gByte
      rw [if_neg (by omega)]
      rfl
  · rw [if_neg h64] at h
    have hT := (cuTyp hE hK).out v b h
    have hn : ¬ (a < E ∧ ((s.take K)[a]?.getD 0) = 64) := fun h' => h64 ⟨by omega, by have := h'.2; rwa [List.getElem?_take_of_lt (by omega)] at this⟩
    rw [if_neg hn]
    exact hT
theorem cuParts {rec rec' : Nat → Bool → Nat → Nat → Except Int ((Il × Bool × Nat) × Nat)} {op : Int} {depth left a : Nat} (ha : a ≤ E) (hu : ∀ d c l a, Ue a (rec d c l a)) (h : ∀ d c l b, a ≤ b → Cu E (rec d c l b) (rec' d c l b)) :
    Cu E (gParts s e rec op depth left a) (gParts (s.take K) E rec' op depth left a) := by
  unfold gParts
  refine .ite (fun _ => .ite (fun _ => (cuIs hE hK).bind (fun _ => .ok (Nat.le_refl _)) fun v b _ hb => .ok hb) fun _ => .ok ha) fun _ => .ite (fun _ => ?_) fun _ => .ite (fun _ => (cuU hE hK).bind (fun _ => .ok (Nat.le_refl _)) fun v b _ hb => .ok hb) fun _ => .ite (fun _ => ?_) fun _ =>
    .ite (fun _ => (cuU hE hK).bind (fun _ => (gIs_up s e _ _).e.bind fun _ => .ok (Nat.le_refl _)) fun v b _ hb => (cuIs hE hK).bind (fun _ => .ok (Nat.le_refl _)) fun v b _ hb => .ok hb) fun _ =>
    .ite (fun _ => (cuU hE hK).bind (fun _ => (gU_up s e _).e.bind fun _ => .ok (Nat.le_refl _)) fun v b _ hb => (cuU hE hK).bind (fun _ => .ok (Nat.le_refl _)) fun v b _ hb => .ok hb) fun _ =>
    .ite (fun _ => .ite (fun _ => (cuS32 hE hK).bind (fun _ => .ok (Nat.le_refl _)) fun v b _ hb => .ok hb) fun _ => (cuS64 hE hK).bind (fun _ => .ok (Nat.le_refl _)) fun v b _ hb => .ok hb) fun _ => .ok ha
  · exact (cuResult hE hK).bind (fun q => (hu _ _ _ _).bind fun b => .ite ((hu _ _ _ _).bind fun c => .ok (Nat.le_refl _)) (.ok (Nat.le_refl _))) fun v b hv hb => (h _ _ _ b (Nat.le_of_lt (gResult_up s e a (v, b) hv))).bind (fun b => .ite ((hu _ _ _ _).bind fun c => .ok (Nat.le_refl _)) (.ok (Nat.le_refl _))) fun w c hw hc =>
      .ite (fun _ => (h _ _ _ c (Nat.le_trans (Nat.le_of_lt (gResult_up s e a (v, b) hv)) (hu _ _ _ _ (w, c) hw))).bind (fun c => .ok (Nat.le_refl _)) fun u d _ hd => .ok hd) fun _ => .ok hc
  · exact (cuEach hE hK (fun a => (gU_up s e a).e) fun a _ => cuU hE hK).bind (fun _ => (gU_up s e _).e.bind fun _ => .ok (Nat.le_refl _)) fun v b _ hb => (cuU hE hK).bind (fun _ => .ok (Nat.le_refl _)) fun v b _ hb => .ok hb
theorem cuList : ∀ k k' d c l a, E < a + k' → Cu E (gList s e k d c l a) (gList (s.take K) E k' d c l a)
  | 0, k', d, c, l, a, h => .err
  | k + 1, 0, d, c, l, a, h => ⟨fun v b hv => ⟨fun hb => by have : a < b := gList_up s e _ _ _ _ _ (v, b) hv; omega, fun _ => rfl⟩⟩
  | k + 1, k' + 1, d, c, l, a, h => by
    rw [gList, gList]
    refine (cuByte hE hK).bind (fun q => .ite (.ok (Nat.le_refl _)) (.ite .error (.ite .error (.ite .error (.ite .error ((gParts_ue s e (fun d c l a => (gList_up s e k d c l a).e) _ _ _ _).bind fun r => (gList_up s e k _ _ _ _).e.bind fun t => .ok (Nat.le_refl _))))))) fun v b hv hb => ?_
    have hab : a < b := gByte_up s e a (v, b) hv
    refine .ite (fun _ => .ok hb) fun _ => .ite (fun _ => .err) fun _ => .ite (fun _ => .err) fun _ => .ite (fun _ => .err) fun _ => .ite (fun _ => .err) fun _ => ?_
    refine (cuParts hE hK hb (fun d c l a => (gList_up s e k d c l a).e) fun d c l b0 hb0 => cuList k k' d c l b0 (by omega)).bind (fun r => (gList_up s e k _ _ _ _).e.bind fun t => .ok (Nat.le_refl _)) fun r b2 hr hb2 => ?_
    have hbb : b ≤ b2 := gParts_ue s e (fun d c l a => (gList_up s e k d c l a).e) _ _ _ _ (r, b2) hr
    exact (cuList k k' _ _ _ b2 (by omega)).bind (fun t => .ok (Nat.le_refl _)) fun t b3 _ hb3 => .ok hb3
theorem cuLimits {a : Nat} : Cu E (gLimits s e a) (gLimits (s.take K) E a) :=
  (cuFlag hE hK).bind (fun _ => (gU_up s e _).e.bind fun _ => .ite ((gU_up s e _).e.bind fun _ => .ok (Nat.le_refl _)) (.ok (Nat.le_refl _))) fun v b _ hb => (cuU hE hK).bind (fun _ => .ite ((gU_up s e _).e.bind fun _ => .ok (Nat.le_refl _)) (.ok (Nat.le_refl _))) fun v b _ hb => .ite (fun _ => (cuU hE hK).bind (fun _ => .ok (Nat.le_refl _)) fun v b _ hb => .ok hb) fun _ => .ok hb
theorem cuConst {a : Nat} : Cu E (gConst s e a) (gConst (s.take K) E a) :=
  (cuByte hE hK).bind (fun _ => .ite .error (.ite ((gParts_ue s e (fun _ _ _ _ => .error) _ _ _ _).bind fun _ => (gIs_up s e _ _).e.bind fun _ => .ok (Nat.le_refl _)) .error)) fun v b _ hb => .ite (fun _ => .err) fun _ => .ite (fun _ => (cuParts hE hK hb (fun _ _ _ _ => .error) fun _ _ _ _ _ => .err).bind (fun _ => (gIs_up s e _ _).e.bind fun _ => .ok (Nat.le_refl _)) fun r c _ hc => (cuIs hE hK).bind (fun _ => .ok (Nat.le_refl _)) fun z d _ hd => .ok hd) fun _ => .err
end
end Go.Proofs.YtkbfjkbokifgkaaDoor

namespace Go.Proofs.YtkbfjkbokifgkaaDoor
open Go.RowKit
set_option linter.unusedVariables false
set_option linter.unusedSectionVars false

section
variable (s : List UInt8) (e : Nat)
theorem ueType (a : Nat) : Ue a (gType s e a) := (gIs_up s e _ _).e.bind fun _ => (gEach_up s e (fun a => (gTyp_up s e a).e) _).e.bind fun _ => (gEach_up s e (fun a => (gTyp_up s e a).e) _).e.bind fun _ => .ok (Nat.le_refl _)
theorem ueImport (a : Nat) : Ue a (gImport s e a) := (gName_up s e _).e.bind fun _ => (gName_up s e _).e.bind fun _ => (gIs_up s e _ _).e.bind fun _ => (gU_up s e _).e.bind fun _ => .ok (Nat.le_refl _)
theorem ueTable (a : Nat) : Ue a (gTable s e a) := (gIs_up s e _ _).e.bind fun _ => (gLimits_up s e _).e
theorem ueGlobal (a : Nat) : Ue a (gGlobal s e a) := (gTyp_up s e _).e.bind fun _ => (gFlag_up s e _).e.bind fun _ => (gConst_up s e _).e.bind fun _ => .ok (Nat.le_refl _)
theorem ueExport (a : Nat) : Ue a (gExport s e a) := (gName_up s e _).e.bind fun _ => (gByte_up s e _).e.bind fun _ => .ite ((gU_up s e _).e.bind fun _ => .ok (Nat.le_refl _)) .error
theorem ueElem (a : Nat) : Ue a (gElem s e a) := (gIs_up s e _ _).e.bind fun _ => (gConst_up s e _).e.bind fun _ => (gEach_up s e (fun a => (gU_up s e a).e) _).e.bind fun _ => .ok (Nat.le_refl _)
theorem ueData (a : Nat) : Ue a (gData s e a) := (gIs_up s e _ _).e.bind fun _ => (gConst_up s e _).e.bind fun _ => (gText_up s e _).e.bind fun _ => .ok (Nat.le_refl _)
theorem ueRuns : ∀ k l a, Ue a (gRuns s e k l a)
  | 0, l, a => .ok (Nat.le_refl _)
  | k + 1, l, a => (gU_up s e _).e.bind fun _ => .ite ((gTyp_up s e _).e.bind fun _ => ueRuns k _ _) .error
theorem ueLong' {α : Type} {f : Nat → Nat → Got α} (q : Int × Nat) : Ue q.2 ((f (min (q.2 + q.1.toNat) e) q.2).bind fun r => if r.2 = q.2 + q.1.toNat then .ok r else .error 50) := by
  intro r hr
  obtain ⟨r0, _, h2⟩ := bind_ok hr
  split at h2
  · rename_i hq
    cases h2
    omega
  · cases h2
theorem ueLong {α : Type} {f : Nat → Nat → Got α} (a : Nat) : Ue a (gLong s e a f) := (gU_up s e _).e.bind fun q => ueLong' e q
end
/-- As Cu, but what is cut may be told with another end. -/
structure Cw {α : Type} (E : Nat) (x y : Got α) : Prop where
  out : ∀ v b, x = .ok (v, b) → (b ≤ E → y = .ok (v, b)) ∧ (E < b → y = .error 50 ∨ ∃ v' b', y = .ok (v', b') ∧ b' ≠ b)
theorem Cu.w {α : Type} {E : Nat} {x y : Got α} (h : Cu E x y) : Cw E x y := ⟨fun v b e => ⟨(h.out v b e).1, fun hb => .inl ((h.out v b e).2 hb)⟩⟩
section
variable {s : List UInt8} {e E K : Nat} (hE : E ≤ e) (hK : E ≤ K)
include hE hK
theorem cuType {a : Nat} : Cu E (gType s e a) (gType (s.take K) E a) :=
  (cuIs hE hK).bind (fun _ => (gEach_up s e (fun a => (gTyp_up s e a).e) _).e.bind fun _ => (gEach_up s e (fun a => (gTyp_up s e a).e) _).e.bind fun _ => .ok (Nat.le_refl _)) fun v b _ hb =>
  (cuEach hE hK (fun a => (gTyp_up s e a).e) fun a _ => cuTyp hE hK).bind (fun _ => (gEach_up s e (fun a => (gTyp_up s e a).e) _).e.bind fun _ => .ok (Nat.le_refl _)) fun v b _ hb => (cuEach hE hK (fun a => (gTyp_up s e a).e) fun a _ => cuTyp hE hK).bind (fun _ => .ok (Nat.le_refl _)) fun v b _ hb => .ok hb
theorem cuImport {a : Nat} : Cu E (gImport s e a) (gImport (s.take K) E a) :=
  (cuName hE hK).bind (fun _ => (gName_up s e _).e.bind fun _ => (gIs_up s e _ _).e.bind fun _ => (gU_up s e _).e.bind fun _ => .ok (Nat.le_refl _)) fun v b _ hb => (cuName hE hK).bind (fun _ => (gIs_up s e _ _).e.bind fun _ => (gU_up s e _).e.bind fun _ => .ok (Nat.le_refl _)) fun v b _ hb =>
  (cuIs hE hK).bind (fun _ => (gU_up s e _).e.bind fun _ => .ok (Nat.le_refl _)) fun v b _ hb => (cuU hE hK).bind (fun _ => .ok (Nat.le_refl _)) fun v b _ hb => .ok hb
theorem cuTable {a : Nat} : Cu E (gTable s e a) (gTable (s.take K) E a) := (cuIs hE hK).bind (fun _ => (gLimits_up s e _).e) fun v b _ hb => cuLimits hE hK
theorem cuGlobal {a : Nat} : Cu E (gGlobal s e a) (gGlobal (s.take K) E a) :=
  (cuTyp hE hK).bind (fun _ => (gFlag_up s e _).e.bind fun _ => (gConst_up s e _).e.bind fun _ => .ok (Nat.le_refl _)) fun v b _ hb => (cuFlag hE hK).bind (fun _ => (gConst_up s e _).e.bind fun _ => .ok (Nat.le_refl _)) fun v b _ hb => (cuConst hE hK).bind (fun _ => .ok (Nat.le_refl _)) fun v b _ hb => .ok hb
theorem cuExport {a : Nat} : Cu E (gExport s e a) (gExport (s.take K) E a) :=
  (cuName hE hK).bind (fun _ => (gByte_up s e _).e.bind fun _ => .ite ((gU_up s e _).e.bind fun _ => .ok (Nat.le_refl _)) .error) fun v b _ hb => (cuByte hE hK).bind (fun _ => .ite ((gU_up s e _).e.bind fun _ => .ok (Nat.le_refl _)) .error) fun v b _ hb => .ite (fun _ => (cuU hE hK).bind (fun _ => .ok (Nat.le_refl _)) fun v b _ hb => .ok hb) fun _ => .err
theorem cuElem {a : Nat} : Cu E (gElem s e a) (gElem (s.take K) E a) :=
  (cuIs hE hK).bind (fun _ => (gConst_up s e _).e.bind fun _ => (gEach_up s e (fun a => (gU_up s e a).e) _).e.bind fun _ => .ok (Nat.le_refl _)) fun v b _ hb => (cuConst hE hK).bind (fun _ => (gEach_up s e (fun a => (gU_up s e a).e) _).e.bind fun _ => .ok (Nat.le_refl _)) fun v b _ hb => (cuEach hE hK (fun a => (gU_up s e a).e) fun a _ => cuU hE hK).bind (fun _ => .ok (Nat.le_refl _)) fun v b _ hb => .ok hb
theorem cuData {a : Nat} : Cu E (gData s e a) (gData (s.take K) E a) :=
  (cuIs hE hK).bind (fun _ => (gConst_up s e _).e.bind fun _ => (gText_up s e _).e.bind fun _ => .ok (Nat.le_refl _)) fun v b _ hb => (cuConst hE hK).bind (fun _ => (gText_up s e _).e.bind fun _ => .ok (Nat.le_refl _)) fun v b _ hb => (cuText hE hK).bind (fun _ => .ok (Nat.le_refl _)) fun v b _ hb => .ok hb
theorem cuRuns : ∀ k l a, a ≤ E → Cu E (gRuns s e k l a) (gRuns (s.take K) E k l a)
  | 0, l, a, ha => .ok ha
  | k + 1, l, a, ha => (cuU hE hK).bind (fun _ => .ite ((gTyp_up s e _).e.bind fun _ => ueRuns s e k _ _) .error) fun v b _ hb => .ite (fun _ => (cuTyp hE hK).bind (fun _ => ueRuns s e k _ _) fun v b _ hb => cuRuns k _ _ hb) fun _ => .err
theorem cuLong {α : Type} {f f' : Nat → Nat → Got α} {a : Nat} (h : ∀ e1 E1 a, E1 ≤ e1 → E1 ≤ K → a ≤ E1 → Cw E1 (f e1 a) (f' E1 a)) : Cu E (gLong s e a f) (gLong (s.take K) E a f') := by
  refine (cuU hE hK).bind (fun q => ueLong' e q) fun v b hv hb => ⟨fun w c hh => ?_⟩
  obtain ⟨r, h1, h2⟩ := bind_ok hh
  dsimp only at h1 h2 ⊢
  split at h2
  · rename_i hq
    cases h2
    dsimp only at hq
    have hw := (h (min (b + v.toNat) e) (min (b + v.toNat) E) b (by omega) (by omega) (by omega)).out w c h1
    refine ⟨fun hc => ?_, fun hc => ?_⟩
    · rw [hw.1 (by omega)]
      exact if_pos hq
    · rcases hw.2 (by omega) with hy | ⟨v', b', hy, hn⟩
      · rw [hy]; rfl
      · rw [hy]
        exact if_neg (by dsimp only; omega)
  · cases h2
theorem cuCode {l a : Nat} : Cu E (gCode s l e a) (gCode (s.take K) l E a) := by
  unfold gCode
  refine cuLong hE hK fun e1 E1 a h1 h2 ha => Cu.w ?_
  refine (cuCount h1 h2).bind (fun _ => (ueRuns s e1 _ _ _).bind fun _ => (gList_up s e1 _ _ _ _ _).e.bind fun _ => .ok (Nat.le_refl _)) fun v b _ hb => (cuRuns h1 h2 _ _ _ hb).bind (fun _ => (gList_up s e1 _ _ _ _ _).e.bind fun _ => .ok (Nat.le_refl _)) fun v b _ hb =>
    (cuList h1 h2 _ _ _ _ _ _ (by dsimp only; omega)).bind (fun _ => .ok (Nat.le_refl _)) fun v b _ hb => .ok hb
theorem ueCodes : ∀ ts l a, Ue a (gCodes s e ts l a)
  | [], l, a => .ok (Nat.le_refl _)
  | t :: r, l, a => (show Ue a (gCode s l e a) from ueLong s e a).bind fun _ => (ueCodes r _ _).bind fun _ => .ok (Nat.le_refl _)
theorem cuCodes : ∀ ts l a, a ≤ E → Cu E (gCodes s e ts l a) (gCodes (s.take K) E ts l a)
  | [], l, a, ha => .ok ha
  | t :: r, l, a, ha => (cuCode hE hK).bind (fun _ => (ueCodes hE hK r _ _).bind fun _ => .ok (Nat.le_refl _)) fun v b _ hb => (cuCodes r _ _ hb).bind (fun _ => .ok (Nat.le_refl _)) fun v b _ hb => .ok hb
theorem cwSection {id : Nat} {m : Md} {a : Nat} : Cw E (gSection s id m e a) (gSection (s.take K) id m E a) := by
  unfold gSection
  split
  · refine ⟨fun v b h => ?_⟩
    obtain ⟨⟨t, b0⟩, h1, h2⟩ := bind_ok h
    have hT := (cuText hE hK).out t b0 h1
    have hle : b0 ≤ e := by
      obtain ⟨⟨n, b1⟩, h3, h4⟩ := bind_ok (show (gU s e a).bind _ = _ from h1)
      dsimp only at h4
      split at h4
      · rename_i hq
        have hn0 : 0 ≤ n := by
          unfold gU at h3
          split at h3
          · split at h3
            · cases h3; omega
            · cases h3
          · cases h3
        cases h4
        omega
      · cases h4
    dsimp only at h2
    split at h2
    · rename_i hv
      cases h2
      refine ⟨fun hb => ?_, fun hb => ?_⟩
      · obtain rfl : E = e := by omega
        rw [hT.1 hle]
        exact if_pos hv
      · by_cases hb0 : b0 ≤ E
        · right
          rw [hT.1 hb0]
          exact ⟨m, E, if_pos hv, by omega⟩
        · left
          rw [hT.2 (by omega)]
          rfl
    · cases h2
  · exact ((cuEach hE hK (ueType s e) fun a _ => cuType hE hK).bind (fun _ => .ok (Nat.le_refl _)) fun v b _ hb => .ok hb).w
  · exact ((cuEach hE hK (ueImport s e) fun a _ => cuImport hE hK).bind (fun _ => .ok (Nat.le_refl _)) fun v b _ hb => .ok hb).w
  · exact ((cuEach hE hK (fun a => (gU_up s e a).e) fun a _ => cuU hE hK).bind (fun _ => .ok (Nat.le_refl _)) fun v b _ hb => .ok hb).w
  · exact ((cuEach hE hK (ueTable s e) fun a _ => cuTable hE hK).bind (fun _ => .ok (Nat.le_refl _)) fun v b _ hb => .ok hb).w
  · exact ((cuEach hE hK (fun a => (gLimits_up s e a).e) fun a _ => cuLimits hE hK).bind (fun _ => .ok (Nat.le_refl _)) fun v b _ hb => .ok hb).w
  · exact ((cuEach hE hK (ueGlobal s e) fun a _ => cuGlobal hE hK).bind (fun _ => .ok (Nat.le_refl _)) fun v b _ hb => .ok hb).w
  · exact ((cuEach hE hK (ueExport s e) fun a _ => cuExport hE hK).bind (fun _ => .ok (Nat.le_refl _)) fun v b _ hb => .ok hb).w
  · exact ((cuU hE hK).bind (fun _ => .ok (Nat.le_refl _)) fun v b _ hb => .ok hb).w
  · exact ((cuEach hE hK (ueElem s e) fun a _ => cuElem hE hK).bind (fun _ => .ok (Nat.le_refl _)) fun v b _ hb => .ok hb).w
  · exact ((cuCount hE hK).bind (fun _ => .ite ((ueCodes hE hK _ _ _).bind fun _ => .ok (Nat.le_refl _)) .error) fun v b _ hb => .ite (fun _ => (cuCodes hE hK _ _ _ hb).bind (fun _ => .ok (Nat.le_refl _)) fun v b _ hb => .ok hb) fun _ => .err).w
  · exact ((cuEach hE hK (ueData s e) fun a _ => cuData hE hK).bind (fun _ => .ok (Nat.le_refl _)) fun v b _ hb => .ok hb).w
end
end Go.Proofs.YtkbfjkbokifgkaaDoor

namespace Go.Proofs.YtkbfjkbokifgkaaDoor
open Go.RowKit
set_option linter.unusedVariables false
set_option linter.unusedSectionVars false

/-- Where sections end, as the lengths say. -/
def endsOf (s : List UInt8) : Nat → Nat → List Nat
  | 0, _ => []
  | k + 1, a => if a < s.length then match gU s s.length (a + 1) with
      | .ok (n, b) => if n ≤ (s.length : Int) - b then (b + n.toNat) :: endsOf s k (b + n.toNat) else []
      | .error _ => []
    else []
theorem byte_next {s : List UInt8} {e a : Nat} {q : Int × Nat} (h : gByte s e a = .ok q) : q.2 = a + 1 ∧ a < e := by
  unfold gByte at h
  split at h
  · rename_i hlt
    cases h
    exact ⟨rfl, hlt⟩
  · cases h
theorem is_next {s : List UInt8} {e a : Nat} {b : Int} {q : Unit × Nat} (h : gIs s e a b = .ok q) : q.2 = a + 1 := by
  obtain ⟨r, h1, h2⟩ := bind_ok (show (gByte s e a).bind _ = _ from h)
  have := byte_next h1
  split at h2
  · cases h2; exact this.1
  · cases h2
theorem head_next {s : List UInt8} : ∀ (l : List UInt8) (a : Nat) (q : Unit × Nat), gHead s l a = .ok q → q.2 = a + l.length
  | [], a, q, h => by cases h; rfl
  | b :: r, a, q, h => by
    obtain ⟨z, h1, h2⟩ := bind_ok (show (gIs s s.length a (b.toNat : Int)).bind _ = _ from h)
    have e1 := is_next h1
    have e2 := head_next r z.2 q h2
    rw [e2, e1, List.length_cons]
    omega
theorem ueHead {s : List UInt8} (l : List UInt8) (a : Nat) : Ue a (gHead s l a) := fun q h => by have := head_next l a q h; omega
theorem cuHead {s : List UInt8} {K : Nat} (hK : K ≤ s.length) : ∀ l a, a ≤ K → Cu K (gHead s l a) (gHead (s.take K) l a)
  | [], a, ha => .ok ha
  | b :: r, a, ha => by
    have hl : (s.take K).length = K := by rw [List.length_take]; omega
    have h := (cuIs (s := s) (e := s.length) (E := K) (K := K) (a := a) (b := (b.toNat : Int)) hK (Nat.le_refl _)).bind (f := fun z => gHead s r z.2) (g := fun z => gHead (s.take K) r z.2) (fun _ => ueHead _ _) fun v c _ hc => cuHead hK r c hc
    rw [gHead, gHead, hl]
    exact h
theorem gU_pos {s : List UInt8} {e a : Nat} {q : Int × Nat} (h : gU s e a = .ok q) : 0 ≤ q.1 := by
  unfold gU at h
  split at h
  · split at h
    · cases h; exact Int.natCast_nonneg _
    · cases h
  · cases h
theorem long_parts {α : Type} {s : List UInt8} {e a : Nat} {f : Nat → Nat → Got α} {r : α × Nat} (h : gLong s e a f = .ok r) : ∃ n b, gU s e a = .ok (n, b) ∧ r.2 = b + n.toNat := by
  obtain ⟨q, h1, h2⟩ := bind_ok h
  obtain ⟨r0, _, h3⟩ := bind_ok h2
  split at h3
  · rename_i hq
    cases h3
    exact ⟨q.1, q.2, h1, hq⟩
  · cases h3
theorem cut_sections {s : List UInt8} {K : Nat} (hK : K < s.length) : ∀ k k' lt cd m a m1, gSections s k lt cd m a = .ok m1 → a ≤ K → K < a + k' →
    gSections (s.take K) k' lt cd m a = .error 50 ∨ ((∃ m2, gSections (s.take K) k' lt cd m a = .ok m2) ∧ (K = a ∨ K ∈ endsOf s k a))
  | 0, k', lt, cd, m, a, m1, h, ha, hk => by cases h
  | k + 1, 0, lt, cd, m, a, m1, h, ha, hk => by omega
  | k + 1, k' + 1, lt, cd, m, a, m1, h, ha, hk => by
    have hl : (s.take K).length = K := by rw [List.length_take]; omega
    rw [gSections, if_pos (by omega)] at h
    rw [gSections, hl]
    by_cases haK : a = K
    · subst haK
      rw [if_neg (by omega)]
      by_cases hc : cd = true ∨ m.funcs = []
      · rw [if_pos hc]
        exact .inr ⟨⟨m, rfl⟩, .inl rfl⟩
      · rw [if_neg hc]
        exact .inl rfl
    · rw [if_pos (by omega)]
      obtain ⟨⟨b, a1⟩, hb, h2⟩ := bind_ok h
      have hn := byte_next hb
      dsimp only at hn h2
      obtain ⟨rfl, _⟩ := hn
      have hB := ((cuByte (s := s) (e := s.length) (E := K) (K := K) (a := a) (by omega) (Nat.le_refl _)).out _ _ hb).1 (by omega)
      rw [hB]
      show (if b < 12 ∧ (b = 0 ∨ (lt : Int) < b) then _ else _) = _ ∨ ((∃ m2, (if b < 12 ∧ (b = 0 ∨ (lt : Int) < b) then _ else _) = _) ∧ _)
      split at h2
      · rename_i hq
        rw [if_pos hq]
        obtain ⟨⟨m', c⟩, hg, h3⟩ := bind_ok h2
        obtain ⟨n, b2, hU, hc⟩ := long_parts hg
        dsimp only at hc h3 ⊢
        have hC := (cuLong (s := s) (e := s.length) (E := K) (K := K) (a := a + 1) (f := gSection s b.toNat m) (f' := gSection (s.take K) b.toNat m) (by omega) (Nat.le_refl _) fun e1 E1 a0 h1 h2 _ => cwSection h1 h2).out m' c hg
        have hcl : c ≤ s.length := by
          by_cases hcl : c ≤ s.length
          · exact hcl
          · have hC2 := (cuLong (s := s) (e := s.length) (E := s.length) (K := s.length) (a := a + 1) (f := gSection s b.toNat m) (f' := gSection (s.take s.length) b.toNat m) (Nat.le_refl _) (Nat.le_refl _) fun e1 E1 a0 h1 h2 _ => cwSection h1 h2).out m' c hg
            have := hC2.2 (by omega)
            rw [List.take_length, hg] at this
            cases this
        have h0 := gU_pos hU
        dsimp only at h0
        have hup : a + 1 < c := by
          have : a + 1 < b2 := gU_up s s.length (a + 1) (n, b2) hU
          omega
        have hE : endsOf s (k + 1) a = c :: endsOf s k c := by
          rw [endsOf, if_pos (by omega), hU]
          show (if n ≤ (s.length : Int) - b2 then _ else _) = _
          rw [if_pos (by omega), hc]
        by_cases hcK : c ≤ K
        · rw [hC.1 hcK]
          show gSections (s.take K) k' _ _ m' c = _ ∨ ((∃ m2, gSections (s.take K) k' _ _ m' c = _) ∧ _)
          rcases cut_sections hK k k' _ _ m' c m1 h3 hcK (by omega) with h4 | ⟨h4, h5⟩
          · exact .inl h4
          · refine .inr ⟨h4, .inr ?_⟩
            rw [hE]
            rcases h5 with rfl | h5
            · exact List.mem_cons_self ..
            · exact List.mem_cons_of_mem _ h5
        · rw [hC.2 (by omega)]
          exact .inl rfl
      · cases h2
theorem cut_module {s : List UInt8} {K : Nat} {m : Md} (hm : gModule s = .ok m) (hK : K < s.length) : gModule (s.take K) = .error 50 ∨ ((∃ m2, gModule (s.take K) = .ok m2) ∧ (K = 8 ∨ K ∈ endsOf s (s.length + 1) 8)) := by
  have hl : (s.take K).length = K := by rw [List.length_take]; omega
  unfold gModule at hm ⊢
  split at hm
  · cases hm
  · rename_i hs
    rw [if_neg (by rw [hl]; omega), hl]
    obtain ⟨⟨u, b⟩, h1, h2⟩ := bind_ok hm
    have hb := head_next _ _ _ h1
    have hb8 : b = 8 := hb
    subst hb8
    have hC := (cuHead (s := s) (K := K) (by omega) _ 0 (Nat.zero_le _)).out u 8 h1
    by_cases h8 : 8 ≤ K
    · rw [hC.1 h8]
      exact cut_sections hK _ _ _ _ _ 8 m h2 h8 (by omega)
    · rw [hC.2 (by omega)]
      exact .inl rfl
end Go.Proofs.YtkbfjkbokifgkaaDoor
