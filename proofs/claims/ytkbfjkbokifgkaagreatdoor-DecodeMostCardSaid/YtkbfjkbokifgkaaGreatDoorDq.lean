/- What is read goes on, and stays ahead of the end. -/
import Derived.Test.YtkbfjkbokifgkaaGreatDoorRp
import Derived.Test.YtkbfjkbokifgkaaGreatDoorLe
namespace Go.Proofs.YtkbfjkbokifgkaaGreatDoor
open Go.RowKit
set_option linter.unusedVariables false

/-- It ends behind a place; not ahead of it. -/
def Up {α : Type} (a : Nat) (x : Except Int (α × Nat)) : Prop := Tells (fun q => a < q.2) x
def Ue {α : Type} (a : Nat) (x : Except Int (α × Nat)) : Prop := Tells (fun q => a ≤ q.2) x
theorem Up.e {α : Type} {a : Nat} {x : Except Int (α × Nat)} (h : Up a x) : Ue a x := fun r hr => Nat.le_of_lt (h r hr)
theorem Up.bind {α β : Type} {a : Nat} {x : Except Int (α × Nat)} {f : α × Nat → Except Int (β × Nat)} (h : Up a x) (k : ∀ q, Ue q.2 (f q)) : Up a (x.bind f) := fun r hr => by
  obtain ⟨q, h1, h2⟩ := bind_ok hr
  exact Nat.lt_of_lt_of_le (h q h1) (k q r h2)
theorem Ue.bind {α β : Type} {a : Nat} {x : Except Int (α × Nat)} {f : α × Nat → Except Int (β × Nat)} (h : Ue a x) (k : ∀ q, Ue q.2 (f q)) : Ue a (x.bind f) := fun r hr => by
  obtain ⟨q, h1, h2⟩ := bind_ok hr
  exact Nat.le_trans (h q h1) (k q r h2)
theorem Ue.ok {α : Type} {a b : Nat} {v : α} (h : a ≤ b) : Ue a (.ok (v, b)) := fun r hr => by cases hr; exact h
theorem Up.ok {α : Type} {a b : Nat} {v : α} (h : a < b) : Up a (.ok (v, b)) := fun r hr => by cases hr; exact h
theorem Ue.error {α : Type} {a : Nat} {n : Int} : Ue (α := α) a (.error n) := fun r hr => by cases hr
theorem Up.error {α : Type} {a : Nat} {n : Int} : Up (α := α) a (.error n) := fun r hr => by cases hr
theorem Ue.ite {α : Type} {a : Nat} {c : Prop} [Decidable c] {x y : Except Int (α × Nat)} (h : Ue a x) (k : Ue a y) : Ue a (if c then x else y) := by split <;> assumption
theorem Up.ite {α : Type} {a : Nat} {c : Prop} [Decidable c] {x y : Except Int (α × Nat)} (h : Up a x) (k : Up a y) : Up a (if c then x else y) := by split <;> assumption
variable (s : List UInt8) (e : Nat)
theorem gByte_up (a : Nat) : Up a (gByte s e a) := by
  unfold gByte
  exact .ite (.ok (Nat.lt_succ_self a)) .error
theorem gU_up (a : Nat) : Up a (gU s e a) := by
  unfold gU
  cases h : grp 5 (win s a e) with
  | none => exact .error
  | some q =>
    have := grp_pos h
    exact .ite (.ok (by omega)) .error
theorem gS32_up (a : Nat) : Up a (gS32 s e a) := by
  unfold gS32
  cases h : grp 5 (win s a e) with
  | none => exact .error
  | some q =>
    have := grp_pos h
    exact .ite (.ok (by omega)) .error
theorem gS64_up (a : Nat) : Up a (gS64 s e a) := by
  unfold gS64
  cases h : grp 10 (win s a e) with
  | none => exact .error
  | some q =>
    have := grp_pos h
    exact .ite (.ok (by omega)) .error
theorem gIs_up (a : Nat) (b : Int) : Up a (gIs s e a b) := (gByte_up s e a).bind fun _ => .ite (.ok (Nat.le_refl _)) .error
theorem gFlag_up (a : Nat) : Up a (gFlag s e a) := (gByte_up s e a).bind fun _ => .ite (.ok (Nat.le_refl _)) .error
theorem gTyp_up (a : Nat) : Up a (gTyp s e a) := (gByte_up s e a).bind fun _ => .ite .error (.ite (.ok (Nat.le_refl _)) .error)
theorem gCount_up (a : Nat) : Up a (gCount s e a) := (gU_up s e a).bind fun _ => .ite (.ok (Nat.le_refl _)) .error
theorem gText_up (a : Nat) : Up a (gText s e a) := (gU_up s e a).bind fun _ => .ite (.ok (by omega)) .error
theorem gName_up (a : Nat) : Up a (gName s e a) := (gText_up s e a).bind fun _ => .ite (.ok (Nat.le_refl _)) .error
theorem gMany_ue {α : Type} {f : Nat → Got α} (h : ∀ a, Ue a (f a)) : ∀ k a, Ue a (gMany f k a)
  | 0, a => .ok (Nat.le_refl _)
  | k + 1, a => (h a).bind fun q => (gMany_ue h k q.2).bind fun _ => .ok (Nat.le_refl _)
theorem gEach_up {α : Type} {f : Nat → Got α} (h : ∀ a, Ue a (f a)) (a : Nat) : Up a (gEach s e a f) := (gCount_up s e a).bind fun q => gMany_ue h _ _
theorem gResult_up (a : Nat) : Up a (gResult s e a) := by
  unfold gResult
  exact .ite (.ok (Nat.lt_succ_self a)) (gTyp_up s e a)
theorem gParts_ue {rec : Nat → Bool → Nat → Nat → Except Int ((Il × Bool × Nat) × Nat)} (h : ∀ d b l a, Ue a (rec d b l a)) (op : Int) (d l a : Nat) : Ue a (gParts s e rec op d l a) := by
  unfold gParts
  exact .ite (.ite ((gIs_up s e a 0).e.bind fun _ => .ok (Nat.le_refl _)) (.ok (Nat.le_refl _))) (.ite ((gResult_up s e a).e.bind fun q => (h _ _ _ _).bind fun b => .ite ((h _ _ _ _).bind fun c => .ok (Nat.le_refl _)) (.ok (Nat.le_refl _)))
    (.ite ((gU_up s e a).e.bind fun _ => .ok (Nat.le_refl _)) (.ite ((gEach_up s e (fun a => (gU_up s e a).e) a).e.bind fun l => (gU_up s e _).e.bind fun _ => .ok (Nat.le_refl _)) (.ite ((gU_up s e a).e.bind fun _ => (gIs_up s e _ 0).e.bind fun _ => .ok (Nat.le_refl _))
    (.ite ((gU_up s e a).e.bind fun _ => (gU_up s e _).e.bind fun _ => .ok (Nat.le_refl _)) (.ite (.ite ((gS32_up s e a).e.bind fun _ => .ok (Nat.le_refl _)) ((gS64_up s e a).e.bind fun _ => .ok (Nat.le_refl _))) (.ok (Nat.le_refl _))))))))
theorem gList_up : ∀ k d b l a, Up a (gList s e k d b l a)
  | 0, _, _, _, _ => .error
  | k + 1, d, b, l, a => by
    rw [gList]
    exact (gByte_up s e a).bind fun q => .ite (.ok (Nat.le_refl _)) (.ite .error (.ite .error (.ite .error (.ite .error ((gParts_ue s e (fun d b l a => (gList_up k d b l a).e) _ _ _ _).bind fun r => (gList_up k _ _ _ _).e.bind fun t => .ok (Nat.le_refl _))))))
theorem gLimits_up (a : Nat) : Up a (gLimits s e a) := (gFlag_up s e a).bind fun _ => (gU_up s e _).e.bind fun _ => .ite ((gU_up s e _).e.bind fun _ => .ok (Nat.le_refl _)) (.ok (Nat.le_refl _))
theorem gConst_up (a : Nat) : Up a (gConst s e a) := (gByte_up s e a).bind fun _ => .ite .error (.ite ((gParts_ue s e (fun _ _ _ _ => .error) _ _ _ _).bind fun _ => (gIs_up s e _ _).e.bind fun _ => .ok (Nat.le_refl _)) .error)
end Go.Proofs.YtkbfjkbokifgkaaGreatDoor
