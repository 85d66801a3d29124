/- Behind an unreachable: which bodies of constants and drops are valid, plainly. -/
import Derived.Test.YtacohbllbjgdgaaDoorVw
namespace Go.Proofs.YtacohbllbjgdgaaDoor
open Go.RowKit
set_option linter.unusedVariables false
set_option linter.unusedSimpArgs false

/-- The instructions behind the unreachable, from a number on. -/
def dIl : List Bool → Nat → Il
  | [], _ => .nil
  | true :: r, i => .cons 26 0 0 0 [] .nil .nil (dIl r (i + 1))
  | false :: r, i => .cons 65 0 0 (i : Int) [] .nil .nil (dIl r (i + 1))
/-- How many values are left. -/
def dLeft : List Bool → Nat → Nat
  | [], k => k
  | true :: r, k => dLeft r (k - 1)
  | false :: r, k => dLeft r (k + 1)
def dAll (ds : List Bool) : Il := .cons 0 0 0 0 [] .nil .nil (dIl ds 0)
def dMd (rs : List Int) (ds : List Bool) : Md := mdTF [([], rs)] [(0, [], dAll ds)]
theorem dIl_form : ∀ (ds : List Bool) (i : Nat), i + ds.length ≤ 300 → formB (dIl ds i) = true
  | [], _, _ => rfl
  | true :: r, i, h => by
    have := dIl_form r (i + 1) (by simp at h; omega)
    show (form1 26 0 0 0 [] 0 0 && (true && (true && formB (dIl r (i + 1))))) = true
    rw [this]
    rfl
  | false :: r, i, h => by
    have := dIl_form r (i + 1) (by simp at h; omega)
    show (form1 65 0 0 (i : Int) [] 0 0 && (true && (true && formB (dIl r (i + 1))))) = true
    rw [this]
    have h1 : form1 65 0 0 (i : Int) [] 0 0 = ((65 : Int) == 66 || (i : Int) == wrapI32 (i : Int)) := by
      show (((65 : Int) == 66 || (i : Int) == wrapI32 (i : Int)) && (((0 : Int) == 0) && (((0 : Int) == 0) && ((((0 : Nat) : Int) == 0) && ((((0 : Nat) : Int) == 0) && (((0 : Nat) : Int) == 0)))))) = _
      simp
    rw [h1]
    have h2 : wrapI32 (i : Int) = (i : Int) := by
      have : i ≤ 300 := by simp at h; omega
      unfold wrapI32
      simp [wrap64, wrap32, IntKind.wrap, IntKind.bits, IntKind.signed]
      omega
    rw [h2]
    simp
theorem dIl_flat : ∀ (ds : List Bool) (i : Nat) (d : Int), flatR (dIl ds i) d = true
  | [], _, _ => rfl
  | true :: r, i, d => by
    show ((true && true) && ((true && true) && flatR (dIl r (i + 1)) d)) = true
    rw [dIl_flat r (i + 1) d]
    rfl
  | false :: r, i, d => by
    show ((true && true) && ((true && true) && flatR (dIl r (i + 1)) d)) = true
    rw [dIl_flat r (i + 1) d]
    rfl
theorem dIl_lab : ∀ (ds : List Bool) (i : Nat), lab (dIl ds i) = true
  | [], _ => rfl
  | true :: r, i => by
    show (true && (true && (true && lab (dIl r (i + 1))))) = true
    rw [dIl_lab r (i + 1)]
    rfl
  | false :: r, i => by
    show (true && (true && (true && lab (dIl r (i + 1))))) = true
    rw [dIl_lab r (i + 1)]
    rfl
theorem cnt_one {op x y n : Int} {ls : List Int} {r : Il} {left : Int} (h : 1 ≤ left) : cnt (.cons op x y n ls .nil .nil r) left = cnt r (left - 1) := by
  have e : cnt (.cons op x y n ls .nil .nil r) left = (if (if 0 ≤ (if 0 ≤ left - 1 then left - 1 else left - 1) then (if 0 ≤ left - 1 then left - 1 else left - 1) else (if 0 ≤ left - 1 then left - 1 else left - 1)) < 0 then -1 else cnt r (if 0 ≤ (if 0 ≤ left - 1 then left - 1 else left - 1) then (if 0 ≤ left - 1 then left - 1 else left - 1) else (if 0 ≤ left - 1 then left - 1 else left - 1))) := rfl
  rw [e, ite_self, ite_self, if_neg (by omega)]
theorem dIl_cnt : ∀ (ds : List Bool) (i : Nat) (left : Int), (ds.length : Int) ≤ left → cnt (dIl ds i) left = left - ds.length
  | [], _, left, _ => by show left = left - ((0 : Nat) : Int); omega
  | b :: r, i, left, h => by
    have hl : ((b :: r).length : Int) = (r.length : Int) + 1 := by simp
    rw [hl] at h ⊢
    have : cnt (dIl (b :: r) i) left = cnt (dIl r (i + 1)) (left - 1) := by
      cases b
      · exact cnt_one (by omega)
      · exact cnt_one (by omega)
    rw [this, dIl_cnt r (i + 1) (left - 1) (by omega)]
    omega
theorem dMd_check {rs : List Int} {ds : List Bool} (hr : rs.all typ1 = true) (hr1 : rs.length ≤ 1) (h : ds.length ≤ 200) : checkV (dMd rs ds) = 0 := by
  have hc : cnt (dAll ds) 65536 = 65535 - ds.length := by
    unfold dAll
    rw [cnt_one (by omega), dIl_cnt _ _ _ (by omega)]
    omega
  have hcF : cntF (dMd rs ds).funcs 65536 = 65535 - ds.length := by
    show (if cnt (dAll ds) 65536 < 0 then cnt (dAll ds) 65536 else cnt (dAll ds) 65536) = _
    rw [hc]
    split <;> rfl
  have a1 : fewB (dMd rs ds) = true := by
    have e1 : (lens (dMd rs ds)).all le4 = true := rfl
    have e2 : funFew (0, [], dAll ds) = true := by
      show (true && (true && (true && (true && lab (dIl ds 0))))) = true
      rw [dIl_lab]
      rfl
    have e3 : few5 (dMd rs ds) = true := by
      show (funFew (0, [], dAll ds) && true) = true
      rw [e2]
      rfl
    have e4 : few4 (dMd rs ds) = true := by
      unfold few4
      rw [hcF, e3, decide_eq_true (by omega)]
      rfl
    have e5 : typFew ([], rs) = true := by
      unfold typFew
      rw [decide_eq_true (show (((([], rs) : List Int × List Int).1.length : Nat) : Int) ≤ 4096 by simp), decide_eq_true (show (((([], rs) : List Int × List Int).2.length : Nat) : Int) ≤ 4096 by show ((rs.length : Nat) : Int) ≤ 4096; omega)]
      rfl
    unfold fewB few0 few1 few2 few3
    rw [e1, e4, show (dMd rs ds).types = [([], rs)] from rfl, List.all_cons, e5]
    rfl
  have a2 : flatM (dMd rs ds) = true := by
    show (flatB (dAll ds) 0 && true) = true
    have : flatR (dAll ds) 0 = true := by
      show ((true && true) && ((true && true) && flatR (dIl ds 0) 0)) = true
      rw [dIl_flat]
      rfl
    unfold flatB
    rw [this, decide_eq_true (show (0 : Int) ≤ 64 by decide)]
    simp
  have a3 : shapedB (dMd rs ds) = true := by
    have e1 : formB (dAll ds) = true := by
      show (form1 0 0 0 0 [] 0 0 && (true && (true && formB (dIl ds 0)))) = true
      rw [dIl_form ds 0 (by omega)]
      rfl
    have e2 : funS (0, [], dAll ds) = true := by
      unfold funS
      rw [e1]
      rfl
    have e3 : typS ([], rs) = true := by
      show (true && rs.all typ1) = true
      rw [hr]
      rfl
    unfold shapedB sh1 sh2 sh3 sh4 sh5 sh6 sh7 sh8 sh9
    rw [show (dMd rs ds).types = [([], rs)] from rfl, show (dMd rs ds).funcs = [(0, [], dAll ds)] from rfl, List.all_cons, List.all_cons, e2, e3]
    rfl
  unfold checkV
  rw [a1, a2, a3]
  rfl
theorem dIl_ty (E : Ev) (g e : List Int) : ∀ (ds : List Bool) (i k : Nat), tyL E (dIl ds i) ⟨List.replicate k 127, [⟨g, e, 0, true⟩]⟩ = .ok ⟨List.replicate (dLeft ds k) 127, [⟨g, e, 0, true⟩]⟩
  | [], _, _ => rfl
  | true :: r, i, 0 => by
    have := dIl_ty E g e r (i + 1) 0
    exact this
  | true :: r, i, k + 1 => by
    have := dIl_ty E g e r (i + 1) k
    show (tPlain E 26 ⟨(127 : Int) :: List.replicate k 127, [⟨g, e, 0, true⟩]⟩).bind _ = _
    have h1 : tPlain E 26 ⟨(127 : Int) :: List.replicate k 127, [⟨g, e, 0, true⟩]⟩ = .ok ⟨List.replicate k 127, [⟨g, e, 0, true⟩]⟩ := by
      unfold tPlain
      rw [if_neg (by decide), if_neg (by decide), if_pos rfl]
      unfold tPop
      dsimp only
      rw [if_neg (by simp), if_neg (by simp)]
      rfl
    rw [h1]
    exact this
  | false :: r, i, k => by
    have := dIl_ty E g e r (i + 1) (k + 1)
    exact this
theorem dAll_ty (E : Ev) (rs : List Int) (ds : List Bool) : tyL E (dAll ds) ⟨[], [⟨rs, rs, 0, false⟩]⟩ = .ok ⟨List.replicate (dLeft ds 0) 127, [⟨rs, rs, 0, true⟩]⟩ := dIl_ty E rs rs ds 0 0
/-- What is wrong with the body. -/
def dBad (rs : List Int) (n : Nat) : Int := if rs = [127] then (if n ≤ 1 then 0 else 60) else (if n = 0 then 0 else 60)
theorem dMd_body (ds : List Bool) (rs : List Int) (hr : rs = [] ∨ rs = [127] ∨ rs = [126]) : (bodiesGo (dMd rs ds) (dMd rs ds).funcs 0).2 = dBad rs (dLeft ds 0) := by
  have hb : bodyT (dMd rs ds) (funcT (dMd rs ds)) ([], rs) (0, [], dAll ds) = (tPopL rs ⟨List.replicate (dLeft ds 0) 127, [⟨rs, rs, 0, true⟩]⟩).bind fun s2 => if s2.st.length = 0 then .ok ⟨s2.st, []⟩ else .error 60 := by
    unfold bodyT tBlock
    show (tyL _ (dAll ds) ⟨[], [⟨rs, rs, 0, false⟩]⟩).bind _ = _
    rw [dAll_ty]
    rfl
  have hg : (bodiesGo (dMd rs ds) (dMd rs ds).funcs 0).2 = (match bodyT (dMd rs ds) (funcT (dMd rs ds)) ([], rs) (0, [], dAll ds) with | .ok _ => (0 : Int) | .error e => e) := by
    show (bodiesGo (dMd rs ds) [(0, [], dAll ds)] 0).2 = _
    unfold bodiesGo
    rw [show (funcT (dMd rs ds)).getD 0 ([], []) = (([], rs) : List Int × List Int) from rfl]
    cases bodyT (dMd rs ds) (funcT (dMd rs ds)) ([], rs) (0, [], dAll ds) <;> rfl
  rw [hg, hb]
  generalize dLeft ds 0 = n
  rcases hr with rfl | rfl | rfl
  · rcases n with _ | n
    · rfl
    · rfl
  · rcases n with _ | n
    · rfl
    · rcases n with _ | n
      · rfl
      · rfl
  · rcases n with _ | n
    · rfl
    · rfl
theorem dMd_where (ds : List Bool) (rs : List Int) (hr : rs = [] ∨ rs = [127] ∨ rs = [126]) (h : ds.length ≤ 200) : (whereV (dMd rs ds)).2 = dBad rs (dLeft ds 0) := by
  have hh : headV (dMd rs ds) = 0 := by
    unfold headV
    rw [dMd_check (by rcases hr with rfl | rfl | rfl <;> rfl) (by rcases hr with rfl | rfl | rfl <;> decide) h]
    rcases hr with rfl | rfl | rfl <;> rfl
  unfold whereV
  rw [if_pos hh]
  exact dMd_body ds rs hr
theorem dLeft_take_succ (ds : List Bool) (k : Nat) (b : Bool) : ∀ i, ds[i]? = some b → dLeft (ds.take (i + 1)) k = (if b then dLeft (ds.take i) k - 1 else dLeft (ds.take i) k + 1) := by
  have key : ∀ (l : List Bool) (k : Nat), dLeft (l ++ [b]) k = (if b then dLeft l k - 1 else dLeft l k + 1) := by
    intro l
    induction l with
    | nil => intro k; cases b <;> rfl
    | cons c r ih => intro k; cases c <;> exact ih _
  intro i hi
  rw [List.take_add_one, hi]
  exact key _ _
end Go.Proofs.YtacohbllbjgdgaaDoor
