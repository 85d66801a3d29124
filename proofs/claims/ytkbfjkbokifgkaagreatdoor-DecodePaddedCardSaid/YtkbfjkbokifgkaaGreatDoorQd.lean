/- The document's reader: what stands behind an instruction's byte. -/
import Derived.Test.YtkbfjkbokifgkaaGreatDoorUa
import Derived.Test.YtkbfjkbokifgkaaGreatDoorPl
import Derived.Test.YtkbfjkbokifgkaaGreatDoorFc
import Derived.Test.YtkbfjkbokifgkaaGreatDoorRe
import Derived.Test.YtkbfjkbokifgkaaGreatDoorVa
import Derived.Test.YtkbfjkbokifgkaaGreatDoorRows
import Derived.ProofKit
import Derived.LaidMore
import Derived.OpenShut
import Derived.MakeChecks
import Derived.LaidLaws
import Derived.Lib.LaidU8T
import Derived.Lay
import Derived.SizedLaws
import Derived.ChangeMaps5
import Derived.Test.YtkbfjkbokifgkaaGreatDoorWa
namespace Go.Proofs.YtkbfjkbokifgkaaGreatDoor
open Go.RowKit
set_option linter.unusedVariables false
set_option linter.unusedSimpArgs false
section plain
variable {s : List UInt8} {k d : Nat} {o : Bool} {r : RS} {ts : List ERec} {B : Rg Int}
end plain
end Go.Proofs.YtkbfjkbokifgkaaGreatDoor
namespace Go.Proofs.YtkbfjkbokifgkaaGreatDoor
open Go.RowKit
set_option linter.unusedVariables false
set_option linter.unusedSimpArgs false
end Go.Proofs.YtkbfjkbokifgkaaGreatDoor
namespace Go.Proofs.YtkbfjkbokifgkaaGreatDoor
open Go.ChangeShapes Go.WideShapes Go.ChangeAt Go.RowKit
set_option linter.unusedVariables false
def laidTwo : List (String × DataW Unit) := [("unicode/utf8.acceptRanges", Rows.laid_unicode_utf8_acceptRanges), ("unicode/utf8.first", Rows.laid_unicode_utf8_first)]
theorem first_data : (Rows.laid_unicode_utf8_first : DataW Unit) = Lib.firstData := by kernel_rfl
theorem accept_data : (Rows.laid_unicode_utf8_acceptRanges : DataW Unit) = Lib.acceptData := by kernel_rfl
theorem tab_of_laid {W : World} (h : laidMetH Tryz.prog laidTwo W) : TabU W := by rw [MakeChecks.laidMetH_plain _ _ _ (by kernel_rfl)] at h; have h1 := Lib.laidMet.reads h (List.mem_cons_self ..); have h2 := Lib.laidMet.reads h (List.mem_cons_of_mem _ (List.mem_cons_self ..)); rw [accept_data] at h1; rw [first_data] at h2; exact utf8Tabs_of_readsT (U8Types.of196 Tryz.laysValid) ⟨by kernel_rfl, by kernel_rfl, by kernel_rfl, by kernel_rfl, by kernel_rfl, by kernel_rfl, by kernel_rfl⟩ h2 h1
set_option maxRecDepth 100000 in
theorem door_met (os : Os) (args : Array Value) : laidMetH Tryz.prog laidTwo ((World.laidAll Tryz.prog os laidTwo).forCall (fun _ _ => 0) ⟨#[], args, []⟩).memory := by rw [MakeChecks.laidMetH_plain _ _ _ (by kernel_rfl)]; exact laidMet_laidAll _ (by kernel_rfl) (by kernel_rfl)
end Go.Proofs.YtkbfjkbokifgkaaGreatDoor
namespace Go.Proofs.YtkbfjkbokifgkaaGreatDoor
open Go.ChangeShapes Go.WideShapes Go.ChangeAt Go.RowKit Go.ChangeMaps
set_option linter.unusedVariables false
set_option linter.unusedSimpArgs false
end Go.Proofs.YtkbfjkbokifgkaaGreatDoor
namespace Go.Proofs.YtkbfjkbokifgkaaGreatDoor
open Go.RowKit
set_option linter.unusedVariables false
set_option linter.unusedSimpArgs false
def StAt (s : List UInt8) (a : Nat) (b : List UInt8) : Prop := (s.drop a).take b.length = b
theorem StAt.app {s : List UInt8} {a : Nat} {b c : List UInt8} (h : StAt s a (b ++ c)) : StAt s a b ∧ StAt s (a + b.length) c := by
 unfold StAt at h ⊢; rw [List.length_append, List.take_add] at h
 have hl : ((s.drop a).take b.length).length = b.length := by have h1 := congrArg List.length h; rw [List.length_append, List.length_append, List.length_take, List.length_take, List.length_drop, List.length_drop] at h1; rw [List.length_take, List.length_drop]; omega
 obtain ⟨h1, h2⟩ := List.append_inj h hl; refine ⟨h1, ?_⟩; rw [List.drop_drop] at h2; exact h2
theorem StAt.of {x b y : List UInt8} : StAt (x ++ b ++ y) x.length b := by unfold StAt; rw [List.append_assoc, List.drop_left, List.take_left]
theorem StAt.wnd {s : List UInt8} {a e : Nat} {b : List UInt8} (h : StAt s a b) (he : a + b.length ≤ e) : win s a e = b ++ win s (a + b.length) e := by
 unfold StAt at h; unfold win; have hd : (s.take e).drop a = (s.drop a).take (e - a) := (by rw [List.drop_take])
 have hd2 : (s.take e).drop (a + b.length) = (s.drop (a + b.length)).take (e - (a + b.length)) := (by rw [List.drop_take])
 rw [hd, hd2, show e - a = b.length + (e - (a + b.length)) by omega, List.take_add, h, List.drop_drop]
theorem StAt.byte {s : List UInt8} {a : Nat} {c : UInt8} {r : List UInt8} (h : StAt s a (c :: r)) : s[a]? = some c := by
 unfold StAt at h; have h1 : ((s.drop a).take (c :: r).length)[0]? = some c := (by rw [h]; rfl)
 rw [List.getElem?_take_of_lt (by simp), List.getElem?_drop] at h1; simpa using h1
def Rds {α : Type} (s : List UInt8) (g : Nat → Nat → Got α) (b : List UInt8) (v : α) : Prop := ∀ e a, StAt s a b → a + b.length ≤ e → g e a = .ok (v, a + b.length)
theorem Rds.bind {α β : Type} {s : List UInt8} {g : Nat → Nat → Got α} {f : α → Nat → Nat → Got β} {b c : List UInt8} {v : α} {u : β} (h : Rds s g b v) (k : Rds s (f v) c u) : Rds s (fun e a => (g e a).bind fun q => f q.1 e q.2) (b ++ c) u := by
 intro e a hs he; obtain ⟨h1, h2⟩ := hs.app; rw [List.length_append] at he; have e1 := h e a h1 (by omega); have e2 := k e (a + b.length) h2 (by omega)
 show (g e a).bind _ = _
 rw [e1]
 show f v e (a + b.length) = _
 rw [e2, List.length_append, Nat.add_assoc]
theorem Rds.pure {α : Type} (s : List UInt8) (v : α) : Rds s (fun _ a => .ok (v, a)) [] v := fun e a _ _ => rfl
theorem Rds.then {α β : Type} {s : List UInt8} {g : Nat → Nat → Got α} {f : α → β} {b : List UInt8} {v : α} (h : Rds s g b v) : Rds s (fun e a => (g e a).bind fun q => .ok (f q.1, q.2)) b (f v) := by
 intro e a hs he
 show (g e a).bind _ = _
 rw [h e a hs he]; rfl
theorem b1_toNat {n : Int} (h0 : 0 ≤ n) (h1 : n < 256) : ((b1 n).toNat : Int) = n := by unfold b1; rw [UInt8.toNat_ofNat']; omega
theorem rd_byte (s : List UInt8) (c : UInt8) : Rds s (gByte s) [c] (c.toNat : Int) := by intro e a hs he; unfold gByte; simp only [List.length_cons, List.length_nil] at he; rw [if_pos (by omega), hs.byte]; rfl
theorem rd_b1 (s : List UInt8) {n : Int} (h0 : 0 ≤ n) (h1 : n < 256) : Rds s (gByte s) [b1 n] n := by have := rd_byte s (b1 n); rw [b1_toNat h0 h1] at this; exact this
theorem rd_is (s : List UInt8) {n : Int} (h0 : 0 ≤ n) (h1 : n < 256) : Rds s (fun e a => gIs s e a n) [b1 n] () := by
 intro e a hs he
 show (gByte s e a).bind _ = _
 rw [rd_b1 s h0 h1 e a hs he]
 show (if n = n then _ else _) = _
 rw [if_pos rfl]
theorem rd_isq {s : List UInt8} {n : Int} {e a : Nat} (h0 : 0 ≤ n) (h1 : n < 256) (hs : StAt s a [b1 n]) (he : a + [b1 n].length ≤ e) : gIs s e a n = .ok ((), a + [b1 n].length) := rd_is s h0 h1 e a hs he
theorem grp_lebU : ∀ (K n : Nat) (r : List UInt8), (lebU n).length ≤ K → grp K (lebU n ++ r) = some (n, (lebU n).length)
 | 0, n, r, h => by
   by_cases hn : n < 128
   · rw [lebU_last hn] at h; simp at h
   · rw [lebU_more hn] at h; simp at h
 | K + 1, n, r, h => by
   by_cases hn : n < 128
   · rw [lebU_last hn]
     show grp (K + 1) (UInt8.ofNat n :: r) = _
     have hb : (UInt8.ofNat n).toNat = n := (by rw [UInt8.toNat_ofNat']; omega)
     rw [grp, hb, if_pos hn]; rfl
   · rw [lebU_more hn] at h ⊢; rw [List.length_cons] at h; have ih := grp_lebU K (n / 128) r (by omega)
     show grp (K + 1) (UInt8.ofNat (n % 128 + 128) :: (lebU (n / 128) ++ r)) = _
     have hb : (UInt8.ofNat (n % 128 + 128)).toNat = n % 128 + 128 := (by rw [UInt8.toNat_ofNat']; omega)
     rw [grp, hb, if_neg (by omega), ih, List.length_cons]; simp only [Option.map_some, Option.some.injEq, Prod.mk.injEq, and_true]; omega
theorem uB_nat {n : Int} (h : idx1 n = true) : ∃ k : Nat, n = k ∧ k < 4294967296 ∧ uB n = lebU k := by unfold idx1 at h; rw [Bool.and_eq_true, decide_eq_true_eq, decide_eq_true_eq] at h; refine ⟨n.toNat, by omega, by omega, ?_⟩; unfold uB; congr 1; omega
theorem rd_u (s : List UInt8) {n : Int} (h : idx1 n = true) : Rds s (gU s) (uB n) n := by
 intro e a hs he; have hl := uB_5 h; obtain ⟨k, rfl, hk, hu⟩ := uB_nat h; rw [hu] at hs he hl ⊢; unfold gU; rw [hs.wnd he, grp_lebU 5 k _ hl]
 show (if k < 4294967296 then _ else _) = _
 rw [if_pos hk]
theorem sgn_cons {m c : Nat} (hc : 1 ≤ c) {r : Nat} (hr : r < 128) : sgn (r + 128 * m) (c + 1) = (r : Int) + 128 * sgn m c := by
 unfold sgn; have e1 : 7 * (c + 1) - 1 = 7 + (7 * c - 1) := (by omega)
 have e2 : 7 * (c + 1) = 7 + 7 * c := (by omega)
 rw [e1, e2, Nat.pow_add, Nat.pow_add]; have e7 : (2 : Nat) ^ 7 = 128 := (by decide)
 rw [e7]; generalize 2 ^ (7 * c - 1) = P; generalize 2 ^ (7 * c) = Q
 by_cases h : P ≤ m
 · rw [if_pos h, if_pos (by omega)]; push_cast; omega
 · rw [if_neg h, if_neg (by omega)]; push_cast; omega
theorem grp_lebS : ∀ (K : Nat) (n : Int) (r : List UInt8), (lebS n).length ≤ K → ∃ m, grp K (lebS n ++ r) = some (m, (lebS n).length) ∧ sgn m (lebS n).length = n ∧ 1 ≤ (lebS n).length
 | 0, n, r, h => by
   by_cases hn : -64 ≤ n ∧ n ≤ 63
   · rw [lebS_last hn] at h; simp at h
   · rw [lebS_more hn] at h; simp at h
 | K + 1, n, r, h => by
   by_cases hn : -64 ≤ n ∧ n ≤ 63
   · rw [lebS_last hn]; have hb : (UInt8.ofNat (n % 128).toNat).toNat = (n % 128).toNat := (by rw [UInt8.toNat_ofNat']; omega)
     refine ⟨(n % 128).toNat, ?_, ?_, Nat.le_refl _⟩
     · show grp (K + 1) (UInt8.ofNat (n % 128).toNat :: r) = _
       rw [grp, hb, if_pos (by omega)]; rfl
     · show sgn _ 1 = _
       unfold sgn; simp only [Nat.mul_one, Nat.reduceSub, Nat.reducePow]; split <;> omega
   · rw [lebS_more hn] at h ⊢; rw [List.length_cons] at h; obtain ⟨m, h1, h2, h3⟩ := grp_lebS K (n / 128) r (by omega); have hb : (UInt8.ofNat ((n % 128).toNat + 128)).toNat = (n % 128).toNat + 128 := (by rw [UInt8.toNat_ofNat']; omega)
     refine ⟨(n % 128).toNat + 128 * m, ?_, ?_, by rw [List.length_cons]; omega⟩
     · show grp (K + 1) (UInt8.ofNat ((n % 128).toNat + 128) :: (lebS (n / 128) ++ r)) = _
       rw [grp, hb, if_neg (by omega), h1, List.length_cons]; simp only [Option.map_some, Option.some.injEq, Prod.mk.injEq, and_true]; omega
     · rw [List.length_cons, sgn_cons h3 (by omega), h2]; omega
theorem lebS_5 {n : Int} (h1 : -2147483648 ≤ n) (h2 : n ≤ 2147483647) : (lebS n).length ≤ 5 := lebS_len 4 n _ rfl (by
 have : (64 * 128 ^ 4 : Int) = 17179869184 := (by decide)
 omega) (by
 have : (64 * 128 ^ 4 : Int) = 17179869184 := (by decide)
 omega)
theorem rd_s32 (s : List UInt8) {n : Int} (h1 : -2147483648 ≤ n) (h2 : n ≤ 2147483647) : Rds s (gS32 s) (lebS n) n := by
 intro e a hs he; obtain ⟨m, g1, g2, _⟩ := grp_lebS 5 n (win s (a + (lebS n).length) e) (lebS_5 h1 h2); unfold gS32; rw [hs.wnd he, g1]
 show (if -2147483648 ≤ sgn m _ ∧ sgn m _ ≤ 2147483647 then _ else _) = _
 rw [g2, if_pos ⟨h1, h2⟩]
theorem rd_s64 (s : List UInt8) {n : Int} (h1 : -9223372036854775808 ≤ n) (h2 : n ≤ 9223372036854775807) : Rds s (gS64 s) (lebS n) n := by
 intro e a hs he; obtain ⟨m, g1, g2, _⟩ := grp_lebS 10 n (win s (a + (lebS n).length) e) (lebS_ten h1 h2); unfold gS64; rw [hs.wnd he, g1]
 show (if -9223372036854775808 ≤ sgn m _ ∧ sgn m _ ≤ 9223372036854775807 then _ else _) = _
 rw [g2, if_pos ⟨h1, h2⟩]
theorem idx_len {k : Nat} (h : k ≤ 4096) : idx1 (k : Int) = true := by unfold idx1; rw [Bool.and_eq_true, decide_eq_true_eq, decide_eq_true_eq]; omega
theorem rd_count (s : List UInt8) {k : Nat} (h : k ≤ 4096) : Rds s (gCount s) (uB (k : Int)) (k : Int) := by
 intro e a hs he; unfold gCount; rw [rd_u s (idx_len h) e a hs he]
 show (if (k : Int) ≤ 4096 then _ else _) = _
 rw [if_pos (by omega)]
theorem rd_many {α β : Type} {s : List UInt8} {f : Nat → Nat → Got α} {b : β → List UInt8} {v : β → α} : ∀ xs : List β, (∀ x ∈ xs, Rds s f (b x) (v x)) → Rds s (fun e a => gMany (f e) xs.length a) (xs.flatMap b) (xs.map v)
 | [], _ => Rds.pure s []
 | x :: xs, h => by
   rw [List.flatMap_cons, List.map_cons]; exact (h x (List.mem_cons_self ..)).bind (f := fun y e a => (gMany (f e) xs.length a).bind fun r => .ok (y :: r.1, r.2)) ((rd_many xs fun y hy => h y (List.mem_cons_of_mem _ hy)).then)
theorem rd_each {α β : Type} {s : List UInt8} {f : Nat → Nat → Got α} {b : β → List UInt8} {v : β → α} (xs : List β) (hl : xs.length ≤ 4096) (h : ∀ x ∈ xs, Rds s f (b x) (v x)) : Rds s (fun e a => gEach s e a (f e)) (uB (xs.length : Int) ++ xs.flatMap b) (xs.map v) := by
 have := (rd_count s hl).bind (f := fun (k : Int) e a => gMany (f e) k.toNat a) (u := xs.map v) (c := xs.flatMap b) (by
  show Rds s (fun e a => gMany (f e) ((xs.length : Int)).toNat a) _ _
  rw [Int.toNat_natCast]; exact rd_many xs h)
 exact this
theorem nums_flat (ls : List Int) : (numsC ls).flatten = uB (ls.length : Int) ++ ls.flatMap uB := by unfold numsC; rw [List.flatten_cons, List.flatMap_def]
theorem rd_nums (s : List UInt8) {ls : List Int} (hl : ls.length ≤ 4096) (h : ls.all idx1 = true) : Rds s (fun e a => gEach s e a (gU s e)) (numsC ls).flatten ls := by have := rd_each (f := gU s) (v := id) ls hl (fun x hx => rd_u s (List.all_eq_true.1 h x hx)); rw [List.map_id] at this; rw [nums_flat]; exact this
theorem rd_result (s : List UInt8) {x : Int} (h : res1 x = true) : Rds s (gResult s) [b1 (if x = 0 then 64 else x)] x := by
 intro e a hs he
 have hx : x = 0 ∨ x = 127 ∨ x = 126 := by unfold res1 at h; simpa [or_assoc] using h
 simp only [List.length_cons, List.length_nil] at he ⊢; unfold gResult
 rcases hx with rfl | hx
 · rw [if_pos ⟨by omega, by rw [hs.byte]; rfl⟩]
 · have hx0 : x ≠ 0 := (by omega)
   rw [if_neg hx0] at hs; have hb : s[a]?.getD 0 = b1 x := (by rw [hs.byte]; rfl)
   have hne : ¬ (a < e ∧ s[a]?.getD 0 = 64) := by rw [hb]; rintro ⟨_, hh⟩; have := congrArg UInt8.toNat hh; have h3 := b1_toNat (n := x) (by omega) (by omega); rw [this] at h3; have h4 : ((64 : UInt8).toNat : Int) = 64 := rfl; omega
   rw [if_neg hne]; unfold gTyp; have := rd_b1 s (n := x) (by omega) (by omega) e a hs (by simpa using he); rw [this]
   show (if x = 125 ∨ x = 124 then _ else if x = 127 ∨ x = 126 then _ else _) = _
   rw [if_neg (by omega), if_pos hx]; rfl
theorem form_op {op : Int} (h : formV op ≠ 0) : 0 ≤ op ∧ op < 256 ∧ op ≠ 11 ∧ op ≠ 5 := by
 unfold formV at h
 by_cases h1 : 0 ≤ op ∧ op < 256 ∧ op ≠ 11 ∧ op ≠ 5
 · exact h1
 · exfalso; apply h
   repeat rw [if_neg (by omega)]
theorem form_3 {op : Int} : formV op = 3 ↔ op = 4 := by
 constructor
 · intro h; unfold formV at h
   repeat' (split at h)
   all_goals first | assumption | omega
 · rintro rfl; rfl
theorem form_9 {op : Int} (h : formV op = 9) : op = 65 ∨ op = 66 := by
 unfold formV at h
 repeat' (split at h)
 all_goals first | assumption | omega
theorem len_nil {l : Il} (h : ((l.len : Int) == 0) = true) : l = .nil := by
 cases l with
 | nil => rfl
 | cons _ _ _ _ _ _ _ r =>
   have : (r.len + 1 : Int) = 0 := (by simpa [Il.len] using h)
   omega
theorem wrap_in {n : Int} (h : (n == wrapI32 n) = true) : -2147483648 ≤ n ∧ n ≤ 2147483647 := by
 have e : n = wrapI32 n := (by simpa using h)
 unfold wrapI32 wrap32 wrap64 at e; omega
def RL (s : List UInt8) (l : Il) : Prop := nOk l → formB l = true → lab l = true → ∀ (d left : Nat) (hv : Bool) (t : Int), (t = 11 ∨ (t = 5 ∧ hv = true)) → flatB l (d : Int) = true → 0 ≤ cnt l (left : Int) → ∀ k e a, StAt s a (xl l ++ [b1 t]) → a + (xl l ++ [b1 t]).length ≤ e → e - a < k →
 gList s e k d hv left a = .ok ((l, t == 5, (cnt l (left : Int)).toNat), a + (xl l ++ [b1 t]).length)
theorem beq0 {z : Int} (h : (z == 0) = true) : z = 0 := by simpa using h
theorem ls_nil {ls : List Int} (h : ((ls.length : Int) == 0) = true) : ls = [] := by have : (ls.length : Int) = 0 := beq0 h; exact List.length_eq_zero_iff.1 (by omega)
theorem rd_parts {s : List UInt8} {op x y n : Int} {ls : List Int} {b e' : Il} (hb : RL s b) (he' : RL s e') (ok : (-9223372036854775808 ≤ n ∧ n ≤ 9223372036854775807) ∧ nOk b ∧ nOk e') (hf : form1 op x y n ls b.len e'.len = true) (fb : formB b = true) (fe : formB e' = true) (hl : ls.length ≤ 4096) (lb : lab b = true) (le : lab e' = true)
 (d left : Nat) (fd : flatB b ((d : Int) + 1) = true) (fd' : flatB e' ((d : Int) + 1) = true) (h2 : 0 ≤ cnt b (left : Int)) (h3 : 0 ≤ cnt e' (cnt b (left : Int))) (k e a : Nat) (hs : StAt s a (xTail (formV op) op x y n ls e'.len (xl b) (xl e'))) (ha : a + (xTail (formV op) op x y n ls e'.len (xl b) (xl e')).length ≤ e) (hk : e - a < k) :
 gParts s e (gList s e k) op d left a = .ok ((⟨op, x, y, n, ls, b, e'⟩, (cnt e' (cnt b (left : Int))).toNat), a + (xTail (formV op) op x y n ls e'.len (xl b) (xl e')).length) := by
 unfold form1 at hf; unfold gParts
 by_cases f1 : formV op = 1
 · rw [if_pos f1] at hf ⊢; simp only [Bool.and_eq_true] at hf; obtain ⟨g1, g2, g3, g4, g5, g6⟩ := hf; obtain rfl := beq0 g1; obtain rfl := beq0 g2; obtain rfl := beq0 g3; obtain rfl := ls_nil g4; obtain rfl := len_nil g5; obtain rfl := len_nil g6; rw [f1] at hs ha ⊢; unfold xTail at hs ha ⊢; rw [if_pos rfl] at hs ha ⊢
   by_cases h63 : op = 63 ∨ op = 64
   · rw [if_pos h63] at hs ha ⊢; rw [if_pos h63, rd_isq (by decide) (by decide) hs ha]; rfl
   · rw [if_neg h63] at hs ha ⊢; rw [if_neg h63]; rfl
 rw [if_neg f1] at hf ⊢
 by_cases f23 : formV op = 2 ∨ formV op = 3
 · rw [if_pos f23]
   have hx : res1 x = true ∧ y = 0 ∧ n = 0 ∧ ls = [] ∧ (formV op = 2 → e' = .nil) := by
    rcases f23 with f | f
    · rw [if_pos f] at hf; simp only [Bool.and_eq_true] at hf; obtain ⟨g1, g2, g3, g4, g5⟩ := hf; exact ⟨g1, beq0 g2, beq0 g3, ls_nil g4, fun _ => len_nil g5⟩
    · rw [if_neg (by omega), if_pos f] at hf; simp only [Bool.and_eq_true] at hf; obtain ⟨g1, g2, g3, g4⟩ := hf; exact ⟨g1, beq0 g2, beq0 g3, ls_nil g4, fun h => by omega⟩
   obtain ⟨hx, rfl, rfl, rfl, hnil⟩ := hx
   have hT : xTail (formV op) op x 0 0 [] e'.len (xl b) (xl e') = [b1 (if x = 0 then 64 else x)] ++ xl b ++ (if 0 < e'.len then [b1 5] ++ xl e' else []) ++ [b1 11] := by unfold xTail; rw [if_neg f1, if_pos f23]
   rw [hT] at hs ha ⊢; have hcl : (left : Int) ≥ 0 := (by omega)
   by_cases hel : 0 < e'.len
   · rw [if_pos hel] at hs ha ⊢
     have h43 : formV op = 3 := by
      rcases f23 with f | f
      · rw [hnil f] at hel; simp [Il.len] at hel
      · exact f
     have hop4 : (op == 4) = true := (by rw [form_3.1 h43]; rfl)
     have e1 : [b1 (if x = 0 then 64 else x)] ++ xl b ++ ([b1 5] ++ xl e') ++ [b1 11] = [b1 (if x = 0 then 64 else x)] ++ ((xl b ++ [b1 5]) ++ (xl e' ++ [b1 11])) := (by simp)
     rw [e1] at hs ha ⊢; obtain ⟨s1, s2⟩ := hs.app; obtain ⟨s3, s4⟩ := s2.app; rw [List.length_append, List.length_append] at ha; simp only [List.length_cons, List.length_nil] at ha s2 s3 s4; rw [rd_result s hx e a s1 (by simp only [List.length_cons, List.length_nil]; omega), hop4]; simp only [Except.bind, List.length_cons, List.length_nil]; have r1 := hb ok.2.1 fb lb (d + 1) left true 5 (.inr ⟨rfl, rfl⟩) (by push_cast; exact fd) h2 k e (a + 1) (by simpa using s3) (by omega) (by omega); rw [r1]; simp only [beq_self_eq_true, if_true]; have hcb : ((cnt b (left : Int)).toNat : Int) = cnt b (left : Int) := (by omega)
     have r2 := he' ok.2.2 fe le (d + 1) (cnt b (left : Int)).toNat false 11 (.inl rfl) (by push_cast; exact fd') (by rw [hcb]; exact h3) k e (a + 1 + (xl b ++ [b1 5]).length) (by simpa using s4) (by omega) (by omega); rw [r2, hcb]; simp only [List.length_append, List.length_cons, List.length_nil]; congr 2 <;> omega
   · rw [if_neg hel] at hs ha ⊢
     have hen : e' = .nil := by
      cases e' with
      | nil => rfl
      | cons _ _ _ _ _ _ _ r => simp [Il.len] at hel
     subst hen; have e1 : [b1 (if x = 0 then 64 else x)] ++ xl b ++ [] ++ [b1 11] = [b1 (if x = 0 then 64 else x)] ++ (xl b ++ [b1 11]) := (by simp)
     rw [e1] at hs ha ⊢; obtain ⟨s1, s2⟩ := hs.app; rw [List.length_append] at ha; simp only [List.length_cons, List.length_nil] at ha s2; rw [rd_result s hx e a s1 (by simp only [List.length_cons, List.length_nil]; omega)]; simp only [Except.bind, List.length_cons, List.length_nil]; have r1 := hb ok.2.1 fb lb (d + 1) left (op == 4) 11 (.inl rfl) (by push_cast; exact fd) h2 k e (a + 1) (by simpa using s2) (by omega) (by omega); rw [r1]; simp only [show ((11 : Int) == 5) = false from rfl, Bool.false_eq_true, if_false]; simp only [List.length_append, List.length_cons, List.length_nil, cnt]; congr 2 <;> omega
 rw [if_neg (fun h => f23 (.inl h)), if_neg (fun h => f23 (.inr h))] at hf; rw [if_neg f23]
 by_cases f46 : formV op = 4 ∨ formV op = 6
 · rw [if_pos f46]; rw [if_pos (by omega)] at hf; simp only [Bool.and_eq_true] at hf; obtain ⟨g1, g2, g3, g4, g5, g6⟩ := hf; obtain rfl := beq0 g2; obtain rfl := beq0 g3; obtain rfl := ls_nil g4; obtain rfl := len_nil g5; obtain rfl := len_nil g6
   have hT : xTail (formV op) op x 0 0 [] Il.nil.len (xl .nil) (xl .nil) = uB x := by unfold xTail; rw [if_neg f1, if_neg f23, if_pos f46]
   rw [hT] at hs ha ⊢; rw [rd_u s g1 e a hs ha]; rfl
 rw [if_neg f46]
 by_cases f5 : formV op = 5
 · rw [if_pos f5]; rw [if_neg (by omega), if_pos f5] at hf; simp only [Bool.and_eq_true] at hf; obtain ⟨g1, g4, g2, g3, g5, g6⟩ := hf; obtain rfl := beq0 g2; obtain rfl := beq0 g3; obtain rfl := len_nil g5; obtain rfl := len_nil g6
   have hT : xTail (formV op) op x 0 0 ls Il.nil.len (xl .nil) (xl .nil) = (numsC ls).flatten ++ uB x := by unfold xTail; rw [if_neg f1, if_neg f23, if_neg f46, if_pos f5]
   rw [hT] at hs ha ⊢; obtain ⟨s1, s2⟩ := hs.app; rw [List.length_append] at ha; have rn : gEach s e a (gU s e) = .ok (ls, a + (numsC ls).flatten.length) := rd_nums s hl g4 e a s1 (by omega); rw [rn]; simp only [Except.bind]; rw [rd_u s g1 e _ s2 (by omega)]; simp only [List.length_append, cnt, Int.toNat_natCast]; congr 2 <;> omega
 rw [if_neg f5]
 by_cases f7 : formV op = 7
 · rw [if_pos f7]; rw [if_pos (by omega)] at hf; simp only [Bool.and_eq_true] at hf; obtain ⟨g1, g2, g3, g4, g5, g6⟩ := hf; obtain rfl := beq0 g2; obtain rfl := beq0 g3; obtain rfl := ls_nil g4; obtain rfl := len_nil g5; obtain rfl := len_nil g6
   have hT : xTail (formV op) op x 0 0 [] Il.nil.len (xl .nil) (xl .nil) = uB x ++ [b1 0] := by unfold xTail; rw [if_neg f1, if_neg f23, if_neg f46, if_neg f5, if_pos f7]
   rw [hT] at hs ha ⊢; obtain ⟨s1, s2⟩ := hs.app; rw [List.length_append] at ha; rw [rd_u s g1 e a s1 (by omega)]; simp only [Except.bind]; rw [rd_isq (by decide) (by decide) s2 (by omega)]; simp only [List.length_append, cnt, Int.toNat_natCast]; congr 2 <;> omega
 rw [if_neg f7]; rw [if_neg (by omega), if_neg f5] at hf
 by_cases f8 : formV op = 8
 · rw [if_pos f8] at hf ⊢; simp only [Bool.and_eq_true] at hf; obtain ⟨g1, g2, g3, g4, g5, g6⟩ := hf; obtain rfl := beq0 g3; obtain rfl := ls_nil g4; obtain rfl := len_nil g5; obtain rfl := len_nil g6
   have hT : xTail (formV op) op x y 0 [] Il.nil.len (xl .nil) (xl .nil) = uB x ++ uB y := by unfold xTail; rw [if_neg f1, if_neg f23, if_neg f46, if_neg f5, if_neg f7, if_pos f8]
   rw [hT] at hs ha ⊢; obtain ⟨s1, s2⟩ := hs.app; rw [List.length_append] at ha; rw [rd_u s g1 e a s1 (by omega)]; simp only [Except.bind]; rw [rd_u s g2 e _ s2 (by omega)]; simp only [List.length_append, cnt, Int.toNat_natCast]; congr 2 <;> omega
 rw [if_neg f8] at hf ⊢
 by_cases f9 : formV op = 9
 · rw [if_pos f9] at hf ⊢; simp only [Bool.and_eq_true] at hf; obtain ⟨g1, g2, g3, g4, g5, g6⟩ := hf; obtain rfl := beq0 g2; obtain rfl := beq0 g3; obtain rfl := ls_nil g4; obtain rfl := len_nil g5; obtain rfl := len_nil g6
   have hT : xTail (formV op) op 0 0 n [] Il.nil.len (xl .nil) (xl .nil) = lebS n := by unfold xTail; rw [if_neg f1, if_neg f23, if_neg f46, if_neg f5, if_neg f7, if_neg f8, if_pos f9]
   rw [hT] at hs ha ⊢
   rcases form_9 f9 with rfl | rfl
   · have hn := wrap_in (n := n) (by simpa using g1); rw [if_pos rfl, rd_s32 s hn.1 hn.2 e a hs ha]; rfl
   · rw [if_neg (by decide), rd_s64 s ok.1.1 ok.1.2 e a hs ha]; rfl
 · rw [if_neg f9] at hf; cases hf
theorem form1_ok {op x y n : Int} {ls : List Int} {bl el : Nat} (h : form1 op x y n ls bl el = true) : formV op ≠ 0 ∧ formV op ≠ 10 := by
 constructor
 · intro e; unfold form1 at h; rw [e] at h; simp at h
 · intro e; unfold form1 at h; rw [e] at h; simp at h
theorem rd_list (s : List UInt8) : ∀ l, RL s l
 | .nil => by
   intro _ _ _ d left hv t ht _ _ k e a hs ha hk; obtain ⟨k1, rfl⟩ : ∃ k1, k = k1 + 1 := ⟨k - 1, by omega⟩
   have hr : 0 ≤ t ∧ t < 256 := (by omega)
   show gList s e (k1 + 1) d hv left a = _
   rw [gList, rd_b1 s hr.1 hr.2 e a hs ha]
   show (if t = 11 ∨ (t = 5 ∧ hv = true) then _ else _) = _
   rw [if_pos ht]; rfl
 | .cons op x y n ls b e' r => by
   intro ok hf hlb d left hv t ht hfl hc k e a hs ha hk; obtain ⟨k1, rfl⟩ : ∃ k1, k = k1 + 1 := ⟨k - 1, by omega⟩
   unfold formB at hf; unfold lab at hlb; simp only [Bool.and_eq_true] at hf hlb; obtain ⟨f1, fb, fe, fr⟩ := hf; obtain ⟨l1, l2, l3, l4⟩ := hlb; have hl := of_decide_eq_true l1; unfold flatB at hfl; unfold flatR at hfl; simp only [Bool.and_eq_true, Bool.or_eq_true] at hfl; obtain ⟨hd, ⟨hd1, hd2⟩, ⟨hd3, hd4⟩, hd5⟩ := hfl
   have hd64 : (d : Int) ≤ 64 := by
    rcases hd with h | h
    · simp [Il.len] at h
    · exact of_decide_eq_true h
   have fd : flatB b ((d : Int) + 1) = true := by unfold flatB; rw [Bool.and_eq_true, Bool.or_eq_true]; exact ⟨hd1, hd2⟩
   have fd' : flatB e' ((d : Int) + 1) = true := by unfold flatB; rw [Bool.and_eq_true, Bool.or_eq_true]; exact ⟨hd3, hd4⟩
   have fdr : flatB r (d : Int) = true := by unfold flatB; rw [Bool.and_eq_true, Bool.or_eq_true]; exact ⟨.inr (decide_eq_true hd64), hd5⟩
   have hcnt : 1 ≤ left ∧ 0 ≤ cnt b ((left - 1 : Nat) : Int) ∧ 0 ≤ cnt e' (cnt b ((left - 1 : Nat) : Int)) ∧ cnt (.cons op x y n ls b e' r) (left : Int) = cnt r (cnt e' (cnt b ((left - 1 : Nat) : Int))) := by
    rw [cnt] at hc ⊢
    by_cases h1 : 0 ≤ (left : Int) - 1
    · have e1 : (left : Int) - 1 = ((left - 1 : Nat) : Int) := (by omega)
      rw [if_pos h1, e1] at hc ⊢
      by_cases h2 : 0 ≤ cnt b ((left - 1 : Nat) : Int)
      · simp only [if_pos h2] at hc ⊢
        by_cases h3 : cnt e' (cnt b ((left - 1 : Nat) : Int)) < 0
        · simp only [if_pos h3] at hc; omega
        · simp only [if_neg h3] at hc ⊢; exact ⟨by omega, h2, by omega, trivial⟩
      · simp only [if_neg h2] at hc; rw [if_pos (by omega)] at hc; omega
    · rw [if_neg h1] at hc; simp only [if_neg h1] at hc; rw [if_pos (by omega)] at hc; omega
   obtain ⟨hl1, hc2, hc3, hce⟩ := hcnt; rw [hce] at hc ⊢; have hform := form1_ok f1; have hop := form_op hform.1
   have e1 : xl (.cons op x y n ls b e' r) ++ [b1 t] = [b1 op] ++ (xTail (formV op) op x y n ls e'.len (xl b) (xl e') ++ (xl r ++ [b1 t])) := by rw [xl]; simp
   rw [e1] at hs ha ⊢; obtain ⟨s1, s2⟩ := hs.app; obtain ⟨s3, s4⟩ := s2.app; rw [List.length_append, List.length_append] at ha; simp only [List.length_cons, List.length_nil] at ha s2 s3 s4; rw [gList, rd_b1 s hop.1 hop.2.1 e a s1 (by simp only [List.length_cons, List.length_nil]; omega)]
   show (if op = 11 ∨ (op = 5 ∧ hv = true) then _ else if formV op = 0 then _ else if formV op = 10 then _ else if left = 0 then _ else if 64 < d then _ else _) = _
   rw [if_neg (by rintro (h | h); exact hop.2.2.1 h; exact hop.2.2.2 h.1), if_neg hform.1, if_neg hform.2, if_neg (by omega), if_neg (by omega)]; simp only [List.length_cons, List.length_nil]; have r1 := rd_parts (rd_list s b) (rd_list s e') ⟨ok.1, ok.2.1, ok.2.2.1⟩ f1 fb fe hl l2 l3 d (left - 1) fd fd' hc2 hc3 k1 e (a + 1) (by simpa using s3) (by omega) (by omega); rw [r1]; simp only [Except.bind]; have hcb : ((cnt e' (cnt b ((left - 1 : Nat) : Int))).toNat : Int) = cnt e' (cnt b ((left - 1 : Nat) : Int)) := (by omega)
   have r2 := rd_list s r ok.2.2.2 fr l4 d (cnt e' (cnt b ((left - 1 : Nat) : Int))).toNat hv t ht fdr (by rw [hcb]; exact hc) k1 e (a + 1 + (xTail (formV op) op x y n ls e'.len (xl b) (xl e')).length) (by simpa using s4) (by omega) (by omega); rw [r2, hcb]; simp only [List.length_append, List.length_cons, List.length_nil]; congr 2 <;> omega
end Go.Proofs.YtkbfjkbokifgkaaGreatDoor
