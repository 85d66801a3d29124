/- A custom section between two others, and lengths in five bytes: what is read. Plain. -/
import Derived.Test.YtkbfjkbokifgkaaGreatDoorRz
import Derived.Test.YtkbfjkbokifgkaaGreatDoorUa
import Derived.Maps.AppendAt
import Derived.OwnWalk
import Derived.SizedLaws
import Derived.ChangeMaps5
namespace Go.Proofs.YtkbfjkbokifgkaaGreatDoor
open Go.RowKit
set_option linter.unusedVariables false
set_option linter.unusedSimpArgs false
def endsOf (s : List UInt8) : Nat → Nat → List Nat
 | 0, _ => []
 | k + 1, a => if a < s.length then match gU s s.length (a + 1) with
  | .ok (n, b) => if n ≤ (s.length : Int) - b then (b + n.toNat) :: endsOf s k (b + n.toNat) else []
  | .error _ => []
  else []
def endsC : List Ck → Nat → List Nat
 | [], _ => []
 | k :: r, a => (a + k.b.length) :: endsC r (a + k.b.length)
theorem ck_len (k : Ck) : k.b.length = 1 + (k.lb.length + k.c.length) := by unfold Ck.b; rw [List.length_append, List.length_append]; rfl
def LbOk (k : Ck) : Prop := (∀ r, grp 5 (k.lb ++ r) = some (k.c.length, k.lb.length)) ∧ k.c.length < 4294967296
theorem gU_lb {s : List UInt8} {k : Ck} {a : Nat} (h : LbOk k) (hs : StAt s a k.b) (hl : a + k.b.length ≤ s.length) : gU s s.length (a + 1) = .ok ((k.c.length : Int), a + 1 + k.lb.length) := by have hl2 := ck_len k; unfold Ck.b at hs; obtain ⟨s1, s2⟩ := hs.app; obtain ⟨s3, s4⟩ := s2.app; have s3' : StAt s (a + 1) k.lb := s3; unfold gU; rw [s3'.wnd (by omega), h.1]; simp only; rw [if_pos h.2]
theorem ends_cks {s : List UInt8} : ∀ (cks : List Ck) (a n : Nat), (∀ k ∈ cks, LbOk k) → StAt s a (cks.flatMap Ck.b) → a + (cks.flatMap Ck.b).length = s.length → cks.length < n → endsOf s n a = endsC cks a
 | [], a, n + 1, _, _, hl, _ => by
   rw [endsOf, if_neg (by simp at hl; omega)]; rfl
 | k :: r, a, n + 1, h, hs, hl, hn => by
   rw [List.flatMap_cons] at hs hl; rw [List.length_append] at hl; obtain ⟨s1, s2⟩ := hs.app; have hk := ck_len k; rw [endsOf, if_pos (by omega), gU_lb (h k List.mem_cons_self) s1 (by omega)]; simp only; rw [if_pos (by omega), Int.toNat_natCast, endsC]; have e : a + 1 + k.lb.length + k.c.length = a + k.b.length := (by omega)
   rw [e, ends_cks r (a + k.b.length) n (fun k' h' => h k' (List.mem_cons_of_mem _ h')) s2 (by omega) (by simpa using hn)]
theorem mem_endsC : ∀ (cks : List Ck) (a x : Nat), x ∈ a :: endsC cks a → ∃ p q, cks = p ++ q ∧ x = a + (p.flatMap Ck.b).length
 | [], a, x, h => by
   obtain rfl : x = a := by simpa [endsC] using h
   exact ⟨[], [], rfl, by simp⟩
 | k :: r, a, x, h => by
   rcases List.mem_cons.1 h with rfl | h
   · exact ⟨[], k :: r, rfl, by simp⟩
   · obtain ⟨p, q, rfl, rfl⟩ := mem_endsC r (a + k.b.length) x h; exact ⟨k :: p, q, rfl, by rw [List.flatMap_cons, List.length_append]; omega⟩
theorem cks_app {s : List UInt8} : ∀ (p q : List Ck) (last : Nat) (m : Md), CksOk s (p ++ q) last m ↔ CksOk s p last m ∧ CksOk s q (lastL p last) (lastM p m)
 | [], q, last, m => by simp [CksOk, lastL, lastM]
 | k :: p, q, last, m => by
   show CkOk s k last m ∧ CksOk s (p ++ q) (max last k.id) k.m ↔ (CkOk s k last m ∧ CksOk s p (max last k.id) k.m) ∧ CksOk s q (lastL p (max last k.id)) (lastM p k.m)
   rw [cks_app p q, and_assoc]
theorem lastM_app : ∀ (p q : List Ck) (m : Md), lastM (p ++ q) m = lastM q (lastM p m)
 | [], _, _ => rfl
 | k :: p, q, m => lastM_app p q k.m
theorem coded_app : ∀ (p q : List Ck) (c : Bool), codedC (p ++ q) c = codedC q (codedC p c)
 | [], _, _ => rfl
 | k :: p, q, c => coded_app p q _
theorem ck_lb {s : List UInt8} {k : Ck} {last : Nat} {m : Md} (h : CkOk s k last m) : LbOk k := ⟨h.lb, h.len⟩
theorem cks_lb {s : List UInt8} : ∀ (cks : List Ck) (last : Nat) (m : Md), CksOk s cks last m → ∀ k ∈ cks, LbOk k
 | k :: r, last, m, h, x, hx => by
   rcases List.mem_cons.1 hx with rfl | hx
   · exact ck_lb h.1
   · exact cks_lb r _ _ h.2 x hx
theorem cks_many (cks : List Ck) : cks.length ≤ (cks.flatMap Ck.b).length := by
 induction cks with
 | nil => simp
 | cons k r ih => rw [List.flatMap_cons, List.length_append, List.length_cons]; have := ck_len k; omega
structure Cks (m : Md) (cks : List Ck) : Prop where
 eq : xMd m = headB ++ cks.flatMap Ck.b
 ok : ∀ s, CksOk s cks 0 md0
 last : lastM cks md0 = m
 coded : codedC cks false = true ∨ m.funcs = []
theorem cks_md {m : Md} (hc : checkV m = 0) (n : Nm m) (hl : (xMd m).length ≤ 262144) : Cks m (cksOf m 0 (scs m)) := by
 have hb := cks_bytes m (scs m) 0; have h0 : mSt m 0 = md0 := rfl
 have hx : (xScs 0 (scs m)).length ≤ 262144 := by unfold xMd at hl; rw [List.length_append] at hl; omega
 refine ⟨by rw [hb]; rfl, fun s => ?_, ?_, cks_coded (m := m) (scs m) 0 false rfl (by decide)⟩
 · have := cks_ok (secs_ok s (cm_of hc) n) (scs m) 0 0 rfl (Nat.le_refl _) hx
   rwa [h0] at this
 · have := cks_last (secs_ok [] (cm_of hc) n) (scs m) 0 rfl (by decide)
   rwa [h0] at this
theorem ends_md {m : Md} {cks : List Ck} (h : Cks m cks) : endsOf (xMd m) ((xMd m).length + 1) 8 = endsC cks 8 := by
 have h8 : headB.length = 8 := rfl; have hm := cks_many cks; have hL : (xMd m).length = 8 + (cks.flatMap Ck.b).length := (by rw [h.eq, List.length_append, h8])
 refine ends_cks cks 8 _ (cks_lb cks 0 md0 (h.ok [])) ?_ hL.symm (by omega); rw [h.eq]; have := StAt.of (x := headB) (b := cks.flatMap Ck.b) (y := [])
 rwa [List.append_nil, h8] at this
def cus (name bytes : List UInt8) : List UInt8 := xLg name ++ bytes
def cusCk (name bytes : List UInt8) (m : Md) : Ck := ⟨0, uB ((cus name bytes).length : Int), cus name bytes, m⟩
theorem lg_len (l : List UInt8) : (xLg l).length ≤ l.length + 10 := by unfold xLg; have := uB_len (l.length : Int); rw [List.length_append]; omega
theorem cus_len {name bytes : List UInt8} (h1 : name.length ≤ 300) (h2 : bytes.length ≤ 300) : (cus name bytes).length ≤ 610 := by unfold cus; have := lg_len name; rw [List.length_append]; omega
theorem lb_u {l : List UInt8} (h : l.length ≤ 1048576) (r : List UInt8) : grp 5 (uB (l.length : Int) ++ r) = some (l.length, (uB (l.length : Int)).length) := by
 have hidx := idx_size h; have hu5 := uB_5 hidx; obtain ⟨k, hk1, hk2, hk3⟩ := uB_nat hidx; have hkk : k = l.length := (by omega)
 subst hkk; rw [hk3] at hu5 ⊢; exact grp_lebU 5 l.length r hu5
theorem cus_text {s name bytes : List UInt8} {a : Nat} (h1 : name.length ≤ 300) (hs : StAt s a (cus name bytes)) : gText s (a + (cus name bytes).length) a = .ok (name, a + (xLg name).length) := by unfold cus at hs ⊢; exact rd_text s (b := name) (by omega) (a + (xLg name ++ bytes).length) a hs.app.1 (by rw [List.length_append]; omega)
theorem cus_ok {s name bytes : List UInt8} {m : Md} {last : Nat} (h1 : name.length ≤ 300) (h2 : bytes.length ≤ 300) (hv : Lib.validD name = true) : CkOk s (cusCk name bytes m) last m := by
 have hl := cus_len h1 h2; refine ⟨by show 0 < 12; omega, .inl rfl, lb_u (by omega), by show (cus name bytes).length < _; omega, fun a hs => ?_⟩; have hs' : StAt s a (cus name bytes) := hs
 show ((gText s (a + (cus name bytes).length) a).bind fun t => if Lib.validD t.1 = true then .ok (m, a + (cus name bytes).length) else .error 50) = _
 rw [cus_text h1 hs']; simp only [Except.bind]; rw [if_pos hv]; rfl
theorem cus_bad {s name bytes : List UInt8} {m m' : Md} {last a n : Nat} {coded : Bool} (h1 : name.length ≤ 300) (h2 : bytes.length ≤ 300) (hv : ¬ Lib.validD name = true) (hs : StAt s a (cusCk name bytes m').b) (hl : a + (cusCk name bytes m').b.length ≤ s.length) :
 gSections s (n + 1) last coded m a = .error 50 := by
 have hlc := cus_len h1 h2; have hlb : LbOk (cusCk name bytes m') := ⟨lb_u (by omega), by show (cus name bytes).length < _; omega⟩
 have hu := gU_lb hlb hs hl; have hk := ck_len (cusCk name bytes m'); unfold Ck.b at hs; obtain ⟨s1, s2⟩ := hs.app; obtain ⟨s3, s4⟩ := s2.app; have hc : (cusCk name bytes m').c = cus name bytes := rfl; have hlbe : (cusCk name bytes m').lb = uB ((cus name bytes).length : Int) := rfl; rw [hc] at hu s4 hk; rw [hlbe] at hu s4 hk; have s1' : StAt s a [b1 ((0 : Nat) : Int)] := s1; rw [gSections, if_pos (by omega), rd_b1 s (n := ((0 : Nat) : Int)) (by omega) (by omega) s.length a s1' (by simp only [List.length_cons, List.length_nil]; omega)]; simp only [Except.bind, List.length_cons, List.length_nil]; rw [if_pos (by constructor <;> simp)]; have e1 : a + (0 + 1) = a + 1 := (by omega)
 have hg : gLong s s.length (a + (0 + 1)) (gSection s ((0 : Nat) : Int).toNat m) = .error 50 := by
  unfold gLong; rw [e1, hu]; simp only [Except.bind, Int.toNat_natCast]; rw [Nat.min_eq_left (by omega)]; have s4' : StAt s (a + 1 + (uB ((cus name bytes).length : Int)).length) (cus name bytes) := s4
  rw [show gSection s 0 m (a + 1 + (uB ((cus name bytes).length : Int)).length + (cus name bytes).length) (a + 1 + (uB ((cus name bytes).length : Int)).length) = .error 50 from by
   show ((gText s _ _).bind fun t => if Lib.validD t.1 = true then _ else _) = _
   rw [cus_text h1 s4']; simp only [Except.bind]; rw [if_neg hv]]
 rw [hg]
theorem custom_plain {m : Md} {cks : List Ck} (h : Cks m cks) (hl : (xMd m).length ≤ 20000) {x : Nat} (hx : x ∈ 8 :: endsOf (xMd m) ((xMd m).length + 1) 8) {name bytes : List UInt8} (h1 : name.length ≤ 300) (h2 : bytes.length ≤ 300) :
 x ≤ (xMd m).length ∧ gModule ((xMd m).take x ++ [0] ++ uB ((cus name bytes).length : Int) ++ cus name bytes ++ (xMd m).drop x) = if Lib.validD name = true then .ok m else .error 50 := by
 rw [ends_md h] at hx; obtain ⟨p, q, rfl, rfl⟩ := mem_endsC cks 8 x hx; have h8 : headB.length = 8 := rfl
 have hL : (xMd m).length = 8 + (p.flatMap Ck.b).length + (q.flatMap Ck.b).length := by rw [h.eq, List.length_append, List.flatMap_append, List.length_append, h8]; omega
 refine ⟨by omega, ?_⟩; have he : xMd m = (headB ++ p.flatMap Ck.b) ++ q.flatMap Ck.b := (by rw [h.eq, List.flatMap_append, List.append_assoc])
 have hlen : 8 + (p.flatMap Ck.b).length = (headB ++ p.flatMap Ck.b).length := (by rw [List.length_append, h8])
 have ht : (xMd m).take (8 + (p.flatMap Ck.b).length) = headB ++ p.flatMap Ck.b := (by rw [he, hlen, List.take_left])
 have hd : (xMd m).drop (8 + (p.flatMap Ck.b).length) = q.flatMap Ck.b := (by rw [he, hlen, List.drop_left])
 obtain ⟨c, hc⟩ : ∃ c, c = cusCk name bytes (lastM p md0) := ⟨_, rfl⟩
 have hcb : Ck.b c = [0] ++ (uB ((cus name bytes).length : Int) ++ cus name bytes) := (by rw [hc]; rfl)
 have hS : (xMd m).take (8 + (p.flatMap Ck.b).length) ++ [0] ++ uB ((cus name bytes).length : Int) ++ cus name bytes ++ (xMd m).drop (8 + (p.flatMap Ck.b).length) = headB ++ (p ++ c :: q).flatMap Ck.b := by rw [ht, hd, List.flatMap_append, List.flatMap_cons, hcb]; simp only [List.append_assoc]
 have hcl := cus_len h1 h2; have hul := uB_len ((cus name bytes).length : Int); have hck := ck_len c; have hc1 : c.lb = uB ((cus name bytes).length : Int) := (by rw [hc]; rfl)
 have hc2 : c.c = cus name bytes := (by rw [hc]; rfl)
 rw [hc1, hc2] at hck; rw [hS]
 have hall : (headB ++ (p ++ c :: q).flatMap Ck.b).length ≤ 262144 := by rw [List.flatMap_append, List.flatMap_cons, List.length_append, List.length_append, List.length_append, h8]; omega
 have hok := (cks_app p q 0 md0).1 (h.ok (headB ++ (p ++ c :: q).flatMap Ck.b)); have hlast := h.last; rw [lastM_app] at hlast; have hcod := h.coded; rw [coded_app] at hcod
 by_cases hv : Lib.validD name = true
 · rw [if_pos hv]
   have hm : lastM (p ++ c :: q) md0 = m := by
    rw [lastM_app]
    show lastM q c.m = m
    rw [show c.m = lastM p md0 from by rw [hc]; rfl]; exact hlast
   have hcd : codedC (p ++ c :: q) false = codedC q (codedC p false) := by
    rw [coded_app]
    show codedC q (codedC p false || ((c.id : Int) == 10)) = _
    rw [show c.id = 0 from by rw [hc]; rfl]; simp
   have := rd_module (cks := p ++ c :: q) ((cks_app p (c :: q) 0 md0).2 ⟨hok.1, by rw [hc]; exact cus_ok h1 h2 hv, ?_⟩) hall (by rw [hm, hcd]; exact hcod)
   · rw [this, hm]
   · rw [show c.id = 0 from by rw [hc]; rfl, Nat.max_eq_left (Nat.zero_le _), show c.m = lastM p md0 from by rw [hc]; rfl]; exact hok.2
 · rw [if_neg hv]; obtain ⟨s, hs⟩ : ∃ s, s = headB ++ (p ++ c :: q).flatMap Ck.b := ⟨_, rfl⟩
   rw [← hs] at hall hok ⊢
   have hsl : s.length = 8 + (p.flatMap Ck.b).length + c.b.length + (q.flatMap Ck.b).length := by rw [hs, List.flatMap_append, List.flatMap_cons, List.length_append, List.length_append, List.length_append, h8]; omega
   have hs2 : s = headB ++ (p.flatMap Ck.b ++ (c.b ++ q.flatMap Ck.b)) := (by rw [hs, List.flatMap_append, List.flatMap_cons])
   have h0 : StAt s 0 (headB ++ (p.flatMap Ck.b ++ (c.b ++ q.flatMap Ck.b))) := by unfold StAt; rw [List.drop_zero, ← hs2, List.take_length]
   obtain ⟨s1, s2⟩ := h0.app; rw [show 0 + headB.length = 8 from rfl] at s2; obtain ⟨s3, s4⟩ := s2.app; obtain ⟨s5, s6⟩ := s4.app; unfold gModule; rw [if_neg (by omega)]; have hh : gHead s [0, 97, 115, 109, 1, 0, 0, 0] 0 = .ok ((), 8) := head_rd (s := s) headB 0 s1 (by rw [h8]; omega); rw [hh]
   show gSections s (s.length + 1) 0 false md0 8 = _
   have hmany := cks_many p; obtain ⟨n, hn⟩ : ∃ n, s.length + 1 = (n + 1) + p.length := ⟨s.length - p.length, by omega⟩
   rw [hn, rd_cks p 0 false md0 8 (n + 1) hok.1 s3 (by omega)]; rw [hc] at s5 hsl; exact cus_bad h1 h2 hv s5 (by omega)
def padB (n : Nat) : List UInt8 := [UInt8.ofNat (n % 128 + 128), UInt8.ofNat (n / 128 % 128 + 128), UInt8.ofNat (n / 16384 % 128 + 128), UInt8.ofNat (n / 2097152 % 128 + 128), UInt8.ofNat (n / 268435456)]
theorem grp_pad {n : Nat} (h : n < 4294967296) (r : List UInt8) : grp 5 (padB n ++ r) = some (n, 5) := by
 have b0 : (UInt8.ofNat (n % 128 + 128)).toNat = n % 128 + 128 := (by rw [UInt8.toNat_ofNat']; omega)
 have b1 : (UInt8.ofNat (n / 128 % 128 + 128)).toNat = n / 128 % 128 + 128 := (by rw [UInt8.toNat_ofNat']; omega)
 have b2 : (UInt8.ofNat (n / 16384 % 128 + 128)).toNat = n / 16384 % 128 + 128 := (by rw [UInt8.toNat_ofNat']; omega)
 have b3 : (UInt8.ofNat (n / 2097152 % 128 + 128)).toNat = n / 2097152 % 128 + 128 := (by rw [UInt8.toNat_ofNat']; omega)
 have b4 : (UInt8.ofNat (n / 268435456)).toNat = n / 268435456 := (by rw [UInt8.toNat_ofNat']; omega)
 simp only [padB, List.cons_append, List.nil_append, grp, b0, b1, b2, b3, b4]; rw [if_neg (show ¬ n % 128 + 128 < 128 by omega), if_neg (show ¬ n / 128 % 128 + 128 < 128 by omega), if_neg (show ¬ n / 16384 % 128 + 128 < 128 by omega), if_neg (show ¬ n / 2097152 % 128 + 128 < 128 by omega), if_pos (show n / 268435456 < 128 by omega)]; simp only [Option.map_some, Option.some.injEq, Prod.mk.injEq]; have e1 : n / 128 / 128 = n / 16384 := Nat.div_div_eq_div_mul n 128 128; have e2 : n / 16384 / 128 = n / 2097152 := Nat.div_div_eq_div_mul n 16384 128; have e3 : n / 2097152 / 128 = n / 268435456 := Nat.div_div_eq_div_mul n 2097152 128; clear b0 b1 b2 b3 b4; exact ⟨by omega, trivial⟩
def Ck.pad (k : Ck) : Ck := ⟨k.id, padB k.c.length, k.c, k.m⟩
theorem pad_ok {s : List UInt8} {k : Ck} {last : Nat} {m : Md} (h : CkOk s k last m) : CkOk s k.pad last m := ⟨h.id, h.next, grp_pad h.len, h.len, h.rd⟩
theorem cks_pad {s : List UInt8} : ∀ (cks : List Ck) (last : Nat) (m : Md), CksOk s cks last m → CksOk s (cks.map Ck.pad) last m
 | [], _, _, _ => trivial
 | k :: r, _, _, h => ⟨pad_ok h.1, cks_pad r _ _ h.2⟩
theorem lastM_pad : ∀ (cks : List Ck) (m : Md), lastM (cks.map Ck.pad) m = lastM cks m
 | [], _ => rfl
 | k :: r, _ => lastM_pad r k.m
theorem coded_pad : ∀ (cks : List Ck) (c : Bool), codedC (cks.map Ck.pad) c = codedC cks c
 | [], _ => rfl
 | k :: r, c => coded_pad r _
theorem pad_len : ∀ cks : List Ck, ((cks.map Ck.pad).flatMap Ck.b).length ≤ (cks.flatMap Ck.b).length + 5 * cks.length
 | [] => by simp
 | k :: r => by
   have ih := pad_len r; rw [List.map_cons, List.flatMap_cons, List.flatMap_cons, List.length_append, List.length_append, List.length_cons]; have e1 := ck_len k; have e2 := ck_len k.pad; have e3 : k.pad.lb.length = 5 := rfl; have e4 : k.pad.c = k.c := rfl; rw [e3, e4] at e2; omega
theorem padded_plain {m : Md} {cks : List Ck} (h : Cks m cks) (hl : (xMd m).length ≤ 20000) : gModule (headB ++ (cks.map Ck.pad).flatMap Ck.b) = .ok m := by
 have h8 : headB.length = 8 := rfl; have hL : (xMd m).length = 8 + (cks.flatMap Ck.b).length := (by rw [h.eq, List.length_append, h8])
 have hp := pad_len cks; have hm := cks_many cks; have hlast : lastM (cks.map Ck.pad) md0 = m := (by rw [lastM_pad]; exact h.last)
 have := rd_module (cks := cks.map Ck.pad) (cks_pad cks 0 md0 (h.ok _)) (by rw [List.length_append, h8]; omega) (by rw [coded_pad, hlast]; exact h.coded); rw [this, hlast]
end Go.Proofs.YtkbfjkbokifgkaaGreatDoor
namespace Go.Proofs.YtkbfjkbokifgkaaGreatDoor
open Go.RowKit
set_option linter.unusedVariables false
set_option linter.unusedSimpArgs false
def intsV (l : List Nat) : List Value := l.map fun (n : Nat) => Value.int .i64 (n : Int)
theorem gU_from {s : ByteArray} {a : Nat} : gU (strl s) s.size a = match grp 5 (from_ s a) with | some (n, c) => if n < 4294967296 then .ok ((n : Int), a + c) else .error 50 | none => .error 50 := by unfold gU win from_; rw [List.take_of_length_le (by rw [strl_length]; exact Nat.le_refl _)]; rfl
structure EdAt (w0 w : World) (v : Value) (xs : List Nat) : Prop where
 own : w.ownsRow w0.heap.size 3 1 v xs.length (intsV xs)
 below : Below w0.heap.size w0 w
set_option maxRecDepth 100000 in
set_option maxHeartbeats 4000000 in
theorem ends_any {w : World} {s : ByteArray} (hs : s.size ≤ 262144) (h8 : 8 ≤ s.size) : Calls Tryz.prog 15 #[.string s] w fun e w' => ∃ v, e = .returned v ∧ EdAt w w' v (8 :: endsOf (strl s) (s.size + 1) 8) := by
 obtain ⟨i3, hi3, hz3, hs3, hb3⟩ := info_parts info3; obtain ⟨X, hX⟩ : ∃ X, 8 :: endsOf (strl s) (s.size + 1) 8 = X := ⟨_, rfl⟩
 rw [hX]; replace hX := zh hX; have hB : Below w.heap.size w (w.alloc (.cells #[.int .i64 8] 3)) := (Below.refl _ _).alloc (Nat.le_refl _) _; have hE0 : EdAt w (w.alloc (.cells #[.int .i64 8] 3)) (.slice (some ⟨w.heap.size, 0, none⟩) 1 1) [8] := ⟨⟨rfl, .inr ⟨w.heap.size, 1, _, rfl, Nat.le_refl _, heap_alloc_new _ _, Nat.le_refl _, by decide, rfl, rfl⟩⟩, hB⟩
 go_enter Tryz.func15, Tryz.ntmps15; go_wp2_with fail; obtain ⟨w1, hw1⟩ : ∃ w1, w1 = w.alloc (.cells #[.int .i64 8] 3) := ⟨_, rfl⟩
 rw [← hw1] at hE0 ⊢; clear hw1 hB
 go_loopg [3, 4] (s.size + 1) (fun k v3 v4 wr => ∃ (a : Nat) (xs : List Nat), v4 = .int .i64 a ∧ a ≤ s.size ∧ s.size - a < k ∧ 1 ≤ xs.length ∧ xs.length + (s.size - a) ≤ s.size + 1 ∧ Hid (EdAt w wr v3 xs) ∧ Hid (xs ++ endsOf (strl s) k a = X))
 case atStart => exact ⟨8, [8], rfl, h8, by omega, by simp, by simp; omega, zh hE0, zh hX.out⟩
 case round =>
  obtain ⟨a, xs, rfl, ha, hk, hx1, hxl, hE, hXe⟩ := hrel; clear hE0; obtain ⟨k1, rfl⟩ : ∃ k1, gk = k1 + 1 := ⟨gk - 1, by omega⟩
  obtain ⟨g, cap, rfl⟩ : ∃ g cap, u3 = .slice (some ⟨g, 0, none⟩) xs.length cap := by
   rcases hE.out.own.2 with ⟨_, h0⟩ | ⟨g, cap, cur, h, _⟩
   · omega
   · exact ⟨g, cap, h⟩
  by_cases hlt : a < s.size
  · have hlt' : (a : Int) < (s.size : Int) := (by omega)
    have hwa : IntKind.i64.wrap ((a : Int) + 1) = ((a + 1 : Nat) : Int) := (wid64 _ (by omega) (by omega)).trans (by omega); go_wp2_with fail; refine (rU_any s hs (a + 1) (by omega) wr).mono ?_; rintro e' w2 ⟨hR, rfl⟩
    rcases hR with ⟨n, c, hg, hn, rfl⟩ | ⟨hbad, rfl⟩
    · have hlen : (strl s).length = s.size := strl_length s
      by_cases hfit : n ≤ s.size - (a + 1 + c)
      · have hac : a + 1 + c ≤ s.size := by obtain ⟨_, _, _, h4, _⟩ := grp_some _ _ _ _ hg; rw [from_len] at h4; omega
        have hXe2 : (xs ++ [a + 1 + c + n]) ++ endsOf (strl s) k1 (a + 1 + c + n) = X := by
         have h := hXe.out; rw [endsOf, if_pos (by rw [strl_length]; exact hlt), strl_length, gU_from, hg] at h
         dsimp only at h
         rw [if_pos hn] at h
         dsimp only at h
         rw [if_pos (by omega), Int.toNat_natCast] at h; rw [List.append_assoc]; exact h
        replace hXe2 := zh hXe2; have hc1 : 1 ≤ c := (grp_some _ _ _ _ hg).2.1; have hq0 : IntKind.i64.wrap (n : Int) = (n : Int) := wid64 _ (by omega) (by omega); have hq1 : IntKind.i64.wrap ((s.size : Int) - ((a + 1 + c : Nat) : Int)) = ((s.size - (a + 1 + c) : Nat) : Int) := (wid64 _ (by omega) (by omega)).trans (by omega); have hq2 : IntKind.i64.wrap (((a + 1 + c : Nat) : Int) + (n : Int)) = ((a + 1 + c + n : Nat) : Int) := (wid64 _ (by omega) (by omega)).trans (by omega); have hq3 : ¬ ((s.size - (a + 1 + c) : Nat) : Int) < (n : Int) := (by omega)
        obtain ⟨c2, hc2⟩ : ∃ c2, c2 = a + 1 + c := ⟨_, rfl⟩
        rw [← hc2] at hq1 hq2 hq3 hXe2 ⊢; have hYc : ((a : Int) + 1 + (c : Int) + (n : Int)) = ((c2 + n : Nat) : Int) := (by omega)
        replace hYc := zh hYc; have hBa : Below w2.heap.size w2 (w2.alloc (.cells #[.int .i64 ((a : Int) + 1 + (c : Int) + (n : Int))] 3)) := (Below.refl _ _).alloc (Nat.le_refl _) _; have hown := own_same (w' := w2.alloc (.cells #[.int .i64 ((a : Int) + 1 + (c : Int) + (n : Int))] 3)) hE.out.own fun g hg => hBa.block g (hE.out.own.lt g hg).2; have hbs := hE.out.below.size; replace hlen := zh hlen; go_wp2_with (at_builtin; refine wpList_append_own_at _ rfl _ _ 29 rfl w.heap.size 3 i3 (.int .i64 0) 1 8 Tryz.underlying29 hi3 hz3 hs3 hb3 rfl (by decide) _ _ _ rfl hown ⟨w2.heap.size, 0, none⟩ 1 1 [.int .i64 ((a : Int) + 1 + (c : Int) + (n : Int))] rfl rfl (World.news_of_block (cs := #[.int .i64 ((a : Int) + 1 + (c : Int) + (n : Int))]) (t := 3) (fr := (0, 0)) (heap_alloc_new _ _)) (by intro u hu; simp only [List.mem_cons, List.mem_nil_iff, or_false] at hu; subst hu; rfl) (by unfold maxLen; omega) (by omega) (by simp; omega) ?_; intro v' w5 h1 h2 hnil h3)
        have hE5 : EdAt w w5 v' (xs ++ [c2 + n]) := by
         refine ⟨?_, ?_⟩
         · have := h1; rw [List.length_append]; unfold intsV at this ⊢; rw [List.map_append]; rw [hYc.out] at this; exact this
         · have hgr := h2; refine ⟨hgr.os.trans (hBa.os.trans hE.out.below.os), hgr.tape.trans (hBa.tape.trans hE.out.below.tape), hgr.output.trans (hBa.output.trans hE.out.below.output), ?_, fun j hj => ?_⟩
           · have := hgr.size; have := hBa.size; omega
           · rw [hgr.block j (by have := hBa.size; omega) (fun e => by have := (hE.out.own.lt j e.symm).1; omega), hBa.block j (by omega), hE.out.below.block j hj]
        replace hE5 := zh hE5
        go_roundg k1
        case measure => omega
        case rel => exact ⟨c2 + n, xs ++ [c2 + n], by rw [hYc.out], by omega, by omega, by rw [List.length_append]; omega, by rw [List.length_append]; simp only [List.length_cons, List.length_nil]; omega, hE5, hXe2⟩
      · have hfin : xs = X := by
         have h := hXe.out; rw [endsOf, if_pos (by rw [strl_length]; exact hlt), strl_length, gU_from, hg] at h
         dsimp only at h
         rw [if_pos hn] at h
         dsimp only at h
         rw [if_neg (by obtain ⟨_, _, _, h4, _⟩ := grp_some _ _ _ _ hg; rw [from_len] at h4; omega)] at h; simpa using h
        have hac : a + 1 + c ≤ s.size := by obtain ⟨_, _, _, h4, _⟩ := grp_some _ _ _ _ hg; rw [from_len] at h4; omega
        have hq0 : IntKind.i64.wrap (n : Int) = (n : Int) := wid64 _ (by omega) (by omega); have hq1 : IntKind.i64.wrap ((s.size : Int) - ((a + 1 + c : Nat) : Int)) = ((s.size - (a + 1 + c) : Nat) : Int) := (wid64 _ (by omega) (by omega)).trans (by omega); have hq3 : ((s.size - (a + 1 + c) : Nat) : Int) < (n : Int) := (by omega)
        obtain ⟨c2, hc2⟩ : ∃ c2, c2 = a + 1 + c := ⟨_, rfl⟩
        rw [← hc2] at hq1 hq3 ⊢; replace hfin := zh hfin; clear hg; go_wp2_with fail; go_ret; exact ⟨_, rfl, by rw [← hfin.out]; exact hE.out⟩
    · have hfin : xs = X := by
       have h := hXe.out; rw [endsOf, if_pos (by rw [strl_length]; exact hlt), strl_length, gU_from] at h; cases hg : grp 5 (from_ s (a + 1)) with
       | none => rw [hg] at h; simpa using h
       | some q =>
         obtain ⟨n, c⟩ := q; rw [hg] at h
         dsimp only at h
         rw [if_neg (hbad n c hg)] at h; simpa using h
      replace hfin := zh hfin; clear hbad; go_wp2_with fail; go_ret; exact ⟨_, rfl, by rw [← hfin.out]; exact hE.out⟩
  · have hlt' : ¬ (a : Int) < (s.size : Int) := (by omega)
    have hfin : xs = X := by have h := hXe.out; rw [endsOf, if_neg (by rw [strl_length]; exact hlt)] at h; simpa using h
    replace hfin := zh hfin; go_wp2_with fail; go_ret; exact ⟨_, rfl, by rw [← hfin.out]; exact hE.out⟩
end Go.Proofs.YtkbfjkbokifgkaaGreatDoor
