/- The module's reading. -/
import Derived.Test.YtkbfjkbokifgkaaGreatDoorSn
import Derived.Laws.EntriesVeiled
import Derived.Lib.SlBytesConst
namespace Go.Proofs.YtkbfjkbokifgkaaGreatDoor
open Go.RowKit
set_option linter.unusedVariables false
set_option linter.unusedSimpArgs false
def headL : List UInt8 := [0, 97, 115, 109, 1, 0, 0, 0]
def secV (p : Nat) : List Value := (List.range 12).map fun j => .func (Fn.func (66 + j)) #[.pointer (some ⟨p, 0, none⟩)] #[]
def Mo (W0 : World) (p : Nat) (s : ByteArray) (G : Except Int Md) (e' : Ending) (w' : World) : Prop :=
 (∃ m, G = .ok m ∧ e' = .returned (.tuple #[]) ∧ ∃ a lt cd l v0 v1 v2 v3 v4 v5 v6 v7 v8 v9, SS W0 w' p s a s.size lt m cd l v0 v1 v2 v3 v4 v5 v6 v7 v8 v9) ∨ (∃ n, G = .error n ∧ e' = .panicked (flt n) ∧ Below W0.heap.size W0 w')
def gRest (s : List UInt8) (h : List UInt8) (a : Nat) : Except Int Md := (gHead s h a).bind fun z => gSections s (s.length + 1) 0 false md0 z.2
theorem rest_err {s r : List UInt8} {b : UInt8} {a : Nat} {n : Int} (h : gIs s s.length a (b.toNat : Int) = .error n) : gRest s (b :: r) a = .error n := by unfold gRest gHead; rw [h]; rfl
theorem rest_ok {s r : List UInt8} {b : UInt8} {a a' : Nat} {u : Unit} (h : gIs s s.length a (b.toNat : Int) = .ok (u, a')) : gRest s (b :: r) a = gRest s r a' := by unfold gRest; rw [gHead, h]; rfl
section
variable {s : List UInt8} {k lt a a1 : Nat} {cd : Bool} {m : Md} {b : Int}
theorem gs_end (h : ¬ a < s.length) : gSections s (k + 1) lt cd m a = if cd = true ∨ m.funcs = [] then .ok m else .error 50 := by rw [gSections, if_neg h]
theorem gs_byte (h : a < s.length) {n : Int} (hb : gByte s s.length a = .error n) : gSections s (k + 1) lt cd m a = .error n := by rw [gSections, if_pos h, hb]; rfl
theorem gs_no (h : a < s.length) (hb : gByte s s.length a = .ok (b, a1)) (hn : ¬ (b < 12 ∧ (b = 0 ∨ (lt : Int) < b))) : gSections s (k + 1) lt cd m a = .error 50 := by rw [gSections, if_pos h, hb]; exact if_neg hn
theorem gs_in (h : a < s.length) (hb : gByte s s.length a = .ok (b, a1)) (hn : b < 12 ∧ (b = 0 ∨ (lt : Int) < b)) : gSections s (k + 1) lt cd m a = (gLong s s.length a1 (gSection s b.toNat m)).bind fun r => gSections s k (max lt b.toNat) (cd || b == 10) r.1 r.2 := by rw [gSections, if_pos h, hb]; exact if_pos hn
end
theorem rd_bind3 {α β : Type} {g : Got α} {f : α × Nat → Except Int β} {v : α} {a : Nat} (h : g = .ok (v, a)) : g.bind f = f (v, a) := by rw [h]; rfl
theorem gLong_up {α : Type} {s : List UInt8} {e a b : Nat} {v : α} (f : Nat → Nat → Got α) (h : gLong s e a f = .ok (v, b)) : a < b := by
 obtain ⟨n, h1, h2⟩ := bind_ok h; obtain ⟨r, _, h3⟩ := bind_ok h2; have hu : a < n.2 := gU_up s e a n h1; split at h3
 · rename_i hq; cases h3; omega
 · cases h3
theorem SS.bk {w w' : World} {p : Nat} {v2 : Value} {sb : Nat} {vs : List Value} {Ty : TypeId} (h : Bk w sb vs Ty) (k : Wr (Sg p v2) w w') (hp : sb ≠ p) (hv : v2.ownBlock ≠ some sb) : Bk w' sb vs Ty := h.wr k (fun e => e.elim hp hv)
theorem SS.len {W0 w : World} {p : Nat} {s : ByteArray} {a e lt : Nat} {m : Md} {l : Nat} {v0 v1 v2 v3 v4 v5 v6 v7 v8 v9 : Value} (h : SS W0 w p s a e lt m false l v0 v1 v2 v3 v4 v5 v6 v7 v8 v9) : ∃ q n c, v2 = .slice q n c ∧ (n = 0 ↔ m.funcs = []) ∧ n ≤ 4096 := by
 rcases h.ms.funcs with ⟨tys, h1, hl, ts, h2, h3, _⟩ | ⟨h0, _⟩
 · have hlen : ts.length = m.funcs.length := (by rw [h1, ← h2, List.length_map, List.length_map])
   have hl2 : ts.length ≤ 4096 := (by rw [hlen, h1, List.length_map]; exact hl)
   have hx : ts.length = 0 ↔ m.funcs = [] := (by rw [hlen]; exact List.length_eq_zero_iff)
   rcases h3.2 with ⟨e1, e2⟩ | ⟨g, cap, cur, e1, _⟩
   · exact ⟨none, 0, 0, e1, by rw [← hx, e2], by decide⟩
   · exact ⟨_, ts.length, cap, e1, hx, hl2⟩
 · cases h0
set_option maxRecDepth 100000 in
set_option maxHeartbeats 16000000 in
theorem module_any {W0 w : World} {p : Nat} {s : ByteArray} (h : SS W0 w p s 0 s.size 0 md0 false 65536 (.slice none 0 0) (.slice none 0 0) (.slice none 0 0) (.slice none 0 0) (.slice none 0 0) (.slice none 0 0) (.slice none 0 0) (.slice none 0 0) (.slice none 0 0) (.slice none 0 0)) (hT : TabU W0) (hs : s.size ≤ 262144) :
 Calls Tryz.prog 25 #[.pointer (some ⟨p, 0, none⟩)] w (Mo W0 p s (gRest (strl s) headL 0)) := by
 obtain ⟨R, hR0⟩ : ∃ R, gRest (strl s) headL 0 = R := ⟨_, rfl⟩
 rw [hR0]; replace hR0 := zh hR0; have hpw := h.rd.lt; replace h := zh h; replace hT := zh hT; obtain ⟨hb, hhb⟩ : ∃ hb, hb = w.heap.size := ⟨_, rfl⟩
 have kc := fun (C : Array Value) (n c : Nat) => Lib.run_convert_bytes_const (P := Tryz.prog) w 54 5 C n c Tryz.underlying54 Tryz.underlying5; have hB : Below w.heap.size w (w.alloc (.cells #[.int .u8 0, .int .u8 97, .int .u8 115, .int .u8 109, .int .u8 1, .int .u8 0, .int .u8 0, .int .u8 0] 5 (8, 9))) := (Below.refl _ _).alloc (Nat.le_refl _) _
 have hH : ∀ j b, headL[j]? = some b → (w.alloc (.cells #[.int .u8 0, .int .u8 97, .int .u8 115, .int .u8 109, .int .u8 1, .int .u8 0, .int .u8 0, .int .u8 0] 5 (8, 9))).cell? ⟨hb, j, none⟩ = some (.int .u8 (b.toNat : Int)) := by
  intro j b hj; have h8 : j < 8 := (List.getElem?_eq_some_iff.1 hj).1; rw [hhb, World.cell?_alloc_mark]; have : j = 0 ∨ j = 1 ∨ j = 2 ∨ j = 3 ∨ j = 4 ∨ j = 5 ∨ j = 6 ∨ j = 7 := (by omega)
  rcases this with rfl | rfl | rfl | rfl | rfl | rfl | rfl | rfl <;> (cases hj; rfl)
 have h1 := h.out.wr (Wr.of_below hB) (h.out.rd.below hB); clear h; go_enter Tryz.func25, Tryz.ntmps25; go_wp2_with fail; rw [← hhb]; obtain ⟨w1, hw1⟩ : ∃ w1, w1 = w.alloc (.cells #[.int .u8 0, .int .u8 97, .int .u8 115, .int .u8 109, .int .u8 1, .int .u8 0, .int .u8 0, .int .u8 0] 5 (8, 9)) := ⟨_, rfl⟩
 rw [← hw1] at hH h1 ⊢; have hbp : hb ≠ p := (by omega)
 have hbw1 : hb < w1.heap.size := World.block_lt_of_cell? _ _ (hH 0 0 rfl); clear hw1 kc hB hhb; have hR1 : R = gRest (strl s) (headL.drop 0) 0 := hR0.out.symm; replace hR1 := zh hR1; replace hH := zh hH; replace h1 := zh h1; clear hR0 hpw
 go_loopg [10] 8 (fun k' v10 wr => ∃ (i ai : Nat), v10 = .int .i64 i ∧ i + k' = 8 ∧ ai ≤ s.size ∧ Hid (SS W0 wr p s ai s.size 0 md0 false 65536 (.slice none 0 0) (.slice none 0 0) (.slice none 0 0) (.slice none 0 0) (.slice none 0 0) (.slice none 0 0) (.slice none 0 0) (.slice none 0 0) (.slice none 0 0) (.slice none 0 0)) ∧ Hid (∀ j b, headL[j]? = some b → wr.cell? ⟨hb, j, none⟩ = some (.int .u8 (b.toNat : Int))) ∧ Hid (R = gRest (strl s) (headL.drop i) ai))
 case atStart => exact ⟨0, 0, rfl, by omega, Nat.zero_le _, h1, hH, hR1⟩
 case round =>
  obtain ⟨i, ai, rfl, hik, hai, hSi, hHi, hGi⟩ := hrel; clear h1 hH hR1
  by_cases hlt : i < 8
  · obtain ⟨k1, rfl⟩ : ∃ k1, gk = k1 + 1 := ⟨gk - 1, by omega⟩
    have hi : (i : Int) < 8 := (by omega)
    have hi0 : (0 : Int) ≤ (i : Int) := (by omega)
    have hw : IntKind.i64.wrap ((i : Int) + 1) = (i : Int) + 1 := wid64 _ (by omega) (by omega); obtain ⟨b, hbi⟩ : ∃ b, headL[i]? = some b := ⟨headL[i], List.getElem?_eq_getElem hlt⟩
    have hcb := hHi.out i b hbi
    have hdrop : headL.drop i = b :: headL.drop (i + 1) := by obtain ⟨hl, he2⟩ := List.getElem?_eq_some_iff.1 hbi; rw [← he2]; exact List.drop_eq_getElem_cons hl
    have hwb : IntKind.i64.wrap (b.toNat : Int) = (b.toNat : Int) := wid64 _ (by omega) (by have := b.toNat_lt; omega); replace hdrop := zh hdrop; replace hbi := zh hbi; go_wp2_with fail; refine (is_any hSi.out.rd hs (Nat.le_refl _) (b.toNat : Int)).mono ?_; rintro e' w2 ⟨hW, ⟨u, a2, v', hg, ha2, rfl, rfl, hR2⟩ | ⟨n, hg, rfl⟩⟩
    rotate_left
    · exact ⟨rfl, .inr ⟨n, by rw [hGi.out, hdrop.out]; exact rest_err hg, rfl, (hSi.out.bl).trans ((Wr.below_of (Below.refl _ _) hW (fun b e => by have := hSi.out.pN; omega) hSi.out.bl.size).mono (Nat.le_refl _))⟩⟩
    have hG2 := hGi.out.trans ((congrArg (fun l => gRest (strl s) l ai) hdrop.out).trans (rest_ok hg)); have hS2 := hSi.out.wr hW hR2
    have hH2 : ∀ j b, headL[j]? = some b → w2.cell? ⟨hb, j, none⟩ = some (.int .u8 (b.toNat : Int)) := fun j b hj => by
     have h := hHi.out j b hj; have hlt := World.block_lt_of_cell? _ _ h; rw [World.cell?_of_block (w := _) (w' := w2) (hW.block hb hlt hbp)]; exact h
    replace hG2 := zh hG2; replace hS2 := zh hS2; replace hH2 := zh hH2; clear hW hR2 hg hcb; go_wp2_with fail
    go_roundg k1
    case measure => omega
    case rel => exact ⟨i + 1, a2, by push_cast; rfl, by omega, ha2, hS2, hH2, hG2⟩
  · have hi : ¬ (i : Int) < 8 := (by omega)
    obtain rfl : i = 8 := by omega
    have hG2 : R = gSections (strl s) (s.size + 1) 0 false md0 ai := hGi.out; replace hG2 := zh hG2; clear hGi hHi; have hmf : ∀ (fn : Fn) (first cap : Array Value) (w : World), (Instr.makeFunc fn first cap).run Tryz.prog w = .ok (.func fn first cap) w := fun _ _ _ _ => rfl; go_wp2_with fail; have hB : Below wr.heap.size wr (wr.alloc (.cells #[.func (Fn.func 66) #[.pointer (some ⟨p, 0, none⟩)] #[], .func (Fn.func 67) #[.pointer (some ⟨p, 0, none⟩)] #[], .func (Fn.func 68) #[.pointer (some ⟨p, 0, none⟩)] #[], .func (Fn.func 69) #[.pointer (some ⟨p, 0, none⟩)] #[], .func (Fn.func 70) #[.pointer (some ⟨p, 0, none⟩)] #[], .func (Fn.func 71) #[.pointer (some ⟨p, 0, none⟩)] #[], .func (Fn.func 72) #[.pointer (some ⟨p, 0, none⟩)] #[], .func (Fn.func 73) #[.pointer (some ⟨p, 0, none⟩)] #[], .func (Fn.func 74) #[.pointer (some ⟨p, 0, none⟩)] #[], .func (Fn.func 75) #[.pointer (some ⟨p, 0, none⟩)] #[], .func (Fn.func 76) #[.pointer (some ⟨p, 0, none⟩)] #[], .func (Fn.func 77) #[.pointer (some ⟨p, 0, none⟩)] #[]] 1)) := (Below.refl _ _).alloc (Nat.le_refl _) _; have hS3 := hSi.out.wr (Wr.of_below hB) (hSi.out.rd.below hB); have hK3 : Bk (wr.alloc (.cells #[.func (Fn.func 66) #[.pointer (some ⟨p, 0, none⟩)] #[], .func (Fn.func 67) #[.pointer (some ⟨p, 0, none⟩)] #[], .func (Fn.func 68) #[.pointer (some ⟨p, 0, none⟩)] #[], .func (Fn.func 69) #[.pointer (some ⟨p, 0, none⟩)] #[], .func (Fn.func 70) #[.pointer (some ⟨p, 0, none⟩)] #[], .func (Fn.func 71) #[.pointer (some ⟨p, 0, none⟩)] #[], .func (Fn.func 72) #[.pointer (some ⟨p, 0, none⟩)] #[], .func (Fn.func 73) #[.pointer (some ⟨p, 0, none⟩)] #[], .func (Fn.func 74) #[.pointer (some ⟨p, 0, none⟩)] #[], .func (Fn.func 75) #[.pointer (some ⟨p, 0, none⟩)] #[], .func (Fn.func 76) #[.pointer (some ⟨p, 0, none⟩)] #[], .func (Fn.func 77) #[.pointer (some ⟨p, 0, none⟩)] #[]] 1)) wr.heap.size (secV p) 1 := Bk.new wr (secV p) 1
    have hsp : wr.heap.size ≠ p := (by have := hSi.out.rd.lt; omega)
    obtain ⟨sb, hsb⟩ : ∃ sb, sb = wr.heap.size := ⟨_, rfl⟩
    obtain ⟨w3, hw3⟩ : ∃ w3, w3 = wr.alloc (.cells #[.func (Fn.func 66) #[.pointer (some ⟨p, 0, none⟩)] #[], .func (Fn.func 67) #[.pointer (some ⟨p, 0, none⟩)] #[], .func (Fn.func 68) #[.pointer (some ⟨p, 0, none⟩)] #[], .func (Fn.func 69) #[.pointer (some ⟨p, 0, none⟩)] #[], .func (Fn.func 70) #[.pointer (some ⟨p, 0, none⟩)] #[], .func (Fn.func 71) #[.pointer (some ⟨p, 0, none⟩)] #[], .func (Fn.func 72) #[.pointer (some ⟨p, 0, none⟩)] #[], .func (Fn.func 73) #[.pointer (some ⟨p, 0, none⟩)] #[], .func (Fn.func 74) #[.pointer (some ⟨p, 0, none⟩)] #[], .func (Fn.func 75) #[.pointer (some ⟨p, 0, none⟩)] #[], .func (Fn.func 76) #[.pointer (some ⟨p, 0, none⟩)] #[], .func (Fn.func 77) #[.pointer (some ⟨p, 0, none⟩)] #[]] 1) := ⟨_, rfl⟩
    rw [← hsb] at hK3 hsp ⊢; rw [← hw3] at hS3 hK3 ⊢; clear hw3 hsb hB hSi hmf; replace hS3 := zh hS3; replace hK3 := zh hK3
    go_loopg [5] (s.size + 1) (fun kI sl wr => ∃ (lt ai : Nat) (m : Md) (cd : Bool) (l : Nat) (v0 v1 v2 v3 v4 v5 v6 v7 v8 v9 : Value), sl = .int .i64 lt ∧ s.size - ai < kI ∧ ai ≤ s.size ∧ lt < 12 ∧ Hid (SS W0 wr p s ai s.size lt m cd l v0 v1 v2 v3 v4 v5 v6 v7 v8 v9) ∧ Hid (Bk wr sb (secV p) 1) ∧ Hid (v2.ownBlock ≠ some sb) ∧ Hid (R = gSections (strl s) kI lt cd m ai))
    case atStart => exact ⟨0, ai, md0, false, 65536, .slice none 0 0, .slice none 0 0, .slice none 0 0, .slice none 0 0, .slice none 0 0, .slice none 0 0, .slice none 0 0, .slice none 0 0, .slice none 0 0, .slice none 0 0, rfl, by omega, hai, by decide, hS3, hK3, zh (by simp [Value.ownBlock]), hG2⟩
    case round =>
     clear hS3 hK3 hG2 hai; obtain ⟨lt, ai, m, cd, l, v0, v1, v2, v3, v4, v5, v6, v7, v8, v9, rfl, hfu, hai, hlt12, hSi, hKi, hvi, hGi⟩ := hrel; obtain ⟨k1, rfl⟩ : ∃ k1, gk = k1 + 1 := ⟨gk - 1, by omega⟩
     have c1 := hSi.out.rd.c1; have c2 := hSi.out.rd.c2
     by_cases hlt : ai < s.size
     · have hd : decide ((ai : Int) < (s.size : Int)) = true := decide_eq_true (by omega); go_wp2_with fail
       go_quiet (fail)
       have hS1 := hSi.out.wr (Wr.refl (· = p) wr |>.drewN nq) (hSi.out.rd.drewN nq); have hK1 := hKi.out.wr (Wr.refl (· = p) wr |>.drewN nq) hsp; obtain ⟨w4, hw4⟩ : ∃ w4, w4 = wr.drewN nq := ⟨_, rfl⟩
       rw [← hw4] at hS1 hK1 ⊢; clear hw4 hSi hKi c1 c2 hd; replace hS1 := zh hS1; replace hK1 := zh hK1; go_wp2_with fail; refine (byte_any hS1.out.rd hs (Nat.le_refl _)).mono ?_; rintro e' w5 ⟨hW, ⟨b, a5, v', hg, ha5, ⟨rfl, hb0, hb1⟩, rfl, hR5⟩ | ⟨n, hg, rfl⟩⟩
       rotate_left
       · exact ⟨rfl, .inr ⟨n, by rw [hGi.out]; exact gs_byte hlt hg, rfl, Wr.below_of hS1.out.bl hW (fun b e => by have := hS1.out.pN; omega) hS1.out.bl.size⟩⟩
       have hga : ai < a5 := gByte_up _ _ _ _ hg; have hS5 := hS1.out.wr hW hR5; have hK5 := hK1.out.wr hW hsp; obtain ⟨id, rfl⟩ : ∃ id : Nat, b = (id : Int) := ⟨b.toNat, by omega⟩
       replace hg := zh hg; replace hS5 := zh hS5; replace hK5 := zh hK5; clear hW hR5 hS1 hK1
       by_cases hok : (id : Int) < 12 ∧ ((id : Int) = 0 ∨ (lt : Int) < (id : Int))
       rotate_left
       · have hf : R = .error 50 := (by rw [hGi.out]; exact gs_no hlt hg.out hok)
         replace hf := zh hf
         have hb : decide ((id : Int) < 12) = false ∨ (decide ((id : Int) < 12) = true ∧ ((id : Int) == 0) = false ∧ decide (lt < id) = false) := by
          by_cases h12 : (id : Int) < 12
          · right; exact ⟨decide_eq_true h12, by rw [beq_eq_false_iff_ne]; exact fun e => hok ⟨h12, .inl e⟩, decide_eq_false (fun e => hok ⟨h12, .inr (by omega)⟩)⟩
          · left; exact decide_eq_false h12
         replace hok := zh hok; have hbl := hS5.out.bl; replace hbl := zh hbl
         rcases hb with hb | ⟨hb1, hb2, hb3⟩
         all_goals
          go_wp2_with fail; refine (dwant_no 50 _).mono ?_; rintro e' w6 ⟨rfl, rfl⟩; exact ⟨rfl, .inr ⟨50, hf.out, rfl, hbl.out⟩⟩
       have hG5 : R = (gLong (strl s) s.size a5 (gSection (strl s) id m)).bind fun r => gSections (strl s) k1 (max lt id) (cd || id == 10) r.1 r.2 := by have h := hGi.out.trans (gs_in hlt hg.out hok); rw [Int.toNat_natCast] at h; rw [show ((id : Int) == 10) = (id == 10) from by cases hh : (id == 10) with | true => (have := eq_of_beq hh; subst this; rfl) | false => (rw [beq_eq_false_iff_ne] at hh ⊢; omega)] at h; exact h
       replace hG5 := zh hG5; have hid12 : id < 12 := (by omega)
       have hidc : id = 0 ∨ (lt < id ∧ id < 12) := (by omega)
       have hb : (decide ((id : Int) < 12) = true ∧ ((id : Int) == 0) = true) ∨ (decide ((id : Int) < 12) = true ∧ ((id : Int) == 0) = false ∧ decide (lt < id) = true) := by
        by_cases h0 : (id : Int) = 0
        · left; exact ⟨decide_eq_true hok.1, by rw [h0]; rfl⟩
        · right; exact ⟨decide_eq_true hok.1, by rw [beq_eq_false_iff_ne]; exact h0, decide_eq_true (by have := hok.2.resolve_left h0; omega)⟩
       obtain ⟨K, hK⟩ : ∃ K, K = 66 + id := ⟨_, rfl⟩
       have hcell : w5.cell? ⟨sb, id, none⟩ = some (.func (Fn.func K) #[.pointer (some ⟨p, 0, none⟩)] #[]) := hK5.out.cell (by unfold secV; rw [List.getElem?_map, List.getElem?_range hid12, hK]; rfl)
       have hcf : ∀ w, (callFunc K #[.pointer (some ⟨p, 0, none⟩)]).run Tryz.prog w = .ok (.enter K #[.pointer (some ⟨p, 0, none⟩)]) w := by
        intro w; have : id = 0 ∨ id = 1 ∨ id = 2 ∨ id = 3 ∨ id = 4 ∨ id = 5 ∨ id = 6 ∨ id = 7 ∨ id = 8 ∨ id = 9 ∨ id = 10 ∨ id = 11 := (by omega)
        rw [hK]
        rcases this with rfl | rfl | rfl | rfl | rfl | rfl | rfl | rfl | rfl | rfl | rfl | rfl <;> rfl
       have hid0 : (0 : Int) ≤ (id : Int) := (by omega)
       obtain ⟨lt', hlt'⟩ : ∃ lt', lt' = max lt id := ⟨_, rfl⟩
       have hlt2 : lt' < 12 := (by omega)
       have hmx : max (lt : Int) (id : Int) = (lt' : Int) := (by omega)
       rw [← hlt'] at hG5; replace hG5 := zh hG5.out; have hsect := fun (w1 : World) (a1 e1 : Nat) (hS : SS W0 w1 p s a1 e1 lt m cd l v0 v1 v2 v3 v4 v5 v6 v7 v8 v9) (he1 : e1 ≤ s.size) (ha1 : a1 ≤ e1) => sect_any hS hT.out hidc hs he1 ha1; rw [← hK, ← hlt'] at hsect
       have hlong := long_m (J := fun m' b e1 w' => (∃ l' v0' v1' v2' v3' v4' v5' v6' v7' v8' v9', SS W0 w' p s b e1 lt' m' (cd || id == 10) l' v0' v1' v2' v3' v4' v5' v6' v7' v8' v9' ∧ v2'.ownBlock ≠ some sb) ∧ Bk w' sb (secV p) 1) (T := fun w' => Below W0.heap.size W0 w') (f := gSection (strl s) id m) (k := K) hS5.out.rd hs (Nat.le_refl _) ha5
        (fun w' q => Wr.below_of hS5.out.bl q (fun b e => by have := hS5.out.pN; omega) hS5.out.bl.size)
        (fun a1 e1 w1 q r ha1 he1 => (hsect w1 a1 e1 (hS5.out.wr q r) he1 ha1).mono fun e' w' hh => hh.imp (fun ⟨m', b, h1, h2, h3, l', v0', v1', v2', v3', v4', v5', v6', v7', v8', v9', h4, h5, h6⟩ => ⟨m', b, h1, h2, h3, ⟨l', v0', v1', v2', v3', v4', v5', v6', v7', v8', v9', h4, h6 sb (hK5.out.wr q hsp).lt hvi.out⟩, SS.bk (hK5.out.wr q hsp) h5 hsp hvi.out⟩) (fun x => x))
        (fun v b e1 w' ⟨⟨l', v0', v1', v2', v3', v4', v5', v6', v7', v8', v9', h4, _⟩, _⟩ => ⟨_, _, h4.rd⟩)
        (fun v b e1 w' ⟨⟨l', v0', v1', v2', v3', v4', v5', v6', v7', v8', v9', h4, h5⟩, h6⟩ => ⟨⟨l', v0', v1', v2', v3', v4', v5', v6', v7', v8', v9', h4.wr ((Wr.refl (· = p) w').set rfl 2 _) (h4.rd.set2 _), h5⟩, h6.far hsp _ _⟩)
        (fun v b e1 w' ⟨⟨l', v0', v1', v2', v3', v4', v5', v6', v7', v8', v9', h4, _⟩, _⟩ => h4.bl) hcf
       replace hlong := zh hlong; replace hok := zh hok; replace hK := zh hK; replace hlt' := zh hlt'; clear hsect hcf
       rcases hb with ⟨hb1, hb2⟩ | ⟨hb1, hb2, hb3⟩
       all_goals
        go_wp2_with fail; refine (dwant_yes 50 _).mono ?_; rintro e' w6 ⟨rfl, rfl⟩; go_wp2_with fail; refine hlong.out.mono ?_; rintro e' w7 (⟨m', b, hg7, hb7, rfl, ⟨l', v0', v1', v2', v3', v4', v5', v6', v7', v8', v9', hS7, hv7⟩, hK7⟩ | ⟨n, hg7, rfl, hV⟩)
        rotate_left
        · exact ⟨rfl, .inr ⟨n, by rw [hG5.out, show gLong (strl s) s.size a5 (gSection (strl s) id m) = .error n from hg7]; rfl, rfl, hV⟩⟩
        have hG7 := hG5.out.trans (rd_bind3 hg7); have hup := gLong_up _ hg7; replace hG7 := zh hG7; replace hS7 := zh hS7; replace hK7 := zh hK7; replace hv7 := zh hv7; clear hg7 hcell; go_wp2_with fail
        go_roundg k1
        case measure => omega
        case rel => exact ⟨lt', b, m', _, l', v0', v1', v2', v3', v4', v5', v6', v7', v8', v9', rfl, by omega, hb7, hlt2, hS7, hK7, hv7, hG7⟩
     · have hd : decide ((ai : Int) < (s.size : Int)) = false := decide_eq_false (by omega); have hfin := hGi.out.trans (gs_end hlt); go_wp2_with fail
       go_quiet (fail)
       have hS1 := hSi.out.wr (Wr.refl (· = p) wr |>.drewN nq) (hSi.out.rd.drewN nq); obtain ⟨w4, hw4⟩ : ∃ w4, w4 = wr.drewN nq := ⟨_, rfl⟩
       rw [← hw4] at hS1 ⊢; clear hw4 hSi hKi c1 c2 hd; have hbl := hS1.bl
       have c14 : w4.cell? ⟨p, 14, none⟩ = some (.bool cd) := by rw [cell_of_row w4 p 14 _ _ _ hS1.rd.row]; rfl
       cases cd with
       | true => rw [if_pos (.inl rfl)] at hfin; replace hS1 := zh hS1; replace hbl := zh hbl; replace hfin := zh hfin; go_wp2_with fail; refine (dwant_yes 50 _).mono ?_; rintro e' w6 ⟨rfl, rfl⟩; go_wp2_with fail; go_end0; exact .inl ⟨m, hfin.out, rfl, ai, lt, true, l, v0, v1, v2, v3, v4, v5, v6, v7, v8, v9, by have := hS1.out; rwa [show ai = s.size from by omega] at this ⊢⟩
       | false =>
         obtain ⟨q2, n2, cap2, hv2, hn2, hn3⟩ := hS1.len
         have c6 : w4.cell? ⟨p, 6, none⟩ = some v2 := by rw [cell_of_row w4 p 6 _ _ _ hS1.rd.row]; rfl
         subst hv2
         by_cases hz : n2 = 0
         · have hq : ((n2 : Int) == 0) = true := (by rw [hz]; rfl)
           rw [if_pos (.inr (hn2.1 hz))] at hfin; replace hS1 := zh hS1; replace hbl := zh hbl; replace hfin := zh hfin; clear hn2; go_wp2_with fail; refine (dwant_yes 50 _).mono ?_; rintro e' w6 ⟨rfl, rfl⟩; go_wp2_with fail; go_end0; exact .inl ⟨m, hfin.out, rfl, ai, lt, false, l, v0, v1, .slice q2 n2 cap2, v3, v4, v5, v6, v7, v8, v9, by have := hS1.out; rwa [show ai = s.size from by omega] at this ⊢⟩
         · have hq : ((n2 : Int) == 0) = false := (by rw [beq_eq_false_iff_ne]; omega)
           rw [if_neg (fun h => h.elim (fun e => by cases e) (fun e => hz (hn2.2 e)))] at hfin; replace hS1 := zh hS1; replace hbl := zh hbl; replace hfin := zh hfin; clear hn2; go_wp2_with fail; refine (dwant_no 50 _).mono ?_; rintro e' w6 ⟨rfl, rfl⟩; exact ⟨rfl, .inr ⟨50, hfin.out, rfl, hbl.out⟩⟩
end Go.Proofs.YtkbfjkbokifgkaaGreatDoor
