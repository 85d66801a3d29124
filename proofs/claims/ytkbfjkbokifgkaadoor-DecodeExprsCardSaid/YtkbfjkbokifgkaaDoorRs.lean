/- The reader's numbers. -/
import Derived.Test.YtkbfjkbokifgkaaDoorRr
namespace Go.Proofs.YtkbfjkbokifgkaaDoor
open Go.RowKit
set_option linter.unusedVariables false
set_option linter.unusedSimpArgs false

theorem ext_size {s : ByteArray} {e : Nat} (he : e ≤ s.size) : (s.extract 0 e).size = e := by
  rw [ByteArray.size_extract]
  omega
theorem ext_strl {s : ByteArray} {e : Nat} (he : e ≤ s.size) : strl (s.extract 0 e) = (strl s).take e := by
  unfold strl
  rw [ByteArray.data_extract, Array.toList_extract]
  simp
theorem from_ext {s : ByteArray} {e a : Nat} (he : e ≤ s.size) : from_ (s.extract 0 e) a = win (strl s) a e := by
  unfold from_ win
  rw [ext_strl he]
/-- What a number's reading tells: the number, where it ends, no error; or an error. -/
def UOut (P : Nat → Nat → Option Int) (K : Nat) (L : List UInt8) (e a : Nat) (x y z : Int) : Prop :=
  (∃ n c v, grp K L = some (n, c) ∧ 1 ≤ c ∧ a + c ≤ e ∧ P n c = some v ∧ x = v ∧ y = ((a + c : Nat) : Int) ∧ z = 0) ∨ ((∀ n c, grp K L = some (n, c) → P n c = none) ∧ z = 10)
def pU (n c : Nat) : Option Int := if n < 4294967296 then some (n : Int) else none
def pS32 (n c : Nat) : Option Int := if -2147483648 ≤ sgn n c ∧ sgn n c ≤ 2147483647 then some (sgn n c) else none
def pS64 (n c : Nat) : Option Int := if -9223372036854775808 ≤ sgn n c ∧ sgn n c ≤ 9223372036854775807 then some (sgn n c) else none
theorem leb_u32x (s : ByteArray) (hs : s.size ≤ 262144) (e : Nat) (he : e ≤ s.size) (a : Nat) (ha : a ≤ e) (w : World) :
    Calls Tryd.prog 109 #[.string (s.extract 0 e), .int .i64 a, .int .i64 32] w fun e' w' => Below w.heap.size w w' ∧ ∃ x y z, e' = .returned (.tuple #[.int .u64 x, .int .i64 y, .int .i64 z]) ∧ UOut pU 5 (win (strl s) a e) e a x y z := by
  refine (leb_u32 (s.extract 0 e) (by rw [ext_size he]; omega) a (by rw [ext_size he]; exact ha) w).mono ?_
  rintro e' w' ⟨hB, ⟨n, c, hg, h1, h2, h3, rfl⟩ | ⟨hn, rfl⟩⟩
  · rw [from_ext he] at hg
    rw [ext_size he] at h2
    exact ⟨hB, _, _, _, rfl, .inl ⟨n, c, n, hg, h1, h2, if_pos h3, rfl, rfl, rfl⟩⟩
  · rw [from_ext he] at hn
    exact ⟨hB, _, _, _, rfl, .inr ⟨fun n c h => if_neg (by have := hn n c h; omega), rfl⟩⟩
theorem leb_s32x (s : ByteArray) (hs : s.size ≤ 262144) (e : Nat) (he : e ≤ s.size) (a : Nat) (ha : a ≤ e) (w : World) :
    Calls Tryd.prog 111 #[.string (s.extract 0 e), .int .i64 a, .int .i64 32] w fun e' w' => Below w.heap.size w w' ∧ ∃ x y z, e' = .returned (.tuple #[.int .i64 x, .int .i64 y, .int .i64 z]) ∧ UOut pS32 5 (win (strl s) a e) e a x y z := by
  refine (leb_s32 (s.extract 0 e) (by rw [ext_size he]; omega) a (by rw [ext_size he]; exact ha) w).mono ?_
  rintro e' w' ⟨hB, ⟨n, c, hg, h1, h2, h3, h4, rfl⟩ | ⟨hn, rfl⟩⟩
  · rw [from_ext he] at hg
    rw [ext_size he] at h2
    exact ⟨hB, _, _, _, rfl, .inl ⟨n, c, _, hg, h1, h2, if_pos ⟨h3, h4⟩, rfl, rfl, rfl⟩⟩
  · rw [from_ext he] at hn
    exact ⟨hB, _, _, _, rfl, .inr ⟨fun n c h => if_neg (hn n c h), rfl⟩⟩
theorem leb_s64x (s : ByteArray) (hs : s.size ≤ 262144) (e : Nat) (he : e ≤ s.size) (a : Nat) (ha : a ≤ e) (w : World) :
    Calls Tryd.prog 111 #[.string (s.extract 0 e), .int .i64 a, .int .i64 64] w fun e' w' => Below w.heap.size w w' ∧ ∃ x y z, e' = .returned (.tuple #[.int .i64 x, .int .i64 y, .int .i64 z]) ∧ UOut pS64 10 (win (strl s) a e) e a x y z := by
  refine (leb_s64 (s.extract 0 e) (by rw [ext_size he]; omega) a (by rw [ext_size he]; exact ha) w).mono ?_
  rintro e' w' ⟨hB, ⟨n, c, hg, h1, h2, h3, h4, rfl⟩ | ⟨hn, rfl⟩⟩
  · rw [from_ext he] at hg
    rw [ext_size he] at h2
    exact ⟨hB, _, _, _, rfl, .inl ⟨n, c, _, hg, h1, h2, if_pos ⟨h3, h4⟩, rfl, rfl, rfl⟩⟩
  · rw [from_ext he] at hn
    exact ⟨hB, _, _, _, rfl, .inr ⟨fun n c h => if_neg (hn n c h), rfl⟩⟩
def VSgn (v : Int) (x : Value) : Prop := x = .int .i64 v ∧ -9223372036854775808 ≤ v ∧ v ≤ 9223372036854775807
set_option maxRecDepth 100000 in
set_option maxHeartbeats 4000000 in
theorem u_any {w : World} {p : Nat} {s : ByteArray} {a e : Nat} {l : Int} {cs : List Value} (h : RdAt w p s (a : Int) (e : Int) l cs) (hs : s.size ≤ 262144) (he : e ≤ s.size) (ha : a ≤ e) :
    Calls Tryd.prog 68 #[.pointer (some ⟨p, 0, none⟩)] w (Rd VInt p s e l cs (gU (strl s) e a) w) := by
  have c0 := h.c0
  have c1 := h.c1
  have c2 := h.c2
  go_enter Tryd.func68, Tryd.ntmps68
  go_wp2_with fail
  go_region_held3 (fun w' => w'.cell? ⟨p, 0, none⟩ = some (.string s) ∧ w'.cell? ⟨p, 1, none⟩ = some (.int .i64 a) ∧ w'.cell? ⟨p, 2, none⟩ = some (.int .i64 e)) (go_keep)
    (first | (go_at_call 109; refine (leb_u32x s hs e he a ha _).mono ?_; rintro e' w1 ⟨hB, x, y, z, rfl, hU⟩; have k0 := keep_below hB ⟨p, 0, none⟩ _ c0; have k1 := keep_below hB ⟨p, 1, none⟩ _ c1; have k2 := keep_below hB ⟨p, 2, none⟩ _ c2; replace hU := Lib.hid hU; replace hB := Lib.hid hB))
  have h1 : RdAt w1 p s (a : Int) (e : Int) l cs := (h.drew).below hB.out
  have t1 : Wr (· = p) w w1 := (Wr.refl (· = p) w).drew.trans (Wr.of_below hB.out)
  clear k0 k1 k2 c0 c1 c2 h hB
  rcases hU.out with ⟨n, c, v, hgr, hc1, hce, hP, rfl, rfl, rfl⟩ | ⟨hno, rfl⟩
  · have hv : 0 ≤ x ∧ x < 4294967296 := by
      unfold pU at hP
      split at hP
      · simp only [Option.some.injEq] at hP
        omega
      · simp at hP
    have hgg : gU (strl s) e a = .ok (x, a + c) := by
      unfold gU
      rw [hgr]
      unfold pU at hP
      split at hP
      · rename_i hin
        obtain rfl := Option.some.inj hP
        exact if_pos hin
      · simp at hP
    have hw : IntKind.i64.wrap x = x := wid64 _ (by omega) (by omega)
    replace hgg := Lib.hid hgg
    replace hP := Lib.hid hP
    replace hgr := Lib.hid hgr
    clear hU
    have f1 := h1.fr 1
    go_wp2_with fail
    refine (dwant_yes 50 w1).mono ?_
    rintro e' w2 ⟨rfl, rfl⟩
    go_wp2_with fail
    refine bodyPost_ret (by simp [results, Tryd.results68, go_sem] <;> rfl) rfl ?_
    exact ⟨t1.set (S := (· = p)) rfl 1 _, .inl ⟨x, a + c, _, hgg.out, by omega, ⟨rfl, hv.1, hv.2⟩, rfl, by have := h1.set1 ((a + c : Nat) : Int); simpa using this⟩⟩
  · have hgg : gU (strl s) e a = .error 50 := by
      unfold gU
      cases hq : grp 5 (win (strl s) a e) with
      | none => rfl
      | some q =>
        have := hno q.1 q.2 hq
        unfold pU at this
        split at this
        · simp at this
        · rename_i hin
          exact if_neg hin
    replace hgg := Lib.hid hgg
    clear hU hno
    go_wp2_with fail
    refine (dwant_no 50 w1).mono ?_
    rintro e' w2 ⟨rfl, rfl⟩
    exact ⟨rfl, t1, .inr ⟨50, hgg.out, rfl⟩⟩
set_option maxRecDepth 100000 in
set_option maxHeartbeats 4000000 in
theorem s32_any {w : World} {p : Nat} {s : ByteArray} {a e : Nat} {l : Int} {cs : List Value} (h : RdAt w p s (a : Int) (e : Int) l cs) (hs : s.size ≤ 262144) (he : e ≤ s.size) (ha : a ≤ e) :
    Calls Tryd.prog 87 #[.pointer (some ⟨p, 0, none⟩), .int .i64 32] w (Rd VSgn p s e l cs (gS32 (strl s) e a) w) := by
  have c0 := h.c0
  have c1 := h.c1
  have c2 := h.c2
  go_enter Tryd.func87, Tryd.ntmps87
  go_wp2_with fail
  go_region_held3 (fun w' => w'.cell? ⟨p, 0, none⟩ = some (.string s) ∧ w'.cell? ⟨p, 1, none⟩ = some (.int .i64 a) ∧ w'.cell? ⟨p, 2, none⟩ = some (.int .i64 e)) (go_keep)
    (first | (go_at_call 111; refine (leb_s32x s hs e he a ha _).mono ?_; rintro e' w1 ⟨hB, x, y, z, rfl, hU⟩; have k0 := keep_below hB ⟨p, 0, none⟩ _ c0; have k1 := keep_below hB ⟨p, 1, none⟩ _ c1; have k2 := keep_below hB ⟨p, 2, none⟩ _ c2; replace hU := Lib.hid hU; replace hB := Lib.hid hB))
  have h1 : RdAt w1 p s (a : Int) (e : Int) l cs := (h.drew).below hB.out
  have t1 : Wr (· = p) w w1 := (Wr.refl (· = p) w).drew.trans (Wr.of_below hB.out)
  clear k0 k1 k2 c0 c1 c2 h hB
  rcases hU.out with ⟨n, c, v, hgr, hc1, hce, hP, rfl, rfl, rfl⟩ | ⟨hno, rfl⟩
  · have hv : -9223372036854775808 ≤ x ∧ x ≤ 9223372036854775807 := by
      unfold pS32 at hP
      split at hP
      · simp only [Option.some.injEq] at hP
        omega
      · simp at hP
    have hgg : gS32 (strl s) e a = .ok (x, a + c) := by
      unfold gS32
      rw [hgr]
      unfold pS32 at hP
      split at hP
      · rename_i hin
        obtain rfl := Option.some.inj hP
        exact if_pos hin
      · simp at hP
    skip
    replace hgg := Lib.hid hgg
    replace hP := Lib.hid hP
    replace hgr := Lib.hid hgr
    clear hU
    have f1 := h1.fr 1
    go_wp2_with fail
    refine (dwant_yes 50 w1).mono ?_
    rintro e' w2 ⟨rfl, rfl⟩
    go_wp2_with fail
    refine bodyPost_ret (by simp [results, Tryd.results87, go_sem] <;> rfl) rfl ?_
    exact ⟨t1.set (S := (· = p)) rfl 1 _, .inl ⟨x, a + c, _, hgg.out, by omega, ⟨rfl, hv.1, hv.2⟩, rfl, by have := h1.set1 ((a + c : Nat) : Int); simpa using this⟩⟩
  · have hgg : gS32 (strl s) e a = .error 50 := by
      unfold gS32
      cases hq : grp 5 (win (strl s) a e) with
      | none => rfl
      | some q =>
        have := hno q.1 q.2 hq
        unfold pS32 at this
        split at this
        · simp at this
        · rename_i hin
          exact if_neg hin
    replace hgg := Lib.hid hgg
    clear hU hno
    go_wp2_with fail
    refine (dwant_no 50 w1).mono ?_
    rintro e' w2 ⟨rfl, rfl⟩
    exact ⟨rfl, t1, .inr ⟨50, hgg.out, rfl⟩⟩
set_option maxRecDepth 100000 in
set_option maxHeartbeats 4000000 in
theorem s64_any {w : World} {p : Nat} {s : ByteArray} {a e : Nat} {l : Int} {cs : List Value} (h : RdAt w p s (a : Int) (e : Int) l cs) (hs : s.size ≤ 262144) (he : e ≤ s.size) (ha : a ≤ e) :
    Calls Tryd.prog 87 #[.pointer (some ⟨p, 0, none⟩), .int .i64 64] w (Rd VSgn p s e l cs (gS64 (strl s) e a) w) := by
  have c0 := h.c0
  have c1 := h.c1
  have c2 := h.c2
  go_enter Tryd.func87, Tryd.ntmps87
  go_wp2_with fail
  go_region_held3 (fun w' => w'.cell? ⟨p, 0, none⟩ = some (.string s) ∧ w'.cell? ⟨p, 1, none⟩ = some (.int .i64 a) ∧ w'.cell? ⟨p, 2, none⟩ = some (.int .i64 e)) (go_keep)
    (first | (go_at_call 111; refine (leb_s64x s hs e he a ha _).mono ?_; rintro e' w1 ⟨hB, x, y, z, rfl, hU⟩; have k0 := keep_below hB ⟨p, 0, none⟩ _ c0; have k1 := keep_below hB ⟨p, 1, none⟩ _ c1; have k2 := keep_below hB ⟨p, 2, none⟩ _ c2; replace hU := Lib.hid hU; replace hB := Lib.hid hB))
  have h1 : RdAt w1 p s (a : Int) (e : Int) l cs := (h.drew).below hB.out
  have t1 : Wr (· = p) w w1 := (Wr.refl (· = p) w).drew.trans (Wr.of_below hB.out)
  clear k0 k1 k2 c0 c1 c2 h hB
  rcases hU.out with ⟨n, c, v, hgr, hc1, hce, hP, rfl, rfl, rfl⟩ | ⟨hno, rfl⟩
  · have hv : -9223372036854775808 ≤ x ∧ x ≤ 9223372036854775807 := by
      unfold pS64 at hP
      split at hP
      · simp only [Option.some.injEq] at hP
        omega
      · simp at hP
    have hgg : gS64 (strl s) e a = .ok (x, a + c) := by
      unfold gS64
      rw [hgr]
      unfold pS64 at hP
      split at hP
      · rename_i hin
        obtain rfl := Option.some.inj hP
        exact if_pos hin
      · simp at hP
    skip
    replace hgg := Lib.hid hgg
    replace hP := Lib.hid hP
    replace hgr := Lib.hid hgr
    clear hU
    have f1 := h1.fr 1
    go_wp2_with fail
    refine (dwant_yes 50 w1).mono ?_
    rintro e' w2 ⟨rfl, rfl⟩
    go_wp2_with fail
    refine bodyPost_ret (by simp [results, Tryd.results87, go_sem] <;> rfl) rfl ?_
    exact ⟨t1.set (S := (· = p)) rfl 1 _, .inl ⟨x, a + c, _, hgg.out, by omega, ⟨rfl, hv.1, hv.2⟩, rfl, by have := h1.set1 ((a + c : Nat) : Int); simpa using this⟩⟩
  · have hgg : gS64 (strl s) e a = .error 50 := by
      unfold gS64
      cases hq : grp 10 (win (strl s) a e) with
      | none => rfl
      | some q =>
        have := hno q.1 q.2 hq
        unfold pS64 at this
        split at this
        · simp at this
        · rename_i hin
          exact if_neg hin
    replace hgg := Lib.hid hgg
    clear hU hno
    go_wp2_with fail
    refine (dwant_no 50 w1).mono ?_
    rintro e' w2 ⟨rfl, rfl⟩
    exact ⟨rfl, t1, .inr ⟨50, hgg.out, rfl⟩⟩
end Go.Proofs.YtkbfjkbokifgkaaDoor
