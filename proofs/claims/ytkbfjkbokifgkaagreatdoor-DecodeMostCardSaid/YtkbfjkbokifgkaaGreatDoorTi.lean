/- The reference's reader: names, imports, exports. -/
import Derived.Test.YtkbfjkbokifgkaaGreatDoorTm
import Derived.Test.YtkbfjkbokifgkaaGreatDoorUl
namespace Go.Proofs.YtkbfjkbokifgkaaGreatDoor
open Go.RowKit
set_option linter.unusedVariables false
set_option linter.unusedSimpArgs false

theorem rName_le (s : List UInt8) (r : RS) (h : r.a ≤ r.e) : (rName s r).2.a ≤ (rName s r).2.e := by
  have h1 := rText_le s r h
  unfold rName
  split
  · exact h1
  · exact bad_le 50 h1
theorem go_name (s : List UInt8) : Go1 (rName s) := fun r => by
  unfold rName
  split
  · exact go_text s r
  · exact (go_text s r).trans (Mv.bad _ 50 (by decide))
theorem rMust_le (s : List UInt8) (b : Int) (r : RS) (h : r.a ≤ r.e) : (rMust s b r).a ≤ (rMust s b r).e := by
  have h1 := rByte_le s r h
  unfold rMust
  split
  · exact h1
  · exact bad_le 50 h1
set_option maxRecDepth 100000 in
set_option maxHeartbeats 4000000 in
theorem qname_any {w : World} {p : Nat} {s : ByteArray} {r : RS} (h : RrAt w p s r) (hs : s.size ≤ 262144) (ha : r.a ≤ r.e) (he : r.e ≤ s.size) :
    Calls Tryz.prog 181 #[.pointer (some ⟨p, 0, none⟩)] w (Rv VText p s (rName (strl s) r) w) := by
  obtain ⟨X, hX⟩ : ∃ X, X = rName (strl s) r := ⟨_, rfl⟩
  rw [← hX]
  unfold rName at hX
  replace hX := Lib.hid hX
  go_enter Tryz.func181, Tryz.ntmps181
  go_wp2_with fail
  refine (qtext_any h hs ha he).mono ?_
  rintro e' w1 ⟨hW, v', ⟨rfl, hlen⟩, rfl, hR⟩
  have hX2 := hX.out
  obtain ⟨B, hBB⟩ : ∃ B, B = rText (strl s) r := ⟨_, rfl⟩
  rw [← hBB] at hR hX2 hlen ⊢
  clear hBB hX h
  obtain ⟨t, b⟩ := B
  dsimp only at hR hX2 hlen ⊢
  have hsz : (mkb t).size ≤ 9223372036854775000 := by
    show t.toArray.size ≤ _
    rw [List.size_toArray]
    omega
  cases hN : nameB (mkb t)
  · rw [hN, if_neg (by simp)] at hX2
    replace hX2 := Lib.hid hX2
    replace hlen := Lib.hid hlen
    go_wp2_with fail
    refine (utfName_any (mkb t) _ hsz).mono ?_
    rintro e' w2 ⟨rfl, rfl⟩
    rw [hN]
    go_wp2_with fail
    refine (qbad_any hR 50).mono ?_
    rintro e' w3 ⟨rfl, hW3, hR3⟩
    go_wp2_with fail
    refine bodyPost_ret (by simp [results, Tryz.results181, go_sem] <;> rfl) rfl ?_
    rw [hX2.out]
    exact ⟨hW.trans hW3, _, ⟨rfl, hlen.out⟩, rfl, hR3⟩
  · rw [hN, if_pos rfl] at hX2
    replace hX2 := Lib.hid hX2
    replace hlen := Lib.hid hlen
    go_wp2_with fail
    refine (utfName_any (mkb t) _ hsz).mono ?_
    rintro e' w2 ⟨rfl, rfl⟩
    rw [hN]
    go_wp2_with fail
    refine bodyPost_ret (by simp [results, Tryz.results181, go_sem] <;> rfl) rfl ?_
    rw [hX2.out]
    exact ⟨hW, _, ⟨rfl, hlen.out⟩, rfl, hR⟩
theorem info80t : (Tryz.prog.info? 80).map (·.size) = some 3 := by kernel_rfl
theorem info93t : (Tryz.prog.info? 93).map (·.size) = some 3 := by kernel_rfl
def rImported (s : List UInt8) (r : RS) : Rg (List UInt8 × List UInt8 × Int) :=
  let m := rName s r
  let n := rName s m.2
  let t := rU s (rMust s 0 n.2)
  ((m.1, n.1, t.1), t.2)
def VIm (v : List UInt8 × List UInt8 × Int) (x : Value) : Prop := v.1.length ≤ 262144 ∧ v.2.1.length ≤ 262144 ∧ x = .agg #[.string (mkb v.1), .string (mkb v.2.1), .int .i64 v.2.2]
def rExported (s : List UInt8) (r : RS) : Rg (List UInt8 × Int × Int) :=
  let n := rName s r
  let k := rByte s n.2
  let i := rU s (if 3 < k.1 then k.2.bad 50 else k.2)
  ((n.1, k.1, i.1), i.2)
def VEx (v : List UInt8 × Int × Int) (x : Value) : Prop := v.1.length ≤ 262144 ∧ x = .agg #[.string (mkb v.1), .int .i64 v.2.1, .int .i64 v.2.2]
set_option maxRecDepth 100000 in
set_option maxHeartbeats 8000000 in
theorem qimported_any {w : World} {p : Nat} {s : ByteArray} {r : RS} (h : RrAt w p s r) (hs : s.size ≤ 262144) (ha : r.a ≤ r.e) (he : r.e ≤ s.size) :
    Calls Tryz.prog 145 #[.pointer (some ⟨p, 0, none⟩)] w (Rv VIm p s (rImported (strl s) r) w) := by
  obtain ⟨q, hq⟩ : ∃ q, q = w.heap.size := ⟨_, rfl⟩
  have hB0 : Below w.heap.size w (w.alloc (.cells #[.string ⟨#[]⟩, .string ⟨#[]⟩, .int .i64 0] 80)) := (Below.refl _ _).alloc (Nat.le_refl _) _
  have hR0 := h.below hB0
  have hK0 : Bk (w.alloc (.cells #[.string ⟨#[]⟩, .string ⟨#[]⟩, .int .i64 0] 80)) q [.string ⟨#[]⟩, .string ⟨#[]⟩, .int .i64 0] 80 := by rw [hq]; exact Bk.new _ _ _
  have hW0 : Wr (· = p) w (w.alloc (.cells #[.string ⟨#[]⟩, .string ⟨#[]⟩, .int .i64 0] 80)) := Wr.of_below hB0
  have hpq : p < q := by rw [hq]; exact h.lt
  have hbo := rName_le (strl s) r ha
  have hbe := (go_name (strl s) r).e
  clear h
  obtain ⟨X, hX⟩ : ∃ X, X = rImported (strl s) r := ⟨_, rfl⟩
  rw [← hX]
  unfold rImported at hX
  dsimp only at hX
  replace hX := Lib.hid hX
  go_enter Tryz.func145, Tryz.ntmps145
  go_upto_region 1 with (fail)
  rw [← hq]
  obtain ⟨w0, hw0⟩ : ∃ w0, w0 = w.alloc (.cells #[.string ⟨#[]⟩, .string ⟨#[]⟩, .int .i64 0] 80) := ⟨_, rfl⟩
  rw [← hw0] at hR0 hK0 hW0 ⊢
  clear hw0 hB0
  replace hq := Lib.hid hq
  replace hW0 := Lib.hid hW0
  replace hK0 := Lib.hid hK0
  go_wp2_with fail
  refine (qname_any hR0 hs ha he).mono ?_
  rintro e' w1 ⟨hW1, v', ⟨rfl, hlen⟩, rfl, hR1⟩
  have hW1' := hW0.out.trans hW1
  have hK1 := hK0.out.wr hW1 (by omega)
  have hX2 := hX.out
  obtain ⟨B, hB⟩ : ∃ B, B = rName (strl s) r := ⟨_, rfl⟩
  rw [← hB] at hR1 hX2 hbo hbe hlen ⊢
  clear hB hX hW1 hK0 hW0 hR0
  obtain ⟨t, r0⟩ := B
  dsimp only at hR1 hX2 hbo hbe hlen ⊢
  replace hX2 := Lib.hid hX2
  replace hlen := Lib.hid hlen
  go_upto_region 2 with (fail)
  have hB1 : Below w1.heap.size w1 (w1.alloc (.cells #[.string (mkb t), .string ⟨#[]⟩, .int .i64 0] 80)) := (Below.refl _ _).alloc (Nat.le_refl _) _
  have hR2 := hR1.below hB1
  have hK2 := hK1.below hB1
  have hW2 := hW1'.trans (Wr.of_below hB1)
  have hX3 := Bk.new w1 [.string (mkb t), .string ⟨#[]⟩, .int .i64 0] 80
  have hqx : q < w1.heap.size := hK1.lt
  obtain ⟨x, hx⟩ : ∃ x, x = w1.heap.size := ⟨_, rfl⟩
  obtain ⟨w2, hw2⟩ : ∃ w2, w2 = w1.alloc (.cells #[.string (mkb t), .string ⟨#[]⟩, .int .i64 0] 80) := ⟨_, rfl⟩
  rw [← hx] at hX3 hqx ⊢
  rw [show (w1.alloc (.cells [.string (mkb t), .string ⟨#[]⟩, .int .i64 0].toArray 80)) = w2 from hw2.symm] at hX3
  rw [← hw2] at hR2 hK2 hW2 ⊢
  clear hw2 hB1 hR1 hK1 hW1'
  have hwx : w.heap.size ≤ x := by rw [hq.out] at hqx; omega
  replace hx := Lib.hid hx
  replace hK2 := Lib.hid hK2
  replace hW2 := Lib.hid hW2
  replace hX3 := Lib.hid hX3
  have hco := rName_le (strl s) r0 hbo
  have hce := ((go_name (strl s) r0).e).trans hbe
  go_wp2_with fail
  refine (qname_any hR2 hs hbo (by omega)).mono ?_
  rintro e' w3 ⟨hW3, v', ⟨rfl, hlen2⟩, rfl, hR3⟩
  have hW3' := hW2.out.trans hW3
  have hK3 := hK2.out.wr hW3 (by omega)
  have hX4 := hX3.out.wr hW3 (by omega)
  have hX5 := hX2.out
  obtain ⟨C, hC⟩ : ∃ C, C = rName (strl s) r0 := ⟨_, rfl⟩
  rw [← hC] at hR3 hX5 hco hce hlen2 ⊢
  clear hC hX2 hW3 hK2 hW2 hR2 hX3
  obtain ⟨u, r2⟩ := C
  dsimp only at hR3 hX5 hco hce hlen2 ⊢
  replace hX5 := Lib.hid hX5
  replace hlen2 := Lib.hid hlen2
  have x1 := hX4.cell (j := 1) rfl
  have fx := hX4.fr 1
  go_upto_region 3 with (fail)
  have hRa := hR3.far (q := x) (by omega) 1 (.string (mkb u))
  have hKa := hK3.far (p := x) (by omega) 1 (.string (mkb u))
  have hXa := hX4.set 1 (.string (mkb u))
  have hWa := hW3'.fresh (q := x) hwx 1 (.string (mkb u))
  obtain ⟨wa, hwa⟩ : ∃ wa, wa = w3.setCell ⟨x, 1, none⟩ (.string (mkb u)) := ⟨_, rfl⟩
  rw [← hwa] at hRa hKa hXa hWa ⊢
  clear hwa hR3 hK3 hX4 hW3' x1 fx
  replace hKa := Lib.hid hKa
  replace hWa := Lib.hid hWa
  replace hXa := Lib.hid hXa
  have hmo := rMust_le (strl s) 0 r2 hco
  have hme := ((go_must (strl s) 0 r2).e).trans hce
  go_wp2_with fail
  refine (qmust_any hRa hs (by omega) 0).mono ?_
  rintro e' w4 ⟨hW4, v', rfl, rfl, hR4⟩
  change RrAt w4 p s (rMust (strl s) 0 r2) at hR4
  have hW4' := hWa.out.trans hW4
  have hK4 := hKa.out.wr hW4 (by omega)
  have hX6 := hXa.out.wr hW4 (by omega)
  have hX7 := hX5.out
  obtain ⟨r3, hr3⟩ : ∃ r3, r3 = rMust (strl s) 0 r2 := ⟨_, rfl⟩
  rw [← hr3] at hR4 hX7 hmo hme
  clear hr3 hX5 hW4 hKa hWa hXa hRa
  replace hX7 := Lib.hid hX7
  replace hK4 := Lib.hid hK4
  replace hW4' := Lib.hid hW4'
  replace hX6 := Lib.hid hX6
  go_wp2_with fail
  refine (qu_any hR4 hs hmo (by omega)).mono ?_
  rintro e' w5 ⟨hW5, v', rfl, rfl, hR5⟩
  change RrAt w5 p s (rU (strl s) r3).2 at hR5
  have hBv : rNum (gU (strl s)) r3 = rU (strl s) r3 := rfl
  rw [hBv]
  have hX5 := hX7.out
  obtain ⟨M, hM⟩ : ∃ M, M = rU (strl s) r3 := ⟨_, rfl⟩
  rw [← hM] at hR5 hX5 ⊢
  clear hM hBv hX7
  obtain ⟨n, r5⟩ := M
  dsimp only at hR5 hX5 ⊢
  replace hX5 := Lib.hid hX5
  have hW5' := hW4'.out.trans hW5
  have hK5 := hK4.out.wr hW5 (by omega)
  have hX8 := hX6.out.wr hW5 (by omega)
  clear hW5 hK4 hW4' hR4 hX6
  have x2 := hX8.cell (j := 2) rfl
  have fx := hX8.fr 2
  go_upto_region 5 with (fail)
  have hRc := hR5.far (q := x) (by omega) 2 (.int .i64 n)
  have hKc := hK5.far (p := x) (by omega) 2 (.int .i64 n)
  have hXc := hX8.set 2 (.int .i64 n)
  have hWc := hW5'.fresh (q := x) hwx 2 (.int .i64 n)
  obtain ⟨wc, hwc⟩ : ∃ wc, wc = w5.setCell ⟨x, 2, none⟩ (.int .i64 n) := ⟨_, rfl⟩
  rw [← hwc] at hRc hKc hXc hWc ⊢
  clear hwc hR5 hK5 hX8 hW5' x2 fx
  have y0 := hXc.cell (j := 0) rfl
  have y1 := hXc.cell (j := 1) rfl
  have y2 := hXc.cell (j := 2) rfl
  have z0 := hKc.cell (j := 0) rfl
  have z1 := hKc.cell (j := 1) rfl
  have z2 := hKc.cell (j := 2) rfl
  have q0 := hKc.fr 0
  have q1 := hKc.fr 1
  have q2 := hKc.fr 2
  have hrw := Nat.le_of_eq hq.out.symm
  have F := (((hKc.set 0 (.string (mkb t))).set 1 (.string (mkb u))).set 2 (.int .i64 n))
  have hRe := (((hRc.far (q := q) (by omega) 0 (.string (mkb t))).far (q := q) (by omega) 1 (.string (mkb u))).far (q := q) (by omega) 2 (.int .i64 n))
  have hWe := (((hWc.fresh (q := q) hrw 0 (.string (mkb t))).fresh (q := q) hrw 1 (.string (mkb u))).fresh (q := q) hrw 2 (.int .i64 n))
  replace F := Lib.hid F
  replace hRe := Lib.hid hRe
  replace hWe := Lib.hid hWe
  clear hRc hKc hXc hWc hrw
  go_wp2_with fail
  refine bodyPost_ret (results_cell_row (P := Tryz.prog) rfl _ _ q 80 #[(Value.string (mkb t)), (Value.string (mkb u)), (Value.int .i64 n)] (0, 0) _ rfl F.out.row Tryz.underlying80 rfl info80t) rfl ?_
  rw [hX5.out]
  exact ⟨hWe.out, _, ⟨hlen.out, hlen2.out, rfl⟩, rfl, hRe.out⟩
set_option maxRecDepth 100000 in
set_option maxHeartbeats 8000000 in
theorem qexported_any {w : World} {p : Nat} {s : ByteArray} {r : RS} (h : RrAt w p s r) (hs : s.size ≤ 262144) (ha : r.a ≤ r.e) (he : r.e ≤ s.size) :
    Calls Tryz.prog 148 #[.pointer (some ⟨p, 0, none⟩)] w (Rv VEx p s (rExported (strl s) r) w) := by
  obtain ⟨q, hq⟩ : ∃ q, q = w.heap.size := ⟨_, rfl⟩
  have hB0 : Below w.heap.size w (w.alloc (.cells #[.string ⟨#[]⟩, .int .i64 0, .int .i64 0] 93)) := (Below.refl _ _).alloc (Nat.le_refl _) _
  have hR0 := h.below hB0
  have hK0 : Bk (w.alloc (.cells #[.string ⟨#[]⟩, .int .i64 0, .int .i64 0] 93)) q [.string ⟨#[]⟩, .int .i64 0, .int .i64 0] 93 := by rw [hq]; exact Bk.new _ _ _
  have hW0 : Wr (· = p) w (w.alloc (.cells #[.string ⟨#[]⟩, .int .i64 0, .int .i64 0] 93)) := Wr.of_below hB0
  have hpq : p < q := by rw [hq]; exact h.lt
  have hbo := rName_le (strl s) r ha
  have hbe := (go_name (strl s) r).e
  clear h
  obtain ⟨X, hX⟩ : ∃ X, X = rExported (strl s) r := ⟨_, rfl⟩
  rw [← hX]
  unfold rExported at hX
  dsimp only at hX
  replace hX := Lib.hid hX
  go_enter Tryz.func148, Tryz.ntmps148
  go_upto_region 1 with (fail)
  rw [← hq]
  obtain ⟨w0, hw0⟩ : ∃ w0, w0 = w.alloc (.cells #[.string ⟨#[]⟩, .int .i64 0, .int .i64 0] 93) := ⟨_, rfl⟩
  rw [← hw0] at hR0 hK0 hW0 ⊢
  clear hw0 hB0
  replace hq := Lib.hid hq
  replace hW0 := Lib.hid hW0
  replace hK0 := Lib.hid hK0
  go_wp2_with fail
  refine (qname_any hR0 hs ha he).mono ?_
  rintro e' w1 ⟨hW1, v', ⟨rfl, hlen⟩, rfl, hR1⟩
  have hW1' := hW0.out.trans hW1
  have hK1 := hK0.out.wr hW1 (by omega)
  have hX2 := hX.out
  obtain ⟨B, hB⟩ : ∃ B, B = rName (strl s) r := ⟨_, rfl⟩
  rw [← hB] at hR1 hX2 hbo hbe hlen ⊢
  clear hB hX hW1 hK0 hW0 hR0
  obtain ⟨t, r0⟩ := B
  dsimp only at hR1 hX2 hbo hbe hlen ⊢
  replace hX2 := Lib.hid hX2
  replace hlen := Lib.hid hlen
  go_upto_region 2 with (fail)
  have hB1 : Below w1.heap.size w1 (w1.alloc (.cells #[.string (mkb t), .int .i64 0, .int .i64 0] 93)) := (Below.refl _ _).alloc (Nat.le_refl _) _
  have hR2 := hR1.below hB1
  have hK2 := hK1.below hB1
  have hW2 := hW1'.trans (Wr.of_below hB1)
  have hX3 := Bk.new w1 [.string (mkb t), .int .i64 0, .int .i64 0] 93
  have hqx : q < w1.heap.size := hK1.lt
  obtain ⟨x, hx⟩ : ∃ x, x = w1.heap.size := ⟨_, rfl⟩
  obtain ⟨w2, hw2⟩ : ∃ w2, w2 = w1.alloc (.cells #[.string (mkb t), .int .i64 0, .int .i64 0] 93) := ⟨_, rfl⟩
  rw [← hx] at hX3 hqx ⊢
  rw [show (w1.alloc (.cells [.string (mkb t), .int .i64 0, .int .i64 0].toArray 93)) = w2 from hw2.symm] at hX3
  rw [← hw2] at hR2 hK2 hW2 ⊢
  clear hw2 hB1 hR1 hK1 hW1'
  have hwx : w.heap.size ≤ x := by rw [hq.out] at hqx; omega
  replace hx := Lib.hid hx
  replace hK2 := Lib.hid hK2
  replace hW2 := Lib.hid hW2
  replace hX3 := Lib.hid hX3
  have hco := rByte_le (strl s) r0 hbo
  have hce := ((go_byte (strl s) r0).e).trans hbe
  go_wp2_with fail
  refine (qbyte_any hR2 hs (by omega)).mono ?_
  rintro e' w3 ⟨hW3, v', rfl, rfl, hR3⟩
  have hW3' := hW2.out.trans hW3
  have hK3 := hK2.out.wr hW3 (by omega)
  have hX4 := hX3.out.wr hW3 (by omega)
  have hX5 := hX2.out
  obtain ⟨C, hC⟩ : ∃ C, C = rByte (strl s) r0 := ⟨_, rfl⟩
  rw [← hC] at hR3 hX5 hco hce ⊢
  clear hC hX2 hW3 hK2 hW2 hR2 hX3
  obtain ⟨b, r2⟩ := C
  dsimp only at hR3 hX5 hco hce ⊢
  obtain ⟨r3, hr3⟩ : ∃ r3, r3 = if 3 < b then r2.bad 50 else r2 := ⟨_, rfl⟩
  rw [← hr3] at hX5
  have h3a : r3.a ≤ r3.e := by rw [hr3]; split; exact bad_le 50 hco; exact hco
  have h3e : r3.e = r.e := by rw [hr3]; split; exact (bad_e _ _).trans hce; exact hce
  replace hX5 := Lib.hid hX5
  have x1 := hX4.cell (j := 1) rfl
  have fx := hX4.fr 1
  go_upto_region 3 with (fail)
  have hRa := hR3.far (q := x) (by omega) 1 (.int .i64 b)
  have hKa := hK3.far (p := x) (by omega) 1 (.int .i64 b)
  have hXa := hX4.set 1 (.int .i64 b)
  have hWa := hW3'.fresh (q := x) hwx 1 (.int .i64 b)
  obtain ⟨wa, hwa⟩ : ∃ wa, wa = w3.setCell ⟨x, 1, none⟩ (.int .i64 b) := ⟨_, rfl⟩
  rw [← hwa] at hRa hKa hXa hWa ⊢
  clear hwa hR3 hK3 hX4 hW3' x1 fx
  have x1 := hXa.cell (j := 1) rfl
  by_cases hb : 3 < b
  case' pos =>
    rw [if_pos hb] at hr3
    have hbb : decide (3 < b) = true := decide_eq_true hb
    replace hr3 := Lib.hid hr3
    go_wp2_with fail
    refine (qbad_any hRa 50).mono ?_
    rintro e' wy ⟨rfl, hWy, hRy⟩
    rw [← hr3.out] at hRy
    have hKy := hKa.wr hWy (by omega)
    have hXy := hXa.wr hWy (by omega)
    replace hWy := hWa.trans hWy
  case' neg =>
    rw [if_neg hb] at hr3
    have hbb : decide (3 < b) = false := decide_eq_false hb
    subst hr3
    obtain ⟨wy, hwy⟩ : ∃ wy, wy = wa := ⟨_, rfl⟩
    subst hwy
    have hRy := hRa
    have hWy := hWa
    have hKy := hKa
    have hXy := hXa
  all_goals
    clear hRa hWa hKa hXa
    replace hKy := Lib.hid hKy
    replace hWy := Lib.hid hWy
    replace hXy := Lib.hid hXy
    replace hRy := Lib.hid hRy
    go_wp2_with fail
    refine (qu_any hRy.out hs h3a (by omega)).mono ?_
    rintro e' w5 ⟨hW5, v', rfl, rfl, hR5⟩
    have hX7 := hX5.out
    clear hX5
    change RrAt w5 p s (rU (strl s) _).2 at hR5
    rw [show ∀ r, rNum (gU (strl s)) r = rU (strl s) r from fun _ => rfl]
    generalize rU (strl s) _ = M at hR5 hX7 ⊢
    obtain ⟨n, r5⟩ := M
    dsimp only at hR5 hX7 ⊢
    have hX5 := Lib.hid hX7
    clear hX7
    have hW5' := hWy.out.trans hW5
    have hK5 := hKy.out.wr hW5 (by omega)
    have hX8 := hXy.out.wr hW5 (by omega)
    clear hW5 hKy hWy hRy hXy x1
    have x2 := hX8.cell (j := 2) rfl
    have fx := hX8.fr 2
    go_upto_region 6 with (fail)
    have hRc := hR5.far (q := x) (by omega) 2 (.int .i64 n)
    have hKc := hK5.far (p := x) (by omega) 2 (.int .i64 n)
    have hXc := hX8.set 2 (.int .i64 n)
    have hWc := hW5'.fresh (q := x) hwx 2 (.int .i64 n)
    obtain ⟨wc, hwc⟩ : ∃ wc, wc = w5.setCell ⟨x, 2, none⟩ (.int .i64 n) := ⟨_, rfl⟩
    rw [← hwc] at hRc hKc hXc hWc ⊢
    clear hwc hR5 hK5 hX8 hW5' x2 fx
    have y0 := hXc.cell (j := 0) rfl
    have y1 := hXc.cell (j := 1) rfl
    have y2 := hXc.cell (j := 2) rfl
    have z0 := hKc.cell (j := 0) rfl
    have z1 := hKc.cell (j := 1) rfl
    have z2 := hKc.cell (j := 2) rfl
    have q0 := hKc.fr 0
    have q1 := hKc.fr 1
    have q2 := hKc.fr 2
    have hrw := Nat.le_of_eq hq.out.symm
    have F := (((hKc.set 0 (.string (mkb t))).set 1 (.int .i64 b)).set 2 (.int .i64 n))
    have hRe := (((hRc.far (q := q) (by omega) 0 (.string (mkb t))).far (q := q) (by omega) 1 (.int .i64 b)).far (q := q) (by omega) 2 (.int .i64 n))
    have hWe := (((hWc.fresh (q := q) hrw 0 (.string (mkb t))).fresh (q := q) hrw 1 (.int .i64 b)).fresh (q := q) hrw 2 (.int .i64 n))
    replace F := Lib.hid F
    replace hRe := Lib.hid hRe
    replace hWe := Lib.hid hWe
    clear hRc hKc hXc hWc hrw
    go_wp2_with fail
    refine bodyPost_ret (results_cell_row (P := Tryz.prog) rfl _ _ q 93 #[(Value.string (mkb t)), (Value.int .i64 b), (Value.int .i64 n)] (0, 0) _ rfl F.out.row Tryz.underlying93 rfl info93t) rfl ?_
    rw [hX5.out]
    exact ⟨hWe.out, _, ⟨hlen.out, rfl⟩, rfl, hRe.out⟩
end Go.Proofs.YtkbfjkbokifgkaaGreatDoor
