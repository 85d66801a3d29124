/- The contracts of limits, begins. -/
import Derived.Test.YtacohbllbjgdgaaDoorMh
import Derived.Test.YtacohbllbjgdgaaDoorMf
namespace Go.Proofs.YtacohbllbjgdgaaDoor
open Go.RowKit
set_option linter.unusedVariables false

def lim1 (t : Int × Int × Bool) : Bool := (idx1 t.1 && idx1 t.2.1) && (t.2.2 || t.2.1 == 0)

set_option maxRecDepth 100000 in
set_option maxHeartbeats 4000000 in
theorem limits_any (l : List (Int × Int × Bool)) (ao : Option Addr) (c : Nat) (w : World) (h : RowsIn LimitsAt 3 w ao l) :
    Calls Tryd.prog 34 #[.slice ao l.length c] w fun e w' => e = endE (l.all lim1) 30 ∧ Below w.heap.size w w' := by
  obtain ⟨N, hN⟩ : ∃ N, l.length = N := ⟨_, rfl⟩
  have hl := h.1
  have HR := Lib.hid h
  clear h
  rw [hN] at hl ⊢
  go_enter Tryd.func34, Tryd.ntmps34
  go_wp2_with fail
  go_loopw [6] (fun vi wr => ∃ i : Nat, i ≤ N ∧ vi = .int .i64 i ∧ Hid ((l.take i).all lim1 = true) ∧ Hid (Below w.heap.size w wr)) (fun vi _ => N - (intOf vi).toNat)
  case atStart => exact ⟨0, Nat.zero_le _, rfl, Lib.hid rfl, Lib.hid (Below.refl _ _)⟩
  case round =>
    obtain ⟨i, hi, rfl, ha, hb⟩ := hrel
    by_cases hlt : i < N
    · obtain ⟨t, ht⟩ : ∃ t, l[i]? = some t := ⟨_, List.getElem?_eq_getElem (by omega)⟩
      obtain ⟨b, o, rfl, hrow⟩ := (HR.out.keep fun _ _ _ => LimitsAt.keep (keep_below hb.out)).row ht
      obtain ⟨mn, mx, has⟩ := t
      obtain ⟨c0, c1, c2⟩ := hrow
      have c0 : wr.cell? ⟨b, o + i * 3, none⟩ = some (.int .i64 mn) := c0
      have c1 : wr.cell? ⟨b, o + i * 3 + 1, none⟩ = some (.int .i64 mx) := c1
      have c2 : wr.cell? ⟨b, o + i * 3 + 2, none⟩ = some (.bool has) := c2
      have hn := Lib.hid (all_row ht ha.out)
      clear ht ha
      have hal2 : ∀ o1 o2, Below w.heap.size w ((wr.alloc o1).alloc o2) := fun o1 o2 => hb.out.trans ((((Below.refl _ _).alloc (Nat.le_refl _) o1).alloc (by simp) o2).mono hb.out.size)
      cases hres : idx1 mn && idx1 mx
      · have hn2 := Lib.hid (hn.out.2 (by unfold lim1; rw [hres]; rfl))
        have HI := fun (wq : World) h => Lib.hid (index_no [mn, mx] (some ⟨wr.heap.size + 1, 0, none⟩) 2 wq h ((all_two mn mx).trans hres))
        clear hn
        go_wp2_with fail
        refine (HI _ (by have := ints_new (wr.alloc (.cells #[.int .i64 mn, .int .i64 mx, .bool has] 64)) [mn, mx] (by simp); simpa using this)).out.mono ?_
        rintro e w' ⟨rfl, rfl⟩
        go_wp2
        exact ⟨rfl, by rw [hn2.out]; rfl, hal2 _ _⟩
      · have HI := fun (wq : World) h => Lib.hid (index_yes [mn, mx] (some ⟨wr.heap.size + 1, 0, none⟩) 2 wq h ((all_two mn mx).trans hres))
        go_wp2_with fail
        refine (HI _ (by have := ints_new (wr.alloc (.cells #[.int .i64 mn, .int .i64 mx, .bool has] 64)) [mn, mx] (by simp); simpa using this)).out.mono ?_
        rintro e w' ⟨rfl, rfl⟩
        cases has
        · by_cases h0 : mx = 0
          · subst h0
            have hn2 := Lib.hid (hn.out.1 (by unfold lim1; rw [hres]; rfl))
            clear hn
            go_wp2_with fail
            refine (want_yes 30 _).mono ?_
            rintro e w' ⟨rfl, rfl⟩
            go_wp2
            go_roundw
            case rel => exact ⟨i + 1, by omega, by simp, hn2, Lib.hid (hal2 _ _)⟩
            case measure => simp [intOf]; omega
          · have q0 : (mx == 0) = false := by simp [h0]
            have hn2 := Lib.hid (hn.out.2 (by unfold lim1; rw [hres]; exact q0))
            clear hn
            go_wp2_with fail
            refine (want_no 30 _).mono ?_
            rintro e w' ⟨rfl, rfl⟩
            go_wp2
            exact ⟨rfl, by rw [hn2.out]; rfl, hal2 _ _⟩
        · have hn2 := Lib.hid (hn.out.1 (by unfold lim1; rw [hres]; rfl))
          clear hn
          go_wp2_with fail
          refine (want_yes 30 _).mono ?_
          rintro e w' ⟨rfl, rfl⟩
          go_wp2
          go_roundw
          case rel => exact ⟨i + 1, by omega, by simp, hn2, Lib.hid (hal2 _ _)⟩
          case measure => simp [intOf]; omega
    · obtain rfl : i = N := by omega
      have ht : l.take i = l := by rw [← hN]; exact List.take_length
      have ha2 := Lib.hid (ht ▸ ha.out)
      clear ht ha
      go_wp2
      go_end0
      exact ⟨by rw [ha2.out]; rfl, hb.out⟩

/-- Does something begin with an instruction? -/
def beg1 (q : One) : Bool := (q.op == 65 || (q.op == 66 || q.op == 35)) && formB q.il

/-- An instruction's value, by its seven parts. -/
structure OneIs (w : World) (q : One) (a4 : Option Addr) (k4 : Nat) (a5 : Option Addr) (k5 : Nat) (a6 : Option Addr) (k6 : Nat) : Prop where
  i4 : IntsIn w a4 q.ls
  l5 : q.body.len ≤ 9223372036854775807
  i5 : IlIn w a5 0 q.body
  l6 : q.els.len ≤ 9223372036854775807
  i6 : IlIn w a6 0 q.els
theorem OneIs.keep {w w' : World} (f : Keeps w w') {q : One} {a4 : Option Addr} {k4 : Nat} {a5 : Option Addr} {k5 : Nat} {a6 : Option Addr} {k6 : Nat} (h : OneIs w q a4 k4 a5 k5 a6 k6) : OneIs w' q a4 k4 a5 k5 a6 k6 :=
  ⟨h.i4.keep f, h.l5, h.i5.keep f, h.l6, h.i6.keep f⟩
def oneV (q : One) (a4 : Option Addr) (k4 : Nat) (a5 : Option Addr) (k5 : Nat) (a6 : Option Addr) (k6 : Nat) : Array Value :=
  #[.int .i64 q.op, .int .i64 q.x, .int .i64 q.y, .int .i64 q.n, .slice a4 q.ls.length k4, .slice a5 q.body.len k5, .slice a6 q.els.len k6]
theorem OneIs.new {w : World} {q : One} {a4 : Option Addr} {k4 : Nat} {a5 : Option Addr} {k5 : Nat} {a6 : Option Addr} {k6 : Nat} (h : OneIs w q a4 k4 a5 k5 a6 k6) :
    IlIn (w.alloc (.cells (oneV q a4 k4 a5 k5 a6 k6) 26)) (some ⟨w.heap.size, 0, none⟩) 0 q.il := by
  have f := keep_below ((Below.refl w.heap.size w).alloc (Nat.le_refl _) (.cells (oneV q a4 k4 a5 k5 a6 k6) 26))
  have g : ∀ j v, (oneV q a4 k4 a5 k5 a6 k6)[j]? = some v → (w.alloc (.cells (oneV q a4 k4 a5 k5 a6 k6) 26)).cell? ⟨w.heap.size, j, none⟩ = some v := fun j v h => by rw [World.cell?_alloc_at _ _ _ _ rfl, h]
  refine .inr ⟨_, _, rfl, ⟨g 0 _ rfl, g 1 _ rfl, g 2 _ rfl, g 3 _ rfl⟩, ⟨a4, k4, g 4 _ rfl, h.i4.keep f⟩, ⟨a5, k5, g 5 _ rfl, h.l5, ?_⟩, ⟨a6, k6, g 6 _ rfl, h.l6, ?_⟩, trivial⟩
  · have := h.i5.keep f
    simpa [IlIn] using this
  · have := h.i6.keep f
    simpa [IlIn] using this
end Go.Proofs.YtacohbllbjgdgaaDoor
