/- The law's weigh: what it tells is small. -/
import Derived.Test.YtkbfjkbokifgkaaDoorMb
import Derived.Test.YtkbfjkbokifgkaaDoorMh
import Derived.Test.YtkbfjkbokifgkaaDoorFc
import Derived.Test.YtkbfjkbokifgkaaDoorGd
import Derived.Test.YtkbfjkbokifgkaaDoorMk
import Derived.Deep.AppendLies
import Derived.Laws.MakeOwn
import Derived.Laws.AppendOwn
import Derived.OwnWalk
import Derived.KernelRfl
import Derived.Test.YtkbfjkbokifgkaaDoorCb
import Derived.Test.YtkbfjkbokifgkaaDoorPu
import Derived.Deep.AppendSrc
import Derived.Deep.RegionLaw
import Derived.Deep.RegionHeld3
import Derived.Deep.Cut
import Derived.Deep.CutRange
import Derived.Orders
import Derived.RegionTactic
import Derived.Test.YtkbfjkbokifgkaaDoorOp
namespace Go.Proofs.YtkbfjkbokifgkaaDoor
open Go.RowKit
set_option linter.unusedVariables false

theorem wrap_id64 (n : Int) (h0 : 0 ≤ n) (h1 : n < 9223372036854775808) : IntKind.i64.wrap n = n := by
  simp [IntKind.wrap, IntKind.bits, IntKind.signed]
  omega

/-- Nothing in it is long. -/
def Sml : Il → Prop
  | .nil => True
  | .cons _ _ _ _ ls body els rest => ls.length ≤ 20000 ∧ body.len ≤ 1600 ∧ els.len ≤ 1600 ∧ Sml body ∧ Sml els ∧ Sml rest

/-- How heavy. -/
def wt : Il → Nat
  | .nil => 0
  | .cons _ _ _ _ ls body els rest => 1 + ls.length / 10 + wt body + wt els + wt rest
theorem wt_zero : ∀ {l : Il}, l.len = 0 → wt l = 0
  | .nil, _ => rfl
  | .cons .., h => by simp [Il.len] at h
structure WeighP (l : Il) (n r : Int) : Prop where
  lo : -1 ≤ r
  empty : l.len = 0 → r = n ∨ r = -1
  hi : 0 < l.len → r ≤ 1500
  sml : 0 ≤ r → 0 ≤ n ∧ n + l.len ≤ r ∧ Sml l
  wts : 0 ≤ r → n + (wt l : Int) ≤ r

def WeighC (l : Il) : Prop := ∀ (ao : Option Addr) (c : Nat) (w : World) (d n : Int), l.len ≤ 9223372036854775807 → IlIn w ao 0 l → 0 ≤ d → d ≤ 81 → -1 ≤ n → n ≤ 4611686018427387904 →
  Calls Tryd.prog 23 #[.slice ao l.len c, .int .i64 d, .int .i64 n] w fun e w' => ∃ r, e = .returned (.int .i64 r) ∧ WeighP l n r ∧ w = w'

set_option maxRecDepth 100000 in
set_option maxHeartbeats 2000000 in
theorem weigh_step (l : Il) (hs : Sub WeighC l) : WeighC l := by
  intro ao c w d n hl hw hd0 hd1 hn0 hn1
  obtain ⟨N, hN⟩ : ∃ N, l.len = N := ⟨_, rfl⟩
  rw [hN] at hl ⊢
  have hbad : WeighP l n (-1) := ⟨by omega, fun _ => .inr rfl, fun _ => by omega, fun h => by omega, fun h => by omega⟩
  go_enter Tryd.func23, Tryd.ntmps23
  by_cases hg : n < 0 ∨ d > 80
  · go_wp2
    all_goals (go_ret; exact ⟨_, rfl, hbad, rfl⟩)
  have hng : 0 ≤ n := by omega
  have hdg : d ≤ 80 := by omega
  clear hg
  go_wp2_with fail
  go_loopw [2, 7] (fun vn vi wr => ∃ (i : Nat) (r : Il) (k : Int), vi = .int .i64 i ∧ vn = .int .i64 k ∧ wr = w ∧ i + r.len = N ∧ -1 ≤ k ∧ k ≤ 4611686018427387904 ∧ Hid (IlIn w ao i r) ∧ Hid (Sub WeighC r) ∧ Hid ((i = 0 → k = n) ∧ (0 < i → k ≤ 1500) ∧ (0 ≤ k → n + i ≤ k ∧ (Sml r → Sml l) ∧ n + (wt l : Int) ≤ k + (wt r : Int)))) (fun _ vi _ => N - (intOf vi).toNat)
  case atStart => exact ⟨0, l, n, rfl, rfl, rfl, by omega, by omega, by omega, Lib.hid hw, Lib.hid hs, Lib.hid ⟨fun _ => rfl, fun h => by omega, fun _ => ⟨by omega, id, Int.le_refl _⟩⟩⟩
  case round =>
    obtain ⟨i, r, k, rfl, rfl, rfl, hi, hk0, hk1, hr, hsub, hc⟩ := hrel
    by_cases hkn : k < 0
    · have hk : k = -1 := by omega
      subst hk
      by_cases hiN : i < N
      · go_wp2
        go_ret
        exact ⟨_, rfl, hbad, rfl⟩
      · go_wp2
        go_ret
        exact ⟨_, rfl, hbad, rfl⟩
    cases r with
    | nil =>
      have hiN : i = N := by simpa [Il.len] using hi
      have hfin : WeighP l n k := by
        obtain ⟨g1, g2, g3⟩ := hc.out
        have g4 := g3 (by omega)
        exact ⟨by omega, fun h => .inl (g1 (by omega)), fun h => g2 (by omega), fun h => ⟨hng, by omega, g4.2.1 trivial⟩, fun h => by have := g4.2.2; simp only [wt] at this; omega⟩
      subst hiN
      clear hc
      go_wp2
      go_ret
      exact ⟨_, rfl, hfin, rfl⟩
    | cons op x y n' ls body els rest =>
      have hlen : i + (rest.len + 1) = N := hi
      have hlt : i < N := by omega
      obtain ⟨b, o, a4, k4, a5, k5, a6, k6, rfl, hh, hrest⟩ := hr.out.head
      obtain ⟨c0, c1, c2, c3, c4, c5, c6, i4, l5, i5, l6, i6⟩ := hh
      have hls := i4.1
      have hr2 := Lib.hid hrest
      have hsr := Lib.hid hsub.out.2.2
      have hcb := fun (m : Int) h1 h2 => Lib.hid (hsub.out.1 a5 k5 wr (d + 1) m l5 i5 (by omega) (by omega) h1 h2)
      have hce := fun (m : Int) h1 h2 => Lib.hid (hsub.out.2.1 a6 k6 wr (d + 1) m l6 i6 (by omega) (by omega) h1 h2)
      have hc3 := Lib.hid (hc.out.2.2 (by omega))
      clear hr hrest hi hsub hc i4 i5 i6
      obtain ⟨q, hq⟩ : ∃ q : Nat, ls.length / 10 = q := ⟨_, rfl⟩
      have hqe : (ls.length : Int).tdiv 10 = (q : Int) := by rw [← hq]; exact (Int.ofNat_tdiv _ _).symm
      by_cases hbig : k + (1 + (q : Int)) > 1500
      · go_wp2
        go_ret
        exact ⟨_, rfl, hbad, rfl⟩
      obtain ⟨k2, hk2⟩ : ∃ k2, k + (1 + (q : Int)) = k2 := ⟨_, rfl⟩
      have hls2 : ls.length ≤ 20000 := by omega
      -- the body
      have fin : ∀ k4 : Int, -1 ≤ k4 → k4 ≤ 1500 → (0 ≤ k4 → k2 + (wt body : Int) + (wt els : Int) ≤ k4 ∧ body.len ≤ 1600 ∧ Sml body ∧ els.len ≤ 1600 ∧ Sml els) →
          Hid ((i + 1 = 0 → k4 = n) ∧ (0 < i + 1 → k4 ≤ 1500) ∧ (0 ≤ k4 → n + (i + 1 : Nat) ≤ k4 ∧ (Sml rest → Sml l) ∧ n + (wt l : Int) ≤ k4 + (wt rest : Int))) := fun k4 h1 h2 h3 => Lib.hid ⟨fun h => by omega, fun _ => h2, fun h => by
        obtain ⟨g1, g2, g3, g4, g5⟩ := h3 h
        have := hc3.out.1
        have hw := hc3.out.2.2
        simp only [wt] at hw
        exact ⟨by omega, fun hrs => hc3.out.2.1 ⟨hls2, g2, g4, g3, g5, hrs⟩, by omega⟩⟩
      have hne0 : -1 ≤ k2 := by omega
      have hne1 : k2 ≤ 1500 := by omega
      by_cases hbz : body.len = 0
      · have hbn : Sml body := by
          cases body with
          | nil => trivial
          | cons => simp [Il.len] at hbz
        have H3 : 0 ≤ k2 → k2 + (wt body : Int) ≤ k2 ∧ body.len ≤ 1600 ∧ Sml body := fun _ => ⟨by rw [wt_zero hbz]; omega, by omega, hbn⟩
        by_cases hneg : k2 < 0
        · exfalso; omega
        by_cases hez : els.len = 0
        · have hen : Sml els := by
            cases els with
            | nil => trivial
            | cons => simp [Il.len] at hez
          have hf := fin k2 hne0 hne1 (fun h => ⟨by rw [wt_zero hez]; have := (H3 h).1; omega, (H3 h).2.1, (H3 h).2.2, by omega, hen⟩)
          clear fin hc3
          go_wp2
          go_roundw
          case rel => exact ⟨i + 1, rest, k2, by simp, rfl, trivial, by omega, by omega, by omega, hr2, hsr, hf⟩
          case measure => simp [intOf]; omega
        go_wp2_with fail
        refine (hce k2 hne0 (by omega)).out.mono ?_
        rintro e w3 ⟨r2, rfl, P2, rfl⟩
        have z0 := P2.lo
        have z1 := P2.hi (by omega)
        have hf := fin r2 z0 z1 (fun h => by
          obtain ⟨g1, g2, g3⟩ := P2.sml h
          have g4 := P2.wts h
          obtain ⟨f1, f2, f3⟩ := H3 g1
          exact ⟨by omega, f2, f3, by omega, g3⟩)
        clear fin hc3 P2
        go_wp2
        go_roundw
        case rel => exact ⟨i + 1, rest, r2, by simp, rfl, trivial, by omega, by omega, by omega, hr2, hsr, hf⟩
        case measure => simp [intOf]; omega
      go_wp2_with fail
      refine (hcb k2 hne0 (by omega)).out.mono ?_
      rintro e w2 ⟨r1, rfl, P1, rfl⟩
      have y0 := P1.lo
      have y1 := P1.hi (by omega)
      have H3 : 0 ≤ r1 → k2 + (wt body : Int) ≤ r1 ∧ body.len ≤ 1600 ∧ Sml body := fun h => by
        have g4 := P1.wts h
        obtain ⟨g1, g2, g3⟩ := P1.sml h
        exact ⟨by omega, by omega, g3⟩
      clear P1
      by_cases hneg : r1 < 0
      · have hf := fin r1 y0 y1 (fun h => by omega)
        clear fin hc3
        go_wp2
        go_roundw
        case rel => exact ⟨i + 1, rest, r1, by simp, rfl, trivial, by omega, by omega, by omega, hr2, hsr, hf⟩
        case measure => simp [intOf]; omega
      by_cases hez : els.len = 0
      · have hen : Sml els := by
          cases els with
          | nil => trivial
          | cons => simp [Il.len] at hez
        have hf := fin r1 y0 y1 (fun h => ⟨by rw [wt_zero hez]; have := (H3 h).1; omega, (H3 h).2.1, (H3 h).2.2, by omega, hen⟩)
        clear fin hc3
        go_wp2
        go_roundw
        case rel => exact ⟨i + 1, rest, r1, by simp, rfl, trivial, by omega, by omega, by omega, hr2, hsr, hf⟩
        case measure => simp [intOf]; omega
      go_wp2_with fail
      refine (hce r1 y0 (by omega)).out.mono ?_
      rintro e w3 ⟨r2, rfl, P2, rfl⟩
      have z0 := P2.lo
      have z1 := P2.hi (by omega)
      have hf := fin r2 z0 z1 (fun h => by
        obtain ⟨g1, g2, g3⟩ := P2.sml h
        have g4 := P2.wts h
        obtain ⟨f1, f2, f3⟩ := H3 g1
        exact ⟨by omega, f2, f3, by omega, g3⟩)
      clear fin hc3 P2
      go_wp2
      go_roundw
      case rel => exact ⟨i + 1, rest, r2, by simp, rfl, trivial, by omega, by omega, by omega, hr2, hsr, hf⟩
      case measure => simp [intOf]; omega
theorem weigh_any (l : Il) : WeighC l := Il.each weigh_step l
end Go.Proofs.YtkbfjkbokifgkaaDoor

namespace Go.Proofs.YtkbfjkbokifgkaaDoor
open Go.RowKit
set_option linter.unusedVariables false

def funP (t : Int × List Int × Il) : Prop := t.2.1.length ≤ 200000 ∧ t.2.2.len ≤ 1600 ∧ Sml t.2.2 ∧ wt t.2.2 ≤ 1500
def typP (t : List Int × List Int) : Prop := t.1.length ≤ 40000 ∧ t.2.length ≤ 40000
def elmP (t : One × List Int) : Prop := t.2.length ≤ 40000 ∧ Sml t.1.il
def datP (t : One × ByteArray) : Prop := t.2.size ≤ 300000 ∧ Sml t.1.il
def gloP (t : Int × Bool × One) : Prop := Sml t.2.2.il
structure Small (m : Md) : Prop where
  l0 : m.types.length ≤ 5000
  l1 : m.imports.length ≤ 5000
  l2 : m.funcs.length ≤ 5000
  l3 : m.tables.length ≤ 5000
  l4 : m.mems.length ≤ 5000
  l5 : m.globals.length ≤ 5000
  l6 : m.exports.length ≤ 5000
  l7 : m.start.length ≤ 5000
  l8 : m.elems.length ≤ 5000
  l9 : m.datas.length ≤ 5000
  funcs : ∀ t ∈ m.funcs, funP t
  types : ∀ t ∈ m.types, typP t
  elems : ∀ t ∈ m.elems, elmP t
  datas : ∀ t ∈ m.datas, datP t
  globals : ∀ t ∈ m.globals, gloP t
theorem take_all {α : Type} {P : α → Prop} {l : List α} {i : Nat} {x : α} (hx : l[i]? = some x) (h : ∀ t ∈ l.take i, P t) (hp : P x) : ∀ t ∈ l.take (i + 1), P t := by
  intro t ht
  rw [List.take_add_one, hx] at ht
  rcases List.mem_append.1 ht with h1 | h1
  · exact h t h1
  · simp at h1
    subst h1
    exact hp

set_option maxRecDepth 100000 in
set_option maxHeartbeats 4000000 in
theorem large_any (m : Md) (a0 : Option Addr) (k0 : Nat) (a1 : Option Addr) (k1 : Nat) (a2 : Option Addr) (k2 : Nat) (a3 : Option Addr) (k3 : Nat) (a4 : Option Addr) (k4 : Nat) (a5 : Option Addr) (k5 : Nat) (a6 : Option Addr) (k6 : Nat) (a7 : Option Addr) (k7 : Nat) (a8 : Option Addr) (k8 : Nat) (a9 : Option Addr) (k9 : Nat) (w : World) (h : MdAt w m a0 k0 a1 k1 a2 k2 a3 k3 a4 k4 a5 k5 a6 k6 a7 k7 a8 k8 a9 k9) :
    Calls Tryd.prog 13 #[mdV m a0 k0 a1 k1 a2 k2 a3 k3 a4 k4 a5 k5 a6 k6 a7 k7 a8 k8 a9 k9] w fun e w' => ∃ L, e = .returned (.bool L) ∧ (L = false → Small m) ∧ Below w.heap.size w w' := by
  have HM := Lib.hid (h.keep (keep_below ((Below.refl w.heap.size w).alloc (Nat.le_refl _) (.cells #[.slice a0 m.types.length k0, .slice a1 m.imports.length k1, .slice a2 m.funcs.length k2, .slice a3 m.tables.length k3, .slice a4 m.mems.length k4, .slice a5 m.globals.length k5, .slice a6 m.exports.length k6, .slice a7 m.start.length k7, .slice a8 m.elems.length k8, .slice a9 m.datas.length k9] 33))))
  have n0 := h.types.1
  have n1 := h.imports.1
  have n2 := h.funcs.1
  have n3 := h.tables.1
  have n4 := h.mems.1
  have n5 := h.globals.1
  have n6 := h.exports.1
  have n7 := h.start.1
  have n8 := h.elems.1
  have n9 := h.datas.1
  have hB0 : Hid (Below w.heap.size w (w.alloc (.cells #[.slice a0 m.types.length k0, .slice a1 m.imports.length k1, .slice a2 m.funcs.length k2, .slice a3 m.tables.length k3, .slice a4 m.mems.length k4, .slice a5 m.globals.length k5, .slice a6 m.exports.length k6, .slice a7 m.start.length k7, .slice a8 m.elems.length k8, .slice a9 m.datas.length k9] 33))) := Lib.hid ((Below.refl _ _).alloc (Nat.le_refl _) _)
  clear h
  unfold mdV
  go_enter Tryd.func13, Tryd.ntmps13
  go_upto_region 1 with fail
  obtain ⟨w0, hw0⟩ : ∃ w0, w0 = (w.alloc (.cells #[.slice a0 m.types.length k0, .slice a1 m.imports.length k1, .slice a2 m.funcs.length k2, .slice a3 m.tables.length k3, .slice a4 m.mems.length k4, .slice a5 m.globals.length k5, .slice a6 m.exports.length k6, .slice a7 m.start.length k7, .slice a8 m.elems.length k8, .slice a9 m.datas.length k9] 33)) := ⟨_, rfl⟩
  rw [← hw0]
  rw [← hw0] at HM hB0
  have hs0 : w.heap.size ≤ w0.heap.size := hB0.out.size
  have y0 : Hid (w0.cell? ⟨w.heap.size, 0, none⟩ = some (.slice a0 m.types.length k0)) := Lib.hid (by rw [hw0]; exact World.cell?_alloc_at _ _ _ _ rfl)
  have y1 : Hid (w0.cell? ⟨w.heap.size, 1, none⟩ = some (.slice a1 m.imports.length k1)) := Lib.hid (by rw [hw0]; exact World.cell?_alloc_at _ _ _ _ rfl)
  have y2 : Hid (w0.cell? ⟨w.heap.size, 2, none⟩ = some (.slice a2 m.funcs.length k2)) := Lib.hid (by rw [hw0]; exact World.cell?_alloc_at _ _ _ _ rfl)
  have y3 : Hid (w0.cell? ⟨w.heap.size, 3, none⟩ = some (.slice a3 m.tables.length k3)) := Lib.hid (by rw [hw0]; exact World.cell?_alloc_at _ _ _ _ rfl)
  have y4 : Hid (w0.cell? ⟨w.heap.size, 4, none⟩ = some (.slice a4 m.mems.length k4)) := Lib.hid (by rw [hw0]; exact World.cell?_alloc_at _ _ _ _ rfl)
  have y5 : Hid (w0.cell? ⟨w.heap.size, 5, none⟩ = some (.slice a5 m.globals.length k5)) := Lib.hid (by rw [hw0]; exact World.cell?_alloc_at _ _ _ _ rfl)
  have y6 : Hid (w0.cell? ⟨w.heap.size, 6, none⟩ = some (.slice a6 m.exports.length k6)) := Lib.hid (by rw [hw0]; exact World.cell?_alloc_at _ _ _ _ rfl)
  have y7 : Hid (w0.cell? ⟨w.heap.size, 7, none⟩ = some (.slice a7 m.start.length k7)) := Lib.hid (by rw [hw0]; exact World.cell?_alloc_at _ _ _ _ rfl)
  have y8 : Hid (w0.cell? ⟨w.heap.size, 8, none⟩ = some (.slice a8 m.elems.length k8)) := Lib.hid (by rw [hw0]; exact World.cell?_alloc_at _ _ _ _ rfl)
  have y9 : Hid (w0.cell? ⟨w.heap.size, 9, none⟩ = some (.slice a9 m.datas.length k9)) := Lib.hid (by rw [hw0]; exact World.cell?_alloc_at _ _ _ _ rfl)
  have hb : Hid (Below w0.heap.size w0 w0) := Lib.hid (Below.refl _ _)
  clear hw0
  have x0 : w0.cell? ⟨w.heap.size, 0, none⟩ = some (.slice a0 m.types.length k0) := keep_below hb.out _ _ y0.out
  have x1 : w0.cell? ⟨w.heap.size, 1, none⟩ = some (.slice a1 m.imports.length k1) := keep_below hb.out _ _ y1.out
  have x2 : w0.cell? ⟨w.heap.size, 2, none⟩ = some (.slice a2 m.funcs.length k2) := keep_below hb.out _ _ y2.out
  have x3 : w0.cell? ⟨w.heap.size, 3, none⟩ = some (.slice a3 m.tables.length k3) := keep_below hb.out _ _ y3.out
  have x4 : w0.cell? ⟨w.heap.size, 4, none⟩ = some (.slice a4 m.mems.length k4) := keep_below hb.out _ _ y4.out
  have x5 : w0.cell? ⟨w.heap.size, 5, none⟩ = some (.slice a5 m.globals.length k5) := keep_below hb.out _ _ y5.out
  have x6 : w0.cell? ⟨w.heap.size, 6, none⟩ = some (.slice a6 m.exports.length k6) := keep_below hb.out _ _ y6.out
  have x7 : w0.cell? ⟨w.heap.size, 7, none⟩ = some (.slice a7 m.start.length k7) := keep_below hb.out _ _ y7.out
  have x8 : w0.cell? ⟨w.heap.size, 8, none⟩ = some (.slice a8 m.elems.length k8) := keep_below hb.out _ _ y8.out
  have x9 : w0.cell? ⟨w.heap.size, 9, none⟩ = some (.slice a9 m.datas.length k9) := keep_below hb.out _ _ y9.out
  by_cases g0 : m.types.length ≤ 5000
  · have d0 : decide ((5000 : Int) < (m.types.length : Int)) = false := decide_eq_false (by omega)
    by_cases g1 : m.imports.length ≤ 5000
    · have d1 : decide ((5000 : Int) < (m.imports.length : Int)) = false := decide_eq_false (by omega)
      by_cases g2 : m.funcs.length ≤ 5000
      · have d2 : decide ((5000 : Int) < (m.funcs.length : Int)) = false := decide_eq_false (by omega)
        by_cases g3 : m.tables.length ≤ 5000
        · have d3 : decide ((5000 : Int) < (m.tables.length : Int)) = false := decide_eq_false (by omega)
          by_cases g4 : m.mems.length ≤ 5000
          · have d4 : decide ((5000 : Int) < (m.mems.length : Int)) = false := decide_eq_false (by omega)
            by_cases g5 : m.globals.length ≤ 5000
            · have d5 : decide ((5000 : Int) < (m.globals.length : Int)) = false := decide_eq_false (by omega)
              by_cases g6 : m.exports.length ≤ 5000
              · have d6 : decide ((5000 : Int) < (m.exports.length : Int)) = false := decide_eq_false (by omega)
                by_cases g8 : m.elems.length ≤ 5000
                · have d8 : decide ((5000 : Int) < (m.elems.length : Int)) = false := decide_eq_false (by omega)
                  by_cases g9 : m.datas.length ≤ 5000
                  · have d9 : decide ((5000 : Int) < (m.datas.length : Int)) = false := decide_eq_false (by omega)
                    by_cases g7 : m.start.length ≤ 5000
                    · have d7 : decide ((5000 : Int) < (m.start.length : Int)) = false := decide_eq_false (by omega)
                      go_wp2_with fail
                      clear d0 d1 d2 d3 d4 d5 d6 d7 d8 d9 x0 x1 x2 x3 x4 x5 x6 x7 x8 x9
                      go_loopw [3, 4] (fun vn vi wr => ∃ (i : Nat) (n : Int), i ≤ m.funcs.length ∧ vi = .int .i64 i ∧ vn = .int .i64 n ∧ 0 ≤ n ∧ n ≤ 1500 ∧ Hid (∀ t ∈ m.funcs.take i, funP t) ∧ Hid (Below w0.heap.size w0 wr)) (fun _ vi _ => m.funcs.length - (intOf vi).toNat)
                      case atStart => exact ⟨0, 0, Nat.zero_le _, rfl, rfl, by omega, by omega, Lib.hid (by simp), hb⟩
                      case round =>
                        clear hb
                        obtain ⟨i, n, hi, rfl, rfl, hn0, hn1, ha, hb⟩ := hrel
                        by_cases hlt : i < m.funcs.length
                        · obtain ⟨t, ht⟩ : ∃ t, m.funcs[i]? = some t := ⟨_, List.getElem?_eq_getElem hlt⟩
                          obtain ⟨b, o, e, hrow⟩ := (HM.out.funcs.keep fun _ _ _ => FuncAt.keep (keep_below hb.out)).row ht
                          have x2 : wr.cell? ⟨w.heap.size, 2, none⟩ = some (.slice a2 m.funcs.length k2) := keep_below hb.out _ _ y2.out
                          subst e
                          have hst := fun hp => Lib.hid (take_all (P := funP) ht ha.out hp)
                          clear ht ha
                          obtain ⟨ty, lo, bo⟩ := t
                          obtain ⟨c0, ⟨q1, r1, c1, i1⟩, ⟨q2, r2, c2, l2, i2⟩⟩ := hrow
                          have l1 := i1.1
                          simp only at c1 c2 l1 l2 i2
                          have i2 := Lib.hid i2
                          clear c0 i1
                          obtain ⟨q, hq⟩ : ∃ q : Nat, lo.length / 100 = q := ⟨_, rfl⟩
                          have hqe : (lo.length : Int).tdiv 100 = (q : Int) := by rw [← hq]; exact (Int.ofNat_tdiv _ _).symm
                          have eA : IntKind.i64.wrap (q : Int) = (q : Int) := wrap_id64 _ (by omega) (by omega)
                          have eD : IntKind.i64.wrap (n + (q : Int)) = n + (q : Int) := wrap_id64 _ (by omega) (by omega)
                          go_wp2_with fail
                          go_region_held3 (fun w' => w'.cell? ⟨w.heap.size, 2, none⟩ = some (.slice (some ⟨b, o, none⟩) m.funcs.length k2) ∧ w'.cell? ⟨b, o + i * 3 + 1, none⟩ = some (.slice q1 lo.length r1) ∧ w'.cell? ⟨b, o + i * 3 + 2, none⟩ = some (.slice q2 bo.len r2)) (go_keep) ((first | (go_at_call 23; (try simp only [hqe, eA, eD]); refine (weigh_any bo q2 r2 _ 0 (n + (q : Int)) l2 (i2.out.keep (keeps_drew _)) (by omega) (by omega) (by omega) (by omega)).mono ?_; rintro e w' ⟨r, rfl, P, rfl⟩)))
                          have hbd := Lib.hid (hb.out.drew)
                          have z0 := P.lo
                          by_cases hr : r < 0 ∨ 1500 < r
                          · clear P
                            go_wp2
                            all_goals (go_ret; first | exact ⟨true, rfl, fun h => (by cases h), hB0.out.trans (hbd.out.mono hs0)⟩ | exact .inr ⟨rfl, hB0.out.trans (hbd.out.mono hs0)⟩)
                          · have hn := hst ⟨by show lo.length ≤ 200000; have := P.sml (by omega); omega, by show bo.len ≤ 1600; have := P.sml (by omega); omega, (P.sml (by omega)).2.2, by show wt bo ≤ 1500; have := P.wts (by omega); omega⟩
                            have hr0 : 0 ≤ r := by omega
                            have hr1 : r ≤ 1500 := by omega
                            clear hst P hr hqe eA eD
                            go_wp2
                            exact ⟨⟨i + 1, r, by omega, by simp, rfl, by omega, by omega, hn, hbd⟩, by simp [intOf]; omega⟩
                        · have x2 : wr.cell? ⟨w.heap.size, 2, none⟩ = some (.slice a2 m.funcs.length k2) := keep_below hb.out _ _ y2.out
                          have hiN : i = m.funcs.length := by omega
                          subst hiN
                          have hP2 : ∀ t ∈ m.funcs, funP t := by
                            have := ha.out
                            rwa [List.take_of_length_le (by omega)] at this
                          clear ha hi hlt
                          have S2 := Lib.hid hP2
                          clear hP2
                          have x0 : wr.cell? ⟨w.heap.size, 0, none⟩ = some (.slice a0 m.types.length k0) := keep_below hb.out _ _ y0.out
                          go_wp2_with fail
                          go_loopw [3, 5] (fun vn vi wr => ∃ (i : Nat) (n : Int), i ≤ m.types.length ∧ vi = .int .i64 i ∧ vn = .int .i64 n ∧ 0 ≤ n ∧ n ≤ 3000 ∧ Hid (∀ t ∈ m.types.take i, typP t) ∧ Hid (Below w0.heap.size w0 wr)) (fun _ vi _ => m.types.length - (intOf vi).toNat)
                          case atStart => exact ⟨0, _, Nat.zero_le _, rfl, rfl, by omega, by omega, Lib.hid (by simp), hb⟩
                          case round =>
                            clear hb hn0 hn1
                            obtain ⟨i, n, hi, rfl, rfl, hn0, hn1, ha, hb⟩ := hrel
                            by_cases hlt : i < m.types.length
                            · obtain ⟨t, ht⟩ : ∃ t, m.types[i]? = some t := ⟨_, List.getElem?_eq_getElem hlt⟩
                              obtain ⟨b, o, e, hrow⟩ := (HM.out.types.keep fun _ _ _ => TypeAt.keep (keep_below hb.out)).row ht
                              have x0 : wr.cell? ⟨w.heap.size, 0, none⟩ = some (.slice a0 m.types.length k0) := keep_below hb.out _ _ y0.out
                              subst e
                              have hst := fun hp => Lib.hid (take_all (P := typP) ht ha.out hp)
                              clear ht ha
                              obtain ⟨ps, rs⟩ := t
                              obtain ⟨⟨q0, r0, c0, i0⟩, ⟨q1, r1, c1, i1⟩⟩ := hrow
                              have l0 := i0.1
                              have l1 := i1.1
                              simp only at c0 c1 l0 l1
                              clear i0 i1
                              obtain ⟨q, hq⟩ : ∃ q : Nat, ps.length / 10 = q := ⟨_, rfl⟩
                              have hqe : (ps.length : Int).tdiv 10 = (q : Int) := by rw [← hq]; exact (Int.ofNat_tdiv _ _).symm
                              obtain ⟨q', hq'⟩ : ∃ q : Nat, rs.length / 10 = q := ⟨_, rfl⟩
                              have hqe' : (rs.length : Int).tdiv 10 = (q' : Int) := by rw [← hq']; exact (Int.ofNat_tdiv _ _).symm
                              have eA : IntKind.i64.wrap (q : Int) = (q : Int) := wrap_id64 _ (by omega) (by omega)
                              have eB : IntKind.i64.wrap (q' : Int) = (q' : Int) := wrap_id64 _ (by omega) (by omega)
                              have eC : IntKind.i64.wrap ((q : Int) + (q' : Int)) = (q : Int) + (q' : Int) := wrap_id64 _ (by omega) (by omega)
                              have eD : IntKind.i64.wrap (n + ((q : Int) + (q' : Int))) = n + ((q : Int) + (q' : Int)) := wrap_id64 _ (by omega) (by omega)
                              by_cases hsb : n + ((q : Int) + (q' : Int)) ≤ 3000
                              · have hn := hst ⟨by show ps.length ≤ 40000; omega, by show rs.length ≤ 40000; omega⟩
                                clear hst
                                go_wp2_with fail
                                go_quiet (fail)
                                try simp only [hqe, hqe', eA, eB, eC, eD]
                                have hbq := Lib.hid (below_drewN hb.out nq)
                                clear hqe hqe' eA eB eC eD
                                go_wp2
                                exact ⟨⟨i + 1, n + (q + q'), by omega, by simp, rfl, by omega, by omega, hn, hbq⟩, by simp [intOf]; omega⟩
                              · clear hst
                                go_wp2_with fail
                                go_quiet (fail)
                                try simp only [hqe, hqe', eA, eB, eC, eD]
                                have hbq := Lib.hid (below_drewN hb.out nq)
                                clear hqe hqe' eA eB eC eD
                                go_wp2
                                go_ret
                                first | exact ⟨true, rfl, fun h => (by cases h), hB0.out.trans (hbq.out.mono hs0)⟩ | exact .inr ⟨rfl, hB0.out.trans (hbq.out.mono hs0)⟩
                            · have x0 : wr.cell? ⟨w.heap.size, 0, none⟩ = some (.slice a0 m.types.length k0) := keep_below hb.out _ _ y0.out
                              have hiN : i = m.types.length := by omega
                              subst hiN
                              have hP0 : ∀ t ∈ m.types, typP t := by
                                have := ha.out
                                rwa [List.take_of_length_le (by omega)] at this
                              clear ha hi hlt
                              have S0 := Lib.hid hP0
                              clear hP0
                              have x8 : wr.cell? ⟨w.heap.size, 8, none⟩ = some (.slice a8 m.elems.length k8) := keep_below hb.out _ _ y8.out
                              go_wp2_with fail
                              go_loopw [3, 6] (fun vn vi wr => ∃ (i : Nat) (n : Int), i ≤ m.elems.length ∧ vi = .int .i64 i ∧ vn = .int .i64 n ∧ 0 ≤ n ∧ n ≤ 3000 ∧ Hid (∀ t ∈ m.elems.take i, elmP t) ∧ Hid (Below w0.heap.size w0 wr)) (fun _ vi _ => m.elems.length - (intOf vi).toNat)
                              case atStart => exact ⟨0, _, Nat.zero_le _, rfl, rfl, by omega, by omega, Lib.hid (by simp), hb⟩
                              case round =>
                                clear hb hn0 hn1
                                obtain ⟨i, n, hi, rfl, rfl, hn0, hn1, ha, hb⟩ := hrel
                                by_cases hlt : i < m.elems.length
                                · obtain ⟨t, ht⟩ : ∃ t, m.elems[i]? = some t := ⟨_, List.getElem?_eq_getElem hlt⟩
                                  obtain ⟨b, o, e, hrow⟩ := (HM.out.elems.keep fun _ _ _ => ElemAt.keep (keep_below hb.out)).row ht
                                  have x8 : wr.cell? ⟨w.heap.size, 8, none⟩ = some (.slice a8 m.elems.length k8) := keep_below hb.out _ _ y8.out
                                  subst e
                                  have hst := fun hp => Lib.hid (take_all (P := elmP) ht ha.out hp)
                                  clear ht ha
                                  obtain ⟨⟨op, ix, iy, iz, ls, body, els⟩, fl⟩ := t
                                  obtain ⟨⟨⟨c0, c1, c2, c3⟩, ⟨q4, r4, c4, i4⟩, ⟨q5, r5, c5, l5, i5⟩, ⟨q6, r6, c6, l6, i6⟩, _⟩, ⟨q7, r7, c7, i7⟩⟩ := hrow
                                  simp only at c7
                                  have l7 : fl.length ≤ 9223372036854775807 := i7.1
                                  clear i7
                                  simp only at l5 i5 l6 i6
                                  have hone : OneIs wr ⟨op, ix, iy, iz, ls, body, els⟩ q4 r4 q5 r5 q6 r6 := ⟨i4, l5, by rcases i5 with e | h; exact .inl e; exact .inr (by simpa using h), l6, by rcases i6 with e | h; exact .inl e; exact .inr (by simpa using h)⟩
                                  have hcw := Lib.hid (weigh_any (One.il ⟨op, ix, iy, iz, ls, body, els⟩) _ 1 _ 0 0 (by show 0 + 1 ≤ _; omega) hone.new (by omega) (by omega) (by omega) (by omega))
                                  have hal := Lib.hid ((Below.refl wr.heap.size wr).alloc (Nat.le_refl _) (.cells (oneV ⟨op, ix, iy, iz, ls, body, els⟩ q4 r4 q5 r5 q6 r6) 70))
                                  have hbw := Lib.hid (hb.out.trans (hal.out.mono hb.out.size))
                                  have l4 : ls.length ≤ 9223372036854775807 := hone.i4.1
                                  clear i4 i5 i6 hone
                                  obtain ⟨q, hq⟩ : ∃ q : Nat, fl.length / 10 = q := ⟨_, rfl⟩
                                  have hqe : (fl.length : Int).tdiv 10 = (q : Int) := by rw [← hq]; exact (Int.ofNat_tdiv _ _).symm
                                  by_cases hsb : n + (q : Int) ≤ 3000
                                  · have dsb : decide ((3000 : Int) < n + (q : Int)) = false := decide_eq_false (by omega)
                                    go_wp2_with fail
                                    refine hcw.out.mono ?_
                                    rintro e w2 ⟨r, rfl, P, rfl⟩
                                    by_cases hr : r < 0
                                    · clear P
                                      go_wp2
                                      go_ret
                                      first | exact ⟨true, rfl, fun h => (by cases h), hB0.out.trans (hbw.out.mono hs0)⟩ | exact .inr ⟨rfl, hB0.out.trans (hbw.out.mono hs0)⟩
                                    · have hn := hst ⟨by show fl.length ≤ 40000; omega, (P.sml (by omega)).2.2⟩
                                      clear hst P dsb
                                      go_wp2
                                      exact ⟨⟨i + 1, n + q, by omega, by simp, rfl, by omega, by omega, hn, hbw⟩, by simp [intOf]; omega⟩
                                  · have dsb : decide ((3000 : Int) < n + (q : Int)) = true := decide_eq_true (by omega)
                                    clear hst hcw
                                    go_wp2
                                    go_ret
                                    first | exact ⟨true, rfl, fun h => (by cases h), hB0.out.trans (hb.out.mono hs0)⟩ | exact .inr ⟨rfl, hB0.out.trans (hb.out.mono hs0)⟩
                                · have x8 : wr.cell? ⟨w.heap.size, 8, none⟩ = some (.slice a8 m.elems.length k8) := keep_below hb.out _ _ y8.out
                                  have hiN : i = m.elems.length := by omega
                                  subst hiN
                                  have hP8 : ∀ t ∈ m.elems, elmP t := by
                                    have := ha.out
                                    rwa [List.take_of_length_le (by omega)] at this
                                  clear ha hi hlt
                                  have S8 := Lib.hid hP8
                                  clear hP8
                                  have x9 : wr.cell? ⟨w.heap.size, 9, none⟩ = some (.slice a9 m.datas.length k9) := keep_below hb.out _ _ y9.out
                                  go_wp2_with fail
                                  go_loopw [7] (fun vi wr => ∃ i : Nat, i ≤ m.datas.length ∧ vi = .int .i64 i ∧ Hid (∀ t ∈ m.datas.take i, datP t) ∧ Hid (Below w0.heap.size w0 wr)) (fun vi _ => m.datas.length - (intOf vi).toNat)
                                  case atStart => exact ⟨0, Nat.zero_le _, rfl, Lib.hid (by simp), hb⟩
                                  case round =>
                                    clear hb
                                    obtain ⟨i, hi, rfl, ha, hb⟩ := hrel
                                    by_cases hlt : i < m.datas.length
                                    · obtain ⟨t, ht⟩ : ∃ t, m.datas[i]? = some t := ⟨_, List.getElem?_eq_getElem hlt⟩
                                      obtain ⟨b, o, e, hrow⟩ := (HM.out.datas.keep fun _ _ _ => DataAt.keep (keep_below hb.out)).row ht
                                      have x9 : wr.cell? ⟨w.heap.size, 9, none⟩ = some (.slice a9 m.datas.length k9) := keep_below hb.out _ _ y9.out
                                      subst e
                                      have hst := fun hp => Lib.hid (take_all (P := datP) ht ha.out hp)
                                      clear ht ha
                                      obtain ⟨⟨op, ix, iy, iz, ls, body, els⟩, sb⟩ := t
                                      obtain ⟨⟨⟨c0, c1, c2, c3⟩, ⟨q4, r4, c4, i4⟩, ⟨q5, r5, c5, l5, i5⟩, ⟨q6, r6, c6, l6, i6⟩, _⟩, c7, hsz⟩ := hrow
                                      simp only at c7 hsz
                                      simp only at l5 i5 l6 i6
                                      have hone : OneIs wr ⟨op, ix, iy, iz, ls, body, els⟩ q4 r4 q5 r5 q6 r6 := ⟨i4, l5, by rcases i5 with e | h; exact .inl e; exact .inr (by simpa using h), l6, by rcases i6 with e | h; exact .inl e; exact .inr (by simpa using h)⟩
                                      have hcw := Lib.hid (weigh_any (One.il ⟨op, ix, iy, iz, ls, body, els⟩) _ 1 _ 0 0 (by show 0 + 1 ≤ _; omega) hone.new (by omega) (by omega) (by omega) (by omega))
                                      have hal := Lib.hid ((Below.refl wr.heap.size wr).alloc (Nat.le_refl _) (.cells (oneV ⟨op, ix, iy, iz, ls, body, els⟩ q4 r4 q5 r5 q6 r6) 70))
                                      have hbw := Lib.hid (hb.out.trans (hal.out.mono hb.out.size))
                                      have l4 : ls.length ≤ 9223372036854775807 := hone.i4.1
                                      clear i4 i5 i6 hone
                                      by_cases hsb : sb.size ≤ 300000
                                      · have dsb : decide ((300000 : Int) < (sb.size : Int)) = false := decide_eq_false (by omega)
                                        go_wp2_with fail
                                        refine hcw.out.mono ?_
                                        rintro e w2 ⟨r, rfl, P, rfl⟩
                                        by_cases hr : r < 0
                                        · clear P
                                          go_wp2
                                          go_ret
                                          first | exact ⟨true, rfl, fun h => (by cases h), hB0.out.trans (hbw.out.mono hs0)⟩ | exact .inr ⟨rfl, hB0.out.trans (hbw.out.mono hs0)⟩
                                        · have hn := hst ⟨hsb, (P.sml (by omega)).2.2⟩
                                          clear hst P dsb
                                          go_wp2
                                          exact ⟨⟨i + 1, by omega, by simp, hn, hbw⟩, by simp [intOf]; omega⟩
                                      · have dsb : decide ((300000 : Int) < (sb.size : Int)) = true := decide_eq_true (by omega)
                                        clear hst hcw
                                        go_wp2
                                        go_ret
                                        first | exact ⟨true, rfl, fun h => (by cases h), hB0.out.trans (hb.out.mono hs0)⟩ | exact .inr ⟨rfl, hB0.out.trans (hb.out.mono hs0)⟩
                                    · have x9 : wr.cell? ⟨w.heap.size, 9, none⟩ = some (.slice a9 m.datas.length k9) := keep_below hb.out _ _ y9.out
                                      have hiN : i = m.datas.length := by omega
                                      subst hiN
                                      have hP9 : ∀ t ∈ m.datas, datP t := by
                                        have := ha.out
                                        rwa [List.take_of_length_le (by omega)] at this
                                      clear ha hi hlt
                                      have S9 := Lib.hid hP9
                                      clear hP9
                                      have x5 : wr.cell? ⟨w.heap.size, 5, none⟩ = some (.slice a5 m.globals.length k5) := keep_below hb.out _ _ y5.out
                                      go_wp2_with fail
                                      go_loopw [8] (fun vi wr => ∃ i : Nat, i ≤ m.globals.length ∧ vi = .int .i64 i ∧ Hid (∀ t ∈ m.globals.take i, gloP t) ∧ Hid (Below w0.heap.size w0 wr)) (fun vi _ => m.globals.length - (intOf vi).toNat)
                                      case atStart => exact ⟨0, Nat.zero_le _, rfl, Lib.hid (by simp), hb⟩
                                      case round =>
                                        clear hb
                                        obtain ⟨i, hi, rfl, ha, hb⟩ := hrel
                                        by_cases hlt : i < m.globals.length
                                        · obtain ⟨t, ht⟩ : ∃ t, m.globals[i]? = some t := ⟨_, List.getElem?_eq_getElem hlt⟩
                                          obtain ⟨b, o, e, hrow⟩ := (HM.out.globals.keep fun _ _ _ => GlobalAt.keep (keep_below hb.out)).row ht
                                          have x5 : wr.cell? ⟨w.heap.size, 5, none⟩ = some (.slice a5 m.globals.length k5) := keep_below hb.out _ _ y5.out
                                          subst e
                                          have hst := fun hp => Lib.hid (take_all (P := gloP) ht ha.out hp)
                                          clear ht ha
                                          obtain ⟨ty, mu, ⟨op, ix, iy, iz, ls, body, els⟩⟩ := t
                                          obtain ⟨c0, c1, ⟨⟨d0, d1, d2, d3⟩, ⟨q4, r4, d4, i4⟩, ⟨q5, r5, d5, l5, i5⟩, ⟨q6, r6, d6, l6, i6⟩, _⟩⟩ := hrow
                                          clear c0 c1
                                          simp only at l5 i5 l6 i6
                                          have hone : OneIs wr ⟨op, ix, iy, iz, ls, body, els⟩ q4 r4 q5 r5 q6 r6 := ⟨i4, l5, by rcases i5 with e | h; exact .inl e; exact .inr (by simpa using h), l6, by rcases i6 with e | h; exact .inl e; exact .inr (by simpa using h)⟩
                                          have hcw := Lib.hid (weigh_any (One.il ⟨op, ix, iy, iz, ls, body, els⟩) _ 1 _ 0 0 (by show 0 + 1 ≤ _; omega) hone.new (by omega) (by omega) (by omega) (by omega))
                                          have hal := Lib.hid ((Below.refl wr.heap.size wr).alloc (Nat.le_refl _) (.cells (oneV ⟨op, ix, iy, iz, ls, body, els⟩ q4 r4 q5 r5 q6 r6) 70))
                                          have hbw := Lib.hid (hb.out.trans (hal.out.mono hb.out.size))
                                          have l4 : ls.length ≤ 9223372036854775807 := hone.i4.1
                                          clear i4 i5 i6 hone
                                          go_wp2_with fail
                                          refine hcw.out.mono ?_
                                          rintro e w2 ⟨r, rfl, P, rfl⟩
                                          by_cases hr : r < 0
                                          · clear P
                                            go_wp2
                                            go_ret
                                            first | exact ⟨true, rfl, fun h => (by cases h), hB0.out.trans (hbw.out.mono hs0)⟩ | exact .inr ⟨rfl, hB0.out.trans (hbw.out.mono hs0)⟩
                                          · have hn := hst ((P.sml (by omega)).2.2)
                                            clear hst P
                                            go_wp2
                                            exact ⟨⟨i + 1, by omega, by simp, hn, hbw⟩, by simp [intOf]; omega⟩
                                        · have x5 : wr.cell? ⟨w.heap.size, 5, none⟩ = some (.slice a5 m.globals.length k5) := keep_below hb.out _ _ y5.out
                                          have hiN : i = m.globals.length := by omega
                                          subst hiN
                                          have hP5 : ∀ t ∈ m.globals, gloP t := by
                                            have := ha.out
                                            rwa [List.take_of_length_le (by omega)] at this
                                          clear ha hi hlt
                                          have hfin : Small m := ⟨g0, g1, g2, g3, g4, g5, g6, g7, g8, g9, S2.out, S0.out, S8.out, S9.out, hP5⟩
                                          go_wp2
                                          go_ret
                                          first | exact ⟨false, rfl, fun _ => hfin, hB0.out.trans (hb.out.mono hs0)⟩ | exact .inl ⟨rfl, hfin, hB0.out.trans (hb.out.mono hs0)⟩
                    · have d7 : decide ((5000 : Int) < (m.start.length : Int)) = true := decide_eq_true (by omega)
                      go_wp2
                      go_ret
                      first | exact ⟨true, rfl, fun h => (by cases h), hB0.out.trans (hb.out.mono hs0)⟩ | exact .inr ⟨rfl, hB0.out.trans (hb.out.mono hs0)⟩
                  · have d9 : decide ((5000 : Int) < (m.datas.length : Int)) = true := decide_eq_true (by omega)
                    go_wp2
                    go_ret
                    first | exact ⟨true, rfl, fun h => (by cases h), hB0.out.trans (hb.out.mono hs0)⟩ | exact .inr ⟨rfl, hB0.out.trans (hb.out.mono hs0)⟩
                · have d8 : decide ((5000 : Int) < (m.elems.length : Int)) = true := decide_eq_true (by omega)
                  go_wp2
                  go_ret
                  first | exact ⟨true, rfl, fun h => (by cases h), hB0.out.trans (hb.out.mono hs0)⟩ | exact .inr ⟨rfl, hB0.out.trans (hb.out.mono hs0)⟩
              · have d6 : decide ((5000 : Int) < (m.exports.length : Int)) = true := decide_eq_true (by omega)
                go_wp2
                go_ret
                first | exact ⟨true, rfl, fun h => (by cases h), hB0.out.trans (hb.out.mono hs0)⟩ | exact .inr ⟨rfl, hB0.out.trans (hb.out.mono hs0)⟩
            · have d5 : decide ((5000 : Int) < (m.globals.length : Int)) = true := decide_eq_true (by omega)
              go_wp2
              go_ret
              first | exact ⟨true, rfl, fun h => (by cases h), hB0.out.trans (hb.out.mono hs0)⟩ | exact .inr ⟨rfl, hB0.out.trans (hb.out.mono hs0)⟩
          · have d4 : decide ((5000 : Int) < (m.mems.length : Int)) = true := decide_eq_true (by omega)
            go_wp2
            go_ret
            first | exact ⟨true, rfl, fun h => (by cases h), hB0.out.trans (hb.out.mono hs0)⟩ | exact .inr ⟨rfl, hB0.out.trans (hb.out.mono hs0)⟩
        · have d3 : decide ((5000 : Int) < (m.tables.length : Int)) = true := decide_eq_true (by omega)
          go_wp2
          go_ret
          first | exact ⟨true, rfl, fun h => (by cases h), hB0.out.trans (hb.out.mono hs0)⟩ | exact .inr ⟨rfl, hB0.out.trans (hb.out.mono hs0)⟩
      · have d2 : decide ((5000 : Int) < (m.funcs.length : Int)) = true := decide_eq_true (by omega)
        go_wp2
        go_ret
        first | exact ⟨true, rfl, fun h => (by cases h), hB0.out.trans (hb.out.mono hs0)⟩ | exact .inr ⟨rfl, hB0.out.trans (hb.out.mono hs0)⟩
    · have d1 : decide ((5000 : Int) < (m.imports.length : Int)) = true := decide_eq_true (by omega)
      go_wp2
      go_ret
      first | exact ⟨true, rfl, fun h => (by cases h), hB0.out.trans (hb.out.mono hs0)⟩ | exact .inr ⟨rfl, hB0.out.trans (hb.out.mono hs0)⟩
  · have d0 : decide ((5000 : Int) < (m.types.length : Int)) = true := decide_eq_true (by omega)
    go_wp2
    go_ret
    first | exact ⟨true, rfl, fun h => (by cases h), hB0.out.trans (hb.out.mono hs0)⟩ | exact .inr ⟨rfl, hB0.out.trans (hb.out.mono hs0)⟩
end Go.Proofs.YtkbfjkbokifgkaaDoor

namespace Go.Proofs.YtkbfjkbokifgkaaDoor
open Go.RowKit
set_option linter.unusedVariables false
set_option linter.unusedSimpArgs false

def Il.app : Il → Il → Il
  | .nil, r => r
  | .cons op x y n ls b e rest, r => .cons op x y n ls b e (rest.app r)
theorem app_len : ∀ a b : Il, (a.app b).len = a.len + b.len
  | .nil, b => by simp [Il.app, Il.len]
  | .cons op x y n ls bo e rest, b => by
    simp only [Il.app, Il.len, app_len rest b]
    omega
theorem app_xl : ∀ a b : Il, xl (a.app b) = xl a ++ xl b
  | .nil, b => by simp [Il.app, xl]
  | .cons op x y n ls bo e rest, b => by
    simp only [Il.app, xl, app_xl rest b, List.append_assoc]
theorem app_nOk : ∀ {a b : Il}, nOk a → nOk b → nOk (a.app b)
  | .nil, b, _, h => h
  | .cons op x y n ls bo e rest, b, h, k => ⟨h.1, h.2.1, h.2.2.1, app_nOk h.2.2.2 k⟩
theorem app_lab : ∀ a b : Il, lab (a.app b) = (lab a && lab b)
  | .nil, b => by simp [Il.app, lab]
  | .cons op x y n ls bo e rest, b => by
    simp only [Il.app, lab, app_lab rest b, Bool.and_assoc]
theorem app_flat : ∀ (a b : Il) (d : Int), flatR (a.app b) d = (flatR a d && flatR b d)
  | .nil, b, d => by simp [Il.app, flatR]
  | .cons op x y n ls bo e rest, b, d => by
    simp only [Il.app, flatR, app_flat rest b, Bool.and_assoc]
theorem app_form : ∀ a b : Il, formB (a.app b) = (formB a && formB b)
  | .nil, b => by simp [Il.app, formB]
  | .cons op x y n ls bo e rest, b => by
    simp only [Il.app, formB, app_form rest b, Bool.and_assoc]
theorem app_wt : ∀ a b : Il, wt (a.app b) = wt a + wt b
  | .nil, b => by simp [Il.app, wt]
  | .cons op x y n ls bo e rest, b => by
    simp only [Il.app, wt, app_wt rest b]
    omega
/-- No more are counted than weighed. -/
theorem cnt_wt : ∀ (l : Il) (left : Int), (wt l : Int) ≤ left → left - wt l ≤ cnt l left
  | .nil, left, h => by simp [cnt, wt]
  | .cons op x y n ls body els rest, left, h => by
    simp only [wt] at h
    have h1 := cnt_wt body (left - 1) (by omega)
    unfold cnt
    simp only
    rw [if_pos (show 0 ≤ left - 1 by omega)]
    generalize cnt body (left - 1) = x1 at h1 ⊢
    have h2 := cnt_wt els x1 (by omega)
    rw [if_pos (show 0 ≤ x1 by omega)]
    generalize cnt els x1 = x2 at h2 ⊢
    have h3 := cnt_wt rest x2 (by omega)
    rw [if_neg (show ¬ x2 < 0 by omega)]
    simp only [wt]
    omega
def okL (l : Il) : Bool := lab l && (flatR l 0 && formB l)
theorem app_ok (a b : Il) : okL (a.app b) = (okL a && okL b) := by
  unfold okL
  rw [app_lab, app_flat, app_form]
  cases lab a <;> cases lab b <;> cases flatR a 0 <;> cases flatR b 0 <;> cases formB a <;> cases formB b <;> rfl
theorem check_mB {l : Il} (h : wt l ≤ 65536) : checkV (mB l) = 0 ↔ okL l = true := by
  have hc := cnt_wt l 65536 (by omega)
  have hcf : cntF (mB l).funcs 65536 = cnt l 65536 := by
    unfold mB cntF
    simp only
    rw [if_neg (by omega)]
    rfl
  have hd : decide (65536 - cntF (mB l).funcs 65536 ≤ 65536) = true := decide_eq_true (by rw [hcf]; omega)
  have hf : fewB (mB l) = lab l := by
    unfold fewB few0 few1 few2 few3 few4
    rw [hd]
    simp [mB, lens, le4, dataFit, few5, funFew]
  have hm : flatM (mB l) = flatR l 0 := by
    unfold flatM
    simp [mB, flatB]
  have hs : shapedB (mB l) = formB l := by
    unfold shapedB sh1 sh2 sh3 sh4 sh5 sh6 sh7 sh8 sh9
    simp [mB, funS, idx1]
  unfold checkV okL
  rw [hf, hm, hs]
  cases lab l <;> cases flatR l 0 <;> cases formB l <;> simp
theorem uB_5 {n : Int} (h : idx1 n = true) : (uB n).length ≤ 5 := by
  unfold idx1 at h
  rw [Bool.and_eq_true, decide_eq_true_eq, decide_eq_true_eq] at h
  unfold uB
  refine lebU_len 4 _ ?_
  have : (128 ^ (4 + 1) : Nat) = 34359738368 := by decide
  omega
theorem flat_5 : ∀ {l : List Int}, l.all idx1 = true → ((l.map uB).flatten).length ≤ 5 * l.length
  | [], _ => by simp
  | n :: r, h => by
    rw [List.all_cons, Bool.and_eq_true] at h
    have h1 := uB_5 h.1
    have h2 := flat_5 h.2
    rw [List.map_cons, List.flatten_cons, List.length_append, List.length_cons]
    omega
theorem len_xl : ∀ {l : Il}, l.len = 0 → xl l = []
  | .nil, _ => rfl
  | .cons .., h => by simp [Il.len] at h
/-- What may be written is not long. -/
theorem xl_wt : ∀ l : Il, nOk l → formB l = true → (xl l).length ≤ 61 * wt l
  | .nil, _, _ => by simp [xl]
  | .cons op x y n ls body els rest, ok, hf => by
    unfold formB at hf
    simp only [Bool.and_eq_true] at hf
    obtain ⟨f1, f2, f3, f4⟩ := hf
    have hb := xl_wt body ok.2.1 f2
    have he := xl_wt els ok.2.2.1 f3
    have hr := xl_wt rest ok.2.2.2 f4
    have hs := lebS_ten ok.1.1 ok.1.2
    have ht : (xTail (formV op) op x y n ls els.len (xl body) (xl els)).length ≤ 60 + 61 * (ls.length / 10) + 61 * wt body + 61 * wt els := by
      unfold form1 at f1
      unfold xTail
      have ux := uB_len x
      have uy := uB_len y
      rcases formV_cases op with h | h | h | h | h | h | h | h | h | h | h <;> rw [h] at f1 ⊢ <;> simp only [Int.reduceEq, if_true, if_false, or_true, true_or, or_false, false_or, or_self, reduceIte] at f1 ⊢
      all_goals first
        | omega
        | (exfalso; cases f1; done)
        | (simp only [List.length_append, List.length_cons, List.length_nil]; omega)
        | ((repeat' split) <;> simp only [List.length_append, List.length_cons, List.length_nil] <;> omega)
        | (rw [Bool.and_eq_true, Bool.and_eq_true] at f1
           have h5 := uB_5 f1.1
           have h6 := flat_5 f1.2.1
           have h7 := uB_len ls.length
           simp only [numsC, List.flatten_cons, List.length_append]
           omega)
    simp only [xl, wt, List.length_append, List.length_cons, List.length_nil]
    omega
theorem bE_ok {l : Il} (ok : nOk l) (h : wt l ≤ 3500) : (bE l = 0 ↔ okL l = true) ∧ (okL l = true → bB l = xEx l) ∧ (bE l = 0 ∨ bB l = []) := by
  have hc := check_mB (l := l) (by omega)
  have hlen : okL l = true → (xEx l).length ≤ 262144 := fun h2 => by
    unfold okL at h2
    simp only [Bool.and_eq_true] at h2
    have := xl_wt l ok h2.2.2
    unfold xEx
    rw [List.length_append, List.length_cons, List.length_nil]
    omega
  by_cases h2 : okL l = true
  · have h3 := body_ok (hc.2 h2) (hlen h2)
    exact ⟨⟨fun _ => h2, fun _ => h3.1⟩, fun _ => h3.2, .inl h3.1⟩
  · have h3 : ¬ checkV (mB l) = 0 := fun e => h2 (hc.1 e)
    have h4 := body_not rfl h3
    exact ⟨⟨fun e => absurd (h4.1.symm.trans e) h3, fun e => absurd e h2⟩, fun e => absurd e h2, .inr h4.2⟩
/-- What EncodeJoins asks. -/
theorem joins_law {a b : Il} (oka : nOk a) (okb : nOk b) (ha : wt a ≤ 1500) (hb : wt b ≤ 1500) :
    ((bE a = 0 ∧ bE b = 0) → bE (a.app b) = 0 ∧ 0 < (bB a).length ∧ bB (a.app b) = (bB a).take ((bB a).length - 1) ++ bB b) ∧
    (¬ (bE a = 0 ∧ bE b = 0) → ¬ bE (a.app b) = 0 ∧ bB (a.app b) = []) := by
  obtain ⟨a1, a2, a3⟩ := bE_ok oka (by omega : wt a ≤ 3500)
  obtain ⟨b1', b2, b3⟩ := bE_ok okb (by omega : wt b ≤ 3500)
  obtain ⟨c1, c2, c3⟩ := bE_ok (app_nOk oka okb) (by rw [app_wt]; omega : wt (a.app b) ≤ 3500)
  rw [app_ok, Bool.and_eq_true, ← a1, ← b1'] at c1 c2
  constructor
  · intro h
    refine ⟨c1.2 h, ?_, ?_⟩
    · rw [a2 (a1.1 h.1)]
      simp [xEx]
    · rw [c2 h, a2 (a1.1 h.1), b2 (b1'.1 h.2)]
      unfold xEx
      rw [app_xl]
      simp
  · intro h
    have h2 : ¬ bE (a.app b) = 0 := fun e => h (c1.1 e)
    exact ⟨h2, c3.resolve_left h2⟩
end Go.Proofs.YtkbfjkbokifgkaaDoor

namespace Go.Proofs.YtkbfjkbokifgkaaDoor
open Go.RowKit
set_option linter.unusedVariables false

def zero7 : Array Value := #[.int .i64 0, .int .i64 0, .int .i64 0, .int .i64 0, .slice none 0 0, .slice none 0 0, .slice none 0 0]
theorem info45 : (Tryd.prog.info? 70).map (fun i => (i.zero, i.size, i.bytes)) = some (some (.agg zero7), 7, 104) := by kernel_rfl
theorem info49 : (Tryd.prog.info? 48).map (fun i => (i.zero, i.size, i.bytes)) = some (some (.agg #[.int .i64 0, .slice none 0 0, .slice none 0 0]), 3, 56) := by kernel_rfl
end Go.Proofs.YtkbfjkbokifgkaaDoor

namespace Go.Proofs.YtkbfjkbokifgkaaDoor
open Go.RowKit
set_option linter.unusedVariables false

end Go.Proofs.YtkbfjkbokifgkaaDoor

namespace Go.Proofs.YtkbfjkbokifgkaaDoor
open Go.RowKit
set_option linter.unusedVariables false

/-- A slice of n elements in new memory that holds the cells 'news'. -/
def NewRow (H : Nat) (w1 : World) (n : Nat) (news : List Value) (v : Value) : Prop :=
  ∃ a c, v = .slice a n c ∧ (n = 0 ∨ ∃ g, a = some ⟨g, 0, none⟩ ∧ H ≤ g ∧ ∀ j u, news[j]? = some u → w1.cell? ⟨g, j, none⟩ = some u)
theorem run_app_fresh {P : Program} (w : World) (t ty e : TypeId) (i : TypeInfo) (z : Value) (size bytes : Nat) (ht : P.underlying t = some (.slice e)) (hi : P.info? e = some i) (hz : i.zero = some z)
    (hsize : i.size = size) (hby : i.bytes = bytes) (h : Nat) (x : Value) (n : Nat) (news : List Value) (hs : Src P size t x n news w) (h63 : n ≤ 9223372036854775807) (hfit : n * bytes ≤ 281474976710656) :
    ∃ v w1, (Builtin.append_ #[t, t] ty #[.slice (some ⟨h, 0, none⟩) 0 0, x]).run P w = .ok v w1 ∧ NewRow (min h w.heap.size) w1 n news v ∧ Below w.heap.size w w1 := by
  subst hsize
  subst hby
  by_cases hn : n = 0
  · subst hn
    have hnil : news = [] := List.eq_nil_of_length_eq_zero (by rw [hs.newsLen]; omega)
    subst hnil
    have := run_append_room_src (P := P) (w := w) t t ty e i ht hi h 0 0 0 x 0 [] hs (Nat.le_refl _) (fun j hj => absurd hj (by simp)) (fun j hj => absurd hj (by simp))
    exact ⟨_, _, this, ⟨_, _, rfl, .inl rfl⟩, Below.refl _ _⟩
  · have hpos : 0 < n := Nat.pos_of_ne_zero hn
    have hcap : Builtin.nextslicecap (0 + n) 0 * i.bytes ≤ 281474976710656 := by rw [Nat.zero_add, nextslicecap_zero hpos]; exact hfit
    have := run_append_grow_src (P := P) (w := w) t t ty e i z ht hi hz (some ⟨h, 0, none⟩) 0 0 [] (run_firstCells_some (P := P) w.drew i.size 0 ⟨h, 0, none⟩ 0 0 [] (by simp) (fun j u hj => by simp at hj)) x n news hs (by omega) (by omega) hcap
    refine ⟨_, _, this, ⟨_, _, by rw [Nat.zero_add], .inr ⟨_, rfl, Nat.min_le_right _ _, fun j u hj => ?_⟩⟩, (Below.refl _ _).drew.alloc (Nat.le_refl _) _⟩
    have e1 : w.heap.size = w.drew.heap.size := rfl
    rw [e1]
    refine (World.cell?_alloc_at _ _ _ j rfl).trans ?_
    rw [← Array.getElem?_toList]
    simp only [List.nil_append, Array.toList_append]
    rw [List.getElem?_append_left (List.getElem?_eq_some_iff.1 hj).1]
    exact hj
theorem wp_app_fresh {P : Program} (w : World) {o : Oper} {a : Act} {K : Act → World → Prop} {Q : Exit → Act → World → Prop} (s x : Operand) (t : TypeId)
    (ho : o.op = .call { callee := .builtin .append, args := #[s, x], argTypes := #[t, t] })
    (e : TypeId) (i : TypeInfo) (z : Value) (size bytes : Nat) (ht : P.underlying t = some (.slice e)) (hi : P.info? e = some i) (hz : i.zero = some z)
    (hsize : i.size = size) (hby : i.bytes = bytes) (h : Nat) (xv : Value) (n : Nat) (news : List Value) (hsv : a.eval s = .slice (some ⟨h, 0, none⟩) 0 0) (hxv : a.eval x = xv) (hs : Src P size t xv n news w) (h63 : n ≤ 9223372036854775807) (hfit : n * bytes ≤ 281474976710656)
    (hK : ∀ v w1, NewRow (min h w.heap.size) w1 n news v → Below w.heap.size w w1 → K (a.put o.dst v) w1) : o.wp P a w K Q := by
  obtain ⟨v, w1, hr, h2, h3⟩ := run_app_fresh (P := P) w t o.type e i z size bytes ht hi hz hsize hby h xv n news hs h63 hfit
  unfold Oper.wp execOp
  simp only [ho, resolve, invoke, builtin, Sem.run_bind, Sem.run_pure, Result.andThen_ok, List.map_toArray, List.map_cons, List.map_nil, hsv, hxv, hr]
  exact hK v w1 h2 h3
theorem wpList_app_fresh {P : Program} (w : World) {ops : Array Oper} {rest : List Oper} {o : Oper} {a : Act} {Q : Exit → Act → World → Prop} (hgd : o.guard = none) (s x : Operand) (t : TypeId)
    (ho : o.op = .call { callee := .builtin .append, args := #[s, x], argTypes := #[t, t] })
    (e : TypeId) (i : TypeInfo) (z : Value) (size bytes : Nat) (ht : P.underlying t = some (.slice e)) (hi : P.info? e = some i) (hz : i.zero = some z)
    (hsize : i.size = size) (hby : i.bytes = bytes) (h : Nat) (xv : Value) (n : Nat) (news : List Value) (hsv : a.eval s = .slice (some ⟨h, 0, none⟩) 0 0) (hxv : a.eval x = xv) (hs : Src P size t xv n news w) (h63 : n ≤ 9223372036854775807) (hfit : n * bytes ≤ 281474976710656)
    (hK : ∀ v w1, NewRow (min h w.heap.size) w1 n news v → Below w.heap.size w w1 → wpList P ops Q rest (a.put o.dst v) w1) : wpList P ops Q (o :: rest) a w :=
  wpList_plain hgd fun _ hK' => wp_app_fresh w s x t ho e i z size bytes ht hi hz hsize hby h xv n news hsv hxv hs h63 hfit fun v w1 h2 h3 => hK' _ _ (hK v w1 h2 h3)
theorem step_app_fresh {P : Program} (w : World) {ops : Array Oper} {o : Oper} {a : Act} {K : Act → World → Prop} {Q : Exit → Act → World → Prop} {E : Prop} (hgd : o.guard = none) (s x : Operand) (t : TypeId)
    (ho : o.op = .call { callee := .builtin .append, args := #[s, x], argTypes := #[t, t] })
    (e : TypeId) (i : TypeInfo) (z : Value) (size bytes : Nat) (ht : P.underlying t = some (.slice e)) (hi : P.info? e = some i) (hz : i.zero = some z)
    (hsize : i.size = size) (hby : i.bytes = bytes) (h : Nat) (xv : Value) (n : Nat) (news : List Value) (hsv : a.eval s = .slice (some ⟨h, 0, none⟩) 0 0) (hxv : a.eval x = xv) (hs : Src P size t xv n news w) (h63 : n ≤ 9223372036854775807) (hfit : n * bytes ≤ 281474976710656)
    (hK : ∀ v w1, NewRow (min h w.heap.size) w1 n news v → Below w.heap.size w w1 → K (a.put o.dst v) w1) :
    if Region.wanted o (yielded ops a.tmps) = true then Oper.wp P o a w K Q else E := by
  have hw : Region.wanted o (yielded ops a.tmps) = true := by simp [Region.wanted, hgd]
  rw [if_pos hw]
  exact wp_app_fresh w s x t ho e i z size bytes ht hi hz hsize hby h xv n news hsv hxv hs h63 hfit hK

/-- A slice of numbers, as the second argument. -/
def intCells (l : List Int) : List Value := l.map fun x => Value.int .i64 x
theorem src_nil {P : Program} {w : World} {size : Nat} {t e : TypeId} (ht : P.underlying t = some (.slice e)) (a : Option Addr) (c : Nat) : Src P size t (.slice a 0 c) 0 [] w := by
  cases a with
  | some ad => exact Src.ofSlice w ht ad 0 c [] (by simp) (fun j u h => by simp at h) (fun u h => by cases h)
  | none => exact ⟨.inl ⟨_, ht⟩, fun _ => rfl, by simp [Builtin.firstCells], by simp [Builtin.firstCells], by simp, fun u h => by cases h⟩
theorem src_ints {w : World} {a : Option Addr} {l : List Int} {c : Nat} (h : IntsIn w a l) : Src Tryd.prog 1 29 (.slice a l.length c) l.length (intCells l) w := by
  rcases h.2 with rfl | ⟨b, o, rfl, hc⟩
  · exact src_nil Tryd.underlying29 a c
  · refine Src.ofSlice w Tryd.underlying29 ⟨b, o, none⟩ l.length c (intCells l) (by simp [intCells]) (fun j u hj => ?_) (fun u hu => ?_)
    · unfold intCells at hj
      rw [List.getElem?_map] at hj
      obtain ⟨x, hx, rfl⟩ := Option.map_eq_some_iff.1 hj
      have e : (⟨b, o, none⟩ : Addr).add j = ⟨b, o + j, none⟩ := by unfold Addr.add; split <;> simp_all
      rw [e]
      exact hc j x hx
    · obtain ⟨x, _, rfl⟩ := List.mem_map.1 hu
      rfl
theorem ints_newrow {H : Nat} {w1 : World} {l : List Int} {v : Value} (h : NewRow H w1 l.length (intCells l) v) (hl : l.length ≤ 9223372036854775807) : ∃ a c, v = .slice a l.length c ∧ IntsR (fun b => H ≤ b) w1 a l := by
  obtain ⟨a, c, rfl, h⟩ := h
  refine ⟨a, c, rfl, hl, ?_⟩
  rcases h with h | ⟨g, rfl, hg, hc⟩
  · exact .inl (List.eq_nil_of_length_eq_zero h)
  · exact .inr ⟨g, 0, rfl, hg, fun i x hx => by
      have := hc i (.int .i64 x) (by unfold intCells; rw [List.getElem?_map, hx]; rfl)
      simpa using this⟩
end Go.Proofs.YtkbfjkbokifgkaaDoor

namespace Go.Proofs.YtkbfjkbokifgkaaDoor
open Go.RowKit
set_option linter.unusedVariables false

structure Fin7 (H : Nat) (u W : World) (v5 v6 : Value) : Prop where
  s5 : W.cell? ⟨H, 5, none⟩ = some v5
  s6 : W.cell? ⟨H, 6, none⟩ = some v6
  lo : ∀ j v, j ≠ 5 → j ≠ 6 → u.cell? ⟨H, j, none⟩ = some v → W.cell? ⟨H, j, none⟩ = some v
  far : ∀ p v, p.block ≠ H → u.cell? p = some v → W.cell? p = some v
  size : W.heap.size = u.heap.size
  below : ∀ B (a : World), B ≤ H → Below B a u → Below B a W
theorem fin_a (H : Nat) (u : World) (v5 v6 x5 x6 : Value) (h5 : u.cell? ⟨H, 5, none⟩ = some x5) (h6 : u.cell? ⟨H, 6, none⟩ = some x6) : Fin7 H u ((u.setCell ⟨H, 5, none⟩ v5).setCell ⟨H, 6, none⟩ v6) v5 v6 :=
  ⟨so_other (so_same h5) (.inr (by decide)), so_same (so_other h6 (.inr (by decide))), fun j v a b h => so_other (so_other h (.inr (fun e => a e.symm))) (.inr (fun e => b e.symm)),
    fun p v hp h => by rw [World.cell?_setCell_far _ ⟨H, 6, none⟩ p _ (fun e => hp e.symm), World.cell?_setCell_far _ ⟨H, 5, none⟩ p _ (fun e => hp e.symm)]; exact h,
    by simp [World.setCell], fun B a hB h => (h.setCell (p := ⟨H, 5, none⟩) hB _).setCell (p := ⟨H, 6, none⟩) hB _⟩
theorem fin_b (H : Nat) (u : World) (v5 v6 x5 x6 : Value) (h5 : u.cell? ⟨H, 5, none⟩ = some x5) (h6 : u.cell? ⟨H, 6, none⟩ = some x6) : Fin7 H u ((u.setCell ⟨H, 6, none⟩ v6).setCell ⟨H, 5, none⟩ v5) v5 v6 :=
  ⟨so_same (so_other h5 (.inr (by decide))), so_other (so_same h6) (.inr (by decide)), fun j v a b h => so_other (so_other h (.inr (fun e => b e.symm))) (.inr (fun e => a e.symm)),
    fun p v hp h => by rw [World.cell?_setCell_far _ ⟨H, 5, none⟩ p _ (fun e => hp e.symm), World.cell?_setCell_far _ ⟨H, 6, none⟩ p _ (fun e => hp e.symm)]; exact h,
    by simp [World.setCell], fun B a hB h => (h.setCell (p := ⟨H, 6, none⟩) hB _).setCell (p := ⟨H, 5, none⟩) hB _⟩
def CopiesC (l : Il) : Prop := ∀ (ao : Option Addr) (c : Nat) (w : World), l.len ≤ 1600 → Sml l → IlIn w ao 0 l →
  Calls Tryd.prog 27 #[.slice ao l.len c] w fun e w' => ∃ ao' c', e = .returned (.slice ao' l.len c') ∧ SlR (fun b => w.heap.size ≤ b) w' ao' l ∧ Below w.heap.size w w'

def CopiesS (l : Il) : Prop := ∀ (ao : Option Addr) (c : Nat) (w : World), l.len ≤ 1600 → Sml l → IlIn w ao 0 l →
  Calls Tryd.prog 27 #[.slice ao l.len c] w fun e w' => ∃ ao' c', e = .returned (.slice ao' l.len c') ∧ SlR (fun b => w.heap.size ≤ b) w' ao' l ∧ Below w.heap.size w w' ∧ OwnIl w.heap.size w' (.slice ao' l.len c') l.len l
set_option maxRecDepth 100000 in
set_option maxHeartbeats 2000000 in
theorem copies_strong (l : Il) (hs : Sub CopiesC l) : CopiesS l := by
  intro ao c w hl hsm hw
  obtain ⟨N, hN⟩ : ∃ N, l.len = N := ⟨_, rfl⟩
  rw [hN] at hl ⊢
  go_enter Tryd.func27, Tryd.ntmps27
  go_wp2_with fail
  go_loopw [3, 4] (fun vo vi wr => ∃ (i : Nat) (r : Il) (ts : List ERec), vi = .int .i64 i ∧ i + r.len = N ∧ ts.length = i ∧ Hid (Below w.heap.size w wr) ∧ Hid (IlIn w ao i r) ∧ Hid (Sub CopiesC r) ∧ Hid (Sml r) ∧ Hid (l = ilOf ts r) ∧
    Hid (wr.ownsRow w.heap.size 70 7 vo i (ts.flatMap eV)) ∧ Hid (∀ t ∈ ts, EOk (fun b => w.heap.size ≤ b ∧ some b ≠ vo.ownBlock) wr t)) (fun _ vi _ => N - (intOf vi).toNat)
  case atStart => exact ⟨0, l, [], rfl, by omega, rfl, Lib.hid (Below.refl _ _), Lib.hid hw, Lib.hid hs, Lib.hid hsm, Lib.hid rfl, Lib.hid (World.ownsRow_nil _ _ _ _), Lib.hid (fun t ht => by cases ht)⟩
  case round =>
    obtain ⟨i, r, ts, rfl, hi, hts, hb, hr, hsub, hsml, hli, hown, hok⟩ := hrel
    cases r with
    | nil =>
      have hiN : i = N := by simpa [Il.len] using hi
      have hfin : ∃ ao' c', u3 = .slice ao' N c' ∧ SlR (fun b => w.heap.size ≤ b) wr ao' l := by
        rcases hown.out.2 with ⟨h1, h2⟩ | ⟨g, cap, cur, h1, h2, h3, _⟩
        · have hts0 : ts = [] := List.eq_nil_of_length_eq_zero (by omega)
          refine ⟨none, 0, by rw [h1, ← hiN, h2], .inl ?_⟩
          rw [hli.out, hts0]
          rfl
        · refine ⟨some ⟨g, 0, none⟩, cap, by rw [h1, hiN], .inr ⟨g, 0, rfl, h2, ?_⟩⟩
          rw [hli.out]
          refine row_il ts 0 (fun j u hj => ?_) (fun t ht => (hok.out t ht).keep ⟨fun _ _ _ h => h, fun b h _ => h.1⟩)
          have := hown.out.cells (g := g) (by rw [h1]; rfl) j u hj
          have e : (⟨g, 0, none⟩ : Addr).add j = ⟨g, 0 + j, none⟩ := by unfold Addr.add; split <;> simp_all
          rw [e] at this
          exact this
      obtain ⟨ao', c', rfl, hfin⟩ := hfin
      have hfin := Lib.hid hfin
      subst hiN
      have hO := Lib.hid (⟨ts, hli.out, hts, hown.out, hok.out⟩ : OwnIl w.heap.size wr (.slice ao' i c') i l)
      clear hok hown hli
      go_wp2
      go_ret
      exact ⟨ao', c', rfl, hfin.out, hb.out, hO.out⟩
    | cons op x y n ls body els rest =>
      have hlen : i + (rest.len + 1) = N := hi
      have hlt : i < N := by omega
      obtain ⟨b, o, a4, k4, a5, k5, a6, k6, rfl, hh, hrest⟩ := hr.out.head
      obtain ⟨c0, c1, c2, c3, c4, c5, c6, i4, l5, i5, l6, i6⟩ := hh
      have kb := keep_below hb.out
      have d0 := kb _ _ c0
      have d1 := kb _ _ c1
      have d2 := kb _ _ c2
      have d3 := kb _ _ c3
      have d4 := kb _ _ c4
      have d5 := kb _ _ c5
      have d6 := kb _ _ c6
      have hr2 := Lib.hid hrest
      have hi4 := Lib.hid (i4.keep kb)
      have hi5 := Lib.hid (i5.keep kb)
      have hi6 := Lib.hid (i6.keep kb)
      obtain ⟨m1, m2, m3, m4, m5, m6⟩ := hsml.out
      clear c0 c1 c2 c3 c4 c5 c6 i4 i5 i6 hr hrest kb
      obtain ⟨i3, hi3, hz3, hs3, hb3⟩ := info_parts info3
      obtain ⟨W0, hW0⟩ : ∃ W0, W0 = (wr.alloc (.cells #[.int .i64 op, .int .i64 x, .int .i64 y, .int .i64 n, .slice a4 ls.length k4, .slice a5 body.len k5, .slice a6 els.len k6] 70)).alloc (.cells #[] 3) := ⟨_, rfl⟩
      have hbW : Below wr.heap.size wr W0 := by rw [hW0]; exact ((Below.refl _ _).alloc (Nat.le_refl _) _).alloc (by simp) _
      have hsz : W0.heap.size = wr.heap.size + 2 := by rw [hW0]; simp
      have hsrc : Src Tryd.prog 1 29 (.slice a4 ls.length k4) ls.length (intCells ls) W0 := src_ints (hi4.out.below hbW)
      have hbx : Box W0 wr.heap.size #[.int .i64 op, .int .i64 x, .int .i64 y, .int .i64 n, .slice a4 ls.length k4, .slice a5 body.len k5, .slice a6 els.len k6] := by rw [hW0]; exact (box_new wr _ _).keep (keeps_new _ _)
      have hfr : ∀ j, W0.frozen? ⟨wr.heap.size, j, none⟩ = false := fun j => by rw [hW0, World.frozen?_alloc_past _ _ _ (by simp)]; exact World.frozen?_alloc_at _ _ _ _ (by simp)
      have hl4 : ls.length ≤ 9223372036854775807 := hi4.out.1
      have hbW := Lib.hid hbW
      have hbx := Lib.hid hbx
      have hfr := Lib.hid hfr
      subst hW0
      go_upto_region 7 with (first | (
        at_builtin
        refine wpList_app_fresh _ rfl _ _ _ rfl 3 i3 _ 1 8 Tryd.underlying29 hi3 hz3 hs3 hb3 (wr.heap.size + 1) _ ls.length (intCells ls) (by rfl) (by rfl) hsrc hl4 (by omega) ?_
        intro v4 w1 hn4 hb4
        obtain ⟨a4', c4', rfl, i4'⟩ := ints_newrow hn4 hl4
        clear hn4
        have q4 : w1.cell? ⟨wr.heap.size, 4, none⟩ = some (.slice a4 ls.length k4) := keep_below hb4 _ _ (hbx.out 4 _ rfl)
        have f4 : w1.frozen? ⟨wr.heap.size, 4, none⟩ = false := (hb4.frozen (by rw [hsz]; simp)).trans (hfr.out 4)))
      have hmin : min (wr.heap.size + 1) ((wr.alloc (.cells #[.int .i64 op, .int .i64 x, .int .i64 y, .int .i64 n, .slice a4 ls.length k4, .slice a5 body.len k5, .slice a6 els.len k6] 70)).alloc (.cells #[] 3)).heap.size = wr.heap.size + 1 := by rw [hsz]; omega
      rw [hmin] at i4'
      have hbw1 : Below wr.heap.size wr w1 := hbW.out.trans (hb4.mono (by rw [hsz]; omega))
      obtain ⟨W, hW⟩ : ∃ W, W = w1.setCell ⟨wr.heap.size, 4, none⟩ (.slice a4' ls.length c4') := ⟨_, rfl⟩
      have hlt1 : wr.heap.size < w1.heap.size := Nat.lt_of_lt_of_le (by rw [hsz]; omega) hb4.size
      have hbW2 : Below wr.heap.size wr W := by rw [hW]; exact hbw1.setCell (p := ⟨wr.heap.size, 4, none⟩) (Nat.le_refl _) _
      have z : ∀ j v, j ≠ 4 → (#[.int .i64 op, .int .i64 x, .int .i64 y, .int .i64 n, .slice a4 ls.length k4, .slice a5 body.len k5, .slice a6 els.len k6] : Array Value)[j]? = some v → W.cell? ⟨wr.heap.size, j, none⟩ = some v := fun j v hj hv => by
        rw [hW]
        exact so_other (keep_below hb4 _ _ (hbx.out j v hv)) (.inr (fun e => hj e.symm))
      have z0 := z 0 _ (by decide) rfl
      have z1 := z 1 _ (by decide) rfl
      have z2 := z 2 _ (by decide) rfl
      have z3 := z 3 _ (by decide) rfl
      have z4 : W.cell? ⟨wr.heap.size, 4, none⟩ = some (.slice a4' ls.length c4') := by rw [hW]; exact so_same q4
      have z5 : W.cell? ⟨wr.heap.size, 5, none⟩ = some (.slice a5 body.len k5) := z 5 _ (by decide) rfl
      have z6 : W.cell? ⟨wr.heap.size, 6, none⟩ = some (.slice a6 els.len k6) := z 6 _ (by decide) rfl
      have zf : ∀ j, W.frozen? ⟨wr.heap.size, j, none⟩ = false := fun j => by rw [hW, World.frozen?_setCell, hb4.frozen (p := ⟨wr.heap.size, j, none⟩) (by rw [hsz]; show wr.heap.size < _; omega)]; exact hfr.out j
      have z4' : IntsR (fun b => wr.heap.size + 1 ≤ b) W a4' ls := i4'.keep ⟨fun p v hp hc => by
        rw [hW]
        have hne : p.block ≠ wr.heap.size := by omega
        rw [World.cell?_setCell_far w1 ⟨wr.heap.size, 4, none⟩ p _ (fun e => hne e.symm)]
        exact hc, fun b hb _ => hb⟩
      have hltW : wr.heap.size < W.heap.size := by rw [hW]; simpa [World.setCell] using hlt1
      rw [← hW]
      have Z4 := Lib.hid z4'
      have ZF := Lib.hid zf
      have ZB := Lib.hid hbW2
      have ZI5 := Lib.hid (hi5.out.below hbW2)
      have ZI6 := Lib.hid (hi6.out.below hbW2)
      clear z z4' zf hbW2 hW hlt1 hbw1 hmin i4' hb4 q4 f4 hsrc hbW hbx hfr hsz i3 hi3 hz3 hs3 hb3
      go_cut [] from 6 to 32 (fun wx => ∃ a5' c5' a6' c6', Hid (Box wx wr.heap.size #[.int .i64 op, .int .i64 x, .int .i64 y, .int .i64 n, .slice a4' ls.length c4', .slice a5' body.len c5', .slice a6' els.len c6']) ∧
        Hid (EOk (fun b => wr.heap.size + 1 ≤ b) wx ⟨op, x, y, n, ls, body, els, a4', c4', a5', c5', a6', c6'⟩) ∧ Hid (Below wr.heap.size wr wx))
      case first =>
        have HC5 := hsub.out.1
        have HC6 := hsub.out.2.1
        unfold CopiesC at HC5 HC6
        replace HC5 := Lib.hid HC5
        replace HC6 := Lib.hid HC6
        go_region_law ((first | (have hB5 := B5; go_simp; go_at_call 27; refine (HC6.out a6 k6 _ m3 m5 (ZI6.out.keep ((keeps_drew W).trans (keep_below B5)))).mono ?_; rintro e u2 ⟨ao6, co6, rfl, R6, B6⟩; have g5 : u2.cell? ⟨wr.heap.size, 5, none⟩ = some (.slice a5 body.len k5) := keep_below B6 _ _ (keep_below B5 _ _ z5); have g6 : u2.cell? ⟨wr.heap.size, 6, none⟩ = some (.slice a6 els.len k6) := keep_below B6 _ _ e6; have h5 : u2.frozen? ⟨wr.heap.size, 5, none⟩ = false := (B6.frozen (Nat.lt_of_lt_of_le hltW B5.size)).trans ((B5.frozen hltW).trans (ZF.out 5)); have h6 : u2.frozen? ⟨wr.heap.size, 6, none⟩ = false := (B6.frozen (Nat.lt_of_lt_of_le hltW B5.size)).trans ((B5.frozen hltW).trans (ZF.out 6))) | (go_simp; go_at_call 27; (with_reducible refine (HC5.out a5 k5 _ m2 m4 (ZI5.out.keep (keeps_drew _))).mono ?_); rintro e u1 ⟨ao5, co5, rfl, R5, B5⟩; have e6 : u1.cell? ⟨wr.heap.size, 6, none⟩ = some (.slice a6 els.len k6) := keep_below B5 _ _ z6)))
        all_goals go_wp2_with fail
        all_goals go_meet
        all_goals (
          have hF := fin_a wr.heap.size u2 (.slice ao5 body.len co5) (.slice ao6 els.len co6) _ _ g5 g6
          have k1 : Keeps W u2 := ((keeps_drew W).trans (keep_below B5)).trans (keep_below B6)
          have hs1 : W.heap.size ≤ u1.heap.size := B5.size
          have hs2 : u1.heap.size ≤ u2.heap.size := B6.size
          refine ⟨ao5, co5, ao6, co6, Lib.hid ?_, Lib.hid ⟨?_, ?_, ?_, ?_, ?_⟩, Lib.hid (hF.below _ _ (Nat.le_refl _) (ZB.out.trans (((Below.refl W.heap.size W).drew.trans (B5.trans (B6.mono hs1))).mono ZB.out.size)))⟩
          · intro j v hj
            match j, hj with
            | 0, hj => exact hF.lo 0 v (by decide) (by decide) (k1 _ _ (by rw [z0]; exact hj))
            | 1, hj => exact hF.lo 1 v (by decide) (by decide) (k1 _ _ (by rw [z1]; exact hj))
            | 2, hj => exact hF.lo 2 v (by decide) (by decide) (k1 _ _ (by rw [z2]; exact hj))
            | 3, hj => exact hF.lo 3 v (by decide) (by decide) (k1 _ _ (by rw [z3]; exact hj))
            | 4, hj => exact hF.lo 4 v (by decide) (by decide) (k1 _ _ (by rw [z4]; exact hj))
            | 5, hj => rw [hF.s5]; exact hj
            | 6, hj => rw [hF.s6]; exact hj
            | j + 7, hj => simp at hj
          · exact Z4.out.keep ⟨fun p v hp h => hF.far p v (by omega) (k1 p v h), fun b hb _ => hb⟩
          · show body.len ≤ _
            omega
          · exact R5.keep ⟨fun p v hp h => hF.far p v (by have : W.heap.size ≤ p.block := hp; omega) (keep_below B6 p v h), fun b hb _ => by have : W.heap.size ≤ b := hb; omega⟩
          · show els.len ≤ _
            omega
          · exact R6.keep ⟨fun p v hp h => hF.far p v (by have : u1.heap.size ≤ p.block := hp; omega) h, fun b hb _ => by have : u1.heap.size ≤ b := hb; omega⟩)
      case rest =>
        obtain ⟨a5', c5', a6', c6', hBx, hE, hBw⟩ := hcut
        have y0 : wc.cell? ⟨wr.heap.size, 0, none⟩ = some (.int .i64 op) := hBx.out 0 _ rfl
        have y1 : wc.cell? ⟨wr.heap.size, 1, none⟩ = some (.int .i64 x) := hBx.out 1 _ rfl
        have y2 : wc.cell? ⟨wr.heap.size, 2, none⟩ = some (.int .i64 y) := hBx.out 2 _ rfl
        have y3 : wc.cell? ⟨wr.heap.size, 3, none⟩ = some (.int .i64 n) := hBx.out 3 _ rfl
        have y4 : wc.cell? ⟨wr.heap.size, 4, none⟩ = some (.slice a4' ls.length c4') := hBx.out 4 _ rfl
        have y5 : wc.cell? ⟨wr.heap.size, 5, none⟩ = some (.slice a5' body.len c5') := hBx.out 5 _ rfl
        have y6 : wc.cell? ⟨wr.heap.size, 6, none⟩ = some (.slice a6' els.len c6') := hBx.out 6 _ rfl
        obtain ⟨t, ht⟩ : ∃ t : ERec, t = ⟨op, x, y, n, ls, body, els, a4', c4', a5', c5', a6', c6'⟩ := ⟨_, rfl⟩
        have hown2 := own_below hown.out hBw.out
        have hlw : w.heap.size ≤ wc.heap.size := Nat.le_trans hb.out.size hBw.out.size
        have hrow : ∀ k, u3.ownBlock = some k → k < wr.heap.size := fun k e => (hown.out.lt k e).2
        rw [← ht] at hE
        have hev : eV t = [.int .i64 op, .int .i64 x, .int .i64 y, .int .i64 n, .slice a4' ls.length c4', .slice a5' body.len c5', .slice a6' els.len c6'] := by rw [ht]; rfl
        have hlf := ilOf_snoc t rest ts
        have htf : Il.cons t.op t.x t.y t.n t.ls t.body t.els rest = .cons op x y n ls body els rest := by rw [ht]
        rw [htf] at hlf
        have hlf := Lib.hid (hli.out.trans hlf.symm)
        have hev := Lib.hid hev
        clear ht htf hsml hBx z0 z1 z2 z3 z4 z5 z6 Z4 ZF ZB ZI5 ZI6 hltW d0 d1 d2 d3 d4 d5 d6 hi4 hi5 hi6 m1 m2 m3 m4 m5
        have hm6 := Lib.hid m6
        clear m6
        obtain ⟨ie, hie, hze, hse, hbe⟩ := info_parts info45
        go_wp2_with (first | (
          at_builtin
          refine wpList_append_lies _ rfl _ _ _ rfl w.heap.size 70 ie _ 7 104 Tryd.underlying40 hie hze hse hbe rfl (by omega) u3 i (ts.flatMap eV) (by rfl) (hown2.alloc _)
            ⟨wc.heap.size, 0, none⟩ 1 1 [.int .i64 op, .int .i64 x, .int .i64 y, .int .i64 n, .slice a4' ls.length c4', .slice a5' body.len c5', .slice a6' els.len c6'] (by rfl) (by rfl)
            (World.news_of_block (cs := #[.int .i64 op, .int .i64 x, .int .i64 y, .int .i64 n, .slice a4' ls.length c4', .slice a5' body.len c5', .slice a6' els.len c6']) (t := 70) (fr := (0, 0)) (heap_alloc_new _ _)) (by intro u hu; simp only [List.mem_cons, List.mem_nil_iff, or_false] at hu; rcases hu with rfl | rfl | rfl | rfl | rfl | rfl | rfl <;> rfl)
            (by omega) (by unfold maxLen; omega) (by omega) (by simp; omega) (wc.heap.size + 1) (by simp) ?_
          intro g cap w1 hown1 hgrow hat hlt1))
        rw [← hev.out] at hown1
        have hsr := Lib.hid hsub.out.2.2
        have hown3 : w1.ownsRow w.heap.size 70 7 (.slice (some ⟨g, 0, none⟩) (i + 1) cap) (i + 1) ((ts ++ [t]).flatMap eV) := by
          rw [List.flatMap_append]
          simpa using hown1
        have hal : Below wc.heap.size wc (wc.alloc (.cells #[.int .i64 op, .int .i64 x, .int .i64 y, .int .i64 n, .slice a4' ls.length c4', .slice a5' body.len c5', .slice a6' els.len c6'] 70)) := (Below.refl _ _).alloc (Nat.le_refl _) _
        have hgg : u3.ownBlock = some g ∨ (wc.alloc (.cells #[.int .i64 op, .int .i64 x, .int .i64 y, .int .i64 n, .slice a4' ls.length c4', .slice a5' body.len c5', .slice a6' els.len c6'] 70)).heap.size ≤ g := by
          rcases hat with h | h
          · exact .inl h
          · right
            rw [h]
            simp
        have hk : KeepsR (fun b => w.heap.size ≤ b ∧ some b ≠ u3.ownBlock) (fun b => w.heap.size ≤ b ∧ some b ≠ some g) wc w1 := by
          refine ((KeepsR.below (R := fun b => w.heap.size ≤ b ∧ some b ≠ u3.ownBlock) hal).trans (KeepsR.grown2 hgrow hgg) hal.size (fun k hk => .inl hk))
        have hok2 : ∀ s ∈ ts ++ [t], EOk (fun b => w.heap.size ≤ b ∧ some b ≠ (Value.slice (some ⟨g, 0, none⟩) (i + 1) cap).ownBlock) w1 s := by
          intro s hs
          show EOk (fun b => w.heap.size ≤ b ∧ some b ≠ some g) w1 s
          rcases List.mem_append.1 hs with h | h
          · exact ((hok.out s h).keep (KeepsR.below hBw.out)).keep hk
          · obtain rfl := List.mem_singleton.1 h
            refine hE.out.keep (hk.imp fun k h1 h2 => ⟨by have := hb.out.size; omega, fun e => ?_⟩)
            have := hrow k e.symm
            omega
        have hbf : Below w.heap.size w w1 := (hb.out.trans ((hBw.out.trans (hal.mono hBw.out.size)).mono hb.out.size)).grown hgrow (by have := hal.size; omega) (fun k e => (hown.out.lt k e).1)
        have hown3 := Lib.hid hown3
        have hok2 := Lib.hid hok2
        have hbf := Lib.hid hbf
        clear hgg hk hal hgrow hat hlt1 hown1 hown hok hown2 hE hev hrow hsub hb hBw
        go_wp2
        exact ⟨⟨i + 1, rest, ts ++ [t], by simp, by omega, by simp [hts], hbf, hr2, hsr, hm6, hlf, hown3, hok2⟩, by simp [intOf]; omega⟩
theorem copies_step (l : Il) (hs : Sub CopiesC l) : CopiesC l := fun ao c w h1 h2 h3 => (copies_strong l hs ao c w h1 h2 h3).mono fun e w' ⟨a, b, h4, h5, h6, _⟩ => ⟨a, b, h4, h5, h6⟩
theorem copies_any (l : Il) : CopiesC l := Il.each copies_step l
theorem copies_own (l : Il) : CopiesS l := copies_strong l (Il.all copies_step l)
end Go.Proofs.YtkbfjkbokifgkaaDoor

namespace Go.Proofs.YtkbfjkbokifgkaaDoor
open Go.RowKit
set_option linter.unusedVariables false

def leftN (listed : Array Bool) : Nat := listed.toList.countP (fun b => !b)
theorem left_set {listed : Array Bool} {i : Nat} (h : listed.getD i true = false) : leftN (listed.setIfInBounds i true) + 1 = leftN listed := by
  have hlt : i < listed.size := by
    rcases Nat.lt_or_ge i listed.size with h' | h'
    · exact h'
    · simp [Array.getElem?_eq_none h'] at h
  have hf : listed[i] = false := by simpa [hlt] using h
  unfold leftN
  rw [Array.toList_setIfInBounds]
  have hl : i < listed.toList.length := by simpa using hlt
  have hg : listed.toList[i] = false := by simpa using hf
  generalize listed.toList = l at hl hg
  clear hlt hf h
  induction l generalizing i with
  | nil => simp at hl
  | cons b r ih =>
    cases i with
    | zero =>
      simp at hg
      subst hg
      simp
    | succ i =>
      simp only [List.set_cons_succ, List.countP_cons]
      have := ih (i := i) (by simpa using hl) (by simpa using hg)
      omega
theorem getD_set_ne2 {l : Array Bool} {i j : Nat} {c : Bool} (h : i ≠ j) (hh : (l.setIfInBounds i true).getD j c = true) : l.getD j c = true := by
  rw [getD_set_ne c h] at hh
  exact hh

theorem wpAny_inv {P : Program} {md : Region.Mode} {ops : Array Oper} {Q : Exit → Act → World → Prop} (J : Array Bool → Act → World → Prop)
    (step : ∀ listed a w, J listed a w → ∀ i o, ops[i]? = some o → listed.getD i true = false → (∀ e ∈ o.after, Region.binds md e = true → listed.getD e.on false = true) →
      wpOp P ops Q i (fun a' w' => J (listed.setIfInBounds i true) a' w') a w)
    (fin : ∀ listed a w, J listed a w → Region.ready md ops listed = [] → Q .normal a w) :
    ∀ (fuel : Nat) (listed : Array Bool) (a : Act) (w : World), J listed a w → leftN listed ≤ fuel → wpAny P md ops Q fuel listed a w := by
  intro fuel
  induction fuel with
  | zero =>
    intro listed a w hJ hl
    have hr : Region.ready md ops listed = [] := by
      cases hrs : Region.ready md ops listed with
      | nil => rfl
      | cons i r =>
        have hi := (mem_ready.1 (show i ∈ Region.ready md ops listed by rw [hrs]; exact List.mem_cons_self ..)).1
        have := left_set hi
        omega
    exact ⟨hr, fin listed a w hJ hr⟩
  | succ fuel ih =>
    intro listed a w hJ hl
    refine ⟨fin listed a w hJ, fun i hi => ?_⟩
    obtain ⟨h1, o, ho, hall⟩ := mem_ready.1 hi
    exact wpOp_mono (fun a' w' h => ih _ a' w' h (by have := left_set h1; omega)) (step listed a w hJ i o ho h1 hall)

def upd (f : Nat → Value) (s : Nat) (v : Value) : Nat → Value := fun t => if t = s then v else f t
def fr (A B C : Value) (f : Nat → Value) : Act := { tmps := #[A, B, C, f 3, undef, undef, undef, undef, undef, undef, f 10, f 11, f 12, f 13, f 14, f 15, f 16, f 17, f 18, f 19, f 20, f 21, f 22, f 23, f 24, f 25, f 26, f 27, f 28, f 29, f 30, undef, undef, undef, undef, undef, undef, undef, undef, undef, undef, undef, undef, undef, undef, undef, undef, undef, undef, undef, undef, undef, undef, undef, undef, undef, undef, undef, undef, undef, undef, undef, undef, undef, undef, undef, undef, undef, undef, undef, undef, undef, undef, undef, undef, undef, undef, undef, undef, undef, undef, undef, undef, undef, undef, undef, undef, undef, undef, undef, undef, undef, undef, undef, undef, undef, undef, undef, undef, undef, undef, undef, undef, undef, undef, undef, undef, undef, undef, undef, undef, undef, undef, undef, undef, undef, undef, undef, undef, undef, undef, undef, undef, undef, undef, undef, undef, undef, undef, undef, undef, undef, undef, undef, undef, undef, undef, undef, undef, undef, undef, undef, undef, undef, undef, undef, undef, undef, undef, undef, undef, undef, undef, undef, undef, undef, undef, undef, undef, undef, undef, undef, undef, undef, undef, undef, undef, undef, undef, undef, undef, undef, undef, undef, undef, undef, undef, undef, undef, undef], defers := [] }
theorem put_13 (A B C : Value) (f : Nat → Value) (v : Value) : (fr A B C f).put (some 13) v = fr A B C (upd f 13 v) := rfl
theorem eval_13 (A B C : Value) (f : Nat → Value) : (fr A B C f).eval (.tmp 13) = f 13 := rfl
end Go.Proofs.YtkbfjkbokifgkaaDoor

namespace Go.Proofs.YtkbfjkbokifgkaaDoor
open Go.RowKit
set_option linter.unusedVariables false

theorem flat_len {α : Type} {enc : α → List Value} {k : Nat} (hlen : ∀ x, (enc x).length = k) : ∀ xs : List α, (xs.flatMap enc).length = xs.length * k
  | [] => by simp
  | x :: r => by
    rw [List.flatMap_cons, List.length_append, flat_len hlen r, hlen, List.length_cons, Nat.add_mul]
    omega
theorem flat_at {α : Type} {enc : α → List Value} {k : Nat} (hlen : ∀ x, (enc x).length = k) : ∀ (xs : List α) (i r : Nat) (x : α) (u : Value), xs[i]? = some x → (enc x)[r]? = some u → (xs.flatMap enc)[i * k + r]? = some u
  | [], i, r, x, u, h, _ => by simp at h
  | y :: l, 0, r, x, u, h, hu => by
    simp only [List.getElem?_cons_zero, Option.some.injEq] at h
    subst h
    rw [List.flatMap_cons, List.getElem?_append_left (by have := (List.getElem?_eq_some_iff.1 hu).1; omega)]
    simpa using hu
  | y :: l, i + 1, r, x, u, h, hu => by
    simp only [List.getElem?_cons_succ] at h
    rw [List.flatMap_cons, List.getElem?_append_right (by rw [hlen, Nat.add_mul]; omega)]
    have e : (i + 1) * k + r - (enc y).length = i * k + r := by rw [hlen, Nat.add_mul]; omega
    rw [e]
    exact flat_at hlen l i r x u h hu
theorem flat_inv {α : Type} {enc : α → List Value} {k : Nat} (hlen : ∀ x, (enc x).length = k) : ∀ (xs : List α) (j : Nat) (u : Value), (xs.flatMap enc)[j]? = some u → ∃ i r x, xs[i]? = some x ∧ j = i * k + r ∧ (enc x)[r]? = some u
  | [], j, u, h => by simp at h
  | y :: l, j, u, h => by
    rw [List.flatMap_cons] at h
    by_cases hj : j < (enc y).length
    · rw [List.getElem?_append_left hj] at h
      exact ⟨0, j, y, rfl, by omega, h⟩
    · rw [List.getElem?_append_right (by omega)] at h
      obtain ⟨i, r, x, h1, h2, h3⟩ := flat_inv hlen l _ u h
      refine ⟨i + 1, r, x, by simpa using h1, ?_, h3⟩
      rw [hlen] at h2 hj
      rw [Nat.add_mul]
      omega
theorem flat_one {α : Type} {enc : α → List Value} (hone : ∀ x, ∀ u ∈ enc x, u.oneCell' = true) (xs : List α) : ∀ u ∈ xs.flatMap enc, u.oneCell' = true := by
  intro u hu
  obtain ⟨x, _, hx⟩ := List.mem_flatMap.1 hu
  exact hone x u hx
theorem rows_src {α : Type} {F : World → Nat → Nat → α → Prop} {k : Nat} {enc : α → List Value} {t e : TypeId} {w : World} {a : Option Addr} {c : Nat} {xs : List α} (ht : Tryd.prog.underlying t = some (.slice e))
    (hlen : ∀ x, (enc x).length = k) (hone : ∀ x, ∀ u ∈ enc x, u.oneCell' = true) (hF : ∀ b o x, F w b o x → ∀ j u, (enc x)[j]? = some u → w.cell? ⟨b, o + j, none⟩ = some u) (h : RowsIn F k w a xs) :
    Src Tryd.prog k t (.slice a xs.length c) xs.length (xs.flatMap enc) w := by
  rcases h.2 with rfl | ⟨b, o, rfl, hc⟩
  · exact src_nil ht a c
  · refine Src.ofSlice w ht ⟨b, o, none⟩ xs.length c _ (flat_len hlen xs) (fun j u hj => ?_) (flat_one hone xs)
    obtain ⟨i, r, x, h1, h2, h3⟩ := flat_inv hlen xs j u hj
    have e : (⟨b, o, none⟩ : Addr).add j = ⟨b, o + i * k + r, none⟩ := by
      rw [h2, Nat.add_assoc]
      unfold Addr.add
      split <;> simp_all
    rw [e]
    exact hF b _ x (hc i x h1) r u h3
/-- A row in new memory. -/
def RowsNew {α : Type} (F : World → Nat → Nat → α → Prop) (k : Nat) (B : Nat) (w : World) (a : Option Addr) (xs : List α) : Prop :=
  xs.length ≤ 9223372036854775807 ∧ (xs = [] ∨ ∃ g, a = some ⟨g, 0, none⟩ ∧ B ≤ g ∧ ∀ i x, xs[i]? = some x → F w g (0 + i * k) x)
theorem RowsNew.rows {α : Type} {F : World → Nat → Nat → α → Prop} {k B : Nat} {w : World} {a : Option Addr} {xs : List α} (h : RowsNew F k B w a xs) : RowsIn F k w a xs := by
  rcases h with ⟨hl, h | ⟨g, e, _, h⟩⟩
  · exact ⟨hl, .inl h⟩
  · exact ⟨hl, .inr ⟨g, 0, e, h⟩⟩
theorem rows_new {α : Type} {F : World → Nat → Nat → α → Prop} {k B : Nat} {enc : α → List Value} {w : World} {xs : List α} {v : Value} (hlen : ∀ x, (enc x).length = k) (hl : xs.length ≤ 9223372036854775807)
    (hF : ∀ b o x, x ∈ xs → (∀ j u, (enc x)[j]? = some u → w.cell? ⟨b, o + j, none⟩ = some u) → F w b o x) (h : NewRow B w xs.length (xs.flatMap enc) v) :
    ∃ a c, v = .slice a xs.length c ∧ RowsNew F k B w a xs := by
  obtain ⟨a, c, rfl, h⟩ := h
  refine ⟨a, c, rfl, hl, ?_⟩
  rcases h with h | ⟨g, rfl, hg, hc⟩
  · exact .inl (List.eq_nil_of_length_eq_zero h)
  · exact .inr ⟨g, rfl, hg, fun i x hx => hF g _ x (List.mem_of_getElem? hx) fun j u hj => by
      have := hc _ u (flat_at hlen xs i j x u hx hj)
      rw [Nat.zero_add]
      exact this⟩
theorem NewRow.mono {H : Nat} {w w' : World} {n : Nat} {news : List Value} {v : Value} (f : Keeps w w') (h : NewRow H w n news v) : NewRow H w' n news v := by
  obtain ⟨a, c, rfl, h⟩ := h
  refine ⟨a, c, rfl, ?_⟩
  rcases h with h | ⟨g, e, hg, hc⟩
  · exact .inl h
  · exact .inr ⟨g, e, hg, fun j u hj => f _ _ (hc j u hj)⟩
theorem NewRow.le {H H' : Nat} {w : World} {n : Nat} {news : List Value} {v : Value} (h : NewRow H w n news v) (hH : H' ≤ H) : NewRow H' w n news v := by
  obtain ⟨a, c, rfl, h⟩ := h
  refine ⟨a, c, rfl, ?_⟩
  rcases h with h | ⟨g, e, hg, hc⟩
  · exact .inl h
  · exact .inr ⟨g, e, by omega, hc⟩

def impC (t : ByteArray × ByteArray × Int) : List Value := [.string t.1, .string t.2.1, .int .i64 t.2.2]
def limC (t : Int × Int × Bool) : List Value := [.int .i64 t.1, .int .i64 t.2.1, .bool t.2.2]
def expC (t : ByteArray × Int × Int) : List Value := [.string t.1, .int .i64 t.2.1, .int .i64 t.2.2]
theorem impC_one (t : ByteArray × ByteArray × Int) : ∀ u ∈ impC t, u.oneCell' = true := by
  intro u hu
  simp only [impC, List.mem_cons, List.mem_nil_iff, or_false] at hu
  rcases hu with rfl | rfl | rfl <;> rfl
theorem limC_one (t : Int × Int × Bool) : ∀ u ∈ limC t, u.oneCell' = true := by
  intro u hu
  simp only [limC, List.mem_cons, List.mem_nil_iff, or_false] at hu
  rcases hu with rfl | rfl | rfl <;> rfl
theorem expC_one (t : ByteArray × Int × Int) : ∀ u ∈ expC t, u.oneCell' = true := by
  intro u hu
  simp only [expC, List.mem_cons, List.mem_nil_iff, or_false] at hu
  rcases hu with rfl | rfl | rfl <;> rfl
theorem imp_cells {w : World} (b o : Nat) (t : ByteArray × ByteArray × Int) (h : ImportAt w b o t) : ∀ j u, (impC t)[j]? = some u → w.cell? ⟨b, o + j, none⟩ = some u := fun j u hj => by
  match j, hj with
  | 0, hj => simp [impC] at hj; subst hj; exact h.1.1
  | 1, hj => simp [impC] at hj; subst hj; exact h.2.1.1
  | 2, hj => simp [impC] at hj; subst hj; exact h.2.2
  | j + 3, hj => simp [impC] at hj
theorem lim_cells {w : World} (b o : Nat) (t : Int × Int × Bool) (h : LimitsAt w b o t) : ∀ j u, (limC t)[j]? = some u → w.cell? ⟨b, o + j, none⟩ = some u := fun j u hj => by
  match j, hj with
  | 0, hj => simp [limC] at hj; subst hj; exact h.1
  | 1, hj => simp [limC] at hj; subst hj; exact h.2.1
  | 2, hj => simp [limC] at hj; subst hj; exact h.2.2
  | j + 3, hj => simp [limC] at hj
theorem exp_cells {w : World} (b o : Nat) (t : ByteArray × Int × Int) (h : ExportAt w b o t) : ∀ j u, (expC t)[j]? = some u → w.cell? ⟨b, o + j, none⟩ = some u := fun j u hj => by
  match j, hj with
  | 0, hj => simp [expC] at hj; subst hj; exact h.1.1
  | 1, hj => simp [expC] at hj; subst hj; exact h.2.1
  | 2, hj => simp [expC] at hj; subst hj; exact h.2.2
  | j + 3, hj => simp [expC] at hj
theorem cells_imp {w : World} (b o : Nat) (t : ByteArray × ByteArray × Int) (h1 : t.1.size ≤ 9223372036854775807) (h2 : t.2.1.size ≤ 9223372036854775807) (h : ∀ j u, (impC t)[j]? = some u → w.cell? ⟨b, o + j, none⟩ = some u) : ImportAt w b o t :=
  ⟨⟨h 0 _ rfl, h1⟩, ⟨h 1 _ rfl, h2⟩, h 2 _ rfl⟩
theorem cells_lim {w : World} (b o : Nat) (t : Int × Int × Bool) (h : ∀ j u, (limC t)[j]? = some u → w.cell? ⟨b, o + j, none⟩ = some u) : LimitsAt w b o t := ⟨h 0 _ rfl, h 1 _ rfl, h 2 _ rfl⟩
theorem cells_exp {w : World} (b o : Nat) (t : ByteArray × Int × Int) (h1 : t.1.size ≤ 9223372036854775807) (h : ∀ j u, (expC t)[j]? = some u → w.cell? ⟨b, o + j, none⟩ = some u) : ExportAt w b o t := ⟨⟨h 0 _ rfl, h1⟩, h 1 _ rfl, h 2 _ rfl⟩
theorem info73 : (Tryd.prog.info? 108).map (fun i => (i.zero, i.size, i.bytes)) = some (some (.agg #[.string ByteArray.empty, .string ByteArray.empty, .int .i64 0]), 3, 40) := by kernel_rfl
theorem einfo76 : (Tryd.prog.info? 110).map (fun i => (i.zero, i.size, i.bytes)) = some (some (.agg #[.int .i64 0, .int .i64 0, .bool false]), 3, 24) := by kernel_rfl
theorem info79 : (Tryd.prog.info? 114).map (fun i => (i.zero, i.size, i.bytes)) = some (some (.agg #[.string ByteArray.empty, .int .i64 0, .int .i64 0]), 3, 32) := by kernel_rfl
end Go.Proofs.YtkbfjkbokifgkaaDoor

namespace Go.Proofs.YtkbfjkbokifgkaaDoor
open Go.RowKit
set_option linter.unusedVariables false
set_option linter.unusedSimpArgs false

theorem copies12_any (l : Il) (ao : Option Addr) (c : Nat) (w : World) (h1 : l.len ≤ 1600) (h2 : Sml l) (h3 : IlIn w ao 0 l) :
    Calls Tryd.prog 15 #[.slice ao l.len c] w fun e w' => ∃ ao' c', e = .returned (.slice ao' l.len c') ∧ SlR (fun b => w.heap.size ≤ b) w' ao' l ∧ Below w.heap.size w w' := by
  have hc := Lib.hid (copies_any l ao c w h1 h2 h3)
  clear h1 h2 h3
  go_enter Tryd.func15, Tryd.ntmps15
  go_wp2_with fail
  refine hc.out.mono ?_
  rintro e w1 ⟨a1, c1, rfl, hs, hb⟩
  replace hs := Lib.hid hs
  replace hb := Lib.hid hb
  go_wp2
  go_ret
  exact ⟨_, _, rfl, hs.out, hb.out⟩
end Go.Proofs.YtkbfjkbokifgkaaDoor

namespace Go.Proofs.YtkbfjkbokifgkaaDoor
open Go.ChangeShapes Go.WideShapes Go.ChangeAt Go.RowKit
set_option linter.unusedVariables false
end Go.Proofs.YtkbfjkbokifgkaaDoor
