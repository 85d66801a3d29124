/- What the writer's numbers, bytes, limits write. -/
import Derived.Test.YtanpjbbhhofkfaaDoorGe
import Derived.Test.YtanpjbbhhofkfaaDoorMc
namespace Go.Proofs.YtanpjbbhhofkfaaDoor
open Go.RowKit
set_option linter.unusedVariables false

def numsC (l : List Int) : List (List UInt8) := uB l.length :: l.map uB
def bytsC (l : List Int) : List (List UInt8) := uB l.length :: l.map fun n => [b1 n]
theorem tot_map {α : Type} (f : α → List UInt8) (c : Nat) (hf : ∀ x, (f x).length ≤ c) : ∀ l : List α, tot (l.map f) ≤ c * l.length
  | [] => by simp [tot]
  | x :: l => by
    have := tot_map f c hf l
    have h2 := hf x
    rw [List.map_cons, tot, List.length_cons, Nat.mul_add]
    omega
theorem puts_take {α : Type} {f : α → List UInt8} {l : List α} {i : Nat} {x : α} (hx : l[i]? = some x) (s : WS) : puts ((l.take (i + 1)).map f) s = put (f x) (puts ((l.take i).map f) s) := by
  rw [List.take_add_one, hx, List.map_append, puts_append]
  rfl
theorem numsC_tot (l : List Int) : tot (numsC l) ≤ 10 + 10 * l.length := by
  have := tot_map uB 10 (fun x => uB_len x) l
  have := uB_len l.length
  simp only [numsC, tot]
  omega
theorem bytsC_tot (l : List Int) : tot (bytsC l) ≤ 10 + l.length := by
  have := tot_map (fun n : Int => [b1 n]) 1 (fun x => by simp) l
  have := uB_len l.length
  simp only [bytsC, tot]
  omega
/-- What lies in V lies in w, too, and is not written on. -/
def Vw (V : World) (p : Nat) (v : Value) (w : World) : Prop := ∀ a u, V.cell? a = some u → w.cell? a = some u ∧ a.block ≠ p ∧ v.ownBlock ≠ some a.block
theorem Vw.keeps {V w : World} {p : Nat} {v : Value} (h : Vw V p v w) : ∀ a u, V.cell? a = some u → w.cell? a = some u := fun a u hc => (h a u hc).1
theorem Vw.tr {V w w' : World} {p : Nat} {v v' : Value} (h : Vw V p v w) (ht : Tr p v v' w w') : Vw V p v' w' := fun a u hc => by
  obtain ⟨h1, h2, h3⟩ := h a u hc
  refine ⟨ht.cell h2 h3 h1, h2, ?_⟩
  rcases ht.own with e | e
  · rw [e]; exact h3
  · intro e2
    have := e _ e2
    have := World.block_lt_of_cell? w a h1
    omega
theorem IntsIn.old {w0 w : World} {p : Nat} {v : Value} {a : Option Addr} {l : List Int} (h : IntsIn w0 a l) (hb : Vw w0 p v w) : IntsIn w a l := h.keep hb.keeps
/-- Old memory. -/
theorem Vw.old {V w : World} {p : Nat} {mv : List Value} {v : Value} {s : WS} (h : WAt V.heap.size p w mv v s) (hb : Below V.heap.size V w) : Vw V p v w := fun a u hc => by
  have hlt := World.block_lt_of_cell? V a hc
  have hN := h.hN
  refine ⟨keep_below hb a u hc, by omega, fun e => ?_⟩
  have := h.ownN _ e
  omega

section
variable {N : Nat} {w0 : World} {p : Nat} {w : World} {mv : List Value} {v : Value} {s : WS}
set_option maxRecDepth 100000 in
set_option maxHeartbeats 1000000 in
theorem numbers_any (h : WAt N p w mv v s) (hb : Vw w0 p v w) (l : List Int) (a : Option Addr) (c : Nat) (hi : IntsIn w0 a l) (hn : s.n + 10 + 10 * l.length ≤ 4611686018427387904) :
    Calls Tryd.prog 46 #[.pointer (some ⟨p, 0, none⟩), .slice a l.length c] w fun e w' => e = .returned (.tuple #[]) ∧ WOut N p w mv v (puts (numsC l) s) w' := by
  obtain ⟨n, hl⟩ : ∃ n, l.length = n := ⟨_, rfl⟩
  have hl63 := hi.1
  have hlow := h.low
  have hul := uB_len (n : Int)
  rw [hl] at hn hl63 ⊢
  replace h := Lib.hid h
  replace hb := Lib.hid hb
  replace hi := Lib.hid hi
  go_enter Tryd.func46, Tryd.ntmps46
  go_wp2_with fail
  refine (u_any h.out n (by omega)).mono ?_
  rintro e w1 ⟨rfl, v1, h1, t1⟩
  replace h1 := Lib.hid h1
  replace t1 := Lib.hid t1
  go_wp2_with fail
  go_loopw [12] (fun vi wr => ∃ (i : Nat) (v2 : Value), i ≤ n ∧ vi = .int .i64 i ∧ Hid (WAt N p wr mv v2 (puts ((l.take i).map uB) (put (uB n) s))) ∧ Hid (Tr p v v2 w wr)) (fun vi _ => n - (intOf vi).toNat)
  case atStart => exact ⟨0, v1, Nat.zero_le _, rfl, Lib.hid h1.out, t1⟩
  case round =>
    obtain ⟨i, v2, hle, rfl, h2, t2⟩ := hrel
    by_cases hlt : i < n
    · obtain ⟨x, hx⟩ : ∃ x, l[i]? = some x := ⟨_, List.getElem?_eq_getElem (by omega)⟩
      obtain ⟨b, o, rfl, hc⟩ := (hi.out.old (hb.out.tr t2.out)).cell hx
      have hst := Lib.hid (puts_take (f := uB) hx (put (uB n) s))
      have htot := tot_map uB 10 (fun x => uB_len x) (l.take i)
      have htl : (l.take i).length = i := by rw [List.length_take]; omega
      rw [htl] at htot
      clear hx htl
      go_wp2_with fail
      refine (u_any h2.out x (by rw [puts_n, put_n]; omega)).mono ?_
      rintro e w3 ⟨rfl, v3, h3, t3⟩
      rw [← hst.out] at h3
      have hfb := Lib.hid (t2.out.trans t3)
      clear hst htot t3
      go_wp2
      exact ⟨⟨i + 1, v3, by omega, by simp, Lib.hid h3, hfb⟩, by simp [intOf]; omega⟩
    · have hin : i = n := by omega
      have hv : puts (numsC l) s = puts ((l.take i).map uB) (put (uB n) s) := by rw [numsC, puts, List.take_of_length_le (by omega), hl]
      replace hv := Lib.hid hv
      go_wp2
      go_end0
      exact ⟨rfl, by rw [hv.out]; exact ⟨v2, h2.out, t2.out⟩⟩
set_option maxRecDepth 100000 in
set_option maxHeartbeats 1000000 in
theorem bytes_any (h : WAt N p w mv v s) (hb : Vw w0 p v w) (l : List Int) (a : Option Addr) (c : Nat) (hi : IntsIn w0 a l) (hn : s.n + 10 + 1 * l.length ≤ 4611686018427387904) :
    Calls Tryd.prog 44 #[.pointer (some ⟨p, 0, none⟩), .slice a l.length c] w fun e w' => e = .returned (.tuple #[]) ∧ WOut N p w mv v (puts (bytsC l) s) w' := by
  obtain ⟨n, hl⟩ : ∃ n, l.length = n := ⟨_, rfl⟩
  have hl63 := hi.1
  have hlow := h.low
  have hul := uB_len (n : Int)
  rw [hl] at hn hl63 ⊢
  replace h := Lib.hid h
  replace hb := Lib.hid hb
  replace hi := Lib.hid hi
  go_enter Tryd.func44, Tryd.ntmps44
  go_wp2_with fail
  refine (u_any h.out n (by omega)).mono ?_
  rintro e w1 ⟨rfl, v1, h1, t1⟩
  replace h1 := Lib.hid h1
  replace t1 := Lib.hid t1
  go_wp2_with fail
  go_loopw [12] (fun vi wr => ∃ (i : Nat) (v2 : Value), i ≤ n ∧ vi = .int .i64 i ∧ Hid (WAt N p wr mv v2 (puts ((l.take i).map (fun n : Int => [b1 n])) (put (uB n) s))) ∧ Hid (Tr p v v2 w wr)) (fun vi _ => n - (intOf vi).toNat)
  case atStart => exact ⟨0, v1, Nat.zero_le _, rfl, Lib.hid h1.out, t1⟩
  case round =>
    obtain ⟨i, v2, hle, rfl, h2, t2⟩ := hrel
    by_cases hlt : i < n
    · obtain ⟨x, hx⟩ : ∃ x, l[i]? = some x := ⟨_, List.getElem?_eq_getElem (by omega)⟩
      obtain ⟨b, o, rfl, hc⟩ := (hi.out.old (hb.out.tr t2.out)).cell hx
      have hst := Lib.hid (puts_take (f := (fun n : Int => [b1 n])) hx (put (uB n) s))
      have htot := tot_map (fun n : Int => [b1 n]) 1 (fun x => by simp) (l.take i)
      have htl : (l.take i).length = i := by rw [List.length_take]; omega
      rw [htl] at htot
      clear hx htl
      go_wp2_with fail
      refine (byte_any h2.out x (by rw [puts_n, put_n]; omega)).mono ?_
      rintro e w3 ⟨rfl, v3, h3, t3⟩
      rw [← hst.out] at h3
      have hfb := Lib.hid (t2.out.trans t3)
      clear hst htot t3
      go_wp2
      exact ⟨⟨i + 1, v3, by omega, by simp, Lib.hid h3, hfb⟩, by simp [intOf]; omega⟩
    · have hin : i = n := by omega
      have hv : puts (bytsC l) s = puts ((l.take i).map (fun n : Int => [b1 n])) (put (uB n) s) := by rw [bytsC, puts, List.take_of_length_le (by omega), hl]
      replace hv := Lib.hid hv
      go_wp2
      go_end0
      exact ⟨rfl, by rw [hv.out]; exact ⟨v2, h2.out, t2.out⟩⟩
end
end Go.Proofs.YtanpjbbhhofkfaaDoor
