/- What the writer's byte, u, long, numbers, bytes, limits write. -/
import Derived.Test.YtanpjbbhhofkfaaDoorGd
import Derived.Test.YtanpjbbhhofkfaaDoorMg
import Derived.Laws.Bits64
namespace Go.Proofs.YtanpjbbhhofkfaaDoor
open Go.RowKit
set_option linter.unusedVariables false

def b1 (n : Int) : UInt8 := UInt8.ofNat (n % 256).toNat
def uB (n : Int) : List UInt8 := lebU (n % 18446744073709551616).toNat
theorem b1_val (n : Int) : n % 256 = ((b1 n).toNat : Int) := by
  unfold b1
  rw [UInt8.toNat_ofNat']
  omega
theorem uB_len (n : Int) : (uB n).length ≤ 10 := lebU_ten (by omega)
theorem strl_mks_len (l : List UInt8) : (mks l).size = l.length := rfl
theorem Tr.cell {p : Nat} {v v' : Value} {w w' : World} (h : Tr p v v' w w') {a : Addr} {u : Value} (hp : a.block ≠ p) (hv : v.ownBlock ≠ some a.block) (hc : w.cell? a = some u) : w'.cell? a = some u :=
  (World.cell?_of_block (h.block a.block (World.block_lt_of_cell? w a hc) hp hv)).trans hc
/-- A row of bytes that is read. -/
def BIn (w : World) (v2 : Value) (l : List UInt8) : Prop :=
  (v2 = .slice none 0 0 ∧ l = []) ∨ ∃ g c, v2 = .slice (some ⟨g, 0, none⟩) l.length c ∧ ∀ j (hj : j < l.length), w.cell? ⟨g, j, none⟩ = some (.int .u8 (l[j].toNat : Int))
theorem BIn.slice {w : World} {v2 : Value} {l : List UInt8} (h : BIn w v2 l) : ∃ a c, v2 = .slice a l.length c := by
  rcases h with ⟨rfl, rfl⟩ | ⟨g, c, rfl, _⟩
  · exact ⟨_, _, rfl⟩
  · exact ⟨_, _, rfl⟩
theorem BIn.conv {w : World} {v2 : Value} {l : List UInt8} (h : BIn w v2 l) : (convert 62 9 v2).run Tryd.prog w = .ok (.string (mks l)) w := by
  rcases h with ⟨rfl, rfl⟩ | ⟨g, c, rfl, hc⟩
  · exact run_convert_bytes_nil w 62 5 Tryd.underlying62 Tryd.underlying5 0 0 9 Tryd.underlying9
  · exact run_convert_bytes_back w 62 9 5 ⟨g, 0, none⟩ c l Tryd.underlying62 Tryd.underlying5 Tryd.underlying9 (fun j hj => by simpa [Addr.add_lit] using hc j hj)
theorem BIn.tr {p : Nat} {v v' : Value} {w w' : World} {v2 : Value} {l : List UInt8} (h : BIn w v2 l) (ht : Tr p v v' w w') (hp : v2.ownBlock ≠ some p) (hv : ∀ g, v2.ownBlock = some g → v.ownBlock ≠ some g) : BIn w' v2 l := by
  rcases h with h | ⟨g, c, rfl, hc⟩
  · exact .inl h
  · exact .inr ⟨g, c, rfl, fun j hj => ht.cell (fun e => hp (by rw [← e]; rfl)) (hv g rfl) (hc j hj)⟩
theorem BIn.own {w : World} {base : Nat} {v : Value} {l : List UInt8} (h : w.ownsRow base 5 1 v l.length (cb l)) : BIn w v l := by
  rcases h.2 with ⟨rfl, h0⟩ | ⟨g, cap, cur, rfl, _⟩
  · exact .inl ⟨rfl, List.eq_nil_of_length_eq_zero h0⟩
  · exact .inr ⟨g, cap, rfl, fun j hj => by
      have := h.cells (g := g) rfl j (.int .u8 (l[j].toNat : Int)) (by simp [cb, hj])
      simpa [Addr.add_lit] using this⟩

section
variable {N p : Nat} {w : World} {mv : List Value} {v : Value} {s : WS}
set_option maxRecDepth 100000 in
set_option maxHeartbeats 1000000 in
theorem byte_any (h : WAt N p w mv v s) (n : Int) (hb : s.n + 1 ≤ 4611686018427387904) :
    Calls Tryd.prog 28 #[.pointer (some ⟨p, 0, none⟩), .int .i64 n] w fun e w' => e = .returned (.tuple #[]) ∧ WOut N p w mv v (put [b1 n] s) w' := by
  have hbel := (Below.refl w.heap.size w).alloc (Nat.le_refl _) (.cells #[.int .u8 (n % 256)] 5)
  have h1 := Lib.hid (h.below hbel)
  have hcv : (convert 62 9 (.slice (some ⟨w.heap.size, 0, none⟩) 1 1)).run Tryd.prog (w.alloc (.cells #[.int .u8 (n % 256)] 5)) = .ok (.string (mks [b1 n])) (w.alloc (.cells #[.int .u8 (n % 256)] 5)) :=
    BIn.conv (l := [b1 n]) (.inr ⟨w.heap.size, 1, rfl, fun j hj => by
      have : j = 0 := by simpa using hj
      subst this
      rw [World.cell?_alloc_at _ _ _ _ rfl, b1_val]
      rfl⟩)
  have ht1 := Lib.hid (Tr.of_below (p := p) (v := v) hbel)
  clear h hbel
  go_enter Tryd.func28, Tryd.ntmps28
  go_wp2_with fail
  refine (text_any h1.out (mks [b1 n]) (by rw [strl_mks_len]; exact hb)).mono ?_
  rintro e w2 ⟨rfl, ho⟩
  go_wp2
  go_end0
  exact ⟨rfl, WOut.trans ht1.out ho⟩
set_option maxRecDepth 100000 in
set_option maxHeartbeats 1000000 in
theorem u_any (h : WAt N p w mv v s) (n : Int) (hb : s.n + 10 ≤ 4611686018427387904) :
    Calls Tryd.prog 43 #[.pointer (some ⟨p, 0, none⟩), .int .i64 n] w fun e w' => e = .returned (.tuple #[]) ∧ WOut N p w mv v (put (uB n) s) w' := by
  have hl := uB_len n
  replace h := Lib.hid h
  obtain ⟨k, hk⟩ : ∃ k : Nat, n % 18446744073709551616 = (k : Int) := ⟨(n % 18446744073709551616).toNat, by omega⟩
  have hk2 : k < 18446744073709551616 := by omega
  have hu : uB n = lebU k := by unfold uB; rw [hk]; rfl
  rw [hu] at hl ⊢
  clear hu
  have hwk : IntKind.u64.wrap n = (k : Int) := by rw [IntKind.wrap_u64, hk]
  go_enter Tryd.func43, Tryd.ntmps43
  go_wp2_with fail
  refine (putU_any k hk2 w).mono ?_
  rintro e w1 ⟨rfl, hb1⟩
  replace hb1 := Lib.hid hb1
  go_wp2_with fail
  refine (text_any (h.out.below hb1.out) (mks (lebU k)) (by rw [strl_mks_len]; omega)).mono ?_
  rintro e w2 ⟨rfl, ho⟩
  go_wp2
  go_end0
  exact ⟨rfl, WOut.trans (Tr.of_below hb1.out) ho⟩
set_option maxRecDepth 100000 in
set_option maxHeartbeats 1000000 in
theorem long_any (h : WAt N p w mv v s) (v2 : Value) (l : List UInt8) (hr : BIn w v2 l) (hp : v2.ownBlock ≠ some p) (hv : ∀ g, v2.ownBlock = some g → v.ownBlock ≠ some g) (hb : s.n + 10 + l.length ≤ 4611686018427387904) :
    Calls Tryd.prog 29 #[.pointer (some ⟨p, 0, none⟩), v2] w fun e w' => e = .returned (.tuple #[]) ∧ WOut N p w mv v (put l (put (uB l.length) s)) w' := by
  obtain ⟨a, c, rfl⟩ := hr.slice
  have hl := uB_len l.length
  have hlow := h.low
  replace h := Lib.hid h
  replace hr := Lib.hid hr
  replace hp := Lib.hid hp
  replace hv := Lib.hid hv
  go_enter Tryd.func29, Tryd.ntmps29
  go_wp2_with fail
  refine (u_any h.out l.length (by omega)).mono ?_
  rintro e w1 ⟨rfl, v1, h1, t1⟩
  have hcv := (hr.out.tr t1 hp.out hv.out).conv
  replace h1 := Lib.hid h1
  replace t1 := Lib.hid t1
  go_wp2_with fail
  refine (text_any h1.out (mks l) (by rw [put_n, strl_mks_len]; omega)).mono ?_
  rintro e w2 ⟨rfl, ho⟩
  go_wp2
  go_end0
  exact ⟨rfl, WOut.trans t1.out ho⟩
end
end Go.Proofs.YtanpjbbhhofkfaaDoor
