/- What the writer's sections write. -/
import Derived.Test.YtanpjbbhhofkfaaDoorGg
import Derived.Deep.RegionLaw
namespace Go.Proofs.YtanpjbbhhofkfaaDoor
open Go.RowKit
set_option linter.unusedVariables false
set_option linter.unusedSimpArgs false

def fo {α : Type} (f : α → WS → WS) (l : List α) (s : WS) : WS := l.foldl (fun s x => f x s) s
theorem fo_take {α : Type} {f : α → WS → WS} {l : List α} {i : Nat} {x : α} (hx : l[i]? = some x) (s : WS) : fo f (l.take (i + 1)) s = f x (fo f (l.take i) s) := by
  rw [fo, List.take_add_one, hx, List.foldl_append]
  rfl
def cs {α : Type} (c : α → Nat) (l : List α) : Nat := (l.map c).sum
theorem cs_take {α : Type} (c : α → Nat) {l : List α} {i : Nat} {x : α} (hx : l[i]? = some x) : cs c (l.take i) + c x ≤ cs c l := by
  have h : l = l.take i ++ x :: l.drop (i + 1) := by
    obtain ⟨hi, he⟩ := List.getElem?_eq_some_iff.1 hx
    rw [← he, ← List.drop_eq_getElem_cons hi, List.take_append_drop]
  have h2 : cs c l = cs c (l.take i) + (c x + cs c (l.drop (i + 1))) := by
    have := congrArg (cs c) h
    rw [this]
    simp [cs]
  omega
theorem fo_n {α : Type} {f : α → WS → WS} {c : α → Nat} : ∀ (l : List α) (s : WS), (∀ x ∈ l, InR (f x) (c x)) → s.n ≤ (fo f l s).n ∧ (fo f l s).n ≤ s.n + cs c l
  | [], s, _ => ⟨Int.le_refl _, by simp [fo, cs]⟩
  | x :: l, s, h => by
    have h1 := h x (List.mem_cons_self ..) s
    have h2 := fo_n l (f x s) (fun y hy => h y (List.mem_cons_of_mem _ hy))
    have e : fo f (x :: l) s = fo f l (f x s) := rfl
    have e2 : cs c (x :: l) = c x + cs c l := by simp [cs]
    rw [e, e2]
    omega
theorem fo_bd {α : Type} {f : α → WS → WS} {c : α → Nat} {l : List α} {s : WS} (h : ∀ x ∈ l, InR (f x) (c x)) {i : Nat} {x : α} (hx : l[i]? = some x) : s.n ≤ (fo f (l.take i) s).n ∧ (fo f (l.take i) s).n + c x ≤ s.n + cs c l := by
  have h1 := fo_n (f := f) (c := c) (l.take i) s (fun y hy => h y (List.mem_of_mem_take hy))
  have h2 := cs_take c hx
  omega
/-- What is as long as it says. -/
def lg (l : List UInt8) (s : WS) : WS := put l (put (uB l.length) s)
def wEx (l : Il) (s : WS) : WS := put [b1 11] (wl l s)
def wLim (t : Int × Int × Bool) (s : WS) : WS := if t.2.2 = true then put (uB t.2.1) (put (uB t.1) (put [b1 1] s)) else put (uB t.1) (put [b1 0] s)
theorem WAt.far {N p : Nat} {w : World} {mv : List Value} {v : Value} {s : WS} (h : WAt N p w mv v s) (n c : Nat) : ∀ g, (Value.slice (some ⟨w.heap.size, 0, none⟩) n c).ownBlock = some g → v.ownBlock ≠ some g := fun g e e2 => by
  have := (h.own.lt g e2).2
  have e' : w.heap.size = g := by simpa [Value.ownBlock] using e
  omega
theorem InR.put (t : List UInt8) : InR (put t) t.length := fun s => by rw [put_n]; omega
theorem InR.puts (c : List (List UInt8)) : InR (puts c) (tot c) := fun s => by rw [puts_n]; omega
theorem InR.mono {f : WS → WS} {c d : Nat} (h : InR f c) (hc : c ≤ d) : InR f d := fun s => by have := h s; omega
theorem InR.comp {f g : WS → WS} {c d : Nat} (hf : InR f c) (hg : InR g d) : InR (fun s => g (f s)) (c + d) := fun s => by
  have := hf s
  have := hg (f s)
  show s.n ≤ (g (f s)).n ∧ (g (f s)).n ≤ s.n + (c + d : Nat)
  omega
theorem InR.u (n : Int) : InR (Go.Proofs.YtanpjbbhhofkfaaDoor.put (uB n)) 10 := (InR.put _).mono (uB_len n)
theorem InR.b (n : Int) : InR (Go.Proofs.YtanpjbbhhofkfaaDoor.put [b1 n]) 1 := InR.put _
theorem InR.lg (l : List UInt8) : InR (lg l) (10 + l.length) := (InR.u _).comp (InR.put l)
theorem InR.ex (l : Il) (ok : nOk l) : InR (wEx l) (cl l + 1) := (wl_n l ok).comp (InR.b 11)
theorem InR.lim (t : Int × Int × Bool) : InR (wLim t) 21 := by
  unfold wLim
  split
  · exact ((InR.b 1).comp ((InR.u _).comp (InR.u _)))
  · exact ((InR.b 0).comp (InR.u _)).mono (by omega)
/-- A string's bytes. -/
theorem bytes_of_str (w : World) (t : ByteArray) : ∃ c w', (convert 9 62 (.string t)).run Tryd.prog w = .ok (.slice (some ⟨w.heap.size, 0, none⟩) t.size c) w' ∧ Below w.heap.size w w' ∧ BIn w' (.slice (some ⟨w.heap.size, 0, none⟩) t.size c) (strl t) ∧ w'.heap.size = w.heap.size + 1 := by
  refine ⟨_, _, run_bytes_of_string w 9 62 5 t Tryd.underlying9 Tryd.underlying62 Tryd.underlying5, (Below.refl _ _).drew.alloc (Nat.le_refl _) _, .inr ⟨w.heap.size, _, rfl, fun j hj => ?_⟩, by simp⟩
  have := World.cell?_alloc_mark w.drew (bytesRow t (grownCap w t.size 0 5)) 5 ((bytesRow t (grownCap w t.size 0 5)).size, (bytesRow t (grownCap w t.size 0 5)).size + 1) j
  exact this.trans (bytesRow_at t _ j (by simpa [strl] using hj))
set_option maxRecDepth 100000 in
set_option maxHeartbeats 1000000 in
theorem wlimits_any {N p : Nat} {w : World} {mv : List Value} {v : Value} {s : WS} (h : WAt N p w mv v s) (mn mx : Int) (has : Bool) (hs : s.n + 21 ≤ 4611686018427387904) :
    Calls Tryd.prog 45 #[.pointer (some ⟨p, 0, none⟩), .agg #[.int .i64 mn, .int .i64 mx, .bool has]] w fun e w' => e = .returned (.tuple #[]) ∧ WOut N p w mv v (wLim (mn, mx, has) s) w' := by
  have hu1 := uB_len mn
  have hu2 := uB_len mx
  obtain ⟨q, hq⟩ : ∃ q, w.heap.size = q := ⟨_, rfl⟩
  obtain ⟨wA, hwA⟩ : ∃ wA, wA = w.alloc (.cells #[.int .i64 mn, .int .i64 mx, .bool has] 73) := ⟨_, rfl⟩
  have hbel : Below w.heap.size w wA := by rw [hwA]; exact (Below.refl _ _).alloc (Nat.le_refl _) _
  have hqp := Lib.hid (show q ≠ p by have := h.lt; omega)
  have hqv := Lib.hid (show v.ownBlock ≠ some q from fun e => by have := (h.own.lt q e).2; omega)
  have hbx : Box wA q #[.int .i64 mn, .int .i64 mx, .bool has] := by rw [hwA, ← hq]; exact box_new w _ _
  have h0 := Lib.hid (h.below hbel)
  have t0' := Lib.hid (Tr.of_below (p := p) (v := v) hbel)
  have t0 := Lib.hid (Tr.refl p v wA)
  have p2 : wA.cell? ⟨q, 2, none⟩ = some (.bool has) := hbx 2 _ rfl
  replace hbx := Lib.hid hbx
  clear h hbel
  go_enter Tryd.func45, Tryd.ntmps45
  cases has
  · rw [hwA] at p2
    go_wp2_with fail
    rw [← hwA]
    clear p2 hwA
    refine (byte_any h0.out 0 (by omega)).mono ?_
    rintro e w1 ⟨rfl, v1, hh, tt⟩
    have h1 := Lib.hid hh
    have t1 := Lib.hid (t0.out.trans tt)
    clear hh tt
    have p0 : w1.cell? ⟨q, 0, none⟩ = some (.int .i64 mn) := (t1.out.box hqp.out hqv.out hbx.out) 0 _ rfl
    go_wp2_with fail
    refine (u_any h1.out mn (by rw [put_n]; simp only [List.length_cons, List.length_nil]; omega)).mono ?_
    rintro e w2 ⟨rfl, ho⟩
    clear p0
    go_wp2
    refine bodyPost_ret (results_none rfl _ _ _) rfl ?_
    exact ⟨rfl, WOut.trans (t0'.out.trans t1.out) ho⟩
  · rw [hwA] at p2
    go_wp2_with fail
    rw [← hwA]
    clear p2 hwA
    refine (byte_any h0.out 1 (by omega)).mono ?_
    rintro e w1 ⟨rfl, v1, hh, tt⟩
    have h1 := Lib.hid hh
    have t1 := Lib.hid (t0.out.trans tt)
    clear hh tt
    have p0 : w1.cell? ⟨q, 0, none⟩ = some (.int .i64 mn) := (t1.out.box hqp.out hqv.out hbx.out) 0 _ rfl
    go_wp2_with fail
    refine (u_any h1.out mn (by rw [put_n]; simp only [List.length_cons, List.length_nil]; omega)).mono ?_
    rintro e w2 ⟨rfl, v2, hh, tt⟩
    have h2 := Lib.hid hh
    have t2 := Lib.hid (t1.out.trans tt)
    clear hh tt p0
    have p1 : w2.cell? ⟨q, 1, none⟩ = some (.int .i64 mx) := (t2.out.box hqp.out hqv.out hbx.out) 1 _ rfl
    go_wp2_with fail
    refine (u_any h2.out mx (by rw [put_n, put_n]; simp only [List.length_cons, List.length_nil]; omega)).mono ?_
    rintro e w3 ⟨rfl, ho⟩
    clear p1
    go_wp2
    go_end0
    exact ⟨rfl, WOut.trans (t0'.out.trans t2.out) ho⟩
/-- A slice of one instruction, made now. -/
theorem one_view {w0 w : World} {p q : Nat} {v : Value} {op x y n : Int} {ls : List Int} {body els : Il} {u4 u5 u6 : Option Addr} {r4 r5 r6 : Nat} (hv : Vw w0 p v w) (hb : Box w q #[.int .i64 op, .int .i64 x, .int .i64 y, .int .i64 n, .slice u4 ls.length r4, .slice u5 body.len r5, .slice u6 els.len r6]) (hp : q ≠ p) (hq : v.ownBlock ≠ some q)
    (i4 : IntsIn w0 u4 ls) (l5 : body.len ≤ 9223372036854775807) (i5 : body = .nil ∨ ∃ b2 o2, u5 = some ⟨b2, o2, none⟩ ∧ IlAt w0 b2 o2 body) (l6 : els.len ≤ 9223372036854775807) (i6 : els = .nil ∨ ∃ b2 o2, u6 = some ⟨b2, o2, none⟩ ∧ IlAt w0 b2 o2 els) :
    ∃ V, Vw V p v w ∧ IlIn V (some ⟨q, 0, none⟩) 0 (Il.cons op x y n ls body els .nil) := by
  obtain ⟨V, hV⟩ : ∃ V : World, V = { w with heap := (w.heap.setIfInBounds p (.cells #[] 0 (0, 0))).setIfInBounds (v.ownBlock.getD p) (.cells #[] 0 (0, 0)) } := ⟨_, rfl⟩
  have far : ∀ k, k ≠ p → v.ownBlock ≠ some k → V.heap[k]? = w.heap[k]? := fun k hk hk2 => by
    rw [hV]
    simp only
    rw [Array.getElem?_setIfInBounds_ne, Array.getElem?_setIfInBounds_ne (fun e => hk e.symm)]
    intro e
    cases ho : v.ownBlock with
    | none => rw [ho] at e; exact hk e.symm
    | some g => rw [ho] at e hk2; exact hk2 (by rw [← e]; rfl)
  have near : ∀ a u, V.cell? a = some u → a.block ≠ p ∧ v.ownBlock ≠ some a.block := fun a u hc => by
    have hnone : ∀ k, (k = p ∨ v.ownBlock = some k) → V.heap[k]? = none ∨ V.heap[k]? = some (.cells #[] 0 (0, 0)) := fun k hk => by
      rcases Nat.lt_or_ge k V.heap.size with hlt | hge
      · right
        rw [hV] at hlt ⊢
        simp only [Array.size_setIfInBounds] at hlt ⊢
        by_cases e : v.ownBlock.getD p = k
        · rw [e, Array.getElem?_setIfInBounds_self_of_lt (by simpa using hlt)]
        · rw [Array.getElem?_setIfInBounds_ne e]
          rcases hk with rfl | hk
          · rw [Array.getElem?_setIfInBounds_self_of_lt hlt]
          · rw [hk] at e; exact absurd rfl e
      · left
        exact Array.getElem?_eq_none hge
    have hno : ∀ k, (k = p ∨ v.ownBlock = some k) → a.block = k → False := fun k hk e => by
      have h0 := hnone k hk
      rw [← e] at h0
      unfold World.cell? at hc
      rcases h0 with h0 | h0
      · rw [h0] at hc
        simp at hc
      · rw [h0] at hc
        split at hc <;> simp_all
    exact ⟨fun e => hno p (.inl rfl) e, fun e => hno a.block (.inr e) rfl⟩
  have hVw : Vw V p v w := fun a u hc => by
    obtain ⟨h1, h2⟩ := near a u hc
    exact ⟨(World.cell?_of_block (far a.block h1 h2)).symm.trans hc, h1, h2⟩
  have up : ∀ a u, w0.cell? a = some u → V.cell? a = some u := fun a u hc => by
    obtain ⟨h1, h2, h3⟩ := hv a u hc
    exact (World.cell?_of_block (far a.block h2 h3)).trans h1
  have c : ∀ j u, (#[.int .i64 op, .int .i64 x, .int .i64 y, .int .i64 n, .slice u4 ls.length r4, .slice u5 body.len r5, .slice u6 els.len r6] : Array Value)[j]? = some u → V.cell? ⟨q, j, none⟩ = some u := fun j u hu => (World.cell?_of_block (far q hp hq)).trans (hb j u hu)
  refine ⟨V, hVw, .inr ⟨q, 0, rfl, ?_⟩⟩
  refine ⟨⟨c 0 _ rfl, c 1 _ rfl, c 2 _ rfl, c 3 _ rfl⟩, ⟨u4, r4, c 4 _ rfl, i4.keep up⟩, ⟨u5, r5, c 5 _ rfl, l5, ?_⟩, ⟨u6, r6, c 6 _ rfl, l6, ?_⟩, trivial⟩
  · rcases i5 with e | ⟨b2, o2, e, h⟩
    · exact .inl e
    · exact .inr ⟨b2, o2, e, IlAt.keep up _ _ _ h⟩
  · rcases i6 with e | ⟨b2, o2, e, h⟩
    · exact .inl e
    · exact .inr ⟨b2, o2, e, IlAt.keep up _ _ _ h⟩
end Go.Proofs.YtanpjbbhhofkfaaDoor
