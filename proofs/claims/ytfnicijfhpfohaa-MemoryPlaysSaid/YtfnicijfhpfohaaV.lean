/- Contracts of Fill, and of the reference's Text and Fill. -/
import Derived.Test.YtfnicijfhpfohaaR
import Derived.Test.YtfnicijfhpfohaaF
import Derived.Test.YtfnicijfhpfohaaL
namespace Go.Proofs.Ytfnicijfhpfohaa
open Go.RowKit

/-- The bytes of a text. -/
def bytesS (s : ByteArray) : List Nat := s.data.toList.map fun b => b.toNat
theorem bytesS_length (s : ByteArray) : (bytesS s).length = s.size := by unfold bytesS; rw [List.length_map, Array.length_toList]; rfl
theorem bytesS_lt (s : ByteArray) : ∀ x ∈ bytesS s, x < 256 := by
  intro x hx
  obtain ⟨b, _, rfl⟩ := List.mem_map.1 hx
  exact b.toNat_lt
def fillOut (l : List Nat) (A : Int) (s : ByteArray) : List Nat := if inT l.length A s.size then putAt l A.toNat (bytesS s) else l
theorem fillOut_length (l : List Nat) (A : Int) (s : ByteArray) : (fillOut l A s).length = l.length := by
  unfold fillOut
  split
  · rename_i h
    simp only [inT, Bool.and_eq_true, decide_eq_true_eq] at h
    exact putAt_length _ _ _ (by rw [bytesS_length]; omega)
  · rfl

theorem splice_take {α β : Type} (C : List α) (l : List β) (f : β → α) (off : Nat) (bs : List β) (hC : C.take l.length = l.map f) (h : off + bs.length ≤ l.length) :
    (C.take off ++ bs.map f ++ C.drop (off + bs.length)).take l.length = (l.take off ++ bs ++ l.drop (off + bs.length)).map f := by
  obtain ⟨R, hR⟩ : ∃ R, C = l.map f ++ R := ⟨C.drop l.length, by rw [← hC, List.take_append_drop]⟩
  subst hR
  have e1 : (l.map f ++ R).take off = (l.take off).map f := by rw [List.take_append_of_le_length (by rw [List.length_map]; omega), List.map_take]
  have e2 : (l.map f ++ R).drop (off + bs.length) = (l.drop (off + bs.length)).map f ++ R := by rw [List.drop_append_of_le_length (by rw [List.length_map]; omega), List.map_drop]
  rw [e1, e2, ← List.append_assoc, ← List.map_append, ← List.map_append]
  have e3 : l.length = ((l.take off ++ bs ++ l.drop (off + bs.length)).map f).length := by simp; omega
  rw [e3]
  exact List.take_left

/-- The row with other cells in it. -/
theorem fill_row {w : World} {q cap : Nat} {l : List Nat} (hr : RowB w q cap l) (off : Nat) (s : ByteArray) (h : off + s.size ≤ l.length) :
    ∃ cur : Array Value, w.heap[q]? = some (.cells cur 5 (0, 0)) ∧ off + s.size ≤ cur.size ∧
      Stored w (w.setRow q (cur.toList.take off ++ s.data.toList.map (fun b => Value.int .u8 (b.toNat : Int)) ++ cur.toList.drop (off + s.size)).toArray) q cap (putAt l off (bytesS s)) := by
  have hl := bytesS_length s
  have hpl : (putAt l off (bytesS s)).length = l.length := putAt_length _ _ _ (by omega)
  rcases hr.own.2 with ⟨h', _⟩ | ⟨g', cap', cur, h', hb, hg, hnc, hcm, hcs, htake⟩
  · simp at h'
  simp only [Value.slice.injEq, Option.some.injEq, Addr.mk.injEq, and_true, true_and] at h'
  obtain ⟨rfl, rfl⟩ := h'
  have hm : s.data.toList.map (fun b => Value.int .u8 (b.toNat : Int)) = (bytesS s).map u8v := by unfold bytesS; rw [List.map_map]; rfl
  refine ⟨cur, hg, by omega, ⟨⟨?_, ?_⟩, ?_, ?_⟩, ⟨rfl, rfl, rfl, by simp [World.setRow], fun k _ hk => setRow_other w q k _ (fun e => hk (by simp [e]))⟩, by simp [World.setRow]⟩
  · rw [List.length_map]; omega
  · refine .inr ⟨q, cap, _, rfl, Nat.zero_le _, setRow_heap w q cur _ 5 _ hg, by omega, hcm, ?_, ?_⟩
    · simp only [List.size_toArray, List.length_append, List.length_take, List.length_drop, Array.length_toList, List.length_map]
      have : s.data.size = s.size := rfl
      omega
    · rw [hpl]
      rw [Nat.mul_one] at htake ⊢
      rw [hm, ← hl]
      exact splice_take cur.toList l u8v off (bytesS s) htake (by omega)
  · exact putAt_lt _ _ _ hr.byte (bytesS_lt s)
  · rw [hpl]; exact hr.small

theorem copy_nil (s : ByteArray) (ty : TypeId) (w : World) : (Builtin.copy_ #[54, 9] ty #[.slice none 0 0, .string s]).run Try.prog w = .ok (.int .i64 0) w := by
  obtain ⟨i0, hi, hz0, hz1, hz2⟩ := info_parts Try.info5
  simp [Builtin.copy_, run_underlying Try.underlying54, Builtin.lenOf, Builtin.firstCells, sizeOf, typeInfo, hi, goInt]

theorem copy_some (q off n c : Nat) (s : ByteArray) (cur : Array Value) (w : World) (hg : w.heap[q]? = some (.cells cur 5 (0, 0))) (hn : s.size ≤ n) (hfit : off + s.size ≤ cur.size) (ty : TypeId) :
    (Builtin.copy_ #[54, 9] ty #[.slice (some ⟨q, off, none⟩) n c, .string s]).run Try.prog w =
      .ok (goInt s.size) (w.setRow q (cur.toList.take off ++ s.data.toList.map (fun b => Value.int .u8 (b.toNat : Int)) ++ cur.toList.drop (off + s.size)).toArray) :=
  run_copy_string w 54 9 ty 5 q off n c s cur 5 Try.underlying54 (by kernel_rfl) hg hn hfit

/-- At the operation, for the walk. -/
theorem wpList_copy_string {w : World} {ops : Array Oper} {rest : List Oper} {o : Oper} {a : Act} {Q : Exit → Act → World → Prop} (hgd : o.guard = none) (d x : Operand)
    (ho : o.op = .call { callee := .builtin .copy, args := #[d, x], argTypes := #[54, 9] }) (q off n c cap : Nat) (l : List Nat) (s : ByteArray)
    (hd : a.eval d = .slice (some ⟨q, off, none⟩) n c) (hs : a.eval x = .string s) (hr : RowB w q cap l) (hn : s.size ≤ n) (hfit : off + s.size ≤ l.length)
    (h : ∀ w', Stored w w' q cap (putAt l off (bytesS s)) → wpList Try.prog ops Q rest (a.put o.dst (goInt s.size)) w') : wpList Try.prog ops Q (o :: rest) a w := by
  obtain ⟨cur, hg, hc, hst⟩ := fill_row hr off s hfit
  refine wpList_plain hgd fun K hK => ?_
  have hrun := copy_some q off n c s cur w hg hn hc o.type
  unfold Oper.wp execOp
  simp only [ho, resolve, invoke, builtin, Sem.run_bind, Sem.run_pure, Result.andThen_ok, List.map_toArray, List.map_cons, List.map_nil, hd, hs, hrun]
  exact hK _ _ (h _ hst)

theorem wpList_copy_none {w : World} {ops : Array Oper} {rest : List Oper} {o : Oper} {a : Act} {Q : Exit → Act → World → Prop} (hgd : o.guard = none) (d x : Operand)
    (ho : o.op = .call { callee := .builtin .copy, args := #[d, x], argTypes := #[54, 9] }) (s : ByteArray)
    (hd : a.eval d = .slice none 0 0) (hs : a.eval x = .string s)
    (h : wpList Try.prog ops Q rest (a.put o.dst (.int .i64 0)) w) : wpList Try.prog ops Q (o :: rest) a w := by
  refine wpList_plain hgd fun K hK => ?_
  have hrun := copy_nil s o.type w
  unfold Oper.wp execOp
  simp only [ho, resolve, invoke, builtin, Sem.run_bind, Sem.run_pure, Result.andThen_ok, List.map_toArray, List.map_cons, List.map_nil, hd, hs, hrun]
  exact hK _ _ h

theorem fill_any (p q cap : Nat) (l : List Nat) (A : Int) (s : ByteArray) (w : World) (h0 : w.cell? ⟨p, 0, none⟩ = some (.slice (some ⟨q, 0, none⟩) l.length cap)) (hr : RowB w q cap l)
    (hA1 : -9223372036854775808 ≤ A) (hA2 : A ≤ 9223372036854775807) (hs : s.size ≤ 9223372036854775807) :
    Calls Try.prog 31 #[.pointer (some ⟨p, 0, none⟩), .int .i64 A, .string s] w fun e w' => e = .returned (.bool (inT l.length A s.size)) ∧ Stored w w' q cap (fillOut l A s) := by
  have hsm := hr.small
  unfold fillOut
  by_cases hneg : A < 0
  · have hb : inT l.length A s.size = false := by simp [inT]; omega
    rw [hb]
    have HR := hr.same
    go_enter Try.func31, Try.ntmps31
    go_wp2
    go_ret
    exact ⟨rfl, by simpa using HR⟩
  · obtain ⟨at_, rfl⟩ := Int.eq_ofNat_of_zero_le (show 0 ≤ A by omega)
    cases hb : inT l.length at_ s.size
    · have hno : ¬ (0 ≤ (s.size : Int) ∧ (at_ : Int) + s.size ≤ l.length) := by simp [inT] at hb; omega
      have HB := Lib.hid hb
      have HR := hr.same
      clear hb
      go_enter Try.func31, Try.ntmps31
      go_wp2_with fail
      refine (part_no p q cap l.length at_ s.size _ h0 hsm (by omega) (by omega) hno).mono ?_
      rintro e w' ⟨rfl, rfl⟩
      go_wp2_with (refine wpList_copy_none rfl _ _ rfl s rfl rfl ?_)
      go_ret
      exact ⟨rfl, by simpa using HR⟩
    · have hyes : (at_ : Int) + s.size ≤ l.length := by simp [inT] at hb; omega
      have HB := Lib.hid hb
      clear hb
      rw [if_pos rfl, Int.toNat_natCast]
      go_enter Try.func31, Try.ntmps31
      go_wp2_with fail
      refine (part_yes p q cap l.length at_ s.size _ h0 hsm hr.cap (by omega)).mono ?_
      rintro e w' ⟨rfl, rfl⟩
      go_wp2_with (refine wpList_copy_string rfl _ _ rfl q (partOff s.size at_) s.size s.size cap l s rfl rfl hr (Nat.le_refl _) (by unfold partOff; split <;> omega) ?_; intro w1 hst)
      go_ret
      refine ⟨rfl, ?_⟩
      by_cases hz : s.size = 0
      · have e : bytesS s = [] := List.eq_nil_of_length_eq_zero (by rw [bytesS_length]; exact hz)
        rw [e, putAt_nil] at hst ⊢
        exact hst
      · have e : partOff s.size at_ = at_ := by unfold partOff; rw [if_neg hz]
        rw [e] at hst
        exact hst
theorem inT_there (len at_ : Nat) (n : Int) : inT len at_ n = isThere len at_ n := by
  simp only [inT, isThere]
  by_cases h1 : 0 ≤ n <;> by_cases h2 : (at_ : Int) + n ≤ len <;> simp [h1, h2]

theorem rtext_conv (q cap : Nat) (l : List Nat) (at_ n c : Nat) (w : World) (hr : RowB w q cap l) (h : at_ + n ≤ l.length) :
    (convert 54 9 (.slice (some ⟨q, at_, none⟩) n c)).run Try.prog w = .ok (.string (textOf ((l.drop at_).take n))) w := by
  refine run_convert_bytes_arg w 54 5 Try.underlying54 Try.underlying5 q _ n c (((l.drop at_).take n).map fun x : Nat => (x : Int)) (by simp; omega) ?_ 9 Try.underlying9
  intro i hi
  rw [hr.cell (at_ + i) (by omega)]
  have hlen : i < (((l.drop at_).take n).map fun x : Nat => (x : Int)).length := by simp; omega
  rw [List.getD_eq_getElem?_getD, List.getElem?_eq_getElem (by omega), List.getD_eq_getElem?_getD, List.getElem?_eq_getElem hlen]
  simp

theorem rtext_any (p q cap : Nat) (l : List Nat) (A n : Int) (w : World) (h0 : w.cell? ⟨p, 0, none⟩ = some (.slice (some ⟨q, 0, none⟩) l.length cap)) (hr : RowB w q cap l)
    (hA1 : -9223372036854775808 ≤ A) (hA2 : A ≤ 9223372036854775807) (hn1 : -9223372036854775808 ≤ n) (hn : n ≤ 9223372036854775807) :
    Calls Try.prog 30 #[.pointer (some ⟨p, 0, none⟩), .int .i64 A, .int .i64 n] w fun e w' => e = .returned (.tuple #[.string (textOut l A n), .bool (inT l.length A n)]) ∧ w = w' := by
  have hsm := hr.small
  have hcap := hr.cap
  have e0 : textOf [] = ⟨#[]⟩ := rfl
  have E0 := Lib.hid e0
  clear e0
  by_cases hneg : A < 0
  · have hb : inT l.length A n = false := by simp [inT]; omega
    have ho : textOut l A n = ⟨#[]⟩ := by unfold textOut; rw [hb]; simpa using E0.out
    have HO := Lib.hid ho
    have HB := Lib.hid hb
    clear ho hb
    go_enter Try.func30, Try.ntmps30
    go_wp2
    go_ret2
    exact ⟨by simp [HO.out, HB.out], rfl⟩
  · by_cases hneg2 : n < 0
    · have hb : inT l.length A n = false := by simp [inT]; omega
      have ho : textOut l A n = ⟨#[]⟩ := by unfold textOut; rw [hb]; simpa using E0.out
      have HO := Lib.hid ho
      have HB := Lib.hid hb
      clear ho hb
      go_enter Try.func30, Try.ntmps30
      go_wp2
      go_ret2
      exact ⟨by simp [HO.out, HB.out], rfl⟩
    · obtain ⟨at_, rfl⟩ := Int.eq_ofNat_of_zero_le (show 0 ≤ A by omega)
      obtain ⟨m, rfl⟩ := Int.eq_ofNat_of_zero_le (show 0 ≤ n by omega)
      cases hb : inT l.length at_ m
      · have ho : textOut l at_ m = ⟨#[]⟩ := by unfold textOut; rw [hb]; simpa using E0.out
        have ht : isThere l.length at_ m = false := by rw [← inT_there]; exact hb
        have HO := Lib.hid ho
        have HB := Lib.hid hb
        clear ho hb
        go_enter Try.func30, Try.ntmps30
        go_wp2_with (first | (go_at_call 28; refine (there_any p q cap l.length at_ m _ h0 hsm (by omega) hn1 hn).mono ?_; rintro e w' ⟨rfl, rfl⟩))
        go_ret2
        exact ⟨by simp [HO.out], rfl⟩
      · have ht : isThere l.length at_ m = true := by rw [← inT_there]; exact hb
        have hyes : at_ + m ≤ l.length := by simp [inT] at hb; omega
        have ho : textOut l at_ m = textOf ((l.drop at_).take m) := by unfold textOut; rw [if_pos hb, Int.toNat_natCast, Int.toNat_natCast]
        have HO := Lib.hid ho
        have HB := Lib.hid hb
        clear ho hb
        by_cases hm : m = 0
        · subst hm
          have HO2 : Hid (textOut l at_ (0 : Nat) = ⟨#[]⟩) := by
            show _ = _
            rw [HO.out, List.take_zero]; exact E0.out
          have ht0 : isThere l.length at_ 0 = true := ht
          go_enter Try.func30, Try.ntmps30
          go_wp2_with (first | (go_at_call 28; refine (there_any p q cap l.length at_ _ _ h0 hsm (by omega) hn1 hn).mono ?_; rintro e w' ⟨rfl, rfl⟩))
          go_ret2
          exact ⟨by rw [HO2.out]; rfl, rfl⟩
        · have hm2 : ((m : Int) == 0) = false := by simp; omega
          have hc := rtext_conv q cap l at_ m (cap - at_) w hr hyes
          go_enter Try.func30, Try.ntmps30
          go_wp2_with (first | (go_at_call 28; refine (there_any p q cap l.length at_ m _ h0 hsm (by omega) hn1 hn).mono ?_; rintro e w' ⟨rfl, rfl⟩))
          go_ret2
          exact ⟨by rw [HO.out]; rfl, rfl⟩

theorem rfill_any (p q cap : Nat) (l : List Nat) (A : Int) (s : ByteArray) (w : World) (h0 : w.cell? ⟨p, 0, none⟩ = some (.slice (some ⟨q, 0, none⟩) l.length cap)) (hr : RowB w q cap l)
    (hA1 : -9223372036854775808 ≤ A) (hA2 : A ≤ 9223372036854775807) (hs : s.size ≤ 9223372036854775807) :
    Calls Try.prog 32 #[.pointer (some ⟨p, 0, none⟩), .int .i64 A, .string s] w fun e w' => e = .returned (.bool (inT l.length A s.size)) ∧ Stored w w' q cap (fillOut l A s) := by
  have hsm := hr.small
  have hcap := hr.cap
  unfold fillOut
  by_cases hneg : A < 0
  · have hb : inT l.length A s.size = false := by simp [inT]; omega
    rw [hb]
    have HR := hr.same
    go_enter Try.func32, Try.ntmps32
    go_wp2
    go_ret
    exact ⟨rfl, by simpa using HR⟩
  · obtain ⟨at_, rfl⟩ := Int.eq_ofNat_of_zero_le (show 0 ≤ A by omega)
    cases hb : inT l.length at_ s.size
    · have ht : isThere l.length at_ s.size = false := by rw [← inT_there]; exact hb
      have HB := Lib.hid hb
      have HR := hr.same
      clear hb
      go_enter Try.func32, Try.ntmps32
      go_wp2_with (first | (go_at_call 28; refine (there_any p q cap l.length at_ s.size _ h0 hsm (by omega) (by omega) (by omega)).mono ?_; rintro e w' ⟨rfl, rfl⟩))
      go_ret
      exact ⟨rfl, by simpa using HR⟩
    · have ht : isThere l.length at_ s.size = true := by rw [← inT_there]; exact hb
      have hyes : (at_ : Int) + s.size ≤ l.length := by simp [inT] at hb; omega
      have HB := Lib.hid hb
      clear hb
      rw [if_pos rfl, Int.toNat_natCast]
      by_cases hz : s.size = 0
      · have HR := hr.same
        have e : bytesS s = [] := List.eq_nil_of_length_eq_zero (by rw [bytesS_length]; exact hz)
        rw [e, putAt_nil]
        clear e
        have ht0 : isThere l.length at_ 0 = true := by rw [← ht, hz]; rfl
        go_enter Try.func32, Try.ntmps32
        go_wp2_with (first | (go_at_call 28; refine (there_any p q cap l.length at_ _ _ h0 hsm (by omega) (by omega) (by omega)).mono ?_; rintro e w' ⟨rfl, rfl⟩))
        go_ret
        exact ⟨rfl, HR⟩
      · have hz2 : (0 : Int) < (s.size : Int) := by omega
        have hat : at_ < cap := by omega
        go_enter Try.func32, Try.ntmps32
        go_wp2_with (first | (go_at_call 28; refine (there_any p q cap l.length at_ s.size _ h0 hsm (by omega) (by omega) (by omega)).mono ?_; rintro e w' ⟨rfl, rfl⟩) | (refine wpList_copy_string rfl _ _ rfl q at_ (l.length - at_) (cap - at_) cap l s rfl rfl hr (by omega) (by omega) ?_; intro w1 hst))
        go_ret
        exact ⟨rfl, hst⟩
end Go.Proofs.Ytfnicijfhpfohaa
