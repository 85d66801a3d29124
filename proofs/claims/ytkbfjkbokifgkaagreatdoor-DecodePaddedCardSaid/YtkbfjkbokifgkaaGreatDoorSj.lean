/- The sections that append; the start; custom ones; what is as long as it says, of a method. -/
import Derived.Test.YtkbfjkbokifgkaaGreatDoorSi
namespace Go.Proofs.YtkbfjkbokifgkaaGreatDoor
open Go.RowKit
set_option linter.unusedVariables false
set_option linter.unusedSimpArgs false
set_option maxRecDepth 100000 in
set_option maxHeartbeats 4000000 in
theorem stypes_any {w : World} {p : Nat} {s : ByteArray} {a e l : Nat} {cs : List Value} (h : RdAt w p s (a : Int) (e : Int) (l : Int) cs) (hc : cs[0]? = some (.slice none 0 0)) (hs : s.size ≤ 262144) (he : e ≤ s.size) (ha : a ≤ e) :
 Calls Tryz.prog 67 #[.pointer (some ⟨p, 0, none⟩)] w (Sec typK 78 0 p s e (l : Int) cs (gEach (strl s) e a (gType (strl s) e)) w) := by
 have hB : Below w.heap.size w (w.alloc (.cells #[.pointer (some ⟨p, 0, none⟩)] 60)) := (Below.refl _ _).alloc (Nat.le_refl _) _; have hR1 := zh (h.below hB); have hb1 := zh (Bk.new w [.pointer (some ⟨p, 0, none⟩)] 60); have hW1 := zh (Wr.of_below (S := (· = p)) hB); have hpl := h.lt; clear h hB; go_enter Tryz.func67, Tryz.ntmps67; go_wp2_with fail
 refine (each_any (J := fun xs a' w' => JK typK 78 w p w.heap.size s (e : Int) (l : Int) cs 0 xs a' w') (T := fun w' => Wr (· = p) w w') (g := gType (strl s) e) hR1.out hs he ha
  (fun a' w' k r => ⟨[], .slice none 0 0, sec_start typK 78 hc r (hb1.out.wr k (by omega)) (hW1.out.trans k), rfl⟩) (fun w' k => hW1.out.trans k)
  (fun xs a' w' ha' hx hJ => (types_row w w' p w.heap.size s a' e l cs xs hpl rfl hs he ha' hx hJ).mono fun e' w2 hh => hh) (fun _ => rfl)).mono ?_
 rintro e' w3 (⟨vs, a1, hg, ha1, rfl, ts, v, hS, rfl⟩ | ⟨n, hg, rfl, hV⟩)
 · replace hg := zh hg; go_wp2_with fail; go_end0; exact ⟨hS.wr, .inl ⟨_, a1, ts, v, hg.out, ha1, rfl, hS.rd, hS.own, hS.oks, rfl⟩⟩
 · exact ⟨rfl, hV, .inr ⟨n, hg, rfl⟩⟩
set_option maxRecDepth 100000 in
set_option maxHeartbeats 4000000 in
theorem simports_any {w : World} {p : Nat} {s : ByteArray} {a e l : Nat} {cs : List Value} (h : RdAt w p s (a : Int) (e : Int) (l : Int) cs) (hc : cs[1]? = some (.slice none 0 0)) (hs : s.size ≤ 262144) (he : e ≤ s.size) (ha : a ≤ e) (hT : TabP p w) :
 Calls Tryz.prog 68 #[.pointer (some ⟨p, 0, none⟩)] w (Sec impK 80 1 p s e (l : Int) cs (gEach (strl s) e a (gImport (strl s) e)) w) := by
 have hB : Below w.heap.size w (w.alloc (.cells #[.pointer (some ⟨p, 0, none⟩)] 60)) := (Below.refl _ _).alloc (Nat.le_refl _) _; have hR1 := zh (h.below hB); have hb1 := zh (Bk.new w [.pointer (some ⟨p, 0, none⟩)] 60); have hW1 := zh (Wr.of_below (S := (· = p)) hB); have hpl := h.lt; clear h hB; go_enter Tryz.func68, Tryz.ntmps68; go_wp2_with fail
 refine (each_any (J := fun xs a' w' => JK impK 80 w p w.heap.size s (e : Int) (l : Int) cs 1 xs a' w') (T := fun w' => Wr (· = p) w w') (g := gImport (strl s) e) hR1.out hs he ha
  (fun a' w' k r => ⟨[], .slice none 0 0, sec_start impK 80 hc r (hb1.out.wr k (by omega)) (hW1.out.trans k), rfl⟩) (fun w' k => hW1.out.trans k)
  (fun xs a' w' ha' hx hJ => (imports_row w w' p w.heap.size s a' e l cs xs hT hpl rfl hs he ha' hx hJ).mono fun e' w2 hh => hh) (fun _ => rfl)).mono ?_
 rintro e' w3 (⟨vs, a1, hg, ha1, rfl, ts, v, hS, rfl⟩ | ⟨n, hg, rfl, hV⟩)
 · replace hg := zh hg; go_wp2_with fail; go_end0; exact ⟨hS.wr, .inl ⟨_, a1, ts, v, hg.out, ha1, rfl, hS.rd, hS.own, hS.oks, rfl⟩⟩
 · exact ⟨rfl, hV, .inr ⟨n, hg, rfl⟩⟩
set_option maxRecDepth 100000 in
set_option maxHeartbeats 4000000 in
theorem sfuncs_any {w : World} {p : Nat} {s : ByteArray} {a e l : Nat} {cs : List Value} (h : RdAt w p s (a : Int) (e : Int) (l : Int) cs) (hc : cs[2]? = some (.slice none 0 0)) (hs : s.size ≤ 262144) (he : e ≤ s.size) (ha : a ≤ e) :
 Calls Tryz.prog 69 #[.pointer (some ⟨p, 0, none⟩)] w (Sec fnK 83 2 p s e (l : Int) cs (gEach (strl s) e a (gU (strl s) e)) w) := by
 have hB : Below w.heap.size w (w.alloc (.cells #[.pointer (some ⟨p, 0, none⟩)] 60)) := (Below.refl _ _).alloc (Nat.le_refl _) _; have hR1 := zh (h.below hB); have hb1 := zh (Bk.new w [.pointer (some ⟨p, 0, none⟩)] 60); have hW1 := zh (Wr.of_below (S := (· = p)) hB); have hpl := h.lt; clear h hB; go_enter Tryz.func69, Tryz.ntmps69; go_wp2_with fail
 refine (each_any (J := fun xs a' w' => JK fnK 83 w p w.heap.size s (e : Int) (l : Int) cs 2 xs a' w') (T := fun w' => Wr (· = p) w w') (g := gU (strl s) e) hR1.out hs he ha
  (fun a' w' k r => ⟨[], .slice none 0 0, sec_start fnK 83 hc r (hb1.out.wr k (by omega)) (hW1.out.trans k), rfl⟩) (fun w' k => hW1.out.trans k)
  (fun xs a' w' ha' hx hJ => (funcs_row w w' p w.heap.size s a' e l cs xs hpl rfl hs he ha' hx hJ).mono fun e' w2 hh => hh) (fun _ => rfl)).mono ?_
 rintro e' w3 (⟨vs, a1, hg, ha1, rfl, ts, v, hS, rfl⟩ | ⟨n, hg, rfl, hV⟩)
 · replace hg := zh hg; go_wp2_with fail; go_end0; exact ⟨hS.wr, .inl ⟨_, a1, ts, v, hg.out, ha1, rfl, hS.rd, hS.own, hS.oks, rfl⟩⟩
 · exact ⟨rfl, hV, .inr ⟨n, hg, rfl⟩⟩
set_option maxRecDepth 100000 in
set_option maxHeartbeats 4000000 in
theorem stables_any {w : World} {p : Nat} {s : ByteArray} {a e l : Nat} {cs : List Value} (h : RdAt w p s (a : Int) (e : Int) (l : Int) cs) (hc : cs[3]? = some (.slice none 0 0)) (hs : s.size ≤ 262144) (he : e ≤ s.size) (ha : a ≤ e) :
 Calls Tryz.prog 70 #[.pointer (some ⟨p, 0, none⟩)] w (Sec limK 86 3 p s e (l : Int) cs (gEach (strl s) e a (gTable (strl s) e)) w) := by
 have hB : Below w.heap.size w (w.alloc (.cells #[.pointer (some ⟨p, 0, none⟩)] 60)) := (Below.refl _ _).alloc (Nat.le_refl _) _; have hR1 := zh (h.below hB); have hb1 := zh (Bk.new w [.pointer (some ⟨p, 0, none⟩)] 60); have hW1 := zh (Wr.of_below (S := (· = p)) hB); have hpl := h.lt; clear h hB; go_enter Tryz.func70, Tryz.ntmps70; go_wp2_with fail
 refine (each_any (J := fun xs a' w' => JK limK 86 w p w.heap.size s (e : Int) (l : Int) cs 3 xs a' w') (T := fun w' => Wr (· = p) w w') (g := gTable (strl s) e) hR1.out hs he ha
  (fun a' w' k r => ⟨[], .slice none 0 0, sec_start limK 86 hc r (hb1.out.wr k (by omega)) (hW1.out.trans k), rfl⟩) (fun w' k => hW1.out.trans k)
  (fun xs a' w' ha' hx hJ => (tables_row w w' p w.heap.size s a' e l cs xs hpl rfl hs he ha' hx hJ).mono fun e' w2 hh => hh) (fun _ => rfl)).mono ?_
 rintro e' w3 (⟨vs, a1, hg, ha1, rfl, ts, v, hS, rfl⟩ | ⟨n, hg, rfl, hV⟩)
 · replace hg := zh hg; go_wp2_with fail; go_end0; exact ⟨hS.wr, .inl ⟨_, a1, ts, v, hg.out, ha1, rfl, hS.rd, hS.own, hS.oks, rfl⟩⟩
 · exact ⟨rfl, hV, .inr ⟨n, hg, rfl⟩⟩
set_option maxRecDepth 100000 in
set_option maxHeartbeats 4000000 in
theorem smems_any {w : World} {p : Nat} {s : ByteArray} {a e l : Nat} {cs : List Value} (h : RdAt w p s (a : Int) (e : Int) (l : Int) cs) (hc : cs[4]? = some (.slice none 0 0)) (hs : s.size ≤ 262144) (he : e ≤ s.size) (ha : a ≤ e) :
 Calls Tryz.prog 71 #[.pointer (some ⟨p, 0, none⟩)] w (Sec limK 86 4 p s e (l : Int) cs (gEach (strl s) e a (gLimits (strl s) e)) w) := by
 have hB : Below w.heap.size w (w.alloc (.cells #[.pointer (some ⟨p, 0, none⟩)] 60)) := (Below.refl _ _).alloc (Nat.le_refl _) _; have hR1 := zh (h.below hB); have hb1 := zh (Bk.new w [.pointer (some ⟨p, 0, none⟩)] 60); have hW1 := zh (Wr.of_below (S := (· = p)) hB); have hpl := h.lt; clear h hB; go_enter Tryz.func71, Tryz.ntmps71; go_wp2_with fail
 refine (each_any (J := fun xs a' w' => JK limK 86 w p w.heap.size s (e : Int) (l : Int) cs 4 xs a' w') (T := fun w' => Wr (· = p) w w') (g := gLimits (strl s) e) hR1.out hs he ha
  (fun a' w' k r => ⟨[], .slice none 0 0, sec_start limK 86 hc r (hb1.out.wr k (by omega)) (hW1.out.trans k), rfl⟩) (fun w' k => hW1.out.trans k)
  (fun xs a' w' ha' hx hJ => (mems_row w w' p w.heap.size s a' e l cs xs hpl rfl hs he ha' hx hJ).mono fun e' w2 hh => hh) (fun _ => rfl)).mono ?_
 rintro e' w3 (⟨vs, a1, hg, ha1, rfl, ts, v, hS, rfl⟩ | ⟨n, hg, rfl, hV⟩)
 · replace hg := zh hg; go_wp2_with fail; go_end0; exact ⟨hS.wr, .inl ⟨_, a1, ts, v, hg.out, ha1, rfl, hS.rd, hS.own, hS.oks, rfl⟩⟩
 · exact ⟨rfl, hV, .inr ⟨n, hg, rfl⟩⟩
set_option maxRecDepth 100000 in
set_option maxHeartbeats 4000000 in
theorem sglobals_any {w : World} {p : Nat} {s : ByteArray} {a e l : Nat} {cs : List Value} (h : RdAt w p s (a : Int) (e : Int) (l : Int) cs) (hc : cs[5]? = some (.slice none 0 0)) (hs : s.size ≤ 262144) (he : e ≤ s.size) (ha : a ≤ e) :
 Calls Tryz.prog 72 #[.pointer (some ⟨p, 0, none⟩)] w (Sec gloK 90 5 p s e (l : Int) cs (gEach (strl s) e a (gGlobal (strl s) e)) w) := by
 have hB : Below w.heap.size w (w.alloc (.cells #[.pointer (some ⟨p, 0, none⟩)] 60)) := (Below.refl _ _).alloc (Nat.le_refl _) _; have hR1 := zh (h.below hB); have hb1 := zh (Bk.new w [.pointer (some ⟨p, 0, none⟩)] 60); have hW1 := zh (Wr.of_below (S := (· = p)) hB); have hpl := h.lt; clear h hB; go_enter Tryz.func72, Tryz.ntmps72; go_wp2_with fail
 refine (each_any (J := fun xs a' w' => JK gloK 90 w p w.heap.size s (e : Int) (l : Int) cs 5 xs a' w') (T := fun w' => Wr (· = p) w w') (g := gGlobal (strl s) e) hR1.out hs he ha
  (fun a' w' k r => ⟨[], .slice none 0 0, sec_start gloK 90 hc r (hb1.out.wr k (by omega)) (hW1.out.trans k), rfl⟩) (fun w' k => hW1.out.trans k)
  (fun xs a' w' ha' hx hJ => (globals_row w w' p w.heap.size s a' e l cs xs hpl rfl hs he ha' hx hJ).mono fun e' w2 hh => hh) (fun _ => rfl)).mono ?_
 rintro e' w3 (⟨vs, a1, hg, ha1, rfl, ts, v, hS, rfl⟩ | ⟨n, hg, rfl, hV⟩)
 · replace hg := zh hg; go_wp2_with fail; go_end0; exact ⟨hS.wr, .inl ⟨_, a1, ts, v, hg.out, ha1, rfl, hS.rd, hS.own, hS.oks, rfl⟩⟩
 · exact ⟨rfl, hV, .inr ⟨n, hg, rfl⟩⟩
set_option maxRecDepth 100000 in
set_option maxHeartbeats 4000000 in
theorem sexports_any {w : World} {p : Nat} {s : ByteArray} {a e l : Nat} {cs : List Value} (h : RdAt w p s (a : Int) (e : Int) (l : Int) cs) (hc : cs[6]? = some (.slice none 0 0)) (hs : s.size ≤ 262144) (he : e ≤ s.size) (ha : a ≤ e) (hT : TabP p w) :
 Calls Tryz.prog 73 #[.pointer (some ⟨p, 0, none⟩)] w (Sec expK 93 6 p s e (l : Int) cs (gEach (strl s) e a (gExport (strl s) e)) w) := by
 have hB : Below w.heap.size w (w.alloc (.cells #[.pointer (some ⟨p, 0, none⟩)] 60)) := (Below.refl _ _).alloc (Nat.le_refl _) _; have hR1 := zh (h.below hB); have hb1 := zh (Bk.new w [.pointer (some ⟨p, 0, none⟩)] 60); have hW1 := zh (Wr.of_below (S := (· = p)) hB); have hpl := h.lt; clear h hB; go_enter Tryz.func73, Tryz.ntmps73; go_wp2_with fail
 refine (each_any (J := fun xs a' w' => JK expK 93 w p w.heap.size s (e : Int) (l : Int) cs 6 xs a' w') (T := fun w' => Wr (· = p) w w') (g := gExport (strl s) e) hR1.out hs he ha
  (fun a' w' k r => ⟨[], .slice none 0 0, sec_start expK 93 hc r (hb1.out.wr k (by omega)) (hW1.out.trans k), rfl⟩) (fun w' k => hW1.out.trans k)
  (fun xs a' w' ha' hx hJ => (exports_row w w' p w.heap.size s a' e l cs xs hT hpl rfl hs he ha' hx hJ).mono fun e' w2 hh => hh) (fun _ => rfl)).mono ?_
 rintro e' w3 (⟨vs, a1, hg, ha1, rfl, ts, v, hS, rfl⟩ | ⟨n, hg, rfl, hV⟩)
 · replace hg := zh hg; go_wp2_with fail; go_end0; exact ⟨hS.wr, .inl ⟨_, a1, ts, v, hg.out, ha1, rfl, hS.rd, hS.own, hS.oks, rfl⟩⟩
 · exact ⟨rfl, hV, .inr ⟨n, hg, rfl⟩⟩
set_option maxRecDepth 100000 in
set_option maxHeartbeats 4000000 in
theorem selems_any {w : World} {p : Nat} {s : ByteArray} {a e l : Nat} {cs : List Value} (h : RdAt w p s (a : Int) (e : Int) (l : Int) cs) (hc : cs[8]? = some (.slice none 0 0)) (hs : s.size ≤ 262144) (he : e ≤ s.size) (ha : a ≤ e) :
 Calls Tryz.prog 75 #[.pointer (some ⟨p, 0, none⟩)] w (Sec elmK 95 8 p s e (l : Int) cs (gEach (strl s) e a (gElem (strl s) e)) w) := by
 have hB : Below w.heap.size w (w.alloc (.cells #[.pointer (some ⟨p, 0, none⟩)] 60)) := (Below.refl _ _).alloc (Nat.le_refl _) _; have hR1 := zh (h.below hB); have hb1 := zh (Bk.new w [.pointer (some ⟨p, 0, none⟩)] 60); have hW1 := zh (Wr.of_below (S := (· = p)) hB); have hpl := h.lt; clear h hB; go_enter Tryz.func75, Tryz.ntmps75; go_wp2_with fail
 refine (each_any (J := fun xs a' w' => JK elmK 95 w p w.heap.size s (e : Int) (l : Int) cs 8 xs a' w') (T := fun w' => Wr (· = p) w w') (g := gElem (strl s) e) hR1.out hs he ha
  (fun a' w' k r => ⟨[], .slice none 0 0, sec_start elmK 95 hc r (hb1.out.wr k (by omega)) (hW1.out.trans k), rfl⟩) (fun w' k => hW1.out.trans k)
  (fun xs a' w' ha' hx hJ => (elems_row w w' p w.heap.size s a' e l cs xs hpl rfl hs he ha' hx hJ).mono fun e' w2 hh => hh) (fun _ => rfl)).mono ?_
 rintro e' w3 (⟨vs, a1, hg, ha1, rfl, ts, v, hS, rfl⟩ | ⟨n, hg, rfl, hV⟩)
 · replace hg := zh hg; go_wp2_with fail; go_end0; exact ⟨hS.wr, .inl ⟨_, a1, ts, v, hg.out, ha1, rfl, hS.rd, hS.own, hS.oks, rfl⟩⟩
 · exact ⟨rfl, hV, .inr ⟨n, hg, rfl⟩⟩
set_option maxRecDepth 100000 in
set_option maxHeartbeats 4000000 in
theorem sdatas_any {w : World} {p : Nat} {s : ByteArray} {a e l : Nat} {cs : List Value} (h : RdAt w p s (a : Int) (e : Int) (l : Int) cs) (hc : cs[9]? = some (.slice none 0 0)) (hs : s.size ≤ 262144) (he : e ≤ s.size) (ha : a ≤ e) :
 Calls Tryz.prog 77 #[.pointer (some ⟨p, 0, none⟩)] w (Sec datK 97 9 p s e (l : Int) cs (gEach (strl s) e a (gData (strl s) e)) w) := by
 have hB : Below w.heap.size w (w.alloc (.cells #[.pointer (some ⟨p, 0, none⟩)] 60)) := (Below.refl _ _).alloc (Nat.le_refl _) _; have hR1 := zh (h.below hB); have hb1 := zh (Bk.new w [.pointer (some ⟨p, 0, none⟩)] 60); have hW1 := zh (Wr.of_below (S := (· = p)) hB); have hpl := h.lt; clear h hB; go_enter Tryz.func77, Tryz.ntmps77; go_wp2_with fail
 refine (each_any (J := fun xs a' w' => JK datK 97 w p w.heap.size s (e : Int) (l : Int) cs 9 xs a' w') (T := fun w' => Wr (· = p) w w') (g := gData (strl s) e) hR1.out hs he ha
  (fun a' w' k r => ⟨[], .slice none 0 0, sec_start datK 97 hc r (hb1.out.wr k (by omega)) (hW1.out.trans k), rfl⟩) (fun w' k => hW1.out.trans k)
  (fun xs a' w' ha' hx hJ => (datas_row w w' p w.heap.size s a' e l cs xs hpl rfl hs he ha' hx hJ).mono fun e' w2 hh => hh) (fun _ => rfl)).mono ?_
 rintro e' w3 (⟨vs, a1, hg, ha1, rfl, ts, v, hS, rfl⟩ | ⟨n, hg, rfl, hV⟩)
 · replace hg := zh hg; go_wp2_with fail; go_end0; exact ⟨hS.wr, .inl ⟨_, a1, ts, v, hg.out, ha1, rfl, hS.rd, hS.own, hS.oks, rfl⟩⟩
 · exact ⟨rfl, hV, .inr ⟨n, hg, rfl⟩⟩
def stK : Kd Int := ⟨Int, fun t => [.int .i64 t], 1, id, fun _ _ _ => True, fun _ => rfl, fun t u hu => by simp only [List.mem_cons, List.mem_nil_iff, or_false] at hu; rcases hu with rfl; rfl, fun _ _ => trivial⟩
theorem set_same7 {cs : List Value} {j : Nat} {v : Value} (hc : cs[j]? = some v) : cs.set j v = cs := by obtain ⟨hlt, he⟩ := List.getElem?_eq_some_iff.1 hc; rw [← he]; exact List.set_getElem_self hlt
def XT (w : World) (p : Nat) (s : ByteArray) (e l : Nat) (cs : List Value) (G : Got Int) : Nat → Value → World → Prop
 | 0, _, w' => w' = w.drew
 | 1, v, w' => ∃ z a', G = .ok (z, a') ∧ a' ≤ e ∧ v = .int .i64 z ∧ RdAt w' p s ((a' : Nat) : Int) (e : Int) (l : Int) (cs.set 7 (.slice none 0 0)) ∧ Wr (· = p) w w'
 | 2, v, w' => ∃ z a' b, G = .ok (z, a') ∧ a' ≤ e ∧ v = .slice (some ⟨b, 0, none⟩) 1 1 ∧ w'.heap[b]? = some (.cells #[.int .i64 z] 3 (0, 0)) ∧ RdAt w' p s ((a' : Nat) : Int) (e : Int) (l : Int) (cs.set 7 (.slice none 0 0)) ∧ Wr (· = p) w w' ∧ w.heap.size + 1 ≤ w'.heap.size
 | _, v, w' => ∃ z a' g cap, G = .ok (z, a') ∧ a' ≤ e ∧ v = .slice (some ⟨g, 0, none⟩) (0 + 1) cap ∧ RdAt w' p s ((a' : Nat) : Int) (e : Int) (l : Int) (cs.set 7 (.slice none 0 0)) ∧ Wr (· = p) w w' ∧ w'.ownsRow (w.heap.size + 1) 3 1 v (0 + 1) ([] ++ [.int .i64 z])
theorem XT.cell {w : World} {p : Nat} {s : ByteArray} {a : Int} {e l : Nat} {cs : List Value} {G : Got Int} (h : RdAt w p s a (e : Int) (l : Int) (cs.set 7 (.slice none 0 0))) : ∀ k v w', XT w p s e l cs G k v w' → w'.cell? ⟨p, 11, none⟩ = some (.slice none 0 0) := by
 intro k v w' hX
 match k, hX with
 | 0, hX => subst hX; exact h.drew.field (j := 7) (by decide)
 | 1, ⟨z, a', _, _, _, h1, _⟩ => exact h1.field (j := 7) (by decide)
 | 2, ⟨z, a', b, _, _, _, _, h1, _⟩ => exact h1.field (j := 7) (by decide)
 | k + 3, ⟨z, a', g, cap, _, _, _, h1, _⟩ => exact h1.field (j := 7) (by decide)
set_option maxRecDepth 100000 in
set_option maxHeartbeats 8000000 in
theorem sstart_any {w : World} {p : Nat} {s : ByteArray} {a e l : Nat} {cs : List Value} (h : RdAt w p s (a : Int) (e : Int) (l : Int) cs) (hc : cs[7]? = some (.slice none 0 0)) (hs : s.size ≤ 262144) (he : e ≤ s.size) (ha : a ≤ e) :
 Calls Tryz.prog 74 #[.pointer (some ⟨p, 0, none⟩)] w (Sec stK 3 7 p s e (l : Int) cs ((gU (strl s) e a).bind fun n => .ok ([n.1], n.2)) w) := by
 obtain ⟨G2, hG2⟩ : ∃ G2 : Got (List Int), (gU (strl s) e a).bind (fun n => .ok ([n.1], n.2)) = G2 := ⟨_, rfl⟩
 rw [hG2]; replace hG2 := zh hG2; obtain ⟨i3, hi3, hz3, hs3, hb3⟩ := info_parts info3; rw [← set_same7 hc] at h; have hpl := h.lt; have hcells := zh (XT.cell (G := gU (strl s) e a) h); replace h := zh h; go_enter Tryz.func74, Tryz.ntmps74; refine wp_fv _ 15 rfl ?_; refine region_chain hmix 15 13 3 (fun k => match k with | 0 => 7 | 1 => 8 | 2 => 9 | _ => 13) (fun j => 2 + j) rfl (by kernel_rfl) (by kernel_rfl) (by kernel_rfl) (by kernel_rfl) (fun j => match j with | 0 => .pointer (some ⟨p, 0, none⟩) | 1 => .pointer (some ⟨p, 0, none⟩) | 2 => .pointer (some ⟨p, 0, none⟩) | 3 => .pointer (some ⟨p, 4, none⟩) | 4 => .pointer (some ⟨p, 11, none⟩) | 5 => .slice none 0 0 | 6 => .pointer (some ⟨p, 0, none⟩) | 10 => .pointer (some ⟨p, 0, none⟩) | 11 => .pointer (some ⟨p, 4, none⟩) | 12 => .pointer (some ⟨p, 11, none⟩) | _ => undef) (XT w p s e l cs (gU (strl s) e a)) ?_ ?_ ?_ ?_
 · exact rfl
 · intro i hi hn k v f w' hk hX hoth hv; have g1 := hcells.out k v w' hX; clear hX
   match i, hi with
   | 0, _ => have z0 := fv_get (n := 15) (by decide) (show f 0 = .pointer (some ⟨p, 0, none⟩) from (hoth 0 (by decide)).trans rfl); refine wpOp_step rfl ?_; intro K' hK'; rw [if_pos (wanted_none rfl)]; go_simp; (try simp only [z0]); (try go_simp); exact hK' _ _ ⟨fv_set _ _, rfl⟩
   | 1, _ => have z0 := fv_get (n := 15) (by decide) (show f 0 = .pointer (some ⟨p, 0, none⟩) from (hoth 0 (by decide)).trans rfl); refine wpOp_step rfl ?_; intro K' hK'; rw [if_pos (wanted_none rfl)]; go_simp; (try simp only [z0]); (try go_simp); exact hK' _ _ ⟨fv_set _ _, rfl⟩
   | 2, _ => have z0 := fv_get (n := 15) (by decide) (show f 3 = .pointer (some ⟨p, 0, none⟩) from hv 1 (by kernel_rfl) (by decide)); refine wpOp_step rfl ?_; intro K' hK'; rw [if_pos (wanted_none rfl)]; go_simp; (try simp only [z0]); (try go_simp); exact hK' _ _ ⟨fv_set _ _, rfl⟩
   | 3, _ => have z0 := fv_get (n := 15) (by decide) (show f 4 = .pointer (some ⟨p, 0, none⟩) from hv 2 (by kernel_rfl) (by decide)); refine wpOp_step rfl ?_; intro K' hK'; rw [if_pos (wanted_none rfl)]; go_simp; (try simp only [z0]); (try go_simp); exact hK' _ _ ⟨fv_set _ _, rfl⟩
   | 4, _ => have z0 := fv_get (n := 15) (by decide) (show f 5 = .pointer (some ⟨p, 4, none⟩) from hv 3 (by kernel_rfl) (by decide)); refine wpOp_step rfl ?_; intro K' hK'; rw [if_pos (wanted_none rfl)]; go_simp; (try simp only [z0]); (try go_simp); exact hK' _ _ ⟨fv_set _ _, rfl⟩
   | 5, _ => have z0 := fv_get (n := 15) (by decide) (show f 6 = .pointer (some ⟨p, 11, none⟩) from hv 4 (by kernel_rfl) (by decide)); refine wpOp_step rfl ?_; intro K' hK'; rw [if_pos (wanted_none rfl)]; go_simp; (try simp only [z0]); (try go_simp); exact hK' _ _ ⟨fv_set _ _, rfl⟩
   | 6, _ => have z0 := fv_get (n := 15) (by decide) (show f 0 = .pointer (some ⟨p, 0, none⟩) from (hoth 0 (by decide)).trans rfl); refine wpOp_step rfl ?_; intro K' hK'; rw [if_pos (wanted_none rfl)]; go_simp; (try simp only [z0]); (try go_simp); exact hK' _ _ ⟨fv_set _ _, rfl⟩
   | 7, _ => exact absurd rfl (hn 0 (by decide))
   | 8, _ => exact absurd rfl (hn 1 (by decide))
   | 9, _ => exact absurd rfl (hn 2 (by decide))
   | 10, _ => have z0 := fv_get (n := 15) (by decide) (show f 2 = .pointer (some ⟨p, 0, none⟩) from hv 0 (by kernel_rfl) (by decide)); refine wpOp_step rfl ?_; intro K' hK'; rw [if_pos (wanted_none rfl)]; go_simp; (try simp only [z0]); (try go_simp); exact hK' _ _ ⟨fv_set _ _, rfl⟩
   | 11, _ => have z0 := fv_get (n := 15) (by decide) (show f 12 = .pointer (some ⟨p, 0, none⟩) from hv 10 (by kernel_rfl) (by decide)); refine wpOp_step rfl ?_; intro K' hK'; rw [if_pos (wanted_none rfl)]; go_simp; (try simp only [z0]); (try go_simp); exact hK' _ _ ⟨fv_set _ _, rfl⟩
   | 12, _ => have z0 := fv_get (n := 15) (by decide) (show f 13 = .pointer (some ⟨p, 4, none⟩) from hv 11 (by kernel_rfl) (by decide)); refine wpOp_step rfl ?_; intro K' hK'; rw [if_pos (wanted_none rfl)]; go_simp; (try simp only [z0]); (try go_simp); exact hK' _ _ ⟨fv_set _ _, rfl⟩
   | i + 13, h => exact absurd h (by omega)
 · intro k hk v f w' hX hfv hoth hv
   match k, hk with
   | 0, _ =>
     obtain rfl : w' = w.drew := hX; have z0 := fv_get (n := 15) (by decide) (show f 8 = .pointer (some ⟨p, 0, none⟩) from hv 6 (by kernel_rfl) (by decide)); refine wpOp_step rfl ?_; intro K' hK'; rw [if_pos (wanted_none rfl)]; go_simp; (try simp only [z0]); (try go_simp)
     go_at_call 126
     refine (u_any h.out.drew hs he ha).mono ?_; rintro e' w4 ⟨hW, ⟨z, a', v', hg, ha', ⟨rfl, hv0, hv1⟩, rfl, hR⟩ | ⟨n, hg, rfl⟩⟩
     · go_simp; exact hK' _ _ ⟨_, fv_set _ _, z, a', hg, ha', rfl, hR, (Wr.refl (· = p) w).drew.trans hW⟩
     · exact ⟨rfl, (Wr.refl (· = p) w).drew.trans hW, .inr ⟨n, by rw [← hG2.out]; exact rd_err hg, rfl⟩⟩
   | 1, _ => obtain ⟨z, a', hg, ha', rfl, h1, h2⟩ := hX; replace hg := zh hg; have z0 := fv_get (n := 15) (by decide) (show f 9 = .int .i64 z from hfv (by decide)); refine wpOp_step rfl ?_; intro K' hK'; rw [if_pos (wanted_none rfl)]; go_simp; (try simp only [z0]); (try go_simp); exact hK' _ _ ⟨_, fv_set _ _, z, a', w'.heap.size, hg.out, ha', rfl, heap_alloc_new _ _, h1.below (Below.alloc (Below.refl _ _) (Nat.le_refl _) _), h2.trans (Wr.of_below (Below.alloc (Below.refl _ _) (Nat.le_refl _) _)), by have := h2.size; simp; omega⟩
   | 2, _ => obtain ⟨z, a', b, hg, ha', rfl, hb, h1, h2, h3⟩ := hX; replace hg := zh hg; have z0 := fv_get (n := 15) (by decide) (show f 10 = .slice (some ⟨b, 0, none⟩) 1 1 from hfv (by decide)); have z1 := fv_get (n := 15) (by decide) (show f 7 = .slice none 0 0 from hv 5 (by kernel_rfl) (by decide)); refine wpOp_step rfl ?_; intro K' hK'; refine step_append_lies _ (by rfl) (.tmp 7) (.tmp 10) 29 (by rfl) (w.heap.size + 1) 3 i3 _ 1 8 Tryz.underlying29 hi3 hz3 hs3 hb3 rfl (by omega) (.slice none 0 0) 0 [] (by exact z1) (World.ownsRow_nil _ _ _ _) ⟨b, 0, none⟩ 1 1 [.int .i64 z] (by exact z0) (by rfl) (World.news_of_block (cs := #[.int .i64 z]) (t := 3) (fr := (0, 0)) hb) (by intro u hu; simp only [List.mem_cons, List.mem_nil_iff, or_false] at hu; rcases hu with rfl; rfl) (by omega) (by unfold maxLen; omega) (by omega) h3 w'.heap.size rfl ?_; intro g cap w5 hown hgrow hat hlt; exact hK' _ _ ⟨_, fv_put _ _, z, a', g, cap, hg.out, ha', rfl, h1.grown hgrow (by simp [Value.ownBlock]), h2.newer (Wr.of_grown (S := fun _ => False) hgrow (fun k e _ => by simp [Value.ownBlock] at e)) (fun k e => e.elim), hown⟩
   | k + 3, h => exact absurd h (by omega)
 · intro v f w' hX hfv hoth hv; obtain ⟨z, a', g, cap, hg, ha', rfl, h1, h2, hown⟩ := hX; replace hg := zh hg; have z0 := fv_get (n := 15) (by decide) (show f 11 = .slice (some ⟨g, 0, none⟩) (0 + 1) cap from hfv (by decide)); have f4 := h1.fr 11; have c4 := h1.field (j := 7) (by decide); have z1 := fv_get (n := 15) (by decide) (show f 14 = .pointer (some ⟨p, 11, none⟩) from hv 12 (by decide) (by decide)); refine wpOp_step rfl ?_; intro K' hK'; rw [if_pos (wanted_none rfl)]; go_simp; (try simp only [z0, z1]); (try go_simp); refine hK' _ _ ?_; refine ⟨rfl, _, results_none rfl _ _ _, ?_⟩; have hRz := h1.setm (.slice (some ⟨g, 0, none⟩) (0 + 1) cap); refine ⟨h2.set (S := (· = p)) rfl _ _, .inl ⟨[z], a', [z], _, by rw [← hG2.out]; exact rd_bind hg.out, ha', rfl, hRz, ?_, fun t ht => trivial, rfl⟩⟩; have hgp : g ≠ p := (by have := (hown.lt g rfl).1; omega)
   exact own_same hown fun k hk => Below.heap_setCell _ _ _ _ (fun e => by have hk' : some g = some k := hk; cases hk'; exact hgp e)
set_option maxRecDepth 100000 in
set_option maxHeartbeats 4000000 in
theorem custom_any {w : World} {p : Nat} {s : ByteArray} {a e : Nat} {l : Int} {cs : List Value} (h : RdAt w p s (a : Int) (e : Int) l cs) (hs : s.size ≤ 262144) (he : e ≤ s.size) (ha : a ≤ e) (hT : TabP p w) :
 Calls Tryz.prog 66 #[.pointer (some ⟨p, 0, none⟩)] w (Rd (fun _ x => x = .tuple #[]) p s e l cs ((gText (strl s) e a).bind fun t => if Lib.validD t.1 = true then .ok ((), e) else .error 50) w) := by
 obtain ⟨G2, hG2⟩ : ∃ G2 : Got Unit, (gText (strl s) e a).bind (fun t => if Lib.validD t.1 = true then .ok ((), e) else .error 50) = G2 := ⟨_, rfl⟩
 rw [hG2]; replace hG2 := zh hG2; replace hT := zh hT; go_enter Tryz.func66, Tryz.ntmps66; go_wp2_with fail; refine (rtext_any h hs he ha).mono ?_; rintro e' w1 ⟨hW1, ⟨t, a1, v', hg, ha1, ⟨rfl, hl1⟩, rfl, hR1⟩ | ⟨n, hg, rfl⟩⟩
 rotate_left
 · exact ⟨rfl, hW1, .inr ⟨n, by rw [← hG2.out]; exact rd_err hg, rfl⟩⟩
 have hG1 : G2 = if Lib.validD t = true then .ok ((), e) else .error 50 := (by rw [← hG2.out]; exact rd_bind hg)
 replace hG1 := zh hG1; replace hW1 := zh hW1; replace hR1 := zh hR1; clear hg hG2; go_wp2_with fail; refine (valid_any (mkb t) _ (by show t.toArray.size ≤ _; simp; omega) (hT.out.wr hW1.out).tab).mono ?_; rintro e' w2 ⟨rfl, hB⟩; have hR2 := hR1.out.below hB; have hW2 := hW1.out.trans (Wr.of_below hB); rw [show (mkb t).data.toList = t from rfl]; cases hv : Lib.validD t
 · have hf : G2 = .error 50 := (by rw [hG1.out, hv]; rfl)
   replace hf := zh hf; clear hv hG1; go_wp2_with fail; refine (dwant_no 50 _).mono ?_; rintro e' w3 ⟨rfl, rfl⟩; exact ⟨rfl, hW2, .inr ⟨50, hf.out, rfl⟩⟩
 · have hf : G2 = .ok ((), e) := (by rw [hG1.out, hv]; rfl)
   replace hf := zh hf; clear hv hG1; go_wp2_with fail; refine (dwant_yes 50 _).mono ?_; rintro e' w3 ⟨rfl, rfl⟩; have c2 := hR2.c2; have c1 := hR2.c1; have f1 := hR2.fr 1; go_wp2_with fail; refine bodyPost_ret (results_none rfl _ _ _) rfl ?_; exact ⟨hW2.set (S := (· = p)) rfl 1 _, .inl ⟨(), e, _, hf.out, Nat.le_refl _, rfl, rfl, hR2.set1 _⟩⟩
set_option maxRecDepth 100000 in
set_option maxHeartbeats 4000000 in
theorem long_m {α : Type} {J : α → Nat → Nat → World → Prop} {T : World → Prop} {w : World} {p : Nat} {s : ByteArray} {a e : Nat} {l : Int} {cs : List Value} {f : Nat → Nat → Got α} {k : Nat}
 (h : RdAt w p s (a : Int) (e : Int) l cs) (hs : s.size ≤ 262144) (he : e ≤ s.size) (ha : a ≤ e) (hT : ∀ w', Wr (· = p) w w' → T w')
 (hst : ∀ a1 e1 w1, Wr (· = p) w w1 → RdAt w1 p s ((a1 : Nat) : Int) ((e1 : Nat) : Int) l cs → a1 ≤ e1 → e1 ≤ e → Calls Tryz.prog k #[.pointer (some ⟨p, 0, none⟩)] w1 fun e' w' => (∃ v b, f e1 a1 = .ok (v, b) ∧ b ≤ e1 ∧ e' = .returned (.tuple #[]) ∧ J v b e1 w') ∨ (∃ n, f e1 a1 = .error n ∧ e' = .panicked (flt n) ∧ T w'))
 (hJr : ∀ v b e1 w', J v b e1 w' → ∃ l' cs', RdAt w' p s ((b : Nat) : Int) ((e1 : Nat) : Int) l' cs') (hJs : ∀ v b e1 w', J v b e1 w' → J v b e (w'.setCell ⟨p, 2, none⟩ (.int .i64 (e : Int)))) (hJT : ∀ v b e1 w', J v b e1 w' → T w')
 (hcall : ∀ w, (callFunc k #[.pointer (some ⟨p, 0, none⟩)]).run Tryz.prog w = .ok (.enter k #[.pointer (some ⟨p, 0, none⟩)]) w) :
 Calls Tryz.prog 80 #[.pointer (some ⟨p, 0, none⟩), .func (Fn.func k) #[.pointer (some ⟨p, 0, none⟩)] #[]] w fun e' w' => (∃ v b, gLong (strl s) e a f = .ok (v, b) ∧ b ≤ e ∧ e' = .returned (.tuple #[]) ∧ J v b e w') ∨ (∃ n, gLong (strl s) e a f = .error n ∧ e' = .panicked (flt n) ∧ T w') := by
 obtain ⟨R, hRR⟩ : ∃ R, gLong (strl s) e a f = R := ⟨_, rfl⟩
 rw [hRR]; replace hRR := zh hRR; replace hst := zh hst; replace hT := zh hT; replace hJr := zh hJr; replace hJs := zh hJs; replace hJT := zh hJT; go_enter Tryz.func80, Tryz.ntmps80; go_wp2_with fail; refine (u_any h hs he ha).mono ?_; rintro e' w' ⟨hW, ⟨v, a1, v', hg, ha', ⟨rfl, hv0, hv1⟩, rfl, hR⟩ | ⟨n, hg, rfl⟩⟩
 · obtain ⟨m, rfl⟩ : ∃ m : Nat, v = (m : Int) := ⟨v.toNat, by omega⟩
   have hRb : R = (f (min (a1 + m) e) a1).bind fun r => if r.2 = a1 + m then .ok r else .error 50 := by rw [← hRR.out]; unfold gLong; rw [rd_bind hg, Int.toNat_natCast]
   have c1 := hR.c1; have c2 := hR.c2; obtain ⟨q, hq⟩ : ∃ q : Nat, q = a1 + m := ⟨_, rfl⟩
   rw [← hq] at hRb; have hw1 : IntKind.i64.wrap ((a1 : Int) + (m : Int)) = (q : Int) := (wid64 _ (by omega) (by omega)).trans (by omega); have hq1 : a1 ≤ q := (by omega)
   replace hq := zh hq; replace hg := zh hg; replace hRb := zh hRb
   go_upto_region 1 with (fail)
   go_quiet (fail)
   have hd := hR.drewN nq; have td := hW.drewN nq; obtain ⟨w1, hw1'⟩ : ∃ w1, w1 = w'.drewN nq := ⟨_, rfl⟩
   rw [← hw1'] at hd td ⊢; clear hw1' hR hW c1 c2 hw1 h; have f2 := hd.fr 2; have c2 := hd.c2
   go_upto_region 3 with (fail)
   obtain ⟨e1, he1⟩ : ∃ e1 : Nat, e1 = min q e := ⟨_, rfl⟩
   rw [show min (q : Int) (e : Int) = (e1 : Int) by omega]; have hd2 := hd.set2 (e1 : Int); have td2 := td.set (S := (· = p)) rfl 2 (.int .i64 (e1 : Int)); obtain ⟨w2, hw2'⟩ : ∃ w2, w2 = w1.setCell ⟨p, 2, none⟩ (.int .i64 (e1 : Int)) := ⟨_, rfl⟩
   rw [← hw2'] at hd2 td2 ⊢; clear hw2' hd td f2 c2; have hcl := hst.out a1 e1 w2 td2 hd2 (by omega) (by omega); rw [← he1] at hRb; have hee : e1 ≤ e := (by omega)
   replace he1 := zh he1; replace hcl := zh hcl; go_wp2_with fail; refine hcl.out.mono ?_; rintro e' w3 (⟨v, b, hf, hb, rfl, hJ⟩ | ⟨n, hf, rfl, hT3⟩)
   · obtain ⟨l', cs', hR3⟩ := hJr.out v b e1 w3 hJ
     have hRc : R = if b = q then .ok (v, b) else .error 50 := by rw [hRb.out, rd_bind hf]
     have c1 := hR3.c1; have f2 := hR3.fr 2; have c2 := hR3.c2; replace hf := zh hf; replace hRb := zh hRb
     by_cases hbq : b = q
     · rw [if_pos hbq] at hRc; have hbq' : ((b : Int) == (q : Int)) = true := (by rw [hbq]; simp)
       replace hbq := zh hbq; replace hRc := zh hRc; replace hJ := zh hJ; replace hR3 := zh hR3; go_wp2_with fail; refine (dwant_yes 50 w3).mono ?_; rintro e' w4 ⟨rfl, rfl⟩; go_wp2_with fail; go_end0; exact .inl ⟨v, b, hRc.out, by omega, rfl, hJs.out v b e1 w3 hJ.out⟩
     · rw [if_neg hbq] at hRc; have hbq' : ((b : Int) == (q : Int)) = false := (by rw [beq_eq_false_iff_ne]; omega)
       replace hbq := zh hbq; replace hRc := zh hRc; replace hJ := zh hJ; replace hR3 := zh hR3; go_wp2_with fail; refine (dwant_no 50 w3).mono ?_; rintro e' w4 ⟨rfl, rfl⟩; exact ⟨rfl, .inr ⟨50, hRc.out, rfl, hJT.out v b e1 w3 hJ.out⟩⟩
   · exact ⟨rfl, .inr ⟨n, by rw [hRb.out, rd_err hf], rfl, hT3⟩⟩
 · exact ⟨rfl, .inr ⟨n, by rw [← hRR.out]; unfold gLong; rw [rd_err hg], rfl, hT.out _ hW⟩⟩
end Go.Proofs.YtkbfjkbokifgkaaGreatDoor
