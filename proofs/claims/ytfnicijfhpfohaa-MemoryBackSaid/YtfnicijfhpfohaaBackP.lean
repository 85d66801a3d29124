/- Plain facts for MemoryBack. -/
import Derived.Test.YtfnicijfhpfohaaP2
namespace Go.Proofs.Ytfnicijfhpfohaa

theorem get_load (l : List Nat) (a n g : Nat) (h : ∀ t, t < n → l[a + t]? = some (g / 256 ^ t % 256)) (hs : isSized n = true) (hb : a + n ≤ l.length) : loadOut l a n = g % 256 ^ n := by
  unfold loadOut
  rw [if_pos (inB_true hs (by omega)), Int.toNat_natCast]
  have e : (l.drop a).take n = bytesOf g n := by
    apply List.ext_getElem?
    intro i
    rw [List.getElem?_take]
    by_cases hi : i < n
    · rw [if_pos hi, List.getElem?_drop, h i hi, bytesOf_getElem g n i hi]
    · rw [if_neg hi, List.getElem?_eq_none (by rw [bytesOf_length]; omega)]
  rw [e, numOf_bytesOf]

/-- From K on lie n bytes of g, over and over. -/
structure Filled (l : List Nat) (K g n : Nat) : Prop where
  len : l.length = 65536
  get : ∀ t, t < n → l[K + t]? = some (g / 256 ^ (t % 8) % 256)

theorem store_get (l : List Nat) (a n v i : Nat) (hs : isSized n = true) (hb : a + n ≤ l.length) :
    (storeOut l a n v)[i]? = if i < a then l[i]? else if i < a + n then some (v / 256 ^ (i - a) % 256) else l[i]? := by
  unfold storeOut
  rw [if_pos (inB_true hs (by omega)), Int.toNat_natCast, putAt_get _ _ _ (by rw [bytesOf_length]; omega), bytesOf_length]
  by_cases h1 : i < a
  · rw [if_pos h1, if_pos h1]
  · rw [if_neg h1, if_neg h1]
    by_cases h2 : i < a + n
    · rw [if_pos h2, if_pos h2, bytesOf_getElem _ _ _ (by omega)]
    · rw [if_neg h2, if_neg h2]

theorem filled_step (l : List Nat) (K g j : Nat) (h : Filled l K g (8 * j)) (hb : K + 8 * j + 8 ≤ 65536) : Filled (storeOut l (K + 8 * j) 8 g) K g (8 * (j + 1)) := by
  refine ⟨by rw [storeOut_length]; exact h.len, fun t ht => ?_⟩
  have e := store_get l (K + 8 * j) 8 g (K + t) rfl (by rw [h.len]; omega)
  have e' : (storeOut l (K + 8 * j) 8 g)[K + t]? = (storeOut l (K + 8 * j) ((8 : Nat) : Int) g)[K + t]? := rfl
  rw [e', e]
  by_cases h1 : t < 8 * j
  · rw [if_pos (by omega)]
    exact h.get t h1
  · rw [if_neg (by omega), if_pos (by omega)]
    have : K + t - (K + 8 * j) = t % 8 := by omega
    rw [this]

theorem back_before (l : List Nat) (K g : Nat) (h : Filled l K g 32) (hK : K < 65000) (hg : g < 18446744073709551616) : loadOut l K 8 = g := by
  have := get_load l K 8 g (fun t ht => by rw [h.get t (by omega), Nat.mod_eq_of_lt ht]) rfl (by rw [h.len]; omega)
  rw [Nat.mod_eq_of_lt (by omega)] at this
  exact this

theorem back_after (l : List Nat) (K g n v : Nat) (h : Filled l K g 32) (hK : K < 65000) (hg : g < 18446744073709551616) (hs : isSized n = true) :
    loadOut (storeOut l (K + 8) n v) K 8 = g ∧ loadOut (storeOut l (K + 8) n v) (K + 8) n = v % 256 ^ n ∧ loadOut (storeOut l (K + 8) n v) (K + 8 + n) 1 = g / 256 ^ (n % 8) % 256 := by
  have hn := sized_le n hs
  have hl := h.len
  refine ⟨?_, load_store l (K + 8) n v (inB_true hs (by omega)), ?_⟩
  · have := get_load (storeOut l (K + 8) n v) K 8 g (fun t ht => by rw [store_get _ _ _ _ _ hs (by omega), if_pos (by omega), h.get t (by omega), Nat.mod_eq_of_lt ht]) rfl (by rw [storeOut_length]; omega)
    rw [Nat.mod_eq_of_lt (by omega)] at this
    exact this
  · have := get_load (storeOut l (K + 8) n v) (K + 8 + n) 1 (g / 256 ^ (n % 8)) (fun t ht => by
      obtain rfl : t = 0 := by omega
      rw [show K + 8 + n + 0 = K + 8 + n from rfl, store_get _ _ _ _ _ hs (by omega), if_neg (by omega), if_neg (by omega), show K + 8 + n = K + (8 + n) from by omega, h.get (8 + n) (by omega)]
      simp) rfl (by rw [storeOut_length]; omega)
    rw [Nat.pow_one] at this
    exact this

theorem back_none (l : List Nat) (a : Nat) (n : Int) (v : Nat) (hs : isSized n = false) : storeOut l a n v = l ∧ loadOut l a n = 0 := by
  have : inB l.length a n = false := by simp [inB, hs]
  exact ⟨by unfold storeOut; rw [this]; simp, load_out _ _ _ this⟩
end Go.Proofs.Ytfnicijfhpfohaa
