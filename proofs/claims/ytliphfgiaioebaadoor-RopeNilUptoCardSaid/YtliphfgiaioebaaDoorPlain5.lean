/-
  Plain laws: which bytes are one encoding; the seam of two lists of bytes.
-/
import Derived.Test.YtliphfgiaioebaaDoorPlain4
import Derived.Test.YtliphfgiaioebaaDoorOct4
namespace Go.Proofs.YtliphfgiaioebaaDoor
set_option linter.unusedVariables false
set_option linter.unusedSimpArgs false
open Go.RowKit

theorem classOf_2 (x : Int) (h0 : 0 ≤ x) : classOf x = 2 ↔ tl x = true := by
  rw [tl_iff]
  rcases classOf_range x h0 with h | h | h | h | h | h <;> omega
theorem secondOk_sc (a x : Int) (h0 : 1 < needOf a) : (secondOk a x = true ∧ tl x = true) ↔ sc a x = true := by
  have hsc := sc_iff (a := a) (x := x)
  have ht := tl_iff (x := x)
  rw [hsc, ht]
  unfold secondOk leastOf mostOf
  simp only [Bool.and_eq_true, decide_eq_true_eq, h0, if_true]
  by_cases h1 : a = 0xe0
  · subst h1; simp; omega
  by_cases h2 : a = 0xf0
  · subst h2; simp; omega
  by_cases h3 : a = 0xed
  · subst h3; simp; omega
  by_cases h4 : a = 0xf4
  · subst h4; simp; omega
  simp [h1, h2, h3, h4]; omega
theorem needOf_iff (x : Int) (h0 : 0 ≤ x) : needOf x = (if x < 0x80 then 1 else if x < 0xc2 then 0 else if x < 0xe0 then 2 else if x < 0xf0 then 3 else if x < 0xf5 then 4 else 0) := by
  unfold needOf; (repeat' split) <;> omega
theorem wholeB_iff (l : List UInt8) : wholeB l = true ↔ 0 < l.length ∧ encLen l = l.length := by
  have r0 := gb_lo l 0
  have r1 := gb_lo l 1
  have r2 := gb_lo l 2
  have r3 := gb_lo l 3
  by_cases h0 : l.length = 0
  · simp [wholeB, h0]
  have hE : encLen l = enc4 (gb l 0) (gb l 1) (gb l 2) (gb l 3) := by unfold encLen; rw [if_neg h0]
  have hN := needOf_iff (gb l 0) r0
  have key : ∀ n, l.length = n + 1 → (wholeB l = true ↔ needOf (gb l 0) = (n + 1 : Nat) ∧ ∀ i, i < n → okAt l i = true) := fun n hn => by
    unfold wholeB
    rw [hn]; simp
  by_cases h4 : 4 < l.length
  · have := needOf_lo (gb l 0)
    obtain ⟨n, hn⟩ : ∃ n, l.length = n + 1 := ⟨l.length - 1, by omega⟩
    rw [key n hn]
    have h5 := encLen_le4 l
    constructor
    · rintro ⟨h, _⟩; omega
    · rintro ⟨h, h'⟩; omega
  have ok0 : 1 < needOf (gb l 0) → (okAt l 0 = true ↔ sc (gb l 0) (gb l 1) = true) := fun hn => by
    rw [← secondOk_sc _ _ hn]
    simp [okAt, classOf_2 _ r1, and_comm]
  have ok1 : okAt l 1 = true ↔ tl (gb l 2) = true := by simp [okAt, classOf_2 _ r2]
  have ok2 : okAt l 2 = true ↔ tl (gb l 3) = true := by simp [okAt, classOf_2 _ r3]
  rcases (by omega : l.length = 1 ∨ l.length = 2 ∨ l.length = 3 ∨ l.length = 4) with k | k | k | k
  · rw [key 0 k, k, hE, hN]; unfold enc4; constructor
    · rintro ⟨h, _⟩; refine ⟨by omega, ?_⟩; rw [if_pos]; (repeat' split at h) <;> omega
    · rintro ⟨_, h⟩; refine ⟨?_, fun i hi => by omega⟩; (repeat' split at h) <;> simp_all
  · rw [key 1 k, k]
    constructor
    · rintro ⟨h, h2⟩; refine ⟨by omega, ?_⟩
      have := (ok0 (by omega)).1 (h2 0 (by omega))
      rw [hN] at h
      have hx : 0xc2 ≤ gb l 0 ∧ gb l 0 < 0xe0 := by (repeat' split at h) <;> omega
      rw [hE]; unfold enc4; rw [if_neg (by omega), if_neg (by omega), if_pos (by omega), if_pos (sc_tl this)]
    · rintro ⟨_, h⟩
      rcases encLen_cases l with h' | ⟨h', _, r⟩ | ⟨h', _, r1, r2, r3⟩ | ⟨h', _, r1, r2, r3, r4⟩ | ⟨h', _, r1, r2, r3, r4, r5⟩
      · omega
      · omega
      · have hn : needOf (gb l 0) = 2 := by rw [hN, if_neg (by omega), if_neg (by omega), if_pos (by omega)]
        refine ⟨hn, fun i hi => ?_⟩
        obtain rfl : i = 0 := by omega
        rw [ok0 (by omega), sc_iff]; rw [tl_iff] at r3; omega
      · omega
      · omega
  · rw [key 2 k, k]
    constructor
    · rintro ⟨h, h2⟩; refine ⟨by omega, ?_⟩
      have h3 := (ok0 (by omega)).1 (h2 0 (by omega))
      have h4 := ok1.1 (h2 1 (by omega))
      rw [hN] at h
      have hx : 0xe0 ≤ gb l 0 ∧ gb l 0 < 0xf0 := by (repeat' split at h) <;> omega
      rw [hE]; unfold enc4; rw [if_neg (by omega), if_neg (by omega), if_neg (by omega), if_pos (by omega), if_pos (by rw [h3, h4]; rfl)]
    · rintro ⟨_, h⟩
      rcases encLen_cases l with h' | ⟨h', _, r⟩ | ⟨h', _, r1, r2, r3⟩ | ⟨h', _, r1, r2, r3, r4⟩ | ⟨h', _, r1, r2, r3, r4, r5⟩
      · omega
      · omega
      · omega
      · have hn : needOf (gb l 0) = 3 := by rw [hN, if_neg (by omega), if_neg (by omega), if_neg (by omega), if_pos (by omega)]
        refine ⟨hn, fun i hi => ?_⟩
        rcases (by omega : i = 0 ∨ i = 1) with rfl | rfl
        · rw [ok0 (by omega)]; exact r3
        · rw [ok1]; exact r4
      · omega
  · rw [key 3 k, k]
    constructor
    · rintro ⟨h, h2⟩; refine ⟨by omega, ?_⟩
      have h3 := (ok0 (by omega)).1 (h2 0 (by omega))
      have h4 := ok1.1 (h2 1 (by omega))
      have h5 := ok2.1 (h2 2 (by omega))
      rw [hN] at h
      have hx : 0xf0 ≤ gb l 0 ∧ gb l 0 < 0xf5 := by (repeat' split at h) <;> omega
      rw [hE]; unfold enc4; rw [if_neg (by omega), if_neg (by omega), if_neg (by omega), if_neg (by omega), if_pos (by omega), if_pos (by rw [h3, h4, h5]; rfl)]
    · rintro ⟨_, h⟩
      rcases encLen_cases l with h' | ⟨h', _, r⟩ | ⟨h', _, r1, r2, r3⟩ | ⟨h', _, r1, r2, r3, r4⟩ | ⟨h', _, r1, r2, r3, r4, r5⟩
      · omega
      · omega
      · omega
      · omega
      · have hn : needOf (gb l 0) = 4 := by rw [hN, if_neg (by omega), if_neg (by omega), if_neg (by omega), if_neg (by omega), if_pos (by omega)]
        refine ⟨hn, fun i hi => ?_⟩
        rcases (by omega : i = 0 ∨ i = 1 ∨ i = 2) with rfl | rfl | rfl
        · rw [ok0 (by omega)]; exact r3
        · rw [ok1]; exact r4
        · rw [ok2]; exact r5
theorem valueOf_rune {l : List UInt8} (h : wholeB l = true) : valueOf l = runeOf l := by
  unfold valueOf; rw [if_pos h]
  have h' := (wholeB_iff l).1 h
  have h4 := encLen_le4 l
  have e := h'.2
  have r0 := gb_lo l 0; have r0' := gb_hi l 0
  rcases encLen_cases l with k | ⟨k, _, r⟩ | ⟨k, _, r1, r2, r3⟩ | ⟨k, _, r1, r2, r3, r4⟩ | ⟨k, _, r1, r2, r3, r4, r5⟩
  · omega
  · rw [runeOf_1 k, show l.length - 1 = 0 from by omega]; unfold runeK; rw [show l.length = 1 from by omega]; show gb l 0 % (127 + 1) = _; omega
  · rw [runeOf_2 k, show l.length - 1 = 1 from by omega]; unfold runeK; unfold runeK; rw [show l.length = 2 from by omega]; rfl
  · rw [runeOf_3 k, show l.length - 1 = 2 from by omega]; unfold runeK; unfold runeK; unfold runeK; rw [show l.length = 3 from by omega]; rfl
  · rw [runeOf_4 k, show l.length - 1 = 3 from by omega]; unfold runeK; unfold runeK; unfold runeK; unfold runeK; rw [show l.length = 4 from by omega]; rfl
theorem valueOf_neg {l : List UInt8} (h : wholeB l = false) : valueOf l = -1 := by unfold valueOf; rw [h]; rfl
theorem valueOf_ge (l : List UInt8) : 0 ≤ valueOf l ↔ wholeB l = true := by
  cases h : wholeB l
  · rw [valueOf_neg h]; simp
  · rw [valueOf_rune h]; simp [(runeOf_r l).1]

/-! ### the seam -/
/-- the bytes at the seam: k of a, j of b -/
def seamL (a b : List UInt8) (k j : Nat) : List UInt8 := a.drop (a.length - k) ++ b.take j
theorem seamL_len (a b : List UInt8) (k j : Nat) (hk : k ≤ a.length) (hj : j ≤ b.length) : (seamL a b k j).length = k + j := by
  unfold seamL; rw [List.length_append, List.length_drop, List.length_take]; omega
theorem seamL_whole (a b : List UInt8) (k j : Nat) (hk0 : 0 < k) (hk : k ≤ a.length) (hj : j ≤ b.length) : wholeB (seamL a b k j) = true ↔ eL (a ++ b) (a.length - k) = k + j := by
  rw [wholeB_iff, seamL_len a b k j hk hj]
  have e : (a ++ b).drop (a.length - k) = seamL a b k j ++ b.drop j := by
    unfold seamL; rw [drop_left a b _ (by omega), List.append_assoc, List.take_append_drop]
  unfold eL; rw [e]
  have hl := seamL_len a b k j hk hj
  constructor
  · rintro ⟨_, h⟩; rw [(encLen_append (by omega)).1]; exact h
  · intro h; refine ⟨by omega, ?_⟩; rw [(encLen_append' (b := b.drop j) (by omega)).1]; exact h
theorem seamL_rune (a b : List UInt8) (k j : Nat) (hk0 : 0 < k) (hk : k ≤ a.length) (hj : j ≤ b.length) (h : wholeB (seamL a b k j) = true) : valueOf (seamL a b k j) = runeOf ((a ++ b).drop (a.length - k)) := by
  rw [valueOf_rune h]
  have e : (a ++ b).drop (a.length - k) = seamL a b k j ++ b.drop j := by
    unfold seamL; rw [drop_left a b _ (by omega), List.append_assoc, List.take_append_drop]
  rw [e, (encLen_append (by have := ((wholeB_iff _).1 h); omega)).2]

/-- one try of seam -/
def seamStep (a b : List UInt8) (k j : Nat) (s : Int × Int) : Int × Int := if 0 ≤ valueOf (seamL a b k j) then ((k : Int) + j - 1, (k : Int) + j - unitsOf (valueOf (seamL a b k j))) else s
/-- the tries with k, up to j of them -/
def seamIn (a b : List UInt8) (k : Nat) (s : Int × Int) : Nat → Int × Int
  | 0 => s
  | j + 1 => seamStep a b k (j + 1) (seamIn a b k s j)
def seamOut (a b : List UInt8) (m : Nat) : Nat → Int × Int
  | 0 => (0, 0)
  | k + 1 => seamIn a b (k + 1) (seamOut a b m k) m
def seamOf (a b : List UInt8) : Int × Int := seamOut a b (min 3 b.length) (min 3 a.length)
theorem seamIn_none {a b : List UInt8} {k : Nat} {s : Int × Int} : ∀ m, (∀ j, 0 < j → j ≤ m → wholeB (seamL a b k j) = false) → seamIn a b k s m = s
  | 0, _ => rfl
  | m + 1, h => by
    unfold seamIn seamStep
    rw [if_neg (by rw [valueOf_neg (h (m + 1) (by omega) (by omega))]; omega)]
    exact seamIn_none m fun j h1 h2 => h j h1 (by omega)
theorem seamIn_one {a b : List UInt8} {k j : Nat} {s : Int × Int} (h0 : 0 < j) (h1 : wholeB (seamL a b k j) = true) : ∀ m, j ≤ m → (∀ i, 0 < i → i ≤ m → i ≠ j → wholeB (seamL a b k i) = false) →
    seamIn a b k s m = ((k : Int) + j - 1, (k : Int) + j - unitsOf (valueOf (seamL a b k j)))
  | 0, h, _ => by omega
  | m + 1, h, hu => by
    unfold seamIn seamStep
    by_cases e : m + 1 = j
    · subst e; rw [if_pos ((valueOf_ge _).2 h1)]
    · rw [if_neg (by rw [valueOf_neg (hu (m + 1) (by omega) (by omega) e)]; omega)]
      exact seamIn_one h0 h1 m (by omega) fun i h1 h2 h3 => hu i h1 (by omega) h3
theorem seamOut_none {a b : List UInt8} {m : Nat} : ∀ n, (∀ k, 0 < k → k ≤ n → ∀ j, 0 < j → j ≤ m → wholeB (seamL a b k j) = false) → seamOut a b m n = (0, 0)
  | 0, _ => rfl
  | n + 1, h => by
    unfold seamOut
    rw [seamIn_none m (h (n + 1) (by omega) (by omega))]
    exact seamOut_none n fun k h1 h2 => h k h1 (by omega)
theorem seamOut_one {a b : List UInt8} {m k j : Nat} (hk0 : 0 < k) (hj0 : 0 < j) (hj : j ≤ m) (h1 : wholeB (seamL a b k j) = true) : ∀ n, k ≤ n → (∀ k', 0 < k' → k' ≤ n → ∀ i, 0 < i → i ≤ m → (k' ≠ k ∨ i ≠ j) → wholeB (seamL a b k' i) = false) →
    seamOut a b m n = ((k : Int) + j - 1, (k : Int) + j - unitsOf (valueOf (seamL a b k j)))
  | 0, h, _ => by omega
  | n + 1, h, hu => by
    unfold seamOut
    by_cases e : n + 1 = k
    · subst e; exact seamIn_one hj0 h1 m hj fun i h2 h3 h4 => hu (n + 1) (by omega) (by omega) i h2 h3 (.inr h4)
    · rw [seamIn_none m fun i h2 h3 => hu (n + 1) (by omega) (by omega) i h2 h3 (.inl e)]
      exact seamOut_one hk0 hj0 hj h1 n (by omega) fun k' h2 h3 i h4 h5 h6 => hu k' h2 (by omega) i h4 h5 h6
theorem join_runes (a b : List UInt8) : runesN (a ++ b) = runesN a + runesN b - (seamOf a b).1 ∧ unitsN (a ++ b) = unitsN a + unitsN b - (seamOf a b).2 := by
  unfold seamOf
  by_cases hc : noCross a b
  · obtain ⟨h1, h2⟩ := runes_noCross hc
    rw [seamOut_none, h1, h2]
    · simp
    · intro k h3 h4 j h5 h6
      rw [← Bool.not_eq_true, seamL_whole a b k j h3 (by omega) (by omega)]
      intro h7
      have := hc (a.length - k) (by omega)
      omega
  · unfold noCross at hc
    obtain ⟨q, hc⟩ := Classical.not_forall.1 hc
    obtain ⟨hq, hc⟩ := Classical.not_imp.1 hc
    have h4 := eL_le4 (a ++ b) q
    obtain ⟨k, hk⟩ : ∃ k, a.length = q + k := ⟨a.length - q, by omega⟩
    obtain ⟨j, hj⟩ : ∃ j, eL (a ++ b) q = k + j := ⟨eL (a ++ b) q - k, by omega⟩
    have hq' : q = a.length - k := by omega
    have hjb : j ≤ b.length := by have := eL_le (a ++ b) q; rw [List.length_append] at this; omega
    subst hq'
    have hw := (seamL_whole a b k j (by omega) (by omega) hjb).2 hj
    obtain ⟨h1, h2⟩ := runes_cross (a := a) (b := b) (k := k) (j := j) (by omega) (by omega) (by omega) hj
    rw [seamOut_one (k := k) (j := j) (by omega) (by omega) (by omega) hw _ (by omega), h1, h2, seamL_rune a b k j (by omega) (by omega) hjb hw]
    · exact ⟨rfl, rfl⟩
    · intro k' h5 h6 i h7 h8 h9
      rw [← Bool.not_eq_true, seamL_whole a b k' i h5 (by omega) (by omega)]
      intro h10
      have := eL_one (l := a ++ b) (p := a.length) (q := a.length - k') (p' := a.length - k) (by omega) (by omega) (by omega) (by omega)
      have hkk : k' = k := by omega
      subst hkk
      omega
end Go.Proofs.YtliphfgiaioebaaDoor
