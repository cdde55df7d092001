/-
  Plain laws: the sizes of two lists of bytes put together.
-/
import Derived.Test.YtliphfgiaioebaaDoorPlain3
namespace Go.Proofs.YtliphfgiaioebaaDoor
set_option linter.unusedVariables false
set_option linter.unusedSimpArgs false
open Go.RowKit

theorem enc4_det {a b c d a' b' c' d' : Int} (h0 : enc4 a b c d ≠ 0) (ha : a = a') (hb : 1 < enc4 a b c d → b = b') (hc : 2 < enc4 a b c d → c = c') (hd : 3 < enc4 a b c d → d = d') :
    enc4 a' b' c' d' = enc4 a b c d := by
  subst ha
  rcases enc4_cases a b c d with h | ⟨h, r⟩ | ⟨h, r1, r2, r3⟩ | ⟨h, r1, r2, r3, r4⟩ | ⟨h, r1, r2, r3, r4, r5⟩
  · exact absurd h h0
  · rw [h]; unfold enc4; rw [if_pos r]
  · obtain rfl := hb (by omega)
    rw [h]; unfold enc4; rw [if_neg (by omega), if_neg (by omega), if_pos (by omega), if_pos r3]
  · obtain rfl := hb (by omega); obtain rfl := hc (by omega)
    rw [h]; unfold enc4; rw [if_neg (by omega), if_neg (by omega), if_neg (by omega), if_pos (by omega), if_pos (by rw [r3, r4]; rfl)]
  · obtain rfl := hb (by omega); obtain rfl := hc (by omega); obtain rfl := hd (by omega)
    rfl
/-- an encoding hangs on its own bytes alone -/
theorem encLen_det {l m : List UInt8} (h0 : encLen l ≠ 0) (h : ∀ i, i < encLen l → gb l i = gb m i) (hm : encLen l ≤ m.length) : encLen m = encLen l ∧ runeOf m = runeOf l := by
  have hl : l.length ≠ 0 := by have := encLen_le l; omega
  have e : encLen l = enc4 (gb l 0) (gb l 1) (gb l 2) (gb l 3) := by unfold encLen; rw [if_neg hl]
  have e' : encLen m = enc4 (gb m 0) (gb m 1) (gb m 2) (gb m 3) := by unfold encLen; rw [if_neg (by omega)]
  have hE : encLen m = encLen l := by
    rw [e']; rw [e] at h h0 ⊢
    exact enc4_det h0 (h 0 (by omega)) (fun hx => h 1 hx) (fun hx => h 2 hx) (fun hx => h 3 hx)
  refine ⟨hE, ?_⟩
  have h4 := encLen_le4 l
  rcases (by omega : encLen l = 1 ∨ encLen l = 2 ∨ encLen l = 3 ∨ encLen l = 4) with k | k | k | k
  · rw [runeOf_1 k, runeOf_1 (hE.trans k), h 0 (by omega)]
  · rw [runeOf_2 k, runeOf_2 (hE.trans k), h 0 (by omega), h 1 (by omega)]
  · rw [runeOf_3 k, runeOf_3 (hE.trans k), h 0 (by omega), h 1 (by omega), h 2 (by omega)]
  · rw [runeOf_4 k, runeOf_4 (hE.trans k), h 0 (by omega), h 1 (by omega), h 2 (by omega), h 3 (by omega)]
theorem gb_append_left (a b : List UInt8) (i : Nat) (h : i < a.length) : gb (a ++ b) i = gb a i := by
  unfold gb; rw [List.getD_eq_getElem?_getD, List.getD_eq_getElem?_getD, List.getElem?_append_left h]
theorem gb_append_right (a b : List UInt8) (i : Nat) : gb (a ++ b) (a.length + i) = gb b i := by
  unfold gb; rw [List.getD_eq_getElem?_getD, List.getD_eq_getElem?_getD, List.getElem?_append_right (by omega)]; congr 4; omega
/-- an encoding at the beginning, with and without what follows -/
theorem encLen_append {a b : List UInt8} (h : encLen a ≠ 0) : encLen (a ++ b) = encLen a ∧ runeOf (a ++ b) = runeOf a :=
  encLen_det h (fun i hi => (gb_append_left a b i (by have := encLen_le a; omega)).symm) (by have := encLen_le a; rw [List.length_append]; omega)
theorem encLen_append' {a b : List UInt8} (h : encLen (a ++ b) ≤ a.length) : encLen a = encLen (a ++ b) ∧ runeOf a = runeOf (a ++ b) := by
  by_cases h0 : encLen (a ++ b) = 0
  · have ha : encLen a = 0 := by
      apply Classical.byContradiction; intro hn
      have := (encLen_append (b := b) hn).1; omega
    rw [ha, h0, runeOf_0 ha, runeOf_0 h0]; exact ⟨rfl, rfl⟩
  · exact encLen_det h0 (fun i hi => gb_append_left a b i (by omega)) h
theorem drop_left (a b : List UInt8) (q : Nat) (h : q ≤ a.length) : (a ++ b).drop q = a.drop q ++ b := by
  rw [List.drop_append, show q - a.length = 0 from by omega, List.drop_zero]
theorem drop_right (a b : List UInt8) (q : Nat) : (a ++ b).drop (a.length + q) = b.drop q := by
  rw [List.drop_append, List.drop_eq_nil_of_le (by omega), show a.length + q - a.length = q from by omega]; rfl
theorem eL_left {a b : List UInt8} {q : Nat} (hq : q ≤ a.length) (h : q + eL (a ++ b) q ≤ a.length) : eL a q = eL (a ++ b) q ∧ runeOf (a.drop q) = runeOf ((a ++ b).drop q) := by
  unfold eL at h ⊢
  rw [drop_left a b q hq] at h ⊢
  exact encLen_append' (by rw [List.length_drop]; omega)
theorem eL_left0 {a b : List UInt8} {q : Nat} (hq : q ≤ a.length) (h : a.length < q + eL (a ++ b) q) : eL a q = 0 := by
  apply Classical.byContradiction; intro hn
  have := eL_le a q
  unfold eL at *
  rw [drop_left a b q hq, (encLen_append hn).1] at h
  omega
theorem eL_leftn {a b : List UInt8} {q : Nat} (hq : q ≤ a.length) (h : eL a q ≠ 0) : eL (a ++ b) q = eL a q := by
  unfold eL at *
  rw [drop_left a b q hq, (encLen_append h).1]
theorem eL_right (a b : List UInt8) (q : Nat) : eL (a ++ b) (a.length + q) = eL b q := by unfold eL; rw [drop_right]

theorem edge_left {a b : List UInt8} {p : Nat} (hp : p ≤ a.length) (h : ∀ q, q < p → q + eL (a ++ b) q ≤ a.length) : edgeB (a ++ b) p = edgeB a p := by
  rw [Bool.eq_iff_iff, edgeB_iff, edgeB_iff]
  constructor
  · intro H q hq; rw [(eL_left (by omega) (h q hq)).1]; exact H q hq
  · intro H q hq; rw [← (eL_left (by omega) (h q hq)).1]; exact H q hq
theorem edge_right {a b : List UInt8} {i : Nat} (h : ∀ q, q < a.length → q + eL (a ++ b) q ≤ a.length + i) : edgeB (a ++ b) (a.length + i) = edgeB b i := by
  rw [Bool.eq_iff_iff, edgeB_iff, edgeB_iff]
  constructor
  · intro H q hq; have := H (a.length + q) (by omega); rw [eL_right] at this; omega
  · intro H q hq
    by_cases h1 : q < a.length
    · exact h q h1
    · obtain ⟨r, rfl⟩ : ∃ r, q = a.length + r := ⟨q - a.length, by omega⟩
      rw [eL_right]; have := H r (by omega); omega

/-- no encoding goes over the seam -/
def noCross (a b : List UInt8) : Prop := ∀ q, q < a.length → q + eL (a ++ b) q ≤ a.length
theorem runes_noCross {a b : List UInt8} (h : noCross a b) : runesN (a ++ b) = runesN a + runesN b ∧ unitsN (a ++ b) = unitsN a + unitsN b := by
  unfold runesN unitsN
  rw [List.length_append, sm_add, sm_add]
  have h1 : ∀ p, p < a.length → edgeB (a ++ b) p = edgeB a p := fun p hp => edge_left (by omega) (fun q hq => h q (by omega))
  have h2 : ∀ p, edgeB (a ++ b) (a.length + p) = edgeB b p := fun p => edge_right (fun q hq => by have := h q hq; omega)
  rw [sm_congr (f := runesAt (a ++ b)) (g := runesAt a) (n := a.length) (fun i hi => by simp only [runesAt, h1 i hi]),
    sm_congr (f := fun i => runesAt (a ++ b) (a.length + i)) (g := runesAt b) (n := b.length) (fun i hi => by simp only [runesAt, h2 i]),
    sm_congr (f := unitsAt (a ++ b)) (g := unitsAt a) (n := a.length) (fun i hi => by simp only [unitsAt, h1 i hi, (eL_left (by omega) (h i hi)).2]),
    sm_congr (f := fun i => unitsAt (a ++ b) (a.length + i)) (g := unitsAt b) (n := b.length) (fun i hi => by simp only [unitsAt, h2 i, drop_right])]
  exact ⟨rfl, rfl⟩
theorem units_fffd {l : List UInt8} {p : Nat} (h : eL l p = 0) : unitsOf (runeOf (l.drop p)) = 1 := by
  rw [runeOf_0 h]; rfl
/-- an encoding goes over the seam: k bytes of it ahead, j behind -/
theorem runes_cross {a b : List UInt8} {k j : Nat} (hk : 0 < k) (hka : k ≤ a.length) (hj : 0 < j) (h : eL (a ++ b) (a.length - k) = k + j) :
    runesN (a ++ b) = runesN a + runesN b - (k + j - 1) ∧ unitsN (a ++ b) = unitsN a + unitsN b - (k + j - unitsOf (runeOf ((a ++ b).drop (a.length - k)))) := by
  obtain ⟨q, hq⟩ : ∃ q, a.length = q + k := ⟨a.length - k, by omega⟩
  rw [show a.length - k = q from by omega] at h ⊢
  have hjb : j ≤ b.length := by have := eL_le (a ++ b) q; rw [List.length_append] at this; omega
  obtain ⟨r, hr⟩ : ∃ r, b.length = j + r := ⟨b.length - j, by omega⟩
  have huniq : ∀ p, p < a.length → p ≠ q → p + eL (a ++ b) p ≤ a.length := fun p hp hne => by
    apply Classical.byContradiction; intro hn
    exact hne (eL_one (l := a ++ b) (p := a.length) (q := p) (p' := q) hp (by omega) (by omega) (by omega))
  have hcov : ∀ p, p < q → p + eL (a ++ b) p ≤ q := fun p hp => by
    apply Classical.byContradiction; intro hn
    have := eL_in (l := a ++ b) (q := p) (p := q) hp (by omega); omega
  -- ahead of it
  have h1 : ∀ p, p < q → edgeB (a ++ b) p = edgeB a p := fun p hp => edge_left (by omega) (fun p' hp' => huniq p' (by omega) (by omega))
  have h1r : ∀ p, p < q → runeOf (a.drop p) = runeOf ((a ++ b).drop p) := fun p hp => (eL_left (by omega) (huniq p (by omega) (by omega))).2
  -- it
  have h2 : edgeB (a ++ b) q = true := (edgeB_iff _ _).2 hcov
  have h2' : ∀ i, 0 < i → i < k + j → edgeB (a ++ b) (q + i) = false := fun i hi hi2 =>
    edge_mid hi (by show i < stepW ((a ++ b).drop q); unfold stepW; unfold eL at h; rw [h]; split <;> omega)
  -- in a: edges, each a step of its own
  have ha0 : ∀ i, i < k → eL a (q + i) = 0 := fun i hi => by
    by_cases h0 : i = 0
    · subst h0; exact eL_left0 (b := b) (by omega) (by rw [Nat.add_zero, h]; omega)
    · apply Classical.byContradiction; intro hn
      have := eL_leftn (b := b) (by omega) hn
      have := eL_in (l := a ++ b) (q := q) (p := q + i) (by omega) (by omega); omega
  have ha : ∀ i, i < k → edgeB a (q + i) = true := fun i hi => by
    rw [edgeB_iff]; intro p hp
    by_cases hpq : p < q
    · rw [(eL_left (by omega) (huniq p (by omega) (by omega))).1]; have := hcov p hpq; omega
    · have := ha0 (p - q) (by omega); rw [show q + (p - q) = p from by omega] at this; omega
  -- in b
  have hb0 : ∀ i, i < j → eL b i = 0 := fun i hi => by
    have := eL_in (l := a ++ b) (q := q) (p := a.length + i) (by omega) (by omega)
    rwa [eL_right] at this
  have hb : ∀ i, i < j → edgeB b i = true := fun i hi => by
    rw [edgeB_iff]; intro p hp; have := hb0 p (by omega); omega
  have h3 : ∀ i, j ≤ i → edgeB (a ++ b) (a.length + i) = edgeB b i := fun i hi => edge_right (fun p hp => by
    by_cases hpq : p = q
    · subst hpq; omega
    · have := huniq p hp hpq; omega)
  unfold runesN unitsN
  rw [List.length_append]
  have hlen : a.length + b.length = q + ((k + j) + r) := by omega
  rw [hlen, hq, hr]
  simp only [sm_add]
  have hkj : ∀ f : Nat → Int, sm (fun i => f (q + i)) k + sm (fun i => f (q + (k + i))) j = sm (fun i => f (q + i)) (k + j) := fun f => (sm_add (fun i => f (q + i)) k j).symm
  rw [hkj, hkj]
  rw [sm_congr (f := runesAt (a ++ b)) (g := runesAt a) (n := q) (fun i hi => by simp only [runesAt, h1 i hi]),
    sm_congr (f := unitsAt (a ++ b)) (g := unitsAt a) (n := q) (fun i hi => by simp only [unitsAt, h1 i hi, h1r i hi]),
    sm_first (f := fun i => runesAt (a ++ b) (q + i)) (n := k + j) (by omega) (fun i hi hi2 => by simp only [runesAt, h2' i hi hi2]; rfl),
    sm_first (f := fun i => unitsAt (a ++ b) (q + i)) (n := k + j) (by omega) (fun i hi hi2 => by simp only [unitsAt, h2' i hi hi2]; rfl),
    sm_const (f := fun i => runesAt a (q + i)) (n := k) (c := 1) (fun i hi => by simp only [runesAt, ha i hi]; rfl),
    sm_const (f := fun i => unitsAt a (q + i)) (n := k) (c := 1) (fun i hi => by simp only [unitsAt, ha i hi, units_fffd (ha0 i hi)]; rfl),
    sm_const (f := runesAt b) (n := j) (c := 1) (fun i hi => by simp only [runesAt, hb i hi]; rfl),
    sm_const (f := unitsAt b) (n := j) (c := 1) (fun i hi => by simp only [unitsAt, hb i hi, units_fffd (hb0 i hi)]; rfl),
    sm_congr (f := fun i => runesAt (a ++ b) (q + (k + j + i))) (g := fun i => runesAt b (j + i)) (n := r) (fun i hi => by simp only [runesAt]; rw [show q + (k + j + i) = a.length + (j + i) from by omega, h3 _ (by omega)]),
    sm_congr (f := fun i => unitsAt (a ++ b) (q + (k + j + i))) (g := fun i => unitsAt b (j + i)) (n := r) (fun i hi => by simp only [unitsAt]; rw [show q + (k + j + i) = a.length + (j + i) from by omega, h3 _ (by omega), drop_right])]
  have hu : unitsAt (a ++ b) (q + 0) = unitsOf (runeOf ((a ++ b).drop q)) := by simp only [unitsAt, Nat.add_zero, h2, if_true]
  have hr1 : runesAt (a ++ b) (q + 0) = 1 := by simp only [runesAt, Nat.add_zero, h2, if_true]
  rw [hu, hr1]
  constructor <;> omega
/-- the ends -/
def seamE (a b : List UInt8) : Int := if 0 < a.length ∧ gb a (a.length - 1) = 13 ∧ 0 < b.length ∧ gb b 0 = 10 then 1 else 0
theorem ends_append (a b : List UInt8) : endsN (a ++ b) = endsN a + endsN b - seamE a b := by
  unfold endsN
  rw [List.length_append, sm_add]
  rw [sm_congr (f := endsAt (a ++ b)) (g := endsAt a) (n := a.length) (fun i hi => by
    simp only [endsAt]; rw [gb_append_left a b i hi, gb_append_left a b (i - 1) (by omega)])]
  by_cases hb : b.length = 0
  · obtain rfl : b = [] := List.eq_nil_of_length_eq_zero hb
    simp [sm, seamE]
  · obtain ⟨r, hr⟩ : ∃ r, b.length = 1 + r := ⟨b.length - 1, by omega⟩
    rw [hr, sm_add, sm_add]
    rw [sm_congr (f := fun i => endsAt (a ++ b) (a.length + (1 + i))) (g := fun i => endsAt b (1 + i)) (n := r) (fun i hi => by
      simp only [endsAt]
      rw [gb_append_right, show a.length + (1 + i) - 1 = a.length + (1 + i - 1) from by omega, gb_append_right]
      have h1 : 0 < a.length + (1 + i) := by omega
      have h2 : 0 < 1 + i := by omega
      simp only [h1, h2])]
    have e1 : sm (fun i => endsAt (a ++ b) (a.length + i)) 1 = endsAt (a ++ b) a.length := by simp [sm]
    have e2 : sm (endsAt b) 1 = endsAt b 0 := by simp [sm]
    rw [e1, e2]
    have g0 : gb (a ++ b) a.length = gb b 0 := gb_append_right a b 0
    unfold endsAt seamE
    rw [g0]
    by_cases ha : a.length = 0
    · obtain rfl : a = [] := List.eq_nil_of_length_eq_zero ha
      simp
    · rw [gb_append_left a b (a.length - 1) (by omega)]
      by_cases x1 : gb b 0 = 13
      · simp [x1]
      · by_cases x2 : gb b 0 = 10
        · by_cases x3 : gb a (a.length - 1) = 13
          · simp [x2, x3, hr, Nat.pos_of_ne_zero ha]; omega
          · simp [x2, x3]
        · simp [x1, x2]
end Go.Proofs.YtliphfgiaioebaaDoor
