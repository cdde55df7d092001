/-
  Plain laws: edges of lists of bytes; the sizes as sums over places.
  Plain laws: the sizes of two lists of bytes put together.
  Package octet: second, Second, Whole and Value.
  Package octet: Whole and Value.
  Package octet: Value.
  Plain laws: which bytes are one encoding; the seam of two lists of bytes.
  Plain laws for the steps of a region that draws its order: each operation taken by hand, behind an opaque post.
-/
import Derived.Test.YtliphfgiaioebaaDoorB01
import Derived.OrdersHeld
namespace Go.Proofs.YtliphfgiaioebaaDoor
set_option linter.unusedVariables false
set_option linter.unusedSimpArgs false
open Go.RowKit

/-! ### sums -/
def sm (f : Nat → Int) : Nat → Int
  | 0 => 0
  | n + 1 => sm f n + f n
theorem sm_congr {f g : Nat → Int} {n : Nat} (h : ∀ i, i < n → f i = g i) : sm f n = sm g n := by
  induction n with
  | zero => rfl
  | succ n ih => simp only [sm]; rw [ih fun i hi => h i (by omega), h n (by omega)]
theorem sm_add (f : Nat → Int) (m n : Nat) : sm f (m + n) = sm f m + sm (fun i => f (m + i)) n := by
  induction n with
  | zero => simp [sm]
  | succ n ih => rw [← Nat.add_assoc]; simp only [sm]; rw [ih]; omega
theorem sm_zero {f : Nat → Int} {n : Nat} (h : ∀ i, i < n → f i = 0) : sm f n = 0 := by
  induction n with
  | zero => rfl
  | succ n ih => simp only [sm]; rw [ih fun i hi => h i (by omega), h n (by omega)]; omega
theorem sm_const {f : Nat → Int} {n : Nat} {c : Int} (h : ∀ i, i < n → f i = c) : sm f n = n * c := by
  induction n with
  | zero => simp [sm]
  | succ n ih => simp only [sm]; rw [ih fun i hi => h i (by omega), h n (by omega)]; rw [Int.natCast_succ, Int.add_mul]; omega
theorem sm_first {f : Nat → Int} {n : Nat} (hn : 0 < n) (h : ∀ i, 0 < i → i < n → f i = 0) : sm f n = f 0 := by
  obtain ⟨m, rfl⟩ : ∃ m, n = 1 + m := ⟨n - 1, by omega⟩
  rw [sm_add, sm_zero (n := m) (fun i hi => h (1 + i) (by omega) (by omega))]
  simp [sm]
theorem sm_bounds {f : Nat → Int} {n : Nat} {a b : Int} (h : ∀ i, i < n → a ≤ f i ∧ f i ≤ b) : n * a ≤ sm f n ∧ sm f n ≤ n * b := by
  induction n with
  | zero => simp [sm]
  | succ n ih =>
    have h1 := ih fun i hi => h i (by omega)
    have h2 := h n (by omega)
    simp only [sm]; rw [Int.natCast_succ, Int.add_mul, Int.add_mul]; omega
theorem sm_le {f g : Nat → Int} {n : Nat} (h : ∀ i, i < n → f i ≤ g i) : sm f n ≤ sm g n := by
  induction n with
  | zero => simp [sm]
  | succ n ih =>
    have h1 := ih fun i hi => h i (by omega)
    have h2 := h n (by omega)
    simp only [sm]; omega

/-! ### encodings at places -/
def eL (l : List UInt8) (q : Nat) : Nat := encLen (l.drop q)
theorem eL_le (l : List UInt8) (q : Nat) : q + eL l q ≤ max q l.length := by
  have := encLen_le (l.drop q); unfold eL; rw [List.length_drop] at this; omega
theorem eL_le4 (l : List UInt8) (q : Nat) : eL l q ≤ 4 := encLen_le4 _
theorem eL_out (l : List UInt8) (q : Nat) (h : l.length ≤ q) : eL l q = 0 := by
  have := eL_le l q; omega
theorem eL_tails {l : List UInt8} {q i : Nat} (h1 : 0 < i) (h2 : i < eL l q) : tl (gb l (q + i)) = true := by
  unfold eL at h2
  rw [← gb_drop]
  rcases encLen_cases (l.drop q) with h | ⟨h, _, r⟩ | ⟨h, _, r1, r2, r3⟩ | ⟨h, _, r1, r2, r3, r4⟩ | ⟨h, _, r1, r2, r3, r4, r5⟩
  · omega
  · omega
  · obtain rfl : i = 1 := by omega
    exact r3
  · rcases (by omega : i = 1 ∨ i = 2) with rfl | rfl
    · exact sc_tl r3
    · exact r4
  · rcases (by omega : i = 1 ∨ i = 2 ∨ i = 3) with rfl | rfl | rfl
    · exact sc_tl r3
    · exact r4
    · exact r5
theorem eL_tail0 {l : List UInt8} {q : Nat} (h : tl (gb l q) = true) : eL l q = 0 := by
  have e : gb l q = gb (l.drop q) 0 := by rw [gb_drop, Nat.add_zero]
  rw [e, tl_iff] at h
  unfold eL
  rcases encLen_cases (l.drop q) with h' | ⟨h', _, r⟩ | ⟨h', _, r1, r2, r3⟩ | ⟨h', _, r1, r2, r3, r4⟩ | ⟨h', _, r1, r2, r3, r4, r5⟩ <;> omega
theorem eL_in {l : List UInt8} {q p : Nat} (h1 : q < p) (h2 : p < q + eL l q) : eL l p = 0 := by
  apply eL_tail0
  have := eL_tails (l := l) (q := q) (i := p - q) (by omega) (by omega)
  rwa [show q + (p - q) = p from by omega] at this
theorem eL_one {l : List UInt8} {q p : Nat} {p' : Nat} (h1 : q < p) (h2 : p < q + eL l q) (h3 : p' < p) (h4 : p < p' + eL l p') : q = p' := by
  rcases Nat.lt_trichotomy q p' with h | h | h
  · have := eL_in (l := l) (q := q) (p := p') h (by omega); omega
  · exact h
  · have := eL_in (l := l) (q := p') (p := q) h (by omega); omega

/-- a place that no encoding goes over -/
def edgeP (l : List UInt8) (p : Nat) : Prop := ∀ q, q < p → q + eL l q ≤ p
def edgeB (l : List UInt8) (p : Nat) : Bool := insideOf l p == 0
theorem overB_iff (l : List UInt8) (p k : Nat) (hk : 1 ≤ k) : overB l p k ↔ k ≤ p ∧ k < eL l (p - k) := by
  unfold overB stepW eL
  constructor
  · rintro ⟨h1, h2⟩; refine ⟨h1, ?_⟩; split at h2 <;> omega
  · rintro ⟨h1, h2⟩; refine ⟨h1, ?_⟩; split <;> omega
theorem edgeB_iff (l : List UInt8) (p : Nat) : edgeB l p = true ↔ edgeP l p := by
  unfold edgeB edgeP
  simp only [beq_iff_eq]
  constructor
  · intro h q hq
    apply Classical.byContradiction; intro hn
    have h4 := eL_le4 l q
    have ho : overB l p (p - q) := (overB_iff _ _ _ (by omega)).2 ⟨by omega, by rw [show p - (p - q) = q from by omega]; omega⟩
    unfold insideOf at h
    rcases (by omega : p - q = 1 ∨ p - q = 2 ∨ p - q = 3) with e | e | e <;> rw [e] at ho <;> simp only [ho, if_true] at h <;> (repeat' split at h) <;> omega
  · intro h
    apply insideOf_none
    intro j h1 h3 ho
    rw [overB_iff _ _ _ h1] at ho
    have := h (p - j) (by omega); omega
theorem edge_zero (l : List UInt8) : edgeP l 0 := fun q hq => absurd hq (by omega)
theorem edge_next {l : List UInt8} {p : Nat} (h : edgeP l p) : edgeP l (p + stepW (l.drop p)) := by
  intro q hq
  have hw : stepW (l.drop p) = if eL l p = 0 then 1 else eL l p := rfl
  rcases Nat.lt_trichotomy q p with h1 | h1 | h1
  · have := h q h1; omega
  · subst h1; rw [hw]; split <;> omega
  · have : eL l q = 0 := eL_in (q := p) h1 (by rw [hw] at hq; split at hq <;> omega)
    omega
theorem edge_mid {l : List UInt8} {p i : Nat} (h1 : 0 < i) (h2 : i < stepW (l.drop p)) : edgeB l (p + i) = false := by
  have hw : stepW (l.drop p) = if eL l p = 0 then 1 else eL l p := rfl
  rw [← Bool.not_eq_true, edgeB_iff]
  intro h
  have := h p (by omega)
  rw [hw] at h2; split at h2 <;> omega
theorem gb_ascii_edge {l : List UInt8} {p : Nat} (h : tl (gb l p) = false) : edgeB l p = true := by
  rw [edgeB_iff]
  intro q hq
  apply Classical.byContradiction; intro hn
  have := eL_tails (l := l) (q := q) (i := p - q) (by omega) (by omega)
  rw [show q + (p - q) = p from by omega, h] at this; cases this

/-! ### the sizes, by places -/
def runesAt (l : List UInt8) (p : Nat) : Int := if edgeB l p then 1 else 0
def unitsAt (l : List UInt8) (p : Nat) : Int := if edgeB l p then unitsOf (runeOf (l.drop p)) else 0
def endsAt (l : List UInt8) (p : Nat) : Int := if gb l p = 13 ∨ (gb l p = 10 ∧ ¬ (0 < p ∧ gb l (p - 1) = 13)) then 1 else 0
def runesN (l : List UInt8) : Int := sm (runesAt l) l.length
def unitsN (l : List UInt8) : Int := sm (unitsAt l) l.length
def endsN (l : List UInt8) : Int := sm (endsAt l) l.length

theorem rune_low {l : List UInt8} {p : Nat} (hp : p < l.length) (x : Int) (hx : x < 0x80) (h0 : 0 ≤ x) : runeOf (l.drop p) = x ↔ gb l p = x := by
  have e : gb l p = gb (l.drop p) 0 := by rw [gb_drop, Nat.add_zero]
  rw [e]
  have r0 := gb_lo (l.drop p) 0
  have hl : (l.drop p).length ≠ 0 := by rw [List.length_drop]; omega
  rcases encLen_cases (l.drop p) with h' | ⟨h', _, r⟩ | ⟨h', _, r1, r2, r3⟩ | ⟨h', _, r1, r2, r3, r4⟩ | ⟨h', _, r1, r2, r3, r4, r5⟩
  · rw [runeOf_0 h']
    have : ¬ gb (l.drop p) 0 < 0x80 := by
      intro hlt
      unfold encLen enc4 at h'; rw [if_neg hl, if_pos hlt] at h'; omega
    omega
  · rw [runeOf_1 h']
  · rw [runeOf_2 h']; omega
  · rw [runeOf_3 h']; have := sc_iff.1 r3; omega
  · rw [runeOf_4 h']; have := sc_iff.1 r3; omega
theorem last13 {l : List UInt8} {p : Nat} (hp : p < l.length) : runeOf (l.drop p) = 13 ↔ gb l (p + stepW (l.drop p) - 1) = 13 := by
  by_cases h1 : stepW (l.drop p) = 1
  · rw [h1, rune_low hp 13 (by omega) (by omega)]; rfl
  · have hw : stepW (l.drop p) = if eL l p = 0 then 1 else eL l p := rfl
    have hw1 := stepW_pos (l.drop p)
    have hE : 1 < eL l p ∧ stepW (l.drop p) = eL l p := by
      rw [hw] at h1 ⊢
      by_cases h0 : eL l p = 0
      · rw [if_pos h0] at h1; omega
      · rw [if_neg h0] at h1 ⊢; have := (show eL l p ≠ 0 from h0); omega
    have ht := eL_tails (l := l) (q := p) (i := eL l p - 1) (by omega) (by omega)
    rw [hE.2, show p + eL l p - 1 = p + (eL l p - 1) from by omega, rune_low hp 13 (by omega) (by omega)]
    rw [tl_iff] at ht
    constructor
    · intro h
      exfalso
      have : eL l p = 1 := by
        unfold eL encLen enc4
        have e : gb l p = gb (l.drop p) 0 := by rw [gb_drop, Nat.add_zero]
        rw [if_neg (by rw [List.length_drop]; omega), if_pos (by omega)]
      omega
    · intro h; omega
theorem sz_fold (l : List UInt8) : ∀ (k p : Nat) (s : Int × Int × Int × Int), edgeP l p → p ≤ l.length → l.length ≤ p + k → (s.2.2.2 = 13 ↔ 0 < p ∧ gb l (p - 1) = 13) →
    ((placesFrom l k p).foldl (szStep l) s).1 = s.1 + sm (fun i => runesAt l (p + i)) (l.length - p) ∧
    ((placesFrom l k p).foldl (szStep l) s).2.1 = s.2.1 + sm (fun i => unitsAt l (p + i)) (l.length - p) ∧
    ((placesFrom l k p).foldl (szStep l) s).2.2.1 = s.2.2.1 + sm (fun i => endsAt l (p + i)) (l.length - p)
  | 0, p, s, he, h0, h1, h2 => by
    rw [show l.length - p = 0 from by omega]
    simp [placesFrom, sm]
  | k + 1, p, s, he, h0, h1, h2 => by
    unfold placesFrom
    by_cases hp : p < l.length
    · rw [if_pos hp, List.foldl_cons]
      have hw := stepW_pos (l.drop p)
      have hwl := stepW_le (l.drop p) (by rw [List.length_drop]; omega)
      rw [List.length_drop] at hwl
      have hEb := (edgeB_iff l p).2 he
      have h3 : (szStep l s p).2.2.2 = 13 ↔ 0 < p + stepW (l.drop p) ∧ gb l (p + stepW (l.drop p) - 1) = 13 := by
        show runeOf (l.drop p) = 13 ↔ _
        rw [last13 hp]; exact ⟨fun h => ⟨by omega, h⟩, fun h => h.2⟩
      obtain ⟨i1, i2, i3⟩ := sz_fold l k (p + stepW (l.drop p)) (szStep l s p) (edge_next he) (by omega) (by omega) h3
      rw [i1, i2, i3]
      rw [show l.length - p = stepW (l.drop p) + (l.length - (p + stepW (l.drop p))) from by omega, sm_add, sm_add, sm_add]
      rw [sm_first (f := fun i => runesAt l (p + i)) hw (fun i hi hi2 => by simp [runesAt, edge_mid hi hi2]),
        sm_first (f := fun i => unitsAt l (p + i)) hw (fun i hi hi2 => by simp [unitsAt, edge_mid hi hi2]),
        sm_first (f := fun i => endsAt l (p + i)) hw (fun i hi hi2 => by
          have hb := edge_mid (l := l) (p := p) hi hi2
          have ht : tl (gb l (p + i)) = true := by
            rw [← Bool.not_eq_false]; intro hf; rw [gb_ascii_edge hf] at hb; cases hb
          rw [tl_iff] at ht
          simp only [endsAt]; rw [if_neg (by omega)])]
      simp only [Nat.add_zero, ← Nat.add_assoc]
      refine ⟨?_, ?_, ?_⟩
      · simp only [szStep, runesAt, hEb, if_true]; omega
      · simp only [szStep, unitsAt, hEb, if_true]; omega
      · simp only [szStep, endsAt]
        have hc : (runeOf (l.drop p) = 13 ∨ runeOf (l.drop p) = 10 ∧ s.2.2.2 ≠ 13) ↔ (gb l p = 13 ∨ (gb l p = 10 ∧ ¬ (0 < p ∧ gb l (p - 1) = 13))) := by
          rw [rune_low hp 13 (by omega) (by omega), rune_low hp 10 (by omega) (by omega), Ne, h2]
        simp only [hc]; omega
    · rw [if_neg hp, show l.length - p = 0 from by omega]
      simp [sm]
theorem szOf_sm (l : List UInt8) : (szOf l (places l)).1 = runesN l ∧ (szOf l (places l)).2.1 = unitsN l ∧ (szOf l (places l)).2.2.1 = endsN l := by
  have := sz_fold l l.length 0 (0, 0, 0, 0) (edge_zero l) (by omega) (by omega) (by simp)
  simp only [Nat.zero_add, Int.zero_add, Nat.sub_zero] at this
  exact this

theorem enc4_det {a b c d a' b' c' d' : Int} (h0 : enc4 a b c d ≠ 0) (ha : a = a') (hb : 1 < enc4 a b c d → b = b') (hc : 2 < enc4 a b c d → c = c') (hd : 3 < enc4 a b c d → d = d') :
    enc4 a' b' c' d' = enc4 a b c d := by
  subst ha
  rcases enc4_cases a b c d with h | ⟨h, r⟩ | ⟨h, r1, r2, r3⟩ | ⟨h, r1, r2, r3, r4⟩ | ⟨h, r1, r2, r3, r4, r5⟩
  · exact absurd h h0
  · rw [h]; unfold enc4; rw [if_pos r]
  · obtain rfl := hb (by omega)
    rw [h]; unfold enc4; rw [if_neg (by omega), if_neg (by omega), if_pos (by omega), if_pos r3]
  · obtain rfl := hb (by omega); obtain rfl := hc (by omega)
    rw [h]; unfold enc4; rw [if_neg (by omega), if_neg (by omega), if_neg (by omega), if_pos (by omega), if_pos (by rw [r3, r4]; rfl)]
  · obtain rfl := hb (by omega); obtain rfl := hc (by omega); obtain rfl := hd (by omega)
    rfl
/-- an encoding hangs on its own bytes alone -/
theorem encLen_det {l m : List UInt8} (h0 : encLen l ≠ 0) (h : ∀ i, i < encLen l → gb l i = gb m i) (hm : encLen l ≤ m.length) : encLen m = encLen l ∧ runeOf m = runeOf l := by
  have hl : l.length ≠ 0 := by have := encLen_le l; omega
  have e : encLen l = enc4 (gb l 0) (gb l 1) (gb l 2) (gb l 3) := by unfold encLen; rw [if_neg hl]
  have e' : encLen m = enc4 (gb m 0) (gb m 1) (gb m 2) (gb m 3) := by unfold encLen; rw [if_neg (by omega)]
  have hE : encLen m = encLen l := by
    rw [e']; rw [e] at h h0 ⊢
    exact enc4_det h0 (h 0 (by omega)) (fun hx => h 1 hx) (fun hx => h 2 hx) (fun hx => h 3 hx)
  refine ⟨hE, ?_⟩
  have h4 := encLen_le4 l
  rcases (by omega : encLen l = 1 ∨ encLen l = 2 ∨ encLen l = 3 ∨ encLen l = 4) with k | k | k | k
  · rw [runeOf_1 k, runeOf_1 (hE.trans k), h 0 (by omega)]
  · rw [runeOf_2 k, runeOf_2 (hE.trans k), h 0 (by omega), h 1 (by omega)]
  · rw [runeOf_3 k, runeOf_3 (hE.trans k), h 0 (by omega), h 1 (by omega), h 2 (by omega)]
  · rw [runeOf_4 k, runeOf_4 (hE.trans k), h 0 (by omega), h 1 (by omega), h 2 (by omega), h 3 (by omega)]
theorem gb_append_left (a b : List UInt8) (i : Nat) (h : i < a.length) : gb (a ++ b) i = gb a i := by
  unfold gb; rw [List.getD_eq_getElem?_getD, List.getD_eq_getElem?_getD, List.getElem?_append_left h]
theorem gb_append_right (a b : List UInt8) (i : Nat) : gb (a ++ b) (a.length + i) = gb b i := by
  unfold gb; rw [List.getD_eq_getElem?_getD, List.getD_eq_getElem?_getD, List.getElem?_append_right (by omega)]; congr 4; omega
/-- an encoding at the beginning, with and without what follows -/
theorem encLen_append {a b : List UInt8} (h : encLen a ≠ 0) : encLen (a ++ b) = encLen a ∧ runeOf (a ++ b) = runeOf a :=
  encLen_det h (fun i hi => (gb_append_left a b i (by have := encLen_le a; omega)).symm) (by have := encLen_le a; rw [List.length_append]; omega)
theorem encLen_append' {a b : List UInt8} (h : encLen (a ++ b) ≤ a.length) : encLen a = encLen (a ++ b) ∧ runeOf a = runeOf (a ++ b) := by
  by_cases h0 : encLen (a ++ b) = 0
  · have ha : encLen a = 0 := by
      apply Classical.byContradiction; intro hn
      have := (encLen_append (b := b) hn).1; omega
    rw [ha, h0, runeOf_0 ha, runeOf_0 h0]; exact ⟨rfl, rfl⟩
  · exact encLen_det h0 (fun i hi => gb_append_left a b i (by omega)) h
theorem drop_left (a b : List UInt8) (q : Nat) (h : q ≤ a.length) : (a ++ b).drop q = a.drop q ++ b := by
  rw [List.drop_append, show q - a.length = 0 from by omega, List.drop_zero]
theorem drop_right (a b : List UInt8) (q : Nat) : (a ++ b).drop (a.length + q) = b.drop q := by
  rw [List.drop_append, List.drop_eq_nil_of_le (by omega), show a.length + q - a.length = q from by omega]; rfl
theorem eL_left {a b : List UInt8} {q : Nat} (hq : q ≤ a.length) (h : q + eL (a ++ b) q ≤ a.length) : eL a q = eL (a ++ b) q ∧ runeOf (a.drop q) = runeOf ((a ++ b).drop q) := by
  unfold eL at h ⊢
  rw [drop_left a b q hq] at h ⊢
  exact encLen_append' (by rw [List.length_drop]; omega)
theorem eL_left0 {a b : List UInt8} {q : Nat} (hq : q ≤ a.length) (h : a.length < q + eL (a ++ b) q) : eL a q = 0 := by
  apply Classical.byContradiction; intro hn
  have := eL_le a q
  unfold eL at *
  rw [drop_left a b q hq, (encLen_append hn).1] at h
  omega
theorem eL_leftn {a b : List UInt8} {q : Nat} (hq : q ≤ a.length) (h : eL a q ≠ 0) : eL (a ++ b) q = eL a q := by
  unfold eL at *
  rw [drop_left a b q hq, (encLen_append h).1]
theorem eL_right (a b : List UInt8) (q : Nat) : eL (a ++ b) (a.length + q) = eL b q := by unfold eL; rw [drop_right]

theorem edge_left {a b : List UInt8} {p : Nat} (hp : p ≤ a.length) (h : ∀ q, q < p → q + eL (a ++ b) q ≤ a.length) : edgeB (a ++ b) p = edgeB a p := by
  rw [Bool.eq_iff_iff, edgeB_iff, edgeB_iff]
  constructor
  · intro H q hq; rw [(eL_left (by omega) (h q hq)).1]; exact H q hq
  · intro H q hq; rw [← (eL_left (by omega) (h q hq)).1]; exact H q hq
theorem edge_right {a b : List UInt8} {i : Nat} (h : ∀ q, q < a.length → q + eL (a ++ b) q ≤ a.length + i) : edgeB (a ++ b) (a.length + i) = edgeB b i := by
  rw [Bool.eq_iff_iff, edgeB_iff, edgeB_iff]
  constructor
  · intro H q hq; have := H (a.length + q) (by omega); rw [eL_right] at this; omega
  · intro H q hq
    by_cases h1 : q < a.length
    · exact h q h1
    · obtain ⟨r, rfl⟩ : ∃ r, q = a.length + r := ⟨q - a.length, by omega⟩
      rw [eL_right]; have := H r (by omega); omega

/-- no encoding goes over the seam -/
def noCross (a b : List UInt8) : Prop := ∀ q, q < a.length → q + eL (a ++ b) q ≤ a.length
theorem runes_noCross {a b : List UInt8} (h : noCross a b) : runesN (a ++ b) = runesN a + runesN b ∧ unitsN (a ++ b) = unitsN a + unitsN b := by
  unfold runesN unitsN
  rw [List.length_append, sm_add, sm_add]
  have h1 : ∀ p, p < a.length → edgeB (a ++ b) p = edgeB a p := fun p hp => edge_left (by omega) (fun q hq => h q (by omega))
  have h2 : ∀ p, edgeB (a ++ b) (a.length + p) = edgeB b p := fun p => edge_right (fun q hq => by have := h q hq; omega)
  rw [sm_congr (f := runesAt (a ++ b)) (g := runesAt a) (n := a.length) (fun i hi => by simp only [runesAt, h1 i hi]),
    sm_congr (f := fun i => runesAt (a ++ b) (a.length + i)) (g := runesAt b) (n := b.length) (fun i hi => by simp only [runesAt, h2 i]),
    sm_congr (f := unitsAt (a ++ b)) (g := unitsAt a) (n := a.length) (fun i hi => by simp only [unitsAt, h1 i hi, (eL_left (by omega) (h i hi)).2]),
    sm_congr (f := fun i => unitsAt (a ++ b) (a.length + i)) (g := unitsAt b) (n := b.length) (fun i hi => by simp only [unitsAt, h2 i, drop_right])]
  exact ⟨rfl, rfl⟩
theorem units_fffd {l : List UInt8} {p : Nat} (h : eL l p = 0) : unitsOf (runeOf (l.drop p)) = 1 := by
  rw [runeOf_0 h]; rfl
/-- an encoding goes over the seam: k bytes of it ahead, j behind -/
theorem runes_cross {a b : List UInt8} {k j : Nat} (hk : 0 < k) (hka : k ≤ a.length) (hj : 0 < j) (h : eL (a ++ b) (a.length - k) = k + j) :
    runesN (a ++ b) = runesN a + runesN b - (k + j - 1) ∧ unitsN (a ++ b) = unitsN a + unitsN b - (k + j - unitsOf (runeOf ((a ++ b).drop (a.length - k)))) := by
  obtain ⟨q, hq⟩ : ∃ q, a.length = q + k := ⟨a.length - k, by omega⟩
  rw [show a.length - k = q from by omega] at h ⊢
  have hjb : j ≤ b.length := by have := eL_le (a ++ b) q; rw [List.length_append] at this; omega
  obtain ⟨r, hr⟩ : ∃ r, b.length = j + r := ⟨b.length - j, by omega⟩
  have huniq : ∀ p, p < a.length → p ≠ q → p + eL (a ++ b) p ≤ a.length := fun p hp hne => by
    apply Classical.byContradiction; intro hn
    exact hne (eL_one (l := a ++ b) (p := a.length) (q := p) (p' := q) hp (by omega) (by omega) (by omega))
  have hcov : ∀ p, p < q → p + eL (a ++ b) p ≤ q := fun p hp => by
    apply Classical.byContradiction; intro hn
    have := eL_in (l := a ++ b) (q := p) (p := q) hp (by omega); omega
  -- ahead of it
  have h1 : ∀ p, p < q → edgeB (a ++ b) p = edgeB a p := fun p hp => edge_left (by omega) (fun p' hp' => huniq p' (by omega) (by omega))
  have h1r : ∀ p, p < q → runeOf (a.drop p) = runeOf ((a ++ b).drop p) := fun p hp => (eL_left (by omega) (huniq p (by omega) (by omega))).2
  -- it
  have h2 : edgeB (a ++ b) q = true := (edgeB_iff _ _).2 hcov
  have h2' : ∀ i, 0 < i → i < k + j → edgeB (a ++ b) (q + i) = false := fun i hi hi2 =>
    edge_mid hi (by show i < stepW ((a ++ b).drop q); unfold stepW; unfold eL at h; rw [h]; split <;> omega)
  -- in a: edges, each a step of its own
  have ha0 : ∀ i, i < k → eL a (q + i) = 0 := fun i hi => by
    by_cases h0 : i = 0
    · subst h0; exact eL_left0 (b := b) (by omega) (by rw [Nat.add_zero, h]; omega)
    · apply Classical.byContradiction; intro hn
      have := eL_leftn (b := b) (by omega) hn
      have := eL_in (l := a ++ b) (q := q) (p := q + i) (by omega) (by omega); omega
  have ha : ∀ i, i < k → edgeB a (q + i) = true := fun i hi => by
    rw [edgeB_iff]; intro p hp
    by_cases hpq : p < q
    · rw [(eL_left (by omega) (huniq p (by omega) (by omega))).1]; have := hcov p hpq; omega
    · have := ha0 (p - q) (by omega); rw [show q + (p - q) = p from by omega] at this; omega
  -- in b
  have hb0 : ∀ i, i < j → eL b i = 0 := fun i hi => by
    have := eL_in (l := a ++ b) (q := q) (p := a.length + i) (by omega) (by omega)
    rwa [eL_right] at this
  have hb : ∀ i, i < j → edgeB b i = true := fun i hi => by
    rw [edgeB_iff]; intro p hp; have := hb0 p (by omega); omega
  have h3 : ∀ i, j ≤ i → edgeB (a ++ b) (a.length + i) = edgeB b i := fun i hi => edge_right (fun p hp => by
    by_cases hpq : p = q
    · subst hpq; omega
    · have := huniq p hp hpq; omega)
  unfold runesN unitsN
  rw [List.length_append]
  have hlen : a.length + b.length = q + ((k + j) + r) := by omega
  rw [hlen, hq, hr]
  simp only [sm_add]
  have hkj : ∀ f : Nat → Int, sm (fun i => f (q + i)) k + sm (fun i => f (q + (k + i))) j = sm (fun i => f (q + i)) (k + j) := fun f => (sm_add (fun i => f (q + i)) k j).symm
  rw [hkj, hkj]
  rw [sm_congr (f := runesAt (a ++ b)) (g := runesAt a) (n := q) (fun i hi => by simp only [runesAt, h1 i hi]),
    sm_congr (f := unitsAt (a ++ b)) (g := unitsAt a) (n := q) (fun i hi => by simp only [unitsAt, h1 i hi, h1r i hi]),
    sm_first (f := fun i => runesAt (a ++ b) (q + i)) (n := k + j) (by omega) (fun i hi hi2 => by simp only [runesAt, h2' i hi hi2]; rfl),
    sm_first (f := fun i => unitsAt (a ++ b) (q + i)) (n := k + j) (by omega) (fun i hi hi2 => by simp only [unitsAt, h2' i hi hi2]; rfl),
    sm_const (f := fun i => runesAt a (q + i)) (n := k) (c := 1) (fun i hi => by simp only [runesAt, ha i hi]; rfl),
    sm_const (f := fun i => unitsAt a (q + i)) (n := k) (c := 1) (fun i hi => by simp only [unitsAt, ha i hi, units_fffd (ha0 i hi)]; rfl),
    sm_const (f := runesAt b) (n := j) (c := 1) (fun i hi => by simp only [runesAt, hb i hi]; rfl),
    sm_const (f := unitsAt b) (n := j) (c := 1) (fun i hi => by simp only [unitsAt, hb i hi, units_fffd (hb0 i hi)]; rfl),
    sm_congr (f := fun i => runesAt (a ++ b) (q + (k + j + i))) (g := fun i => runesAt b (j + i)) (n := r) (fun i hi => by simp only [runesAt]; rw [show q + (k + j + i) = a.length + (j + i) from by omega, h3 _ (by omega)]),
    sm_congr (f := fun i => unitsAt (a ++ b) (q + (k + j + i))) (g := fun i => unitsAt b (j + i)) (n := r) (fun i hi => by simp only [unitsAt]; rw [show q + (k + j + i) = a.length + (j + i) from by omega, h3 _ (by omega), drop_right])]
  have hu : unitsAt (a ++ b) (q + 0) = unitsOf (runeOf ((a ++ b).drop q)) := by simp only [unitsAt, Nat.add_zero, h2, if_true]
  have hr1 : runesAt (a ++ b) (q + 0) = 1 := by simp only [runesAt, Nat.add_zero, h2, if_true]
  rw [hu, hr1]
  constructor <;> omega
/-- the ends -/
def seamE (a b : List UInt8) : Int := if 0 < a.length ∧ gb a (a.length - 1) = 13 ∧ 0 < b.length ∧ gb b 0 = 10 then 1 else 0
theorem ends_append (a b : List UInt8) : endsN (a ++ b) = endsN a + endsN b - seamE a b := by
  unfold endsN
  rw [List.length_append, sm_add]
  rw [sm_congr (f := endsAt (a ++ b)) (g := endsAt a) (n := a.length) (fun i hi => by
    simp only [endsAt]; rw [gb_append_left a b i hi, gb_append_left a b (i - 1) (by omega)])]
  by_cases hb : b.length = 0
  · obtain rfl : b = [] := List.eq_nil_of_length_eq_zero hb
    simp [sm, seamE]
  · obtain ⟨r, hr⟩ : ∃ r, b.length = 1 + r := ⟨b.length - 1, by omega⟩
    rw [hr, sm_add, sm_add]
    rw [sm_congr (f := fun i => endsAt (a ++ b) (a.length + (1 + i))) (g := fun i => endsAt b (1 + i)) (n := r) (fun i hi => by
      simp only [endsAt]
      rw [gb_append_right, show a.length + (1 + i) - 1 = a.length + (1 + i - 1) from by omega, gb_append_right]
      have h1 : 0 < a.length + (1 + i) := by omega
      have h2 : 0 < 1 + i := by omega
      simp only [h1, h2])]
    have e1 : sm (fun i => endsAt (a ++ b) (a.length + i)) 1 = endsAt (a ++ b) a.length := by simp [sm]
    have e2 : sm (endsAt b) 1 = endsAt b 0 := by simp [sm]
    rw [e1, e2]
    have g0 : gb (a ++ b) a.length = gb b 0 := gb_append_right a b 0
    unfold endsAt seamE
    rw [g0]
    by_cases ha : a.length = 0
    · obtain rfl : a = [] := List.eq_nil_of_length_eq_zero ha
      simp
    · rw [gb_append_left a b (a.length - 1) (by omega)]
      by_cases x1 : gb b 0 = 13
      · simp [x1]
      · by_cases x2 : gb b 0 = 10
        · by_cases x3 : gb a (a.length - 1) = 13
          · simp [x2, x3, hr, Nat.pos_of_ne_zero ha]; omega
          · simp [x2, x3]
        · simp [x1, x2]

/-- the least and the greatest byte behind a lead -/
def leastOf (n : Int) : Int := if n = 0xe0 then 0xa0 else if n = 0xf0 then 0x90 else if 1 < needOf n then 0x80 else 1
def mostOf (n : Int) : Int := if n = 0xed then 0x9f else if n = 0xf4 then 0x8f else if 1 < needOf n then 0xbf else 0

theorem needOf_lo (n : Int) : 0 ≤ needOf n ∧ needOf n ≤ 4 := by unfold needOf; (repeat' split) <;> omega

set_option maxHeartbeats 400000 in
theorem second_any (n : Int) (h0 : 0 ≤ n) (h1 : n < 256) (w : World) (hT : Tabs w) :
    Calls Tryd.prog 141 #[.int .u8 n] w fun e w' => e = .returned (.tuple #[.int .u8 (leastOf n), .int .u8 (mostOf n)]) ∧ Below w.heap.size w w' := by
  have hcl := Lib.hid (need_any n h0 h1 w hT)
  clear hT
  have hlo := needOf_lo n
  by_cases e1 : n = 0xe0
  · subst e1
    go_enter Tryd.func141, Tryd.ntmps141
    go_wp2_with fail
    go_ret2
    exact ⟨rfl, bl_refl _⟩
  by_cases e2 : n = 0xed
  · subst e2
    go_enter Tryd.func141, Tryd.ntmps141
    go_wp2_with fail
    go_ret2
    exact ⟨rfl, bl_refl _⟩
  by_cases e3 : n = 0xf0
  · subst e3
    go_enter Tryd.func141, Tryd.ntmps141
    go_wp2_with fail
    go_ret2
    exact ⟨rfl, bl_refl _⟩
  by_cases e4 : n = 0xf4
  · subst e4
    go_enter Tryd.func141, Tryd.ntmps141
    go_wp2_with fail
    go_ret2
    exact ⟨rfl, bl_refl _⟩
  have v1 : leastOf n = if 1 < needOf n then 0x80 else 1 := by unfold leastOf; rw [if_neg e1, if_neg e3]
  have v2 : mostOf n = if 1 < needOf n then 0xbf else 0 := by unfold mostOf; rw [if_neg e2, if_neg e4]
  have V1 := Lib.hid v1
  have V2 := Lib.hid v2
  clear v1 v2
  have b1 : (n == 0xe0) = false := beq_eq_false_iff_ne.2 e1
  have b2 : (n == 0xed) = false := beq_eq_false_iff_ne.2 e2
  have b3 : (n == 0xf0) = false := beq_eq_false_iff_ne.2 e3
  have b4 : (n == 0xf4) = false := beq_eq_false_iff_ne.2 e4
  clear e1 e2 e3 e4
  generalize needOf n = q at *
  by_cases hq : 1 < q
  all_goals
    go_enter Tryd.func141, Tryd.ntmps141
    go_wp2_with (go_at_call 136; refine hcl.out.mono ?_; rintro e w1 ⟨rfl, hb⟩)
    go_ret2
    refine ⟨?_, by assumption⟩
    rw [V1.out, V2.out]
    first | (rw [if_pos (by omega), if_pos (by omega)]; rfl) | (rw [if_neg (by omega), if_neg (by omega)]; rfl)

def secondOk (n m : Int) : Bool := decide (leastOf n ≤ m) && decide (m ≤ mostOf n)

theorem leastOf_r (n : Int) : 0 ≤ leastOf n ∧ leastOf n < 256 := by unfold leastOf; (repeat' split) <;> omega
theorem mostOf_r (n : Int) : 0 ≤ mostOf n ∧ mostOf n < 256 := by unfold mostOf; (repeat' split) <;> omega

set_option maxHeartbeats 400000 in
theorem Second_any (n m : Int) (h0 : 0 ≤ n) (h1 : n < 256) (w : World) (hT : Tabs w) :
    Calls Tryd.prog 138 #[.int .u8 n, .int .u8 m] w fun e w' => e = .returned (.bool (secondOk n m)) ∧ Below w.heap.size w w' := by
  have hcl := Lib.hid (second_any n h0 h1 w hT)
  clear hT
  unfold secondOk
  generalize leastOf n = x at *
  generalize mostOf n = y at *
  by_cases hx : x ≤ m
  all_goals by_cases hy : m ≤ y
  all_goals
    go_enter Tryd.func138, Tryd.ntmps138
    go_wp2_with (go_at_call 141; refine hcl.out.mono ?_; rintro e w1 ⟨rfl, hb⟩)
    go_ret
    exact ⟨ret_bool (by simp [hx, hy]), by assumption⟩

/-- byte i + 1 may stand there -/
def okAt (l : List UInt8) (i : Nat) : Bool := (classOf (gb l (i + 1)) == 2) && (!(i == 0) || secondOk (gb l 0) (gb l (i + 1)))
def wholeB (l : List UInt8) : Bool := decide (0 < l.length) && (needOf (gb l 0) == (l.length : Int)) && (List.range (l.length - 1)).all (okAt l)

theorem all_false {f : Nat → Bool} {n k : Nat} (h : k < n) (hf : f k = false) : (List.range n).all f = false := by
  rw [List.all_eq_false]; exact ⟨k, by simpa using h, by simp [hf]⟩
theorem all_true {f : Nat → Bool} {n : Nat} (h : ∀ j, j < n → f j = true) : (List.range n).all f = true := by
  rw [List.all_eq_true]; exact fun x hx => h x (by simpa using hx)

set_option maxRecDepth 100000 in
set_option maxHeartbeats 1000000 in
theorem Whole_any (A : Option Addr) (c : Nat) (l : List UInt8) (w : World) (hT : Tabs w) (hA : BytesAt w A l) (hc : l.length ≤ c) (hm : l.length ≤ 9223372036854775807) :
    Calls Tryd.prog 131 #[.slice A l.length c] w fun e w' => e = .returned (.bool (wholeB l)) ∧ Below w.heap.size w w' := by
  by_cases h0 : l.length = 0
  · have hw : wholeB l = false := by unfold wholeB; simp [h0]
    have hW := Lib.hid hw
    clear hw
    rw [h0]
    go_enter Tryd.func131, Tryd.ntmps131
    go_wp2_with fail
    go_ret
    exact ⟨ret_bool hW.out.symm, bl_refl _⟩
  have hpos : 0 < l.length := by omega
  obtain ⟨b, off, rfl, hcell⟩ := hA hpos
  have hne := Lib.hid (need_any (gb l 0) (gb_lo l 0) (gb_hi l 0) w hT)
  have c0 : w.cell? ⟨b, off, none⟩ = some (.int .u8 (gb l 0)) := hcell 0 hpos
  have hlen0 : ((l.length : Int) == 0) = false := beq_eq_false_iff_ne.2 (by omega)
  have HC := Lib.hid hcell
  have HT := Lib.hid hT
  clear hT hcell hA h0
  by_cases hn : ¬ needOf (gb l 0) = (l.length : Int)
  · have hw : wholeB l = false := by unfold wholeB; simp [hn]
    have hW := Lib.hid hw
    clear hw
    have hb1 : (needOf (gb l 0) != (l.length : Int)) = true := by simpa using hn
    clear hn
    go_enter Tryd.func131, Tryd.ntmps131
    go_wp2_with (go_at_call 136; refine hne.out.mono ?_; rintro e w1 ⟨rfl, hb⟩)
    go_ret
    exact ⟨ret_bool hW.out.symm, by assumption⟩
  have hb1 : (needOf (gb l 0) != (l.length : Int)) = false := by simpa using hn
  have HN := Lib.hid (Classical.not_not.1 hn)
  clear hn
  by_cases hc1 : c = 1
  · obtain rfl := hc1
    have h1 : l.length = 1 := by omega
    have hw : wholeB l = true := by unfold wholeB; simp [h1, HN.out]
    have hW := Lib.hid hw
    clear hw
    rw [h1] at hb1 ⊢
    go_enter Tryd.func131, Tryd.ntmps131
    go_wp2_with (go_at_call 136; refine hne.out.mono ?_; rintro e w1 ⟨rfl, hb⟩)
    go_loopw [20] (fun i wr => i = .int .i64 0 ∧ Below w.heap.size w wr) (fun i _ => 0)
    case atStart => exact ⟨rfl, by assumption⟩
    case round =>
      obtain ⟨rfl, hB⟩ := hrel
      go_wp2
      go_ret
      exact ⟨ret_bool hW.out.symm, by assumption⟩
  have hc2 : 1 < c := by omega
  clear hc1
  go_enter Tryd.func131, Tryd.ntmps131
  go_wp2_with (go_at_call 136; refine hne.out.mono ?_; rintro e w1 ⟨rfl, hb⟩)
  go_loopw [20] (fun i wr => ∃ k : Nat, k < l.length ∧ i = .int .i64 k ∧ (∀ j, j < k → okAt l j = true) ∧ Below w.heap.size w wr) (fun i _ => l.length - (intOf i).toNat)
  case atStart => exact ⟨0, by omega, rfl, fun j h => absurd h (by omega), by assumption⟩
  case round =>
    obtain ⟨k, hk, rfl, hok, hB⟩ := hrel
    by_cases hk1 : k + 1 < l.length
    · have hcl := class_any (gb l (k + 1)) (gb_lo _ _) (gb_hi _ _) wr (HT.out.below hB)
      have ck : wr.cell? ⟨b, off + 1 + k, none⟩ = some (.int .u8 (gb l (k + 1))) := by
        have := bl_cell hB (HC.out (k + 1) hk1); rwa [show off + (k + 1) = off + 1 + k from by omega] at this
      have c00 := bl_cell hB c0
      have t1 : k < l.length - 1 := by omega
      by_cases hcls : classOf (gb l (k + 1)) = 2
      · have hcb : (classOf (gb l (k + 1)) != 2) = false := by simp [hcls]
        have hcl' := Lib.hid hcl
        clear hcl
        by_cases hk0 : k = 0
        · obtain rfl := hk0
          have hokE : okAt l 0 = secondOk (gb l 0) (gb l (0 + 1)) := by unfold okAt; simp [hcls]
          have HE := Lib.hid hokE
          have hnext : secondOk (gb l 0) (gb l (0 + 1)) = true → ∀ j, j < 0 + 1 → okAt l j = true := fun h j hj => by
            obtain rfl : j = 0 := by omega
            rw [hokE]; exact h
          have hstop : secondOk (gb l 0) (gb l (0 + 1)) = false → wholeB l = false := fun h => by
            unfold wholeB
            rw [all_false (k := 0) (by omega) (by rw [hokE]; exact h)]; simp
          have HX := Lib.hid hnext
          have HS := Lib.hid hstop
          clear hok hokE hnext hstop hcls
          generalize hso : secondOk (gb l 0) (gb l (0 + 1)) = so at *
          have HSO := Lib.hid hso
          clear hso
          have H2 : ∀ W, Below wr.heap.size wr W → Calls Tryd.prog 138 #[.int .u8 (gb l 0), .int .u8 (gb l (0 + 1))] W fun e w' => e = .returned (.bool so) ∧ Below W.heap.size W w' := fun W hb => by
            have := Second_any (gb l 0) (gb l (0 + 1)) (gb_lo _ _) (gb_hi _ _) W (HT.out.below (bl_trans hB hb))
            rwa [HSO.out] at this
          have H2' := Lib.hid H2
          clear H2
          cases so
          all_goals
            go_wp2_with (first | (go_at_call 137; refine hcl'.out.mono ?_; rintro e w1 ⟨rfl, hb⟩; have c01 := bl_cell hb c00) | (go_at_call 138; refine (H2'.out _ hb).mono ?_; rintro e w2 ⟨rfl, hb2⟩))
          · go_ret
            exact ⟨ret_bool (by first | exact HS.out rfl | exact HS.out True.intro | exact HS.out : wholeB l = false).symm, (by (repeat (with_reducible first | assumption | exact bl_refl _ | refine bl_alloc ?_ | refine bl_iter ?_ | refine bl_drew ?_ | refine bl_drewN ?_ | refine bl_bytes ?_ | refine bl_set ?_ ?_ | refine bl_trans ?_ (by assumption))) <;> first | exact Nat.le_refl _ | (simp; done) | (simp; omega) | omega)⟩
          · go_roundw
            case rel => exact ⟨0 + 1, by omega, by go_num, (by first | exact HX.out rfl | exact HX.out True.intro | exact HX.out), (by (repeat (with_reducible first | assumption | exact bl_refl _ | refine bl_alloc ?_ | refine bl_iter ?_ | refine bl_drew ?_ | refine bl_drewN ?_ | refine bl_bytes ?_ | refine bl_set ?_ ?_ | refine bl_trans ?_ (by assumption))) <;> first | exact Nat.le_refl _ | (simp; done) | (simp; omega) | omega)⟩
            case measure => simp [intOf]; omega
        · have hkb : ((k : Int) == 0) = false := beq_eq_false_iff_ne.2 (by omega)
          have hokE : okAt l k = true := by unfold okAt; simp [hcls, hk0]
          have hnext : ∀ j, j < k + 1 → okAt l j = true := fun j hj => by
            by_cases e : j = k
            · rw [e]; exact hokE
            · exact hok j (by omega)
          have HX := Lib.hid hnext
          clear hok hokE hnext hcls
          go_wp2_with (go_at_call 137; refine hcl'.out.mono ?_; rintro e w1 ⟨rfl, hb⟩)
          go_roundw
          case rel => exact ⟨k + 1, by omega, by go_num, HX.out, (by (repeat (with_reducible first | assumption | exact bl_refl _ | refine bl_alloc ?_ | refine bl_iter ?_ | refine bl_drew ?_ | refine bl_drewN ?_ | refine bl_bytes ?_ | refine bl_set ?_ ?_ | refine bl_trans ?_ (by assumption))) <;> first | exact Nat.le_refl _ | (simp; done) | (simp; omega) | omega)⟩
          case measure => simp [intOf]; omega
      · have hcb : (classOf (gb l (k + 1)) != 2) = true := by simp [hcls]
        have hf : wholeB l = false := by
          unfold wholeB
          rw [all_false (k := k) (by omega) (by unfold okAt; simp [hcls])]; simp
        have hW := Lib.hid hf
        clear hcls hf hok
        have hcl' := Lib.hid hcl
        clear hcl
        go_wp2_with (go_at_call 137; refine hcl'.out.mono ?_; rintro e w1 ⟨rfl, hb⟩)
        go_ret
        exact ⟨ret_bool hW.out.symm, (by (repeat (with_reducible first | assumption | exact bl_refl _ | refine bl_alloc ?_ | refine bl_iter ?_ | refine bl_drew ?_ | refine bl_drewN ?_ | refine bl_bytes ?_ | refine bl_set ?_ ?_ | refine bl_trans ?_ (by assumption))) <;> first | exact Nat.le_refl _ | (simp; done) | (simp; omega) | omega)⟩
    · have hf : wholeB l = true := by
        unfold wholeB
        rw [all_true (f := okAt l) (n := l.length - 1) (fun j hj => hok j (by omega))]; simp [HN.out, hpos]
      have hW := Lib.hid hf
      clear hf hok
      have t1 : ¬ k < l.length - 1 := by omega
      go_wp2
      go_ret
      exact ⟨ret_bool hW.out.symm, (by (repeat (with_reducible first | assumption | exact bl_refl _ | refine bl_alloc ?_ | refine bl_iter ?_ | refine bl_drew ?_ | refine bl_drewN ?_ | refine bl_bytes ?_ | refine bl_set ?_ ?_ | refine bl_trans ?_ (by assumption))) <;> first | exact Nat.le_refl _ | (simp; done) | (simp; omega) | omega)⟩

def maskOf (n : Nat) : Int := match n with | 1 => 127 | 2 => 31 | 3 => 15 | 4 => 7 | _ => 0
/-- the rune, as far as byte k -/
def runeK (l : List UInt8) : Nat → Int
  | 0 => gb l 0 % (maskOf l.length + 1)
  | k + 1 => runeK l k * 64 + gb l (k + 1) % 64
def valueOf (l : List UInt8) : Int := if wholeB l then runeK l (l.length - 1) else -1

theorem maskOf_r (n : Nat) : 0 ≤ maskOf n ∧ maskOf n ≤ 127 := by unfold maskOf; split <;> omega
theorem runeK_r (l : List UInt8) (k : Nat) (hk : k < 4) : 0 ≤ runeK l k ∧ runeK l k < 128 * 64 ^ k := by
  have h0 : 0 ≤ runeK l 0 ∧ runeK l 0 < 128 := by
    unfold runeK; have := maskOf_r l.length
    exact ⟨Int.emod_nonneg _ (by omega), by have := Int.emod_lt_of_pos (gb l 0) (b := maskOf l.length + 1) (by omega); omega⟩
  have step : ∀ k, 0 ≤ runeK l k → runeK l (k + 1) = runeK l k * 64 + gb l (k + 1) % 64 := fun k _ => rfl
  rcases (by omega : k = 0 ∨ k = 1 ∨ k = 2 ∨ k = 3) with rfl | rfl | rfl | rfl
  · simpa using h0
  all_goals simp only [runeK] at h0 ⊢; omega
theorem or6 (q x : Int) (h0 : 0 ≤ q) (h1 : q < 33554432) (h2 : 0 ≤ x) (h3 : x < 256) : bits .or .i32 (q * 64) (wrap32 (bits .and .u8 x 63)) = q * 64 + x % 64 := by
  rw [u8_and63 x h2 h3]
  have : wrap32 (x % 64) = x % 64 := by unfold wrap32; omega
  rw [this, i32_or6 _ _ (by omega) (by omega) (by omega) (by omega) (by omega)]
theorem and_mask (n : Nat) (x : Int) (hn : 1 ≤ n ∧ n ≤ 4) (h2 : 0 ≤ x) (h3 : x < 256) : wrap32 (bits .and .u8 x (maskOf n)) = x % (maskOf n + 1) := by
  rcases (by omega : n = 1 ∨ n = 2 ∨ n = 3 ∨ n = 4) with rfl | rfl | rfl | rfl
  all_goals simp only [maskOf]
  · have h7 : bits .and .u8 x 127 = x % 128 := bits_mask .u8 8 (by decide) wraps_u8 7 (by decide) x h2 h3
    rw [h7]; unfold wrap32; omega
  · rw [u8_and31 x h2 h3]; unfold wrap32; omega
  · rw [u8_and15 x h2 h3]; unfold wrap32; omega
  · rw [u8_and7 x h2 h3]; unfold wrap32; omega
theorem wholeB_len {l : List UInt8} (h : wholeB l = true) : 0 < l.length ∧ l.length ≤ 4 := by
  unfold wholeB at h
  simp only [Bool.and_eq_true, decide_eq_true_eq, beq_iff_eq] at h
  have := needOf_lo (gb l 0)
  omega

set_option maxRecDepth 100000 in
set_option maxHeartbeats 1000000 in
theorem Value_any (A : Option Addr) (c : Nat) (l : List UInt8) (w : World) (hT : Tabs w) (hA : BytesAt w A l) (hc : l.length ≤ c) (hm : l.length ≤ 9223372036854775807) :
    Calls Tryd.prog 122 #[.slice A l.length c] w fun e w' => e = .returned (.int .i32 (valueOf l)) ∧ Below w.heap.size w w' := by
  have hW := Lib.hid (Whole_any A c l w hT hA hc hm)
  cases hwb : wholeB l
  · rw [hwb] at hW
    have hv : valueOf l = -1 := by unfold valueOf; rw [hwb]; rfl
    have HV := Lib.hid hv
    clear hwb hv
    go_enter Tryd.func122, Tryd.ntmps122
    go_wp2_with (go_at_call 131; refine hW.out.mono ?_; rintro e w1 ⟨rfl, hb⟩)
    go_ret
    exact ⟨ret_int HV.out.symm, by assumption⟩
  · rw [hwb] at hW
    have hv : valueOf l = runeK l (l.length - 1) := by unfold valueOf; rw [hwb]; rfl
    have hlen := wholeB_len hwb
    obtain ⟨b, off, rfl, hcell⟩ := hA hlen.1
    have c0 : w.cell? ⟨b, off, none⟩ = some (.int .u8 (gb l 0)) := hcell 0 hlen.1
    have cm : w.cell? ⟨0, l.length, none⟩ = some (.int .u8 (maskOf l.length)) := hT.masks _ _ (by
      rcases (by omega : l.length = 1 ∨ l.length = 2 ∨ l.length = 3 ∨ l.length = 4) with h | h | h | h <;> rw [h] <;> rfl)
    have hlt : (l.length : Int) < 5 := by omega
    have hl1 := hlen.1
    have hl4 := hlen.2
    have hcap : (c = 1 ∧ l.length = 1) ∨ 1 < c := by omega
    have h0 := runeK_r l 0 (by omega)
    have e0 : wrap32 (bits .and .u8 (gb l 0) (maskOf l.length)) = runeK l 0 := by rw [and_mask _ _ ⟨hl1, hl4⟩ (gb_lo _ _) (gb_hi _ _)]; rfl
    have HV := Lib.hid hv
    have HC := Lib.hid hcell
    have HT := Lib.hid hT
    have E0 := Lib.hid e0
    have H0 := Lib.hid h0
    clear hwb hv hcell hT hA hlen e0 h0
    rcases hcap with ⟨rfl, h1⟩ | hcap
    · rw [h1] at hW cm ⊢
      have H1 := Lib.hid h1
      rw [h1] at E0
      clear h1 hl1 hl4 hlt hm hc
      generalize hmm : maskOf 1 = m1 at *
      have HM := Lib.hid hmm
      clear hmm
      go_enter Tryd.func122, Tryd.ntmps122
      go_wp2_with (go_at_call 131; refine hW.out.mono ?_; rintro e w1 ⟨rfl, hb⟩; have c01 := bl_cell hb c0; have cm1 := bl_cell hb cm)
      go_quiet (fail)
      go_wp2
      go_loopw [3, 21] (fun r i wr => i = .int .i64 0 ∧ r = .int .i32 (runeK l 0) ∧ Below w.heap.size w wr) (fun _ i _ => 0)
      case atStart => exact ⟨rfl, by rw [← E0.out], (by (repeat (with_reducible first | assumption | exact bl_refl _ | refine bl_alloc ?_ | refine bl_iter ?_ | refine bl_drew ?_ | refine bl_drewN ?_ | refine bl_bytes ?_ | refine bl_set ?_ ?_ | refine bl_trans ?_ (by assumption))) <;> first | exact Nat.le_refl _ | (simp; done) | (simp; omega) | omega)⟩
      case round =>
        obtain ⟨rfl, rfl, hB⟩ := hrel
        go_wp2
        go_ret
        exact ⟨ret_int (by rw [HV.out, H1.out]), (by (repeat (with_reducible first | assumption | exact bl_refl _ | refine bl_alloc ?_ | refine bl_iter ?_ | refine bl_drew ?_ | refine bl_drewN ?_ | refine bl_bytes ?_ | refine bl_set ?_ ?_ | refine bl_trans ?_ (by assumption))) <;> first | exact Nat.le_refl _ | (simp; done) | (simp; omega) | omega)⟩
    · go_enter Tryd.func122, Tryd.ntmps122
      go_wp2_with (go_at_call 131; refine hW.out.mono ?_; rintro e w1 ⟨rfl, hb⟩; have c01 := bl_cell hb c0; have cm1 := bl_cell hb cm)
      go_quiet (fail)
      go_wp2
      go_loopw [3, 21] (fun r i wr => ∃ k : Nat, k < l.length ∧ i = .int .i64 k ∧ r = .int .i32 (runeK l k) ∧ Below w.heap.size w wr) (fun _ i _ => l.length - (intOf i).toNat)
      case atStart => exact ⟨0, hl1, rfl, by rw [← E0.out], (by (repeat (with_reducible first | assumption | exact bl_refl _ | refine bl_alloc ?_ | refine bl_iter ?_ | refine bl_drew ?_ | refine bl_drewN ?_ | refine bl_bytes ?_ | refine bl_set ?_ ?_ | refine bl_trans ?_ (by assumption))) <;> first | exact Nat.le_refl _ | (simp; done) | (simp; omega) | omega)⟩
      case round =>
        obtain ⟨k, hk, rfl, rfl, hB⟩ := hrel
        have hr := runeK_r l k (by omega)
        have hr2 : runeK l k < 33554432 := by
          rcases (by omega : k = 0 ∨ k = 1 ∨ k = 2 ∨ k = 3) with rfl | rfl | rfl | rfl <;> omega
        have hr1 := hr.1
        clear hr
        by_cases t1 : k < l.length - 1
        · have ck : wr.cell? ⟨b, off + 1 + k, none⟩ = some (.int .u8 (gb l (k + 1))) := by
            have := bl_cell hB (HC.out (k + 1) (by omega)); rwa [show off + (k + 1) = off + 1 + k from by omega] at this
          have e1 := or6 (runeK l k) (gb l (k + 1)) hr1 hr2 (gb_lo _ _) (gb_hi _ _)
          have E1 := Lib.hid e1
          clear e1
          go_wp2
          go_roundw
          case rel => exact ⟨k + 1, by omega, by go_num, by rw [E1.out]; rfl, (by (repeat (with_reducible first | assumption | exact bl_refl _ | refine bl_alloc ?_ | refine bl_iter ?_ | refine bl_drew ?_ | refine bl_drewN ?_ | refine bl_bytes ?_ | refine bl_set ?_ ?_ | refine bl_trans ?_ (by assumption))) <;> first | exact Nat.le_refl _ | (simp; done) | (simp; omega) | omega)⟩
          case measure => simp [intOf]; omega
        · have he : l.length - 1 = k := by omega
          have HE := Lib.hid he
          clear he
          go_wp2
          go_ret
          exact ⟨ret_int (by rw [HV.out, HE.out]), (by (repeat (with_reducible first | assumption | exact bl_refl _ | refine bl_alloc ?_ | refine bl_iter ?_ | refine bl_drew ?_ | refine bl_drewN ?_ | refine bl_bytes ?_ | refine bl_set ?_ ?_ | refine bl_trans ?_ (by assumption))) <;> first | exact Nat.le_refl _ | (simp; done) | (simp; omega) | omega)⟩

theorem classOf_2 (x : Int) (h0 : 0 ≤ x) : classOf x = 2 ↔ tl x = true := by
  rw [tl_iff]
  rcases classOf_range x h0 with h | h | h | h | h | h <;> omega
theorem secondOk_sc (a x : Int) (h0 : 1 < needOf a) : (secondOk a x = true ∧ tl x = true) ↔ sc a x = true := by
  have hsc := sc_iff (a := a) (x := x)
  have ht := tl_iff (x := x)
  rw [hsc, ht]
  unfold secondOk leastOf mostOf
  simp only [Bool.and_eq_true, decide_eq_true_eq, h0, if_true]
  by_cases h1 : a = 0xe0
  · subst h1; simp; omega
  by_cases h2 : a = 0xf0
  · subst h2; simp; omega
  by_cases h3 : a = 0xed
  · subst h3; simp; omega
  by_cases h4 : a = 0xf4
  · subst h4; simp; omega
  simp [h1, h2, h3, h4]; omega
theorem needOf_iff (x : Int) (h0 : 0 ≤ x) : needOf x = (if x < 0x80 then 1 else if x < 0xc2 then 0 else if x < 0xe0 then 2 else if x < 0xf0 then 3 else if x < 0xf5 then 4 else 0) := by
  unfold needOf; (repeat' split) <;> omega
theorem wholeB_iff (l : List UInt8) : wholeB l = true ↔ 0 < l.length ∧ encLen l = l.length := by
  have r0 := gb_lo l 0
  have r1 := gb_lo l 1
  have r2 := gb_lo l 2
  have r3 := gb_lo l 3
  by_cases h0 : l.length = 0
  · simp [wholeB, h0]
  have hE : encLen l = enc4 (gb l 0) (gb l 1) (gb l 2) (gb l 3) := by unfold encLen; rw [if_neg h0]
  have hN := needOf_iff (gb l 0) r0
  have key : ∀ n, l.length = n + 1 → (wholeB l = true ↔ needOf (gb l 0) = (n + 1 : Nat) ∧ ∀ i, i < n → okAt l i = true) := fun n hn => by
    unfold wholeB
    rw [hn]; simp
  by_cases h4 : 4 < l.length
  · have := needOf_lo (gb l 0)
    obtain ⟨n, hn⟩ : ∃ n, l.length = n + 1 := ⟨l.length - 1, by omega⟩
    rw [key n hn]
    have h5 := encLen_le4 l
    constructor
    · rintro ⟨h, _⟩; omega
    · rintro ⟨h, h'⟩; omega
  have ok0 : 1 < needOf (gb l 0) → (okAt l 0 = true ↔ sc (gb l 0) (gb l 1) = true) := fun hn => by
    rw [← secondOk_sc _ _ hn]
    simp [okAt, classOf_2 _ r1, and_comm]
  have ok1 : okAt l 1 = true ↔ tl (gb l 2) = true := by simp [okAt, classOf_2 _ r2]
  have ok2 : okAt l 2 = true ↔ tl (gb l 3) = true := by simp [okAt, classOf_2 _ r3]
  rcases (by omega : l.length = 1 ∨ l.length = 2 ∨ l.length = 3 ∨ l.length = 4) with k | k | k | k
  · rw [key 0 k, k, hE, hN]; unfold enc4; constructor
    · rintro ⟨h, _⟩; refine ⟨by omega, ?_⟩; rw [if_pos]; (repeat' split at h) <;> omega
    · rintro ⟨_, h⟩; refine ⟨?_, fun i hi => by omega⟩; (repeat' split at h) <;> simp_all
  · rw [key 1 k, k]
    constructor
    · rintro ⟨h, h2⟩; refine ⟨by omega, ?_⟩
      have := (ok0 (by omega)).1 (h2 0 (by omega))
      rw [hN] at h
      have hx : 0xc2 ≤ gb l 0 ∧ gb l 0 < 0xe0 := by (repeat' split at h) <;> omega
      rw [hE]; unfold enc4; rw [if_neg (by omega), if_neg (by omega), if_pos (by omega), if_pos (sc_tl this)]
    · rintro ⟨_, h⟩
      rcases encLen_cases l with h' | ⟨h', _, r⟩ | ⟨h', _, r1, r2, r3⟩ | ⟨h', _, r1, r2, r3, r4⟩ | ⟨h', _, r1, r2, r3, r4, r5⟩
      · omega
      · omega
      · have hn : needOf (gb l 0) = 2 := by rw [hN, if_neg (by omega), if_neg (by omega), if_pos (by omega)]
        refine ⟨hn, fun i hi => ?_⟩
        obtain rfl : i = 0 := by omega
        rw [ok0 (by omega), sc_iff]; rw [tl_iff] at r3; omega
      · omega
      · omega
  · rw [key 2 k, k]
    constructor
    · rintro ⟨h, h2⟩; refine ⟨by omega, ?_⟩
      have h3 := (ok0 (by omega)).1 (h2 0 (by omega))
      have h4 := ok1.1 (h2 1 (by omega))
      rw [hN] at h
      have hx : 0xe0 ≤ gb l 0 ∧ gb l 0 < 0xf0 := by (repeat' split at h) <;> omega
      rw [hE]; unfold enc4; rw [if_neg (by omega), if_neg (by omega), if_neg (by omega), if_pos (by omega), if_pos (by rw [h3, h4]; rfl)]
    · rintro ⟨_, h⟩
      rcases encLen_cases l with h' | ⟨h', _, r⟩ | ⟨h', _, r1, r2, r3⟩ | ⟨h', _, r1, r2, r3, r4⟩ | ⟨h', _, r1, r2, r3, r4, r5⟩
      · omega
      · omega
      · omega
      · have hn : needOf (gb l 0) = 3 := by rw [hN, if_neg (by omega), if_neg (by omega), if_neg (by omega), if_pos (by omega)]
        refine ⟨hn, fun i hi => ?_⟩
        rcases (by omega : i = 0 ∨ i = 1) with rfl | rfl
        · rw [ok0 (by omega)]; exact r3
        · rw [ok1]; exact r4
      · omega
  · rw [key 3 k, k]
    constructor
    · rintro ⟨h, h2⟩; refine ⟨by omega, ?_⟩
      have h3 := (ok0 (by omega)).1 (h2 0 (by omega))
      have h4 := ok1.1 (h2 1 (by omega))
      have h5 := ok2.1 (h2 2 (by omega))
      rw [hN] at h
      have hx : 0xf0 ≤ gb l 0 ∧ gb l 0 < 0xf5 := by (repeat' split at h) <;> omega
      rw [hE]; unfold enc4; rw [if_neg (by omega), if_neg (by omega), if_neg (by omega), if_neg (by omega), if_pos (by omega), if_pos (by rw [h3, h4, h5]; rfl)]
    · rintro ⟨_, h⟩
      rcases encLen_cases l with h' | ⟨h', _, r⟩ | ⟨h', _, r1, r2, r3⟩ | ⟨h', _, r1, r2, r3, r4⟩ | ⟨h', _, r1, r2, r3, r4, r5⟩
      · omega
      · omega
      · omega
      · omega
      · have hn : needOf (gb l 0) = 4 := by rw [hN, if_neg (by omega), if_neg (by omega), if_neg (by omega), if_neg (by omega), if_pos (by omega)]
        refine ⟨hn, fun i hi => ?_⟩
        rcases (by omega : i = 0 ∨ i = 1 ∨ i = 2) with rfl | rfl | rfl
        · rw [ok0 (by omega)]; exact r3
        · rw [ok1]; exact r4
        · rw [ok2]; exact r5
theorem valueOf_rune {l : List UInt8} (h : wholeB l = true) : valueOf l = runeOf l := by
  unfold valueOf; rw [if_pos h]
  have h' := (wholeB_iff l).1 h
  have h4 := encLen_le4 l
  have e := h'.2
  have r0 := gb_lo l 0; have r0' := gb_hi l 0
  rcases encLen_cases l with k | ⟨k, _, r⟩ | ⟨k, _, r1, r2, r3⟩ | ⟨k, _, r1, r2, r3, r4⟩ | ⟨k, _, r1, r2, r3, r4, r5⟩
  · omega
  · rw [runeOf_1 k, show l.length - 1 = 0 from by omega]; unfold runeK; rw [show l.length = 1 from by omega]; show gb l 0 % (127 + 1) = _; omega
  · rw [runeOf_2 k, show l.length - 1 = 1 from by omega]; unfold runeK; unfold runeK; rw [show l.length = 2 from by omega]; rfl
  · rw [runeOf_3 k, show l.length - 1 = 2 from by omega]; unfold runeK; unfold runeK; unfold runeK; rw [show l.length = 3 from by omega]; rfl
  · rw [runeOf_4 k, show l.length - 1 = 3 from by omega]; unfold runeK; unfold runeK; unfold runeK; unfold runeK; rw [show l.length = 4 from by omega]; rfl
theorem valueOf_neg {l : List UInt8} (h : wholeB l = false) : valueOf l = -1 := by unfold valueOf; rw [h]; rfl
theorem valueOf_ge (l : List UInt8) : 0 ≤ valueOf l ↔ wholeB l = true := by
  cases h : wholeB l
  · rw [valueOf_neg h]; simp
  · rw [valueOf_rune h]; simp [(runeOf_r l).1]

/-! ### the seam -/
/-- the bytes at the seam: k of a, j of b -/
def seamL (a b : List UInt8) (k j : Nat) : List UInt8 := a.drop (a.length - k) ++ b.take j
theorem seamL_len (a b : List UInt8) (k j : Nat) (hk : k ≤ a.length) (hj : j ≤ b.length) : (seamL a b k j).length = k + j := by
  unfold seamL; rw [List.length_append, List.length_drop, List.length_take]; omega
theorem seamL_whole (a b : List UInt8) (k j : Nat) (hk0 : 0 < k) (hk : k ≤ a.length) (hj : j ≤ b.length) : wholeB (seamL a b k j) = true ↔ eL (a ++ b) (a.length - k) = k + j := by
  rw [wholeB_iff, seamL_len a b k j hk hj]
  have e : (a ++ b).drop (a.length - k) = seamL a b k j ++ b.drop j := by
    unfold seamL; rw [drop_left a b _ (by omega), List.append_assoc, List.take_append_drop]
  unfold eL; rw [e]
  have hl := seamL_len a b k j hk hj
  constructor
  · rintro ⟨_, h⟩; rw [(encLen_append (by omega)).1]; exact h
  · intro h; refine ⟨by omega, ?_⟩; rw [(encLen_append' (b := b.drop j) (by omega)).1]; exact h
theorem seamL_rune (a b : List UInt8) (k j : Nat) (hk0 : 0 < k) (hk : k ≤ a.length) (hj : j ≤ b.length) (h : wholeB (seamL a b k j) = true) : valueOf (seamL a b k j) = runeOf ((a ++ b).drop (a.length - k)) := by
  rw [valueOf_rune h]
  have e : (a ++ b).drop (a.length - k) = seamL a b k j ++ b.drop j := by
    unfold seamL; rw [drop_left a b _ (by omega), List.append_assoc, List.take_append_drop]
  rw [e, (encLen_append (by have := ((wholeB_iff _).1 h); omega)).2]

/-- one try of seam -/
def seamStep (a b : List UInt8) (k j : Nat) (s : Int × Int) : Int × Int := if 0 ≤ valueOf (seamL a b k j) then ((k : Int) + j - 1, (k : Int) + j - unitsOf (valueOf (seamL a b k j))) else s
/-- the tries with k, up to j of them -/
def seamIn (a b : List UInt8) (k : Nat) (s : Int × Int) : Nat → Int × Int
  | 0 => s
  | j + 1 => seamStep a b k (j + 1) (seamIn a b k s j)
def seamOut (a b : List UInt8) (m : Nat) : Nat → Int × Int
  | 0 => (0, 0)
  | k + 1 => seamIn a b (k + 1) (seamOut a b m k) m
def seamOf (a b : List UInt8) : Int × Int := seamOut a b (min 3 b.length) (min 3 a.length)
theorem seamIn_none {a b : List UInt8} {k : Nat} {s : Int × Int} : ∀ m, (∀ j, 0 < j → j ≤ m → wholeB (seamL a b k j) = false) → seamIn a b k s m = s
  | 0, _ => rfl
  | m + 1, h => by
    unfold seamIn seamStep
    rw [if_neg (by rw [valueOf_neg (h (m + 1) (by omega) (by omega))]; omega)]
    exact seamIn_none m fun j h1 h2 => h j h1 (by omega)
theorem seamIn_one {a b : List UInt8} {k j : Nat} {s : Int × Int} (h0 : 0 < j) (h1 : wholeB (seamL a b k j) = true) : ∀ m, j ≤ m → (∀ i, 0 < i → i ≤ m → i ≠ j → wholeB (seamL a b k i) = false) →
    seamIn a b k s m = ((k : Int) + j - 1, (k : Int) + j - unitsOf (valueOf (seamL a b k j)))
  | 0, h, _ => by omega
  | m + 1, h, hu => by
    unfold seamIn seamStep
    by_cases e : m + 1 = j
    · subst e; rw [if_pos ((valueOf_ge _).2 h1)]
    · rw [if_neg (by rw [valueOf_neg (hu (m + 1) (by omega) (by omega) e)]; omega)]
      exact seamIn_one h0 h1 m (by omega) fun i h1 h2 h3 => hu i h1 (by omega) h3
theorem seamOut_none {a b : List UInt8} {m : Nat} : ∀ n, (∀ k, 0 < k → k ≤ n → ∀ j, 0 < j → j ≤ m → wholeB (seamL a b k j) = false) → seamOut a b m n = (0, 0)
  | 0, _ => rfl
  | n + 1, h => by
    unfold seamOut
    rw [seamIn_none m (h (n + 1) (by omega) (by omega))]
    exact seamOut_none n fun k h1 h2 => h k h1 (by omega)
theorem seamOut_one {a b : List UInt8} {m k j : Nat} (hk0 : 0 < k) (hj0 : 0 < j) (hj : j ≤ m) (h1 : wholeB (seamL a b k j) = true) : ∀ n, k ≤ n → (∀ k', 0 < k' → k' ≤ n → ∀ i, 0 < i → i ≤ m → (k' ≠ k ∨ i ≠ j) → wholeB (seamL a b k' i) = false) →
    seamOut a b m n = ((k : Int) + j - 1, (k : Int) + j - unitsOf (valueOf (seamL a b k j)))
  | 0, h, _ => by omega
  | n + 1, h, hu => by
    unfold seamOut
    by_cases e : n + 1 = k
    · subst e; exact seamIn_one hj0 h1 m hj fun i h2 h3 h4 => hu (n + 1) (by omega) (by omega) i h2 h3 (.inr h4)
    · rw [seamIn_none m fun i h2 h3 => hu (n + 1) (by omega) (by omega) i h2 h3 (.inl e)]
      exact seamOut_one hk0 hj0 hj h1 n (by omega) fun k' h2 h3 i h4 h5 h6 => hu k' h2 (by omega) i h4 h5 h6
theorem join_runes (a b : List UInt8) : runesN (a ++ b) = runesN a + runesN b - (seamOf a b).1 ∧ unitsN (a ++ b) = unitsN a + unitsN b - (seamOf a b).2 := by
  unfold seamOf
  by_cases hc : noCross a b
  · obtain ⟨h1, h2⟩ := runes_noCross hc
    rw [seamOut_none, h1, h2]
    · simp
    · intro k h3 h4 j h5 h6
      rw [← Bool.not_eq_true, seamL_whole a b k j h3 (by omega) (by omega)]
      intro h7
      have := hc (a.length - k) (by omega)
      omega
  · unfold noCross at hc
    obtain ⟨q, hc⟩ := Classical.not_forall.1 hc
    obtain ⟨hq, hc⟩ := Classical.not_imp.1 hc
    have h4 := eL_le4 (a ++ b) q
    obtain ⟨k, hk⟩ : ∃ k, a.length = q + k := ⟨a.length - q, by omega⟩
    obtain ⟨j, hj⟩ : ∃ j, eL (a ++ b) q = k + j := ⟨eL (a ++ b) q - k, by omega⟩
    have hq' : q = a.length - k := by omega
    have hjb : j ≤ b.length := by have := eL_le (a ++ b) q; rw [List.length_append] at this; omega
    subst hq'
    have hw := (seamL_whole a b k j (by omega) (by omega) hjb).2 hj
    obtain ⟨h1, h2⟩ := runes_cross (a := a) (b := b) (k := k) (j := j) (by omega) (by omega) (by omega) hj
    rw [seamOut_one (k := k) (j := j) (by omega) (by omega) (by omega) hw _ (by omega), h1, h2, seamL_rune a b k j (by omega) (by omega) hjb hw]
    · exact ⟨rfl, rfl⟩
    · intro k' h5 h6 i h7 h8 h9
      rw [← Bool.not_eq_true, seamL_whole a b k' i h5 (by omega) (by omega)]
      intro h10
      have := eL_one (l := a ++ b) (p := a.length) (q := a.length - k') (p' := a.length - k) (by omega) (by omega) (by omega) (by omega)
      have hkk : k' = k := by omega
      subst hkk
      omega

/-- the opaque post: no panic -/
def Ko (K : Act → World → Prop) : Exit → Act → World → Prop := fun e a w => e = .normal ∧ K a w
theorem Ko.ok {K : Act → World → Prop} {a : Act} {w : World} (h : K a w) : Ko K .normal a w := ⟨rfl, h⟩

section
variable {P : Program} {ops : Array Oper} {Q : Exit → Act → World → Prop} {S : World → Prop}
theorem reg_begin {id : Nat} {a : Act} {w : World} (S : World → Prop) (hm : P.follows .mixedOrders = true) (hS : S w.drew)
    (h : ∀ K : Act → World → Prop, RowKit.Hid (∀ a w, Q .normal a w → K a w) → S w.drew → wpAnyH P .any ops (Ko K) S ops.size (Array.replicate ops.size false) a w.drew) :
    (Code.region id ops true).wp P Q a w := by
  have h1 := h (fun a w => Q .normal a w) (Lib.hid fun _ _ h => h) hS
  have h2 : (Code.region id ops true).wp P (Ko fun a w => Q .normal a w) a w := wp_region_held hm h1
  exact Code.wp_mono (fun e a w h => by obtain ⟨rfl, h⟩ := h; exact h) h2

theorem reg_take {K : Act → World → Prop} (i : Nat) (d : Option Tmp) (v : Value) {oi : Oper} {fuel : Nat} {listed : Array Bool} {a : Act} {w : World} (hi : ops[i]? = some oi) (hd : oi.dst = d)
    (hs : Region.noSelect ops = true) (hf : Region.free .any ops listed i = true) (hr : (Region.ready .any ops listed).contains i = true) (hw : Region.wanted oi (yielded ops a.tmps) = true)
    (hy : ∀ w, S w → (execOp a.eval oi).run P w = .ok (.value v) w) (hS : S w)
    (h : wpAnyH P .any ops (Ko K) S fuel (listed.setIfInBounds i true) (a.put d v) w) : wpAnyH P .any ops (Ko K) S (fuel + 1) listed a w :=
  wpAnyH_take hi hs hf hr (fun c a w h => absurd h.1 (by simp)) (.inl ⟨hw, hy⟩) hS (hd ▸ h)

theorem reg_done {K : Act → World → Prop} {listed : Array Bool} {a : Act} {w : World} (hr : Region.ready .any ops listed = []) (h : K a w) : ∀ fuel, wpAnyH P .any ops (Ko K) S fuel listed a w :=
  wpAnyH_done hr (Ko.ok h)

/-- the only one that may come up; its own step is shown with the rest as an opaque 'K'' -/
theorem reg_one {K : Act → World → Prop} (i : Nat) {oi : Oper} {fuel : Nat} {listed : Array Bool} {a : Act} {w : World} (hi : ops[i]? = some oi) (hr : Region.ready .any ops listed = [i])
    (hw : Region.wanted oi (yielded ops a.tmps) = true)
    (h : ∀ K' : Act → World → Prop, RowKit.Hid (∀ a w, S w → (S w → wpAnyH P .any ops (Ko K) S fuel (listed.setIfInBounds i true) a w) → K' a w) → Oper.wp P oi a w K' (Ko K)) :
    wpAnyH P .any ops (Ko K) S (fuel + 1) listed a w := by
  refine wpAnyH_all hr (by simp) fun j hj => ?_
  rw [List.mem_singleton] at hj; subst hj
  unfold wpOp
  simp only [hi, hw, if_true]
  exact .inl (h _ (Lib.hid fun a w hS h => ⟨hS, h hS⟩))

theorem upon_step {o : Oper} {a : Act} {w w' : World} {v : Value} {n : Next} {next : Act → World → Prop} {Q : Exit → Act → World → Prop} (he : (execOp a.eval o).run P w = .ok n w') (hn : n = .value v ∨ n = .skip ∧ v = undef)
    (h : next (a.put o.dst v) w') : Oper.wp P o a w next Q := by
  unfold Oper.wp; rw [he]
  rcases hn with rfl | ⟨rfl, rfl⟩ <;> exact h
/-- the only one that may come up: it runs by itself -/
theorem reg_step {K : Act → World → Prop} (i : Nat) (d : Option Tmp) (v : Value) (n : Next) (w' : World) {oi : Oper} {fuel : Nat} {listed : Array Bool} {a : Act} {w : World} (hi : ops[i]? = some oi) (hd : oi.dst = d) (hr : Region.ready .any ops listed = [i])
    (hw : Region.wanted oi (yielded ops a.tmps) = true) (he : (execOp a.eval oi).run P w = .ok n w') (hn : n = .value v ∨ n = .skip ∧ v = undef) (hS : S w')
    (h : wpAnyH P .any ops (Ko K) S fuel (listed.setIfInBounds i true) (a.put d v) w') : wpAnyH P .any ops (Ko K) S (fuel + 1) listed a w :=
  reg_one i hi hr hw fun K' hK' => upon_step he hn (hK'.out _ _ hS fun _ => (hd ▸ h))
/-- the only one that may come up: a call, by its contract -/
theorem reg_call {K : Act → World → Prop} (i : Nat) (d : Option Tmp) (v : Value) (f : FuncId) (args : Array Value) (R : World → Prop) {oi : Oper} {fuel : Nat} {listed : Array Bool} {a : Act} {w : World} (hi : ops[i]? = some oi) (hd : oi.dst = d) (hr : Region.ready .any ops listed = [i])
    (hw : Region.wanted oi (yielded ops a.tmps) = true) (he : (execOp a.eval oi).run P w = .ok (.enter f args) w) (hc : Calls P f args w fun e w' => e = .returned v ∧ R w') (hS : ∀ w', R w' → S w')
    (h : ∀ w', R w' → S w' → wpAnyH P .any ops (Ko K) S fuel (listed.setIfInBounds i true) (a.put d v) w') : wpAnyH P .any ops (Ko K) S (fuel + 1) listed a w :=
  reg_one i hi hr hw fun K' hK' => by
    unfold Oper.wp
    rw [he, Oper.upon_enter]
    refine hc.mono fun e w' he => ?_
    obtain ⟨rfl, hR⟩ := he
    exact hK'.out _ _ (hS w' hR) fun _ => (hd ▸ h w' hR (hS w' hR))
theorem reg_callB {K : Act → World → Prop} (i : Nat) (d : Option Tmp) (v : Value) (f : FuncId) (args : Array Value) {oi : Oper} {fuel : Nat} {listed : Array Bool} {a : Act} {w : World} (hi : ops[i]? = some oi) (hd : oi.dst = d) (hr : Region.ready .any ops listed = [i])
    (hw : Region.wanted oi (yielded ops a.tmps) = true) (he : (execOp a.eval oi).run P w = .ok (.enter f args) w) (hc : Calls P f args w fun e w' => e = .returned v ∧ Below w.heap.size w w') (hS : ∀ w', Below w.heap.size w w' → S w')
    (h : ∀ w', Below w.heap.size w w' → S w' → wpAnyH P .any ops (Ko K) S fuel (listed.setIfInBounds i true) (a.put d v) w') : wpAnyH P .any ops (Ko K) S (fuel + 1) listed a w :=
  reg_call i d v f args _ hi hd hr hw he hc hS h
/-- the same where what it returns is known but for a condition -/
theorem reg_callx {K : Act → World → Prop} (i : Nat) (d : Option Tmp) (f : FuncId) (args : Array Value) (R : Value → World → Prop) {oi : Oper} {fuel : Nat} {listed : Array Bool} {a : Act} {w : World} (hi : ops[i]? = some oi) (hd : oi.dst = d) (hr : Region.ready .any ops listed = [i])
    (hw : Region.wanted oi (yielded ops a.tmps) = true) (he : (execOp a.eval oi).run P w = .ok (.enter f args) w) (hc : Calls P f args w fun e w' => ∃ v, e = .returned v ∧ R v w') (hS : ∀ v w', R v w' → S w')
    (h : ∀ v w', R v w' → S w' → wpAnyH P .any ops (Ko K) S fuel (listed.setIfInBounds i true) (a.put d v) w') : wpAnyH P .any ops (Ko K) S (fuel + 1) listed a w :=
  reg_one i hi hr hw fun K' hK' => by
    unfold Oper.wp
    rw [he, Oper.upon_enter]
    refine hc.mono fun e w' he => ?_
    obtain ⟨v, rfl, hR⟩ := he
    exact hK'.out _ _ (hS v w' hR) fun _ => (hd ▸ h v w' hR (hS v w' hR))
end
end Go.Proofs.YtliphfgiaioebaaDoor
