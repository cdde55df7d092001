/-
  Plain laws: edges of lists of bytes; the sizes as sums over places.
-/
import Derived.Test.YtliphfgiaioebaaDoorSizes
namespace Go.Proofs.YtliphfgiaioebaaDoor
set_option linter.unusedVariables false
set_option linter.unusedSimpArgs false
open Go.RowKit

/-! ### sums -/
def sm (f : Nat → Int) : Nat → Int
  | 0 => 0
  | n + 1 => sm f n + f n
theorem sm_congr {f g : Nat → Int} {n : Nat} (h : ∀ i, i < n → f i = g i) : sm f n = sm g n := by
  induction n with
  | zero => rfl
  | succ n ih => simp only [sm]; rw [ih fun i hi => h i (by omega), h n (by omega)]
theorem sm_add (f : Nat → Int) (m n : Nat) : sm f (m + n) = sm f m + sm (fun i => f (m + i)) n := by
  induction n with
  | zero => simp [sm]
  | succ n ih => rw [← Nat.add_assoc]; simp only [sm]; rw [ih]; omega
theorem sm_zero {f : Nat → Int} {n : Nat} (h : ∀ i, i < n → f i = 0) : sm f n = 0 := by
  induction n with
  | zero => rfl
  | succ n ih => simp only [sm]; rw [ih fun i hi => h i (by omega), h n (by omega)]; omega
theorem sm_const {f : Nat → Int} {n : Nat} {c : Int} (h : ∀ i, i < n → f i = c) : sm f n = n * c := by
  induction n with
  | zero => simp [sm]
  | succ n ih => simp only [sm]; rw [ih fun i hi => h i (by omega), h n (by omega)]; rw [Int.natCast_succ, Int.add_mul]; omega
theorem sm_first {f : Nat → Int} {n : Nat} (hn : 0 < n) (h : ∀ i, 0 < i → i < n → f i = 0) : sm f n = f 0 := by
  obtain ⟨m, rfl⟩ : ∃ m, n = 1 + m := ⟨n - 1, by omega⟩
  rw [sm_add, sm_zero (n := m) (fun i hi => h (1 + i) (by omega) (by omega))]
  simp [sm]
theorem sm_bounds {f : Nat → Int} {n : Nat} {a b : Int} (h : ∀ i, i < n → a ≤ f i ∧ f i ≤ b) : n * a ≤ sm f n ∧ sm f n ≤ n * b := by
  induction n with
  | zero => simp [sm]
  | succ n ih =>
    have h1 := ih fun i hi => h i (by omega)
    have h2 := h n (by omega)
    simp only [sm]; rw [Int.natCast_succ, Int.add_mul, Int.add_mul]; omega
theorem sm_le {f g : Nat → Int} {n : Nat} (h : ∀ i, i < n → f i ≤ g i) : sm f n ≤ sm g n := by
  induction n with
  | zero => simp [sm]
  | succ n ih =>
    have h1 := ih fun i hi => h i (by omega)
    have h2 := h n (by omega)
    simp only [sm]; omega

/-! ### encodings at places -/
def eL (l : List UInt8) (q : Nat) : Nat := encLen (l.drop q)
theorem eL_le (l : List UInt8) (q : Nat) : q + eL l q ≤ max q l.length := by
  have := encLen_le (l.drop q); unfold eL; rw [List.length_drop] at this; omega
theorem eL_le4 (l : List UInt8) (q : Nat) : eL l q ≤ 4 := encLen_le4 _
theorem eL_out (l : List UInt8) (q : Nat) (h : l.length ≤ q) : eL l q = 0 := by
  have := eL_le l q; omega
theorem eL_tails {l : List UInt8} {q i : Nat} (h1 : 0 < i) (h2 : i < eL l q) : tl (gb l (q + i)) = true := by
  unfold eL at h2
  rw [← gb_drop]
  rcases encLen_cases (l.drop q) with h | ⟨h, _, r⟩ | ⟨h, _, r1, r2, r3⟩ | ⟨h, _, r1, r2, r3, r4⟩ | ⟨h, _, r1, r2, r3, r4, r5⟩
  · omega
  · omega
  · obtain rfl : i = 1 := by omega
    exact r3
  · rcases (by omega : i = 1 ∨ i = 2) with rfl | rfl
    · exact sc_tl r3
    · exact r4
  · rcases (by omega : i = 1 ∨ i = 2 ∨ i = 3) with rfl | rfl | rfl
    · exact sc_tl r3
    · exact r4
    · exact r5
theorem eL_tail0 {l : List UInt8} {q : Nat} (h : tl (gb l q) = true) : eL l q = 0 := by
  have e : gb l q = gb (l.drop q) 0 := by rw [gb_drop, Nat.add_zero]
  rw [e, tl_iff] at h
  unfold eL
  rcases encLen_cases (l.drop q) with h' | ⟨h', _, r⟩ | ⟨h', _, r1, r2, r3⟩ | ⟨h', _, r1, r2, r3, r4⟩ | ⟨h', _, r1, r2, r3, r4, r5⟩ <;> omega
theorem eL_in {l : List UInt8} {q p : Nat} (h1 : q < p) (h2 : p < q + eL l q) : eL l p = 0 := by
  apply eL_tail0
  have := eL_tails (l := l) (q := q) (i := p - q) (by omega) (by omega)
  rwa [show q + (p - q) = p from by omega] at this
theorem eL_one {l : List UInt8} {q p : Nat} {p' : Nat} (h1 : q < p) (h2 : p < q + eL l q) (h3 : p' < p) (h4 : p < p' + eL l p') : q = p' := by
  rcases Nat.lt_trichotomy q p' with h | h | h
  · have := eL_in (l := l) (q := q) (p := p') h (by omega); omega
  · exact h
  · have := eL_in (l := l) (q := p') (p := q) h (by omega); omega

/-- a place that no encoding goes over -/
def edgeP (l : List UInt8) (p : Nat) : Prop := ∀ q, q < p → q + eL l q ≤ p
def edgeB (l : List UInt8) (p : Nat) : Bool := insideOf l p == 0
theorem overB_iff (l : List UInt8) (p k : Nat) (hk : 1 ≤ k) : overB l p k ↔ k ≤ p ∧ k < eL l (p - k) := by
  unfold overB stepW eL
  constructor
  · rintro ⟨h1, h2⟩; refine ⟨h1, ?_⟩; split at h2 <;> omega
  · rintro ⟨h1, h2⟩; refine ⟨h1, ?_⟩; split <;> omega
theorem edgeB_iff (l : List UInt8) (p : Nat) : edgeB l p = true ↔ edgeP l p := by
  unfold edgeB edgeP
  simp only [beq_iff_eq]
  constructor
  · intro h q hq
    apply Classical.byContradiction; intro hn
    have h4 := eL_le4 l q
    have ho : overB l p (p - q) := (overB_iff _ _ _ (by omega)).2 ⟨by omega, by rw [show p - (p - q) = q from by omega]; omega⟩
    unfold insideOf at h
    rcases (by omega : p - q = 1 ∨ p - q = 2 ∨ p - q = 3) with e | e | e <;> rw [e] at ho <;> simp only [ho, if_true] at h <;> (repeat' split at h) <;> omega
  · intro h
    apply insideOf_none
    intro j h1 h3 ho
    rw [overB_iff _ _ _ h1] at ho
    have := h (p - j) (by omega); omega
theorem edge_zero (l : List UInt8) : edgeP l 0 := fun q hq => absurd hq (by omega)
theorem edge_next {l : List UInt8} {p : Nat} (h : edgeP l p) : edgeP l (p + stepW (l.drop p)) := by
  intro q hq
  have hw : stepW (l.drop p) = if eL l p = 0 then 1 else eL l p := rfl
  rcases Nat.lt_trichotomy q p with h1 | h1 | h1
  · have := h q h1; omega
  · subst h1; rw [hw]; split <;> omega
  · have : eL l q = 0 := eL_in (q := p) h1 (by rw [hw] at hq; split at hq <;> omega)
    omega
theorem edge_mid {l : List UInt8} {p i : Nat} (h1 : 0 < i) (h2 : i < stepW (l.drop p)) : edgeB l (p + i) = false := by
  have hw : stepW (l.drop p) = if eL l p = 0 then 1 else eL l p := rfl
  rw [← Bool.not_eq_true, edgeB_iff]
  intro h
  have := h p (by omega)
  rw [hw] at h2; split at h2 <;> omega
theorem gb_ascii_edge {l : List UInt8} {p : Nat} (h : tl (gb l p) = false) : edgeB l p = true := by
  rw [edgeB_iff]
  intro q hq
  apply Classical.byContradiction; intro hn
  have := eL_tails (l := l) (q := q) (i := p - q) (by omega) (by omega)
  rw [show q + (p - q) = p from by omega, h] at this; cases this

/-! ### the sizes, by places -/
def runesAt (l : List UInt8) (p : Nat) : Int := if edgeB l p then 1 else 0
def unitsAt (l : List UInt8) (p : Nat) : Int := if edgeB l p then unitsOf (runeOf (l.drop p)) else 0
def endsAt (l : List UInt8) (p : Nat) : Int := if gb l p = 13 ∨ (gb l p = 10 ∧ ¬ (0 < p ∧ gb l (p - 1) = 13)) then 1 else 0
def runesN (l : List UInt8) : Int := sm (runesAt l) l.length
def unitsN (l : List UInt8) : Int := sm (unitsAt l) l.length
def endsN (l : List UInt8) : Int := sm (endsAt l) l.length

theorem rune_low {l : List UInt8} {p : Nat} (hp : p < l.length) (x : Int) (hx : x < 0x80) (h0 : 0 ≤ x) : runeOf (l.drop p) = x ↔ gb l p = x := by
  have e : gb l p = gb (l.drop p) 0 := by rw [gb_drop, Nat.add_zero]
  rw [e]
  have r0 := gb_lo (l.drop p) 0
  have hl : (l.drop p).length ≠ 0 := by rw [List.length_drop]; omega
  rcases encLen_cases (l.drop p) with h' | ⟨h', _, r⟩ | ⟨h', _, r1, r2, r3⟩ | ⟨h', _, r1, r2, r3, r4⟩ | ⟨h', _, r1, r2, r3, r4, r5⟩
  · rw [runeOf_0 h']
    have : ¬ gb (l.drop p) 0 < 0x80 := by
      intro hlt
      unfold encLen enc4 at h'; rw [if_neg hl, if_pos hlt] at h'; omega
    omega
  · rw [runeOf_1 h']
  · rw [runeOf_2 h']; omega
  · rw [runeOf_3 h']; have := sc_iff.1 r3; omega
  · rw [runeOf_4 h']; have := sc_iff.1 r3; omega
theorem last13 {l : List UInt8} {p : Nat} (hp : p < l.length) : runeOf (l.drop p) = 13 ↔ gb l (p + stepW (l.drop p) - 1) = 13 := by
  by_cases h1 : stepW (l.drop p) = 1
  · rw [h1, rune_low hp 13 (by omega) (by omega)]; rfl
  · have hw : stepW (l.drop p) = if eL l p = 0 then 1 else eL l p := rfl
    have hw1 := stepW_pos (l.drop p)
    have hE : 1 < eL l p ∧ stepW (l.drop p) = eL l p := by
      rw [hw] at h1 ⊢
      by_cases h0 : eL l p = 0
      · rw [if_pos h0] at h1; omega
      · rw [if_neg h0] at h1 ⊢; have := (show eL l p ≠ 0 from h0); omega
    have ht := eL_tails (l := l) (q := p) (i := eL l p - 1) (by omega) (by omega)
    rw [hE.2, show p + eL l p - 1 = p + (eL l p - 1) from by omega, rune_low hp 13 (by omega) (by omega)]
    rw [tl_iff] at ht
    constructor
    · intro h
      exfalso
      have : eL l p = 1 := by
        unfold eL encLen enc4
        have e : gb l p = gb (l.drop p) 0 := by rw [gb_drop, Nat.add_zero]
        rw [if_neg (by rw [List.length_drop]; omega), if_pos (by omega)]
      omega
    · intro h; omega
theorem sz_fold (l : List UInt8) : ∀ (k p : Nat) (s : Int × Int × Int × Int), edgeP l p → p ≤ l.length → l.length ≤ p + k → (s.2.2.2 = 13 ↔ 0 < p ∧ gb l (p - 1) = 13) →
    ((placesFrom l k p).foldl (szStep l) s).1 = s.1 + sm (fun i => runesAt l (p + i)) (l.length - p) ∧
    ((placesFrom l k p).foldl (szStep l) s).2.1 = s.2.1 + sm (fun i => unitsAt l (p + i)) (l.length - p) ∧
    ((placesFrom l k p).foldl (szStep l) s).2.2.1 = s.2.2.1 + sm (fun i => endsAt l (p + i)) (l.length - p)
  | 0, p, s, he, h0, h1, h2 => by
    rw [show l.length - p = 0 from by omega]
    simp [placesFrom, sm]
  | k + 1, p, s, he, h0, h1, h2 => by
    unfold placesFrom
    by_cases hp : p < l.length
    · rw [if_pos hp, List.foldl_cons]
      have hw := stepW_pos (l.drop p)
      have hwl := stepW_le (l.drop p) (by rw [List.length_drop]; omega)
      rw [List.length_drop] at hwl
      have hEb := (edgeB_iff l p).2 he
      have h3 : (szStep l s p).2.2.2 = 13 ↔ 0 < p + stepW (l.drop p) ∧ gb l (p + stepW (l.drop p) - 1) = 13 := by
        show runeOf (l.drop p) = 13 ↔ _
        rw [last13 hp]; exact ⟨fun h => ⟨by omega, h⟩, fun h => h.2⟩
      obtain ⟨i1, i2, i3⟩ := sz_fold l k (p + stepW (l.drop p)) (szStep l s p) (edge_next he) (by omega) (by omega) h3
      rw [i1, i2, i3]
      rw [show l.length - p = stepW (l.drop p) + (l.length - (p + stepW (l.drop p))) from by omega, sm_add, sm_add, sm_add]
      rw [sm_first (f := fun i => runesAt l (p + i)) hw (fun i hi hi2 => by simp [runesAt, edge_mid hi hi2]),
        sm_first (f := fun i => unitsAt l (p + i)) hw (fun i hi hi2 => by simp [unitsAt, edge_mid hi hi2]),
        sm_first (f := fun i => endsAt l (p + i)) hw (fun i hi hi2 => by
          have hb := edge_mid (l := l) (p := p) hi hi2
          have ht : tl (gb l (p + i)) = true := by
            rw [← Bool.not_eq_false]; intro hf; rw [gb_ascii_edge hf] at hb; cases hb
          rw [tl_iff] at ht
          simp only [endsAt]; rw [if_neg (by omega)])]
      simp only [Nat.add_zero, ← Nat.add_assoc]
      refine ⟨?_, ?_, ?_⟩
      · simp only [szStep, runesAt, hEb, if_true]; omega
      · simp only [szStep, unitsAt, hEb, if_true]; omega
      · simp only [szStep, endsAt]
        have hc : (runeOf (l.drop p) = 13 ∨ runeOf (l.drop p) = 10 ∧ s.2.2.2 ≠ 13) ↔ (gb l p = 13 ∨ (gb l p = 10 ∧ ¬ (0 < p ∧ gb l (p - 1) = 13))) := by
          rw [rune_low hp 13 (by omega) (by omega), rune_low hp 10 (by omega) (by omega), Ne, h2]
        simp only [hc]; omega
    · rw [if_neg hp, show l.length - p = 0 from by omega]
      simp [sm]
theorem szOf_sm (l : List UInt8) : (szOf l (places l)).1 = runesN l ∧ (szOf l (places l)).2.1 = unitsN l ∧ (szOf l (places l)).2.2.1 = endsN l := by
  have := sz_fold l l.length 0 (0, 0, 0, 0) (edge_zero l) (by omega) (by omega) (by simp)
  simp only [Nat.zero_add, Int.zero_add, Nat.sub_zero] at this
  exact this
end Go.Proofs.YtliphfgiaioebaaDoor
