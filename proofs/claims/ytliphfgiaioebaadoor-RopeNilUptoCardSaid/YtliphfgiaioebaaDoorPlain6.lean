/-
  Plain laws: bounds of the sizes; the measure of two lists of bytes put together.
-/
import Derived.Test.YtliphfgiaioebaaDoorPlain5
import Derived.Test.YtliphfgiaioebaaDoorWeldOf
namespace Go.Proofs.YtliphfgiaioebaaDoor
set_option linter.unusedVariables false
set_option linter.unusedSimpArgs false
open Go.RowKit

theorem sz_bounds (l : List UInt8) : ∀ (k p : Nat), edgeP l p → p ≤ l.length → l.length ≤ p + k →
    ∃ R U E : Int, sm (fun i => runesAt l (p + i)) (l.length - p) = R ∧ sm (fun i => unitsAt l (p + i)) (l.length - p) = U ∧ sm (fun i => endsAt l (p + i)) (l.length - p) = E ∧
      0 ≤ R ∧ R ≤ U ∧ U ≤ 2 * R ∧ 2 * R - U ≤ ((l.length - p : Nat) : Int) - 4 * (U - R) ∧ ((l.length - p : Nat) : Int) - 4 * (U - R) ≤ 3 * (2 * R - U) ∧ 0 ≤ E ∧ E ≤ R
  | 0, p, he, h0, h1 => by
    rw [show l.length - p = 0 from by omega]
    exact ⟨0, 0, 0, rfl, rfl, rfl, by omega⟩
  | k + 1, p, he, h0, h1 => by
    by_cases hp : p < l.length
    · have hw := stepW_pos (l.drop p)
      have hw4 := stepW_le4 (l.drop p)
      have hwl := stepW_le (l.drop p) (by rw [List.length_drop]; omega)
      rw [List.length_drop] at hwl
      have hEb := (edgeB_iff l p).2 he
      obtain ⟨R, U, E, i1, i2, i3, i4⟩ := sz_bounds l k (p + stepW (l.drop p)) (edge_next he) (by omega) (by omega)
      have hs : l.length - p = stepW (l.drop p) + (l.length - (p + stepW (l.drop p))) := by omega
      have huw : (unitsOf (runeOf (l.drop p)) = 2 ∧ stepW (l.drop p) = 4) ∨ (unitsOf (runeOf (l.drop p)) = 1 ∧ stepW (l.drop p) < 4) := by
        have hb := runeOf_big (l.drop p)
        unfold unitsOf stepW
        by_cases h : encLen (l.drop p) = 4
        · left; rw [if_pos (hb.2 h), if_neg (by omega)]; exact ⟨rfl, h⟩
        · right; rw [if_neg (fun h' => h (hb.1 h'))]; refine ⟨rfl, ?_⟩; split
          · omega
          · have := encLen_le4 (l.drop p); omega
      have hee : 0 ≤ endsAt l p ∧ endsAt l p ≤ 1 := by unfold endsAt; split <;> omega
      refine ⟨1 + R, unitsOf (runeOf (l.drop p)) + U, endsAt l p + E, ?_, ?_, ?_, ?_⟩
      · rw [hs, sm_add, sm_first (f := fun i => runesAt l (p + i)) hw (fun i hi hi2 => by simp [runesAt, edge_mid hi hi2])]
        simp only [← Nat.add_assoc, i1, Nat.add_zero]; simp only [runesAt, hEb, if_true]
      · rw [hs, sm_add, sm_first (f := fun i => unitsAt l (p + i)) hw (fun i hi hi2 => by simp [unitsAt, edge_mid hi hi2])]
        simp only [← Nat.add_assoc, i2, Nat.add_zero]; simp only [unitsAt, hEb, if_true]
      · rw [hs, sm_add, sm_first (f := fun i => endsAt l (p + i)) hw (fun i hi hi2 => by
          have hb := edge_mid (l := l) (p := p) hi hi2
          have ht : tl (gb l (p + i)) = true := by
            rw [← Bool.not_eq_false]; intro hf; rw [gb_ascii_edge hf] at hb; cases hb
          rw [tl_iff] at ht
          simp only [endsAt]; rw [if_neg (by omega)])]
        simp only [← Nat.add_assoc, i3, Nat.add_zero]
      · generalize unitsOf (runeOf (l.drop p)) = u at *
        generalize endsAt l p = e at *
        generalize stepW (l.drop p) = w at *
        omega
    · rw [show l.length - p = 0 from by omega]
      exact ⟨0, 0, 0, rfl, rfl, rfl, by omega⟩
theorem weldOf_eq (l : List UInt8) : weldOf l = ⟨l.length, runesN l, unitsN l, endsN l, headOf l, tailOf l⟩ := by
  unfold weldOf; obtain ⟨h1, h2, h3⟩ := szOf_sm l; rw [h1, h2, h3]
theorem sizes_bounds (l : List UInt8) : 0 ≤ runesN l ∧ runesN l ≤ unitsN l ∧ unitsN l ≤ 2 * runesN l ∧ 2 * runesN l - unitsN l ≤ (l.length : Int) - 4 * (unitsN l - runesN l) ∧
    (l.length : Int) - 4 * (unitsN l - runesN l) ≤ 3 * (2 * runesN l - unitsN l) ∧ 0 ≤ endsN l ∧ endsN l ≤ runesN l := by
  obtain ⟨R, U, E, h1, h2, h3, h4⟩ := sz_bounds l l.length 0 (edge_zero l) (by omega) (by omega)
  simp only [Nat.zero_add, Nat.sub_zero] at h1 h2 h3 h4
  have e1 : runesN l = R := h1
  have e2 : unitsN l = U := h2
  have e3 : endsN l = E := h3
  rw [e1, e2, e3]; exact h4
theorem headOf_len (l : List UInt8) : (headOf l).length = min 3 l.length := by unfold headOf; rw [List.length_take]
theorem tailOf_len (l : List UInt8) : (tailOf l).length = min 3 l.length := by unfold tailOf; rw [List.length_drop]; omega
theorem headOf_append (a b : List UInt8) : headOf (a ++ b) = if a.length < 3 then (headOf a ++ headOf b).take 3 else headOf a := by
  unfold headOf
  split
  · rename_i h
    rw [List.take_of_length_le (by omega : a.length ≤ 3)]
    rw [List.take_append, List.take_append, List.take_take]
    congr 2; omega
  · rename_i h
    rw [List.take_append, show 3 - a.length = 0 from by omega]; simp
theorem tailOf_append (a b : List UInt8) : tailOf (a ++ b) = if b.length < 3 then tailOf (tailOf a ++ tailOf b) else tailOf b := by
  unfold tailOf
  split
  · rename_i h
    rw [show b.length - 3 = 0 from by omega, List.drop_zero]
    rw [List.drop_append, List.drop_append, List.drop_drop]
    simp only [List.length_append, List.length_drop]
    congr 2
    · omega
    · omega
  · rename_i h
    rw [List.length_append, show a.length + b.length - 3 = a.length + (b.length - 3) from by omega, drop_right]
/-- the ends tell short bytes whole -/
theorem short_whole (l : List UInt8) (h : l.length ≤ 6) (over : Nat) (ho : over + l.length = (headOf l).length + (tailOf l).length) :
    (headOf l).drop ((headOf l).length - over) = (tailOf l).take over ∧ headOf l ++ (tailOf l).drop over = l := by
  rw [headOf_len, tailOf_len] at ho
  rw [headOf_len]
  unfold headOf tailOf
  by_cases h3 : l.length ≤ 3
  · rw [List.take_of_length_le h3, show l.length - 3 = 0 from by omega, List.drop_zero, show over = l.length from by omega]
    constructor
    · rw [show min 3 l.length - l.length = 0 from by omega, List.drop_zero, List.take_of_length_le (by omega)]
    · rw [List.drop_eq_nil_of_le (by omega), List.append_nil]
  · have e : over = 6 - l.length := by omega
    subst e
    constructor
    · apply List.ext_getElem?
      intro i
      rw [List.getElem?_drop, List.getElem?_take, List.getElem?_take, List.getElem?_drop]
      rw [show min 3 l.length = 3 from by omega]
      by_cases hi : i < 6 - l.length
      · rw [if_pos (by omega), if_pos (by omega)]; congr 1; omega
      · rw [if_neg (by omega), if_neg (by omega)]
    · rw [List.drop_drop, show l.length - 3 + (6 - l.length) = 3 from by omega, List.take_append_drop]
/-- the seam's bytes are in the ends -/
theorem seamL_ends (a b : List UInt8) (k j : Nat) (hk : k ≤ (tailOf a).length) (hj : j ≤ (headOf b).length) :
    (tailOf a).drop ((tailOf a).length - k) ++ (headOf b).take j = seamL a b k j := by
  rw [tailOf_len] at hk
  rw [headOf_len] at hj
  rw [tailOf_len]
  unfold tailOf headOf seamL
  rw [List.drop_drop, List.take_take]
  congr 2 <;> omega
/-- the measure of both -/
theorem weldOf_append (a b : List UInt8) : weldOf (a ++ b) = ⟨a.length + b.length, (weldOf a).runes + (weldOf b).runes - (seamOf a b).1, (weldOf a).units + (weldOf b).units - (seamOf a b).2, (weldOf a).ends + (weldOf b).ends - seamE a b, headOf (a ++ b), tailOf (a ++ b)⟩ := by
  obtain ⟨h1, h2⟩ := join_runes a b
  rw [weldOf_eq, weldOf_eq, weldOf_eq, h1, h2, ends_append, List.length_append]; simp
end Go.Proofs.YtliphfgiaioebaaDoor
