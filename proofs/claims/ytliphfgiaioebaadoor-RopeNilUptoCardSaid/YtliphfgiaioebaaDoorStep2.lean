/-
  Package step: at, inside, Floor, At.
-/
import Derived.Test.YtliphfgiaioebaaDoorStep
namespace Go.Proofs.YtliphfgiaioebaaDoor
set_option linter.unusedVariables false
set_option linter.unusedSimpArgs false
open Go.RowKit

theorem stepVal_take4 (l : List UInt8) (k : Nat) (hk : 4 ≤ k) : stepVal (l.take k) = stepVal l := by
  unfold stepVal stepW whole; rw [encLen_take4 l k hk, runeOf_take4 l k hk]

set_option maxRecDepth 100000 in
set_option maxHeartbeats 1000000 in
theorem at_any (A : Option Addr) (c : Nat) (l : List UInt8) (p : Nat) (w : World) (hT : Tabs w) (hA : BytesAt w A l) (hc : l.length ≤ c) (hm : l.length ≤ 140737488355328) (hp : p < l.length) :
    Calls Tryd.prog 130 #[.slice A l.length c, .int .i64 p] w fun e w' => e = .returned (stepVal (l.drop p)) ∧ Below w.heap.size w w' := by
  obtain ⟨b, off, rfl, hcell⟩ := hA (by omega)
  have hfst : ∀ (q : Nat), p ≤ q → q ≤ l.length → (q = p + 4 ∨ (q = l.length ∧ q < p + 4)) → ∀ W, Below w.heap.size w W →
      (convert 41 9 (.slice (some ⟨b, off + p, none⟩) (q - p) (c - p))).run Tryd.prog W = .ok (.string (bs ((l.drop p).take (q - p)))) W ∧
      Calls Tryd.prog 127 #[.string (bs ((l.drop p).take (q - p)))] W fun e w' => e = .returned (stepVal (l.drop p)) ∧ Below W.heap.size W w' := fun q h1 h2 h3 W hW => by
    refine ⟨conv_bytes W b (off + p) (q - p) (c - p) _ (by simp; omega) (fun i hi => ?_), ?_⟩
    · rw [gb_take _ _ _ hi, gb_drop]
      have := bl_cell hW (hcell (p + i) (by omega)); rwa [← Nat.add_assoc] at this
    · have := first_any ((l.drop p).take (q - p)) W (hT.below hW) (by simp; omega)
      rcases h3 with h3 | h3
      · rwa [show q - p = 4 from by omega, stepVal_take4 _ 4 (by omega)] at *
      · rwa [List.take_of_length_le (by simp; omega)] at *
  have HF := Lib.hid hfst
  clear hfst hcell hT hA
  have hpc : p < c := by omega
  by_cases h4 : p + 4 ≤ l.length
  · have h := HF.out (p + 4) (by omega) h4 (.inl rfl) (w.alloc (.cells #[.int .i32 0, .int .i64 0, .bool false] 158)) (by (repeat (with_reducible first | assumption | exact bl_refl _ | refine bl_alloc ?_ | refine bl_iter ?_ | refine bl_drew ?_ | refine bl_drewN ?_ | refine bl_bytes ?_ | refine bl_set ?_ ?_ | refine bl_trans ?_ (by assumption))) <;> first | exact Nat.le_refl _ | (simp; done) | (simp; omega) | omega)
    rw [show p + 4 - p = 4 from by omega] at h
    have hcv := h.1
    have hca := Lib.hid h.2
    unfold stepVal at hca ⊢
    have h4' : ((p : Int) + 4 ≤ l.length) := by omega
    clear h
    generalize bs ((l.drop p).take 4) = B at *
    generalize runeOf (l.drop p) = r1 at *
    generalize stepW (l.drop p) = r2 at *
    generalize whole (l.drop p) = r3 at *
    go_enter Tryd.func130, Tryd.ntmps130
    go_wp2_with (go_at_call 127; refine hca.out.mono ?_; rintro e w1 ⟨rfl, hb⟩; obtain ⟨hcc, hff⟩ := bcell hb)
    exact bodyPost_ret (v := .agg #[.int .i32 r1, .int .i64 r2, .bool r3]) (by simp [results, Tryd.results130, go_sem, hcc]) rfl ⟨rfl, (by (repeat (with_reducible first | assumption | exact bl_refl _ | refine bl_alloc ?_ | refine bl_iter ?_ | refine bl_drew ?_ | refine bl_drewN ?_ | refine bl_bytes ?_ | refine bl_set ?_ ?_ | refine bl_trans ?_ (by assumption))) <;> first | exact Nat.le_refl _ | (simp; done) | (simp; omega) | omega)⟩
  · have h := HF.out l.length (by omega) (Nat.le_refl _) (.inr ⟨rfl, by omega⟩) (w.alloc (.cells #[.int .i32 0, .int .i64 0, .bool false] 158)) (by (repeat (with_reducible first | assumption | exact bl_refl _ | refine bl_alloc ?_ | refine bl_iter ?_ | refine bl_drew ?_ | refine bl_drewN ?_ | refine bl_bytes ?_ | refine bl_set ?_ ?_ | refine bl_trans ?_ (by assumption))) <;> first | exact Nat.le_refl _ | (simp; done) | (simp; omega) | omega)
    have hcv := h.1
    have hca := Lib.hid h.2
    unfold stepVal at hca ⊢
    have h5' : ((l.length : Int) < p + 4) := by omega
    clear h
    generalize bs ((l.drop p).take (l.length - p)) = B at *
    generalize runeOf (l.drop p) = r1 at *
    generalize stepW (l.drop p) = r2 at *
    generalize whole (l.drop p) = r3 at *
    go_enter Tryd.func130, Tryd.ntmps130
    go_wp2_with (go_at_call 127; refine hca.out.mono ?_; rintro e w1 ⟨rfl, hb⟩; obtain ⟨hcc, hff⟩ := bcell hb)
    exact bodyPost_ret (v := .agg #[.int .i32 r1, .int .i64 r2, .bool r3]) (by simp [results, Tryd.results130, go_sem, hcc]) rfl ⟨rfl, (by (repeat (with_reducible first | assumption | exact bl_refl _ | refine bl_alloc ?_ | refine bl_iter ?_ | refine bl_drew ?_ | refine bl_drewN ?_ | refine bl_bytes ?_ | refine bl_set ?_ ?_ | refine bl_trans ?_ (by assumption))) <;> first | exact Nat.le_refl _ | (simp; done) | (simp; omega) | omega)⟩

/-- does the encoding that begins k bytes ahead of p go over it? -/
def overB (l : List UInt8) (p k : Nat) : Prop := k ≤ p ∧ k < stepW (l.drop (p - k))
instance (l : List UInt8) (p k : Nat) : Decidable (overB l p k) := by unfold overB; exact inferInstance
def insideOf (l : List UInt8) (p : Nat) : Nat := if overB l p 1 then 1 else if overB l p 2 then 2 else if overB l p 3 then 3 else 0
theorem insideOf_found {l : List UInt8} {p k : Nat} (h1 : 1 ≤ k) (h3 : k ≤ 3) (hk : overB l p k) (hj : ∀ j, 1 ≤ j → j < k → ¬ overB l p j) : insideOf l p = k := by
  unfold insideOf
  rcases (by omega : k = 1 ∨ k = 2 ∨ k = 3) with rfl | rfl | rfl
  · rw [if_pos hk]
  · rw [if_neg (hj 1 (by omega) (by omega)), if_pos hk]
  · rw [if_neg (hj 1 (by omega) (by omega)), if_neg (hj 2 (by omega) (by omega)), if_pos hk]
theorem insideOf_none {l : List UInt8} {p : Nat} (hj : ∀ j, 1 ≤ j → j ≤ 3 → ¬ overB l p j) : insideOf l p = 0 := by
  unfold insideOf
  rw [if_neg (hj 1 (by omega) (by omega)), if_neg (hj 2 (by omega) (by omega)), if_neg (hj 3 (by omega) (by omega))]
theorem insideOf_le (l : List UInt8) (p : Nat) : insideOf l p ≤ 3 ∧ insideOf l p ≤ p := by
  unfold insideOf
  by_cases h1 : overB l p 1
  · rw [if_pos h1]; exact ⟨by omega, h1.1⟩
  rw [if_neg h1]
  by_cases h2 : overB l p 2
  · rw [if_pos h2]; exact ⟨by omega, h2.1⟩
  rw [if_neg h2]
  by_cases h3 : overB l p 3
  · rw [if_pos h3]; exact ⟨by omega, h3.1⟩
  · rw [if_neg h3]; omega

set_option maxRecDepth 100000 in
set_option maxHeartbeats 1000000 in
theorem inside_any (A : Option Addr) (c : Nat) (l : List UInt8) (p : Nat) (w : World) (hT : Tabs w) (hA : BytesAt w A l) (hc : l.length ≤ c) (hm : l.length ≤ 140737488355328) (hp : p ≤ l.length) :
    Calls Tryd.prog 120 #[.slice A l.length c, .int .i64 p] w fun e w' => e = .returned (.int .i64 (insideOf l p)) ∧ Below w.heap.size w w' := by
  have hat : ∀ k : Nat, 1 ≤ k → k ≤ p → ∀ W, Below w.heap.size w W → Calls Tryd.prog 130 #[.slice A l.length c, .int .i64 ((p : Int) - k)] W fun e w' => e = .returned (.agg #[.int .i32 (runeOf (l.drop (p - k))), .int .i64 (stepW (l.drop (p - k))), .bool (whole (l.drop (p - k)))]) ∧ Below W.heap.size W w' := fun k h1 h2 W hW => by
    have := at_any A c l (p - k) W (hT.below hW) (hA.below hW) hc hm (by omega)
    rwa [show ((p - k : Nat) : Int) = (p : Int) - k from by omega] at this
  have HAT := Lib.hid hat
  clear hat hT hA
  go_enter Tryd.func120, Tryd.ntmps120
  go_wp2
  go_loopw [5] (fun i wr => ∃ k : Nat, 1 ≤ k ∧ k ≤ 4 ∧ i = .int .i64 k ∧ Hid (∀ j, 1 ≤ j → j < k → ¬ overB l p j) ∧ Below w.heap.size w wr) (fun i _ => 4 - (intOf i).toNat)
  case atStart => exact ⟨1, by omega, by omega, rfl, fun j h1 h2 => absurd h1 (by omega), bl_refl _⟩
  case round =>
    obtain ⟨k, hk1, hk4, rfl, hno, hB⟩ := hrel
    by_cases h3 : k ≤ 3
    · have h3' : (k : Int) ≤ 3 := by omega
      by_cases hkp : k ≤ p
      · have hkp' : (k : Int) ≤ p := by omega
        have hca := Lib.hid (HAT.out k hk1 hkp wr hB)
        by_cases ho : k < stepW (l.drop (p - k))
        · have hr : insideOf l p = k := insideOf_found hk1 h3 ⟨hkp, ho⟩ hno.out
          have HR := Lib.hid hr
          clear hr
          generalize runeOf (l.drop (p - k)) = r1 at *
          generalize stepW (l.drop (p - k)) = r2 at *
          generalize whole (l.drop (p - k)) = r3 at *
          have hfd : ∀ W, (Instr.field 158 (.agg #[.int .i32 r1, .int .i64 r2, .bool r3]) 1).run Tryd.prog W = .ok (.int .i64 r2) W := fun _ => by kernel_rfl
          go_wp2_with (go_at_call 130; refine hca.out.mono ?_; rintro e w1 ⟨rfl, hb⟩)
          go_ret
          exact ⟨ret_int (by rw [HR.out]), (by (repeat (with_reducible first | assumption | exact bl_refl _ | refine bl_alloc ?_ | refine bl_iter ?_ | refine bl_drew ?_ | refine bl_drewN ?_ | refine bl_bytes ?_ | refine bl_set ?_ ?_ | refine bl_trans ?_ (by assumption))) <;> first | exact Nat.le_refl _ | (simp; done) | (simp; omega) | omega)⟩
        · have hnx : ∀ j, 1 ≤ j → j < k + 1 → ¬ overB l p j := fun j h1 h2 => by
            by_cases e : j = k
            · rw [e]; exact fun h => ho h.2
            · exact hno.out j h1 (by omega)
          have HX := Lib.hid hnx
          clear hnx
          generalize runeOf (l.drop (p - k)) = r1 at *
          generalize stepW (l.drop (p - k)) = r2 at *
          generalize whole (l.drop (p - k)) = r3 at *
          have hfd : ∀ W, (Instr.field 158 (.agg #[.int .i32 r1, .int .i64 r2, .bool r3]) 1).run Tryd.prog W = .ok (.int .i64 r2) W := fun _ => by kernel_rfl
          go_wp2_with (go_at_call 130; refine hca.out.mono ?_; rintro e w1 ⟨rfl, hb⟩)
          go_roundw
          case rel => exact ⟨k + 1, by omega, by omega, by go_num, HX, (by (repeat (with_reducible first | assumption | exact bl_refl _ | refine bl_alloc ?_ | refine bl_iter ?_ | refine bl_drew ?_ | refine bl_drewN ?_ | refine bl_bytes ?_ | refine bl_set ?_ ?_ | refine bl_trans ?_ (by assumption))) <;> first | exact Nat.le_refl _ | (simp; done) | (simp; omega) | omega)⟩
          case measure => simp [intOf]; omega
      · have hr : insideOf l p = 0 := insideOf_none (fun j h1 h2 h => by
          by_cases e : j < k
          · exact hno.out j h1 e h
          · exact absurd h.1 (by omega))
        have HR := Lib.hid hr
        have hkp' : ¬ (k : Int) ≤ p := by omega
        clear hr
        go_wp2
        go_ret
        exact ⟨ret_int (by rw [HR.out]; rfl), (by (repeat (with_reducible first | assumption | exact bl_refl _ | refine bl_alloc ?_ | refine bl_iter ?_ | refine bl_drew ?_ | refine bl_drewN ?_ | refine bl_bytes ?_ | refine bl_set ?_ ?_ | refine bl_trans ?_ (by assumption))) <;> first | exact Nat.le_refl _ | (simp; done) | (simp; omega) | omega)⟩
    · have hr : insideOf l p = 0 := insideOf_none (fun j h1 h2 => hno.out j h1 (by omega))
      have HR := Lib.hid hr
      have h3' : ¬ (k : Int) ≤ 3 := by omega
      clear hr
      go_wp2
      go_ret
      exact ⟨ret_int (by rw [HR.out]; rfl), (by (repeat (with_reducible first | assumption | exact bl_refl _ | refine bl_alloc ?_ | refine bl_iter ?_ | refine bl_drew ?_ | refine bl_drewN ?_ | refine bl_bytes ?_ | refine bl_set ?_ ?_ | refine bl_trans ?_ (by assumption))) <;> first | exact Nat.le_refl _ | (simp; done) | (simp; omega) | omega)⟩

def floorOf (l : List UInt8) (p : Nat) : Nat := p - insideOf l p

set_option maxHeartbeats 1000000 in
theorem Floor_any (A : Option Addr) (c : Nat) (l : List UInt8) (p : Nat) (w : World) (hT : Tabs w) (hA : BytesAt w A l) (hc : l.length ≤ c) (hm : l.length ≤ 140737488355328) (hp : p ≤ l.length) :
    Calls Tryd.prog 101 #[.slice A l.length c, .int .i64 p] w fun e w' => e = .returned (.tuple #[.int .i64 (floorOf l p), .int .i64 0]) ∧ Below w.heap.size w w' := by
  have hca := Lib.hid (inside_any A c l p w hT hA hc hm hp)
  have hle := insideOf_le l p
  unfold floorOf
  generalize insideOf l p = q at *
  have hq : ((p - q : Nat) : Int) = (p : Int) - q := by omega
  have HQ := Lib.hid hq
  clear hT hA hq
  go_enter Tryd.func101, Tryd.ntmps101
  go_wp2_with (go_at_call 120; refine hca.out.mono ?_; rintro e w1 ⟨rfl, hb⟩)
  go_ret2
  exact ⟨by rw [HQ.out]; rfl, (by (repeat (with_reducible first | assumption | exact bl_refl _ | refine bl_alloc ?_ | refine bl_iter ?_ | refine bl_drew ?_ | refine bl_drewN ?_ | refine bl_bytes ?_ | refine bl_set ?_ ?_ | refine bl_trans ?_ (by assumption))) <;> first | exact Nat.le_refl _ | (simp; done) | (simp; omega) | omega)⟩
end Go.Proofs.YtliphfgiaioebaaDoor
