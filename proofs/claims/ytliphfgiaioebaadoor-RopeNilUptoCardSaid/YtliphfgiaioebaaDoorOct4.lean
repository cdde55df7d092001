/-
  Package octet: Value.
-/
import Derived.Test.YtliphfgiaioebaaDoorOct3
namespace Go.Proofs.YtliphfgiaioebaaDoor
set_option linter.unusedVariables false
set_option linter.unusedSimpArgs false
open Go.RowKit

def maskOf (n : Nat) : Int := match n with | 1 => 127 | 2 => 31 | 3 => 15 | 4 => 7 | _ => 0
/-- the rune, as far as byte k -/
def runeK (l : List UInt8) : Nat → Int
  | 0 => gb l 0 % (maskOf l.length + 1)
  | k + 1 => runeK l k * 64 + gb l (k + 1) % 64
def valueOf (l : List UInt8) : Int := if wholeB l then runeK l (l.length - 1) else -1

theorem maskOf_r (n : Nat) : 0 ≤ maskOf n ∧ maskOf n ≤ 127 := by unfold maskOf; split <;> omega
theorem runeK_r (l : List UInt8) (k : Nat) (hk : k < 4) : 0 ≤ runeK l k ∧ runeK l k < 128 * 64 ^ k := by
  have h0 : 0 ≤ runeK l 0 ∧ runeK l 0 < 128 := by
    unfold runeK; have := maskOf_r l.length
    exact ⟨Int.emod_nonneg _ (by omega), by have := Int.emod_lt_of_pos (gb l 0) (b := maskOf l.length + 1) (by omega); omega⟩
  have step : ∀ k, 0 ≤ runeK l k → runeK l (k + 1) = runeK l k * 64 + gb l (k + 1) % 64 := fun k _ => rfl
  rcases (by omega : k = 0 ∨ k = 1 ∨ k = 2 ∨ k = 3) with rfl | rfl | rfl | rfl
  · simpa using h0
  all_goals simp only [runeK] at h0 ⊢; omega
theorem or6 (q x : Int) (h0 : 0 ≤ q) (h1 : q < 33554432) (h2 : 0 ≤ x) (h3 : x < 256) : bits .or .i32 (q * 64) (wrap32 (bits .and .u8 x 63)) = q * 64 + x % 64 := by
  rw [u8_and63 x h2 h3]
  have : wrap32 (x % 64) = x % 64 := by unfold wrap32; omega
  rw [this, i32_or6 _ _ (by omega) (by omega) (by omega) (by omega) (by omega)]
theorem and_mask (n : Nat) (x : Int) (hn : 1 ≤ n ∧ n ≤ 4) (h2 : 0 ≤ x) (h3 : x < 256) : wrap32 (bits .and .u8 x (maskOf n)) = x % (maskOf n + 1) := by
  rcases (by omega : n = 1 ∨ n = 2 ∨ n = 3 ∨ n = 4) with rfl | rfl | rfl | rfl
  all_goals simp only [maskOf]
  · have h7 : bits .and .u8 x 127 = x % 128 := bits_mask .u8 8 (by decide) wraps_u8 7 (by decide) x h2 h3
    rw [h7]; unfold wrap32; omega
  · rw [u8_and31 x h2 h3]; unfold wrap32; omega
  · rw [u8_and15 x h2 h3]; unfold wrap32; omega
  · rw [u8_and7 x h2 h3]; unfold wrap32; omega
theorem wholeB_len {l : List UInt8} (h : wholeB l = true) : 0 < l.length ∧ l.length ≤ 4 := by
  unfold wholeB at h
  simp only [Bool.and_eq_true, decide_eq_true_eq, beq_iff_eq] at h
  have := needOf_lo (gb l 0)
  omega

set_option maxRecDepth 100000 in
set_option maxHeartbeats 1000000 in
theorem Value_any (A : Option Addr) (c : Nat) (l : List UInt8) (w : World) (hT : Tabs w) (hA : BytesAt w A l) (hc : l.length ≤ c) (hm : l.length ≤ 9223372036854775807) :
    Calls Tryd.prog 122 #[.slice A l.length c] w fun e w' => e = .returned (.int .i32 (valueOf l)) ∧ Below w.heap.size w w' := by
  have hW := Lib.hid (Whole_any A c l w hT hA hc hm)
  cases hwb : wholeB l
  · rw [hwb] at hW
    have hv : valueOf l = -1 := by unfold valueOf; rw [hwb]; rfl
    have HV := Lib.hid hv
    clear hwb hv
    go_enter Tryd.func122, Tryd.ntmps122
    go_wp2_with (go_at_call 131; refine hW.out.mono ?_; rintro e w1 ⟨rfl, hb⟩)
    go_ret
    exact ⟨ret_int HV.out.symm, by assumption⟩
  · rw [hwb] at hW
    have hv : valueOf l = runeK l (l.length - 1) := by unfold valueOf; rw [hwb]; rfl
    have hlen := wholeB_len hwb
    obtain ⟨b, off, rfl, hcell⟩ := hA hlen.1
    have c0 : w.cell? ⟨b, off, none⟩ = some (.int .u8 (gb l 0)) := hcell 0 hlen.1
    have cm : w.cell? ⟨0, l.length, none⟩ = some (.int .u8 (maskOf l.length)) := hT.masks _ _ (by
      rcases (by omega : l.length = 1 ∨ l.length = 2 ∨ l.length = 3 ∨ l.length = 4) with h | h | h | h <;> rw [h] <;> rfl)
    have hlt : (l.length : Int) < 5 := by omega
    have hl1 := hlen.1
    have hl4 := hlen.2
    have hcap : (c = 1 ∧ l.length = 1) ∨ 1 < c := by omega
    have h0 := runeK_r l 0 (by omega)
    have e0 : wrap32 (bits .and .u8 (gb l 0) (maskOf l.length)) = runeK l 0 := by rw [and_mask _ _ ⟨hl1, hl4⟩ (gb_lo _ _) (gb_hi _ _)]; rfl
    have HV := Lib.hid hv
    have HC := Lib.hid hcell
    have HT := Lib.hid hT
    have E0 := Lib.hid e0
    have H0 := Lib.hid h0
    clear hwb hv hcell hT hA hlen e0 h0
    rcases hcap with ⟨rfl, h1⟩ | hcap
    · rw [h1] at hW cm ⊢
      have H1 := Lib.hid h1
      rw [h1] at E0
      clear h1 hl1 hl4 hlt hm hc
      generalize hmm : maskOf 1 = m1 at *
      have HM := Lib.hid hmm
      clear hmm
      go_enter Tryd.func122, Tryd.ntmps122
      go_wp2_with (go_at_call 131; refine hW.out.mono ?_; rintro e w1 ⟨rfl, hb⟩; have c01 := bl_cell hb c0; have cm1 := bl_cell hb cm)
      go_quiet (fail)
      go_wp2
      go_loopw [3, 21] (fun r i wr => i = .int .i64 0 ∧ r = .int .i32 (runeK l 0) ∧ Below w.heap.size w wr) (fun _ i _ => 0)
      case atStart => exact ⟨rfl, by rw [← E0.out], (by (repeat (with_reducible first | assumption | exact bl_refl _ | refine bl_alloc ?_ | refine bl_iter ?_ | refine bl_drew ?_ | refine bl_drewN ?_ | refine bl_bytes ?_ | refine bl_set ?_ ?_ | refine bl_trans ?_ (by assumption))) <;> first | exact Nat.le_refl _ | (simp; done) | (simp; omega) | omega)⟩
      case round =>
        obtain ⟨rfl, rfl, hB⟩ := hrel
        go_wp2
        go_ret
        exact ⟨ret_int (by rw [HV.out, H1.out]), (by (repeat (with_reducible first | assumption | exact bl_refl _ | refine bl_alloc ?_ | refine bl_iter ?_ | refine bl_drew ?_ | refine bl_drewN ?_ | refine bl_bytes ?_ | refine bl_set ?_ ?_ | refine bl_trans ?_ (by assumption))) <;> first | exact Nat.le_refl _ | (simp; done) | (simp; omega) | omega)⟩
    · go_enter Tryd.func122, Tryd.ntmps122
      go_wp2_with (go_at_call 131; refine hW.out.mono ?_; rintro e w1 ⟨rfl, hb⟩; have c01 := bl_cell hb c0; have cm1 := bl_cell hb cm)
      go_quiet (fail)
      go_wp2
      go_loopw [3, 21] (fun r i wr => ∃ k : Nat, k < l.length ∧ i = .int .i64 k ∧ r = .int .i32 (runeK l k) ∧ Below w.heap.size w wr) (fun _ i _ => l.length - (intOf i).toNat)
      case atStart => exact ⟨0, hl1, rfl, by rw [← E0.out], (by (repeat (with_reducible first | assumption | exact bl_refl _ | refine bl_alloc ?_ | refine bl_iter ?_ | refine bl_drew ?_ | refine bl_drewN ?_ | refine bl_bytes ?_ | refine bl_set ?_ ?_ | refine bl_trans ?_ (by assumption))) <;> first | exact Nat.le_refl _ | (simp; done) | (simp; omega) | omega)⟩
      case round =>
        obtain ⟨k, hk, rfl, rfl, hB⟩ := hrel
        have hr := runeK_r l k (by omega)
        have hr2 : runeK l k < 33554432 := by
          rcases (by omega : k = 0 ∨ k = 1 ∨ k = 2 ∨ k = 3) with rfl | rfl | rfl | rfl <;> omega
        have hr1 := hr.1
        clear hr
        by_cases t1 : k < l.length - 1
        · have ck : wr.cell? ⟨b, off + 1 + k, none⟩ = some (.int .u8 (gb l (k + 1))) := by
            have := bl_cell hB (HC.out (k + 1) (by omega)); rwa [show off + (k + 1) = off + 1 + k from by omega] at this
          have e1 := or6 (runeK l k) (gb l (k + 1)) hr1 hr2 (gb_lo _ _) (gb_hi _ _)
          have E1 := Lib.hid e1
          clear e1
          go_wp2
          go_roundw
          case rel => exact ⟨k + 1, by omega, by go_num, by rw [E1.out]; rfl, (by (repeat (with_reducible first | assumption | exact bl_refl _ | refine bl_alloc ?_ | refine bl_iter ?_ | refine bl_drew ?_ | refine bl_drewN ?_ | refine bl_bytes ?_ | refine bl_set ?_ ?_ | refine bl_trans ?_ (by assumption))) <;> first | exact Nat.le_refl _ | (simp; done) | (simp; omega) | omega)⟩
          case measure => simp [intOf]; omega
        · have he : l.length - 1 = k := by omega
          have HE := Lib.hid he
          clear he
          go_wp2
          go_ret
          exact ⟨ret_int (by rw [HV.out, HE.out]), (by (repeat (with_reducible first | assumption | exact bl_refl _ | refine bl_alloc ?_ | refine bl_iter ?_ | refine bl_drew ?_ | refine bl_drewN ?_ | refine bl_bytes ?_ | refine bl_set ?_ ?_ | refine bl_trans ?_ (by assumption))) <;> first | exact Nat.le_refl _ | (simp; done) | (simp; omega) | omega)⟩
end Go.Proofs.YtliphfgiaioebaaDoor
