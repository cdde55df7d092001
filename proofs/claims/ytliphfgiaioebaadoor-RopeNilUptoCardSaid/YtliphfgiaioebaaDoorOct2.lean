/-
  Package octet: second, Second, Whole and Value.
-/
import Derived.Test.YtliphfgiaioebaaDoorOct
namespace Go.Proofs.YtliphfgiaioebaaDoor
set_option linter.unusedVariables false
set_option linter.unusedSimpArgs false
open Go.RowKit

/-- the least and the greatest byte behind a lead -/
def leastOf (n : Int) : Int := if n = 0xe0 then 0xa0 else if n = 0xf0 then 0x90 else if 1 < needOf n then 0x80 else 1
def mostOf (n : Int) : Int := if n = 0xed then 0x9f else if n = 0xf4 then 0x8f else if 1 < needOf n then 0xbf else 0

theorem needOf_lo (n : Int) : 0 ≤ needOf n ∧ needOf n ≤ 4 := by unfold needOf; (repeat' split) <;> omega

set_option maxHeartbeats 400000 in
theorem second_any (n : Int) (h0 : 0 ≤ n) (h1 : n < 256) (w : World) (hT : Tabs w) :
    Calls Tryd.prog 141 #[.int .u8 n] w fun e w' => e = .returned (.tuple #[.int .u8 (leastOf n), .int .u8 (mostOf n)]) ∧ Below w.heap.size w w' := by
  have hcl := Lib.hid (need_any n h0 h1 w hT)
  clear hT
  have hlo := needOf_lo n
  by_cases e1 : n = 0xe0
  · subst e1
    go_enter Tryd.func141, Tryd.ntmps141
    go_wp2_with fail
    go_ret2
    exact ⟨rfl, bl_refl _⟩
  by_cases e2 : n = 0xed
  · subst e2
    go_enter Tryd.func141, Tryd.ntmps141
    go_wp2_with fail
    go_ret2
    exact ⟨rfl, bl_refl _⟩
  by_cases e3 : n = 0xf0
  · subst e3
    go_enter Tryd.func141, Tryd.ntmps141
    go_wp2_with fail
    go_ret2
    exact ⟨rfl, bl_refl _⟩
  by_cases e4 : n = 0xf4
  · subst e4
    go_enter Tryd.func141, Tryd.ntmps141
    go_wp2_with fail
    go_ret2
    exact ⟨rfl, bl_refl _⟩
  have v1 : leastOf n = if 1 < needOf n then 0x80 else 1 := by unfold leastOf; rw [if_neg e1, if_neg e3]
  have v2 : mostOf n = if 1 < needOf n then 0xbf else 0 := by unfold mostOf; rw [if_neg e2, if_neg e4]
  have V1 := Lib.hid v1
  have V2 := Lib.hid v2
  clear v1 v2
  have b1 : (n == 0xe0) = false := beq_eq_false_iff_ne.2 e1
  have b2 : (n == 0xed) = false := beq_eq_false_iff_ne.2 e2
  have b3 : (n == 0xf0) = false := beq_eq_false_iff_ne.2 e3
  have b4 : (n == 0xf4) = false := beq_eq_false_iff_ne.2 e4
  clear e1 e2 e3 e4
  generalize needOf n = q at *
  by_cases hq : 1 < q
  all_goals
    go_enter Tryd.func141, Tryd.ntmps141
    go_wp2_with (go_at_call 136; refine hcl.out.mono ?_; rintro e w1 ⟨rfl, hb⟩)
    go_ret2
    refine ⟨?_, by assumption⟩
    rw [V1.out, V2.out]
    first | (rw [if_pos (by omega), if_pos (by omega)]; rfl) | (rw [if_neg (by omega), if_neg (by omega)]; rfl)

def secondOk (n m : Int) : Bool := decide (leastOf n ≤ m) && decide (m ≤ mostOf n)

theorem leastOf_r (n : Int) : 0 ≤ leastOf n ∧ leastOf n < 256 := by unfold leastOf; (repeat' split) <;> omega
theorem mostOf_r (n : Int) : 0 ≤ mostOf n ∧ mostOf n < 256 := by unfold mostOf; (repeat' split) <;> omega

set_option maxHeartbeats 400000 in
theorem Second_any (n m : Int) (h0 : 0 ≤ n) (h1 : n < 256) (w : World) (hT : Tabs w) :
    Calls Tryd.prog 138 #[.int .u8 n, .int .u8 m] w fun e w' => e = .returned (.bool (secondOk n m)) ∧ Below w.heap.size w w' := by
  have hcl := Lib.hid (second_any n h0 h1 w hT)
  clear hT
  unfold secondOk
  generalize leastOf n = x at *
  generalize mostOf n = y at *
  by_cases hx : x ≤ m
  all_goals by_cases hy : m ≤ y
  all_goals
    go_enter Tryd.func138, Tryd.ntmps138
    go_wp2_with (go_at_call 141; refine hcl.out.mono ?_; rintro e w1 ⟨rfl, hb⟩)
    go_ret
    exact ⟨ret_bool (by simp [hx, hy]), by assumption⟩
end Go.Proofs.YtliphfgiaioebaaDoor
