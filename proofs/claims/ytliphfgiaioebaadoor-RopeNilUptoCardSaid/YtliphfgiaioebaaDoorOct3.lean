/-
  Package octet: Whole and Value.
-/
import Derived.Test.YtliphfgiaioebaaDoorOct2
namespace Go.Proofs.YtliphfgiaioebaaDoor
set_option linter.unusedVariables false
set_option linter.unusedSimpArgs false
open Go.RowKit

/-- byte i + 1 may stand there -/
def okAt (l : List UInt8) (i : Nat) : Bool := (classOf (gb l (i + 1)) == 2) && (!(i == 0) || secondOk (gb l 0) (gb l (i + 1)))
def wholeB (l : List UInt8) : Bool := decide (0 < l.length) && (needOf (gb l 0) == (l.length : Int)) && (List.range (l.length - 1)).all (okAt l)

theorem all_false {f : Nat → Bool} {n k : Nat} (h : k < n) (hf : f k = false) : (List.range n).all f = false := by
  rw [List.all_eq_false]; exact ⟨k, by simpa using h, by simp [hf]⟩
theorem all_true {f : Nat → Bool} {n : Nat} (h : ∀ j, j < n → f j = true) : (List.range n).all f = true := by
  rw [List.all_eq_true]; exact fun x hx => h x (by simpa using hx)

set_option maxRecDepth 100000 in
set_option maxHeartbeats 1000000 in
theorem Whole_any (A : Option Addr) (c : Nat) (l : List UInt8) (w : World) (hT : Tabs w) (hA : BytesAt w A l) (hc : l.length ≤ c) (hm : l.length ≤ 9223372036854775807) :
    Calls Tryd.prog 131 #[.slice A l.length c] w fun e w' => e = .returned (.bool (wholeB l)) ∧ Below w.heap.size w w' := by
  by_cases h0 : l.length = 0
  · have hw : wholeB l = false := by unfold wholeB; simp [h0]
    have hW := Lib.hid hw
    clear hw
    rw [h0]
    go_enter Tryd.func131, Tryd.ntmps131
    go_wp2_with fail
    go_ret
    exact ⟨ret_bool hW.out.symm, bl_refl _⟩
  have hpos : 0 < l.length := by omega
  obtain ⟨b, off, rfl, hcell⟩ := hA hpos
  have hne := Lib.hid (need_any (gb l 0) (gb_lo l 0) (gb_hi l 0) w hT)
  have c0 : w.cell? ⟨b, off, none⟩ = some (.int .u8 (gb l 0)) := hcell 0 hpos
  have hlen0 : ((l.length : Int) == 0) = false := beq_eq_false_iff_ne.2 (by omega)
  have HC := Lib.hid hcell
  have HT := Lib.hid hT
  clear hT hcell hA h0
  by_cases hn : ¬ needOf (gb l 0) = (l.length : Int)
  · have hw : wholeB l = false := by unfold wholeB; simp [hn]
    have hW := Lib.hid hw
    clear hw
    have hb1 : (needOf (gb l 0) != (l.length : Int)) = true := by simpa using hn
    clear hn
    go_enter Tryd.func131, Tryd.ntmps131
    go_wp2_with (go_at_call 136; refine hne.out.mono ?_; rintro e w1 ⟨rfl, hb⟩)
    go_ret
    exact ⟨ret_bool hW.out.symm, by assumption⟩
  have hb1 : (needOf (gb l 0) != (l.length : Int)) = false := by simpa using hn
  have HN := Lib.hid (Classical.not_not.1 hn)
  clear hn
  by_cases hc1 : c = 1
  · obtain rfl := hc1
    have h1 : l.length = 1 := by omega
    have hw : wholeB l = true := by unfold wholeB; simp [h1, HN.out]
    have hW := Lib.hid hw
    clear hw
    rw [h1] at hb1 ⊢
    go_enter Tryd.func131, Tryd.ntmps131
    go_wp2_with (go_at_call 136; refine hne.out.mono ?_; rintro e w1 ⟨rfl, hb⟩)
    go_loopw [20] (fun i wr => i = .int .i64 0 ∧ Below w.heap.size w wr) (fun i _ => 0)
    case atStart => exact ⟨rfl, by assumption⟩
    case round =>
      obtain ⟨rfl, hB⟩ := hrel
      go_wp2
      go_ret
      exact ⟨ret_bool hW.out.symm, by assumption⟩
  have hc2 : 1 < c := by omega
  clear hc1
  go_enter Tryd.func131, Tryd.ntmps131
  go_wp2_with (go_at_call 136; refine hne.out.mono ?_; rintro e w1 ⟨rfl, hb⟩)
  go_loopw [20] (fun i wr => ∃ k : Nat, k < l.length ∧ i = .int .i64 k ∧ (∀ j, j < k → okAt l j = true) ∧ Below w.heap.size w wr) (fun i _ => l.length - (intOf i).toNat)
  case atStart => exact ⟨0, by omega, rfl, fun j h => absurd h (by omega), by assumption⟩
  case round =>
    obtain ⟨k, hk, rfl, hok, hB⟩ := hrel
    by_cases hk1 : k + 1 < l.length
    · have hcl := class_any (gb l (k + 1)) (gb_lo _ _) (gb_hi _ _) wr (HT.out.below hB)
      have ck : wr.cell? ⟨b, off + 1 + k, none⟩ = some (.int .u8 (gb l (k + 1))) := by
        have := bl_cell hB (HC.out (k + 1) hk1); rwa [show off + (k + 1) = off + 1 + k from by omega] at this
      have c00 := bl_cell hB c0
      have t1 : k < l.length - 1 := by omega
      by_cases hcls : classOf (gb l (k + 1)) = 2
      · have hcb : (classOf (gb l (k + 1)) != 2) = false := by simp [hcls]
        have hcl' := Lib.hid hcl
        clear hcl
        by_cases hk0 : k = 0
        · obtain rfl := hk0
          have hokE : okAt l 0 = secondOk (gb l 0) (gb l (0 + 1)) := by unfold okAt; simp [hcls]
          have HE := Lib.hid hokE
          have hnext : secondOk (gb l 0) (gb l (0 + 1)) = true → ∀ j, j < 0 + 1 → okAt l j = true := fun h j hj => by
            obtain rfl : j = 0 := by omega
            rw [hokE]; exact h
          have hstop : secondOk (gb l 0) (gb l (0 + 1)) = false → wholeB l = false := fun h => by
            unfold wholeB
            rw [all_false (k := 0) (by omega) (by rw [hokE]; exact h)]; simp
          have HX := Lib.hid hnext
          have HS := Lib.hid hstop
          clear hok hokE hnext hstop hcls
          generalize hso : secondOk (gb l 0) (gb l (0 + 1)) = so at *
          have HSO := Lib.hid hso
          clear hso
          have H2 : ∀ W, Below wr.heap.size wr W → Calls Tryd.prog 138 #[.int .u8 (gb l 0), .int .u8 (gb l (0 + 1))] W fun e w' => e = .returned (.bool so) ∧ Below W.heap.size W w' := fun W hb => by
            have := Second_any (gb l 0) (gb l (0 + 1)) (gb_lo _ _) (gb_hi _ _) W (HT.out.below (bl_trans hB hb))
            rwa [HSO.out] at this
          have H2' := Lib.hid H2
          clear H2
          cases so
          all_goals
            go_wp2_with (first | (go_at_call 137; refine hcl'.out.mono ?_; rintro e w1 ⟨rfl, hb⟩; have c01 := bl_cell hb c00) | (go_at_call 138; refine (H2'.out _ hb).mono ?_; rintro e w2 ⟨rfl, hb2⟩))
          · go_ret
            exact ⟨ret_bool (by first | exact HS.out rfl | exact HS.out True.intro | exact HS.out : wholeB l = false).symm, (by (repeat (with_reducible first | assumption | exact bl_refl _ | refine bl_alloc ?_ | refine bl_iter ?_ | refine bl_drew ?_ | refine bl_drewN ?_ | refine bl_bytes ?_ | refine bl_set ?_ ?_ | refine bl_trans ?_ (by assumption))) <;> first | exact Nat.le_refl _ | (simp; done) | (simp; omega) | omega)⟩
          · go_roundw
            case rel => exact ⟨0 + 1, by omega, by go_num, (by first | exact HX.out rfl | exact HX.out True.intro | exact HX.out), (by (repeat (with_reducible first | assumption | exact bl_refl _ | refine bl_alloc ?_ | refine bl_iter ?_ | refine bl_drew ?_ | refine bl_drewN ?_ | refine bl_bytes ?_ | refine bl_set ?_ ?_ | refine bl_trans ?_ (by assumption))) <;> first | exact Nat.le_refl _ | (simp; done) | (simp; omega) | omega)⟩
            case measure => simp [intOf]; omega
        · have hkb : ((k : Int) == 0) = false := beq_eq_false_iff_ne.2 (by omega)
          have hokE : okAt l k = true := by unfold okAt; simp [hcls, hk0]
          have hnext : ∀ j, j < k + 1 → okAt l j = true := fun j hj => by
            by_cases e : j = k
            · rw [e]; exact hokE
            · exact hok j (by omega)
          have HX := Lib.hid hnext
          clear hok hokE hnext hcls
          go_wp2_with (go_at_call 137; refine hcl'.out.mono ?_; rintro e w1 ⟨rfl, hb⟩)
          go_roundw
          case rel => exact ⟨k + 1, by omega, by go_num, HX.out, (by (repeat (with_reducible first | assumption | exact bl_refl _ | refine bl_alloc ?_ | refine bl_iter ?_ | refine bl_drew ?_ | refine bl_drewN ?_ | refine bl_bytes ?_ | refine bl_set ?_ ?_ | refine bl_trans ?_ (by assumption))) <;> first | exact Nat.le_refl _ | (simp; done) | (simp; omega) | omega)⟩
          case measure => simp [intOf]; omega
      · have hcb : (classOf (gb l (k + 1)) != 2) = true := by simp [hcls]
        have hf : wholeB l = false := by
          unfold wholeB
          rw [all_false (k := k) (by omega) (by unfold okAt; simp [hcls])]; simp
        have hW := Lib.hid hf
        clear hcls hf hok
        have hcl' := Lib.hid hcl
        clear hcl
        go_wp2_with (go_at_call 137; refine hcl'.out.mono ?_; rintro e w1 ⟨rfl, hb⟩)
        go_ret
        exact ⟨ret_bool hW.out.symm, (by (repeat (with_reducible first | assumption | exact bl_refl _ | refine bl_alloc ?_ | refine bl_iter ?_ | refine bl_drew ?_ | refine bl_drewN ?_ | refine bl_bytes ?_ | refine bl_set ?_ ?_ | refine bl_trans ?_ (by assumption))) <;> first | exact Nat.le_refl _ | (simp; done) | (simp; omega) | omega)⟩
    · have hf : wholeB l = true := by
        unfold wholeB
        rw [all_true (f := okAt l) (n := l.length - 1) (fun j hj => hok j (by omega))]; simp [HN.out, hpos]
      have hW := Lib.hid hf
      clear hf hok
      have t1 : ¬ k < l.length - 1 := by omega
      go_wp2
      go_ret
      exact ⟨ret_bool hW.out.symm, (by (repeat (with_reducible first | assumption | exact bl_refl _ | refine bl_alloc ?_ | refine bl_iter ?_ | refine bl_drew ?_ | refine bl_drewN ?_ | refine bl_bytes ?_ | refine bl_set ?_ ?_ | refine bl_trans ?_ (by assumption))) <;> first | exact Nat.le_refl _ | (simp; done) | (simp; omega) | omega)⟩
end Go.Proofs.YtliphfgiaioebaaDoor
