/-
  Package weld: seam.
  Plain laws for the steps of a region that draws its order: every world by a name of its own; several that may come up.
  Plain laws for the steps of a region that draws its order: whatever follows is shown in every later world, so a call that answers a known value may be taken first too.
-/
import Derived.Test.YtliphfgiaioebaaDoorB03
import Derived.Laws.Tables
namespace Go.Proofs.YtliphfgiaioebaaDoor
set_option linter.unusedVariables false
set_option linter.unusedSimpArgs false
open Go.RowKit

/-- the four variables of seam -/
def SeamW (w wr : World) (A B : Array Value) (s : Int × Int) : Prop :=
  Below w.heap.size w wr ∧ Blk wr w.heap.size 36 A ∧ Blk wr (w.heap.size + 1) 36 B ∧ Blk wr (w.heap.size + 1 + 1) 34 #[.int .i64 0, .int .i64 0, .int .i64 0, .int .i64 0] ∧
    Blk wr (w.heap.size + 1 + 1 + 1) 34 #[.int .i64 0, .int .i64 s.1, .int .i64 s.2, .int .i64 0]
theorem seamOut_in (a b : List UInt8) (m k : Nat) : seamIn a b (k + 1) (seamOut a b m k) m = seamOut a b m (k + 1) := rfl
set_option maxRecDepth 100000 in
set_option maxHeartbeats 4000000 in
theorem seam_any (a b : List UInt8) (ha : a.length ≤ 268435456) (hb : b.length ≤ 268435456) (w : World) (hT : Tabs w) :
    Calls Tryd.prog 109 #[(weldOf a).val, (weldOf b).val] w fun e w' => e = .returned (szV 0 (seamOf a b).1 (seamOf a b).2 (seamE a b)) ∧ Below w.heap.size w w' := by
  have za := bs_size (tailOf a)
  have zb := bs_size (headOf b)
  have hX : ∀ k j, k ≤ (tailOf a).length → j ≤ (headOf b).length → (bs (tailOf a)).extract ((tailOf a).length - k) (tailOf a).length ++ (bs (headOf b)).extract 0 j = bs (seamL a b k j) := fun k j hk hj => by
    rw [bs_extract, bs_extract, bs_append, List.take_of_length_le (Nat.le_refl _), List.drop_zero, seamL_ends a b k j hk hj]
  have ht := fun W => tailIs_any (tailOf a) 13 W (by rw [tailOf_len]; omega)
  have hE : seamE a b = if endIs (tailOf a) 13 = true ∧ 0 < (headOf b).length ∧ gb (headOf b) 0 = 10 then 1 else 0 := by
    have e1 : gb (headOf b) 0 = gb b 0 := gb_take b 3 0 (by omega)
    have e2 : (0 < (headOf b).length) ↔ 0 < b.length := by rw [headOf_len]; omega
    have e3 : endIs (tailOf a) 13 = true ↔ (0 < a.length ∧ gb a (a.length - 1) = 13) := by
      unfold endIs
      rw [Bool.and_eq_true, decide_eq_true_eq, decide_eq_true_eq, tailOf_len]
      by_cases h : a.length = 0
      · simp [h]
      · have : gb (tailOf a) (min 3 a.length - 1) = gb a (a.length - 1) := by unfold tailOf; rw [gb_drop]; congr 1; omega
        rw [this]; constructor <;> (rintro ⟨h1, h2⟩; exact ⟨by omega, h2⟩)
    unfold seamE
    simp only [e1, e2, e3, and_assoc]
  have hg0 := bs_get' (headOf b) 0
  have hm1 : (tailOf a).length ≤ 3 := by rw [tailOf_len]; omega
  have hm2 : (headOf b).length ≤ 3 := by rw [headOf_len]; omega
  have hS : seamOf a b = seamOut a b (headOf b).length (tailOf a).length := by unfold seamOf; rw [headOf_len, tailOf_len]
  rw [hS, hE, weldOf_val, weldOf_val]
  generalize runesN a = qa1
  generalize unitsN a = qa2
  generalize endsN a = qa3
  generalize runesN b = qb1
  generalize unitsN b = qb2
  generalize endsN b = qb3
  generalize bs (headOf a) = HA
  generalize bs (tailOf b) = TB
  generalize (gb (headOf b) 0) = g0 at *
  generalize hHB : bs (headOf b) = HB at *
  generalize hTA : bs (tailOf a) = TA at *
  generalize (headOf b).length = m2 at *
  generalize hta : (tailOf a).length = m1 at *
  generalize endIs (tailOf a) 13 = c1 at *
  generalize hEE : (if c1 = true ∧ 0 < m2 ∧ g0 = 10 then (1 : Int) else 0) = E at *
  have HE := Lib.hid hEE
  clear hEE
  have HX := Lib.hid hX
  have HG := Lib.hid hg0
  have HT := Lib.hid hT
  have Ht := Lib.hid ht
  clear hX hg0 hT ht hS hE hHB hTA hta
  go_enter Tryd.func109, Tryd.ntmps109
  go_wp2_with fail
  go_loopw [6] (fun i wr => ∃ k : Nat, k ≤ m1 ∧ i = .int .i64 ((k : Int) + 1) ∧ SeamW w wr #[.int .i64 a.length, .int .i64 qa1, .int .i64 qa2, .int .i64 qa3, .string HA, .string TA] #[.int .i64 b.length, .int .i64 qb1, .int .i64 qb2, .int .i64 qb3, .string HB, .string TB] (seamOut a b m2 k)) (fun i _ => 5 - (intOf i).toNat)
  case atStart =>
    refine ⟨0, by omega, rfl, (by (repeat (with_reducible first | assumption | exact bl_refl _ | refine bl_alloc ?_ | refine bl_iter ?_ | refine bl_drew ?_ | refine bl_drewN ?_ | refine bl_bytes ?_ | refine bl_set ?_ ?_ | refine bl_trans ?_ (by assumption))) <;> first | exact Nat.le_refl _ | (simp; done) | (simp; omega) | omega), (by (repeat (with_reducible first | assumption | (refine Blk.new _ _ _ ?_; first | rfl | (simp; done)) | refine Blk.alloc ?_ _ | refine Blk.drew ?_ | refine Blk.other ?_ ?_ _ | refine Blk.below ?_ (by assumption))) <;> first | rfl | (simp; done) | (simp; omega) | omega), (by (repeat (with_reducible first | assumption | (refine Blk.new _ _ _ ?_; first | rfl | (simp; done)) | refine Blk.alloc ?_ _ | refine Blk.drew ?_ | refine Blk.other ?_ ?_ _ | refine Blk.below ?_ (by assumption))) <;> first | rfl | (simp; done) | (simp; omega) | omega), (by (repeat (with_reducible first | assumption | (refine Blk.new _ _ _ ?_; first | rfl | (simp; done)) | refine Blk.alloc ?_ _ | refine Blk.drew ?_ | refine Blk.other ?_ ?_ _ | refine Blk.below ?_ (by assumption))) <;> first | rfl | (simp; done) | (simp; omega) | omega), ?_⟩
    show Blk _ _ _ #[.int .i64 0, .int .i64 0, .int .i64 0, .int .i64 0]
    exact (by (repeat (with_reducible first | assumption | (refine Blk.new _ _ _ ?_; first | rfl | (simp; done)) | refine Blk.alloc ?_ _ | refine Blk.drew ?_ | refine Blk.other ?_ ?_ _ | refine Blk.below ?_ (by assumption))) <;> first | rfl | (simp; done) | (simp; omega) | omega)
  case round =>
    obtain ⟨k, hk, rfl, hB, bA, bB, bR, bS⟩ := hrel
    have cA : wr.cell? ⟨w.heap.size, 5, none⟩ = some (.string TA) := bA.cell 5
    have cB : wr.cell? ⟨w.heap.size + 1, 4, none⟩ = some (.string HB) := bB.cell 4
    by_cases hk1 : k + 1 ≤ m1
    · have k1 : (k : Int) + 1 ≤ (m1 : Int) := by omega
      go_wp2_with fail
      go_loopw [7] (fun i wr => ∃ j : Nat, j ≤ m2 ∧ i = .int .i64 ((j : Int) + 1) ∧ SeamW w wr #[.int .i64 a.length, .int .i64 qa1, .int .i64 qa2, .int .i64 qa3, .string HA, .string TA] #[.int .i64 b.length, .int .i64 qb1, .int .i64 qb2, .int .i64 qb3, .string HB, .string TB] (seamIn a b (k + 1) (seamOut a b m2 k) j)) (fun i _ => 5 - (intOf i).toNat)
      case atStart =>
        refine ⟨0, by omega, rfl, (by (repeat (with_reducible first | assumption | exact bl_refl _ | refine bl_alloc ?_ | refine bl_iter ?_ | refine bl_drew ?_ | refine bl_drewN ?_ | refine bl_bytes ?_ | refine bl_set ?_ ?_ | refine bl_trans ?_ (by assumption))) <;> first | exact Nat.le_refl _ | (simp; done) | (simp; omega) | omega), (by (repeat (with_reducible first | assumption | (refine Blk.new _ _ _ ?_; first | rfl | (simp; done)) | refine Blk.alloc ?_ _ | refine Blk.drew ?_ | refine Blk.other ?_ ?_ _ | refine Blk.below ?_ (by assumption))) <;> first | rfl | (simp; done) | (simp; omega) | omega), (by (repeat (with_reducible first | assumption | (refine Blk.new _ _ _ ?_; first | rfl | (simp; done)) | refine Blk.alloc ?_ _ | refine Blk.drew ?_ | refine Blk.other ?_ ?_ _ | refine Blk.below ?_ (by assumption))) <;> first | rfl | (simp; done) | (simp; omega) | omega), (by (repeat (with_reducible first | assumption | (refine Blk.new _ _ _ ?_; first | rfl | (simp; done)) | refine Blk.alloc ?_ _ | refine Blk.drew ?_ | refine Blk.other ?_ ?_ _ | refine Blk.below ?_ (by assumption))) <;> first | rfl | (simp; done) | (simp; omega) | omega), ?_⟩
        show Blk _ _ _ #[.int .i64 0, .int .i64 (seamOut a b m2 k).1, .int .i64 (seamOut a b m2 k).2, .int .i64 0]
        exact (by (repeat (with_reducible first | assumption | (refine Blk.new _ _ _ ?_; first | rfl | (simp; done)) | refine Blk.alloc ?_ _ | refine Blk.drew ?_ | refine Blk.other ?_ ?_ _ | refine Blk.below ?_ (by assumption))) <;> first | rfl | (simp; done) | (simp; omega) | omega)
      case round =>
        obtain ⟨j, hj, rfl, hB', bA', bB', bR', bS'⟩ := hrel
        have cA' : wr.cell? ⟨w.heap.size, 5, none⟩ = some (.string TA) := bA'.cell 5
        have cB' : wr.cell? ⟨w.heap.size + 1, 4, none⟩ = some (.string HB) := bB'.cell 4
        by_cases hj1 : j + 1 ≤ m2
        · have j1 : (j : Int) + 1 ≤ (m2 : Int) := by omega
          obtain ⟨d, hd⟩ : ∃ d, m1 = d + (k + 1) := ⟨m1 - (k + 1), by omega⟩
          have hx := HX.out (k + 1) (j + 1) hk1 hj1
          rw [show m1 - (k + 1) = d from by omega] at hx
          have HXd := Lib.hid hx
          have d1 := Lib.hid (show IntKind.i64.wrap ((m1 : Int) - ((k : Int) + 1)) = d by rw [IntWalk.i64_in _ (by omega)]; omega)
          have HD := Lib.hid hd
          have hlen : (seamL a b (k + 1) (j + 1)).length ≤ 9223372036854775807 := by
            have := congrArg ByteArray.size hx
            rw [bs_size, ByteArray.size_append, ByteArray.size_extract, ByteArray.size_extract] at this
            omega
          have hval := fun W A c (h : Below w.heap.size w W) h1 h2 => Value_any A c (seamL a b (k + 1) (j + 1)) W (HT.out.below h) h1 h2 hlen
          have HV := Lib.hid hval
          clear hx hd hlen hval
          have q0 : ¬ ((j : Int) + 1 < 0) := by omega
          go_wp2_with fail
          refine reg_begin (fun W => Below wr.heap.size wr W) (by kernel_rfl) (by exact (by (repeat (with_reducible first | assumption | exact bl_refl _ | refine bl_alloc ?_ | refine bl_iter ?_ | refine bl_drew ?_ | refine bl_drewN ?_ | refine bl_bytes ?_ | refine bl_set ?_ ?_ | refine bl_trans ?_ (by assumption))) <;> first | exact Nat.le_refl _ | (simp; done) | (simp; omega) | omega)) fun K hK hS => ?_
          refine reg_take 0 (some 23) (.pointer (some ⟨w.heap.size, 5, none⟩)) rfl rfl (by kernel_rfl) (by kernel_rfl) (by kernel_rfl) (by kernel_rfl) (fun W hW => by (rfl)) hS ?_
          try simp only [Act.put, List.setIfInBounds_toArray, List.set_cons_zero, List.set_cons_succ]
          refine reg_take 1 (some 24) (.string TA) (oi := { dst := some 24, op := Go.Op.load 9 (Go.Operand.tmp 23), type := 9, pos := "weld.go:84", after := #[{ on := 0, ground := Go.Ground.data }], guard := none }) rfl rfl (by kernel_rfl) (by kernel_rfl) (by kernel_rfl) (by kernel_rfl) (fun W hW => by (have hx := bl_cell hW (by assumption : wr.cell? ⟨w.heap.size, 5, none⟩ = some _); go_simp)) hS ?_
          try simp only [Act.put, List.setIfInBounds_toArray, List.set_cons_zero, List.set_cons_succ]
          refine reg_take 2 (some 25) (.pointer (some ⟨w.heap.size, 5, none⟩)) rfl rfl (by kernel_rfl) (by kernel_rfl) (by kernel_rfl) (by kernel_rfl) (fun W hW => by (rfl)) hS ?_
          try simp only [Act.put, List.setIfInBounds_toArray, List.set_cons_zero, List.set_cons_succ]
          refine reg_take 3 (some 26) (.string TA) (oi := { dst := some 26, op := Go.Op.load 9 (Go.Operand.tmp 25), type := 9, pos := "weld.go:84", after := #[{ on := 2, ground := Go.Ground.data }], guard := none }) rfl rfl (by kernel_rfl) (by kernel_rfl) (by kernel_rfl) (by kernel_rfl) (fun W hW => by (have hx := bl_cell hW (by assumption : wr.cell? ⟨w.heap.size, 5, none⟩ = some _); go_simp)) hS ?_
          try simp only [Act.put, List.setIfInBounds_toArray, List.set_cons_zero, List.set_cons_succ]
          refine reg_take 4 (some 27) (.int .i64 m1) (oi := { dst := some 27, op := Go.Op.call { callee := Go.Callee.builtin Go.Builtin.len, args := #[Go.Operand.tmp 26], argTypes := #[9] }, type := 3, pos := "weld.go:84", after := #[{ on := 3, ground := Go.Ground.data }], guard := none }) rfl rfl (by kernel_rfl) (by kernel_rfl) (by kernel_rfl) (by kernel_rfl) (fun W hW => by (first | rfl | go_simp)) hS ?_
          try simp only [Act.put, List.setIfInBounds_toArray, List.set_cons_zero, List.set_cons_succ]
          refine reg_take 5 (some 28) (.int .i64 ((k : Int) + 1)) rfl rfl (by kernel_rfl) (by kernel_rfl) (by kernel_rfl) (by kernel_rfl) (fun W hW => by (rfl)) hS ?_
          try simp only [Act.put, List.setIfInBounds_toArray, List.set_cons_zero, List.set_cons_succ]
          refine reg_take 6 (some 29) (.int .i64 d) (oi := { dst := some 29, op := Go.Op.binOp Go.BinOp.sub 3 (Go.Operand.tmp 27) (Go.Operand.tmp 28) 3, type := 3, pos := "weld.go:84", after := #[{ on := 4, ground := Go.Ground.data }, { on := 5, ground := Go.Ground.data }], guard := none }) rfl rfl (by kernel_rfl) (by kernel_rfl) (by kernel_rfl) (by kernel_rfl) (fun W hW => by (have hx := d1.out; go_simp)) hS ?_
          try simp only [Act.put, List.setIfInBounds_toArray, List.set_cons_zero, List.set_cons_succ]
          refine reg_take 7 (some 30) (.string (TA.extract d m1)) (oi := { dst := some 30, op := Go.Op.slice 9 (Go.Operand.tmp 24) (some (Go.Operand.tmp 29)) none none, type := 9, pos := "weld.go:84", after := #[{ on := 1, ground := Go.Ground.data }, { on := 6, ground := Go.Ground.data }], guard := none }) rfl rfl (by kernel_rfl) (by kernel_rfl) (by kernel_rfl) (by kernel_rfl) (fun W hW => by (have hx := HD.out; go_simp; omega)) hS ?_
          try simp only [Act.put, List.setIfInBounds_toArray, List.set_cons_zero, List.set_cons_succ]
          refine reg_take 8 (some 31) (.pointer (some ⟨w.heap.size + 1, 4, none⟩)) rfl rfl (by kernel_rfl) (by kernel_rfl) (by kernel_rfl) (by kernel_rfl) (fun W hW => by (rfl)) hS ?_
          try simp only [Act.put, List.setIfInBounds_toArray, List.set_cons_zero, List.set_cons_succ]
          refine reg_take 9 (some 32) (.string HB) (oi := { dst := some 32, op := Go.Op.load 9 (Go.Operand.tmp 31), type := 9, pos := "weld.go:84", after := #[{ on := 8, ground := Go.Ground.data }], guard := none }) rfl rfl (by kernel_rfl) (by kernel_rfl) (by kernel_rfl) (by kernel_rfl) (fun W hW => by (have hx := bl_cell hW (by assumption : wr.cell? ⟨w.heap.size + 1, 4, none⟩ = some _); go_simp)) hS ?_
          try simp only [Act.put, List.setIfInBounds_toArray, List.set_cons_zero, List.set_cons_succ]
          refine reg_take 10 (some 33) (.int .i64 ((j : Int) + 1)) rfl rfl (by kernel_rfl) (by kernel_rfl) (by kernel_rfl) (by kernel_rfl) (fun W hW => by (rfl)) hS ?_
          try simp only [Act.put, List.setIfInBounds_toArray, List.set_cons_zero, List.set_cons_succ]
          refine reg_take 11 (some 34) (.string (HB.extract 0 (j + 1))) (oi := { dst := some 34, op := Go.Op.slice 9 (Go.Operand.tmp 32) none (some (Go.Operand.tmp 33)) none, type := 9, pos := "weld.go:84", after := #[{ on := 9, ground := Go.Ground.data }, { on := 10, ground := Go.Ground.data }], guard := none }) rfl rfl (by kernel_rfl) (by kernel_rfl) (by kernel_rfl) (by kernel_rfl) (fun W hW => by (first | rfl | go_simp)) hS ?_
          try simp only [Act.put, List.setIfInBounds_toArray, List.set_cons_zero, List.set_cons_succ]
          refine reg_take 12 (some 35) (.string (bs (seamL a b (k + 1) (j + 1)))) (oi := { dst := some 35, op := Go.Op.binOp Go.BinOp.add 9 (Go.Operand.tmp 30) (Go.Operand.tmp 34) 9, type := 9, pos := "weld.go:84", after := #[{ on := 7, ground := Go.Ground.data }, { on := 11, ground := Go.Ground.data }], guard := none }) rfl rfl (by kernel_rfl) (by kernel_rfl) (by kernel_rfl) (by kernel_rfl) (fun W hW => by (have hx := HXd.out; go_simp; omega)) hS ?_
          try simp only [Act.put, List.setIfInBounds_toArray, List.set_cons_zero, List.set_cons_succ]
          refine reg_one 13 (oi := { dst := some 36, op := Go.Op.convert 9 41 (Go.Operand.tmp 35), type := 41, pos := "weld.go:84", after := #[{ on := 12, ground := Go.Ground.data }], guard := none }) rfl (by kernel_rfl) (by kernel_rfl) fun K' hK' => ?_
          have hx := conv_to wr.drew (seamL a b (k + 1) (j + 1)); go_simp
          refine hK'.out _ _ ?_ ?_
          · exact bl_bytes (bl_drew (bl_refl _))
          clear hK' K' hS
          intro hS
          try simp only [Act.put, List.setIfInBounds_toArray, List.set_cons_zero, List.set_cons_succ]
          refine reg_callB 14 (some 37) (.int .i32 (valueOf (seamL a b (k + 1) (j + 1)))) 122 #[.slice (some ⟨wr.heap.size, 0, none⟩) (seamL a b (k + 1) (j + 1)).length (grownCap wr.drew (seamL a b (k + 1) (j + 1)).length 0 5)] rfl rfl (by kernel_rfl) (by kernel_rfl) (by first | rfl | go_simp) ?_ ?_ fun w2 hR2 hS => ?_
          · exact HV.out _ _ _ (bl_trans hB' hS) (conv_at _ _ _) (grownCap_ge _ _ _ _)
          · intro w' hR; exact bl_trans hS hR
          try simp only [Act.put, List.setIfInBounds_toArray, List.set_cons_zero, List.set_cons_succ]
          refine reg_take 15 (some 8) (.int .i32 (valueOf (seamL a b (k + 1) (j + 1)))) rfl rfl (by kernel_rfl) (by kernel_rfl) (by kernel_rfl) (by kernel_rfl) (fun W hW => by (rfl)) hS ?_
          try simp only [Act.put, List.setIfInBounds_toArray, List.set_cons_zero, List.set_cons_succ]
          refine reg_done (by kernel_rfl) (hK.out _ _ ?_) _
          clear hK K
          have bS2 := bS'.below hS
          have cS1 : w2.cell? ⟨w.heap.size + 1 + 1 + 1, 1, none⟩ = some _ := bS2.cell 1
          have cS2 : w2.cell? ⟨w.heap.size + 1 + 1 + 1, 2, none⟩ = some _ := bS2.cell 2
          have fS1 := bS2.frozen 1
          have fS2 := bS2.frozen 2
          have hstep : seamIn a b (k + 1) (seamOut a b m2 k) (j + 1) = if 0 ≤ valueOf (seamL a b (k + 1) (j + 1)) then ((k : Int) + 1 + ((j : Int) + 1) - 1, (k : Int) + 1 + ((j : Int) + 1) - unitsOf (valueOf (seamL a b (k + 1) (j + 1)))) else seamIn a b (k + 1) (seamOut a b m2 k) j := rfl
          generalize valueOf (seamL a b (k + 1) (j + 1)) = v at *
          by_cases hv : 0 ≤ v
          · rw [if_pos hv] at hstep
            have HST := Lib.hid hstep
            clear hstep
            have hun := fun W => units_any v W
            have huu : 1 ≤ unitsOf v ∧ unitsOf v ≤ 2 := by unfold unitsOf; split <;> omega
            generalize unitsOf v = u at *
            have HU := Lib.hid hun
            clear hun
            have y1 : IntKind.i64.wrap ((k : Int) + 1 + ((j : Int) + 1)) = (k : Int) + 1 + ((j : Int) + 1) := IntWalk.i64_in _ (by omega)
            have y2 : IntKind.i64.wrap ((k : Int) + 1 + ((j : Int) + 1) - 1) = (k : Int) + 1 + ((j : Int) + 1) - 1 := IntWalk.i64_in _ (by omega)
            have y3 : IntKind.i64.wrap ((k : Int) + 1 + ((j : Int) + 1) - u) = (k : Int) + 1 + ((j : Int) + 1) - u := IntWalk.i64_in _ (by omega)
            have y4 : IntKind.i64.wrap ((j : Int) + 1 + 1) = (j : Int) + 1 + 1 := IntWalk.i64_in _ (by omega)
            go_wp2_with (go_at_call 116; refine (HU.out _).mono ?_; rintro e w1 ⟨rfl, rfl⟩)
            go_roundw
            case rel =>
              refine ⟨j + 1, hj1, by go_num, (by (repeat (with_reducible first | assumption | exact bl_refl _ | refine bl_alloc ?_ | refine bl_iter ?_ | refine bl_drew ?_ | refine bl_drewN ?_ | refine bl_bytes ?_ | refine bl_set ?_ ?_ | refine bl_trans ?_ (by assumption))) <;> first | exact Nat.le_refl _ | (simp; done) | (simp; omega) | omega), (by (repeat (with_reducible first | assumption | (refine Blk.new _ _ _ ?_; first | rfl | (simp; done)) | refine Blk.alloc ?_ _ | refine Blk.drew ?_ | refine Blk.other ?_ ?_ _ | refine Blk.below ?_ (by assumption))) <;> first | rfl | (simp; done) | (simp; omega) | omega), (by (repeat (with_reducible first | assumption | (refine Blk.new _ _ _ ?_; first | rfl | (simp; done)) | refine Blk.alloc ?_ _ | refine Blk.drew ?_ | refine Blk.other ?_ ?_ _ | refine Blk.below ?_ (by assumption))) <;> first | rfl | (simp; done) | (simp; omega) | omega), (by (repeat (with_reducible first | assumption | (refine Blk.new _ _ _ ?_; first | rfl | (simp; done)) | refine Blk.alloc ?_ _ | refine Blk.drew ?_ | refine Blk.other ?_ ?_ _ | refine Blk.below ?_ (by assumption))) <;> first | rfl | (simp; done) | (simp; omega) | omega), ?_⟩
              rw [HST.out]; exact (bS2.set 1 _).set 2 _
            case measure => simp [intOf]; omega
          · rw [if_neg hv] at hstep
            have HST := Lib.hid hstep
            clear hstep
            have y4 : IntKind.i64.wrap ((j : Int) + 1 + 1) = (j : Int) + 1 + 1 := IntWalk.i64_in _ (by omega)
            go_wp2_with fail
            go_roundw
            case rel =>
              refine ⟨j + 1, hj1, by go_num, (by (repeat (with_reducible first | assumption | exact bl_refl _ | refine bl_alloc ?_ | refine bl_iter ?_ | refine bl_drew ?_ | refine bl_drewN ?_ | refine bl_bytes ?_ | refine bl_set ?_ ?_ | refine bl_trans ?_ (by assumption))) <;> first | exact Nat.le_refl _ | (simp; done) | (simp; omega) | omega), (by (repeat (with_reducible first | assumption | (refine Blk.new _ _ _ ?_; first | rfl | (simp; done)) | refine Blk.alloc ?_ _ | refine Blk.drew ?_ | refine Blk.other ?_ ?_ _ | refine Blk.below ?_ (by assumption))) <;> first | rfl | (simp; done) | (simp; omega) | omega), (by (repeat (with_reducible first | assumption | (refine Blk.new _ _ _ ?_; first | rfl | (simp; done)) | refine Blk.alloc ?_ _ | refine Blk.drew ?_ | refine Blk.other ?_ ?_ _ | refine Blk.below ?_ (by assumption))) <;> first | rfl | (simp; done) | (simp; omega) | omega), (by (repeat (with_reducible first | assumption | (refine Blk.new _ _ _ ?_; first | rfl | (simp; done)) | refine Blk.alloc ?_ _ | refine Blk.drew ?_ | refine Blk.other ?_ ?_ _ | refine Blk.below ?_ (by assumption))) <;> first | rfl | (simp; done) | (simp; omega) | omega), ?_⟩
              rw [HST.out]; exact bS2
            case measure => simp [intOf]; omega
        · have j1 : ¬ ((j : Int) + 1 ≤ (m2 : Int)) := by omega
          obtain rfl : j = m2 := by omega
          have y4 : IntKind.i64.wrap ((k : Int) + 1 + 1) = (k : Int) + 1 + 1 := IntWalk.i64_in _ (by omega)
          go_wp2_with fail
          go_roundw
          case rel => exact ⟨k + 1, hk1, by go_num, (by (repeat (with_reducible first | assumption | exact bl_refl _ | refine bl_alloc ?_ | refine bl_iter ?_ | refine bl_drew ?_ | refine bl_drewN ?_ | refine bl_bytes ?_ | refine bl_set ?_ ?_ | refine bl_trans ?_ (by assumption))) <;> first | exact Nat.le_refl _ | (simp; done) | (simp; omega) | omega), bA', bB', bR', bS'⟩
          case measure => simp [intOf]; omega
    · have k1 : ¬ ((k : Int) + 1 ≤ (m1 : Int)) := by omega
      obtain rfl : k = m1 := by omega
      have cB0 : wr.cell? ⟨w.heap.size + 1, 4, none⟩ = some (.string HB) := bB.cell 4
      have s0 : wr.cell? ⟨w.heap.size + 1 + 1 + 1, 0, none⟩ = some _ := bS.cell 0
      have s1 : wr.cell? ⟨w.heap.size + 1 + 1 + 1, 1, none⟩ = some _ := bS.cell 1
      have s2 : wr.cell? ⟨w.heap.size + 1 + 1 + 1, 2, none⟩ = some _ := bS.cell 2
      have s3 : wr.cell? ⟨w.heap.size + 1 + 1 + 1, 3, none⟩ = some _ := bS.cell 3
      have r0 : wr.cell? ⟨w.heap.size + 1 + 1, 0, none⟩ = some _ := bR.cell 0
      have r1 : wr.cell? ⟨w.heap.size + 1 + 1, 1, none⟩ = some _ := bR.cell 1
      have r2 : wr.cell? ⟨w.heap.size + 1 + 1, 2, none⟩ = some _ := bR.cell 2
      have r3 : wr.cell? ⟨w.heap.size + 1 + 1, 3, none⟩ = some _ := bR.cell 3
      have f0 := bR.frozen 0
      have f1 := bR.frozen 1
      have f2 := bR.frozen 2
      have f3 := bR.frozen 3
      have fS3 := bS.frozen 3
      clear bA bB bR bS
      cases c1
      · go_wp2_with (go_at_call 123; refine (Ht.out _).mono ?_; rintro e w1 ⟨rfl, rfl⟩)
        all_goals exact bodyPost_ret (v := .agg #[.int .i64 0, .int .i64 (seamOut a b m2 k).1, .int .i64 (seamOut a b m2 k).2, .int .i64 0]) (by simp [results, Tryd.results109, go_sem, *]) rfl ⟨by rw [show E = 0 from HE.out.symm.trans (if_neg (by simp))]; rfl, (by (repeat (with_reducible first | assumption | exact bl_refl _ | refine bl_alloc ?_ | refine bl_iter ?_ | refine bl_drew ?_ | refine bl_drewN ?_ | refine bl_bytes ?_ | refine bl_set ?_ ?_ | refine bl_trans ?_ (by assumption))) <;> first | exact Nat.le_refl _ | (simp; done) | (simp; omega) | omega)⟩
      · by_cases h0 : m2 = 0
        · have h0' : ¬ 0 < m2 := by omega
          have H0 := Lib.hid h0'
          clear h0'
          rw [h0] at zb
          have z0 : ¬ (0 : Int) < (0 : Int) := by omega
          go_wp2_with (go_at_call 123; refine (Ht.out _).mono ?_; rintro e w1 ⟨rfl, rfl⟩)
          all_goals exact bodyPost_ret (v := .agg #[.int .i64 0, .int .i64 (seamOut a b m2 k).1, .int .i64 (seamOut a b m2 k).2, .int .i64 0]) (by simp [results, Tryd.results109, go_sem, *]) rfl ⟨by rw [show E = 0 from HE.out.symm.trans (if_neg (fun h => H0.out h.2.1))]; rfl, (by (repeat (with_reducible first | assumption | exact bl_refl _ | refine bl_alloc ?_ | refine bl_iter ?_ | refine bl_drew ?_ | refine bl_drewN ?_ | refine bl_bytes ?_ | refine bl_set ?_ ?_ | refine bl_trans ?_ (by assumption))) <;> first | exact Nat.le_refl _ | (simp; done) | (simp; omega) | omega)⟩
        · have z0 : (0 : Int) < (m2 : Int) := by omega
          have z1 : 0 < HB.size := by omega
          have z2 := HG.out
          by_cases hg : g0 = 10
          · have H0 := Lib.hid (show 0 < m2 by omega)
            subst hg
            go_wp2_with (go_at_call 123; refine (Ht.out _).mono ?_; rintro e w1 ⟨rfl, rfl⟩)
            all_goals exact bodyPost_ret (v := .agg #[.int .i64 0, .int .i64 (seamOut a b m2 k).1, .int .i64 (seamOut a b m2 k).2, .int .i64 1]) (by simp [results, Tryd.results109, go_sem, *]) rfl ⟨by rw [show E = 1 from HE.out.symm.trans (if_pos (by have := H0.out; simp [this]))]; rfl, (by (repeat (with_reducible first | assumption | exact bl_refl _ | refine bl_alloc ?_ | refine bl_iter ?_ | refine bl_drew ?_ | refine bl_drewN ?_ | refine bl_bytes ?_ | refine bl_set ?_ ?_ | refine bl_trans ?_ (by assumption))) <;> first | exact Nat.le_refl _ | (simp; done) | (simp; omega) | omega)⟩
          · have H0 := Lib.hid hg
            have z3 : (g0 == 10) = false := by simpa using hg
            clear hg
            go_wp2_with (go_at_call 123; refine (Ht.out _).mono ?_; rintro e w1 ⟨rfl, rfl⟩)
            all_goals exact bodyPost_ret (v := .agg #[.int .i64 0, .int .i64 (seamOut a b m2 k).1, .int .i64 (seamOut a b m2 k).2, .int .i64 0]) (by simp [results, Tryd.results109, go_sem, *]) rfl ⟨by rw [show E = 0 from HE.out.symm.trans (if_neg (fun h => H0.out h.2.2))]; rfl, (by (repeat (with_reducible first | assumption | exact bl_refl _ | refine bl_alloc ?_ | refine bl_iter ?_ | refine bl_drew ?_ | refine bl_drewN ?_ | refine bl_bytes ?_ | refine bl_set ?_ ?_ | refine bl_trans ?_ (by assumption))) <;> first | exact Nat.le_refl _ | (simp; done) | (simp; omega) | omega)⟩
section
variable {P : Program} {ops : Array Oper} {Q : Exit → Act → World → Prop} {S : World → Prop} {K : Act → World → Prop}
theorem reh_begin {id : Nat} {a : Act} {w : World} (S : World → Prop) (hm : P.follows .mixedOrders = true) (hS : S w.drew)
    (h : ∀ K : Act → World → Prop, RowKit.Hid (∀ a w, Q .normal a w → K a w) → ∀ w0, w0 = w.drew → S w0 → wpAnyH P .any ops (Ko K) S ops.size (Array.replicate ops.size false) a w0) :
    (Code.region id ops true).wp P Q a w :=
  reg_begin S hm hS fun K hK hS => h K hK _ rfl hS
/-- what is to be shown of the operation that comes up -/
def Pick (P : Program) (ops : Array Oper) (K : Act → World → Prop) (S : World → Prop) (fuel : Nat) (listed : Array Bool) (a : Act) (w : World) (i : Nat) : Prop :=
  wpOp P ops (Ko K) i (fun a' w' => S w' ∧ wpAnyH P .any ops (Ko K) S fuel (listed.setIfInBounds i true) a' w') a w
theorem pick1 {i : Nat} {fuel : Nat} {listed : Array Bool} {a : Act} {w : World} (hr : Region.ready .any ops listed = [i]) (h : Pick P ops K S fuel listed a w i) : wpAnyH P .any ops (Ko K) S (fuel + 1) listed a w :=
  wpAnyH_all hr (by simp) fun j hj => by rw [List.mem_singleton] at hj; subst hj; exact h
theorem pick2 {i j : Nat} {fuel : Nat} {listed : Array Bool} {a : Act} {w : World} (hr : Region.ready .any ops listed = [i, j]) (h1 : Pick P ops K S fuel listed a w i) (h2 : Pick P ops K S fuel listed a w j) :
    wpAnyH P .any ops (Ko K) S (fuel + 1) listed a w :=
  wpAnyH_all hr (by simp) fun k hk => by
    rcases List.mem_cons.1 hk with rfl | hk
    · exact h1
    · rw [List.mem_singleton] at hk; subst hk; exact h2
theorem pick3 {i j l : Nat} {fuel : Nat} {listed : Array Bool} {a : Act} {w : World} (hr : Region.ready .any ops listed = [i, j, l]) (h1 : Pick P ops K S fuel listed a w i) (h2 : Pick P ops K S fuel listed a w j) (h3 : Pick P ops K S fuel listed a w l) :
    wpAnyH P .any ops (Ko K) S (fuel + 1) listed a w :=
  wpAnyH_all hr (by simp) fun k hk => by
    rcases List.mem_cons.1 hk with rfl | hk
    · exact h1
    rcases List.mem_cons.1 hk with rfl | hk
    · exact h2
    · rw [List.mem_singleton] at hk; subst hk; exact h3
theorem pick_one {i : Nat} {oi : Oper} {fuel : Nat} {listed : Array Bool} {a : Act} {w : World} (hi : ops[i]? = some oi)
    (hw : Region.wanted oi (yielded ops a.tmps) = true)
    (h : ∀ K' : Act → World → Prop, RowKit.Hid (∀ a w, S w → (∀ w', w' = w → S w' → wpAnyH P .any ops (Ko K) S fuel (listed.setIfInBounds i true) a w') → K' a w) → Oper.wp P oi a w K' (Ko K)) :
    Pick P ops K S fuel listed a w i := by
  unfold Pick wpOp
  simp only [hi, hw, if_true]
  exact .inl (h _ (Lib.hid fun a w hS h => ⟨hS, h _ rfl hS⟩))
theorem pick_call {i : Nat} (d : Option Tmp) (v : Value) (f : FuncId) (args : Array Value) {oi : Oper} {fuel : Nat} {listed : Array Bool} {a : Act} {w : World} (hi : ops[i]? = some oi) (hd : oi.dst = d)
    (hw : Region.wanted oi (yielded ops a.tmps) = true) (he : (execOp a.eval oi).run P w = .ok (.enter f args) w) (hc : Calls P f args w fun e w' => e = .returned v ∧ Below w.heap.size w w') (hS : ∀ w', Below w.heap.size w w' → S w')
    (h : ∀ w', Below w.heap.size w w' → S w' → wpAnyH P .any ops (Ko K) S fuel (listed.setIfInBounds i true) (a.put d v) w') : Pick P ops K S fuel listed a w i :=
  pick_one hi hw fun K' hK' => by
    unfold Oper.wp
    rw [he, Oper.upon_enter]
    refine hc.mono fun e w' he => ?_
    obtain ⟨rfl, hR⟩ := he
    exact hK'.out _ _ (hS w' hR) fun w2 hw hS2 => by subst hw; exact (hd ▸ h w2 hR hS2)
theorem pick_callx {i : Nat} (d : Option Tmp) (f : FuncId) (args : Array Value) (R : Value → World → Prop) {oi : Oper} {fuel : Nat} {listed : Array Bool} {a : Act} {w : World} (hi : ops[i]? = some oi) (hd : oi.dst = d)
    (hw : Region.wanted oi (yielded ops a.tmps) = true) (he : (execOp a.eval oi).run P w = .ok (.enter f args) w) (hc : Calls P f args w fun e w' => ∃ v, e = .returned v ∧ R v w') (hS : ∀ v w', R v w' → S w')
    (h : ∀ v w', R v w' → S w' → wpAnyH P .any ops (Ko K) S fuel (listed.setIfInBounds i true) (a.put d v) w') : Pick P ops K S fuel listed a w i :=
  pick_one hi hw fun K' hK' => by
    unfold Oper.wp
    rw [he, Oper.upon_enter]
    refine hc.mono fun e w' he => ?_
    obtain ⟨v, rfl, hR⟩ := he
    exact hK'.out _ _ (hS v w' hR) fun w2 hw hS2 => by subst hw; exact (hd ▸ h v w2 hR hS2)
theorem wp_post {id : Nat} {a : Act} {w : World} {b : Bool} {Q Q' : Exit → Act → World → Prop} (h : (Code.region id ops b).wp P Q a w) (hq : ∀ e a w, Q e a w → Q' e a w) : (Code.region id ops b).wp P Q' a w :=
  Code.wp_mono hq h
end
/-! short names, for the printed texts -/
theorem pa (a : Act) (t : Tmp) (v : Value) : a.put (some t) v = { a with tmps := a.tmps.setIfInBounds t v } := rfl
theorem pn (a : Act) (v : Value) : a.put none v = a := rfl
theorem pb {α : Type} (l : List α) (i : Nat) (a : α) : l.toArray.setIfInBounds i a = (l.set i a).toArray := List.setIfInBounds_toArray ..
theorem pc {α : Type} (x : α) (l : List α) (a : α) : (x :: l).set 0 a = a :: l := rfl
theorem pd {α : Type} (x : α) (l : List α) (i : Nat) (a : α) : (x :: l).set (i + 1) a = x :: l.set i a := rfl
theorem pp : (∀ (a : Act) (t : Tmp) (v : Value), a.put (some t) v = { a with tmps := a.tmps.setIfInBounds t v }) ∧ (∀ (a : Act) (v : Value), a.put none v = a) ∧ (∀ (l : List Value) (i : Nat) (a : Value), l.toArray.setIfInBounds i a = (l.set i a).toArray) ∧ (∀ (l : List Bool) (i : Nat) (a : Bool), l.toArray.setIfInBounds i a = (l.set i a).toArray) ∧
    (∀ (x : Value) (l : List Value) (a : Value), (x :: l).set 0 a = a :: l) ∧ (∀ (x : Value) (l : List Value) (i : Nat) (a : Value), (x :: l).set (i + 1) a = x :: l.set i a) ∧ (∀ (x : Bool) (l : List Bool) (a : Bool), (x :: l).set 0 a = a :: l) ∧ (∀ (x : Bool) (l : List Bool) (i : Nat) (a : Bool), (x :: l).set (i + 1) a = x :: l.set i a) :=
  ⟨pa, pn, pb, pb, pc, pd, pc, pd⟩
/-- nothing that lay there has changed -/
def Ltr (w w' : World) : Prop := Below w.heap.size w w'
theorem Ltr.refl (w : World) : Ltr w w := Below.refl _ _
theorem Ltr.trans {a b c : World} (h : Ltr a b) (k : Ltr b c) : Ltr a c := bl_trans h k
section
variable {P : Program} {ops : Array Oper} {Q : Exit → Act → World → Prop} {S : World → Prop} {K : Act → World → Prop}
/-- whatever order is picked from here on, in every later world -/
def wpM (P : Program) (ops : Array Oper) (K : Act → World → Prop) (S : World → Prop) : Nat → Array Bool → Act → World → Prop
  | 0, listed, a, w => Region.ready .any ops listed = [] ∧ ∀ w', Ltr w w' → S w' → K a w'
  | fuel + 1, listed, a, w => ∀ w', Ltr w w' → S w' → (Region.ready .any ops listed = [] → K a w') ∧
      ∀ i ∈ Region.ready .any ops listed, wpOp P ops (Ko K) i (fun a' w'' => S w'' ∧ wpM P ops K S fuel (listed.setIfInBounds i true) a' w'') a w'
theorem wpM_any : ∀ (fuel : Nat) (listed : Array Bool) (a : Act) (w : World), S w → wpM P ops K S fuel listed a w → wpAny P .any ops (Ko K) fuel listed a w
  | 0, _, _, w, hS, h => ⟨h.1, Ko.ok (h.2 w (Ltr.refl w) hS)⟩
  | fuel + 1, _, _, w, hS, h => ⟨fun e => Ko.ok ((h w (Ltr.refl w) hS).1 e), fun i hi => wpOp_mono (fun a' w' h' => wpM_any fuel _ a' w' h'.1 h'.2) ((h w (Ltr.refl w) hS).2 i hi)⟩
theorem wpM_later {fuel : Nat} {listed : Array Bool} {a : Act} {w w1 : World} (hl : Ltr w w1) (h : wpM P ops K S fuel listed a w) : wpM P ops K S fuel listed a w1 := by
  cases fuel with
  | zero => exact ⟨h.1, fun w' hw => h.2 w' (hl.trans hw)⟩
  | succ fuel => exact fun w' hw => h w' (hl.trans hw)
/-- in every world that meets S the operation answers v, and nothing that lay there has changed -/
def Gives (P : Program) (ops : Array Oper) (S : World → Prop) (o : Oper) (v : Value) (a : Act) : Prop :=
  Region.wanted o (yielded ops a.tmps) = true ∧ ∀ w, S w → (∃ n w', (execOp a.eval o).run P w = .ok n w' ∧ (n = .value v ∨ n = .skip ∧ v = undef) ∧ Ltr w w' ∧ S w') ∨
    (∃ f args, (execOp a.eval o).run P w = .ok (.enter f args) w ∧ Calls P f args w fun e w' => e = .returned v ∧ Ltr w w' ∧ S w')
theorem Gives.of_same {o : Oper} {v : Value} {a a' : Act} (hy : Gives P ops S o v a) (he : execOp a'.eval o = execOp a.eval o)
    (hw : Region.wanted o (yielded ops a'.tmps) = Region.wanted o (yielded ops a.tmps)) : Gives P ops S o v a' := by
  unfold Gives at *
  rw [he, hw]
  exact hy
theorem Gives.wp {o : Oper} {v : Value} {a : Act} {w : World} {K' : Act → World → Prop} (hy : Gives P ops S o v a) (hS : S w) (h : ∀ w', Ltr w w' → S w' → K' (a.put o.dst v) w') : o.wp P a w K' (Ko K) := by
  unfold Oper.wp
  rcases hy.2 w hS with ⟨n, w', e, hn, hl, hS'⟩ | ⟨f, args, e, hc⟩
  · rw [e]
    rcases hn with rfl | ⟨rfl, rfl⟩ <;> exact h _ hl hS'
  · rw [e, Oper.upon_enter]
    refine hc.mono fun e w' he => ?_
    obtain ⟨rfl, hl, hS'⟩ := he
    exact h _ hl hS'
theorem wpM_put {j : Nat} {oi oj : Oper} {v : Value} (hj : ops[j]? = some oj) (hap : oi.apart ops oj = true)
    (hsi : ∀ cs b, oi.op ≠ .select cs b) (hsj : ∀ cs b, oj.op ≠ .select cs b) {K' : Act → World → Prop} {a : Act} {w : World}
    (hy : Gives P ops S oi v a) (h : wpOp P ops (Ko K) j K' (a.put oi.dst v) w) :
    wpOp P ops (Ko K) j (fun a' w' => Gives P ops S oi v a' ∧ K' (a'.put oi.dst v) w') a w := by
  obtain ⟨h1, h2, h3⟩ := Oper.apart_spec hap
  have keep : ∀ (a : Act), Gives P ops S oi v a → ∀ u, Gives P ops S oi v (a.put oj.dst u) := fun a hy u =>
    hy.of_same (execOp_put oi hsi a oj.dst u h3) (wanted_put oi a oj.dst u h3)
  have keepD : ∀ d, Gives P ops S oi v { a with defers := d :: a.defers } := fun d => hy.of_same rfl rfl
  unfold wpOp at *
  simp only [hj] at *
  rw [wanted_put oj a oi.dst v h1] at h
  split
  · rename_i hw
    simp only [hw, if_true] at h
    rcases h with h | ⟨hasks, hlets⟩
    case inr => exact .inr ⟨by unfold Oper.asks at *; rw [execOp_put oj hsj a oi.dst v h1] at hasks; exact hasks, hlets⟩
    refine .inl ?_
    unfold Oper.wp at *
    rw [execOp_put oj hsj a oi.dst v h1] at h
    generalize (execOp a.eval oj).run P w = r at *
    cases r with
    | ok n w' =>
      cases n <;> simp only [Oper.upon] at h ⊢
      case value u => exact ⟨keep a hy u, by rw [← Act.put_comm a v u h2]; exact h⟩
      case skip => exact ⟨keep a hy _, by rw [← Act.put_comm a v undef h2]; exact h⟩
      case defer d =>
        refine ⟨keep _ (keepD d) _, ?_⟩
        rw [← Act.put_comm _ v undef h2, ← Act.put_defers]
        exact h
      case enter f args =>
        refine Calls.mono h fun e w'' he => ?_
        cases e with
        | returned u => exact ⟨keep a hy u, by rw [← Act.put_comm a v u h2]; exact he⟩
        | panicked c => exact absurd he.1 (by simp)
        | outgrown => exact he
      case row row args => exact Rows.mono h fun u w'' he => ⟨keep a hy u, by rw [← Act.put_comm a v u h2]; exact he⟩
    | halt x w' =>
      cases x <;> simp only [Oper.upon] at h ⊢
      case panic u => exact absurd h.1 (by simp)
  · rename_i hw
    simp only [hw] at h
    exact ⟨keep a hy _, by rw [← Act.put_comm a v undef h2]; exact h⟩
theorem wpM_first {i : Nat} {oi : Oper} {v : Value} (hi : ops[i]? = some oi) (hsel : ∀ (j : Nat) (o : Oper) cs b, ops[j]? = some o → o.op ≠ .select cs b) :
    ∀ (fuel : Nat) (listed : Array Bool) (a : Act) (w : World),
      (∀ j oj, ops[j]? = some oj → j ≠ i → listed.getD j true = false → (∀ e ∈ oj.after, Region.binds .any e = true → e.on ≠ i) → oi.apart ops oj = true) →
      i ∈ Region.ready .any ops listed → Gives P ops S oi v a →
      wpM P ops K S fuel (listed.setIfInBounds i true) (a.put oi.dst v) w → wpM P ops K S (fuel + 1) listed a w := by
  have hself : ∀ {fuel : Nat} {listed : Array Bool} {a : Act} {w w' : World}, Gives P ops S oi v a → S w' → Ltr w w' → wpM P ops K S fuel (listed.setIfInBounds i true) (a.put oi.dst v) w →
      wpOp P ops (Ko K) i (fun a' w'' => S w'' ∧ wpM P ops K S fuel (listed.setIfInBounds i true) a' w'') a w' := fun hy hS hl H => by
    unfold wpOp
    simp only [hi, hy.1, if_true]
    exact .inl (hy.wp hS fun w'' h1 h2 => ⟨h2, wpM_later (hl.trans h1) H⟩)
  intro fuel
  induction fuel with
  | zero =>
    intro listed a w _ hr hy H w' hl hS
    refine ⟨fun h => (by rw [h] at hr; cases hr), fun j hj => ?_⟩
    by_cases hji : j = i
    · subst hji; exact hself hy hS hl H
    · have := ready_mono hj hji
      rw [H.1] at this
      cases this
  | succ fuel ih =>
    intro listed a w hfree hr hy H w' hl hS
    refine ⟨fun h => (by rw [h] at hr; cases hr), fun j hj => ?_⟩
    by_cases hji : j = i
    · subst hji; exact hself hy hS hl H
    · have h1 := (H w' hl hS).2 j (ready_mono hj hji)
      obtain ⟨hjun, oj, hoj, hall⟩ := mem_ready.1 hj
      have hnot : ∀ e ∈ oj.after, Region.binds .any e = true → e.on ≠ i := fun e he hb heq => by
        have h1 := hall e he hb
        have h0 := (mem_ready.1 hr).1
        rw [heq] at h1
        rcases Nat.lt_or_ge i listed.size with h' | h'
        · simp [h'] at h0 h1; rw [h0] at h1; cases h1
        · simp [Array.getElem?_eq_none h'] at h1
      have h2 := wpM_put hoj (hfree j oj hoj hji hjun hnot) (fun cs b => hsel i oi cs b hi) (fun cs b => hsel j oj cs b hoj) hy h1
      have hfree' : ∀ k ok, ops[k]? = some ok → k ≠ i → (listed.setIfInBounds j true).getD k true = false →
          (∀ e ∈ ok.after, Region.binds .any e = true → e.on ≠ i) → oi.apart ops ok = true := fun k ok hk hki hun hno => by
        refine hfree k ok hk hki ?_ hno
        by_cases hjk : j = k
        · subst hjk; exact hjun
        · rw [getD_set_ne true hjk] at hun; exact hun
      refine wpOp_mono (fun a' w' h3 => ⟨h3.2.1, ih (listed.setIfInBounds j true) a' w' hfree' (ready_mono hr (Ne.symm hji)) h3.1 ?_⟩) h2
      rw [Array.setIfInBounds_comm _ _ hji]
      exact h3.2.2

/-! ### the moves -/
theorem rm_begin {id : Nat} {a : Act} {w : World} (S : World → Prop) (hm : P.follows .mixedOrders = true) (hS : S w.drew)
    (h : ∀ K : Act → World → Prop, RowKit.Hid (∀ a w, Q .normal a w → K a w) → ∀ w0, w0 = w.drew → S w0 → wpM P ops K S ops.size (Array.replicate ops.size false) a w0) :
    (Code.region id ops true).wp P Q a w := by
  have h1 := h (fun a w => Q .normal a w) (Lib.hid fun _ _ h => h) _ rfl hS
  have h2 : (Code.region id ops true).wp P (Ko fun a w => Q .normal a w) a w := wp_region_any hm (wpM_any _ _ _ _ hS h1)
  exact Code.wp_mono (fun e a w h => by obtain ⟨rfl, h⟩ := h; exact h) h2
theorem rm_take (i : Nat) (d : Option Tmp) (v : Value) {oi : Oper} {fuel : Nat} {listed : Array Bool} {a : Act} {w : World} (hi : ops[i]? = some oi) (hd : oi.dst = d)
    (hs : Region.noSelect ops = true) (hf : Region.free .any ops listed i = true) (hr : (Region.ready .any ops listed).contains i = true) (hw : Region.wanted oi (yielded ops a.tmps) = true)
    (hy : ∀ w, S w → (execOp a.eval oi).run P w = .ok (.value v) w)
    (h : wpM P ops K S fuel (listed.setIfInBounds i true) (a.put d v) w) : wpM P ops K S (fuel + 1) listed a w :=
  wpM_first hi (Region.noSelect_spec hs) fuel listed a w (Region.free_spec hi hf) (by simpa using hr) ⟨hw, fun w hS => .inl ⟨_, w, hy w hS, .inl rfl, Ltr.refl w, hS⟩⟩ (hd ▸ h)
/-- the same, shorter -/
theorem mx (i : Nat) (t : Tmp) (v : Value) {oi : Oper} {fuel : Nat} {listed : Array Bool} {a : Act} {w : World} (hi : ops[i]? = some oi) (hy : ∀ w, S w → (execOp a.eval oi).run P w = .ok (.value v) w)
    (h : wpM P ops K S fuel (listed.setIfInBounds i true) (a.put (some t) v) w) (hd : oi.dst = some t := by rfl)
    (hs : Region.noSelect ops = true := by kernel_rfl) (hf : Region.free .any ops listed i = true := by kernel_rfl) (hr : (Region.ready .any ops listed).contains i = true := by kernel_rfl) (hw : Region.wanted oi (yielded ops a.tmps) = true := by kernel_rfl) : wpM P ops K S (fuel + 1) listed a w :=
  rm_take i (some t) v hi hd hs hf hr hw hy h
theorem mk (i : Nat) (t : Tmp) (v : Value) {oi : Oper} {fuel : Nat} {listed : Array Bool} {a : Act} {w : World}
    (h : wpM P ops K S fuel (listed.setIfInBounds i true) (a.put (some t) v) w) (hi : ops[i]? = some oi := by rfl) (hd : oi.dst = some t := by rfl)
    (hs : Region.noSelect ops = true := by kernel_rfl) (hf : Region.free .any ops listed i = true := by kernel_rfl) (hr : (Region.ready .any ops listed).contains i = true := by kernel_rfl) (hw : Region.wanted oi (yielded ops a.tmps) = true := by kernel_rfl)
    (hy : ∀ w, S w → (execOp a.eval oi).run P w = .ok (.value v) w := by intro _ _; kernel_rfl) : wpM P ops K S (fuel + 1) listed a w :=
  rm_take i (some t) v hi hd hs hf hr hw hy h
/-- a call that answers a known value, taken first -/
theorem rm_call (i : Nat) (d : Option Tmp) (v : Value) (f : FuncId) (args : Array Value) {oi : Oper} {fuel : Nat} {listed : Array Bool} {a : Act} {w : World} (hi : ops[i]? = some oi) (hd : oi.dst = d)
    (hs : Region.noSelect ops = true) (hf : Region.free .any ops listed i = true) (hr : (Region.ready .any ops listed).contains i = true) (hw : Region.wanted oi (yielded ops a.tmps) = true)
    (he : ∀ w, S w → (execOp a.eval oi).run P w = .ok (.enter f args) w) (hc : ∀ w, S w → Calls P f args w fun e w' => e = .returned v ∧ Ltr w w') (hS : ∀ w w', S w → Ltr w w' → S w')
    (h : wpM P ops K S fuel (listed.setIfInBounds i true) (a.put d v) w) : wpM P ops K S (fuel + 1) listed a w :=
  wpM_first hi (Region.noSelect_spec hs) fuel listed a w (Region.free_spec hi hf) (by simpa using hr) ⟨hw, fun w hw => .inr ⟨f, args, he w hw, (hc w hw).mono fun e w' he => ⟨he.1, he.2, hS _ _ hw he.2⟩⟩⟩ (hd ▸ h)
/-- one that is passed over, its guard being false -/
theorem rm_pass (i : Nat) (d : Option Tmp) {oi : Oper} {fuel : Nat} {listed : Array Bool} {a : Act} {w : World} (hi : ops[i]? = some oi) (hd : oi.dst = d)
    (hr : Region.ready .any ops listed = [i]) (hw : Region.wanted oi (yielded ops a.tmps) = false)
    (h : wpM P ops K S fuel (listed.setIfInBounds i true) (a.put d undef) w) : wpM P ops K S (fuel + 1) listed a w := fun w' hl hS => by
  refine ⟨fun e => (by rw [hr] at e; cases e), fun j hj => ?_⟩
  rw [hr, List.mem_singleton] at hj; subst hj
  unfold wpOp
  simp only [hi, hw]
  exact ⟨hS, wpM_later hl (hd ▸ h)⟩
theorem rm_done {listed : Array Bool} {a : Act} {w : World} (hr : Region.ready .any ops listed = []) (h : ∀ w', Ltr w w' → S w' → K a w') : ∀ fuel, wpM P ops K S fuel listed a w
  | 0 => ⟨hr, h⟩
  | _ + 1 => fun w' hl hS => ⟨fun _ => h w' hl hS, by rw [hr]; simp⟩
/-- what is to be shown of the operation that comes up -/
def PickM (P : Program) (ops : Array Oper) (K : Act → World → Prop) (S : World → Prop) (fuel : Nat) (listed : Array Bool) (a : Act) (w : World) (i : Nat) : Prop :=
  ∀ w', Ltr w w' → S w' → wpOp P ops (Ko K) i (fun a' w'' => S w'' ∧ wpM P ops K S fuel (listed.setIfInBounds i true) a' w'') a w'
theorem rm_pick {rs : List Nat} {fuel : Nat} {listed : Array Bool} {a : Act} {w : World} (hr : Region.ready .any ops listed = rs) (hne : rs ≠ []) (h : ∀ i ∈ rs, PickM P ops K S fuel listed a w i) : wpM P ops K S (fuel + 1) listed a w :=
  fun w' hl hS => ⟨fun h0 => absurd (hr ▸ h0) hne, fun i hi => h i (hr ▸ hi) w' hl hS⟩
theorem rm_pick1 {i : Nat} {fuel : Nat} {listed : Array Bool} {a : Act} {w : World} (hr : Region.ready .any ops listed = [i]) (h : PickM P ops K S fuel listed a w i) : wpM P ops K S (fuel + 1) listed a w :=
  rm_pick hr (by simp) fun j hj => by rw [List.mem_singleton] at hj; subst hj; exact h
theorem rm_pick2 {i j : Nat} {fuel : Nat} {listed : Array Bool} {a : Act} {w : World} (hr : Region.ready .any ops listed = [i, j]) (h1 : PickM P ops K S fuel listed a w i) (h2 : PickM P ops K S fuel listed a w j) :
    wpM P ops K S (fuel + 1) listed a w :=
  rm_pick hr (by simp) fun k hk => by
    rcases List.mem_cons.1 hk with rfl | hk
    · exact h1
    · rw [List.mem_singleton] at hk; subst hk; exact h2
theorem rm_pick3 {i j l : Nat} {fuel : Nat} {listed : Array Bool} {a : Act} {w : World} (hr : Region.ready .any ops listed = [i, j, l]) (h1 : PickM P ops K S fuel listed a w i) (h2 : PickM P ops K S fuel listed a w j) (h3 : PickM P ops K S fuel listed a w l) :
    wpM P ops K S (fuel + 1) listed a w :=
  rm_pick hr (by simp) fun k hk => by
    rcases List.mem_cons.1 hk with rfl | hk
    · exact h1
    rcases List.mem_cons.1 hk with rfl | hk
    · exact h2
    · rw [List.mem_singleton] at hk; subst hk; exact h3
/-- it runs by itself: its world is told -/
theorem rm_val {i : Nat} (d : Option Tmp) (v : Value) (W : World → World) {oi : Oper} {fuel : Nat} {listed : Array Bool} {a : Act} {w : World} (hi : ops[i]? = some oi) (hd : oi.dst = d)
    (hw : Region.wanted oi (yielded ops a.tmps) = true) (he : ∀ w', Ltr w w' → S w' → (execOp a.eval oi).run P w' = .ok (.value v) (W w')) (hS : ∀ w', Ltr w w' → S w' → S (W w'))
    (h : ∀ w' w'', Ltr w w' → S w' → w'' = W w' → S w'' → wpM P ops K S fuel (listed.setIfInBounds i true) (a.put d v) w'') : PickM P ops K S fuel listed a w i := fun w' hl hS' => by
  unfold wpOp
  simp only [hi, hw, if_true]
  refine .inl (upon_step (he w' hl hS') (.inl rfl) ⟨hS w' hl hS', hd ▸ h w' _ hl hS' rfl (hS w' hl hS')⟩)
/-- it runs by itself: shown with the rest as an opaque 'K'' -/
theorem rm_one {i : Nat} {oi : Oper} {fuel : Nat} {listed : Array Bool} {a : Act} {w : World} (hi : ops[i]? = some oi)
    (hw : Region.wanted oi (yielded ops a.tmps) = true)
    (h : ∀ w', Ltr w w' → S w' → ∀ K' : Act → World → Prop, RowKit.Hid (∀ a w, S w → (∀ w'', w'' = w → S w'' → wpM P ops K S fuel (listed.setIfInBounds i true) a w'') → K' a w) → Oper.wp P oi a w' K' (Ko K)) :
    PickM P ops K S fuel listed a w i := fun w' hl hS => by
  unfold wpOp
  simp only [hi, hw, if_true]
  exact .inl (h w' hl hS _ (Lib.hid fun a w hS h => ⟨hS, h _ rfl hS⟩))

/-- a new block -/
theorem rm_alloc {i : Nat} (d : Option Tmp) (t : TypeId) (cells : Array Value) {oi : Oper} {fuel : Nat} {listed : Array Bool} {a : Act} {w : World} (hi : ops[i]? = some oi) (hd : oi.dst = d)
    (hw : Region.wanted oi (yielded ops a.tmps) = true) (he : ∀ w', (execOp a.eval oi).run P w' = .ok (.value (.pointer (some ⟨w'.heap.size, 0, none⟩))) (w'.alloc (.cells cells t)))
    (hS : ∀ w w', S w → Ltr w w' → S w')
    (h : ∀ p w'', Ltr w w'' → w.heap.size ≤ p → Blk w'' p t cells → S w'' → wpM P ops K S fuel (listed.setIfInBounds i true) (a.put d (.pointer (some ⟨p, 0, none⟩))) w'') : PickM P ops K S fuel listed a w i := fun w' hl hS' => by
  have hL : Ltr w' (w'.alloc (.cells cells t)) := bl_alloc (bl_refl _)
  unfold wpOp
  simp only [hi, hw, if_true]
  exact .inl (upon_step (he w') (.inl rfl) ⟨hS _ _ hS' hL, hd ▸ h _ _ (hl.trans hL) hl.size (Blk.new _ _ _ rfl) (hS _ _ hS' hL)⟩)
theorem rm_bslice {i : Nat} (d : Option Tmp) (t : TypeId) (cells : Array Value) (n : Nat) {oi : Oper} {fuel : Nat} {listed : Array Bool} {a : Act} {w : World} (hi : ops[i]? = some oi) (hd : oi.dst = d)
    (hw : Region.wanted oi (yielded ops a.tmps) = true) (he : ∀ w', (execOp a.eval oi).run P w' = .ok (.value (.slice (some ⟨w'.heap.size, 0, none⟩) n n)) (w'.alloc (.cells cells t)))
    (hS : ∀ w w', S w → Ltr w w' → S w')
    (h : ∀ p w'', Ltr w w'' → w.heap.size ≤ p → Blk w'' p t cells → S w'' → wpM P ops K S fuel (listed.setIfInBounds i true) (a.put d (.slice (some ⟨p, 0, none⟩) n n)) w'') : PickM P ops K S fuel listed a w i := fun w' hl hS' => by
  have hL : Ltr w' (w'.alloc (.cells cells t)) := bl_alloc (bl_refl _)
  unfold wpOp
  simp only [hi, hw, if_true]
  exact .inl (upon_step (he w') (.inl rfl) ⟨hS _ _ hS' hL, hd ▸ h _ _ (hl.trans hL) hl.size (Blk.new _ _ _ rfl) (hS _ _ hS' hL)⟩)
/-- it reads what the world at hand holds -/
theorem rm_read {i : Nat} (d : Option Tmp) (v : Value) {oi : Oper} {fuel : Nat} {listed : Array Bool} {a : Act} {w : World} (hi : ops[i]? = some oi) (hd : oi.dst = d)
    (hw : Region.wanted oi (yielded ops a.tmps) = true) (he : ∀ w', Ltr w w' → S w' → (execOp a.eval oi).run P w' = .ok (.value v) w')
    (h : ∀ w', Ltr w w' → S w' → wpM P ops K S fuel (listed.setIfInBounds i true) (a.put d v) w') : PickM P ops K S fuel listed a w i := fun w' hl hS' => by
  unfold wpOp
  simp only [hi, hw, if_true]
  exact .inl (upon_step (he w' hl hS') (.inl rfl) ⟨hS', hd ▸ h w' hl hS'⟩)
/-- one block has been written -/
structure Upd (g : Nat) (w w' : World) : Prop where
  os : w'.os = w.os
  tape : w'.tape = w.tape
  output : w'.output = w.output
  size : w'.heap.size = w.heap.size
  block : ∀ k, k ≠ g → w'.heap[k]? = w.heap[k]?
theorem Upd.below {g n : Nat} {a w w' : World} (h : Upd g w w') (hb : Below n a w) (hg : n ≤ g) : Below n a w' :=
  hb.trans ⟨h.os, h.tape, h.output, Nat.le_of_eq h.size.symm, fun k hk => h.block k (by omega)⟩
theorem Blk.upd {g : Nat} {w w' : World} {B : Nat} {t : TypeId} {cs : Array Value} (hb : Blk w B t cs) (h : Upd g w w') (hg : B ≠ g) : Blk w' B t cs := (h.block B hg).trans hb
theorem setRow_upd (w : World) (g : Nat) (cs : Array Value) : Upd g w (w.setRow g cs) := ⟨rfl, rfl, rfl, by simp [World.setRow], fun k hk => by
  simp only [World.setRow, Array.getElem?_modify]
  rw [if_neg (by omega)]⟩
theorem setRow_blk {w : World} {g : Nat} {t : TypeId} {old : Array Value} (cs : Array Value) (h : Blk w g t old) : Blk (w.setRow g cs) g t cs := setRow_heap w g old cs t _ h
/-- a store over a whole block -/
theorem rm_store {i : Nat} (g : Nat) (cells : Array Value) {ty : TypeId} {x y : Operand} {t : TypeId} {old : Array Value} {oi : Oper} {fuel : Nat} {listed : Array Bool} {a : Act} {w : World} (hi : ops[i]? = some oi) (hd : oi.dst = none)
    (ho : oi.op = .store ty x y) (hw : Region.wanted oi (yielded ops a.tmps) = true) (hx : a.eval x = .pointer (some ⟨g, 0, none⟩)) (hy : a.eval y = .agg cells) (hn : (P.info? ty).map (·.size) = some cells.size)
    (hg : ∀ w', Ltr w w' → S w' → Blk w' g t old) (hold : old.size = cells.size) (hS : ∀ w' w'', S w' → Upd g w' w'' → S w'')
    (h1 : cells.all (·.oneCell') = true)
    (h : ∀ w' w'', Ltr w w' → S w' → Upd g w' w'' → Blk w'' g t cells → S w'' → wpM P ops K S fuel (listed.setIfInBounds i true) (a.put none undef) w'') : PickM P ops K S fuel listed a w i := fun w' hl hS' => by
  have hb := hg w' hl hS'
  unfold wpOp
  simp only [hi, hw, if_true]
  refine .inl (wp_store_row ty x y ho g cells hx hy t old hb hn hold h1 ?_)
  exact ⟨hS _ _ hS' (setRow_upd _ _ _), hd ▸ h w' _ hl hS' (setRow_upd _ _ _) (setRow_blk _ hb) (hS _ _ hS' (setRow_upd _ _ _))⟩
/-- an operation that makes something new -/
theorem rm_new {i : Nat} (d : Option Tmp) (R : Value → World → Prop) {oi : Oper} {fuel : Nat} {listed : Array Bool} {a : Act} {w : World} (hi : ops[i]? = some oi) (hd : oi.dst = d)
    (hw : Region.wanted oi (yielded ops a.tmps) = true) (he : ∀ w', Ltr w w' → S w' → ∃ v w'', (execOp a.eval oi).run P w' = .ok (.value v) w'' ∧ Ltr w' w'' ∧ R v w'') (hS : ∀ w w', S w → Ltr w w' → S w')
    (h : ∀ v w'', Ltr w w'' → R v w'' → S w'' → wpM P ops K S fuel (listed.setIfInBounds i true) (a.put d v) w'') : PickM P ops K S fuel listed a w i := fun w' hl hS' => by
  obtain ⟨v, w'', hr, hL, hR⟩ := he w' hl hS'
  unfold wpOp
  simp only [hi, hw, if_true]
  exact .inl (upon_step hr (.inl rfl) ⟨hS _ _ hS' hL, hd ▸ h _ _ (hl.trans hL) hR (hS _ _ hS' hL)⟩)
/-- a call whose answer hangs on the world -/
theorem rm_callx {i : Nat} (d : Option Tmp) (f : FuncId) (args : Array Value) {R : World → Ending → World → Prop} {oi : Oper} {fuel : Nat} {listed : Array Bool} {a : Act} {w : World} (hi : ops[i]? = some oi) (hd : oi.dst = d)
    (hw : Region.wanted oi (yielded ops a.tmps) = true) (he : ∀ w, S w → (execOp a.eval oi).run P w = .ok (.enter f args) w) (hc : ∀ w', Ltr w w' → S w' → Calls P f args w' (R w'))
    (hR : ∀ w' e w'', R w' e w'' → Ltr w' w'') (hS : ∀ w w', S w → Ltr w w' → S w')
    (h : ∀ w' e w'', Ltr w w' → S w' → R w' e w'' → S w'' → ∃ v, e = .returned v ∧ wpM P ops K S fuel (listed.setIfInBounds i true) (a.put d v) w'') : PickM P ops K S fuel listed a w i := fun w' hl hS' => by
  unfold wpOp
  simp only [hi, hw, if_true]
  refine .inl ?_
  unfold Oper.wp
  rw [he w' hS', Oper.upon_enter]
  refine (hc w' hl hS').mono fun e w'' hr => ?_
  have hS2 := hS _ _ hS' (hR _ _ _ hr)
  obtain ⟨v, rfl, hv⟩ := h w' e w'' hl hS' hr hS2
  exact ⟨hS2, hd ▸ hv⟩
theorem wpM_narrow' {w1 : World} : ∀ (fuel : Nat) (listed : Array Bool) (a : Act) (w : World), Ltr w1 w → wpM P ops K (fun W => S W ∧ Ltr w1 W) fuel listed a w → wpM P ops K S fuel listed a w
  | 0, _, _, _, hl, h => ⟨h.1, fun w' h1 h2 => h.2 w' h1 ⟨h2, hl.trans h1⟩⟩
  | fuel + 1, _, _, _, hl, h => fun w' h1 h2 => ⟨(h w' h1 ⟨h2, hl.trans h1⟩).1, fun i hi => wpOp_mono (fun a' w'' h3 => ⟨h3.1.1, wpM_narrow' fuel _ a' w'' h3.1.2 h3.2⟩) ((h w' h1 ⟨h2, hl.trans h1⟩).2 i hi)⟩
/-- from here on nothing is written that lies there now -/
theorem rm_narrow {fuel : Nat} {listed : Array Bool} {a : Act} {w : World} (h : wpM P ops K (fun W => S W ∧ Ltr w W) fuel listed a w) : wpM P ops K S fuel listed a w := wpM_narrow' _ _ _ _ (Ltr.refl w) h
/-- a store of a value of one cell -/
theorem run_store1 (ty : TypeId) {o : Oper} {ρ : Operand → Value} (x y : Operand) (ho : o.op = .store ty x y) (g : Nat) (v : Value) {t : TypeId} {old : Value} {w : World} (hx : ρ x = .pointer (some ⟨g, 0, none⟩)) (hy : ρ y = v)
    (hq : (P.info? ty).map (·.size) = some 1) (h1 : v.oneCell' = true) (hg : Blk w g t #[old]) : (execOp ρ o).run P w = .ok .skip (w.setRow g #[v]) := by
  have hc : v.cells = #[v] := by cases v <;> first | rfl | (simp [Value.oneCell'] at h1)
  have hl := run_storeCells_from (P := P) g t [v] 0 #[old] w hg (by simp) (by simpa using h1)
  simp only [List.take_zero, List.nil_append] at hl
  have hs : (storeVar ty ⟨g, 0, none⟩ v).run P w = .ok () (w.setRow g #[v]) := by
    cases hi : P.info? ty with
    | none => simp [hi] at hq
    | some i =>
      have hs : i.size = 1 := by simpa [hi] using hq
      simp [storeVar, sizeOf, typeInfo, hi, hs, hc, hl]
  unfold execOp
  simp only [ho, hx, hy, Instr.storeAt, Instr.sureAddr, Sem.run_bind, Sem.run_pure, Result.andThen_ok, hs]
theorem rm_store1 {i : Nat} (g : Nat) (v : Value) {ty : TypeId} {x y : Operand} {t : TypeId} {old : Value} {oi : Oper} {fuel : Nat} {listed : Array Bool} {a : Act} {w : World} (hi : ops[i]? = some oi) (hd : oi.dst = none)
    (ho : oi.op = .store ty x y) (hw : Region.wanted oi (yielded ops a.tmps) = true) (hx : a.eval x = .pointer (some ⟨g, 0, none⟩)) (hy : a.eval y = v) (hn : (P.info? ty).map (·.size) = some 1)
    (hg : ∀ w', Ltr w w' → S w' → Blk w' g t #[old]) (hS : ∀ w' w'', S w' → Upd g w' w'' → S w'')
    (h1 : v.oneCell' = true)
    (h : ∀ w' w'', Ltr w w' → S w' → Upd g w' w'' → Blk w'' g t #[v] → S w'' → wpM P ops K S fuel (listed.setIfInBounds i true) (a.put none undef) w'') : PickM P ops K S fuel listed a w i := fun w' hl hS' => by
  have hb := hg w' hl hS'
  unfold wpOp
  simp only [hi, hw, if_true]
  exact .inl (upon_step (run_store1 ty x y ho g v hx hy hn h1 hb) (.inr ⟨rfl, rfl⟩) ⟨hS _ _ hS' (setRow_upd _ _ _), hd ▸ h w' _ hl hS' (setRow_upd _ _ _) (setRow_blk _ hb) (hS _ _ hS' (setRow_upd _ _ _))⟩)
end
theorem bel_ltr {n : Nat} {a w w' : World} (h : Below n a w) (k : Ltr w w') (hn : n ≤ a.heap.size) : Below n a w' := h.trans (Below.mono k (Nat.le_trans hn h.size))
theorem Blk.bel {n : Nat} {W W' : World} {B : Nat} {t : TypeId} {cs : Array Value} (h : Blk W B t cs) (hb : Below n W W') (hn : B < n) : Blk W' B t cs := h.belowN hb hn
theorem Ltr.bel {n : Nat} {a W W' : World} (h : Ltr a W) (hb : Below n W W') (hn : a.heap.size ≤ n) : Ltr a W' := Below.trans h (Below.mono hb hn)
theorem Tabs.bel {n : Nat} {W W' : World} (h : Tabs W) (hb : Below n W W') (hn : 4 ≤ n) : Tabs W' := by
  have key : ∀ b i v, b < 4 → W.cell? ⟨b, i, none⟩ = some v → W'.cell? ⟨b, i, none⟩ = some v := fun b i v hb' h => by
    rw [← h]; exact hb.cell (p := ⟨b, i, none⟩) (by simp only; omega)
  exact ⟨fun i v hi => key _ _ _ (by decide) (h.spans i v hi), fun i v hi => key _ _ _ (by decide) (h.needs i v hi), fun i v hi => key _ _ _ (by decide) (h.masks i v hi), fun i v hi => key _ _ _ (by decide) (h.bad i v hi)⟩
/-! ### single operations -/
section
variable {P : Program}
theorem ld1 (ty : TypeId) {o : Oper} {ρ : Operand → Value} (x : Operand) (ho : o.op = .load ty x) (b off : Nat) {w : World} (hx : ρ x = .pointer (some ⟨b, off, none⟩)) (hq : ∀ w, (isAgg ty).run P w = .ok false w) (v : Value)
    (hc : w.cell? ⟨b, off, none⟩ = some v) : (execOp ρ o).run P w = .ok (.value v) w := by
  have hl : (loadVar ty ⟨b, off, none⟩).run P w = .ok v w := by
    unfold loadVar
    rw [Sem.run_bind, hq w]
    simp [hc]
  unfold execOp
  simp only [ho, hx, Instr.loadAt, Instr.sureAddr, Sem.run_bind, Sem.run_pure, Result.andThen_ok, hl]
theorem ldN (ty : TypeId) {o : Oper} {ρ : Operand → Value} (x : Operand) (ho : o.op = .load ty x) (b off : Nat) {w : World} (hx : ρ x = .pointer (some ⟨b, off, none⟩)) (hq : ∀ w, (isAgg ty).run P w = .ok true w) (pre cs post : List Value)
    (hi : (P.info? ty).map (·.size) = some cs.length) {t : TypeId} {bcs : Array Value} (hb : Blk w b t bcs) (hcs : bcs = (pre ++ cs ++ post).toArray) (hp : pre.length = off) : (execOp ρ o).run P w = .ok (.value (.agg cs.toArray)) w := by
  subst hcs hp
  have hl : (loadCells ⟨b, pre.length, none⟩ cs.length).run P w = .ok cs.toArray w :=
    run_loadCells_list (P := P) w ⟨b, pre.length, none⟩ cs (fun j v hv => by
      have hadd : (⟨b, pre.length, none⟩ : Addr).add j = ⟨b, pre.length + j, none⟩ := by unfold Addr.add; split <;> simp_all
      rw [hadd, hb.cell]
      have hj : j < cs.length := (List.getElem?_eq_some_iff.1 hv).1
      rw [List.getElem?_toArray, List.append_assoc, List.getElem?_append_right (by omega), show pre.length + j - pre.length = j from by omega, List.getElem?_append_left hj]
      exact hv)
  have hlv : (loadVar ty ⟨b, pre.length, none⟩).run P w = .ok (.agg cs.toArray) w := by
    cases hq' : P.info? ty with
    | none => simp [hq'] at hi
    | some i =>
      have hs : i.size = cs.length := by simpa [hq'] using hi
      simp [loadVar, Sem.run_bind, hq w, sizeOf, typeInfo, hq', hs, hl]
  unfold execOp
  simp only [ho, hx, Instr.loadAt, Instr.sureAddr, Sem.run_bind, Sem.run_pure, Result.andThen_ok, hlv]
theorem ex_arith {o : Oper} {ρ : Operand → Value} {w : World} {e r : Int} (h : (execOp ρ o).run P w = .ok (.value (.int .i64 (IntKind.i64.wrap e))) w) (hb : -9223372036854775808 ≤ e ∧ e ≤ 9223372036854775807) (hr : e = r) :
    (execOp ρ o).run P w = .ok (.value (.int .i64 r)) w := by rw [h, IntWalk.i64_in e (by omega), hr]
theorem ex_bool {o : Oper} {ρ : Operand → Value} {w : World} {c : Prop} [Decidable c] {b : Bool} (h : (execOp ρ o).run P w = .ok (.value (.bool (decide c))) w) (hb : b = true ↔ c) :
    (execOp ρ o).run P w = .ok (.value (.bool b)) w := by
  rw [h]; cases b <;> simp_all
theorem ebt {o : Oper} {ρ : Operand → Value} {w : World} {c : Prop} [Decidable c] (hb : c) (h : (execOp ρ o).run P w = .ok (.value (.bool (decide c))) w := by kernel_rfl) : (execOp ρ o).run P w = .ok (.value (.bool true)) w := by rw [h, decide_eq_true hb]
theorem ebf {o : Oper} {ρ : Operand → Value} {w : World} {c : Prop} [Decidable c] (hb : ¬ c) (h : (execOp ρ o).run P w = .ok (.value (.bool (decide c))) w := by kernel_rfl) : (execOp ρ o).run P w = .ok (.value (.bool false)) w := by rw [h, decide_eq_false hb]
theorem ld (ty : TypeId) {o : Oper} {ρ : Operand → Value} {x : Operand} (b off : Nat) {w : World} {v : Value} (hc : w.cell? ⟨b, off, none⟩ = some v) (ho : o.op = .load ty x := by rfl) (hx : ρ x = .pointer (some ⟨b, off, none⟩) := by rfl) (hq : ∀ w, (isAgg ty).run P w = .ok false w := by intro _; kernel_rfl) : (execOp ρ o).run P w = .ok (.value v) w := ld1 ty x ho b off hx hq v hc
theorem ex_len_bs {o : Oper} {ρ : Operand → Value} {w : World} {l : List UInt8} (h : (execOp ρ o).run P w = .ok (.value (.int .i64 ((bs l).size : Int))) w) : (execOp ρ o).run P w = .ok (.value (.int .i64 (l.length : Int))) w := by
  rw [h, bs_size]
end
attribute [irreducible] wpM PickM
end Go.Proofs.YtliphfgiaioebaaDoor
