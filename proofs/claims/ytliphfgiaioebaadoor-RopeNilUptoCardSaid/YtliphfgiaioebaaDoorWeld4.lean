/-
  Package weld: seam.
-/
import Derived.Test.YtliphfgiaioebaaDoorWeld3
namespace Go.Proofs.YtliphfgiaioebaaDoor
set_option linter.unusedVariables false
set_option linter.unusedSimpArgs false
open Go.RowKit

/-- the four variables of seam -/
def SeamW (w wr : World) (A B : Array Value) (s : Int × Int) : Prop :=
  Below w.heap.size w wr ∧ Blk wr w.heap.size 36 A ∧ Blk wr (w.heap.size + 1) 36 B ∧ Blk wr (w.heap.size + 1 + 1) 34 #[.int .i64 0, .int .i64 0, .int .i64 0, .int .i64 0] ∧
    Blk wr (w.heap.size + 1 + 1 + 1) 34 #[.int .i64 0, .int .i64 s.1, .int .i64 s.2, .int .i64 0]
theorem seamOut_in (a b : List UInt8) (m k : Nat) : seamIn a b (k + 1) (seamOut a b m k) m = seamOut a b m (k + 1) := rfl
set_option maxRecDepth 100000 in
set_option maxHeartbeats 4000000 in
theorem seam_any (a b : List UInt8) (ha : a.length ≤ 268435456) (hb : b.length ≤ 268435456) (w : World) (hT : Tabs w) :
    Calls Tryd.prog 109 #[(weldOf a).val, (weldOf b).val] w fun e w' => e = .returned (szV 0 (seamOf a b).1 (seamOf a b).2 (seamE a b)) ∧ Below w.heap.size w w' := by
  have za := bs_size (tailOf a)
  have zb := bs_size (headOf b)
  have hX : ∀ k j, k ≤ (tailOf a).length → j ≤ (headOf b).length → (bs (tailOf a)).extract ((tailOf a).length - k) (tailOf a).length ++ (bs (headOf b)).extract 0 j = bs (seamL a b k j) := fun k j hk hj => by
    rw [bs_extract, bs_extract, bs_append, List.take_of_length_le (Nat.le_refl _), List.drop_zero, seamL_ends a b k j hk hj]
  have ht := fun W => tailIs_any (tailOf a) 13 W (by rw [tailOf_len]; omega)
  have hE : seamE a b = if endIs (tailOf a) 13 = true ∧ 0 < (headOf b).length ∧ gb (headOf b) 0 = 10 then 1 else 0 := by
    have e1 : gb (headOf b) 0 = gb b 0 := gb_take b 3 0 (by omega)
    have e2 : (0 < (headOf b).length) ↔ 0 < b.length := by rw [headOf_len]; omega
    have e3 : endIs (tailOf a) 13 = true ↔ (0 < a.length ∧ gb a (a.length - 1) = 13) := by
      unfold endIs
      rw [Bool.and_eq_true, decide_eq_true_eq, decide_eq_true_eq, tailOf_len]
      by_cases h : a.length = 0
      · simp [h]
      · have : gb (tailOf a) (min 3 a.length - 1) = gb a (a.length - 1) := by unfold tailOf; rw [gb_drop]; congr 1; omega
        rw [this]; constructor <;> (rintro ⟨h1, h2⟩; exact ⟨by omega, h2⟩)
    unfold seamE
    simp only [e1, e2, e3, and_assoc]
  have hg0 := bs_get' (headOf b) 0
  have hm1 : (tailOf a).length ≤ 3 := by rw [tailOf_len]; omega
  have hm2 : (headOf b).length ≤ 3 := by rw [headOf_len]; omega
  have hS : seamOf a b = seamOut a b (headOf b).length (tailOf a).length := by unfold seamOf; rw [headOf_len, tailOf_len]
  rw [hS, hE, weldOf_val, weldOf_val]
  generalize runesN a = qa1
  generalize unitsN a = qa2
  generalize endsN a = qa3
  generalize runesN b = qb1
  generalize unitsN b = qb2
  generalize endsN b = qb3
  generalize bs (headOf a) = HA
  generalize bs (tailOf b) = TB
  generalize (gb (headOf b) 0) = g0 at *
  generalize hHB : bs (headOf b) = HB at *
  generalize hTA : bs (tailOf a) = TA at *
  generalize (headOf b).length = m2 at *
  generalize hta : (tailOf a).length = m1 at *
  generalize endIs (tailOf a) 13 = c1 at *
  generalize hEE : (if c1 = true ∧ 0 < m2 ∧ g0 = 10 then (1 : Int) else 0) = E at *
  have HE := Lib.hid hEE
  clear hEE
  have HX := Lib.hid hX
  have HG := Lib.hid hg0
  have HT := Lib.hid hT
  have Ht := Lib.hid ht
  clear hX hg0 hT ht hS hE hHB hTA hta
  go_enter Tryd.func109, Tryd.ntmps109
  go_wp2_with fail
  go_loopw [6] (fun i wr => ∃ k : Nat, k ≤ m1 ∧ i = .int .i64 ((k : Int) + 1) ∧ SeamW w wr #[.int .i64 a.length, .int .i64 qa1, .int .i64 qa2, .int .i64 qa3, .string HA, .string TA] #[.int .i64 b.length, .int .i64 qb1, .int .i64 qb2, .int .i64 qb3, .string HB, .string TB] (seamOut a b m2 k)) (fun i _ => 5 - (intOf i).toNat)
  case atStart =>
    refine ⟨0, by omega, rfl, (by (repeat (with_reducible first | assumption | exact bl_refl _ | refine bl_alloc ?_ | refine bl_iter ?_ | refine bl_drew ?_ | refine bl_drewN ?_ | refine bl_bytes ?_ | refine bl_set ?_ ?_ | refine bl_trans ?_ (by assumption))) <;> first | exact Nat.le_refl _ | (simp; done) | (simp; omega) | omega), (by (repeat (with_reducible first | assumption | (refine Blk.new _ _ _ ?_; first | rfl | (simp; done)) | refine Blk.alloc ?_ _ | refine Blk.drew ?_ | refine Blk.other ?_ ?_ _ | refine Blk.below ?_ (by assumption))) <;> first | rfl | (simp; done) | (simp; omega) | omega), (by (repeat (with_reducible first | assumption | (refine Blk.new _ _ _ ?_; first | rfl | (simp; done)) | refine Blk.alloc ?_ _ | refine Blk.drew ?_ | refine Blk.other ?_ ?_ _ | refine Blk.below ?_ (by assumption))) <;> first | rfl | (simp; done) | (simp; omega) | omega), (by (repeat (with_reducible first | assumption | (refine Blk.new _ _ _ ?_; first | rfl | (simp; done)) | refine Blk.alloc ?_ _ | refine Blk.drew ?_ | refine Blk.other ?_ ?_ _ | refine Blk.below ?_ (by assumption))) <;> first | rfl | (simp; done) | (simp; omega) | omega), ?_⟩
    show Blk _ _ _ #[.int .i64 0, .int .i64 0, .int .i64 0, .int .i64 0]
    exact (by (repeat (with_reducible first | assumption | (refine Blk.new _ _ _ ?_; first | rfl | (simp; done)) | refine Blk.alloc ?_ _ | refine Blk.drew ?_ | refine Blk.other ?_ ?_ _ | refine Blk.below ?_ (by assumption))) <;> first | rfl | (simp; done) | (simp; omega) | omega)
  case round =>
    obtain ⟨k, hk, rfl, hB, bA, bB, bR, bS⟩ := hrel
    have cA : wr.cell? ⟨w.heap.size, 5, none⟩ = some (.string TA) := bA.cell 5
    have cB : wr.cell? ⟨w.heap.size + 1, 4, none⟩ = some (.string HB) := bB.cell 4
    by_cases hk1 : k + 1 ≤ m1
    · have k1 : (k : Int) + 1 ≤ (m1 : Int) := by omega
      go_wp2_with fail
      go_loopw [7] (fun i wr => ∃ j : Nat, j ≤ m2 ∧ i = .int .i64 ((j : Int) + 1) ∧ SeamW w wr #[.int .i64 a.length, .int .i64 qa1, .int .i64 qa2, .int .i64 qa3, .string HA, .string TA] #[.int .i64 b.length, .int .i64 qb1, .int .i64 qb2, .int .i64 qb3, .string HB, .string TB] (seamIn a b (k + 1) (seamOut a b m2 k) j)) (fun i _ => 5 - (intOf i).toNat)
      case atStart =>
        refine ⟨0, by omega, rfl, (by (repeat (with_reducible first | assumption | exact bl_refl _ | refine bl_alloc ?_ | refine bl_iter ?_ | refine bl_drew ?_ | refine bl_drewN ?_ | refine bl_bytes ?_ | refine bl_set ?_ ?_ | refine bl_trans ?_ (by assumption))) <;> first | exact Nat.le_refl _ | (simp; done) | (simp; omega) | omega), (by (repeat (with_reducible first | assumption | (refine Blk.new _ _ _ ?_; first | rfl | (simp; done)) | refine Blk.alloc ?_ _ | refine Blk.drew ?_ | refine Blk.other ?_ ?_ _ | refine Blk.below ?_ (by assumption))) <;> first | rfl | (simp; done) | (simp; omega) | omega), (by (repeat (with_reducible first | assumption | (refine Blk.new _ _ _ ?_; first | rfl | (simp; done)) | refine Blk.alloc ?_ _ | refine Blk.drew ?_ | refine Blk.other ?_ ?_ _ | refine Blk.below ?_ (by assumption))) <;> first | rfl | (simp; done) | (simp; omega) | omega), (by (repeat (with_reducible first | assumption | (refine Blk.new _ _ _ ?_; first | rfl | (simp; done)) | refine Blk.alloc ?_ _ | refine Blk.drew ?_ | refine Blk.other ?_ ?_ _ | refine Blk.below ?_ (by assumption))) <;> first | rfl | (simp; done) | (simp; omega) | omega), ?_⟩
        show Blk _ _ _ #[.int .i64 0, .int .i64 (seamOut a b m2 k).1, .int .i64 (seamOut a b m2 k).2, .int .i64 0]
        exact (by (repeat (with_reducible first | assumption | (refine Blk.new _ _ _ ?_; first | rfl | (simp; done)) | refine Blk.alloc ?_ _ | refine Blk.drew ?_ | refine Blk.other ?_ ?_ _ | refine Blk.below ?_ (by assumption))) <;> first | rfl | (simp; done) | (simp; omega) | omega)
      case round =>
        obtain ⟨j, hj, rfl, hB', bA', bB', bR', bS'⟩ := hrel
        have cA' : wr.cell? ⟨w.heap.size, 5, none⟩ = some (.string TA) := bA'.cell 5
        have cB' : wr.cell? ⟨w.heap.size + 1, 4, none⟩ = some (.string HB) := bB'.cell 4
        by_cases hj1 : j + 1 ≤ m2
        · have j1 : (j : Int) + 1 ≤ (m2 : Int) := by omega
          obtain ⟨d, hd⟩ : ∃ d, m1 = d + (k + 1) := ⟨m1 - (k + 1), by omega⟩
          have hx := HX.out (k + 1) (j + 1) hk1 hj1
          rw [show m1 - (k + 1) = d from by omega] at hx
          have HXd := Lib.hid hx
          have d1 := Lib.hid (show IntKind.i64.wrap ((m1 : Int) - ((k : Int) + 1)) = d by rw [IntWalk.i64_in _ (by omega)]; omega)
          have HD := Lib.hid hd
          have hlen : (seamL a b (k + 1) (j + 1)).length ≤ 9223372036854775807 := by
            have := congrArg ByteArray.size hx
            rw [bs_size, ByteArray.size_append, ByteArray.size_extract, ByteArray.size_extract] at this
            omega
          have hval := fun W A c (h : Below w.heap.size w W) h1 h2 => Value_any A c (seamL a b (k + 1) (j + 1)) W (HT.out.below h) h1 h2 hlen
          have HV := Lib.hid hval
          clear hx hd hlen hval
          have q0 : ¬ ((j : Int) + 1 < 0) := by omega
          go_wp2_with fail
          refine reg_begin (fun W => Below wr.heap.size wr W) (by kernel_rfl) (by exact (by (repeat (with_reducible first | assumption | exact bl_refl _ | refine bl_alloc ?_ | refine bl_iter ?_ | refine bl_drew ?_ | refine bl_drewN ?_ | refine bl_bytes ?_ | refine bl_set ?_ ?_ | refine bl_trans ?_ (by assumption))) <;> first | exact Nat.le_refl _ | (simp; done) | (simp; omega) | omega)) fun K hK hS => ?_
          refine reg_take 0 (some 23) (.pointer (some ⟨w.heap.size, 5, none⟩)) rfl rfl (by kernel_rfl) (by kernel_rfl) (by kernel_rfl) (by kernel_rfl) (fun W hW => by (rfl)) hS ?_
          try simp only [Act.put, List.setIfInBounds_toArray, List.set_cons_zero, List.set_cons_succ]
          refine reg_take 1 (some 24) (.string TA) (oi := { dst := some 24, op := Go.Op.load 9 (Go.Operand.tmp 23), type := 9, pos := "weld.go:84", after := #[{ on := 0, ground := Go.Ground.data }], guard := none }) rfl rfl (by kernel_rfl) (by kernel_rfl) (by kernel_rfl) (by kernel_rfl) (fun W hW => by (have hx := bl_cell hW (by assumption : wr.cell? ⟨w.heap.size, 5, none⟩ = some _); go_simp)) hS ?_
          try simp only [Act.put, List.setIfInBounds_toArray, List.set_cons_zero, List.set_cons_succ]
          refine reg_take 2 (some 25) (.pointer (some ⟨w.heap.size, 5, none⟩)) rfl rfl (by kernel_rfl) (by kernel_rfl) (by kernel_rfl) (by kernel_rfl) (fun W hW => by (rfl)) hS ?_
          try simp only [Act.put, List.setIfInBounds_toArray, List.set_cons_zero, List.set_cons_succ]
          refine reg_take 3 (some 26) (.string TA) (oi := { dst := some 26, op := Go.Op.load 9 (Go.Operand.tmp 25), type := 9, pos := "weld.go:84", after := #[{ on := 2, ground := Go.Ground.data }], guard := none }) rfl rfl (by kernel_rfl) (by kernel_rfl) (by kernel_rfl) (by kernel_rfl) (fun W hW => by (have hx := bl_cell hW (by assumption : wr.cell? ⟨w.heap.size, 5, none⟩ = some _); go_simp)) hS ?_
          try simp only [Act.put, List.setIfInBounds_toArray, List.set_cons_zero, List.set_cons_succ]
          refine reg_take 4 (some 27) (.int .i64 m1) (oi := { dst := some 27, op := Go.Op.call { callee := Go.Callee.builtin Go.Builtin.len, args := #[Go.Operand.tmp 26], argTypes := #[9] }, type := 3, pos := "weld.go:84", after := #[{ on := 3, ground := Go.Ground.data }], guard := none }) rfl rfl (by kernel_rfl) (by kernel_rfl) (by kernel_rfl) (by kernel_rfl) (fun W hW => by (first | rfl | go_simp)) hS ?_
          try simp only [Act.put, List.setIfInBounds_toArray, List.set_cons_zero, List.set_cons_succ]
          refine reg_take 5 (some 28) (.int .i64 ((k : Int) + 1)) rfl rfl (by kernel_rfl) (by kernel_rfl) (by kernel_rfl) (by kernel_rfl) (fun W hW => by (rfl)) hS ?_
          try simp only [Act.put, List.setIfInBounds_toArray, List.set_cons_zero, List.set_cons_succ]
          refine reg_take 6 (some 29) (.int .i64 d) (oi := { dst := some 29, op := Go.Op.binOp Go.BinOp.sub 3 (Go.Operand.tmp 27) (Go.Operand.tmp 28) 3, type := 3, pos := "weld.go:84", after := #[{ on := 4, ground := Go.Ground.data }, { on := 5, ground := Go.Ground.data }], guard := none }) rfl rfl (by kernel_rfl) (by kernel_rfl) (by kernel_rfl) (by kernel_rfl) (fun W hW => by (have hx := d1.out; go_simp)) hS ?_
          try simp only [Act.put, List.setIfInBounds_toArray, List.set_cons_zero, List.set_cons_succ]
          refine reg_take 7 (some 30) (.string (TA.extract d m1)) (oi := { dst := some 30, op := Go.Op.slice 9 (Go.Operand.tmp 24) (some (Go.Operand.tmp 29)) none none, type := 9, pos := "weld.go:84", after := #[{ on := 1, ground := Go.Ground.data }, { on := 6, ground := Go.Ground.data }], guard := none }) rfl rfl (by kernel_rfl) (by kernel_rfl) (by kernel_rfl) (by kernel_rfl) (fun W hW => by (have hx := HD.out; go_simp; omega)) hS ?_
          try simp only [Act.put, List.setIfInBounds_toArray, List.set_cons_zero, List.set_cons_succ]
          refine reg_take 8 (some 31) (.pointer (some ⟨w.heap.size + 1, 4, none⟩)) rfl rfl (by kernel_rfl) (by kernel_rfl) (by kernel_rfl) (by kernel_rfl) (fun W hW => by (rfl)) hS ?_
          try simp only [Act.put, List.setIfInBounds_toArray, List.set_cons_zero, List.set_cons_succ]
          refine reg_take 9 (some 32) (.string HB) (oi := { dst := some 32, op := Go.Op.load 9 (Go.Operand.tmp 31), type := 9, pos := "weld.go:84", after := #[{ on := 8, ground := Go.Ground.data }], guard := none }) rfl rfl (by kernel_rfl) (by kernel_rfl) (by kernel_rfl) (by kernel_rfl) (fun W hW => by (have hx := bl_cell hW (by assumption : wr.cell? ⟨w.heap.size + 1, 4, none⟩ = some _); go_simp)) hS ?_
          try simp only [Act.put, List.setIfInBounds_toArray, List.set_cons_zero, List.set_cons_succ]
          refine reg_take 10 (some 33) (.int .i64 ((j : Int) + 1)) rfl rfl (by kernel_rfl) (by kernel_rfl) (by kernel_rfl) (by kernel_rfl) (fun W hW => by (rfl)) hS ?_
          try simp only [Act.put, List.setIfInBounds_toArray, List.set_cons_zero, List.set_cons_succ]
          refine reg_take 11 (some 34) (.string (HB.extract 0 (j + 1))) (oi := { dst := some 34, op := Go.Op.slice 9 (Go.Operand.tmp 32) none (some (Go.Operand.tmp 33)) none, type := 9, pos := "weld.go:84", after := #[{ on := 9, ground := Go.Ground.data }, { on := 10, ground := Go.Ground.data }], guard := none }) rfl rfl (by kernel_rfl) (by kernel_rfl) (by kernel_rfl) (by kernel_rfl) (fun W hW => by (first | rfl | go_simp)) hS ?_
          try simp only [Act.put, List.setIfInBounds_toArray, List.set_cons_zero, List.set_cons_succ]
          refine reg_take 12 (some 35) (.string (bs (seamL a b (k + 1) (j + 1)))) (oi := { dst := some 35, op := Go.Op.binOp Go.BinOp.add 9 (Go.Operand.tmp 30) (Go.Operand.tmp 34) 9, type := 9, pos := "weld.go:84", after := #[{ on := 7, ground := Go.Ground.data }, { on := 11, ground := Go.Ground.data }], guard := none }) rfl rfl (by kernel_rfl) (by kernel_rfl) (by kernel_rfl) (by kernel_rfl) (fun W hW => by (have hx := HXd.out; go_simp; omega)) hS ?_
          try simp only [Act.put, List.setIfInBounds_toArray, List.set_cons_zero, List.set_cons_succ]
          refine reg_one 13 (oi := { dst := some 36, op := Go.Op.convert 9 41 (Go.Operand.tmp 35), type := 41, pos := "weld.go:84", after := #[{ on := 12, ground := Go.Ground.data }], guard := none }) rfl (by kernel_rfl) (by kernel_rfl) fun K' hK' => ?_
          have hx := conv_to wr.drew (seamL a b (k + 1) (j + 1)); go_simp
          refine hK'.out _ _ ?_ ?_
          · exact bl_bytes (bl_drew (bl_refl _))
          clear hK' K' hS
          intro hS
          try simp only [Act.put, List.setIfInBounds_toArray, List.set_cons_zero, List.set_cons_succ]
          refine reg_callB 14 (some 37) (.int .i32 (valueOf (seamL a b (k + 1) (j + 1)))) 122 #[.slice (some ⟨wr.heap.size, 0, none⟩) (seamL a b (k + 1) (j + 1)).length (grownCap wr.drew (seamL a b (k + 1) (j + 1)).length 0 5)] rfl rfl (by kernel_rfl) (by kernel_rfl) (by first | rfl | go_simp) ?_ ?_ fun w2 hR2 hS => ?_
          · exact HV.out _ _ _ (bl_trans hB' hS) (conv_at _ _ _) (grownCap_ge _ _ _ _)
          · intro w' hR; exact bl_trans hS hR
          try simp only [Act.put, List.setIfInBounds_toArray, List.set_cons_zero, List.set_cons_succ]
          refine reg_take 15 (some 8) (.int .i32 (valueOf (seamL a b (k + 1) (j + 1)))) rfl rfl (by kernel_rfl) (by kernel_rfl) (by kernel_rfl) (by kernel_rfl) (fun W hW => by (rfl)) hS ?_
          try simp only [Act.put, List.setIfInBounds_toArray, List.set_cons_zero, List.set_cons_succ]
          refine reg_done (by kernel_rfl) (hK.out _ _ ?_) _
          clear hK K
          have bS2 := bS'.below hS
          have cS1 : w2.cell? ⟨w.heap.size + 1 + 1 + 1, 1, none⟩ = some _ := bS2.cell 1
          have cS2 : w2.cell? ⟨w.heap.size + 1 + 1 + 1, 2, none⟩ = some _ := bS2.cell 2
          have fS1 := bS2.frozen 1
          have fS2 := bS2.frozen 2
          have hstep : seamIn a b (k + 1) (seamOut a b m2 k) (j + 1) = if 0 ≤ valueOf (seamL a b (k + 1) (j + 1)) then ((k : Int) + 1 + ((j : Int) + 1) - 1, (k : Int) + 1 + ((j : Int) + 1) - unitsOf (valueOf (seamL a b (k + 1) (j + 1)))) else seamIn a b (k + 1) (seamOut a b m2 k) j := rfl
          generalize valueOf (seamL a b (k + 1) (j + 1)) = v at *
          by_cases hv : 0 ≤ v
          · rw [if_pos hv] at hstep
            have HST := Lib.hid hstep
            clear hstep
            have hun := fun W => units_any v W
            have huu : 1 ≤ unitsOf v ∧ unitsOf v ≤ 2 := by unfold unitsOf; split <;> omega
            generalize unitsOf v = u at *
            have HU := Lib.hid hun
            clear hun
            have y1 : IntKind.i64.wrap ((k : Int) + 1 + ((j : Int) + 1)) = (k : Int) + 1 + ((j : Int) + 1) := IntWalk.i64_in _ (by omega)
            have y2 : IntKind.i64.wrap ((k : Int) + 1 + ((j : Int) + 1) - 1) = (k : Int) + 1 + ((j : Int) + 1) - 1 := IntWalk.i64_in _ (by omega)
            have y3 : IntKind.i64.wrap ((k : Int) + 1 + ((j : Int) + 1) - u) = (k : Int) + 1 + ((j : Int) + 1) - u := IntWalk.i64_in _ (by omega)
            have y4 : IntKind.i64.wrap ((j : Int) + 1 + 1) = (j : Int) + 1 + 1 := IntWalk.i64_in _ (by omega)
            go_wp2_with (go_at_call 116; refine (HU.out _).mono ?_; rintro e w1 ⟨rfl, rfl⟩)
            go_roundw
            case rel =>
              refine ⟨j + 1, hj1, by go_num, (by (repeat (with_reducible first | assumption | exact bl_refl _ | refine bl_alloc ?_ | refine bl_iter ?_ | refine bl_drew ?_ | refine bl_drewN ?_ | refine bl_bytes ?_ | refine bl_set ?_ ?_ | refine bl_trans ?_ (by assumption))) <;> first | exact Nat.le_refl _ | (simp; done) | (simp; omega) | omega), (by (repeat (with_reducible first | assumption | (refine Blk.new _ _ _ ?_; first | rfl | (simp; done)) | refine Blk.alloc ?_ _ | refine Blk.drew ?_ | refine Blk.other ?_ ?_ _ | refine Blk.below ?_ (by assumption))) <;> first | rfl | (simp; done) | (simp; omega) | omega), (by (repeat (with_reducible first | assumption | (refine Blk.new _ _ _ ?_; first | rfl | (simp; done)) | refine Blk.alloc ?_ _ | refine Blk.drew ?_ | refine Blk.other ?_ ?_ _ | refine Blk.below ?_ (by assumption))) <;> first | rfl | (simp; done) | (simp; omega) | omega), (by (repeat (with_reducible first | assumption | (refine Blk.new _ _ _ ?_; first | rfl | (simp; done)) | refine Blk.alloc ?_ _ | refine Blk.drew ?_ | refine Blk.other ?_ ?_ _ | refine Blk.below ?_ (by assumption))) <;> first | rfl | (simp; done) | (simp; omega) | omega), ?_⟩
              rw [HST.out]; exact (bS2.set 1 _).set 2 _
            case measure => simp [intOf]; omega
          · rw [if_neg hv] at hstep
            have HST := Lib.hid hstep
            clear hstep
            have y4 : IntKind.i64.wrap ((j : Int) + 1 + 1) = (j : Int) + 1 + 1 := IntWalk.i64_in _ (by omega)
            go_wp2_with fail
            go_roundw
            case rel =>
              refine ⟨j + 1, hj1, by go_num, (by (repeat (with_reducible first | assumption | exact bl_refl _ | refine bl_alloc ?_ | refine bl_iter ?_ | refine bl_drew ?_ | refine bl_drewN ?_ | refine bl_bytes ?_ | refine bl_set ?_ ?_ | refine bl_trans ?_ (by assumption))) <;> first | exact Nat.le_refl _ | (simp; done) | (simp; omega) | omega), (by (repeat (with_reducible first | assumption | (refine Blk.new _ _ _ ?_; first | rfl | (simp; done)) | refine Blk.alloc ?_ _ | refine Blk.drew ?_ | refine Blk.other ?_ ?_ _ | refine Blk.below ?_ (by assumption))) <;> first | rfl | (simp; done) | (simp; omega) | omega), (by (repeat (with_reducible first | assumption | (refine Blk.new _ _ _ ?_; first | rfl | (simp; done)) | refine Blk.alloc ?_ _ | refine Blk.drew ?_ | refine Blk.other ?_ ?_ _ | refine Blk.below ?_ (by assumption))) <;> first | rfl | (simp; done) | (simp; omega) | omega), (by (repeat (with_reducible first | assumption | (refine Blk.new _ _ _ ?_; first | rfl | (simp; done)) | refine Blk.alloc ?_ _ | refine Blk.drew ?_ | refine Blk.other ?_ ?_ _ | refine Blk.below ?_ (by assumption))) <;> first | rfl | (simp; done) | (simp; omega) | omega), ?_⟩
              rw [HST.out]; exact bS2
            case measure => simp [intOf]; omega
        · have j1 : ¬ ((j : Int) + 1 ≤ (m2 : Int)) := by omega
          obtain rfl : j = m2 := by omega
          have y4 : IntKind.i64.wrap ((k : Int) + 1 + 1) = (k : Int) + 1 + 1 := IntWalk.i64_in _ (by omega)
          go_wp2_with fail
          go_roundw
          case rel => exact ⟨k + 1, hk1, by go_num, (by (repeat (with_reducible first | assumption | exact bl_refl _ | refine bl_alloc ?_ | refine bl_iter ?_ | refine bl_drew ?_ | refine bl_drewN ?_ | refine bl_bytes ?_ | refine bl_set ?_ ?_ | refine bl_trans ?_ (by assumption))) <;> first | exact Nat.le_refl _ | (simp; done) | (simp; omega) | omega), bA', bB', bR', bS'⟩
          case measure => simp [intOf]; omega
    · have k1 : ¬ ((k : Int) + 1 ≤ (m1 : Int)) := by omega
      obtain rfl : k = m1 := by omega
      have cB0 : wr.cell? ⟨w.heap.size + 1, 4, none⟩ = some (.string HB) := bB.cell 4
      have s0 : wr.cell? ⟨w.heap.size + 1 + 1 + 1, 0, none⟩ = some _ := bS.cell 0
      have s1 : wr.cell? ⟨w.heap.size + 1 + 1 + 1, 1, none⟩ = some _ := bS.cell 1
      have s2 : wr.cell? ⟨w.heap.size + 1 + 1 + 1, 2, none⟩ = some _ := bS.cell 2
      have s3 : wr.cell? ⟨w.heap.size + 1 + 1 + 1, 3, none⟩ = some _ := bS.cell 3
      have r0 : wr.cell? ⟨w.heap.size + 1 + 1, 0, none⟩ = some _ := bR.cell 0
      have r1 : wr.cell? ⟨w.heap.size + 1 + 1, 1, none⟩ = some _ := bR.cell 1
      have r2 : wr.cell? ⟨w.heap.size + 1 + 1, 2, none⟩ = some _ := bR.cell 2
      have r3 : wr.cell? ⟨w.heap.size + 1 + 1, 3, none⟩ = some _ := bR.cell 3
      have f0 := bR.frozen 0
      have f1 := bR.frozen 1
      have f2 := bR.frozen 2
      have f3 := bR.frozen 3
      have fS3 := bS.frozen 3
      clear bA bB bR bS
      cases c1
      · go_wp2_with (go_at_call 123; refine (Ht.out _).mono ?_; rintro e w1 ⟨rfl, rfl⟩)
        all_goals exact bodyPost_ret (v := .agg #[.int .i64 0, .int .i64 (seamOut a b m2 k).1, .int .i64 (seamOut a b m2 k).2, .int .i64 0]) (by simp [results, Tryd.results109, go_sem, *]) rfl ⟨by rw [show E = 0 from HE.out.symm.trans (if_neg (by simp))]; rfl, (by (repeat (with_reducible first | assumption | exact bl_refl _ | refine bl_alloc ?_ | refine bl_iter ?_ | refine bl_drew ?_ | refine bl_drewN ?_ | refine bl_bytes ?_ | refine bl_set ?_ ?_ | refine bl_trans ?_ (by assumption))) <;> first | exact Nat.le_refl _ | (simp; done) | (simp; omega) | omega)⟩
      · by_cases h0 : m2 = 0
        · have h0' : ¬ 0 < m2 := by omega
          have H0 := Lib.hid h0'
          clear h0'
          rw [h0] at zb
          have z0 : ¬ (0 : Int) < (0 : Int) := by omega
          go_wp2_with (go_at_call 123; refine (Ht.out _).mono ?_; rintro e w1 ⟨rfl, rfl⟩)
          all_goals exact bodyPost_ret (v := .agg #[.int .i64 0, .int .i64 (seamOut a b m2 k).1, .int .i64 (seamOut a b m2 k).2, .int .i64 0]) (by simp [results, Tryd.results109, go_sem, *]) rfl ⟨by rw [show E = 0 from HE.out.symm.trans (if_neg (fun h => H0.out h.2.1))]; rfl, (by (repeat (with_reducible first | assumption | exact bl_refl _ | refine bl_alloc ?_ | refine bl_iter ?_ | refine bl_drew ?_ | refine bl_drewN ?_ | refine bl_bytes ?_ | refine bl_set ?_ ?_ | refine bl_trans ?_ (by assumption))) <;> first | exact Nat.le_refl _ | (simp; done) | (simp; omega) | omega)⟩
        · have z0 : (0 : Int) < (m2 : Int) := by omega
          have z1 : 0 < HB.size := by omega
          have z2 := HG.out
          by_cases hg : g0 = 10
          · have H0 := Lib.hid (show 0 < m2 by omega)
            subst hg
            go_wp2_with (go_at_call 123; refine (Ht.out _).mono ?_; rintro e w1 ⟨rfl, rfl⟩)
            all_goals exact bodyPost_ret (v := .agg #[.int .i64 0, .int .i64 (seamOut a b m2 k).1, .int .i64 (seamOut a b m2 k).2, .int .i64 1]) (by simp [results, Tryd.results109, go_sem, *]) rfl ⟨by rw [show E = 1 from HE.out.symm.trans (if_pos (by have := H0.out; simp [this]))]; rfl, (by (repeat (with_reducible first | assumption | exact bl_refl _ | refine bl_alloc ?_ | refine bl_iter ?_ | refine bl_drew ?_ | refine bl_drewN ?_ | refine bl_bytes ?_ | refine bl_set ?_ ?_ | refine bl_trans ?_ (by assumption))) <;> first | exact Nat.le_refl _ | (simp; done) | (simp; omega) | omega)⟩
          · have H0 := Lib.hid hg
            have z3 : (g0 == 10) = false := by simpa using hg
            clear hg
            go_wp2_with (go_at_call 123; refine (Ht.out _).mono ?_; rintro e w1 ⟨rfl, rfl⟩)
            all_goals exact bodyPost_ret (v := .agg #[.int .i64 0, .int .i64 (seamOut a b m2 k).1, .int .i64 (seamOut a b m2 k).2, .int .i64 0]) (by simp [results, Tryd.results109, go_sem, *]) rfl ⟨by rw [show E = 0 from HE.out.symm.trans (if_neg (fun h => H0.out h.2.2))]; rfl, (by (repeat (with_reducible first | assumption | exact bl_refl _ | refine bl_alloc ?_ | refine bl_iter ?_ | refine bl_drew ?_ | refine bl_drewN ?_ | refine bl_bytes ?_ | refine bl_set ?_ ?_ | refine bl_trans ?_ (by assumption))) <;> first | exact Nat.le_refl _ | (simp; done) | (simp; omega) | omega)⟩
end Go.Proofs.YtliphfgiaioebaaDoor
