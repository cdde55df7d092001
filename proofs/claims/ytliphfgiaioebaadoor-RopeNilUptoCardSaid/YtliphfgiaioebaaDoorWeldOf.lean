/-
  Package weld: Of.
-/
import Derived.Test.YtliphfgiaioebaaDoorSizes
import Derived.Test.YtliphfgiaioebaaDoorReg
import Derived.Deep.RegionHeld3
namespace Go.Proofs.YtliphfgiaioebaaDoor
set_option linter.unusedVariables false
set_option linter.unusedSimpArgs false
open Go.RowKit

/-- the measure of bytes -/
def headOf (l : List UInt8) : List UInt8 := l.take 3
def tailOf (l : List UInt8) : List UInt8 := l.drop (l.length - 3)
structure WeldT where
  bytes : Int
  runes : Int
  units : Int
  ends : Int
  head : List UInt8
  tail : List UInt8
def WeldT.val (m : WeldT) : Value := .agg #[.int .i64 m.bytes, .int .i64 m.runes, .int .i64 m.units, .int .i64 m.ends, .string (bs m.head), .string (bs m.tail)]
def weldOf (l : List UInt8) : WeldT := ⟨l.length, (szOf l (places l)).1, (szOf l (places l)).2.1, (szOf l (places l)).2.2.1, headOf l, tailOf l⟩

set_option maxRecDepth 100000 in
set_option maxHeartbeats 4000000 in
theorem Of_any (A : Option Addr) (c : Nat) (l : List UInt8) (w : World) (hT : Tabs w) (hA : BytesAt w A l) (hc : l.length ≤ c) (hm : l.length ≤ 268435456) :
    Calls Tryd.prog 60 #[.slice A l.length c] w fun e w' => e = .returned (weldOf l).val ∧ Below w.heap.size w w' := by
  have hz := fun W (hb : Below w.heap.size w W) => Sizes_any A c l W (hT.below hb) (hA.below hb) hc (by omega)
  have HZ := Lib.hid hz
  have hval : (weldOf l).val = .agg #[.int .i64 l.length, .int .i64 (szOf l (places l)).1, .int .i64 (szOf l (places l)).2.1, .int .i64 (szOf l (places l)).2.2.1, .string (bs (headOf l)), .string (bs (tailOf l))] := rfl
  have HV := Lib.hid hval
  clear hz hT hval
  have hci : (l.length : Int) ≤ (c : Int) := by omega
  have hl0 : (0 : Int) ≤ (l.length : Int) := by omega
  have hl1 : ¬ ((268435456 : Int) < (l.length : Int)) := by omega
  unfold sizesV at HZ
  by_cases h3 : l.length ≤ 3
  · -- the whole is head and tail
    have hcv : ∀ W, Below w.heap.size w W → (convert 41 9 (.slice A l.length c)).run Tryd.prog W = .ok (.string (bs l)) W := fun W hW => by
      by_cases h0 : l.length = 0
      · obtain rfl : l = [] := List.eq_nil_of_length_eq_zero h0
        exact conv_empty W A c
      · obtain ⟨b, off, rfl, hcell⟩ := hA (by omega)
        exact conv_bytes W b off _ c l rfl (fun i hi => bl_cell hW (hcell i hi))
    have hh : headOf l = l := List.take_of_length_le h3
    have ht : tailOf l = l := by unfold tailOf; rw [show l.length - 3 = 0 from by omega]; rfl
    rw [hh, ht] at HV
    have HCV := Lib.hid hcv
    clear hh ht hcv hA
    generalize hval : (weldOf l).val = V at *
    generalize bs l = B at *
    generalize (szOf l (places l)).1 = q1 at *
    generalize (szOf l (places l)).2.1 = q2 at *
    generalize (szOf l (places l)).2.2.1 = q3 at *
    clear hval
    generalize l.length = n at *
    · have hw3 : IntKind.i64.wrap ((n : Int) - 3) = (n : Int) - 3 := IntWalk.i64_in _ (by omega)
      go_enter Tryd.func60, Tryd.ntmps60
      go_wp2_with fail
      generalize hWA : w.alloc _ = WA
      have hbA : Below w.heap.size w WA := by rw [← hWA]; exact (by (repeat (with_reducible first | assumption | exact bl_refl _ | refine bl_alloc ?_ | refine bl_iter ?_ | refine bl_drew ?_ | refine bl_drewN ?_ | refine bl_bytes ?_ | refine bl_set ?_ ?_ | refine bl_trans ?_ (by assumption))) <;> first | exact Nat.le_refl _ | (simp; done) | (simp; omega) | omega)
      refine reg_begin (fun W => Below w.heap.size w W) (by kernel_rfl) (by exact (by (repeat (with_reducible first | assumption | exact bl_refl _ | refine bl_alloc ?_ | refine bl_iter ?_ | refine bl_drew ?_ | refine bl_drewN ?_ | refine bl_bytes ?_ | refine bl_set ?_ ?_ | refine bl_trans ?_ (by assumption))) <;> first | exact Nat.le_refl _ | (simp; done) | (simp; omega) | omega)) fun K hK hS => ?_
      refine reg_take 0 (some 7) (.slice A n c) rfl rfl (by kernel_rfl) (by kernel_rfl) (by kernel_rfl) (by kernel_rfl) (fun W hW => by (rfl)) hS ?_
      try simp only [Act.put, List.setIfInBounds_toArray, List.set_cons_zero, List.set_cons_succ]
      refine reg_take 2 (some 9) (.slice A n c) rfl rfl (by kernel_rfl) (by kernel_rfl) (by kernel_rfl) (by kernel_rfl) (fun W hW => by (rfl)) hS ?_
      try simp only [Act.put, List.setIfInBounds_toArray, List.set_cons_zero, List.set_cons_succ]
      refine reg_take 3 (some 10) (.slice A n c) rfl rfl (by kernel_rfl) (by kernel_rfl) (by kernel_rfl) (by kernel_rfl) (fun W hW => by (rfl)) hS ?_
      try simp only [Act.put, List.setIfInBounds_toArray, List.set_cons_zero, List.set_cons_succ]
      refine reg_take 4 (some 11) (.int .i64 n) (oi := { dst := some 11, op := Go.Op.call { callee := Go.Callee.builtin Go.Builtin.len, args := #[Go.Operand.tmp 10], argTypes := #[41] }, type := 3, pos := "weld.go:35", after := #[{ on := 3, ground := Go.Ground.data }], guard := none }) rfl rfl (by kernel_rfl) (by kernel_rfl) (by kernel_rfl) (by kernel_rfl) (fun W hW => by (first | rfl | go_simp)) hS ?_
      try simp only [Act.put, List.setIfInBounds_toArray, List.set_cons_zero, List.set_cons_succ]
      refine reg_take 5 (some 12) (.int .i64 n) (oi := { dst := some 12, op := Go.Op.call { callee := Go.Callee.builtin Go.Builtin.min, args := #[Go.Operand.const (Go.Value.int Go.IntKind.i64 3), Go.Operand.tmp 11], argTypes := #[3, 3] }, type := 3, pos := "weld.go:35", after := #[{ on := 4, ground := Go.Ground.data }], guard := none }) rfl rfl (by kernel_rfl) (by kernel_rfl) (by kernel_rfl) (by kernel_rfl) (fun W hW => by (go_simp; omega)) hS ?_
      try simp only [Act.put, List.setIfInBounds_toArray, List.set_cons_zero, List.set_cons_succ]
      refine reg_take 6 (some 13) (.slice A n c) (oi := { dst := some 13, op := Go.Op.slice 41 (Go.Operand.tmp 9) none (some (Go.Operand.tmp 12)) none, type := 41, pos := "weld.go:35", after := #[{ on := 2, ground := Go.Ground.data }, { on := 5, ground := Go.Ground.data }], guard := none }) rfl rfl (by kernel_rfl) (by kernel_rfl) (by kernel_rfl) (by kernel_rfl) (fun W hW => by (first | rfl | go_simp)) hS ?_
      try simp only [Act.put, List.setIfInBounds_toArray, List.set_cons_zero, List.set_cons_succ]
      refine reg_take 7 (some 14) (.string B) (oi := { dst := some 14, op := Go.Op.convert 41 9 (Go.Operand.tmp 13), type := 9, pos := "weld.go:35", after := #[{ on := 6, ground := Go.Ground.data }], guard := none }) rfl rfl (by kernel_rfl) (by kernel_rfl) (by kernel_rfl) (by kernel_rfl) (fun W hW => by (have := HCV.out W hW; go_simp)) hS ?_
      try simp only [Act.put, List.setIfInBounds_toArray, List.set_cons_zero, List.set_cons_succ]
      refine reg_take 8 (some 15) (.slice A n c) rfl rfl (by kernel_rfl) (by kernel_rfl) (by kernel_rfl) (by kernel_rfl) (fun W hW => by (rfl)) hS ?_
      try simp only [Act.put, List.setIfInBounds_toArray, List.set_cons_zero, List.set_cons_succ]
      refine reg_take 9 (some 16) (.slice A n c) rfl rfl (by kernel_rfl) (by kernel_rfl) (by kernel_rfl) (by kernel_rfl) (fun W hW => by (rfl)) hS ?_
      try simp only [Act.put, List.setIfInBounds_toArray, List.set_cons_zero, List.set_cons_succ]
      refine reg_take 10 (some 17) (.int .i64 n) (oi := { dst := some 17, op := Go.Op.call { callee := Go.Callee.builtin Go.Builtin.len, args := #[Go.Operand.tmp 16], argTypes := #[41] }, type := 3, pos := "weld.go:35", after := #[{ on := 9, ground := Go.Ground.data }], guard := none }) rfl rfl (by kernel_rfl) (by kernel_rfl) (by kernel_rfl) (by kernel_rfl) (fun W hW => by (first | rfl | go_simp)) hS ?_
      try simp only [Act.put, List.setIfInBounds_toArray, List.set_cons_zero, List.set_cons_succ]
      refine reg_take 11 (some 18) (.int .i64 ((n : Int) - 3)) (oi := { dst := some 18, op := Go.Op.binOp Go.BinOp.sub 3 (Go.Operand.tmp 17) (Go.Operand.const (Go.Value.int Go.IntKind.i64 3)) 3, type := 3, pos := "weld.go:35", after := #[{ on := 10, ground := Go.Ground.data }], guard := none }) rfl rfl (by kernel_rfl) (by kernel_rfl) (by kernel_rfl) (by kernel_rfl) (fun W hW => by (first | rfl | go_simp)) hS ?_
      try simp only [Act.put, List.setIfInBounds_toArray, List.set_cons_zero, List.set_cons_succ]
      refine reg_take 12 (some 19) (.int .i64 0) (oi := { dst := some 19, op := Go.Op.call { callee := Go.Callee.builtin Go.Builtin.max, args := #[Go.Operand.const (Go.Value.int Go.IntKind.i64 0), Go.Operand.tmp 18], argTypes := #[3, 3] }, type := 3, pos := "weld.go:35", after := #[{ on := 11, ground := Go.Ground.data }], guard := none }) rfl rfl (by kernel_rfl) (by kernel_rfl) (by kernel_rfl) (by kernel_rfl) (fun W hW => by (go_simp; omega)) hS ?_
      try simp only [Act.put, List.setIfInBounds_toArray, List.set_cons_zero, List.set_cons_succ]
      refine reg_take 13 (some 20) (.slice A n c) (oi := { dst := some 20, op := Go.Op.slice 41 (Go.Operand.tmp 15) (some (Go.Operand.tmp 19)) none none, type := 41, pos := "weld.go:35", after := #[{ on := 8, ground := Go.Ground.data }, { on := 12, ground := Go.Ground.data }], guard := none }) rfl rfl (by kernel_rfl) (by kernel_rfl) (by kernel_rfl) (by kernel_rfl) (fun W hW => by (first | rfl | go_simp)) hS ?_
      try simp only [Act.put, List.setIfInBounds_toArray, List.set_cons_zero, List.set_cons_succ]
      refine reg_take 14 (some 21) (.string B) (oi := { dst := some 21, op := Go.Op.convert 41 9 (Go.Operand.tmp 20), type := 9, pos := "weld.go:35", after := #[{ on := 13, ground := Go.Ground.data }], guard := none }) rfl rfl (by kernel_rfl) (by kernel_rfl) (by kernel_rfl) (by kernel_rfl) (fun W hW => by (have := HCV.out W hW; go_simp)) hS ?_
      try simp only [Act.put, List.setIfInBounds_toArray, List.set_cons_zero, List.set_cons_succ]
      refine reg_call 1 (some 8) (.agg #[.int .i64 n, .int .i64 q1, .int .i64 q2, .int .i64 q3]) 91 #[.slice A n c] (fun W => Below ((WA).drew).heap.size ((WA).drew) W) rfl rfl (by kernel_rfl) (by kernel_rfl) (by first | rfl | go_simp) ?_ ?_ fun w1 hR1 hS => ?_
      · exact HZ.out _ hS
      · intro w' hR; exact (by (repeat (with_reducible first | assumption | exact bl_refl _ | refine bl_alloc ?_ | refine bl_iter ?_ | refine bl_drew ?_ | refine bl_drewN ?_ | refine bl_bytes ?_ | refine bl_set ?_ ?_ | refine bl_trans ?_ (by assumption))) <;> first | exact Nat.le_refl _ | (simp; done) | (simp; omega) | omega)
      try simp only [Act.put, List.setIfInBounds_toArray, List.set_cons_zero, List.set_cons_succ]
      refine reg_take 15 (some 22) (.agg #[.int .i64 n, .int .i64 q1, .int .i64 q2, .int .i64 q3, .string B, .string B]) (oi := { dst := some 22, op := Go.Op.build 36 #[(0, Go.Operand.tmp 8), (1, Go.Operand.tmp 14), (2, Go.Operand.tmp 21)], type := 36, pos := "weld.go:35", after := #[{ on := 1, ground := Go.Ground.data }, { on := 7, ground := Go.Ground.data }, { on := 14, ground := Go.Ground.data }], guard := none }) rfl rfl (by kernel_rfl) (by kernel_rfl) (by kernel_rfl) (by kernel_rfl) (fun W hW => by (first | rfl | go_simp)) hS ?_
      try simp only [Act.put, List.setIfInBounds_toArray, List.set_cons_zero, List.set_cons_succ]
      subst hWA; obtain ⟨hcc, hff⟩ := bcell hR1
      refine reg_one 16 (oi := { dst := none, op := Go.Op.store 36 (Go.Operand.tmp 2) (Go.Operand.tmp 22), type := 0, pos := "weld.go:35", after := #[{ on := 15, ground := Go.Ground.data }, { on := 1, ground := Go.Ground.chain }, { on := 0, ground := Go.Ground.phase }, { on := 1, ground := Go.Ground.phase }, { on := 2, ground := Go.Ground.phase }, { on := 3, ground := Go.Ground.phase }, { on := 4, ground := Go.Ground.phase }, { on := 5, ground := Go.Ground.phase }, { on := 6, ground := Go.Ground.phase }, { on := 7, ground := Go.Ground.phase }, { on := 8, ground := Go.Ground.phase }, { on := 9, ground := Go.Ground.phase }, { on := 10, ground := Go.Ground.phase }, { on := 11, ground := Go.Ground.phase }, { on := 12, ground := Go.Ground.phase }, { on := 13, ground := Go.Ground.phase }, { on := 14, ground := Go.Ground.phase }, { on := 15, ground := Go.Ground.phase }], guard := none }) rfl (by kernel_rfl) (by kernel_rfl) fun K' hK' => ?_
      go_simp
      refine hK'.out _ _ ?_ ?_
      · exact (by (repeat (with_reducible first | assumption | exact bl_refl _ | refine bl_alloc ?_ | refine bl_iter ?_ | refine bl_drew ?_ | refine bl_drewN ?_ | refine bl_bytes ?_ | refine bl_set ?_ ?_ | refine bl_trans ?_ (by assumption))) <;> first | exact Nat.le_refl _ | (simp; done) | (simp; omega) | omega)
      clear hK' K' hS
      intro hS
      try simp only [Act.put, List.setIfInBounds_toArray, List.set_cons_zero, List.set_cons_succ]
      refine reg_done (by kernel_rfl) (hK.out _ _ ?_) _
      clear hK K
      all_goals go_wp2
      all_goals exact bodyPost_ret (v := .agg #[.int .i64 n, .int .i64 q1, .int .i64 q2, .int .i64 q3, .string B, .string B]) (by simp [results, Tryd.results60, go_sem, *]) rfl ⟨by rw [HV.out], (by (repeat (with_reducible first | assumption | exact bl_refl _ | refine bl_alloc ?_ | refine bl_iter ?_ | refine bl_drew ?_ | refine bl_drewN ?_ | refine bl_bytes ?_ | refine bl_set ?_ ?_ | refine bl_trans ?_ (by assumption))) <;> first | exact Nat.le_refl _ | (simp; done) | (simp; omega) | omega)⟩
  · obtain ⟨b, off, rfl, hcell⟩ := hA (by omega)
    have hcv1 : ∀ W, Below w.heap.size w W → (convert 41 9 (.slice (some ⟨b, off, none⟩) 3 c)).run Tryd.prog W = .ok (.string (bs (headOf l))) W := fun W hW =>
      conv_bytes W b off 3 c (headOf l) (by unfold headOf; simp; omega) (fun i hi => by unfold headOf; rw [gb_take _ _ _ hi]; exact bl_cell hW (hcell i (by omega)))
    have hcv2 : ∀ k, l.length = k + 3 → ∀ W, Below w.heap.size w W → (convert 41 9 (.slice (some ⟨b, off + k, none⟩) 3 (c - k))).run Tryd.prog W = .ok (.string (bs (tailOf l))) W := fun k hk W hW =>
      conv_bytes W b (off + k) 3 (c - k) (tailOf l) (by unfold tailOf; simp; omega) (fun i hi => by
        unfold tailOf; rw [gb_drop, show l.length - 3 = k from by omega]
        have := bl_cell hW (hcell (k + i) (by omega)); rwa [← Nat.add_assoc] at this)
    have HCV1 := Lib.hid hcv1
    have HCV2 := Lib.hid hcv2
    clear hcv1 hcv2 hcell hA
    generalize hval : (weldOf l).val = V at *
    generalize bs (headOf l) = B1 at *
    generalize bs (tailOf l) = B2 at *
    generalize (szOf l (places l)).1 = q1 at *
    generalize (szOf l (places l)).2.1 = q2 at *
    generalize (szOf l (places l)).2.2.1 = q3 at *
    clear hval
    generalize l.length = n at *
    obtain ⟨k, hnk⟩ : ∃ k, n = k + 3 := ⟨n - 3, by omega⟩
    have HK := Lib.hid hnk
    clear hnk
    have k1 : (0 : Int) ≤ (k : Int) := by omega
    have k2 : (k : Int) ≤ (n : Int) := by have := HK.out; omega
    have k3 : (3 : Int) ≤ c := by omega
    have k4 : (n : Int) ≤ c := by omega
    have k5 : (3 : Int) ≤ (n : Int) := by omega
    clear h3
    have hw3 := Lib.hid (IntWalk.i64_in ((n : Int) - 3) (by omega))
    go_enter Tryd.func60, Tryd.ntmps60
    go_wp2_with fail
    generalize hWA : w.alloc _ = WA
    have hbA : Below w.heap.size w WA := by rw [← hWA]; exact (by (repeat (with_reducible first | assumption | exact bl_refl _ | refine bl_alloc ?_ | refine bl_iter ?_ | refine bl_drew ?_ | refine bl_drewN ?_ | refine bl_bytes ?_ | refine bl_set ?_ ?_ | refine bl_trans ?_ (by assumption))) <;> first | exact Nat.le_refl _ | (simp; done) | (simp; omega) | omega)
    refine reg_begin (fun W => Below w.heap.size w W) (by kernel_rfl) (by exact (by (repeat (with_reducible first | assumption | exact bl_refl _ | refine bl_alloc ?_ | refine bl_iter ?_ | refine bl_drew ?_ | refine bl_drewN ?_ | refine bl_bytes ?_ | refine bl_set ?_ ?_ | refine bl_trans ?_ (by assumption))) <;> first | exact Nat.le_refl _ | (simp; done) | (simp; omega) | omega)) fun K hK hS => ?_
    refine reg_take 0 (some 7) (.slice (some ⟨b, off, none⟩) n c) rfl rfl (by kernel_rfl) (by kernel_rfl) (by kernel_rfl) (by kernel_rfl) (fun W hW => by (rfl)) hS ?_
    try simp only [Act.put, List.setIfInBounds_toArray, List.set_cons_zero, List.set_cons_succ]
    refine reg_take 2 (some 9) (.slice (some ⟨b, off, none⟩) n c) rfl rfl (by kernel_rfl) (by kernel_rfl) (by kernel_rfl) (by kernel_rfl) (fun W hW => by (rfl)) hS ?_
    try simp only [Act.put, List.setIfInBounds_toArray, List.set_cons_zero, List.set_cons_succ]
    refine reg_take 3 (some 10) (.slice (some ⟨b, off, none⟩) n c) rfl rfl (by kernel_rfl) (by kernel_rfl) (by kernel_rfl) (by kernel_rfl) (fun W hW => by (rfl)) hS ?_
    try simp only [Act.put, List.setIfInBounds_toArray, List.set_cons_zero, List.set_cons_succ]
    refine reg_take 4 (some 11) (.int .i64 n) (oi := { dst := some 11, op := Go.Op.call { callee := Go.Callee.builtin Go.Builtin.len, args := #[Go.Operand.tmp 10], argTypes := #[41] }, type := 3, pos := "weld.go:35", after := #[{ on := 3, ground := Go.Ground.data }], guard := none }) rfl rfl (by kernel_rfl) (by kernel_rfl) (by kernel_rfl) (by kernel_rfl) (fun W hW => by (first | rfl | go_simp)) hS ?_
    try simp only [Act.put, List.setIfInBounds_toArray, List.set_cons_zero, List.set_cons_succ]
    refine reg_take 5 (some 12) (.int .i64 3) (oi := { dst := some 12, op := Go.Op.call { callee := Go.Callee.builtin Go.Builtin.min, args := #[Go.Operand.const (Go.Value.int Go.IntKind.i64 3), Go.Operand.tmp 11], argTypes := #[3, 3] }, type := 3, pos := "weld.go:35", after := #[{ on := 4, ground := Go.Ground.data }], guard := none }) rfl rfl (by kernel_rfl) (by kernel_rfl) (by kernel_rfl) (by kernel_rfl) (fun W hW => by (go_simp; omega)) hS ?_
    try simp only [Act.put, List.setIfInBounds_toArray, List.set_cons_zero, List.set_cons_succ]
    refine reg_take 6 (some 13) (.slice (some ⟨b, off, none⟩) 3 c) (oi := { dst := some 13, op := Go.Op.slice 41 (Go.Operand.tmp 9) none (some (Go.Operand.tmp 12)) none, type := 41, pos := "weld.go:35", after := #[{ on := 2, ground := Go.Ground.data }, { on := 5, ground := Go.Ground.data }], guard := none }) rfl rfl (by kernel_rfl) (by kernel_rfl) (by kernel_rfl) (by kernel_rfl) (fun W hW => by (first | rfl | go_simp)) hS ?_
    try simp only [Act.put, List.setIfInBounds_toArray, List.set_cons_zero, List.set_cons_succ]
    refine reg_take 7 (some 14) (.string B1) (oi := { dst := some 14, op := Go.Op.convert 41 9 (Go.Operand.tmp 13), type := 9, pos := "weld.go:35", after := #[{ on := 6, ground := Go.Ground.data }], guard := none }) rfl rfl (by kernel_rfl) (by kernel_rfl) (by kernel_rfl) (by kernel_rfl) (fun W hW => by (have := HCV1.out W hW; go_simp)) hS ?_
    try simp only [Act.put, List.setIfInBounds_toArray, List.set_cons_zero, List.set_cons_succ]
    refine reg_take 8 (some 15) (.slice (some ⟨b, off, none⟩) n c) rfl rfl (by kernel_rfl) (by kernel_rfl) (by kernel_rfl) (by kernel_rfl) (fun W hW => by (rfl)) hS ?_
    try simp only [Act.put, List.setIfInBounds_toArray, List.set_cons_zero, List.set_cons_succ]
    refine reg_take 9 (some 16) (.slice (some ⟨b, off, none⟩) n c) rfl rfl (by kernel_rfl) (by kernel_rfl) (by kernel_rfl) (by kernel_rfl) (fun W hW => by (rfl)) hS ?_
    try simp only [Act.put, List.setIfInBounds_toArray, List.set_cons_zero, List.set_cons_succ]
    refine reg_take 10 (some 17) (.int .i64 n) (oi := { dst := some 17, op := Go.Op.call { callee := Go.Callee.builtin Go.Builtin.len, args := #[Go.Operand.tmp 16], argTypes := #[41] }, type := 3, pos := "weld.go:35", after := #[{ on := 9, ground := Go.Ground.data }], guard := none }) rfl rfl (by kernel_rfl) (by kernel_rfl) (by kernel_rfl) (by kernel_rfl) (fun W hW => by (first | rfl | go_simp)) hS ?_
    try simp only [Act.put, List.setIfInBounds_toArray, List.set_cons_zero, List.set_cons_succ]
    refine reg_take 11 (some 18) (.int .i64 ((n : Int) - 3)) (oi := { dst := some 18, op := Go.Op.binOp Go.BinOp.sub 3 (Go.Operand.tmp 17) (Go.Operand.const (Go.Value.int Go.IntKind.i64 3)) 3, type := 3, pos := "weld.go:35", after := #[{ on := 10, ground := Go.Ground.data }], guard := none }) rfl rfl (by kernel_rfl) (by kernel_rfl) (by kernel_rfl) (by kernel_rfl) (fun W hW => by (have := hw3.out; go_simp)) hS ?_
    try simp only [Act.put, List.setIfInBounds_toArray, List.set_cons_zero, List.set_cons_succ]
    refine reg_take 12 (some 19) (.int .i64 (k : Int)) (oi := { dst := some 19, op := Go.Op.call { callee := Go.Callee.builtin Go.Builtin.max, args := #[Go.Operand.const (Go.Value.int Go.IntKind.i64 0), Go.Operand.tmp 18], argTypes := #[3, 3] }, type := 3, pos := "weld.go:35", after := #[{ on := 11, ground := Go.Ground.data }], guard := none }) rfl rfl (by kernel_rfl) (by kernel_rfl) (by kernel_rfl) (by kernel_rfl) (fun W hW => by (have := HK.out; go_simp; omega)) hS ?_
    try simp only [Act.put, List.setIfInBounds_toArray, List.set_cons_zero, List.set_cons_succ]
    refine reg_take 13 (some 20) (.slice (some ⟨b, off + k, none⟩) 3 (c - k)) (oi := { dst := some 20, op := Go.Op.slice 41 (Go.Operand.tmp 15) (some (Go.Operand.tmp 19)) none none, type := 41, pos := "weld.go:35", after := #[{ on := 8, ground := Go.Ground.data }, { on := 12, ground := Go.Ground.data }], guard := none }) rfl rfl (by kernel_rfl) (by kernel_rfl) (by kernel_rfl) (by kernel_rfl) (fun W hW => by (have : n - k = 3 := (by have := HK.out; omega); go_simp; have := HK.out; omega)) hS ?_
    try simp only [Act.put, List.setIfInBounds_toArray, List.set_cons_zero, List.set_cons_succ]
    refine reg_take 14 (some 21) (.string B2) (oi := { dst := some 21, op := Go.Op.convert 41 9 (Go.Operand.tmp 20), type := 9, pos := "weld.go:35", after := #[{ on := 13, ground := Go.Ground.data }], guard := none }) rfl rfl (by kernel_rfl) (by kernel_rfl) (by kernel_rfl) (by kernel_rfl) (fun W hW => by (have := HCV2.out k HK.out W hW; go_simp)) hS ?_
    try simp only [Act.put, List.setIfInBounds_toArray, List.set_cons_zero, List.set_cons_succ]
    refine reg_call 1 (some 8) (.agg #[.int .i64 n, .int .i64 q1, .int .i64 q2, .int .i64 q3]) 91 #[.slice (some ⟨b, off, none⟩) n c] (fun W => Below ((WA).drew).heap.size ((WA).drew) W) rfl rfl (by kernel_rfl) (by kernel_rfl) (by first | rfl | go_simp) ?_ ?_ fun w1 hR1 hS => ?_
    · exact HZ.out _ hS
    · intro w' hR; exact (by (repeat (with_reducible first | assumption | exact bl_refl _ | refine bl_alloc ?_ | refine bl_iter ?_ | refine bl_drew ?_ | refine bl_drewN ?_ | refine bl_bytes ?_ | refine bl_set ?_ ?_ | refine bl_trans ?_ (by assumption))) <;> first | exact Nat.le_refl _ | (simp; done) | (simp; omega) | omega)
    try simp only [Act.put, List.setIfInBounds_toArray, List.set_cons_zero, List.set_cons_succ]
    refine reg_take 15 (some 22) (.agg #[.int .i64 n, .int .i64 q1, .int .i64 q2, .int .i64 q3, .string B1, .string B2]) (oi := { dst := some 22, op := Go.Op.build 36 #[(0, Go.Operand.tmp 8), (1, Go.Operand.tmp 14), (2, Go.Operand.tmp 21)], type := 36, pos := "weld.go:35", after := #[{ on := 1, ground := Go.Ground.data }, { on := 7, ground := Go.Ground.data }, { on := 14, ground := Go.Ground.data }], guard := none }) rfl rfl (by kernel_rfl) (by kernel_rfl) (by kernel_rfl) (by kernel_rfl) (fun W hW => by (first | rfl | go_simp)) hS ?_
    try simp only [Act.put, List.setIfInBounds_toArray, List.set_cons_zero, List.set_cons_succ]
    subst hWA; obtain ⟨hcc, hff⟩ := bcell hR1
    refine reg_one 16 (oi := { dst := none, op := Go.Op.store 36 (Go.Operand.tmp 2) (Go.Operand.tmp 22), type := 0, pos := "weld.go:35", after := #[{ on := 15, ground := Go.Ground.data }, { on := 1, ground := Go.Ground.chain }, { on := 0, ground := Go.Ground.phase }, { on := 1, ground := Go.Ground.phase }, { on := 2, ground := Go.Ground.phase }, { on := 3, ground := Go.Ground.phase }, { on := 4, ground := Go.Ground.phase }, { on := 5, ground := Go.Ground.phase }, { on := 6, ground := Go.Ground.phase }, { on := 7, ground := Go.Ground.phase }, { on := 8, ground := Go.Ground.phase }, { on := 9, ground := Go.Ground.phase }, { on := 10, ground := Go.Ground.phase }, { on := 11, ground := Go.Ground.phase }, { on := 12, ground := Go.Ground.phase }, { on := 13, ground := Go.Ground.phase }, { on := 14, ground := Go.Ground.phase }, { on := 15, ground := Go.Ground.phase }], guard := none }) rfl (by kernel_rfl) (by kernel_rfl) fun K' hK' => ?_
    go_simp
    refine hK'.out _ _ ?_ ?_
    · exact (by (repeat (with_reducible first | assumption | exact bl_refl _ | refine bl_alloc ?_ | refine bl_iter ?_ | refine bl_drew ?_ | refine bl_drewN ?_ | refine bl_bytes ?_ | refine bl_set ?_ ?_ | refine bl_trans ?_ (by assumption))) <;> first | exact Nat.le_refl _ | (simp; done) | (simp; omega) | omega)
    clear hK' K' hS
    intro hS
    try simp only [Act.put, List.setIfInBounds_toArray, List.set_cons_zero, List.set_cons_succ]
    refine reg_done (by kernel_rfl) (hK.out _ _ ?_) _
    clear hK K
    all_goals go_wp2
    all_goals exact bodyPost_ret (v := .agg #[.int .i64 n, .int .i64 q1, .int .i64 q2, .int .i64 q3, .string B1, .string B2]) (by simp [results, Tryd.results60, go_sem, *]) rfl ⟨by rw [HV.out], (by (repeat (with_reducible first | assumption | exact bl_refl _ | refine bl_alloc ?_ | refine bl_iter ?_ | refine bl_drew ?_ | refine bl_drewN ?_ | refine bl_bytes ?_ | refine bl_set ?_ ?_ | refine bl_trans ?_ (by assumption))) <;> first | exact Nat.le_refl _ | (simp; done) | (simp; omega) | omega)⟩
end Go.Proofs.YtliphfgiaioebaaDoor
