/-
  Package weld: Of.
  Plain laws: bounds of the sizes; the measure of two lists of bytes put together.
  Package weld: sum, head, tail, tailIs, short.
  Package weld: short, Valid.
-/
import Derived.Test.YtliphfgiaioebaaDoorB02
import Derived.Deep.RegionHeld3
namespace Go.Proofs.YtliphfgiaioebaaDoor
set_option linter.unusedVariables false
set_option linter.unusedSimpArgs false
open Go.RowKit

/-- the measure of bytes -/
def headOf (l : List UInt8) : List UInt8 := l.take 3
def tailOf (l : List UInt8) : List UInt8 := l.drop (l.length - 3)
structure WeldT where
  bytes : Int
  runes : Int
  units : Int
  ends : Int
  head : List UInt8
  tail : List UInt8
def WeldT.val (m : WeldT) : Value := .agg #[.int .i64 m.bytes, .int .i64 m.runes, .int .i64 m.units, .int .i64 m.ends, .string (bs m.head), .string (bs m.tail)]
def weldOf (l : List UInt8) : WeldT := ⟨l.length, (szOf l (places l)).1, (szOf l (places l)).2.1, (szOf l (places l)).2.2.1, headOf l, tailOf l⟩

set_option maxRecDepth 100000 in
set_option maxHeartbeats 4000000 in
theorem Of_any (A : Option Addr) (c : Nat) (l : List UInt8) (w : World) (hT : Tabs w) (hA : BytesAt w A l) (hc : l.length ≤ c) (hm : l.length ≤ 268435456) :
    Calls Tryd.prog 60 #[.slice A l.length c] w fun e w' => e = .returned (weldOf l).val ∧ Below w.heap.size w w' := by
  have hz := fun W (hb : Below w.heap.size w W) => Sizes_any A c l W (hT.below hb) (hA.below hb) hc (by omega)
  have HZ := Lib.hid hz
  have hval : (weldOf l).val = .agg #[.int .i64 l.length, .int .i64 (szOf l (places l)).1, .int .i64 (szOf l (places l)).2.1, .int .i64 (szOf l (places l)).2.2.1, .string (bs (headOf l)), .string (bs (tailOf l))] := rfl
  have HV := Lib.hid hval
  clear hz hT hval
  have hci : (l.length : Int) ≤ (c : Int) := by omega
  have hl0 : (0 : Int) ≤ (l.length : Int) := by omega
  have hl1 : ¬ ((268435456 : Int) < (l.length : Int)) := by omega
  unfold sizesV at HZ
  by_cases h3 : l.length ≤ 3
  · -- the whole is head and tail
    have hcv : ∀ W, Below w.heap.size w W → (convert 41 9 (.slice A l.length c)).run Tryd.prog W = .ok (.string (bs l)) W := fun W hW => by
      by_cases h0 : l.length = 0
      · obtain rfl : l = [] := List.eq_nil_of_length_eq_zero h0
        exact conv_empty W A c
      · obtain ⟨b, off, rfl, hcell⟩ := hA (by omega)
        exact conv_bytes W b off _ c l rfl (fun i hi => bl_cell hW (hcell i hi))
    have hh : headOf l = l := List.take_of_length_le h3
    have ht : tailOf l = l := by unfold tailOf; rw [show l.length - 3 = 0 from by omega]; rfl
    rw [hh, ht] at HV
    have HCV := Lib.hid hcv
    clear hh ht hcv hA
    generalize hval : (weldOf l).val = V at *
    generalize bs l = B at *
    generalize (szOf l (places l)).1 = q1 at *
    generalize (szOf l (places l)).2.1 = q2 at *
    generalize (szOf l (places l)).2.2.1 = q3 at *
    clear hval
    generalize l.length = n at *
    · have hw3 : IntKind.i64.wrap ((n : Int) - 3) = (n : Int) - 3 := IntWalk.i64_in _ (by omega)
      go_enter Tryd.func60, Tryd.ntmps60
      go_wp2_with fail
      generalize hWA : w.alloc _ = WA
      have hbA : Below w.heap.size w WA := by rw [← hWA]; exact (by (repeat (with_reducible first | assumption | exact bl_refl _ | refine bl_alloc ?_ | refine bl_iter ?_ | refine bl_drew ?_ | refine bl_drewN ?_ | refine bl_bytes ?_ | refine bl_set ?_ ?_ | refine bl_trans ?_ (by assumption))) <;> first | exact Nat.le_refl _ | (simp; done) | (simp; omega) | omega)
      refine reg_begin (fun W => Below w.heap.size w W) (by kernel_rfl) (by exact (by (repeat (with_reducible first | assumption | exact bl_refl _ | refine bl_alloc ?_ | refine bl_iter ?_ | refine bl_drew ?_ | refine bl_drewN ?_ | refine bl_bytes ?_ | refine bl_set ?_ ?_ | refine bl_trans ?_ (by assumption))) <;> first | exact Nat.le_refl _ | (simp; done) | (simp; omega) | omega)) fun K hK hS => ?_
      refine reg_take 0 (some 7) (.slice A n c) rfl rfl (by kernel_rfl) (by kernel_rfl) (by kernel_rfl) (by kernel_rfl) (fun W hW => by (rfl)) hS ?_
      try simp only [Act.put, List.setIfInBounds_toArray, List.set_cons_zero, List.set_cons_succ]
      refine reg_take 2 (some 9) (.slice A n c) rfl rfl (by kernel_rfl) (by kernel_rfl) (by kernel_rfl) (by kernel_rfl) (fun W hW => by (rfl)) hS ?_
      try simp only [Act.put, List.setIfInBounds_toArray, List.set_cons_zero, List.set_cons_succ]
      refine reg_take 3 (some 10) (.slice A n c) rfl rfl (by kernel_rfl) (by kernel_rfl) (by kernel_rfl) (by kernel_rfl) (fun W hW => by (rfl)) hS ?_
      try simp only [Act.put, List.setIfInBounds_toArray, List.set_cons_zero, List.set_cons_succ]
      refine reg_take 4 (some 11) (.int .i64 n) (oi := { dst := some 11, op := Go.Op.call { callee := Go.Callee.builtin Go.Builtin.len, args := #[Go.Operand.tmp 10], argTypes := #[41] }, type := 3, pos := "weld.go:35", after := #[{ on := 3, ground := Go.Ground.data }], guard := none }) rfl rfl (by kernel_rfl) (by kernel_rfl) (by kernel_rfl) (by kernel_rfl) (fun W hW => by (first | rfl | go_simp)) hS ?_
      try simp only [Act.put, List.setIfInBounds_toArray, List.set_cons_zero, List.set_cons_succ]
      refine reg_take 5 (some 12) (.int .i64 n) (oi := { dst := some 12, op := Go.Op.call { callee := Go.Callee.builtin Go.Builtin.min, args := #[Go.Operand.const (Go.Value.int Go.IntKind.i64 3), Go.Operand.tmp 11], argTypes := #[3, 3] }, type := 3, pos := "weld.go:35", after := #[{ on := 4, ground := Go.Ground.data }], guard := none }) rfl rfl (by kernel_rfl) (by kernel_rfl) (by kernel_rfl) (by kernel_rfl) (fun W hW => by (go_simp; omega)) hS ?_
      try simp only [Act.put, List.setIfInBounds_toArray, List.set_cons_zero, List.set_cons_succ]
      refine reg_take 6 (some 13) (.slice A n c) (oi := { dst := some 13, op := Go.Op.slice 41 (Go.Operand.tmp 9) none (some (Go.Operand.tmp 12)) none, type := 41, pos := "weld.go:35", after := #[{ on := 2, ground := Go.Ground.data }, { on := 5, ground := Go.Ground.data }], guard := none }) rfl rfl (by kernel_rfl) (by kernel_rfl) (by kernel_rfl) (by kernel_rfl) (fun W hW => by (first | rfl | go_simp)) hS ?_
      try simp only [Act.put, List.setIfInBounds_toArray, List.set_cons_zero, List.set_cons_succ]
      refine reg_take 7 (some 14) (.string B) (oi := { dst := some 14, op := Go.Op.convert 41 9 (Go.Operand.tmp 13), type := 9, pos := "weld.go:35", after := #[{ on := 6, ground := Go.Ground.data }], guard := none }) rfl rfl (by kernel_rfl) (by kernel_rfl) (by kernel_rfl) (by kernel_rfl) (fun W hW => by (have := HCV.out W hW; go_simp)) hS ?_
      try simp only [Act.put, List.setIfInBounds_toArray, List.set_cons_zero, List.set_cons_succ]
      refine reg_take 8 (some 15) (.slice A n c) rfl rfl (by kernel_rfl) (by kernel_rfl) (by kernel_rfl) (by kernel_rfl) (fun W hW => by (rfl)) hS ?_
      try simp only [Act.put, List.setIfInBounds_toArray, List.set_cons_zero, List.set_cons_succ]
      refine reg_take 9 (some 16) (.slice A n c) rfl rfl (by kernel_rfl) (by kernel_rfl) (by kernel_rfl) (by kernel_rfl) (fun W hW => by (rfl)) hS ?_
      try simp only [Act.put, List.setIfInBounds_toArray, List.set_cons_zero, List.set_cons_succ]
      refine reg_take 10 (some 17) (.int .i64 n) (oi := { dst := some 17, op := Go.Op.call { callee := Go.Callee.builtin Go.Builtin.len, args := #[Go.Operand.tmp 16], argTypes := #[41] }, type := 3, pos := "weld.go:35", after := #[{ on := 9, ground := Go.Ground.data }], guard := none }) rfl rfl (by kernel_rfl) (by kernel_rfl) (by kernel_rfl) (by kernel_rfl) (fun W hW => by (first | rfl | go_simp)) hS ?_
      try simp only [Act.put, List.setIfInBounds_toArray, List.set_cons_zero, List.set_cons_succ]
      refine reg_take 11 (some 18) (.int .i64 ((n : Int) - 3)) (oi := { dst := some 18, op := Go.Op.binOp Go.BinOp.sub 3 (Go.Operand.tmp 17) (Go.Operand.const (Go.Value.int Go.IntKind.i64 3)) 3, type := 3, pos := "weld.go:35", after := #[{ on := 10, ground := Go.Ground.data }], guard := none }) rfl rfl (by kernel_rfl) (by kernel_rfl) (by kernel_rfl) (by kernel_rfl) (fun W hW => by (first | rfl | go_simp)) hS ?_
      try simp only [Act.put, List.setIfInBounds_toArray, List.set_cons_zero, List.set_cons_succ]
      refine reg_take 12 (some 19) (.int .i64 0) (oi := { dst := some 19, op := Go.Op.call { callee := Go.Callee.builtin Go.Builtin.max, args := #[Go.Operand.const (Go.Value.int Go.IntKind.i64 0), Go.Operand.tmp 18], argTypes := #[3, 3] }, type := 3, pos := "weld.go:35", after := #[{ on := 11, ground := Go.Ground.data }], guard := none }) rfl rfl (by kernel_rfl) (by kernel_rfl) (by kernel_rfl) (by kernel_rfl) (fun W hW => by (go_simp; omega)) hS ?_
      try simp only [Act.put, List.setIfInBounds_toArray, List.set_cons_zero, List.set_cons_succ]
      refine reg_take 13 (some 20) (.slice A n c) (oi := { dst := some 20, op := Go.Op.slice 41 (Go.Operand.tmp 15) (some (Go.Operand.tmp 19)) none none, type := 41, pos := "weld.go:35", after := #[{ on := 8, ground := Go.Ground.data }, { on := 12, ground := Go.Ground.data }], guard := none }) rfl rfl (by kernel_rfl) (by kernel_rfl) (by kernel_rfl) (by kernel_rfl) (fun W hW => by (first | rfl | go_simp)) hS ?_
      try simp only [Act.put, List.setIfInBounds_toArray, List.set_cons_zero, List.set_cons_succ]
      refine reg_take 14 (some 21) (.string B) (oi := { dst := some 21, op := Go.Op.convert 41 9 (Go.Operand.tmp 20), type := 9, pos := "weld.go:35", after := #[{ on := 13, ground := Go.Ground.data }], guard := none }) rfl rfl (by kernel_rfl) (by kernel_rfl) (by kernel_rfl) (by kernel_rfl) (fun W hW => by (have := HCV.out W hW; go_simp)) hS ?_
      try simp only [Act.put, List.setIfInBounds_toArray, List.set_cons_zero, List.set_cons_succ]
      refine reg_call 1 (some 8) (.agg #[.int .i64 n, .int .i64 q1, .int .i64 q2, .int .i64 q3]) 91 #[.slice A n c] (fun W => Below ((WA).drew).heap.size ((WA).drew) W) rfl rfl (by kernel_rfl) (by kernel_rfl) (by first | rfl | go_simp) ?_ ?_ fun w1 hR1 hS => ?_
      · exact HZ.out _ hS
      · intro w' hR; exact (by (repeat (with_reducible first | assumption | exact bl_refl _ | refine bl_alloc ?_ | refine bl_iter ?_ | refine bl_drew ?_ | refine bl_drewN ?_ | refine bl_bytes ?_ | refine bl_set ?_ ?_ | refine bl_trans ?_ (by assumption))) <;> first | exact Nat.le_refl _ | (simp; done) | (simp; omega) | omega)
      try simp only [Act.put, List.setIfInBounds_toArray, List.set_cons_zero, List.set_cons_succ]
      refine reg_take 15 (some 22) (.agg #[.int .i64 n, .int .i64 q1, .int .i64 q2, .int .i64 q3, .string B, .string B]) (oi := { dst := some 22, op := Go.Op.build 36 #[(0, Go.Operand.tmp 8), (1, Go.Operand.tmp 14), (2, Go.Operand.tmp 21)], type := 36, pos := "weld.go:35", after := #[{ on := 1, ground := Go.Ground.data }, { on := 7, ground := Go.Ground.data }, { on := 14, ground := Go.Ground.data }], guard := none }) rfl rfl (by kernel_rfl) (by kernel_rfl) (by kernel_rfl) (by kernel_rfl) (fun W hW => by (first | rfl | go_simp)) hS ?_
      try simp only [Act.put, List.setIfInBounds_toArray, List.set_cons_zero, List.set_cons_succ]
      subst hWA; obtain ⟨hcc, hff⟩ := bcell hR1
      refine reg_one 16 (oi := { dst := none, op := Go.Op.store 36 (Go.Operand.tmp 2) (Go.Operand.tmp 22), type := 0, pos := "weld.go:35", after := #[{ on := 15, ground := Go.Ground.data }, { on := 1, ground := Go.Ground.chain }, { on := 0, ground := Go.Ground.phase }, { on := 1, ground := Go.Ground.phase }, { on := 2, ground := Go.Ground.phase }, { on := 3, ground := Go.Ground.phase }, { on := 4, ground := Go.Ground.phase }, { on := 5, ground := Go.Ground.phase }, { on := 6, ground := Go.Ground.phase }, { on := 7, ground := Go.Ground.phase }, { on := 8, ground := Go.Ground.phase }, { on := 9, ground := Go.Ground.phase }, { on := 10, ground := Go.Ground.phase }, { on := 11, ground := Go.Ground.phase }, { on := 12, ground := Go.Ground.phase }, { on := 13, ground := Go.Ground.phase }, { on := 14, ground := Go.Ground.phase }, { on := 15, ground := Go.Ground.phase }], guard := none }) rfl (by kernel_rfl) (by kernel_rfl) fun K' hK' => ?_
      go_simp
      refine hK'.out _ _ ?_ ?_
      · exact (by (repeat (with_reducible first | assumption | exact bl_refl _ | refine bl_alloc ?_ | refine bl_iter ?_ | refine bl_drew ?_ | refine bl_drewN ?_ | refine bl_bytes ?_ | refine bl_set ?_ ?_ | refine bl_trans ?_ (by assumption))) <;> first | exact Nat.le_refl _ | (simp; done) | (simp; omega) | omega)
      clear hK' K' hS
      intro hS
      try simp only [Act.put, List.setIfInBounds_toArray, List.set_cons_zero, List.set_cons_succ]
      refine reg_done (by kernel_rfl) (hK.out _ _ ?_) _
      clear hK K
      all_goals go_wp2
      all_goals exact bodyPost_ret (v := .agg #[.int .i64 n, .int .i64 q1, .int .i64 q2, .int .i64 q3, .string B, .string B]) (by simp [results, Tryd.results60, go_sem, *]) rfl ⟨by rw [HV.out], (by (repeat (with_reducible first | assumption | exact bl_refl _ | refine bl_alloc ?_ | refine bl_iter ?_ | refine bl_drew ?_ | refine bl_drewN ?_ | refine bl_bytes ?_ | refine bl_set ?_ ?_ | refine bl_trans ?_ (by assumption))) <;> first | exact Nat.le_refl _ | (simp; done) | (simp; omega) | omega)⟩
  · obtain ⟨b, off, rfl, hcell⟩ := hA (by omega)
    have hcv1 : ∀ W, Below w.heap.size w W → (convert 41 9 (.slice (some ⟨b, off, none⟩) 3 c)).run Tryd.prog W = .ok (.string (bs (headOf l))) W := fun W hW =>
      conv_bytes W b off 3 c (headOf l) (by unfold headOf; simp; omega) (fun i hi => by unfold headOf; rw [gb_take _ _ _ hi]; exact bl_cell hW (hcell i (by omega)))
    have hcv2 : ∀ k, l.length = k + 3 → ∀ W, Below w.heap.size w W → (convert 41 9 (.slice (some ⟨b, off + k, none⟩) 3 (c - k))).run Tryd.prog W = .ok (.string (bs (tailOf l))) W := fun k hk W hW =>
      conv_bytes W b (off + k) 3 (c - k) (tailOf l) (by unfold tailOf; simp; omega) (fun i hi => by
        unfold tailOf; rw [gb_drop, show l.length - 3 = k from by omega]
        have := bl_cell hW (hcell (k + i) (by omega)); rwa [← Nat.add_assoc] at this)
    have HCV1 := Lib.hid hcv1
    have HCV2 := Lib.hid hcv2
    clear hcv1 hcv2 hcell hA
    generalize hval : (weldOf l).val = V at *
    generalize bs (headOf l) = B1 at *
    generalize bs (tailOf l) = B2 at *
    generalize (szOf l (places l)).1 = q1 at *
    generalize (szOf l (places l)).2.1 = q2 at *
    generalize (szOf l (places l)).2.2.1 = q3 at *
    clear hval
    generalize l.length = n at *
    obtain ⟨k, hnk⟩ : ∃ k, n = k + 3 := ⟨n - 3, by omega⟩
    have HK := Lib.hid hnk
    clear hnk
    have k1 : (0 : Int) ≤ (k : Int) := by omega
    have k2 : (k : Int) ≤ (n : Int) := by have := HK.out; omega
    have k3 : (3 : Int) ≤ c := by omega
    have k4 : (n : Int) ≤ c := by omega
    have k5 : (3 : Int) ≤ (n : Int) := by omega
    clear h3
    have hw3 := Lib.hid (IntWalk.i64_in ((n : Int) - 3) (by omega))
    go_enter Tryd.func60, Tryd.ntmps60
    go_wp2_with fail
    generalize hWA : w.alloc _ = WA
    have hbA : Below w.heap.size w WA := by rw [← hWA]; exact (by (repeat (with_reducible first | assumption | exact bl_refl _ | refine bl_alloc ?_ | refine bl_iter ?_ | refine bl_drew ?_ | refine bl_drewN ?_ | refine bl_bytes ?_ | refine bl_set ?_ ?_ | refine bl_trans ?_ (by assumption))) <;> first | exact Nat.le_refl _ | (simp; done) | (simp; omega) | omega)
    refine reg_begin (fun W => Below w.heap.size w W) (by kernel_rfl) (by exact (by (repeat (with_reducible first | assumption | exact bl_refl _ | refine bl_alloc ?_ | refine bl_iter ?_ | refine bl_drew ?_ | refine bl_drewN ?_ | refine bl_bytes ?_ | refine bl_set ?_ ?_ | refine bl_trans ?_ (by assumption))) <;> first | exact Nat.le_refl _ | (simp; done) | (simp; omega) | omega)) fun K hK hS => ?_
    refine reg_take 0 (some 7) (.slice (some ⟨b, off, none⟩) n c) rfl rfl (by kernel_rfl) (by kernel_rfl) (by kernel_rfl) (by kernel_rfl) (fun W hW => by (rfl)) hS ?_
    try simp only [Act.put, List.setIfInBounds_toArray, List.set_cons_zero, List.set_cons_succ]
    refine reg_take 2 (some 9) (.slice (some ⟨b, off, none⟩) n c) rfl rfl (by kernel_rfl) (by kernel_rfl) (by kernel_rfl) (by kernel_rfl) (fun W hW => by (rfl)) hS ?_
    try simp only [Act.put, List.setIfInBounds_toArray, List.set_cons_zero, List.set_cons_succ]
    refine reg_take 3 (some 10) (.slice (some ⟨b, off, none⟩) n c) rfl rfl (by kernel_rfl) (by kernel_rfl) (by kernel_rfl) (by kernel_rfl) (fun W hW => by (rfl)) hS ?_
    try simp only [Act.put, List.setIfInBounds_toArray, List.set_cons_zero, List.set_cons_succ]
    refine reg_take 4 (some 11) (.int .i64 n) (oi := { dst := some 11, op := Go.Op.call { callee := Go.Callee.builtin Go.Builtin.len, args := #[Go.Operand.tmp 10], argTypes := #[41] }, type := 3, pos := "weld.go:35", after := #[{ on := 3, ground := Go.Ground.data }], guard := none }) rfl rfl (by kernel_rfl) (by kernel_rfl) (by kernel_rfl) (by kernel_rfl) (fun W hW => by (first | rfl | go_simp)) hS ?_
    try simp only [Act.put, List.setIfInBounds_toArray, List.set_cons_zero, List.set_cons_succ]
    refine reg_take 5 (some 12) (.int .i64 3) (oi := { dst := some 12, op := Go.Op.call { callee := Go.Callee.builtin Go.Builtin.min, args := #[Go.Operand.const (Go.Value.int Go.IntKind.i64 3), Go.Operand.tmp 11], argTypes := #[3, 3] }, type := 3, pos := "weld.go:35", after := #[{ on := 4, ground := Go.Ground.data }], guard := none }) rfl rfl (by kernel_rfl) (by kernel_rfl) (by kernel_rfl) (by kernel_rfl) (fun W hW => by (go_simp; omega)) hS ?_
    try simp only [Act.put, List.setIfInBounds_toArray, List.set_cons_zero, List.set_cons_succ]
    refine reg_take 6 (some 13) (.slice (some ⟨b, off, none⟩) 3 c) (oi := { dst := some 13, op := Go.Op.slice 41 (Go.Operand.tmp 9) none (some (Go.Operand.tmp 12)) none, type := 41, pos := "weld.go:35", after := #[{ on := 2, ground := Go.Ground.data }, { on := 5, ground := Go.Ground.data }], guard := none }) rfl rfl (by kernel_rfl) (by kernel_rfl) (by kernel_rfl) (by kernel_rfl) (fun W hW => by (first | rfl | go_simp)) hS ?_
    try simp only [Act.put, List.setIfInBounds_toArray, List.set_cons_zero, List.set_cons_succ]
    refine reg_take 7 (some 14) (.string B1) (oi := { dst := some 14, op := Go.Op.convert 41 9 (Go.Operand.tmp 13), type := 9, pos := "weld.go:35", after := #[{ on := 6, ground := Go.Ground.data }], guard := none }) rfl rfl (by kernel_rfl) (by kernel_rfl) (by kernel_rfl) (by kernel_rfl) (fun W hW => by (have := HCV1.out W hW; go_simp)) hS ?_
    try simp only [Act.put, List.setIfInBounds_toArray, List.set_cons_zero, List.set_cons_succ]
    refine reg_take 8 (some 15) (.slice (some ⟨b, off, none⟩) n c) rfl rfl (by kernel_rfl) (by kernel_rfl) (by kernel_rfl) (by kernel_rfl) (fun W hW => by (rfl)) hS ?_
    try simp only [Act.put, List.setIfInBounds_toArray, List.set_cons_zero, List.set_cons_succ]
    refine reg_take 9 (some 16) (.slice (some ⟨b, off, none⟩) n c) rfl rfl (by kernel_rfl) (by kernel_rfl) (by kernel_rfl) (by kernel_rfl) (fun W hW => by (rfl)) hS ?_
    try simp only [Act.put, List.setIfInBounds_toArray, List.set_cons_zero, List.set_cons_succ]
    refine reg_take 10 (some 17) (.int .i64 n) (oi := { dst := some 17, op := Go.Op.call { callee := Go.Callee.builtin Go.Builtin.len, args := #[Go.Operand.tmp 16], argTypes := #[41] }, type := 3, pos := "weld.go:35", after := #[{ on := 9, ground := Go.Ground.data }], guard := none }) rfl rfl (by kernel_rfl) (by kernel_rfl) (by kernel_rfl) (by kernel_rfl) (fun W hW => by (first | rfl | go_simp)) hS ?_
    try simp only [Act.put, List.setIfInBounds_toArray, List.set_cons_zero, List.set_cons_succ]
    refine reg_take 11 (some 18) (.int .i64 ((n : Int) - 3)) (oi := { dst := some 18, op := Go.Op.binOp Go.BinOp.sub 3 (Go.Operand.tmp 17) (Go.Operand.const (Go.Value.int Go.IntKind.i64 3)) 3, type := 3, pos := "weld.go:35", after := #[{ on := 10, ground := Go.Ground.data }], guard := none }) rfl rfl (by kernel_rfl) (by kernel_rfl) (by kernel_rfl) (by kernel_rfl) (fun W hW => by (have := hw3.out; go_simp)) hS ?_
    try simp only [Act.put, List.setIfInBounds_toArray, List.set_cons_zero, List.set_cons_succ]
    refine reg_take 12 (some 19) (.int .i64 (k : Int)) (oi := { dst := some 19, op := Go.Op.call { callee := Go.Callee.builtin Go.Builtin.max, args := #[Go.Operand.const (Go.Value.int Go.IntKind.i64 0), Go.Operand.tmp 18], argTypes := #[3, 3] }, type := 3, pos := "weld.go:35", after := #[{ on := 11, ground := Go.Ground.data }], guard := none }) rfl rfl (by kernel_rfl) (by kernel_rfl) (by kernel_rfl) (by kernel_rfl) (fun W hW => by (have := HK.out; go_simp; omega)) hS ?_
    try simp only [Act.put, List.setIfInBounds_toArray, List.set_cons_zero, List.set_cons_succ]
    refine reg_take 13 (some 20) (.slice (some ⟨b, off + k, none⟩) 3 (c - k)) (oi := { dst := some 20, op := Go.Op.slice 41 (Go.Operand.tmp 15) (some (Go.Operand.tmp 19)) none none, type := 41, pos := "weld.go:35", after := #[{ on := 8, ground := Go.Ground.data }, { on := 12, ground := Go.Ground.data }], guard := none }) rfl rfl (by kernel_rfl) (by kernel_rfl) (by kernel_rfl) (by kernel_rfl) (fun W hW => by (have : n - k = 3 := (by have := HK.out; omega); go_simp; have := HK.out; omega)) hS ?_
    try simp only [Act.put, List.setIfInBounds_toArray, List.set_cons_zero, List.set_cons_succ]
    refine reg_take 14 (some 21) (.string B2) (oi := { dst := some 21, op := Go.Op.convert 41 9 (Go.Operand.tmp 20), type := 9, pos := "weld.go:35", after := #[{ on := 13, ground := Go.Ground.data }], guard := none }) rfl rfl (by kernel_rfl) (by kernel_rfl) (by kernel_rfl) (by kernel_rfl) (fun W hW => by (have := HCV2.out k HK.out W hW; go_simp)) hS ?_
    try simp only [Act.put, List.setIfInBounds_toArray, List.set_cons_zero, List.set_cons_succ]
    refine reg_call 1 (some 8) (.agg #[.int .i64 n, .int .i64 q1, .int .i64 q2, .int .i64 q3]) 91 #[.slice (some ⟨b, off, none⟩) n c] (fun W => Below ((WA).drew).heap.size ((WA).drew) W) rfl rfl (by kernel_rfl) (by kernel_rfl) (by first | rfl | go_simp) ?_ ?_ fun w1 hR1 hS => ?_
    · exact HZ.out _ hS
    · intro w' hR; exact (by (repeat (with_reducible first | assumption | exact bl_refl _ | refine bl_alloc ?_ | refine bl_iter ?_ | refine bl_drew ?_ | refine bl_drewN ?_ | refine bl_bytes ?_ | refine bl_set ?_ ?_ | refine bl_trans ?_ (by assumption))) <;> first | exact Nat.le_refl _ | (simp; done) | (simp; omega) | omega)
    try simp only [Act.put, List.setIfInBounds_toArray, List.set_cons_zero, List.set_cons_succ]
    refine reg_take 15 (some 22) (.agg #[.int .i64 n, .int .i64 q1, .int .i64 q2, .int .i64 q3, .string B1, .string B2]) (oi := { dst := some 22, op := Go.Op.build 36 #[(0, Go.Operand.tmp 8), (1, Go.Operand.tmp 14), (2, Go.Operand.tmp 21)], type := 36, pos := "weld.go:35", after := #[{ on := 1, ground := Go.Ground.data }, { on := 7, ground := Go.Ground.data }, { on := 14, ground := Go.Ground.data }], guard := none }) rfl rfl (by kernel_rfl) (by kernel_rfl) (by kernel_rfl) (by kernel_rfl) (fun W hW => by (first | rfl | go_simp)) hS ?_
    try simp only [Act.put, List.setIfInBounds_toArray, List.set_cons_zero, List.set_cons_succ]
    subst hWA; obtain ⟨hcc, hff⟩ := bcell hR1
    refine reg_one 16 (oi := { dst := none, op := Go.Op.store 36 (Go.Operand.tmp 2) (Go.Operand.tmp 22), type := 0, pos := "weld.go:35", after := #[{ on := 15, ground := Go.Ground.data }, { on := 1, ground := Go.Ground.chain }, { on := 0, ground := Go.Ground.phase }, { on := 1, ground := Go.Ground.phase }, { on := 2, ground := Go.Ground.phase }, { on := 3, ground := Go.Ground.phase }, { on := 4, ground := Go.Ground.phase }, { on := 5, ground := Go.Ground.phase }, { on := 6, ground := Go.Ground.phase }, { on := 7, ground := Go.Ground.phase }, { on := 8, ground := Go.Ground.phase }, { on := 9, ground := Go.Ground.phase }, { on := 10, ground := Go.Ground.phase }, { on := 11, ground := Go.Ground.phase }, { on := 12, ground := Go.Ground.phase }, { on := 13, ground := Go.Ground.phase }, { on := 14, ground := Go.Ground.phase }, { on := 15, ground := Go.Ground.phase }], guard := none }) rfl (by kernel_rfl) (by kernel_rfl) fun K' hK' => ?_
    go_simp
    refine hK'.out _ _ ?_ ?_
    · exact (by (repeat (with_reducible first | assumption | exact bl_refl _ | refine bl_alloc ?_ | refine bl_iter ?_ | refine bl_drew ?_ | refine bl_drewN ?_ | refine bl_bytes ?_ | refine bl_set ?_ ?_ | refine bl_trans ?_ (by assumption))) <;> first | exact Nat.le_refl _ | (simp; done) | (simp; omega) | omega)
    clear hK' K' hS
    intro hS
    try simp only [Act.put, List.setIfInBounds_toArray, List.set_cons_zero, List.set_cons_succ]
    refine reg_done (by kernel_rfl) (hK.out _ _ ?_) _
    clear hK K
    all_goals go_wp2
    all_goals exact bodyPost_ret (v := .agg #[.int .i64 n, .int .i64 q1, .int .i64 q2, .int .i64 q3, .string B1, .string B2]) (by simp [results, Tryd.results60, go_sem, *]) rfl ⟨by rw [HV.out], (by (repeat (with_reducible first | assumption | exact bl_refl _ | refine bl_alloc ?_ | refine bl_iter ?_ | refine bl_drew ?_ | refine bl_drewN ?_ | refine bl_bytes ?_ | refine bl_set ?_ ?_ | refine bl_trans ?_ (by assumption))) <;> first | exact Nat.le_refl _ | (simp; done) | (simp; omega) | omega)⟩

theorem sz_bounds (l : List UInt8) : ∀ (k p : Nat), edgeP l p → p ≤ l.length → l.length ≤ p + k →
    ∃ R U E : Int, sm (fun i => runesAt l (p + i)) (l.length - p) = R ∧ sm (fun i => unitsAt l (p + i)) (l.length - p) = U ∧ sm (fun i => endsAt l (p + i)) (l.length - p) = E ∧
      0 ≤ R ∧ R ≤ U ∧ U ≤ 2 * R ∧ 2 * R - U ≤ ((l.length - p : Nat) : Int) - 4 * (U - R) ∧ ((l.length - p : Nat) : Int) - 4 * (U - R) ≤ 3 * (2 * R - U) ∧ 0 ≤ E ∧ E ≤ R
  | 0, p, he, h0, h1 => by
    rw [show l.length - p = 0 from by omega]
    exact ⟨0, 0, 0, rfl, rfl, rfl, by omega⟩
  | k + 1, p, he, h0, h1 => by
    by_cases hp : p < l.length
    · have hw := stepW_pos (l.drop p)
      have hw4 := stepW_le4 (l.drop p)
      have hwl := stepW_le (l.drop p) (by rw [List.length_drop]; omega)
      rw [List.length_drop] at hwl
      have hEb := (edgeB_iff l p).2 he
      obtain ⟨R, U, E, i1, i2, i3, i4⟩ := sz_bounds l k (p + stepW (l.drop p)) (edge_next he) (by omega) (by omega)
      have hs : l.length - p = stepW (l.drop p) + (l.length - (p + stepW (l.drop p))) := by omega
      have huw : (unitsOf (runeOf (l.drop p)) = 2 ∧ stepW (l.drop p) = 4) ∨ (unitsOf (runeOf (l.drop p)) = 1 ∧ stepW (l.drop p) < 4) := by
        have hb := runeOf_big (l.drop p)
        unfold unitsOf stepW
        by_cases h : encLen (l.drop p) = 4
        · left; rw [if_pos (hb.2 h), if_neg (by omega)]; exact ⟨rfl, h⟩
        · right; rw [if_neg (fun h' => h (hb.1 h'))]; refine ⟨rfl, ?_⟩; split
          · omega
          · have := encLen_le4 (l.drop p); omega
      have hee : 0 ≤ endsAt l p ∧ endsAt l p ≤ 1 := by unfold endsAt; split <;> omega
      refine ⟨1 + R, unitsOf (runeOf (l.drop p)) + U, endsAt l p + E, ?_, ?_, ?_, ?_⟩
      · rw [hs, sm_add, sm_first (f := fun i => runesAt l (p + i)) hw (fun i hi hi2 => by simp [runesAt, edge_mid hi hi2])]
        simp only [← Nat.add_assoc, i1, Nat.add_zero]; simp only [runesAt, hEb, if_true]
      · rw [hs, sm_add, sm_first (f := fun i => unitsAt l (p + i)) hw (fun i hi hi2 => by simp [unitsAt, edge_mid hi hi2])]
        simp only [← Nat.add_assoc, i2, Nat.add_zero]; simp only [unitsAt, hEb, if_true]
      · rw [hs, sm_add, sm_first (f := fun i => endsAt l (p + i)) hw (fun i hi hi2 => by
          have hb := edge_mid (l := l) (p := p) hi hi2
          have ht : tl (gb l (p + i)) = true := by
            rw [← Bool.not_eq_false]; intro hf; rw [gb_ascii_edge hf] at hb; cases hb
          rw [tl_iff] at ht
          simp only [endsAt]; rw [if_neg (by omega)])]
        simp only [← Nat.add_assoc, i3, Nat.add_zero]
      · generalize unitsOf (runeOf (l.drop p)) = u at *
        generalize endsAt l p = e at *
        generalize stepW (l.drop p) = w at *
        omega
    · rw [show l.length - p = 0 from by omega]
      exact ⟨0, 0, 0, rfl, rfl, rfl, by omega⟩
theorem weldOf_eq (l : List UInt8) : weldOf l = ⟨l.length, runesN l, unitsN l, endsN l, headOf l, tailOf l⟩ := by
  unfold weldOf; obtain ⟨h1, h2, h3⟩ := szOf_sm l; rw [h1, h2, h3]
theorem sizes_bounds (l : List UInt8) : 0 ≤ runesN l ∧ runesN l ≤ unitsN l ∧ unitsN l ≤ 2 * runesN l ∧ 2 * runesN l - unitsN l ≤ (l.length : Int) - 4 * (unitsN l - runesN l) ∧
    (l.length : Int) - 4 * (unitsN l - runesN l) ≤ 3 * (2 * runesN l - unitsN l) ∧ 0 ≤ endsN l ∧ endsN l ≤ runesN l := by
  obtain ⟨R, U, E, h1, h2, h3, h4⟩ := sz_bounds l l.length 0 (edge_zero l) (by omega) (by omega)
  simp only [Nat.zero_add, Nat.sub_zero] at h1 h2 h3 h4
  have e1 : runesN l = R := h1
  have e2 : unitsN l = U := h2
  have e3 : endsN l = E := h3
  rw [e1, e2, e3]; exact h4
theorem headOf_len (l : List UInt8) : (headOf l).length = min 3 l.length := by unfold headOf; rw [List.length_take]
theorem tailOf_len (l : List UInt8) : (tailOf l).length = min 3 l.length := by unfold tailOf; rw [List.length_drop]; omega
theorem headOf_append (a b : List UInt8) : headOf (a ++ b) = if a.length < 3 then (headOf a ++ headOf b).take 3 else headOf a := by
  unfold headOf
  split
  · rename_i h
    rw [List.take_of_length_le (by omega : a.length ≤ 3)]
    rw [List.take_append, List.take_append, List.take_take]
    congr 2; omega
  · rename_i h
    rw [List.take_append, show 3 - a.length = 0 from by omega]; simp
theorem tailOf_append (a b : List UInt8) : tailOf (a ++ b) = if b.length < 3 then tailOf (tailOf a ++ tailOf b) else tailOf b := by
  unfold tailOf
  split
  · rename_i h
    rw [show b.length - 3 = 0 from by omega, List.drop_zero]
    rw [List.drop_append, List.drop_append, List.drop_drop]
    simp only [List.length_append, List.length_drop]
    congr 2
    · omega
    · omega
  · rename_i h
    rw [List.length_append, show a.length + b.length - 3 = a.length + (b.length - 3) from by omega, drop_right]
/-- the ends tell short bytes whole -/
theorem short_whole (l : List UInt8) (h : l.length ≤ 6) (over : Nat) (ho : over + l.length = (headOf l).length + (tailOf l).length) :
    (headOf l).drop ((headOf l).length - over) = (tailOf l).take over ∧ headOf l ++ (tailOf l).drop over = l := by
  rw [headOf_len, tailOf_len] at ho
  rw [headOf_len]
  unfold headOf tailOf
  by_cases h3 : l.length ≤ 3
  · rw [List.take_of_length_le h3, show l.length - 3 = 0 from by omega, List.drop_zero, show over = l.length from by omega]
    constructor
    · rw [show min 3 l.length - l.length = 0 from by omega, List.drop_zero, List.take_of_length_le (by omega)]
    · rw [List.drop_eq_nil_of_le (by omega), List.append_nil]
  · have e : over = 6 - l.length := by omega
    subst e
    constructor
    · apply List.ext_getElem?
      intro i
      rw [List.getElem?_drop, List.getElem?_take, List.getElem?_take, List.getElem?_drop]
      rw [show min 3 l.length = 3 from by omega]
      by_cases hi : i < 6 - l.length
      · rw [if_pos (by omega), if_pos (by omega)]; congr 1; omega
      · rw [if_neg (by omega), if_neg (by omega)]
    · rw [List.drop_drop, show l.length - 3 + (6 - l.length) = 3 from by omega, List.take_append_drop]
/-- the seam's bytes are in the ends -/
theorem seamL_ends (a b : List UInt8) (k j : Nat) (hk : k ≤ (tailOf a).length) (hj : j ≤ (headOf b).length) :
    (tailOf a).drop ((tailOf a).length - k) ++ (headOf b).take j = seamL a b k j := by
  rw [tailOf_len] at hk
  rw [headOf_len] at hj
  rw [tailOf_len]
  unfold tailOf headOf seamL
  rw [List.drop_drop, List.take_take]
  congr 2 <;> omega
/-- the measure of both -/
theorem weldOf_append (a b : List UInt8) : weldOf (a ++ b) = ⟨a.length + b.length, (weldOf a).runes + (weldOf b).runes - (seamOf a b).1, (weldOf a).units + (weldOf b).units - (seamOf a b).2, (weldOf a).ends + (weldOf b).ends - seamE a b, headOf (a ++ b), tailOf (a ++ b)⟩ := by
  obtain ⟨h1, h2⟩ := join_runes a b
  rw [weldOf_eq, weldOf_eq, weldOf_eq, h1, h2, ends_append, List.length_append]; simp

theorem bs_append (a b : List UInt8) : bs a ++ bs b = bs (a ++ b) := by
  apply ByteArray.ext
  simp [bs, ByteArray.data_append]
def szV (a b c d : Int) : Value := .agg #[.int .i64 a, .int .i64 b, .int .i64 c, .int .i64 d]
set_option maxHeartbeats 1000000 in
set_option maxRecDepth 100000 in
theorem sum_any (a1 a2 a3 a4 b1 b2 b3 b4 t c1 c2 c3 c4 : Int) (w : World)
    (h1 : a1 + t * b1 = c1) (h2 : a2 + t * b2 = c2) (h3 : a3 + t * b3 = c3) (h4 : a4 + t * b4 = c4)
    (m1 : -9000000000 ≤ t * b1 ∧ t * b1 ≤ 9000000000) (m2 : -9000000000 ≤ t * b2 ∧ t * b2 ≤ 9000000000) (m3 : -9000000000 ≤ t * b3 ∧ t * b3 ≤ 9000000000) (m4 : -9000000000 ≤ t * b4 ∧ t * b4 ≤ 9000000000)
    (n1 : -9000000000 ≤ c1 ∧ c1 ≤ 9000000000) (n2 : -9000000000 ≤ c2 ∧ c2 ≤ 9000000000) (n3 : -9000000000 ≤ c3 ∧ c3 ≤ 9000000000) (n4 : -9000000000 ≤ c4 ∧ c4 ≤ 9000000000) :
    Calls Tryd.prog 110 #[szV a1 a2 a3 a4, szV b1 b2 b3 b4, .int .i64 t] w fun e w' => e = .returned (szV c1 c2 c3 c4) ∧ Below w.heap.size w w' := by
  have k1 : IntKind.i64.wrap (t * b1) = t * b1 := IntWalk.i64_in _ (by omega)
  have k2 : IntKind.i64.wrap (t * b2) = t * b2 := IntWalk.i64_in _ (by omega)
  have k3 : IntKind.i64.wrap (t * b3) = t * b3 := IntWalk.i64_in _ (by omega)
  have k4 : IntKind.i64.wrap (t * b4) = t * b4 := IntWalk.i64_in _ (by omega)
  have e1 : IntKind.i64.wrap (a1 + t * b1) = c1 := by rw [h1]; exact IntWalk.i64_in _ (by omega)
  have e2 : IntKind.i64.wrap (a2 + t * b2) = c2 := by rw [h2]; exact IntWalk.i64_in _ (by omega)
  have e3 : IntKind.i64.wrap (a3 + t * b3) = c3 := by rw [h3]; exact IntWalk.i64_in _ (by omega)
  have e4 : IntKind.i64.wrap (a4 + t * b4) = c4 := by rw [h4]; exact IntWalk.i64_in _ (by omega)
  clear m1 m2 m3 m4 n1 n2 n3 n4 h1 h2 h3 h4
  unfold szV
  go_enter Tryd.func110, Tryd.ntmps110
  go_wp2
  exact bodyPost_ret (v := .agg #[.int .i64 c1, .int .i64 c2, .int .i64 c3, .int .i64 c4]) (by simp [results, Tryd.results110, go_sem, *]) rfl ⟨rfl, (by (repeat (with_reducible first | assumption | exact bl_refl _ | refine bl_alloc ?_ | refine bl_iter ?_ | refine bl_drew ?_ | refine bl_drewN ?_ | refine bl_bytes ?_ | refine bl_set ?_ ?_ | refine bl_trans ?_ (by assumption))) <;> first | exact Nat.le_refl _ | (simp; done) | (simp; omega) | omega)⟩

set_option maxHeartbeats 1000000 in
theorem head_any (l : List UInt8) (w : World) (hm : l.length ≤ 1000000000) :
    Calls Tryd.prog 111 #[.string (bs l)] w fun e w' => e = .returned (.string (bs (l.take 3))) ∧ w' = w := by
  have hs := bs_size l
  have hx := bs_extract l 0 (min 3 l.length)
  rw [List.drop_zero] at hx
  have HX := Lib.hid (show (bs l).extract 0 (min 3 l.length) = bs (l.take 3) by rw [hx]; congr 1; rw [List.take_eq_take_iff]; omega)
  clear hx
  generalize bs (l.take 3) = R at *
  generalize bs l = B at *
  generalize l.length = n at *
  by_cases h3 : n < 3
  · have h0 : (n : Int) < 3 := by omega
    have e := HX.out
    rw [show min 3 n = n from by omega] at e
    have h4 : (0 : Int) ≤ (n : Int) := by omega
    go_enter Tryd.func111, Tryd.ntmps111
    go_wp2
    go_ret
    exact ⟨rfl, rfl⟩
  · have h0 : ¬ (n : Int) < 3 := by omega
    have h1 : (3 : Int) ≤ (n : Int) := by omega
    have e := HX.out
    rw [show min 3 n = 3 from by omega] at e
    go_enter Tryd.func111, Tryd.ntmps111
    go_wp2
    go_ret
    exact ⟨rfl, rfl⟩
set_option maxHeartbeats 1000000 in
theorem tail_any (l : List UInt8) (w : World) (hm : l.length ≤ 1000000000) :
    Calls Tryd.prog 112 #[.string (bs l)] w fun e w' => e = .returned (.string (bs (tailOf l))) ∧ w' = w := by
  have hs := bs_size l
  have hx := bs_extract l (l.length - 3) l.length
  rw [List.take_of_length_le (Nat.le_refl _)] at hx
  have HX := Lib.hid (show (bs l).extract (l.length - 3) l.length = bs (tailOf l) from hx)
  clear hx
  generalize bs (tailOf l) = R at *
  generalize bs l = B at *
  generalize l.length = n at *
  have hw := IntWalk.i64_in ((n : Int) - 3) (by omega)
  by_cases h3 : n ≤ 3
  · have h0 : ¬ (0 : Int) < (n : Int) - 3 := by omega
    have h1 : ¬ (3 : Int) < (n : Int) := by omega
    have e := HX.out
    rw [show n - 3 = 0 from by omega] at e
    have h4 : (0 : Int) ≤ (n : Int) := by omega
    go_enter Tryd.func112, Tryd.ntmps112
    go_wp2
    go_ret
    exact ⟨rfl, rfl⟩
  · obtain ⟨k, hk⟩ : ∃ k, n - 3 = k := ⟨_, rfl⟩
    have hk' : (n : Int) - 3 = k := by omega
    rw [hk'] at hw
    have h0 : (0 : Int) < (k : Int) := by omega
    have h1 : (k : Int) ≤ (n : Int) := by omega
    have h4 : (0 : Int) ≤ (k : Int) := by omega
    have e := HX.out
    rw [hk] at e
    clear hk
    go_enter Tryd.func112, Tryd.ntmps112
    go_wp2
    go_ret
    exact ⟨rfl, rfl⟩

def endIs (l : List UInt8) (c : Int) : Bool := decide (0 < l.length) && decide (gb l (l.length - 1) = c)
theorem bs_get (l : List UInt8) (i : Nat) : ((bs l).get! i).toNat = (gb l i) := by
  have := get_bs l i; have := gb_lo l i; omega
theorem bs_get' (l : List UInt8) (i : Nat) (h : i < (bs l).size) : (((bs l)[i]'h).toNat : Int) = gb l i := by
  have h' : i < l.length := by rw [bs_size] at h; exact h
  show ((l.toArray[i]'(by simpa using h')).toNat : Int) = gb l i
  unfold gb
  rw [List.getD_eq_getElem?_getD, List.getElem?_eq_getElem h']; simp
set_option maxHeartbeats 1000000 in
theorem tailIs_any (l : List UInt8) (c : Int) (w : World) (hm : l.length ≤ 1000000000) :
    Calls Tryd.prog 123 #[.string (bs l), .int .u8 c] w fun e w' => e = .returned (.bool (endIs l c)) ∧ w' = w := by
  have hs := bs_size l
  unfold endIs
  by_cases h0 : l.length = 0
  · have h1 : ¬ (0 : Int) < (l.length : Int) := by omega
    rw [h0] at hs h1 ⊢
    generalize bs l = B at *
    go_enter Tryd.func123, Tryd.ntmps123
    go_wp2
    go_ret
    exact ⟨rfl, rfl⟩
  · obtain ⟨k, hk⟩ : ∃ k, l.length = k + 1 := ⟨l.length - 1, by omega⟩
    have hg := fun h => bs_get' l k h
    rw [hk] at hs ⊢
    rw [show k + 1 - 1 = k from rfl]
    generalize gb l k = x at *
    generalize bs l = B at *
    have h1 : (0 : Int) < (k : Int) + 1 := by omega
    have h2 : (k : Int) + 1 - 1 = k := by omega
    have hw := IntWalk.i64_in (k : Int) (by omega)
    have h3 : (0 : Int) ≤ (k : Int) := by omega
    have h4 : (k : Int) < (k : Int) + 1 := by omega
    go_enter Tryd.func123, Tryd.ntmps123
    go_wp2
    go_ret
    refine ⟨ret_bool ?_, rfl⟩
    simp [hg, Bool.beq_eq_decide_eq]


theorem weldOf_val (l : List UInt8) : (weldOf l).val = .agg #[.int .i64 l.length, .int .i64 (runesN l), .int .i64 (unitsN l), .int .i64 (endsN l), .string (bs (headOf l)), .string (bs (tailOf l))] := by
  rw [weldOf_eq]; rfl
set_option maxRecDepth 100000 in
set_option maxHeartbeats 4000000 in
theorem short_any (l : List UInt8) (h6 : l.length ≤ 6) (w : World) :
    Calls Tryd.prog 121 #[(weldOf l).val] w fun e w' => e = .returned (.tuple #[.string (bs l), .bool true]) ∧ Below w.heap.size w w' := by
  rw [weldOf_val]
  generalize runesN l = q1
  generalize unitsN l = q2
  generalize endsN l = q3
  obtain ⟨o, ho⟩ : ∃ o, o + l.length = (headOf l).length + (tailOf l).length := ⟨(headOf l).length + (tailOf l).length - l.length, by rw [headOf_len, tailOf_len]; omega⟩
  obtain ⟨s1, s2⟩ := short_whole l h6 o ho
  have hol : o ≤ (headOf l).length := by rw [headOf_len, tailOf_len] at ho; rw [headOf_len]; omega
  have hot : o ≤ (tailOf l).length := by rw [headOf_len, tailOf_len] at ho; rw [tailOf_len]; omega
  have hh3 : (headOf l).length ≤ 3 := by rw [headOf_len]; omega
  have ht3 : (tailOf l).length ≤ 3 := by rw [tailOf_len]; omega
  generalize headOf l = h at *
  generalize tailOf l = t at *
  obtain ⟨m, hm⟩ : ∃ m, h.length = m + o := ⟨h.length - o, by omega⟩
  rw [hm, show m + o - o = m from by omega] at s1
  have x1 := bs_extract h m h.length
  rw [List.take_of_length_le (Nat.le_refl _)] at x1
  have x2 := bs_extract t 0 o
  rw [List.drop_zero] at x2
  have x3 := bs_extract t o t.length
  rw [List.take_of_length_le (Nat.le_refl _)] at x3
  rw [s1] at x1
  have x4 := bs_append h (t.drop o)
  rw [s2] at x4
  rw [← x3] at x4
  clear x3 s1 s2
  generalize bs (t.take o) = C at *
  have z1 := bs_size h
  have z2 := bs_size t
  have hn6 : (l.length : Int) ≤ 6 := by omega
  generalize bs l = R at *
  generalize l.length = n at *
  generalize bs h = H at *
  generalize bs t = T at *
  generalize h.length = hl at *
  generalize t.length = tl' at *
  rw [hm] at x1
  rw [← hm] at x1
  have X1 := Lib.hid x1
  have X2 := Lib.hid x2
  have X4 := Lib.hid x4
  clear x1 x2 x4
  have w1 : IntKind.i64.wrap ((hl : Int) + tl' ) = (hl : Int) + tl' := IntWalk.i64_in _ (by omega)
  have w2 : IntKind.i64.wrap ((hl : Int) + tl' - n) = o := by rw [IntWalk.i64_in _ (by omega)]; omega
  have w3 : IntKind.i64.wrap ((hl : Int) - o) = m := by rw [IntWalk.i64_in _ (by omega)]; omega
  have c1 : (0 : Int) ≤ (m : Int) := by omega
  have c2 : (m : Int) ≤ (hl : Int) := by omega
  have c3 : (0 : Int) ≤ (o : Int) := by omega
  have c4 : (o : Int) ≤ (tl' : Int) := by omega
  have HM := Lib.hid hm
  have HB := Lib.hid (show hl + (tl' - o) ≤ 9223372036854775807 by omega)
  clear h6 hn6 hh3 hm ho hol hot
  go_enter Tryd.func121, Tryd.ntmps121
  go_wp2_with fail
  generalize hWA : w.alloc _ = WA
  have hbA : Below w.heap.size w WA := by rw [← hWA]; exact (by (repeat (with_reducible first | assumption | exact bl_refl _ | refine bl_alloc ?_ | refine bl_iter ?_ | refine bl_drew ?_ | refine bl_drewN ?_ | refine bl_bytes ?_ | refine bl_set ?_ ?_ | refine bl_trans ?_ (by assumption))) <;> first | exact Nat.le_refl _ | (simp; done) | (simp; omega) | omega)
  have hBA : Blk WA w.heap.size 36 #[.int .i64 n, .int .i64 q1, .int .i64 q2, .int .i64 q3, .string H, .string T] := by rw [← hWA]; exact Blk.new w _ _ rfl
  clear hWA
  refine reg_begin (fun W => Below w.heap.size w W ∧ Blk W w.heap.size 36 #[.int .i64 n, .int .i64 q1, .int .i64 q2, .int .i64 q3, .string H, .string T]) (by kernel_rfl) (by exact ⟨(by (repeat (with_reducible first | assumption | exact bl_refl _ | refine bl_alloc ?_ | refine bl_iter ?_ | refine bl_drew ?_ | refine bl_drewN ?_ | refine bl_bytes ?_ | refine bl_set ?_ ?_ | refine bl_trans ?_ (by assumption))) <;> first | exact Nat.le_refl _ | (simp; done) | (simp; omega) | omega), hBA⟩) fun K hK hS => ?_
  refine reg_take 0 (some 18) (.pointer (some ⟨w.heap.size, 4, none⟩)) rfl rfl (by kernel_rfl) (by kernel_rfl) (by kernel_rfl) (by kernel_rfl) (fun W hW => by (rfl)) hS ?_
  try simp only [Act.put, List.setIfInBounds_toArray, List.set_cons_zero, List.set_cons_succ]
  refine reg_take 1 (some 19) (.string H) (oi := { dst := some 19, op := Go.Op.load 9 (Go.Operand.tmp 18), type := 9, pos := "weld.go:57", after := #[{ on := 0, ground := Go.Ground.data }], guard := none }) rfl rfl (by kernel_rfl) (by kernel_rfl) (by kernel_rfl) (by kernel_rfl) (fun W hW => by (have hx := hW.2.cell 4; go_simp)) hS ?_
  try simp only [Act.put, List.setIfInBounds_toArray, List.set_cons_zero, List.set_cons_succ]
  refine reg_take 2 (some 20) (.pointer (some ⟨w.heap.size, 4, none⟩)) rfl rfl (by kernel_rfl) (by kernel_rfl) (by kernel_rfl) (by kernel_rfl) (fun W hW => by (rfl)) hS ?_
  try simp only [Act.put, List.setIfInBounds_toArray, List.set_cons_zero, List.set_cons_succ]
  refine reg_take 3 (some 21) (.string H) (oi := { dst := some 21, op := Go.Op.load 9 (Go.Operand.tmp 20), type := 9, pos := "weld.go:57", after := #[{ on := 2, ground := Go.Ground.data }], guard := none }) rfl rfl (by kernel_rfl) (by kernel_rfl) (by kernel_rfl) (by kernel_rfl) (fun W hW => by (have hx := hW.2.cell 4; go_simp)) hS ?_
  try simp only [Act.put, List.setIfInBounds_toArray, List.set_cons_zero, List.set_cons_succ]
  refine reg_take 4 (some 22) (.int .i64 hl) (oi := { dst := some 22, op := Go.Op.call { callee := Go.Callee.builtin Go.Builtin.len, args := #[Go.Operand.tmp 21], argTypes := #[9] }, type := 3, pos := "weld.go:57", after := #[{ on := 3, ground := Go.Ground.data }], guard := none }) rfl rfl (by kernel_rfl) (by kernel_rfl) (by kernel_rfl) (by kernel_rfl) (fun W hW => by (first | rfl | go_simp)) hS ?_
  try simp only [Act.put, List.setIfInBounds_toArray, List.set_cons_zero, List.set_cons_succ]
  refine reg_take 5 (some 23) (.int .i64 o) rfl rfl (by kernel_rfl) (by kernel_rfl) (by kernel_rfl) (by kernel_rfl) (fun W hW => by (rfl)) hS ?_
  try simp only [Act.put, List.setIfInBounds_toArray, List.set_cons_zero, List.set_cons_succ]
  refine reg_take 6 (some 24) (.int .i64 m) (oi := { dst := some 24, op := Go.Op.binOp Go.BinOp.sub 3 (Go.Operand.tmp 22) (Go.Operand.tmp 23) 3, type := 3, pos := "weld.go:57", after := #[{ on := 4, ground := Go.Ground.data }, { on := 5, ground := Go.Ground.data }], guard := none }) rfl rfl (by kernel_rfl) (by kernel_rfl) (by kernel_rfl) (by kernel_rfl) (fun W hW => by (first | rfl | go_simp)) hS ?_
  try simp only [Act.put, List.setIfInBounds_toArray, List.set_cons_zero, List.set_cons_succ]
  refine reg_take 7 (some 25) (.string C) (oi := { dst := some 25, op := Go.Op.slice 9 (Go.Operand.tmp 19) (some (Go.Operand.tmp 24)) none none, type := 9, pos := "weld.go:57", after := #[{ on := 1, ground := Go.Ground.data }, { on := 6, ground := Go.Ground.data }], guard := none }) rfl rfl (by kernel_rfl) (by kernel_rfl) (by kernel_rfl) (by kernel_rfl) (fun W hW => by (have hx := X1.out; go_simp)) hS ?_
  try simp only [Act.put, List.setIfInBounds_toArray, List.set_cons_zero, List.set_cons_succ]
  refine reg_take 8 (some 26) (.pointer (some ⟨w.heap.size, 5, none⟩)) rfl rfl (by kernel_rfl) (by kernel_rfl) (by kernel_rfl) (by kernel_rfl) (fun W hW => by (rfl)) hS ?_
  try simp only [Act.put, List.setIfInBounds_toArray, List.set_cons_zero, List.set_cons_succ]
  refine reg_take 9 (some 27) (.string T) (oi := { dst := some 27, op := Go.Op.load 9 (Go.Operand.tmp 26), type := 9, pos := "weld.go:57", after := #[{ on := 8, ground := Go.Ground.data }], guard := none }) rfl rfl (by kernel_rfl) (by kernel_rfl) (by kernel_rfl) (by kernel_rfl) (fun W hW => by (have hx := hW.2.cell 5; go_simp)) hS ?_
  try simp only [Act.put, List.setIfInBounds_toArray, List.set_cons_zero, List.set_cons_succ]
  refine reg_take 10 (some 28) (.int .i64 o) rfl rfl (by kernel_rfl) (by kernel_rfl) (by kernel_rfl) (by kernel_rfl) (fun W hW => by (rfl)) hS ?_
  try simp only [Act.put, List.setIfInBounds_toArray, List.set_cons_zero, List.set_cons_succ]
  refine reg_take 11 (some 29) (.string C) (oi := { dst := some 29, op := Go.Op.slice 9 (Go.Operand.tmp 27) none (some (Go.Operand.tmp 28)) none, type := 9, pos := "weld.go:57", after := #[{ on := 9, ground := Go.Ground.data }, { on := 10, ground := Go.Ground.data }], guard := none }) rfl rfl (by kernel_rfl) (by kernel_rfl) (by kernel_rfl) (by kernel_rfl) (fun W hW => by (have hx := X2.out; go_simp)) hS ?_
  try simp only [Act.put, List.setIfInBounds_toArray, List.set_cons_zero, List.set_cons_succ]
  refine reg_take 12 (some 30) (.bool false) (oi := { dst := some 30, op := Go.Op.binOp Go.BinOp.neq 9 (Go.Operand.tmp 25) (Go.Operand.tmp 29) 9, type := 4, pos := "weld.go:57", after := #[{ on := 7, ground := Go.Ground.data }, { on := 11, ground := Go.Ground.data }], guard := none }) rfl rfl (by kernel_rfl) (by kernel_rfl) (by kernel_rfl) (by kernel_rfl) (fun W hW => by (first | rfl | go_simp)) hS ?_
  try simp only [Act.put, List.setIfInBounds_toArray, List.set_cons_zero, List.set_cons_succ]
  refine reg_done (by kernel_rfl) (hK.out _ _ ?_) _
  clear hK K
  go_wp2_with fail
  refine reg_begin (fun W => Below w.heap.size w W ∧ Blk W w.heap.size 36 #[.int .i64 n, .int .i64 q1, .int .i64 q2, .int .i64 q3, .string H, .string T]) (by kernel_rfl) (by exact ⟨(by (repeat (with_reducible first | assumption | exact bl_refl _ | refine bl_alloc ?_ | refine bl_iter ?_ | refine bl_drew ?_ | refine bl_drewN ?_ | refine bl_bytes ?_ | refine bl_set ?_ ?_ | refine bl_trans ?_ (by assumption))) <;> first | exact Nat.le_refl _ | (simp; done) | (simp; omega) | omega), hBA⟩) fun K hK hS => ?_
  refine reg_take 0 (some 31) (.pointer (some ⟨w.heap.size, 4, none⟩)) rfl rfl (by kernel_rfl) (by kernel_rfl) (by kernel_rfl) (by kernel_rfl) (fun W hW => by (rfl)) hS ?_
  try simp only [Act.put, List.setIfInBounds_toArray, List.set_cons_zero, List.set_cons_succ]
  refine reg_take 1 (some 32) (.string H) (oi := { dst := some 32, op := Go.Op.load 9 (Go.Operand.tmp 31), type := 9, pos := "weld.go:60", after := #[{ on := 0, ground := Go.Ground.data }], guard := none }) rfl rfl (by kernel_rfl) (by kernel_rfl) (by kernel_rfl) (by kernel_rfl) (fun W hW => by (have hx := hW.2.cell 4; go_simp)) hS ?_
  try simp only [Act.put, List.setIfInBounds_toArray, List.set_cons_zero, List.set_cons_succ]
  refine reg_take 2 (some 33) (.pointer (some ⟨w.heap.size, 5, none⟩)) rfl rfl (by kernel_rfl) (by kernel_rfl) (by kernel_rfl) (by kernel_rfl) (fun W hW => by (rfl)) hS ?_
  try simp only [Act.put, List.setIfInBounds_toArray, List.set_cons_zero, List.set_cons_succ]
  refine reg_take 3 (some 34) (.string T) (oi := { dst := some 34, op := Go.Op.load 9 (Go.Operand.tmp 33), type := 9, pos := "weld.go:60", after := #[{ on := 2, ground := Go.Ground.data }], guard := none }) rfl rfl (by kernel_rfl) (by kernel_rfl) (by kernel_rfl) (by kernel_rfl) (fun W hW => by (have hx := hW.2.cell 5; go_simp)) hS ?_
  try simp only [Act.put, List.setIfInBounds_toArray, List.set_cons_zero, List.set_cons_succ]
  refine reg_take 4 (some 35) (.int .i64 o) rfl rfl (by kernel_rfl) (by kernel_rfl) (by kernel_rfl) (by kernel_rfl) (fun W hW => by (rfl)) hS ?_
  try simp only [Act.put, List.setIfInBounds_toArray, List.set_cons_zero, List.set_cons_succ]
  refine reg_take 5 (some 36) (.string (T.extract o tl')) (oi := { dst := some 36, op := Go.Op.slice 9 (Go.Operand.tmp 34) (some (Go.Operand.tmp 35)) none none, type := 9, pos := "weld.go:60", after := #[{ on := 3, ground := Go.Ground.data }, { on := 4, ground := Go.Ground.data }], guard := none }) rfl rfl (by kernel_rfl) (by kernel_rfl) (by kernel_rfl) (by kernel_rfl) (fun W hW => by (first | rfl | go_simp)) hS ?_
  try simp only [Act.put, List.setIfInBounds_toArray, List.set_cons_zero, List.set_cons_succ]
  refine reg_take 6 (some 37) (.string R) (oi := { dst := some 37, op := Go.Op.binOp Go.BinOp.add 9 (Go.Operand.tmp 32) (Go.Operand.tmp 36) 9, type := 9, pos := "weld.go:60", after := #[{ on := 1, ground := Go.Ground.data }, { on := 5, ground := Go.Ground.data }], guard := none }) rfl rfl (by kernel_rfl) (by kernel_rfl) (by kernel_rfl) (by kernel_rfl) (fun W hW => by (have hx := X4.out; have c5 := HB.out; go_simp)) hS ?_
  try simp only [Act.put, List.setIfInBounds_toArray, List.set_cons_zero, List.set_cons_succ]
  refine reg_take 7 (some 2) (.string R) rfl rfl (by kernel_rfl) (by kernel_rfl) (by kernel_rfl) (by kernel_rfl) (fun W hW => by (rfl)) hS ?_
  try simp only [Act.put, List.setIfInBounds_toArray, List.set_cons_zero, List.set_cons_succ]
  refine reg_take 8 (some 3) (.bool true) (oi := { dst := some 3, op := Go.Op.assign (Go.Operand.const (Go.Value.bool true)), type := 4, pos := "weld.go:60", after := #[{ on := 7, ground := Go.Ground.chain }, { on := 0, ground := Go.Ground.phase }, { on := 1, ground := Go.Ground.phase }, { on := 2, ground := Go.Ground.phase }, { on := 3, ground := Go.Ground.phase }, { on := 4, ground := Go.Ground.phase }, { on := 5, ground := Go.Ground.phase }, { on := 6, ground := Go.Ground.phase }, { on := 7, ground := Go.Ground.phase }], guard := none }) rfl rfl (by kernel_rfl) (by kernel_rfl) (by kernel_rfl) (by kernel_rfl) (fun W hW => by (first | rfl | go_simp)) hS ?_
  try simp only [Act.put, List.setIfInBounds_toArray, List.set_cons_zero, List.set_cons_succ]
  refine reg_done (by kernel_rfl) (hK.out _ _ ?_) _
  clear hK K
  go_wp2_with fail
  go_ret2
  exact ⟨rfl, (by (repeat (with_reducible first | assumption | exact bl_refl _ | refine bl_alloc ?_ | refine bl_iter ?_ | refine bl_drew ?_ | refine bl_drewN ?_ | refine bl_bytes ?_ | refine bl_set ?_ ?_ | refine bl_trans ?_ (by assumption))) <;> first | exact Nat.le_refl _ | (simp; done) | (simp; omega) | omega)⟩

/-- the bytes of a string -/
theorem conv_to (w : World) (l : List UInt8) : (convert 9 41 (.string (bs l))).run Tryd.prog w = .ok (.slice (some ⟨w.heap.size, 0, none⟩) l.length (grownCap w l.length 0 5)) (Lib.bytesWorld w 5 (bs l)) := by
  have := Lib.run_convert_string_bytes (P := Tryd.prog) w 9 41 5 (bs l) (u := .string) (by kernel_rfl) (by kernel_rfl) (by kernel_rfl)
  rwa [bs_size] at this
theorem conv_at (w : World) (e : TypeId) (l : List UInt8) : BytesAt (Lib.bytesWorld w e (bs l)) (some ⟨w.heap.size, 0, none⟩) l := fun _ => by
  refine ⟨w.heap.size, 0, rfl, fun i hi => ?_⟩
  have := Lib.bytesWorld_cell w e (bs l) i (by rw [bs_size]; exact hi)
  rw [Nat.zero_add, this, bs_toList]; rfl

set_option maxRecDepth 100000 in
set_option maxHeartbeats 4000000 in
theorem Valid_any (l : List UInt8) (hm : l.length ≤ 268435456) (w : World) (hT : Tabs w) (hw0 : 0 < w.heap.size) :
    Calls Tryd.prog 108 #[(weldOf l).val] w fun e w' => e = .returned (.bool true) ∧ Below w.heap.size w w' := by
  have hsz := sizes_bounds l
  have z1 := bs_size (headOf l)
  have z2 := bs_size (tailOf l)
  rw [headOf_len] at z1
  rw [tailOf_len] at z2
  have n1 : ¬ ((l.length : Int) < 0) := by omega
  have n2 : ¬ ((268435456 : Int) < (l.length : Int)) := by omega
  by_cases h6 : l.length ≤ 6
  · have hs := fun W => short_any l h6 W
    have ho := fun W A c (hb : Below w.heap.size w W) hA hc => Of_any A c l W (hT.below hb) hA hc hm
    have hcv := fun W => conv_to W l
    have hat := fun W => conv_at W 5 l
    rw [weldOf_val] at *
    have HS := Lib.hid hs
    have HO := Lib.hid ho
    have HC := Lib.hid hcv
    have HA := Lib.hid hat
    clear hs ho hcv hat hT hsz
    have n3 : (l.length : Int) ≤ 6 := by omega
    generalize runesN l = q1 at *
    generalize unitsN l = q2 at *
    generalize endsN l = q3 at *
    generalize bs (headOf l) = H at *
    generalize bs (tailOf l) = T at *
    generalize hR : bs l = R at *
    by_cases h3 : l.length < 3
    · have n4 : (l.length : Int) < 3 := by omega
      rw [show min 3 l.length = l.length from by omega] at z1 z2
      go_enter Tryd.func108, Tryd.ntmps108
      go_wp2_with (go_at_call 121; refine (HS.out _).mono ?_; rintro e w1 ⟨rfl, hb⟩)
      have hbA : Below w.heap.size w w1 := (by (repeat (with_reducible first | assumption | exact bl_refl _ | refine bl_alloc ?_ | refine bl_iter ?_ | refine bl_drew ?_ | refine bl_drewN ?_ | refine bl_bytes ?_ | refine bl_set ?_ ?_ | refine bl_trans ?_ (by assumption))) <;> first | exact Nat.le_refl _ | (simp; done) | (simp; omega) | omega)
      have hBA : Blk w1 w.heap.size 36 #[.int .i64 l.length, .int .i64 q1, .int .i64 q2, .int .i64 q3, .string H, .string T] := Blk.below (by (repeat (with_reducible first | assumption | (refine Blk.new _ _ _ ?_; first | rfl | (simp; done)) | refine Blk.alloc ?_ _ | refine Blk.drew ?_ | refine Blk.other ?_ ?_ _ | refine Blk.below ?_ (by assumption))) <;> first | rfl | (simp; done) | (simp; omega) | omega) hb
      clear hb
      refine reg_begin (fun W => Below w.heap.size w W ∧ Blk W w.heap.size 36 #[.int .i64 l.length, .int .i64 q1, .int .i64 q2, .int .i64 q3, .string H, .string T]) (by kernel_rfl) (by exact ⟨(by (repeat (with_reducible first | assumption | exact bl_refl _ | refine bl_alloc ?_ | refine bl_iter ?_ | refine bl_drew ?_ | refine bl_drewN ?_ | refine bl_bytes ?_ | refine bl_set ?_ ?_ | refine bl_trans ?_ (by assumption))) <;> first | exact Nat.le_refl _ | (simp; done) | (simp; omega) | omega), hBA⟩) fun K hK hS => ?_
      refine reg_take 0 (some 45) (.bool true) rfl rfl (by kernel_rfl) (by kernel_rfl) (by kernel_rfl) (by kernel_rfl) (fun W hW => by (rfl)) hS ?_
      try simp only [Act.put, List.setIfInBounds_toArray, List.set_cons_zero, List.set_cons_succ]
      refine reg_take 1 (some 46) (.bool true) rfl rfl (by kernel_rfl) (by kernel_rfl) (by kernel_rfl) (by kernel_rfl) (fun W hW => by (rfl)) hS ?_
      try simp only [Act.put, List.setIfInBounds_toArray, List.set_cons_zero, List.set_cons_succ]
      refine reg_take 2 (some 47) (.agg #[.int .i64 l.length, .int .i64 q1, .int .i64 q2, .int .i64 q3, .string H, .string T]) (oi := { dst := some 47, op := Go.Op.load 36 (Go.Operand.tmp 1), type := 36, pos := "weld.go:71", after := #[{ on := 1, ground := Go.Ground.guard }], guard := some (1, true) }) rfl rfl (by kernel_rfl) (by kernel_rfl) (by kernel_rfl) (by kernel_rfl) (fun W hW => by (have c0 := hW.2.cell 0; have c1 := hW.2.cell 1; have c2 := hW.2.cell 2; have c3 := hW.2.cell 3; have c4 := hW.2.cell 4; have c5 := hW.2.cell 5; go_simp)) hS ?_
      try simp only [Act.put, List.setIfInBounds_toArray, List.set_cons_zero, List.set_cons_succ]
      refine reg_take 3 (some 48) (.string R) rfl rfl (by kernel_rfl) (by kernel_rfl) (by kernel_rfl) (by kernel_rfl) (fun W hW => by (rfl)) hS ?_
      try simp only [Act.put, List.setIfInBounds_toArray, List.set_cons_zero, List.set_cons_succ]
      refine reg_one 4 (oi := { dst := some 49, op := Go.Op.convert 9 41 (Go.Operand.tmp 48), type := 41, pos := "weld.go:71", after := #[{ on := 3, ground := Go.Ground.data }, { on := 1, ground := Go.Ground.guard }], guard := some (1, true) }) rfl (by kernel_rfl) (by kernel_rfl) fun K' hK' => ?_
      have hx := HC.out w1.drew; go_simp
      refine hK'.out _ _ ?_ ?_
      · exact ⟨(by (repeat (with_reducible first | assumption | exact bl_refl _ | refine bl_alloc ?_ | refine bl_iter ?_ | refine bl_drew ?_ | refine bl_drewN ?_ | refine bl_bytes ?_ | refine bl_set ?_ ?_ | refine bl_trans ?_ (by assumption))) <;> first | exact Nat.le_refl _ | (simp; done) | (simp; omega) | omega), Blk.below hBA (bl_bytes (bl_drew (bl_refl _)))⟩
      clear hK' K' hS
      intro hS
      try simp only [Act.put, List.setIfInBounds_toArray, List.set_cons_zero, List.set_cons_succ]
      refine reg_callB 5 (some 50) (.agg #[.int .i64 l.length, .int .i64 q1, .int .i64 q2, .int .i64 q3, .string H, .string T]) 60 #[.slice (some ⟨w1.heap.size, 0, none⟩) l.length (grownCap w1.drew l.length 0 5)] rfl rfl (by kernel_rfl) (by kernel_rfl) (by first | rfl | go_simp) ?_ ?_ fun w2 hR2 hS => ?_
      · exact HO.out _ _ _ hS.1 (HA.out _) (grownCap_ge _ _ _ _)
      · intro w' hR; exact ⟨bl_trans hS.1 hR, hS.2.below hR⟩
      try simp only [Act.put, List.setIfInBounds_toArray, List.set_cons_zero, List.set_cons_succ]
      refine reg_take 6 (some 51) (.bool true) (oi := { dst := some 51, op := Go.Op.binOp Go.BinOp.eql 36 (Go.Operand.tmp 47) (Go.Operand.tmp 50) 36, type := 4, pos := "weld.go:71", after := #[{ on := 2, ground := Go.Ground.data }, { on := 5, ground := Go.Ground.data }, { on := 1, ground := Go.Ground.guard }], guard := some (1, true) }) rfl rfl (by kernel_rfl) (by kernel_rfl) (by kernel_rfl) (by kernel_rfl) (fun W hW => by (first | rfl | go_simp)) hS ?_
      try simp only [Act.put, List.setIfInBounds_toArray, List.set_cons_zero, List.set_cons_succ]
      refine reg_take 7 (some 52) (.bool true) (oi := { dst := some 52, op := Go.Op.pick (Go.Operand.tmp 46) (Go.Operand.tmp 51) (Go.Operand.const (Go.Value.bool false)), type := 4, pos := "weld.go:71", after := #[{ on := 1, ground := Go.Ground.data }, { on := 6, ground := Go.Ground.data }], guard := none }) rfl rfl (by kernel_rfl) (by kernel_rfl) (by kernel_rfl) (by kernel_rfl) (fun W hW => by (first | rfl | go_simp)) hS ?_
      try simp only [Act.put, List.setIfInBounds_toArray, List.set_cons_zero, List.set_cons_succ]
      refine reg_take 8 (some 2) (.bool true) rfl rfl (by kernel_rfl) (by kernel_rfl) (by kernel_rfl) (by kernel_rfl) (fun W hW => by (rfl)) hS ?_
      try simp only [Act.put, List.setIfInBounds_toArray, List.set_cons_zero, List.set_cons_succ]
      refine reg_done (by kernel_rfl) (hK.out _ _ ?_) _
      clear hK K
      go_wp2_with fail
      go_ret
      exact ⟨rfl, (by (repeat (with_reducible first | assumption | exact bl_refl _ | refine bl_alloc ?_ | refine bl_iter ?_ | refine bl_drew ?_ | refine bl_drewN ?_ | refine bl_bytes ?_ | refine bl_set ?_ ?_ | refine bl_trans ?_ (by assumption))) <;> first | exact Nat.le_refl _ | (simp; done) | (simp; omega) | omega)⟩
    · have n4 : ¬ (l.length : Int) < 3 := by omega
      rw [show min 3 l.length = 3 from by omega] at z1 z2
      go_enter Tryd.func108, Tryd.ntmps108
      go_wp2_with (go_at_call 121; refine (HS.out _).mono ?_; rintro e w1 ⟨rfl, hb⟩)
      have hbA : Below w.heap.size w w1 := (by (repeat (with_reducible first | assumption | exact bl_refl _ | refine bl_alloc ?_ | refine bl_iter ?_ | refine bl_drew ?_ | refine bl_drewN ?_ | refine bl_bytes ?_ | refine bl_set ?_ ?_ | refine bl_trans ?_ (by assumption))) <;> first | exact Nat.le_refl _ | (simp; done) | (simp; omega) | omega)
      have hBA : Blk w1 w.heap.size 36 #[.int .i64 l.length, .int .i64 q1, .int .i64 q2, .int .i64 q3, .string H, .string T] := Blk.below (by (repeat (with_reducible first | assumption | (refine Blk.new _ _ _ ?_; first | rfl | (simp; done)) | refine Blk.alloc ?_ _ | refine Blk.drew ?_ | refine Blk.other ?_ ?_ _ | refine Blk.below ?_ (by assumption))) <;> first | rfl | (simp; done) | (simp; omega) | omega) hb
      clear hb
      refine reg_begin (fun W => Below w.heap.size w W ∧ Blk W w.heap.size 36 #[.int .i64 l.length, .int .i64 q1, .int .i64 q2, .int .i64 q3, .string H, .string T]) (by kernel_rfl) (by exact ⟨(by (repeat (with_reducible first | assumption | exact bl_refl _ | refine bl_alloc ?_ | refine bl_iter ?_ | refine bl_drew ?_ | refine bl_drewN ?_ | refine bl_bytes ?_ | refine bl_set ?_ ?_ | refine bl_trans ?_ (by assumption))) <;> first | exact Nat.le_refl _ | (simp; done) | (simp; omega) | omega), hBA⟩) fun K hK hS => ?_
      refine reg_take 0 (some 45) (.bool true) rfl rfl (by kernel_rfl) (by kernel_rfl) (by kernel_rfl) (by kernel_rfl) (fun W hW => by (rfl)) hS ?_
      try simp only [Act.put, List.setIfInBounds_toArray, List.set_cons_zero, List.set_cons_succ]
      refine reg_take 1 (some 46) (.bool true) rfl rfl (by kernel_rfl) (by kernel_rfl) (by kernel_rfl) (by kernel_rfl) (fun W hW => by (rfl)) hS ?_
      try simp only [Act.put, List.setIfInBounds_toArray, List.set_cons_zero, List.set_cons_succ]
      refine reg_take 2 (some 47) (.agg #[.int .i64 l.length, .int .i64 q1, .int .i64 q2, .int .i64 q3, .string H, .string T]) (oi := { dst := some 47, op := Go.Op.load 36 (Go.Operand.tmp 1), type := 36, pos := "weld.go:71", after := #[{ on := 1, ground := Go.Ground.guard }], guard := some (1, true) }) rfl rfl (by kernel_rfl) (by kernel_rfl) (by kernel_rfl) (by kernel_rfl) (fun W hW => by (have c0 := hW.2.cell 0; have c1 := hW.2.cell 1; have c2 := hW.2.cell 2; have c3 := hW.2.cell 3; have c4 := hW.2.cell 4; have c5 := hW.2.cell 5; go_simp)) hS ?_
      try simp only [Act.put, List.setIfInBounds_toArray, List.set_cons_zero, List.set_cons_succ]
      refine reg_take 3 (some 48) (.string R) rfl rfl (by kernel_rfl) (by kernel_rfl) (by kernel_rfl) (by kernel_rfl) (fun W hW => by (rfl)) hS ?_
      try simp only [Act.put, List.setIfInBounds_toArray, List.set_cons_zero, List.set_cons_succ]
      refine reg_one 4 (oi := { dst := some 49, op := Go.Op.convert 9 41 (Go.Operand.tmp 48), type := 41, pos := "weld.go:71", after := #[{ on := 3, ground := Go.Ground.data }, { on := 1, ground := Go.Ground.guard }], guard := some (1, true) }) rfl (by kernel_rfl) (by kernel_rfl) fun K' hK' => ?_
      have hx := HC.out w1.drew; go_simp
      refine hK'.out _ _ ?_ ?_
      · exact ⟨(by (repeat (with_reducible first | assumption | exact bl_refl _ | refine bl_alloc ?_ | refine bl_iter ?_ | refine bl_drew ?_ | refine bl_drewN ?_ | refine bl_bytes ?_ | refine bl_set ?_ ?_ | refine bl_trans ?_ (by assumption))) <;> first | exact Nat.le_refl _ | (simp; done) | (simp; omega) | omega), Blk.below hBA (bl_bytes (bl_drew (bl_refl _)))⟩
      clear hK' K' hS
      intro hS
      try simp only [Act.put, List.setIfInBounds_toArray, List.set_cons_zero, List.set_cons_succ]
      refine reg_callB 5 (some 50) (.agg #[.int .i64 l.length, .int .i64 q1, .int .i64 q2, .int .i64 q3, .string H, .string T]) 60 #[.slice (some ⟨w1.heap.size, 0, none⟩) l.length (grownCap w1.drew l.length 0 5)] rfl rfl (by kernel_rfl) (by kernel_rfl) (by first | rfl | go_simp) ?_ ?_ fun w2 hR2 hS => ?_
      · exact HO.out _ _ _ hS.1 (HA.out _) (grownCap_ge _ _ _ _)
      · intro w' hR; exact ⟨bl_trans hS.1 hR, hS.2.below hR⟩
      try simp only [Act.put, List.setIfInBounds_toArray, List.set_cons_zero, List.set_cons_succ]
      refine reg_take 6 (some 51) (.bool true) (oi := { dst := some 51, op := Go.Op.binOp Go.BinOp.eql 36 (Go.Operand.tmp 47) (Go.Operand.tmp 50) 36, type := 4, pos := "weld.go:71", after := #[{ on := 2, ground := Go.Ground.data }, { on := 5, ground := Go.Ground.data }, { on := 1, ground := Go.Ground.guard }], guard := some (1, true) }) rfl rfl (by kernel_rfl) (by kernel_rfl) (by kernel_rfl) (by kernel_rfl) (fun W hW => by (first | rfl | go_simp)) hS ?_
      try simp only [Act.put, List.setIfInBounds_toArray, List.set_cons_zero, List.set_cons_succ]
      refine reg_take 7 (some 52) (.bool true) (oi := { dst := some 52, op := Go.Op.pick (Go.Operand.tmp 46) (Go.Operand.tmp 51) (Go.Operand.const (Go.Value.bool false)), type := 4, pos := "weld.go:71", after := #[{ on := 1, ground := Go.Ground.data }, { on := 6, ground := Go.Ground.data }], guard := none }) rfl rfl (by kernel_rfl) (by kernel_rfl) (by kernel_rfl) (by kernel_rfl) (fun W hW => by (first | rfl | go_simp)) hS ?_
      try simp only [Act.put, List.setIfInBounds_toArray, List.set_cons_zero, List.set_cons_succ]
      refine reg_take 8 (some 2) (.bool true) rfl rfl (by kernel_rfl) (by kernel_rfl) (by kernel_rfl) (by kernel_rfl) (fun W hW => by (rfl)) hS ?_
      try simp only [Act.put, List.setIfInBounds_toArray, List.set_cons_zero, List.set_cons_succ]
      refine reg_done (by kernel_rfl) (hK.out _ _ ?_) _
      clear hK K
      go_wp2_with fail
      go_ret
      exact ⟨rfl, (by (repeat (with_reducible first | assumption | exact bl_refl _ | refine bl_alloc ?_ | refine bl_iter ?_ | refine bl_drew ?_ | refine bl_drewN ?_ | refine bl_bytes ?_ | refine bl_set ?_ ?_ | refine bl_trans ?_ (by assumption))) <;> first | exact Nat.le_refl _ | (simp; done) | (simp; omega) | omega)⟩
  · have n3 : ¬ (l.length : Int) ≤ 6 := by omega
    have n4 : ¬ (l.length : Int) < 3 := by omega
    rw [show min 3 l.length = 3 from by omega] at z1 z2
    rw [weldOf_val]
    clear hT
    generalize runesN l = q1 at *
    generalize unitsN l = q2 at *
    generalize endsN l = q3 at *
    generalize bs (headOf l) = H at *
    generalize bs (tailOf l) = T at *
    obtain ⟨s1, s2, s3, s4, s5, s6, s7⟩ := hsz
    generalize hf : q2 - q1 = f at *
    generalize hg : q1 - f = g at *
    generalize hf4 : 4 * f = f4 at *
    generalize hlf : (l.length : Int) - f4 = lf at *
    generalize hg3 : 3 * g = g3 at *
    have w1 : IntKind.i64.wrap (q2 - q1) = f := (IntWalk.i64_in (q2 - q1) (by omega)).trans hf
    have w2 : IntKind.i64.wrap (q1 - f) = g := (IntWalk.i64_in (q1 - f) (by omega)).trans hg
    have w3 : IntKind.i64.wrap (4 * f) = f4 := (IntWalk.i64_in (4 * f) (by omega)).trans hf4
    have w4 : IntKind.i64.wrap ((l.length : Int) - f4) = lf := (IntWalk.i64_in ((l.length : Int) - f4) (by omega)).trans hlf
    have w5 : IntKind.i64.wrap (3 * g) = g3 := (IntWalk.i64_in (3 * g) (by omega)).trans hg3
    have t1 : (0 : Int) ≤ q1 := by omega
    have t2 : q1 ≤ (l.length : Int) := by omega
    have t3 : (0 : Int) ≤ q2 := by omega
    have t4 : q2 ≤ (l.length : Int) := by omega
    have t5 : (0 : Int) ≤ f := by omega
    have t6 : (0 : Int) ≤ g := by omega
    have t7 : g ≤ lf := by omega
    have t8 : lf ≤ g3 := by omega
    clear hf hg hf4 hlf hg3 s1 s2 s3 s4 s5 h6
    go_enter Tryd.func108, Tryd.ntmps108
    go_wp2_with fail
    go_ret
    exact ⟨rfl, (by (repeat (with_reducible first | assumption | exact bl_refl _ | refine bl_alloc ?_ | refine bl_iter ?_ | refine bl_drew ?_ | refine bl_drewN ?_ | refine bl_bytes ?_ | refine bl_set ?_ ?_ | refine bl_trans ?_ (by assumption))) <;> first | exact Nat.le_refl _ | (simp; done) | (simp; omega) | omega)⟩
end Go.Proofs.YtliphfgiaioebaaDoor
