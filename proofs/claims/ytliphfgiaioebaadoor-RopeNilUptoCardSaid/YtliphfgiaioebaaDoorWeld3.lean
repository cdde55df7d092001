/-
  Package weld: short, Valid.
-/
import Derived.Test.YtliphfgiaioebaaDoorWeld2
namespace Go.Proofs.YtliphfgiaioebaaDoor
set_option linter.unusedVariables false
set_option linter.unusedSimpArgs false
open Go.RowKit

theorem weldOf_val (l : List UInt8) : (weldOf l).val = .agg #[.int .i64 l.length, .int .i64 (runesN l), .int .i64 (unitsN l), .int .i64 (endsN l), .string (bs (headOf l)), .string (bs (tailOf l))] := by
  rw [weldOf_eq]; rfl
set_option maxRecDepth 100000 in
set_option maxHeartbeats 4000000 in
theorem short_any (l : List UInt8) (h6 : l.length ≤ 6) (w : World) :
    Calls Tryd.prog 121 #[(weldOf l).val] w fun e w' => e = .returned (.tuple #[.string (bs l), .bool true]) ∧ Below w.heap.size w w' := by
  rw [weldOf_val]
  generalize runesN l = q1
  generalize unitsN l = q2
  generalize endsN l = q3
  obtain ⟨o, ho⟩ : ∃ o, o + l.length = (headOf l).length + (tailOf l).length := ⟨(headOf l).length + (tailOf l).length - l.length, by rw [headOf_len, tailOf_len]; omega⟩
  obtain ⟨s1, s2⟩ := short_whole l h6 o ho
  have hol : o ≤ (headOf l).length := by rw [headOf_len, tailOf_len] at ho; rw [headOf_len]; omega
  have hot : o ≤ (tailOf l).length := by rw [headOf_len, tailOf_len] at ho; rw [tailOf_len]; omega
  have hh3 : (headOf l).length ≤ 3 := by rw [headOf_len]; omega
  have ht3 : (tailOf l).length ≤ 3 := by rw [tailOf_len]; omega
  generalize headOf l = h at *
  generalize tailOf l = t at *
  obtain ⟨m, hm⟩ : ∃ m, h.length = m + o := ⟨h.length - o, by omega⟩
  rw [hm, show m + o - o = m from by omega] at s1
  have x1 := bs_extract h m h.length
  rw [List.take_of_length_le (Nat.le_refl _)] at x1
  have x2 := bs_extract t 0 o
  rw [List.drop_zero] at x2
  have x3 := bs_extract t o t.length
  rw [List.take_of_length_le (Nat.le_refl _)] at x3
  rw [s1] at x1
  have x4 := bs_append h (t.drop o)
  rw [s2] at x4
  rw [← x3] at x4
  clear x3 s1 s2
  generalize bs (t.take o) = C at *
  have z1 := bs_size h
  have z2 := bs_size t
  have hn6 : (l.length : Int) ≤ 6 := by omega
  generalize bs l = R at *
  generalize l.length = n at *
  generalize bs h = H at *
  generalize bs t = T at *
  generalize h.length = hl at *
  generalize t.length = tl' at *
  rw [hm] at x1
  rw [← hm] at x1
  have X1 := Lib.hid x1
  have X2 := Lib.hid x2
  have X4 := Lib.hid x4
  clear x1 x2 x4
  have w1 : IntKind.i64.wrap ((hl : Int) + tl' ) = (hl : Int) + tl' := IntWalk.i64_in _ (by omega)
  have w2 : IntKind.i64.wrap ((hl : Int) + tl' - n) = o := by rw [IntWalk.i64_in _ (by omega)]; omega
  have w3 : IntKind.i64.wrap ((hl : Int) - o) = m := by rw [IntWalk.i64_in _ (by omega)]; omega
  have c1 : (0 : Int) ≤ (m : Int) := by omega
  have c2 : (m : Int) ≤ (hl : Int) := by omega
  have c3 : (0 : Int) ≤ (o : Int) := by omega
  have c4 : (o : Int) ≤ (tl' : Int) := by omega
  have HM := Lib.hid hm
  have HB := Lib.hid (show hl + (tl' - o) ≤ 9223372036854775807 by omega)
  clear h6 hn6 hh3 hm ho hol hot
  go_enter Tryd.func121, Tryd.ntmps121
  go_wp2_with fail
  generalize hWA : w.alloc _ = WA
  have hbA : Below w.heap.size w WA := by rw [← hWA]; exact (by (repeat (with_reducible first | assumption | exact bl_refl _ | refine bl_alloc ?_ | refine bl_iter ?_ | refine bl_drew ?_ | refine bl_drewN ?_ | refine bl_bytes ?_ | refine bl_set ?_ ?_ | refine bl_trans ?_ (by assumption))) <;> first | exact Nat.le_refl _ | (simp; done) | (simp; omega) | omega)
  have hBA : Blk WA w.heap.size 36 #[.int .i64 n, .int .i64 q1, .int .i64 q2, .int .i64 q3, .string H, .string T] := by rw [← hWA]; exact Blk.new w _ _ rfl
  clear hWA
  refine reg_begin (fun W => Below w.heap.size w W ∧ Blk W w.heap.size 36 #[.int .i64 n, .int .i64 q1, .int .i64 q2, .int .i64 q3, .string H, .string T]) (by kernel_rfl) (by exact ⟨(by (repeat (with_reducible first | assumption | exact bl_refl _ | refine bl_alloc ?_ | refine bl_iter ?_ | refine bl_drew ?_ | refine bl_drewN ?_ | refine bl_bytes ?_ | refine bl_set ?_ ?_ | refine bl_trans ?_ (by assumption))) <;> first | exact Nat.le_refl _ | (simp; done) | (simp; omega) | omega), hBA⟩) fun K hK hS => ?_
  refine reg_take 0 (some 18) (.pointer (some ⟨w.heap.size, 4, none⟩)) rfl rfl (by kernel_rfl) (by kernel_rfl) (by kernel_rfl) (by kernel_rfl) (fun W hW => by (rfl)) hS ?_
  try simp only [Act.put, List.setIfInBounds_toArray, List.set_cons_zero, List.set_cons_succ]
  refine reg_take 1 (some 19) (.string H) (oi := { dst := some 19, op := Go.Op.load 9 (Go.Operand.tmp 18), type := 9, pos := "weld.go:57", after := #[{ on := 0, ground := Go.Ground.data }], guard := none }) rfl rfl (by kernel_rfl) (by kernel_rfl) (by kernel_rfl) (by kernel_rfl) (fun W hW => by (have hx := hW.2.cell 4; go_simp)) hS ?_
  try simp only [Act.put, List.setIfInBounds_toArray, List.set_cons_zero, List.set_cons_succ]
  refine reg_take 2 (some 20) (.pointer (some ⟨w.heap.size, 4, none⟩)) rfl rfl (by kernel_rfl) (by kernel_rfl) (by kernel_rfl) (by kernel_rfl) (fun W hW => by (rfl)) hS ?_
  try simp only [Act.put, List.setIfInBounds_toArray, List.set_cons_zero, List.set_cons_succ]
  refine reg_take 3 (some 21) (.string H) (oi := { dst := some 21, op := Go.Op.load 9 (Go.Operand.tmp 20), type := 9, pos := "weld.go:57", after := #[{ on := 2, ground := Go.Ground.data }], guard := none }) rfl rfl (by kernel_rfl) (by kernel_rfl) (by kernel_rfl) (by kernel_rfl) (fun W hW => by (have hx := hW.2.cell 4; go_simp)) hS ?_
  try simp only [Act.put, List.setIfInBounds_toArray, List.set_cons_zero, List.set_cons_succ]
  refine reg_take 4 (some 22) (.int .i64 hl) (oi := { dst := some 22, op := Go.Op.call { callee := Go.Callee.builtin Go.Builtin.len, args := #[Go.Operand.tmp 21], argTypes := #[9] }, type := 3, pos := "weld.go:57", after := #[{ on := 3, ground := Go.Ground.data }], guard := none }) rfl rfl (by kernel_rfl) (by kernel_rfl) (by kernel_rfl) (by kernel_rfl) (fun W hW => by (first | rfl | go_simp)) hS ?_
  try simp only [Act.put, List.setIfInBounds_toArray, List.set_cons_zero, List.set_cons_succ]
  refine reg_take 5 (some 23) (.int .i64 o) rfl rfl (by kernel_rfl) (by kernel_rfl) (by kernel_rfl) (by kernel_rfl) (fun W hW => by (rfl)) hS ?_
  try simp only [Act.put, List.setIfInBounds_toArray, List.set_cons_zero, List.set_cons_succ]
  refine reg_take 6 (some 24) (.int .i64 m) (oi := { dst := some 24, op := Go.Op.binOp Go.BinOp.sub 3 (Go.Operand.tmp 22) (Go.Operand.tmp 23) 3, type := 3, pos := "weld.go:57", after := #[{ on := 4, ground := Go.Ground.data }, { on := 5, ground := Go.Ground.data }], guard := none }) rfl rfl (by kernel_rfl) (by kernel_rfl) (by kernel_rfl) (by kernel_rfl) (fun W hW => by (first | rfl | go_simp)) hS ?_
  try simp only [Act.put, List.setIfInBounds_toArray, List.set_cons_zero, List.set_cons_succ]
  refine reg_take 7 (some 25) (.string C) (oi := { dst := some 25, op := Go.Op.slice 9 (Go.Operand.tmp 19) (some (Go.Operand.tmp 24)) none none, type := 9, pos := "weld.go:57", after := #[{ on := 1, ground := Go.Ground.data }, { on := 6, ground := Go.Ground.data }], guard := none }) rfl rfl (by kernel_rfl) (by kernel_rfl) (by kernel_rfl) (by kernel_rfl) (fun W hW => by (have hx := X1.out; go_simp)) hS ?_
  try simp only [Act.put, List.setIfInBounds_toArray, List.set_cons_zero, List.set_cons_succ]
  refine reg_take 8 (some 26) (.pointer (some ⟨w.heap.size, 5, none⟩)) rfl rfl (by kernel_rfl) (by kernel_rfl) (by kernel_rfl) (by kernel_rfl) (fun W hW => by (rfl)) hS ?_
  try simp only [Act.put, List.setIfInBounds_toArray, List.set_cons_zero, List.set_cons_succ]
  refine reg_take 9 (some 27) (.string T) (oi := { dst := some 27, op := Go.Op.load 9 (Go.Operand.tmp 26), type := 9, pos := "weld.go:57", after := #[{ on := 8, ground := Go.Ground.data }], guard := none }) rfl rfl (by kernel_rfl) (by kernel_rfl) (by kernel_rfl) (by kernel_rfl) (fun W hW => by (have hx := hW.2.cell 5; go_simp)) hS ?_
  try simp only [Act.put, List.setIfInBounds_toArray, List.set_cons_zero, List.set_cons_succ]
  refine reg_take 10 (some 28) (.int .i64 o) rfl rfl (by kernel_rfl) (by kernel_rfl) (by kernel_rfl) (by kernel_rfl) (fun W hW => by (rfl)) hS ?_
  try simp only [Act.put, List.setIfInBounds_toArray, List.set_cons_zero, List.set_cons_succ]
  refine reg_take 11 (some 29) (.string C) (oi := { dst := some 29, op := Go.Op.slice 9 (Go.Operand.tmp 27) none (some (Go.Operand.tmp 28)) none, type := 9, pos := "weld.go:57", after := #[{ on := 9, ground := Go.Ground.data }, { on := 10, ground := Go.Ground.data }], guard := none }) rfl rfl (by kernel_rfl) (by kernel_rfl) (by kernel_rfl) (by kernel_rfl) (fun W hW => by (have hx := X2.out; go_simp)) hS ?_
  try simp only [Act.put, List.setIfInBounds_toArray, List.set_cons_zero, List.set_cons_succ]
  refine reg_take 12 (some 30) (.bool false) (oi := { dst := some 30, op := Go.Op.binOp Go.BinOp.neq 9 (Go.Operand.tmp 25) (Go.Operand.tmp 29) 9, type := 4, pos := "weld.go:57", after := #[{ on := 7, ground := Go.Ground.data }, { on := 11, ground := Go.Ground.data }], guard := none }) rfl rfl (by kernel_rfl) (by kernel_rfl) (by kernel_rfl) (by kernel_rfl) (fun W hW => by (first | rfl | go_simp)) hS ?_
  try simp only [Act.put, List.setIfInBounds_toArray, List.set_cons_zero, List.set_cons_succ]
  refine reg_done (by kernel_rfl) (hK.out _ _ ?_) _
  clear hK K
  go_wp2_with fail
  refine reg_begin (fun W => Below w.heap.size w W ∧ Blk W w.heap.size 36 #[.int .i64 n, .int .i64 q1, .int .i64 q2, .int .i64 q3, .string H, .string T]) (by kernel_rfl) (by exact ⟨(by (repeat (with_reducible first | assumption | exact bl_refl _ | refine bl_alloc ?_ | refine bl_iter ?_ | refine bl_drew ?_ | refine bl_drewN ?_ | refine bl_bytes ?_ | refine bl_set ?_ ?_ | refine bl_trans ?_ (by assumption))) <;> first | exact Nat.le_refl _ | (simp; done) | (simp; omega) | omega), hBA⟩) fun K hK hS => ?_
  refine reg_take 0 (some 31) (.pointer (some ⟨w.heap.size, 4, none⟩)) rfl rfl (by kernel_rfl) (by kernel_rfl) (by kernel_rfl) (by kernel_rfl) (fun W hW => by (rfl)) hS ?_
  try simp only [Act.put, List.setIfInBounds_toArray, List.set_cons_zero, List.set_cons_succ]
  refine reg_take 1 (some 32) (.string H) (oi := { dst := some 32, op := Go.Op.load 9 (Go.Operand.tmp 31), type := 9, pos := "weld.go:60", after := #[{ on := 0, ground := Go.Ground.data }], guard := none }) rfl rfl (by kernel_rfl) (by kernel_rfl) (by kernel_rfl) (by kernel_rfl) (fun W hW => by (have hx := hW.2.cell 4; go_simp)) hS ?_
  try simp only [Act.put, List.setIfInBounds_toArray, List.set_cons_zero, List.set_cons_succ]
  refine reg_take 2 (some 33) (.pointer (some ⟨w.heap.size, 5, none⟩)) rfl rfl (by kernel_rfl) (by kernel_rfl) (by kernel_rfl) (by kernel_rfl) (fun W hW => by (rfl)) hS ?_
  try simp only [Act.put, List.setIfInBounds_toArray, List.set_cons_zero, List.set_cons_succ]
  refine reg_take 3 (some 34) (.string T) (oi := { dst := some 34, op := Go.Op.load 9 (Go.Operand.tmp 33), type := 9, pos := "weld.go:60", after := #[{ on := 2, ground := Go.Ground.data }], guard := none }) rfl rfl (by kernel_rfl) (by kernel_rfl) (by kernel_rfl) (by kernel_rfl) (fun W hW => by (have hx := hW.2.cell 5; go_simp)) hS ?_
  try simp only [Act.put, List.setIfInBounds_toArray, List.set_cons_zero, List.set_cons_succ]
  refine reg_take 4 (some 35) (.int .i64 o) rfl rfl (by kernel_rfl) (by kernel_rfl) (by kernel_rfl) (by kernel_rfl) (fun W hW => by (rfl)) hS ?_
  try simp only [Act.put, List.setIfInBounds_toArray, List.set_cons_zero, List.set_cons_succ]
  refine reg_take 5 (some 36) (.string (T.extract o tl')) (oi := { dst := some 36, op := Go.Op.slice 9 (Go.Operand.tmp 34) (some (Go.Operand.tmp 35)) none none, type := 9, pos := "weld.go:60", after := #[{ on := 3, ground := Go.Ground.data }, { on := 4, ground := Go.Ground.data }], guard := none }) rfl rfl (by kernel_rfl) (by kernel_rfl) (by kernel_rfl) (by kernel_rfl) (fun W hW => by (first | rfl | go_simp)) hS ?_
  try simp only [Act.put, List.setIfInBounds_toArray, List.set_cons_zero, List.set_cons_succ]
  refine reg_take 6 (some 37) (.string R) (oi := { dst := some 37, op := Go.Op.binOp Go.BinOp.add 9 (Go.Operand.tmp 32) (Go.Operand.tmp 36) 9, type := 9, pos := "weld.go:60", after := #[{ on := 1, ground := Go.Ground.data }, { on := 5, ground := Go.Ground.data }], guard := none }) rfl rfl (by kernel_rfl) (by kernel_rfl) (by kernel_rfl) (by kernel_rfl) (fun W hW => by (have hx := X4.out; have c5 := HB.out; go_simp)) hS ?_
  try simp only [Act.put, List.setIfInBounds_toArray, List.set_cons_zero, List.set_cons_succ]
  refine reg_take 7 (some 2) (.string R) rfl rfl (by kernel_rfl) (by kernel_rfl) (by kernel_rfl) (by kernel_rfl) (fun W hW => by (rfl)) hS ?_
  try simp only [Act.put, List.setIfInBounds_toArray, List.set_cons_zero, List.set_cons_succ]
  refine reg_take 8 (some 3) (.bool true) (oi := { dst := some 3, op := Go.Op.assign (Go.Operand.const (Go.Value.bool true)), type := 4, pos := "weld.go:60", after := #[{ on := 7, ground := Go.Ground.chain }, { on := 0, ground := Go.Ground.phase }, { on := 1, ground := Go.Ground.phase }, { on := 2, ground := Go.Ground.phase }, { on := 3, ground := Go.Ground.phase }, { on := 4, ground := Go.Ground.phase }, { on := 5, ground := Go.Ground.phase }, { on := 6, ground := Go.Ground.phase }, { on := 7, ground := Go.Ground.phase }], guard := none }) rfl rfl (by kernel_rfl) (by kernel_rfl) (by kernel_rfl) (by kernel_rfl) (fun W hW => by (first | rfl | go_simp)) hS ?_
  try simp only [Act.put, List.setIfInBounds_toArray, List.set_cons_zero, List.set_cons_succ]
  refine reg_done (by kernel_rfl) (hK.out _ _ ?_) _
  clear hK K
  go_wp2_with fail
  go_ret2
  exact ⟨rfl, (by (repeat (with_reducible first | assumption | exact bl_refl _ | refine bl_alloc ?_ | refine bl_iter ?_ | refine bl_drew ?_ | refine bl_drewN ?_ | refine bl_bytes ?_ | refine bl_set ?_ ?_ | refine bl_trans ?_ (by assumption))) <;> first | exact Nat.le_refl _ | (simp; done) | (simp; omega) | omega)⟩

/-- the bytes of a string -/
theorem conv_to (w : World) (l : List UInt8) : (convert 9 41 (.string (bs l))).run Tryd.prog w = .ok (.slice (some ⟨w.heap.size, 0, none⟩) l.length (grownCap w l.length 0 5)) (Lib.bytesWorld w 5 (bs l)) := by
  have := Lib.run_convert_string_bytes (P := Tryd.prog) w 9 41 5 (bs l) (u := .string) (by kernel_rfl) (by kernel_rfl) (by kernel_rfl)
  rwa [bs_size] at this
theorem conv_at (w : World) (e : TypeId) (l : List UInt8) : BytesAt (Lib.bytesWorld w e (bs l)) (some ⟨w.heap.size, 0, none⟩) l := fun _ => by
  refine ⟨w.heap.size, 0, rfl, fun i hi => ?_⟩
  have := Lib.bytesWorld_cell w e (bs l) i (by rw [bs_size]; exact hi)
  rw [Nat.zero_add, this, bs_toList]; rfl

set_option maxRecDepth 100000 in
set_option maxHeartbeats 4000000 in
theorem Valid_any (l : List UInt8) (hm : l.length ≤ 268435456) (w : World) (hT : Tabs w) (hw0 : 0 < w.heap.size) :
    Calls Tryd.prog 108 #[(weldOf l).val] w fun e w' => e = .returned (.bool true) ∧ Below w.heap.size w w' := by
  have hsz := sizes_bounds l
  have z1 := bs_size (headOf l)
  have z2 := bs_size (tailOf l)
  rw [headOf_len] at z1
  rw [tailOf_len] at z2
  have n1 : ¬ ((l.length : Int) < 0) := by omega
  have n2 : ¬ ((268435456 : Int) < (l.length : Int)) := by omega
  by_cases h6 : l.length ≤ 6
  · have hs := fun W => short_any l h6 W
    have ho := fun W A c (hb : Below w.heap.size w W) hA hc => Of_any A c l W (hT.below hb) hA hc hm
    have hcv := fun W => conv_to W l
    have hat := fun W => conv_at W 5 l
    rw [weldOf_val] at *
    have HS := Lib.hid hs
    have HO := Lib.hid ho
    have HC := Lib.hid hcv
    have HA := Lib.hid hat
    clear hs ho hcv hat hT hsz
    have n3 : (l.length : Int) ≤ 6 := by omega
    generalize runesN l = q1 at *
    generalize unitsN l = q2 at *
    generalize endsN l = q3 at *
    generalize bs (headOf l) = H at *
    generalize bs (tailOf l) = T at *
    generalize hR : bs l = R at *
    by_cases h3 : l.length < 3
    · have n4 : (l.length : Int) < 3 := by omega
      rw [show min 3 l.length = l.length from by omega] at z1 z2
      go_enter Tryd.func108, Tryd.ntmps108
      go_wp2_with (go_at_call 121; refine (HS.out _).mono ?_; rintro e w1 ⟨rfl, hb⟩)
      have hbA : Below w.heap.size w w1 := (by (repeat (with_reducible first | assumption | exact bl_refl _ | refine bl_alloc ?_ | refine bl_iter ?_ | refine bl_drew ?_ | refine bl_drewN ?_ | refine bl_bytes ?_ | refine bl_set ?_ ?_ | refine bl_trans ?_ (by assumption))) <;> first | exact Nat.le_refl _ | (simp; done) | (simp; omega) | omega)
      have hBA : Blk w1 w.heap.size 36 #[.int .i64 l.length, .int .i64 q1, .int .i64 q2, .int .i64 q3, .string H, .string T] := Blk.below (by (repeat (with_reducible first | assumption | (refine Blk.new _ _ _ ?_; first | rfl | (simp; done)) | refine Blk.alloc ?_ _ | refine Blk.drew ?_ | refine Blk.other ?_ ?_ _ | refine Blk.below ?_ (by assumption))) <;> first | rfl | (simp; done) | (simp; omega) | omega) hb
      clear hb
      refine reg_begin (fun W => Below w.heap.size w W ∧ Blk W w.heap.size 36 #[.int .i64 l.length, .int .i64 q1, .int .i64 q2, .int .i64 q3, .string H, .string T]) (by kernel_rfl) (by exact ⟨(by (repeat (with_reducible first | assumption | exact bl_refl _ | refine bl_alloc ?_ | refine bl_iter ?_ | refine bl_drew ?_ | refine bl_drewN ?_ | refine bl_bytes ?_ | refine bl_set ?_ ?_ | refine bl_trans ?_ (by assumption))) <;> first | exact Nat.le_refl _ | (simp; done) | (simp; omega) | omega), hBA⟩) fun K hK hS => ?_
      refine reg_take 0 (some 45) (.bool true) rfl rfl (by kernel_rfl) (by kernel_rfl) (by kernel_rfl) (by kernel_rfl) (fun W hW => by (rfl)) hS ?_
      try simp only [Act.put, List.setIfInBounds_toArray, List.set_cons_zero, List.set_cons_succ]
      refine reg_take 1 (some 46) (.bool true) rfl rfl (by kernel_rfl) (by kernel_rfl) (by kernel_rfl) (by kernel_rfl) (fun W hW => by (rfl)) hS ?_
      try simp only [Act.put, List.setIfInBounds_toArray, List.set_cons_zero, List.set_cons_succ]
      refine reg_take 2 (some 47) (.agg #[.int .i64 l.length, .int .i64 q1, .int .i64 q2, .int .i64 q3, .string H, .string T]) (oi := { dst := some 47, op := Go.Op.load 36 (Go.Operand.tmp 1), type := 36, pos := "weld.go:71", after := #[{ on := 1, ground := Go.Ground.guard }], guard := some (1, true) }) rfl rfl (by kernel_rfl) (by kernel_rfl) (by kernel_rfl) (by kernel_rfl) (fun W hW => by (have c0 := hW.2.cell 0; have c1 := hW.2.cell 1; have c2 := hW.2.cell 2; have c3 := hW.2.cell 3; have c4 := hW.2.cell 4; have c5 := hW.2.cell 5; go_simp)) hS ?_
      try simp only [Act.put, List.setIfInBounds_toArray, List.set_cons_zero, List.set_cons_succ]
      refine reg_take 3 (some 48) (.string R) rfl rfl (by kernel_rfl) (by kernel_rfl) (by kernel_rfl) (by kernel_rfl) (fun W hW => by (rfl)) hS ?_
      try simp only [Act.put, List.setIfInBounds_toArray, List.set_cons_zero, List.set_cons_succ]
      refine reg_one 4 (oi := { dst := some 49, op := Go.Op.convert 9 41 (Go.Operand.tmp 48), type := 41, pos := "weld.go:71", after := #[{ on := 3, ground := Go.Ground.data }, { on := 1, ground := Go.Ground.guard }], guard := some (1, true) }) rfl (by kernel_rfl) (by kernel_rfl) fun K' hK' => ?_
      have hx := HC.out w1.drew; go_simp
      refine hK'.out _ _ ?_ ?_
      · exact ⟨(by (repeat (with_reducible first | assumption | exact bl_refl _ | refine bl_alloc ?_ | refine bl_iter ?_ | refine bl_drew ?_ | refine bl_drewN ?_ | refine bl_bytes ?_ | refine bl_set ?_ ?_ | refine bl_trans ?_ (by assumption))) <;> first | exact Nat.le_refl _ | (simp; done) | (simp; omega) | omega), Blk.below hBA (bl_bytes (bl_drew (bl_refl _)))⟩
      clear hK' K' hS
      intro hS
      try simp only [Act.put, List.setIfInBounds_toArray, List.set_cons_zero, List.set_cons_succ]
      refine reg_callB 5 (some 50) (.agg #[.int .i64 l.length, .int .i64 q1, .int .i64 q2, .int .i64 q3, .string H, .string T]) 60 #[.slice (some ⟨w1.heap.size, 0, none⟩) l.length (grownCap w1.drew l.length 0 5)] rfl rfl (by kernel_rfl) (by kernel_rfl) (by first | rfl | go_simp) ?_ ?_ fun w2 hR2 hS => ?_
      · exact HO.out _ _ _ hS.1 (HA.out _) (grownCap_ge _ _ _ _)
      · intro w' hR; exact ⟨bl_trans hS.1 hR, hS.2.below hR⟩
      try simp only [Act.put, List.setIfInBounds_toArray, List.set_cons_zero, List.set_cons_succ]
      refine reg_take 6 (some 51) (.bool true) (oi := { dst := some 51, op := Go.Op.binOp Go.BinOp.eql 36 (Go.Operand.tmp 47) (Go.Operand.tmp 50) 36, type := 4, pos := "weld.go:71", after := #[{ on := 2, ground := Go.Ground.data }, { on := 5, ground := Go.Ground.data }, { on := 1, ground := Go.Ground.guard }], guard := some (1, true) }) rfl rfl (by kernel_rfl) (by kernel_rfl) (by kernel_rfl) (by kernel_rfl) (fun W hW => by (first | rfl | go_simp)) hS ?_
      try simp only [Act.put, List.setIfInBounds_toArray, List.set_cons_zero, List.set_cons_succ]
      refine reg_take 7 (some 52) (.bool true) (oi := { dst := some 52, op := Go.Op.pick (Go.Operand.tmp 46) (Go.Operand.tmp 51) (Go.Operand.const (Go.Value.bool false)), type := 4, pos := "weld.go:71", after := #[{ on := 1, ground := Go.Ground.data }, { on := 6, ground := Go.Ground.data }], guard := none }) rfl rfl (by kernel_rfl) (by kernel_rfl) (by kernel_rfl) (by kernel_rfl) (fun W hW => by (first | rfl | go_simp)) hS ?_
      try simp only [Act.put, List.setIfInBounds_toArray, List.set_cons_zero, List.set_cons_succ]
      refine reg_take 8 (some 2) (.bool true) rfl rfl (by kernel_rfl) (by kernel_rfl) (by kernel_rfl) (by kernel_rfl) (fun W hW => by (rfl)) hS ?_
      try simp only [Act.put, List.setIfInBounds_toArray, List.set_cons_zero, List.set_cons_succ]
      refine reg_done (by kernel_rfl) (hK.out _ _ ?_) _
      clear hK K
      go_wp2_with fail
      go_ret
      exact ⟨rfl, (by (repeat (with_reducible first | assumption | exact bl_refl _ | refine bl_alloc ?_ | refine bl_iter ?_ | refine bl_drew ?_ | refine bl_drewN ?_ | refine bl_bytes ?_ | refine bl_set ?_ ?_ | refine bl_trans ?_ (by assumption))) <;> first | exact Nat.le_refl _ | (simp; done) | (simp; omega) | omega)⟩
    · have n4 : ¬ (l.length : Int) < 3 := by omega
      rw [show min 3 l.length = 3 from by omega] at z1 z2
      go_enter Tryd.func108, Tryd.ntmps108
      go_wp2_with (go_at_call 121; refine (HS.out _).mono ?_; rintro e w1 ⟨rfl, hb⟩)
      have hbA : Below w.heap.size w w1 := (by (repeat (with_reducible first | assumption | exact bl_refl _ | refine bl_alloc ?_ | refine bl_iter ?_ | refine bl_drew ?_ | refine bl_drewN ?_ | refine bl_bytes ?_ | refine bl_set ?_ ?_ | refine bl_trans ?_ (by assumption))) <;> first | exact Nat.le_refl _ | (simp; done) | (simp; omega) | omega)
      have hBA : Blk w1 w.heap.size 36 #[.int .i64 l.length, .int .i64 q1, .int .i64 q2, .int .i64 q3, .string H, .string T] := Blk.below (by (repeat (with_reducible first | assumption | (refine Blk.new _ _ _ ?_; first | rfl | (simp; done)) | refine Blk.alloc ?_ _ | refine Blk.drew ?_ | refine Blk.other ?_ ?_ _ | refine Blk.below ?_ (by assumption))) <;> first | rfl | (simp; done) | (simp; omega) | omega) hb
      clear hb
      refine reg_begin (fun W => Below w.heap.size w W ∧ Blk W w.heap.size 36 #[.int .i64 l.length, .int .i64 q1, .int .i64 q2, .int .i64 q3, .string H, .string T]) (by kernel_rfl) (by exact ⟨(by (repeat (with_reducible first | assumption | exact bl_refl _ | refine bl_alloc ?_ | refine bl_iter ?_ | refine bl_drew ?_ | refine bl_drewN ?_ | refine bl_bytes ?_ | refine bl_set ?_ ?_ | refine bl_trans ?_ (by assumption))) <;> first | exact Nat.le_refl _ | (simp; done) | (simp; omega) | omega), hBA⟩) fun K hK hS => ?_
      refine reg_take 0 (some 45) (.bool true) rfl rfl (by kernel_rfl) (by kernel_rfl) (by kernel_rfl) (by kernel_rfl) (fun W hW => by (rfl)) hS ?_
      try simp only [Act.put, List.setIfInBounds_toArray, List.set_cons_zero, List.set_cons_succ]
      refine reg_take 1 (some 46) (.bool true) rfl rfl (by kernel_rfl) (by kernel_rfl) (by kernel_rfl) (by kernel_rfl) (fun W hW => by (rfl)) hS ?_
      try simp only [Act.put, List.setIfInBounds_toArray, List.set_cons_zero, List.set_cons_succ]
      refine reg_take 2 (some 47) (.agg #[.int .i64 l.length, .int .i64 q1, .int .i64 q2, .int .i64 q3, .string H, .string T]) (oi := { dst := some 47, op := Go.Op.load 36 (Go.Operand.tmp 1), type := 36, pos := "weld.go:71", after := #[{ on := 1, ground := Go.Ground.guard }], guard := some (1, true) }) rfl rfl (by kernel_rfl) (by kernel_rfl) (by kernel_rfl) (by kernel_rfl) (fun W hW => by (have c0 := hW.2.cell 0; have c1 := hW.2.cell 1; have c2 := hW.2.cell 2; have c3 := hW.2.cell 3; have c4 := hW.2.cell 4; have c5 := hW.2.cell 5; go_simp)) hS ?_
      try simp only [Act.put, List.setIfInBounds_toArray, List.set_cons_zero, List.set_cons_succ]
      refine reg_take 3 (some 48) (.string R) rfl rfl (by kernel_rfl) (by kernel_rfl) (by kernel_rfl) (by kernel_rfl) (fun W hW => by (rfl)) hS ?_
      try simp only [Act.put, List.setIfInBounds_toArray, List.set_cons_zero, List.set_cons_succ]
      refine reg_one 4 (oi := { dst := some 49, op := Go.Op.convert 9 41 (Go.Operand.tmp 48), type := 41, pos := "weld.go:71", after := #[{ on := 3, ground := Go.Ground.data }, { on := 1, ground := Go.Ground.guard }], guard := some (1, true) }) rfl (by kernel_rfl) (by kernel_rfl) fun K' hK' => ?_
      have hx := HC.out w1.drew; go_simp
      refine hK'.out _ _ ?_ ?_
      · exact ⟨(by (repeat (with_reducible first | assumption | exact bl_refl _ | refine bl_alloc ?_ | refine bl_iter ?_ | refine bl_drew ?_ | refine bl_drewN ?_ | refine bl_bytes ?_ | refine bl_set ?_ ?_ | refine bl_trans ?_ (by assumption))) <;> first | exact Nat.le_refl _ | (simp; done) | (simp; omega) | omega), Blk.below hBA (bl_bytes (bl_drew (bl_refl _)))⟩
      clear hK' K' hS
      intro hS
      try simp only [Act.put, List.setIfInBounds_toArray, List.set_cons_zero, List.set_cons_succ]
      refine reg_callB 5 (some 50) (.agg #[.int .i64 l.length, .int .i64 q1, .int .i64 q2, .int .i64 q3, .string H, .string T]) 60 #[.slice (some ⟨w1.heap.size, 0, none⟩) l.length (grownCap w1.drew l.length 0 5)] rfl rfl (by kernel_rfl) (by kernel_rfl) (by first | rfl | go_simp) ?_ ?_ fun w2 hR2 hS => ?_
      · exact HO.out _ _ _ hS.1 (HA.out _) (grownCap_ge _ _ _ _)
      · intro w' hR; exact ⟨bl_trans hS.1 hR, hS.2.below hR⟩
      try simp only [Act.put, List.setIfInBounds_toArray, List.set_cons_zero, List.set_cons_succ]
      refine reg_take 6 (some 51) (.bool true) (oi := { dst := some 51, op := Go.Op.binOp Go.BinOp.eql 36 (Go.Operand.tmp 47) (Go.Operand.tmp 50) 36, type := 4, pos := "weld.go:71", after := #[{ on := 2, ground := Go.Ground.data }, { on := 5, ground := Go.Ground.data }, { on := 1, ground := Go.Ground.guard }], guard := some (1, true) }) rfl rfl (by kernel_rfl) (by kernel_rfl) (by kernel_rfl) (by kernel_rfl) (fun W hW => by (first | rfl | go_simp)) hS ?_
      try simp only [Act.put, List.setIfInBounds_toArray, List.set_cons_zero, List.set_cons_succ]
      refine reg_take 7 (some 52) (.bool true) (oi := { dst := some 52, op := Go.Op.pick (Go.Operand.tmp 46) (Go.Operand.tmp 51) (Go.Operand.const (Go.Value.bool false)), type := 4, pos := "weld.go:71", after := #[{ on := 1, ground := Go.Ground.data }, { on := 6, ground := Go.Ground.data }], guard := none }) rfl rfl (by kernel_rfl) (by kernel_rfl) (by kernel_rfl) (by kernel_rfl) (fun W hW => by (first | rfl | go_simp)) hS ?_
      try simp only [Act.put, List.setIfInBounds_toArray, List.set_cons_zero, List.set_cons_succ]
      refine reg_take 8 (some 2) (.bool true) rfl rfl (by kernel_rfl) (by kernel_rfl) (by kernel_rfl) (by kernel_rfl) (fun W hW => by (rfl)) hS ?_
      try simp only [Act.put, List.setIfInBounds_toArray, List.set_cons_zero, List.set_cons_succ]
      refine reg_done (by kernel_rfl) (hK.out _ _ ?_) _
      clear hK K
      go_wp2_with fail
      go_ret
      exact ⟨rfl, (by (repeat (with_reducible first | assumption | exact bl_refl _ | refine bl_alloc ?_ | refine bl_iter ?_ | refine bl_drew ?_ | refine bl_drewN ?_ | refine bl_bytes ?_ | refine bl_set ?_ ?_ | refine bl_trans ?_ (by assumption))) <;> first | exact Nat.le_refl _ | (simp; done) | (simp; omega) | omega)⟩
  · have n3 : ¬ (l.length : Int) ≤ 6 := by omega
    have n4 : ¬ (l.length : Int) < 3 := by omega
    rw [show min 3 l.length = 3 from by omega] at z1 z2
    rw [weldOf_val]
    clear hT
    generalize runesN l = q1 at *
    generalize unitsN l = q2 at *
    generalize endsN l = q3 at *
    generalize bs (headOf l) = H at *
    generalize bs (tailOf l) = T at *
    obtain ⟨s1, s2, s3, s4, s5, s6, s7⟩ := hsz
    generalize hf : q2 - q1 = f at *
    generalize hg : q1 - f = g at *
    generalize hf4 : 4 * f = f4 at *
    generalize hlf : (l.length : Int) - f4 = lf at *
    generalize hg3 : 3 * g = g3 at *
    have w1 : IntKind.i64.wrap (q2 - q1) = f := (IntWalk.i64_in (q2 - q1) (by omega)).trans hf
    have w2 : IntKind.i64.wrap (q1 - f) = g := (IntWalk.i64_in (q1 - f) (by omega)).trans hg
    have w3 : IntKind.i64.wrap (4 * f) = f4 := (IntWalk.i64_in (4 * f) (by omega)).trans hf4
    have w4 : IntKind.i64.wrap ((l.length : Int) - f4) = lf := (IntWalk.i64_in ((l.length : Int) - f4) (by omega)).trans hlf
    have w5 : IntKind.i64.wrap (3 * g) = g3 := (IntWalk.i64_in (3 * g) (by omega)).trans hg3
    have t1 : (0 : Int) ≤ q1 := by omega
    have t2 : q1 ≤ (l.length : Int) := by omega
    have t3 : (0 : Int) ≤ q2 := by omega
    have t4 : q2 ≤ (l.length : Int) := by omega
    have t5 : (0 : Int) ≤ f := by omega
    have t6 : (0 : Int) ≤ g := by omega
    have t7 : g ≤ lf := by omega
    have t8 : lf ≤ g3 := by omega
    clear hf hg hf4 hlf hg3 s1 s2 s3 s4 s5 h6
    go_enter Tryd.func108, Tryd.ntmps108
    go_wp2_with fail
    go_ret
    exact ⟨rfl, (by (repeat (with_reducible first | assumption | exact bl_refl _ | refine bl_alloc ?_ | refine bl_iter ?_ | refine bl_drew ?_ | refine bl_drewN ?_ | refine bl_bytes ?_ | refine bl_set ?_ ?_ | refine bl_trans ?_ (by assumption))) <;> first | exact Nat.le_refl _ | (simp; done) | (simp; omega) | omega)⟩
end Go.Proofs.YtliphfgiaioebaaDoor
