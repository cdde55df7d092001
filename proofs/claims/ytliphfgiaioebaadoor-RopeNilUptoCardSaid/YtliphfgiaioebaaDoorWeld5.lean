/-
  Package weld: both, Join.
-/
import Derived.Test.YtliphfgiaioebaaDoorWeld4
import Derived.Test.YtliphfgiaioebaaDoorReg3
import Derived.Deep.Cut
import Derived.Deep.CutRange
namespace Go.Proofs.YtliphfgiaioebaaDoor
set_option linter.unusedVariables false
set_option linter.unusedSimpArgs false
open Go.RowKit

theorem Tabs.pos {w : World} (h : Tabs w) : 0 < w.heap.size := by
  have := World.block_lt_of_cell? w _ (h.masks 0 _ rfl)
  simp only at this; omega
theorem Blk.c6 {W : World} {B : Nat} {t : TypeId} {a b c d e f : Value} (h : Blk W B t #[a, b, c, d, e, f]) :
    (W.cell? ⟨B, 0, none⟩ = some a ∧ W.cell? ⟨B, 1, none⟩ = some b ∧ W.cell? ⟨B, 2, none⟩ = some c ∧ W.cell? ⟨B, 3, none⟩ = some d ∧ W.cell? ⟨B, 4, none⟩ = some e ∧ W.cell? ⟨B, 5, none⟩ = some f) ∧ ∀ i, W.frozen? ⟨B, i, none⟩ = false :=
  ⟨⟨h.cell 0, h.cell 1, h.cell 2, h.cell 3, h.cell 4, h.cell 5⟩, fun i => h.frozen i⟩
theorem Blk.c4 {W : World} {B : Nat} {t : TypeId} {a b c d : Value} (h : Blk W B t #[a, b, c, d]) :
    (W.cell? ⟨B, 0, none⟩ = some a ∧ W.cell? ⟨B, 1, none⟩ = some b ∧ W.cell? ⟨B, 2, none⟩ = some c ∧ W.cell? ⟨B, 3, none⟩ = some d) ∧ ∀ i, W.frozen? ⟨B, i, none⟩ = false :=
  ⟨⟨h.cell 0, h.cell 1, h.cell 2, h.cell 3⟩, fun i => h.frozen i⟩
theorem seamIn_small (a b : List UInt8) (k : Nat) (hk : k ≤ 3) (s : Int × Int) (h : 0 ≤ s.1 ∧ s.1 ≤ 8 ∧ -2 ≤ s.2 ∧ s.2 ≤ 8) : ∀ j, j ≤ 3 → 0 ≤ (seamIn a b k s j).1 ∧ (seamIn a b k s j).1 ≤ 8 ∧ -2 ≤ (seamIn a b k s j).2 ∧ (seamIn a b k s j).2 ≤ 8
  | 0, _ => h
  | j + 1, hj => by
    unfold seamIn seamStep
    have hu : 1 ≤ unitsOf (valueOf (seamL a b k (j + 1))) ∧ unitsOf (valueOf (seamL a b k (j + 1))) ≤ 2 := by unfold unitsOf; split <;> omega
    split
    · simp only; omega
    · exact seamIn_small a b k hk s h j (by omega)
theorem seamOut_small (a b : List UInt8) (m : Nat) (hm : m ≤ 3) : ∀ k, k ≤ 3 → 0 ≤ (seamOut a b m k).1 ∧ (seamOut a b m k).1 ≤ 8 ∧ -2 ≤ (seamOut a b m k).2 ∧ (seamOut a b m k).2 ≤ 8
  | 0, _ => ⟨Int.le_refl 0, (by decide : (0:Int) ≤ 8), (by decide : (-2:Int) ≤ 0), (by decide : (0:Int) ≤ 8)⟩
  | k + 1, hk => seamIn_small a b (k + 1) hk _ (seamOut_small a b m hm k (by omega)) m hm
theorem seam_small (a b : List UInt8) : (0 ≤ (seamOf a b).1 ∧ (seamOf a b).1 ≤ 8 ∧ -2 ≤ (seamOf a b).2 ∧ (seamOf a b).2 ≤ 8) ∧ 0 ≤ seamE a b ∧ seamE a b ≤ 1 :=
  ⟨seamOut_small a b _ (by omega) _ (by omega), by unfold seamE; split <;> omega⟩
set_option maxRecDepth 100000 in
set_option maxHeartbeats 8000000 in
theorem both_any (a b : List UInt8) (hm : a.length + b.length ≤ 268435456) (w : World) (hT : Tabs w) :
    Calls Tryd.prog 85 #[(weldOf a).val, (weldOf b).val] w fun e w' => e = .returned (.tuple #[(weldOf (a ++ b)).val, szV 0 (seamOf a b).1 (seamOf a b).2 (seamE a b), .int .i64 0]) ∧ Below w.heap.size w w' := by
  have hVa := fun W (h : Below w.heap.size w W) => Valid_any a (by omega) W (hT.below h) (hT.below h).pos
  have hVb := fun W (h : Below w.heap.size w W) => Valid_any b (by omega) W (hT.below h) (hT.below h).pos
  have hVc := fun W (h : Below w.heap.size w W) => Valid_any (a ++ b) (by rw [List.length_append]; exact hm) W (hT.below h) (hT.below h).pos
  have hSm := fun W (h : Below w.heap.size w W) => seam_any a b (by omega) (by omega) W (hT.below h)
  have hW := weldOf_append a b
  have ba := sizes_bounds a
  have bb := sizes_bounds b
  have bc := sizes_bounds (a ++ b)
  rw [List.length_append] at bc
  have hj := join_runes a b
  have he := ends_append a b
  have sb := seam_small a b
  have hh := headOf_append a b
  have ht := tailOf_append a b
  have hhd := fun W => head_any (headOf a ++ headOf b) W (by rw [List.length_append, headOf_len, headOf_len]; omega)
  have htl := fun W => tail_any (tailOf a ++ tailOf b) W (by rw [List.length_append, tailOf_len, tailOf_len]; omega)
  have z1 := bs_size (headOf a)
  have z2 := bs_size (headOf b)
  have z3 := bs_size (tailOf a)
  have z4 := bs_size (tailOf b)
  rw [headOf_len] at z1 z2
  rw [tailOf_len] at z3 z4
  have ap1 := bs_append (headOf a) (headOf b)
  have ap2 := bs_append (tailOf a) (tailOf b)
  have hh1 : a.length < 3 → bs (headOf (a ++ b)) = bs ((headOf a ++ headOf b).take 3) := fun h => by rw [hh, if_pos h]
  have hh2 : ¬ a.length < 3 → bs (headOf (a ++ b)) = bs (headOf a) := fun h => by rw [hh, if_neg h]
  have ht1 : b.length < 3 → bs (tailOf (a ++ b)) = bs (tailOf (tailOf a ++ tailOf b)) := fun h => by rw [ht, if_pos h]
  have ht2 : ¬ b.length < 3 → bs (tailOf (a ++ b)) = bs (tailOf b) := fun h => by rw [ht, if_neg h]
  clear hh ht hW
  rw [weldOf_val, weldOf_val, weldOf_val] at *
  rw [List.length_append] at *
  generalize bs (headOf a ++ headOf b) = HAB at *
  generalize bs (tailOf a ++ tailOf b) = TAB at *
  generalize bs ((headOf a ++ headOf b).take 3) = HR at *
  generalize bs (tailOf (tailOf a ++ tailOf b)) = TR at *
  generalize runesN a = qa1 at *
  generalize unitsN a = qa2 at *
  generalize endsN a = qa3 at *
  generalize runesN b = qb1 at *
  generalize unitsN b = qb2 at *
  generalize endsN b = qb3 at *
  generalize bs (headOf a) = HA at *
  generalize bs (tailOf a) = TA at *
  generalize bs (headOf b) = HB at *
  generalize bs (tailOf b) = TB at *
  generalize runesN (a ++ b) = qc1 at *
  generalize unitsN (a ++ b) = qc2 at *
  generalize endsN (a ++ b) = qc3 at *
  generalize bs (headOf (a ++ b)) = HC at *
  generalize bs (tailOf (a ++ b)) = TC at *
  generalize (seamOf a b).1 = s1 at *
  generalize (seamOf a b).2 = s2 at *
  generalize seamE a b = s3 at *
  generalize a.length = la at *
  generalize b.length = lb at *
  have hml : (la : Int) ≤ 268435456 ∧ (lb : Int) ≤ 268435456 ∧ (la : Int) + lb ≤ 268435456 ∧ 0 ≤ (la : Int) ∧ 0 ≤ (lb : Int) := by clear ba bb bc hj he sb z1 z2 z3 z4; omega
  have Ba : 0 ≤ qa1 ∧ qa1 ≤ 268435456 ∧ 0 ≤ qa2 ∧ qa2 ≤ 536870912 ∧ 0 ≤ qa3 ∧ qa3 ≤ 268435456 := by clear bb bc hj he sb z1 z2 z3 z4; omega
  have Bb : 0 ≤ qb1 ∧ qb1 ≤ 268435456 ∧ 0 ≤ qb2 ∧ qb2 ≤ 536870912 ∧ 0 ≤ qb3 ∧ qb3 ≤ 268435456 := by clear ba bc hj he sb z1 z2 z3 z4; omega
  obtain ⟨hj1, hj2⟩ := hj
  obtain ⟨sb1, sb2⟩ := sb
  have Z := Lib.hid (And.intro z1 (And.intro z2 (And.intro z3 z4)))
  clear ba bb bc z1 z2 z3 z4
  have hS1 := fun W => sum_any la qa1 qa2 qa3 lb qb1 qb2 qb3 1 ((la : Int) + lb) (qa1 + qb1) (qa2 + qb2) (qa3 + qb3) W (by omega) (by omega) (by omega) (by omega) (by omega) (by omega) (by omega) (by omega) (by omega) (by omega) (by omega) (by omega)
  have hS2 := fun W => sum_any ((la : Int) + lb) (qa1 + qb1) (qa2 + qb2) (qa3 + qb3) 0 s1 s2 s3 (-1) ((la : Int) + lb) qc1 qc2 qc3 W (by omega) (by omega) (by omega) (by omega) (by omega) (by omega) (by omega) (by omega) (by omega) (by omega) (by omega) (by omega)
  unfold szV at *
  have h0 : ¬ ((268435456 : Int) < (la : Int) + lb) := by omega
  have h1 : IntKind.i64.wrap ((la : Int) + lb) = (la : Int) + lb := IntWalk.i64_in _ (by omega)
  rw [show ((la + lb : Nat) : Int) = (la : Int) + lb from by omega] at *
  generalize qa1 + qb1 = d1 at *
  generalize qa2 + qb2 = d2 at *
  generalize qa3 + qb3 = d3 at *
  have VA := Lib.hid hVa
  have VB := Lib.hid hVb
  have VC := Lib.hid hVc
  have SM := Lib.hid hSm
  have S1 := Lib.hid hS1
  have S2 := Lib.hid hS2
  have HD := Lib.hid hhd
  have TL := Lib.hid htl
  have AP1 := Lib.hid ap1
  have AP2 := Lib.hid ap2
  have HH1 := Lib.hid hh1
  have HH2 := Lib.hid hh2
  have HT1 := Lib.hid ht1
  have HT2 := Lib.hid ht2
  obtain ⟨z1, z2, z3, z4⟩ := Z.out
  clear hVa hVb hVc hSm hS1 hS2 hhd htl ap1 ap2 hh1 hh2 ht1 ht2 hj1 hj2 he sb1 sb2 hT Ba Bb Z
  go_enter Tryd.func85, Tryd.ntmps85
  go_wp2_with fail
  refine (VA.out _ (by (repeat (with_reducible first | assumption | exact bl_refl _ | refine bl_alloc ?_ | refine bl_iter ?_ | refine bl_drew ?_ | refine bl_drewN ?_ | refine bl_bytes ?_ | refine bl_set ?_ ?_ | refine bl_trans ?_ (by assumption))) <;> first | exact Nat.le_refl _ | (simp; done) | (simp; omega) | omega)).mono ?_
  rintro e w1 ⟨rfl, hb⟩
  have hB : Below w.heap.size w w1 := (by (repeat (with_reducible first | assumption | exact bl_refl _ | refine bl_alloc ?_ | refine bl_iter ?_ | refine bl_drew ?_ | refine bl_drewN ?_ | refine bl_bytes ?_ | refine bl_set ?_ ?_ | refine bl_trans ?_ (by assumption))) <;> first | exact Nat.le_refl _ | (simp; done) | (simp; omega) | omega)
  have b2 : Blk w1 w.heap.size 36 #[.int .i64 (la : Int), .int .i64 qa1, .int .i64 qa2, .int .i64 qa3, .string HA, .string TA] := Blk.below (by (repeat (with_reducible first | assumption | (refine Blk.new _ _ _ ?_; first | rfl | (simp; done)) | refine Blk.alloc ?_ _ | refine Blk.drew ?_ | refine Blk.other ?_ ?_ _ | refine Blk.below ?_ (by assumption))) <;> first | rfl | (simp; done) | (simp; omega) | omega) hb
  have b3 : Blk w1 (w.heap.size + 1) 36 #[.int .i64 (lb : Int), .int .i64 qb1, .int .i64 qb2, .int .i64 qb3, .string HB, .string TB] := Blk.below (by (repeat (with_reducible first | assumption | (refine Blk.new _ _ _ ?_; first | rfl | (simp; done)) | refine Blk.alloc ?_ _ | refine Blk.drew ?_ | refine Blk.other ?_ ?_ _ | refine Blk.below ?_ (by assumption))) <;> first | rfl | (simp; done) | (simp; omega) | omega) hb
  have b4 : Blk w1 (w.heap.size + 1 + 1) 36 #[.int .i64 0, .int .i64 0, .int .i64 0, .int .i64 0, .string { data := #[] }, .string { data := #[] }] := Blk.below (by (repeat (with_reducible first | assumption | (refine Blk.new _ _ _ ?_; first | rfl | (simp; done)) | refine Blk.alloc ?_ _ | refine Blk.drew ?_ | refine Blk.other ?_ ?_ _ | refine Blk.below ?_ (by assumption))) <;> first | rfl | (simp; done) | (simp; omega) | omega) hb
  have b5 : Blk w1 (w.heap.size + 1 + 1 + 1) 34 #[.int .i64 0, .int .i64 0, .int .i64 0, .int .i64 0] := Blk.below (by (repeat (with_reducible first | assumption | (refine Blk.new _ _ _ ?_; first | rfl | (simp; done)) | refine Blk.alloc ?_ _ | refine Blk.drew ?_ | refine Blk.other ?_ ?_ _ | refine Blk.below ?_ (by assumption))) <;> first | rfl | (simp; done) | (simp; omega) | omega) hb
  clear hb
  have C2 := b2.c6
  have C3 := b3.c6
  dsimp only
  go_wp2_with fail
  refine (VB.out _ hB).mono ?_
  rintro e w2 ⟨rfl, hb⟩
  clear C2 C3
  replace hB := bl_trans hB hb
  replace b2 := b2.below hb
  replace b3 := b3.below hb
  replace b4 := b4.below hb
  replace b5 := b5.below hb
  clear hb
  have C2 := b2.c6
  have C3 := b3.c6
  dsimp only
  go_wp2_with fail
  refine (SM.out _ hB).mono ?_
  rintro e w3 ⟨rfl, hb⟩
  clear C2 C3
  replace hB := bl_trans hB hb
  replace b2 := b2.below hb
  replace b3 := b3.below hb
  replace b4 := b4.below hb
  replace b5 := b5.below hb
  clear hb
  have l53 := b5.lt
  dsimp only
  go_wp2_with fail
  generalize hWA : w3.alloc _ = WA
  have hz : WA.heap.size = w3.heap.size + 1 := by rw [← hWA]; simp
  have hBA : Below w.heap.size w WA := by rw [← hWA]; exact (by (repeat (with_reducible first | assumption | exact bl_refl _ | refine bl_alloc ?_ | refine bl_iter ?_ | refine bl_drew ?_ | refine bl_drewN ?_ | refine bl_bytes ?_ | refine bl_set ?_ ?_ | refine bl_trans ?_ (by assumption))) <;> first | exact Nat.le_refl _ | (simp; done) | (simp; omega) | omega)
  replace b2 := b2.alloc (.cells #[.int .i64 0, .int .i64 s1, .int .i64 s2, .int .i64 s3] 34)
  rw [hWA] at b2
  replace b3 := b3.alloc (.cells #[.int .i64 0, .int .i64 s1, .int .i64 s2, .int .i64 s3] 34)
  rw [hWA] at b3
  replace b4 := b4.alloc (.cells #[.int .i64 0, .int .i64 s1, .int .i64 s2, .int .i64 s3] 34)
  rw [hWA] at b4
  replace b5 := b5.alloc (.cells #[.int .i64 0, .int .i64 s1, .int .i64 s2, .int .i64 s3] 34)
  rw [hWA] at b5
  have b7 : Blk WA w3.heap.size 34 #[.int .i64 0, .int .i64 s1, .int .i64 s2, .int .i64 s3] := by rw [← hWA]; exact Blk.new _ _ _ rfl
  have l5 := b5.lt
  clear hWA hB
  go_cut [8] from 9 (fun v8 W => ∃ p, v8 = .pointer (some ⟨p, 0, none⟩) ∧ WA.heap.size ≤ p ∧ Below WA.heap.size WA W ∧ Blk W p 36 #[.int .i64 ((la : Int) + lb), .int .i64 qc1, .int .i64 qc2, .int .i64 qc3, .string HA, .string TB])
  case first =>
    have KC2 := Lib.hid (fun W (h : Below WA.heap.size WA W) => (b2.below h).c6)
    have KC3 := Lib.hid (fun W (h : Below WA.heap.size WA W) => (b3.below h).c6)
    have KC7 := Lib.hid (fun W (h : Below WA.heap.size WA W) => (b7.below h).c4)
    refine reh_begin (fun W => Below WA.heap.size WA W) (by kernel_rfl) (by exact (by (repeat (with_reducible first | assumption | exact bl_refl _ | refine bl_alloc ?_ | refine bl_iter ?_ | refine bl_drew ?_ | refine bl_drewN ?_ | refine bl_bytes ?_ | refine bl_set ?_ ?_ | refine bl_trans ?_ (by assumption))) <;> first | exact Nat.le_refl _ | (simp; done) | (simp; omega) | omega)) fun K hK w0 hE hS => ?_
    clear hE
    refine reg_take 0 (some 34) (.pointer (some ⟨w.heap.size, 0, none⟩)) rfl rfl (by kernel_rfl) (by kernel_rfl) (by kernel_rfl) (by kernel_rfl) (fun W hW => by (rfl)) hS ?_
    try simp only [Act.put, List.setIfInBounds_toArray, List.set_cons_zero, List.set_cons_succ]
    refine reg_take 1 (some 35) (.agg #[.int .i64 la, .int .i64 qa1, .int .i64 qa2, .int .i64 qa3]) (oi := { dst := some 35, op := Go.Op.load 34 (Go.Operand.tmp 34), type := 34, pos := "weld.go:109", after := #[{ on := 0, ground := Go.Ground.data }], guard := none }) rfl rfl (by kernel_rfl) (by kernel_rfl) (by kernel_rfl) (by kernel_rfl) (fun W hW => by (have hx := KC2.out W hW; go_simp)) hS ?_
    try simp only [Act.put, List.setIfInBounds_toArray, List.set_cons_zero, List.set_cons_succ]
    refine reg_take 2 (some 36) (.pointer (some ⟨w.heap.size + 1, 0, none⟩)) rfl rfl (by kernel_rfl) (by kernel_rfl) (by kernel_rfl) (by kernel_rfl) (fun W hW => by (rfl)) hS ?_
    try simp only [Act.put, List.setIfInBounds_toArray, List.set_cons_zero, List.set_cons_succ]
    refine reg_take 3 (some 37) (.agg #[.int .i64 lb, .int .i64 qb1, .int .i64 qb2, .int .i64 qb3]) (oi := { dst := some 37, op := Go.Op.load 34 (Go.Operand.tmp 36), type := 34, pos := "weld.go:109", after := #[{ on := 2, ground := Go.Ground.data }], guard := none }) rfl rfl (by kernel_rfl) (by kernel_rfl) (by kernel_rfl) (by kernel_rfl) (fun W hW => by (have hx := KC3.out W hW; go_simp)) hS ?_
    try simp only [Act.put, List.setIfInBounds_toArray, List.set_cons_zero, List.set_cons_succ]
    refine reg_take 5 (some 39) (.agg #[.int .i64 0, .int .i64 s1, .int .i64 s2, .int .i64 s3]) (oi := { dst := some 39, op := Go.Op.load 34 (Go.Operand.tmp 7), type := 34, pos := "weld.go:109", after := #[], guard := none }) rfl rfl (by kernel_rfl) (by kernel_rfl) (by kernel_rfl) (by kernel_rfl) (fun W hW => by (have hx := KC7.out W hW; go_simp)) hS ?_
    try simp only [Act.put, List.setIfInBounds_toArray, List.set_cons_zero, List.set_cons_succ]
    refine reg_take 7 (some 41) (.pointer (some ⟨w.heap.size, 4, none⟩)) rfl rfl (by kernel_rfl) (by kernel_rfl) (by kernel_rfl) (by kernel_rfl) (fun W hW => by (rfl)) hS ?_
    try simp only [Act.put, List.setIfInBounds_toArray, List.set_cons_zero, List.set_cons_succ]
    refine reg_take 8 (some 42) (.string HA) (oi := { dst := some 42, op := Go.Op.load 9 (Go.Operand.tmp 41), type := 9, pos := "weld.go:109", after := #[{ on := 7, ground := Go.Ground.data }], guard := none }) rfl rfl (by kernel_rfl) (by kernel_rfl) (by kernel_rfl) (by kernel_rfl) (fun W hW => by (have hx := KC2.out W hW; go_simp)) hS ?_
    try simp only [Act.put, List.setIfInBounds_toArray, List.set_cons_zero, List.set_cons_succ]
    refine reg_take 9 (some 43) (.pointer (some ⟨w.heap.size + 1, 5, none⟩)) rfl rfl (by kernel_rfl) (by kernel_rfl) (by kernel_rfl) (by kernel_rfl) (fun W hW => by (rfl)) hS ?_
    try simp only [Act.put, List.setIfInBounds_toArray, List.set_cons_zero, List.set_cons_succ]
    refine reg_take 10 (some 44) (.string TB) (oi := { dst := some 44, op := Go.Op.load 9 (Go.Operand.tmp 43), type := 9, pos := "weld.go:109", after := #[{ on := 9, ground := Go.Ground.data }], guard := none }) rfl rfl (by kernel_rfl) (by kernel_rfl) (by kernel_rfl) (by kernel_rfl) (fun W hW => by (have hx := KC3.out W hW; go_simp)) hS ?_
    try simp only [Act.put, List.setIfInBounds_toArray, List.set_cons_zero, List.set_cons_succ]
    refine pick2 (i := 4) (j := 12) (by kernel_rfl) ?_ ?_
    · refine pick_call (some 38) (.agg #[.int .i64 ((la : Int) + lb), .int .i64 d1, .int .i64 d2, .int .i64 d3]) 110 #[.agg #[.int .i64 la, .int .i64 qa1, .int .i64 qa2, .int .i64 qa3], .agg #[.int .i64 lb, .int .i64 qb1, .int .i64 qb2, .int .i64 qb3], .int .i64 1] (oi := { dst := some 38, op := Go.Op.call { callee := Go.Callee.value (Go.Operand.func 110), args := #[Go.Operand.tmp 35, Go.Operand.tmp 37, Go.Operand.const (Go.Value.int Go.IntKind.i64 1)], argTypes := #[34, 34, 3] }, type := 34, pos := "weld.go:109", after := #[{ on := 1, ground := Go.Ground.data }, { on := 3, ground := Go.Ground.data }], guard := none }) rfl rfl (by kernel_rfl) (by first | rfl | go_simp) ?_ (fun w' hR => ?_) fun w1 hR hS => ?_
      · exact S1.out _
      · exact bl_trans hS hR
      try replace hp := hp.below hR
      skip
      try simp only [Act.put, List.setIfInBounds_toArray, List.set_cons_zero, List.set_cons_succ]
      refine pick2 (i := 6) (j := 12) (by kernel_rfl) ?_ ?_
      · refine pick_call (some 40) (.agg #[.int .i64 ((la : Int) + lb), .int .i64 qc1, .int .i64 qc2, .int .i64 qc3]) 110 #[.agg #[.int .i64 ((la : Int) + lb), .int .i64 d1, .int .i64 d2, .int .i64 d3], .agg #[.int .i64 0, .int .i64 s1, .int .i64 s2, .int .i64 s3], .int .i64 (-1)] (oi := { dst := some 40, op := Go.Op.call { callee := Go.Callee.value (Go.Operand.func 110), args := #[Go.Operand.tmp 38, Go.Operand.tmp 39, Go.Operand.const (Go.Value.int Go.IntKind.i64 (-1))], argTypes := #[34, 34, 3] }, type := 34, pos := "weld.go:109", after := #[{ on := 4, ground := Go.Ground.data }, { on := 5, ground := Go.Ground.data }, { on := 4, ground := Go.Ground.chain }], guard := none }) rfl rfl (by kernel_rfl) (by first | rfl | go_simp) ?_ (fun w' hR => ?_) fun w2 hR hS => ?_
        · exact S2.out _
        · exact bl_trans hS hR
        try replace hp := hp.below hR
        skip
        try simp only [Act.put, List.setIfInBounds_toArray, List.set_cons_zero, List.set_cons_succ]
        refine reg_take 11 (some 45) (.agg #[.int .i64 ((la : Int) + lb), .int .i64 qc1, .int .i64 qc2, .int .i64 qc3, .string HA, .string TB]) (oi := { dst := some 45, op := Go.Op.build 36 #[(0, Go.Operand.tmp 40), (1, Go.Operand.tmp 42), (2, Go.Operand.tmp 44)], type := 36, pos := "weld.go:109", after := #[{ on := 6, ground := Go.Ground.data }, { on := 8, ground := Go.Ground.data }, { on := 10, ground := Go.Ground.data }], guard := none }) rfl rfl (by kernel_rfl) (by kernel_rfl) (by kernel_rfl) (by kernel_rfl) (fun W hW => by (first | rfl | go_simp)) hS ?_
        try simp only [Act.put, List.setIfInBounds_toArray, List.set_cons_zero, List.set_cons_succ]
        refine pick1 (i := 12) (by kernel_rfl) ?_
        refine pick_one (oi := { dst := some 8, op := Go.Op.alloc 36, type := 0, pos := "weld.go:109", after := #[], guard := none }) rfl (by kernel_rfl) fun K' hK' => ?_
        go_simp
        refine hK'.out _ _ ?_ (fun w3 hE hS => ?_)
        · exact (by (repeat (with_reducible first | assumption | exact bl_refl _ | refine bl_alloc ?_ | refine bl_iter ?_ | refine bl_drew ?_ | refine bl_drewN ?_ | refine bl_bytes ?_ | refine bl_set ?_ ?_ | refine bl_trans ?_ (by assumption))) <;> first | exact Nat.le_refl _ | (simp; done) | (simp; omega) | omega)
        clear hK' K'
        (have hp : Blk w3 w2.heap.size 36 #[.int .i64 0, .int .i64 0, .int .i64 0, .int .i64 0, .string { data := #[] }, .string { data := #[] }] := (by rw [hE]; exact Blk.new _ _ _ rfl)); (have hge : WA.heap.size ≤ w2.heap.size := (‹Below WA.heap.size WA w2›).size)
        clear hE
        try simp only [Act.put, List.setIfInBounds_toArray, List.set_cons_zero, List.set_cons_succ]
        refine pick1 (i := 13) (by kernel_rfl) ?_
        have hc := hp.c6
        refine pick_one (oi := { dst := none, op := Go.Op.store 36 (Go.Operand.tmp 8) (Go.Operand.tmp 45), type := 0, pos := "weld.go:109", after := #[{ on := 12, ground := Go.Ground.data }, { on := 11, ground := Go.Ground.data }, { on := 6, ground := Go.Ground.chain }, { on := 0, ground := Go.Ground.phase }, { on := 1, ground := Go.Ground.phase }, { on := 2, ground := Go.Ground.phase }, { on := 3, ground := Go.Ground.phase }, { on := 4, ground := Go.Ground.phase }, { on := 5, ground := Go.Ground.phase }, { on := 6, ground := Go.Ground.phase }, { on := 7, ground := Go.Ground.phase }, { on := 8, ground := Go.Ground.phase }, { on := 9, ground := Go.Ground.phase }, { on := 10, ground := Go.Ground.phase }, { on := 11, ground := Go.Ground.phase }, { on := 12, ground := Go.Ground.phase }], guard := none }) rfl (by kernel_rfl) fun K' hK' => ?_
        go_simp
        refine hK'.out _ _ ?_ (fun w4 hE hS => ?_)
        · exact (by (repeat (with_reducible first | assumption | exact bl_refl _ | refine bl_alloc ?_ | refine bl_iter ?_ | refine bl_drew ?_ | refine bl_drewN ?_ | refine bl_bytes ?_ | refine bl_set ?_ ?_ | refine bl_trans ?_ (by assumption))) <;> first | exact Nat.le_refl _ | (simp; done) | (simp; omega) | omega)
        clear hK' K'
        have hp2 : Blk w4 _ _ _ := (by rw [hE]; exact (((((hp.set 0 (.int .i64 ((la : Int) + lb))).set 1 (.int .i64 qc1)).set 2 (.int .i64 qc2)).set 3 (.int .i64 qc3)).set 4 (.string HA)).set 5 (.string TB))
        clear hE
        try simp only [Act.put, List.setIfInBounds_toArray, List.set_cons_zero, List.set_cons_succ]
        refine reg_done (by kernel_rfl) (hK.out _ _ ?_) _
        clear hK K
        (go_wp2_with fail); (go_meet); (case rel => exact ⟨_, rfl, hge, hS, hp2⟩)
      · refine pick_one (oi := { dst := some 8, op := Go.Op.alloc 36, type := 0, pos := "weld.go:109", after := #[], guard := none }) rfl (by kernel_rfl) fun K' hK' => ?_
        go_simp
        refine hK'.out _ _ ?_ (fun w2 hE hS => ?_)
        · exact (by (repeat (with_reducible first | assumption | exact bl_refl _ | refine bl_alloc ?_ | refine bl_iter ?_ | refine bl_drew ?_ | refine bl_drewN ?_ | refine bl_bytes ?_ | refine bl_set ?_ ?_ | refine bl_trans ?_ (by assumption))) <;> first | exact Nat.le_refl _ | (simp; done) | (simp; omega) | omega)
        clear hK' K'
        (have hp : Blk w2 w1.heap.size 36 #[.int .i64 0, .int .i64 0, .int .i64 0, .int .i64 0, .string { data := #[] }, .string { data := #[] }] := (by rw [hE]; exact Blk.new _ _ _ rfl)); (have hge : WA.heap.size ≤ w1.heap.size := (‹Below WA.heap.size WA w1›).size)
        clear hE
        try simp only [Act.put, List.setIfInBounds_toArray, List.set_cons_zero, List.set_cons_succ]
        refine pick1 (i := 6) (by kernel_rfl) ?_
        refine pick_call (some 40) (.agg #[.int .i64 ((la : Int) + lb), .int .i64 qc1, .int .i64 qc2, .int .i64 qc3]) 110 #[.agg #[.int .i64 ((la : Int) + lb), .int .i64 d1, .int .i64 d2, .int .i64 d3], .agg #[.int .i64 0, .int .i64 s1, .int .i64 s2, .int .i64 s3], .int .i64 (-1)] (oi := { dst := some 40, op := Go.Op.call { callee := Go.Callee.value (Go.Operand.func 110), args := #[Go.Operand.tmp 38, Go.Operand.tmp 39, Go.Operand.const (Go.Value.int Go.IntKind.i64 (-1))], argTypes := #[34, 34, 3] }, type := 34, pos := "weld.go:109", after := #[{ on := 4, ground := Go.Ground.data }, { on := 5, ground := Go.Ground.data }, { on := 4, ground := Go.Ground.chain }], guard := none }) rfl rfl (by kernel_rfl) (by first | rfl | go_simp) ?_ (fun w' hR => ?_) fun w3 hR hS => ?_
        · exact S2.out _
        · exact bl_trans hS hR
        try replace hp := hp.below hR
        skip
        try simp only [Act.put, List.setIfInBounds_toArray, List.set_cons_zero, List.set_cons_succ]
        refine reg_take 11 (some 45) (.agg #[.int .i64 ((la : Int) + lb), .int .i64 qc1, .int .i64 qc2, .int .i64 qc3, .string HA, .string TB]) (oi := { dst := some 45, op := Go.Op.build 36 #[(0, Go.Operand.tmp 40), (1, Go.Operand.tmp 42), (2, Go.Operand.tmp 44)], type := 36, pos := "weld.go:109", after := #[{ on := 6, ground := Go.Ground.data }, { on := 8, ground := Go.Ground.data }, { on := 10, ground := Go.Ground.data }], guard := none }) rfl rfl (by kernel_rfl) (by kernel_rfl) (by kernel_rfl) (by kernel_rfl) (fun W hW => by (first | rfl | go_simp)) hS ?_
        try simp only [Act.put, List.setIfInBounds_toArray, List.set_cons_zero, List.set_cons_succ]
        refine pick1 (i := 13) (by kernel_rfl) ?_
        have hc := hp.c6
        refine pick_one (oi := { dst := none, op := Go.Op.store 36 (Go.Operand.tmp 8) (Go.Operand.tmp 45), type := 0, pos := "weld.go:109", after := #[{ on := 12, ground := Go.Ground.data }, { on := 11, ground := Go.Ground.data }, { on := 6, ground := Go.Ground.chain }, { on := 0, ground := Go.Ground.phase }, { on := 1, ground := Go.Ground.phase }, { on := 2, ground := Go.Ground.phase }, { on := 3, ground := Go.Ground.phase }, { on := 4, ground := Go.Ground.phase }, { on := 5, ground := Go.Ground.phase }, { on := 6, ground := Go.Ground.phase }, { on := 7, ground := Go.Ground.phase }, { on := 8, ground := Go.Ground.phase }, { on := 9, ground := Go.Ground.phase }, { on := 10, ground := Go.Ground.phase }, { on := 11, ground := Go.Ground.phase }, { on := 12, ground := Go.Ground.phase }], guard := none }) rfl (by kernel_rfl) fun K' hK' => ?_
        go_simp
        refine hK'.out _ _ ?_ (fun w4 hE hS => ?_)
        · exact (by (repeat (with_reducible first | assumption | exact bl_refl _ | refine bl_alloc ?_ | refine bl_iter ?_ | refine bl_drew ?_ | refine bl_drewN ?_ | refine bl_bytes ?_ | refine bl_set ?_ ?_ | refine bl_trans ?_ (by assumption))) <;> first | exact Nat.le_refl _ | (simp; done) | (simp; omega) | omega)
        clear hK' K'
        have hp2 : Blk w4 _ _ _ := (by rw [hE]; exact (((((hp.set 0 (.int .i64 ((la : Int) + lb))).set 1 (.int .i64 qc1)).set 2 (.int .i64 qc2)).set 3 (.int .i64 qc3)).set 4 (.string HA)).set 5 (.string TB))
        clear hE
        try simp only [Act.put, List.setIfInBounds_toArray, List.set_cons_zero, List.set_cons_succ]
        refine reg_done (by kernel_rfl) (hK.out _ _ ?_) _
        clear hK K
        (go_wp2_with fail); (go_meet); (case rel => exact ⟨_, rfl, hge, hS, hp2⟩)
    · refine pick_one (oi := { dst := some 8, op := Go.Op.alloc 36, type := 0, pos := "weld.go:109", after := #[], guard := none }) rfl (by kernel_rfl) fun K' hK' => ?_
      go_simp
      refine hK'.out _ _ ?_ (fun w1 hE hS => ?_)
      · exact (by (repeat (with_reducible first | assumption | exact bl_refl _ | refine bl_alloc ?_ | refine bl_iter ?_ | refine bl_drew ?_ | refine bl_drewN ?_ | refine bl_bytes ?_ | refine bl_set ?_ ?_ | refine bl_trans ?_ (by assumption))) <;> first | exact Nat.le_refl _ | (simp; done) | (simp; omega) | omega)
      clear hK' K'
      (have hp : Blk w1 w0.heap.size 36 #[.int .i64 0, .int .i64 0, .int .i64 0, .int .i64 0, .string { data := #[] }, .string { data := #[] }] := (by rw [hE]; exact Blk.new _ _ _ rfl)); (have hge : WA.heap.size ≤ w0.heap.size := (‹Below WA.heap.size WA w0›).size)
      clear hE
      try simp only [Act.put, List.setIfInBounds_toArray, List.set_cons_zero, List.set_cons_succ]
      refine pick1 (i := 4) (by kernel_rfl) ?_
      refine pick_call (some 38) (.agg #[.int .i64 ((la : Int) + lb), .int .i64 d1, .int .i64 d2, .int .i64 d3]) 110 #[.agg #[.int .i64 la, .int .i64 qa1, .int .i64 qa2, .int .i64 qa3], .agg #[.int .i64 lb, .int .i64 qb1, .int .i64 qb2, .int .i64 qb3], .int .i64 1] (oi := { dst := some 38, op := Go.Op.call { callee := Go.Callee.value (Go.Operand.func 110), args := #[Go.Operand.tmp 35, Go.Operand.tmp 37, Go.Operand.const (Go.Value.int Go.IntKind.i64 1)], argTypes := #[34, 34, 3] }, type := 34, pos := "weld.go:109", after := #[{ on := 1, ground := Go.Ground.data }, { on := 3, ground := Go.Ground.data }], guard := none }) rfl rfl (by kernel_rfl) (by first | rfl | go_simp) ?_ (fun w' hR => ?_) fun w2 hR hS => ?_
      · exact S1.out _
      · exact bl_trans hS hR
      try replace hp := hp.below hR
      skip
      try simp only [Act.put, List.setIfInBounds_toArray, List.set_cons_zero, List.set_cons_succ]
      refine pick1 (i := 6) (by kernel_rfl) ?_
      refine pick_call (some 40) (.agg #[.int .i64 ((la : Int) + lb), .int .i64 qc1, .int .i64 qc2, .int .i64 qc3]) 110 #[.agg #[.int .i64 ((la : Int) + lb), .int .i64 d1, .int .i64 d2, .int .i64 d3], .agg #[.int .i64 0, .int .i64 s1, .int .i64 s2, .int .i64 s3], .int .i64 (-1)] (oi := { dst := some 40, op := Go.Op.call { callee := Go.Callee.value (Go.Operand.func 110), args := #[Go.Operand.tmp 38, Go.Operand.tmp 39, Go.Operand.const (Go.Value.int Go.IntKind.i64 (-1))], argTypes := #[34, 34, 3] }, type := 34, pos := "weld.go:109", after := #[{ on := 4, ground := Go.Ground.data }, { on := 5, ground := Go.Ground.data }, { on := 4, ground := Go.Ground.chain }], guard := none }) rfl rfl (by kernel_rfl) (by first | rfl | go_simp) ?_ (fun w' hR => ?_) fun w3 hR hS => ?_
      · exact S2.out _
      · exact bl_trans hS hR
      try replace hp := hp.below hR
      skip
      try simp only [Act.put, List.setIfInBounds_toArray, List.set_cons_zero, List.set_cons_succ]
      refine reg_take 11 (some 45) (.agg #[.int .i64 ((la : Int) + lb), .int .i64 qc1, .int .i64 qc2, .int .i64 qc3, .string HA, .string TB]) (oi := { dst := some 45, op := Go.Op.build 36 #[(0, Go.Operand.tmp 40), (1, Go.Operand.tmp 42), (2, Go.Operand.tmp 44)], type := 36, pos := "weld.go:109", after := #[{ on := 6, ground := Go.Ground.data }, { on := 8, ground := Go.Ground.data }, { on := 10, ground := Go.Ground.data }], guard := none }) rfl rfl (by kernel_rfl) (by kernel_rfl) (by kernel_rfl) (by kernel_rfl) (fun W hW => by (first | rfl | go_simp)) hS ?_
      try simp only [Act.put, List.setIfInBounds_toArray, List.set_cons_zero, List.set_cons_succ]
      refine pick1 (i := 13) (by kernel_rfl) ?_
      have hc := hp.c6
      refine pick_one (oi := { dst := none, op := Go.Op.store 36 (Go.Operand.tmp 8) (Go.Operand.tmp 45), type := 0, pos := "weld.go:109", after := #[{ on := 12, ground := Go.Ground.data }, { on := 11, ground := Go.Ground.data }, { on := 6, ground := Go.Ground.chain }, { on := 0, ground := Go.Ground.phase }, { on := 1, ground := Go.Ground.phase }, { on := 2, ground := Go.Ground.phase }, { on := 3, ground := Go.Ground.phase }, { on := 4, ground := Go.Ground.phase }, { on := 5, ground := Go.Ground.phase }, { on := 6, ground := Go.Ground.phase }, { on := 7, ground := Go.Ground.phase }, { on := 8, ground := Go.Ground.phase }, { on := 9, ground := Go.Ground.phase }, { on := 10, ground := Go.Ground.phase }, { on := 11, ground := Go.Ground.phase }, { on := 12, ground := Go.Ground.phase }], guard := none }) rfl (by kernel_rfl) fun K' hK' => ?_
      go_simp
      refine hK'.out _ _ ?_ (fun w4 hE hS => ?_)
      · exact (by (repeat (with_reducible first | assumption | exact bl_refl _ | refine bl_alloc ?_ | refine bl_iter ?_ | refine bl_drew ?_ | refine bl_drewN ?_ | refine bl_bytes ?_ | refine bl_set ?_ ?_ | refine bl_trans ?_ (by assumption))) <;> first | exact Nat.le_refl _ | (simp; done) | (simp; omega) | omega)
      clear hK' K'
      have hp2 : Blk w4 _ _ _ := (by rw [hE]; exact (((((hp.set 0 (.int .i64 ((la : Int) + lb))).set 1 (.int .i64 qc1)).set 2 (.int .i64 qc2)).set 3 (.int .i64 qc3)).set 4 (.string HA)).set 5 (.string TB))
      clear hE
      try simp only [Act.put, List.setIfInBounds_toArray, List.set_cons_zero, List.set_cons_succ]
      refine reg_done (by kernel_rfl) (hK.out _ _ ?_) _
      clear hK K
      (go_wp2_with fail); (go_meet); (case rel => exact ⟨_, rfl, hge, hS, hp2⟩)
  case rest =>
    obtain ⟨p, rfl, hge, hS, hp⟩ := hcut
    have g2 := b2.lt
    have g3 := b3.lt
    have g4 := b4.lt
    have g5 := b5.lt
    have g7 := b7.lt
    replace hBA := bl_trans hBA hS
    replace b2 := b2.below hS
    replace b3 := b3.below hS
    replace b4 := b4.below hS
    replace b5 := b5.below hS
    replace b7 := b7.below hS
    have p2 : w.heap.size ≠ p := by omega
    have p3 : w.heap.size + 1 ≠ p := by omega
    have p4 : w.heap.size + 1 + 1 ≠ p := by omega
    have p5 : w.heap.size + 1 + 1 + 1 ≠ p := by omega
    have p7 : w3.heap.size ≠ p := by omega
    have p0 : w.heap.size ≤ p := by omega
    clear g2 g3 g4 g5 g7 hge hS hz l5
    have C2 := b2.c6
    go_upto_if 49 with (fail)
    go_cut [] from 9 (fun W => Below w.heap.size w W ∧ Blk W w.heap.size 36 #[.int .i64 (la : Int), .int .i64 qa1, .int .i64 qa2, .int .i64 qa3, .string HA, .string TA] ∧ Blk W (w.heap.size + 1) 36 #[.int .i64 (lb : Int), .int .i64 qb1, .int .i64 qb2, .int .i64 qb3, .string HB, .string TB] ∧ Blk W (w.heap.size + 1 + 1) 36 #[.int .i64 0, .int .i64 0, .int .i64 0, .int .i64 0, .string { data := #[] }, .string { data := #[] }] ∧ Blk W (w.heap.size + 1 + 1 + 1) 34 #[.int .i64 0, .int .i64 0, .int .i64 0, .int .i64 0] ∧ Blk W w3.heap.size 34 #[.int .i64 0, .int .i64 s1, .int .i64 s2, .int .i64 s3] ∧ Blk W p 36 #[.int .i64 ((la : Int) + lb), .int .i64 qc1, .int .i64 qc2, .int .i64 qc3, .string HC, .string TB])
    case first =>
      have C3 := b3.c6
      have C8 := hp.c6
      by_cases hl : la < 3
      · have hl' : (la : Int) < 3 := by omega
        have hsz : HA.size + HB.size ≤ 9223372036854775807 := by omega
        have ap1 := AP1.out
        have e := HH1.out hl
        go_wp2_with fail
        refine (HD.out _).mono ?_
        rintro e wh ⟨rfl, rfl⟩
        dsimp only
        go_wp2_with fail
        go_meet
        case rel =>
          refine ⟨(by (repeat (with_reducible first | assumption | exact bl_refl _ | refine bl_alloc ?_ | refine bl_iter ?_ | refine bl_drew ?_ | refine bl_drewN ?_ | refine bl_bytes ?_ | refine bl_set ?_ ?_ | refine bl_trans ?_ (by assumption))) <;> first | exact Nat.le_refl _ | (simp; done) | (simp; omega) | omega), (by (repeat (with_reducible first | assumption | (refine Blk.new _ _ _ ?_; first | rfl | (simp; done)) | refine Blk.alloc ?_ _ | refine Blk.drew ?_ | refine Blk.other ?_ ?_ _ | refine Blk.below ?_ (by assumption))) <;> first | rfl | (simp; done) | (simp; omega) | omega), (by (repeat (with_reducible first | assumption | (refine Blk.new _ _ _ ?_; first | rfl | (simp; done)) | refine Blk.alloc ?_ _ | refine Blk.drew ?_ | refine Blk.other ?_ ?_ _ | refine Blk.below ?_ (by assumption))) <;> first | rfl | (simp; done) | (simp; omega) | omega), (by (repeat (with_reducible first | assumption | (refine Blk.new _ _ _ ?_; first | rfl | (simp; done)) | refine Blk.alloc ?_ _ | refine Blk.drew ?_ | refine Blk.other ?_ ?_ _ | refine Blk.below ?_ (by assumption))) <;> first | rfl | (simp; done) | (simp; omega) | omega), (by (repeat (with_reducible first | assumption | (refine Blk.new _ _ _ ?_; first | rfl | (simp; done)) | refine Blk.alloc ?_ _ | refine Blk.drew ?_ | refine Blk.other ?_ ?_ _ | refine Blk.below ?_ (by assumption))) <;> first | rfl | (simp; done) | (simp; omega) | omega), (by (repeat (with_reducible first | assumption | (refine Blk.new _ _ _ ?_; first | rfl | (simp; done)) | refine Blk.alloc ?_ _ | refine Blk.drew ?_ | refine Blk.other ?_ ?_ _ | refine Blk.below ?_ (by assumption))) <;> first | rfl | (simp; done) | (simp; omega) | omega), ?_⟩
          rw [e]
          exact hp.set 4 _
      · have hl' : ¬ (la : Int) < 3 := by omega
        have e := HH2.out hl
        go_wp2_with fail
        go_meet
        case rel => exact ⟨(by (repeat (with_reducible first | assumption | exact bl_refl _ | refine bl_alloc ?_ | refine bl_iter ?_ | refine bl_drew ?_ | refine bl_drewN ?_ | refine bl_bytes ?_ | refine bl_set ?_ ?_ | refine bl_trans ?_ (by assumption))) <;> first | exact Nat.le_refl _ | (simp; done) | (simp; omega) | omega), (by (repeat (with_reducible first | assumption | (refine Blk.new _ _ _ ?_; first | rfl | (simp; done)) | refine Blk.alloc ?_ _ | refine Blk.drew ?_ | refine Blk.other ?_ ?_ _ | refine Blk.below ?_ (by assumption))) <;> first | rfl | (simp; done) | (simp; omega) | omega), (by (repeat (with_reducible first | assumption | (refine Blk.new _ _ _ ?_; first | rfl | (simp; done)) | refine Blk.alloc ?_ _ | refine Blk.drew ?_ | refine Blk.other ?_ ?_ _ | refine Blk.below ?_ (by assumption))) <;> first | rfl | (simp; done) | (simp; omega) | omega), (by (repeat (with_reducible first | assumption | (refine Blk.new _ _ _ ?_; first | rfl | (simp; done)) | refine Blk.alloc ?_ _ | refine Blk.drew ?_ | refine Blk.other ?_ ?_ _ | refine Blk.below ?_ (by assumption))) <;> first | rfl | (simp; done) | (simp; omega) | omega), (by (repeat (with_reducible first | assumption | (refine Blk.new _ _ _ ?_; first | rfl | (simp; done)) | refine Blk.alloc ?_ _ | refine Blk.drew ?_ | refine Blk.other ?_ ?_ _ | refine Blk.below ?_ (by assumption))) <;> first | rfl | (simp; done) | (simp; omega) | omega), (by (repeat (with_reducible first | assumption | (refine Blk.new _ _ _ ?_; first | rfl | (simp; done)) | refine Blk.alloc ?_ _ | refine Blk.drew ?_ | refine Blk.other ?_ ?_ _ | refine Blk.below ?_ (by assumption))) <;> first | rfl | (simp; done) | (simp; omega) | omega), by rw [e]; exact hp⟩
    case rest =>
      clear hBA b2 b3 b4 b5 b7 hp C2
      obtain ⟨hBA, b2, b3, b4, b5, b7, hp⟩ := hcut
      have C3 := b3.c6
      go_upto_if 60 with (fail)
      go_cut [] from 9 (fun W => Below w.heap.size w W ∧ Blk W w.heap.size 36 #[.int .i64 (la : Int), .int .i64 qa1, .int .i64 qa2, .int .i64 qa3, .string HA, .string TA] ∧ Blk W (w.heap.size + 1) 36 #[.int .i64 (lb : Int), .int .i64 qb1, .int .i64 qb2, .int .i64 qb3, .string HB, .string TB] ∧ Blk W (w.heap.size + 1 + 1) 36 #[.int .i64 0, .int .i64 0, .int .i64 0, .int .i64 0, .string { data := #[] }, .string { data := #[] }] ∧ Blk W (w.heap.size + 1 + 1 + 1) 34 #[.int .i64 0, .int .i64 0, .int .i64 0, .int .i64 0] ∧ Blk W w3.heap.size 34 #[.int .i64 0, .int .i64 s1, .int .i64 s2, .int .i64 s3] ∧ Blk W p 36 #[.int .i64 ((la : Int) + lb), .int .i64 qc1, .int .i64 qc2, .int .i64 qc3, .string HC, .string TC])
      case first =>
        have C2 := b2.c6
        have C8 := hp.c6
        by_cases hl : lb < 3
        · have hl' : (lb : Int) < 3 := by omega
          have hsz : TA.size + TB.size ≤ 9223372036854775807 := by omega
          have ap2 := AP2.out
          have e := HT1.out hl
          go_wp2_with fail
          refine (TL.out _).mono ?_
          rintro e wh ⟨rfl, rfl⟩
          dsimp only
          go_wp2_with fail
          go_meet
          case rel =>
            refine ⟨(by (repeat (with_reducible first | assumption | exact bl_refl _ | refine bl_alloc ?_ | refine bl_iter ?_ | refine bl_drew ?_ | refine bl_drewN ?_ | refine bl_bytes ?_ | refine bl_set ?_ ?_ | refine bl_trans ?_ (by assumption))) <;> first | exact Nat.le_refl _ | (simp; done) | (simp; omega) | omega), (by (repeat (with_reducible first | assumption | (refine Blk.new _ _ _ ?_; first | rfl | (simp; done)) | refine Blk.alloc ?_ _ | refine Blk.drew ?_ | refine Blk.other ?_ ?_ _ | refine Blk.below ?_ (by assumption))) <;> first | rfl | (simp; done) | (simp; omega) | omega), (by (repeat (with_reducible first | assumption | (refine Blk.new _ _ _ ?_; first | rfl | (simp; done)) | refine Blk.alloc ?_ _ | refine Blk.drew ?_ | refine Blk.other ?_ ?_ _ | refine Blk.below ?_ (by assumption))) <;> first | rfl | (simp; done) | (simp; omega) | omega), (by (repeat (with_reducible first | assumption | (refine Blk.new _ _ _ ?_; first | rfl | (simp; done)) | refine Blk.alloc ?_ _ | refine Blk.drew ?_ | refine Blk.other ?_ ?_ _ | refine Blk.below ?_ (by assumption))) <;> first | rfl | (simp; done) | (simp; omega) | omega), (by (repeat (with_reducible first | assumption | (refine Blk.new _ _ _ ?_; first | rfl | (simp; done)) | refine Blk.alloc ?_ _ | refine Blk.drew ?_ | refine Blk.other ?_ ?_ _ | refine Blk.below ?_ (by assumption))) <;> first | rfl | (simp; done) | (simp; omega) | omega), (by (repeat (with_reducible first | assumption | (refine Blk.new _ _ _ ?_; first | rfl | (simp; done)) | refine Blk.alloc ?_ _ | refine Blk.drew ?_ | refine Blk.other ?_ ?_ _ | refine Blk.below ?_ (by assumption))) <;> first | rfl | (simp; done) | (simp; omega) | omega), ?_⟩
            rw [e]
            exact hp.set 5 _
        · have hl' : ¬ (lb : Int) < 3 := by omega
          have e := HT2.out hl
          go_wp2_with fail
          go_meet
          case rel => exact ⟨(by (repeat (with_reducible first | assumption | exact bl_refl _ | refine bl_alloc ?_ | refine bl_iter ?_ | refine bl_drew ?_ | refine bl_drewN ?_ | refine bl_bytes ?_ | refine bl_set ?_ ?_ | refine bl_trans ?_ (by assumption))) <;> first | exact Nat.le_refl _ | (simp; done) | (simp; omega) | omega), (by (repeat (with_reducible first | assumption | (refine Blk.new _ _ _ ?_; first | rfl | (simp; done)) | refine Blk.alloc ?_ _ | refine Blk.drew ?_ | refine Blk.other ?_ ?_ _ | refine Blk.below ?_ (by assumption))) <;> first | rfl | (simp; done) | (simp; omega) | omega), (by (repeat (with_reducible first | assumption | (refine Blk.new _ _ _ ?_; first | rfl | (simp; done)) | refine Blk.alloc ?_ _ | refine Blk.drew ?_ | refine Blk.other ?_ ?_ _ | refine Blk.below ?_ (by assumption))) <;> first | rfl | (simp; done) | (simp; omega) | omega), (by (repeat (with_reducible first | assumption | (refine Blk.new _ _ _ ?_; first | rfl | (simp; done)) | refine Blk.alloc ?_ _ | refine Blk.drew ?_ | refine Blk.other ?_ ?_ _ | refine Blk.below ?_ (by assumption))) <;> first | rfl | (simp; done) | (simp; omega) | omega), (by (repeat (with_reducible first | assumption | (refine Blk.new _ _ _ ?_; first | rfl | (simp; done)) | refine Blk.alloc ?_ _ | refine Blk.drew ?_ | refine Blk.other ?_ ?_ _ | refine Blk.below ?_ (by assumption))) <;> first | rfl | (simp; done) | (simp; omega) | omega), (by (repeat (with_reducible first | assumption | (refine Blk.new _ _ _ ?_; first | rfl | (simp; done)) | refine Blk.alloc ?_ _ | refine Blk.drew ?_ | refine Blk.other ?_ ?_ _ | refine Blk.below ?_ (by assumption))) <;> first | rfl | (simp; done) | (simp; omega) | omega), by rw [e]; exact hp⟩
      case rest =>
        clear hBA b2 b3 b4 b5 b7 hp C3
        obtain ⟨hBA, b2, b3, b4, b5, b7, hp⟩ := hcut
        clear b2 b3
        have C8 := hp.c6
        go_wp2_with fail
        refine (VC.out _ hBA).mono ?_
        rintro e wv ⟨rfl, hb⟩
        clear C8
        replace hBA := bl_trans hBA hb
        replace b4 := b4.below hb
        replace b5 := b5.below hb
        replace b7 := b7.below hb
        replace hp := hp.below hb
        clear hb
        dsimp only
        go_wp2_with fail
        refine rm_begin (fun W => Below w.heap.size w W ∧ Blk W p 36 #[.int .i64 ((la : Int) + lb), .int .i64 qc1, .int .i64 qc2, .int .i64 qc3, .string HC, .string TC] ∧ Blk W w3.heap.size 34 #[.int .i64 0, .int .i64 s1, .int .i64 s2, .int .i64 s3]) (by kernel_rfl) (by exact ⟨bl_drew hBA, hp, b7⟩) fun K hK w0 hE hS => ?_
        have hv0 : Ltr wv w0 := by rw [hE]; exact bl_drew (bl_refl _)
        have hz0 := hv0.size
        have hd4 := b4.lt; have hd5 := b5.lt
        clear hE
        refine rm_take 0 (some 73) (.agg #[.int .i64 ((la : Int) + lb), .int .i64 qc1, .int .i64 qc2, .int .i64 qc3, .string HC, .string TC]) (oi := { dst := some 73, op := Go.Op.load 36 (Go.Operand.tmp 8), type := 36, pos := "weld.go:119", after := #[], guard := none }) rfl rfl (by kernel_rfl) (by kernel_rfl) (by kernel_rfl) (by kernel_rfl) (fun W hW => by (exact ldN 36 _ rfl p 0 rfl (fun _ => by kernel_rfl) [] [.int .i64 ((la : Int) + lb), .int .i64 qc1, .int .i64 qc2, .int .i64 qc3, .string HC, .string TC] [] (by kernel_rfl) ((show _ ∧ _ ∧ _ from hW).2.1) rfl rfl)) ?_
        try simp only [Act.put, List.setIfInBounds_toArray, List.set_cons_zero, List.set_cons_succ]
        refine rm_take 1 (some 74) (.agg #[.int .i64 0, .int .i64 s1, .int .i64 s2, .int .i64 s3]) (oi := { dst := some 74, op := Go.Op.load 34 (Go.Operand.tmp 7), type := 34, pos := "weld.go:119", after := #[{ on := 2, ground := Go.Ground.gcOnly Go.Departure.lateStores }], guard := none }) rfl rfl (by kernel_rfl) (by kernel_rfl) (by kernel_rfl) (by kernel_rfl) (fun W hW => by (exact ldN 34 _ rfl w3.heap.size 0 rfl (fun _ => by kernel_rfl) [] [.int .i64 0, .int .i64 s1, .int .i64 s2, .int .i64 s3] [] (by kernel_rfl) ((show _ ∧ _ ∧ _ from hW).2.2) rfl rfl)) ?_
        try simp only [Act.put, List.setIfInBounds_toArray, List.set_cons_zero, List.set_cons_succ]
        refine rm_pick1 (i := 2) (by kernel_rfl) ?_
        refine rm_store (w.heap.size + 1 + 1) (#[.int .i64 ((la : Int) + lb), .int .i64 qc1, .int .i64 qc2, .int .i64 qc3, .string HC, .string TC]) (oi := { dst := none, op := Go.Op.store 36 (Go.Operand.tmp 4) (Go.Operand.tmp 73), type := 0, pos := "weld.go:119", after := #[{ on := 0, ground := Go.Ground.data }, { on := 0, ground := Go.Ground.phase }, { on := 1, ground := Go.Ground.textOnly Go.Departure.lateStores }], guard := none }) rfl rfl rfl (by kernel_rfl) rfl rfl (by kernel_rfl) (fun W hl hW => b4.below (Ltr.trans hv0 hl)) rfl (by exact fun _ _ hX hU => ⟨hU.below hX.1 (by omega), hX.2.1.upd hU (by omega), hX.2.2.upd hU (by omega)⟩) (by kernel_rfl) fun q1 w1 hq1 hQ1 hU1 hb1 hS => ?_
        try simp only [Act.put, List.setIfInBounds_toArray, List.set_cons_zero, List.set_cons_succ]
        refine rm_pick1 (i := 3) (by kernel_rfl) ?_
        refine rm_store (w.heap.size + 1 + 1 + 1) (#[.int .i64 0, .int .i64 s1, .int .i64 s2, .int .i64 s3]) (oi := { dst := none, op := Go.Op.store 34 (Go.Operand.tmp 5) (Go.Operand.tmp 74), type := 0, pos := "weld.go:119", after := #[{ on := 1, ground := Go.Ground.data }, { on := 2, ground := Go.Ground.chain }, { on := 0, ground := Go.Ground.phase }, { on := 1, ground := Go.Ground.phase }, { on := 2, ground := Go.Ground.phase }], guard := none }) rfl rfl rfl (by kernel_rfl) rfl rfl (by kernel_rfl) (fun W hl hW => ((b5.below (Ltr.trans hv0 hq1)).upd hU1 (by omega)).below hl) rfl (by exact fun _ _ hX hU => ⟨hU.below hX.1 (by omega), hX.2.1.upd hU (by omega), hX.2.2.upd hU (by omega)⟩) (by kernel_rfl) fun q2 w2 hq2 hQ2 hU2 hb2 hS => ?_
        try simp only [Act.put, List.setIfInBounds_toArray, List.set_cons_zero, List.set_cons_succ]
        refine rm_take 4 (some 6) (.int .i64 0) rfl rfl (by kernel_rfl) (by kernel_rfl) (by kernel_rfl) (by kernel_rfl) (fun W hW => by (rfl)) ?_
        try simp only [Act.put, List.setIfInBounds_toArray, List.set_cons_zero, List.set_cons_succ]
        refine rm_done (by kernel_rfl) (fun wz hz hS => hK.out _ _ ?_) _
        clear hK K
        have d4 := (((hb1.below hq2).upd hU2 (by omega)).below hz)
        have d5 := hb2.below hz
        have c4 := d4.c6
        have c5 := d5.c4
        have hq := hS.1
        clear hS
        go_wp2_with fail
        exact bodyPost_ret (v := .tuple #[.agg #[.int .i64 ((la : Int) + lb), .int .i64 qc1, .int .i64 qc2, .int .i64 qc3, .string HC, .string TC], .agg #[.int .i64 0, .int .i64 s1, .int .i64 s2, .int .i64 s3], .int .i64 0]) (by simp [results, Tryd.results85, go_sem, *]) rfl ⟨rfl, (by (repeat (with_reducible first | assumption | exact bl_refl _ | refine bl_alloc ?_ | refine bl_iter ?_ | refine bl_drew ?_ | refine bl_drewN ?_ | refine bl_bytes ?_ | refine bl_set ?_ ?_ | refine bl_trans ?_ (by assumption))) <;> first | exact Nat.le_refl _ | (simp; done) | (simp; omega) | omega)⟩
end Go.Proofs.YtliphfgiaioebaaDoor
