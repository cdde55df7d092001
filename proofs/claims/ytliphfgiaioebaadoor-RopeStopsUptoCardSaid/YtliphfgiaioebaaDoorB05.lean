/-
  Package weld: both, Join.
  Plain laws for a walk that goes operation by operation, each world by a name of its own: the steps of a region in the order of its text; results; loops.
  Package weld: Join; package rope: both.
-/
import Derived.Test.YtliphfgiaioebaaDoorB04
import Derived.Deep.Cut
import Derived.Deep.CutRange
namespace Go.Proofs.YtliphfgiaioebaaDoor
set_option linter.unusedVariables false
set_option linter.unusedSimpArgs false
open Go.RowKit

theorem Tabs.pos {w : World} (h : Tabs w) : 0 < w.heap.size := by
  have := World.block_lt_of_cell? w _ (h.masks 0 _ rfl)
  simp only at this; omega
theorem Blk.c6 {W : World} {B : Nat} {t : TypeId} {a b c d e f : Value} (h : Blk W B t #[a, b, c, d, e, f]) :
    (W.cell? ⟨B, 0, none⟩ = some a ∧ W.cell? ⟨B, 1, none⟩ = some b ∧ W.cell? ⟨B, 2, none⟩ = some c ∧ W.cell? ⟨B, 3, none⟩ = some d ∧ W.cell? ⟨B, 4, none⟩ = some e ∧ W.cell? ⟨B, 5, none⟩ = some f) ∧ ∀ i, W.frozen? ⟨B, i, none⟩ = false :=
  ⟨⟨h.cell 0, h.cell 1, h.cell 2, h.cell 3, h.cell 4, h.cell 5⟩, fun i => h.frozen i⟩
theorem Blk.c4 {W : World} {B : Nat} {t : TypeId} {a b c d : Value} (h : Blk W B t #[a, b, c, d]) :
    (W.cell? ⟨B, 0, none⟩ = some a ∧ W.cell? ⟨B, 1, none⟩ = some b ∧ W.cell? ⟨B, 2, none⟩ = some c ∧ W.cell? ⟨B, 3, none⟩ = some d) ∧ ∀ i, W.frozen? ⟨B, i, none⟩ = false :=
  ⟨⟨h.cell 0, h.cell 1, h.cell 2, h.cell 3⟩, fun i => h.frozen i⟩
theorem seamIn_small (a b : List UInt8) (k : Nat) (hk : k ≤ 3) (s : Int × Int) (h : 0 ≤ s.1 ∧ s.1 ≤ 8 ∧ -2 ≤ s.2 ∧ s.2 ≤ 8) : ∀ j, j ≤ 3 → 0 ≤ (seamIn a b k s j).1 ∧ (seamIn a b k s j).1 ≤ 8 ∧ -2 ≤ (seamIn a b k s j).2 ∧ (seamIn a b k s j).2 ≤ 8
  | 0, _ => h
  | j + 1, hj => by
    unfold seamIn seamStep
    have hu : 1 ≤ unitsOf (valueOf (seamL a b k (j + 1))) ∧ unitsOf (valueOf (seamL a b k (j + 1))) ≤ 2 := by unfold unitsOf; split <;> omega
    split
    · simp only; omega
    · exact seamIn_small a b k hk s h j (by omega)
theorem seamOut_small (a b : List UInt8) (m : Nat) (hm : m ≤ 3) : ∀ k, k ≤ 3 → 0 ≤ (seamOut a b m k).1 ∧ (seamOut a b m k).1 ≤ 8 ∧ -2 ≤ (seamOut a b m k).2 ∧ (seamOut a b m k).2 ≤ 8
  | 0, _ => ⟨Int.le_refl 0, (by decide : (0:Int) ≤ 8), (by decide : (-2:Int) ≤ 0), (by decide : (0:Int) ≤ 8)⟩
  | k + 1, hk => seamIn_small a b (k + 1) hk _ (seamOut_small a b m hm k (by omega)) m hm
theorem seam_small (a b : List UInt8) : (0 ≤ (seamOf a b).1 ∧ (seamOf a b).1 ≤ 8 ∧ -2 ≤ (seamOf a b).2 ∧ (seamOf a b).2 ≤ 8) ∧ 0 ≤ seamE a b ∧ seamE a b ≤ 1 :=
  ⟨seamOut_small a b _ (by omega) _ (by omega), by unfold seamE; split <;> omega⟩
set_option maxRecDepth 100000 in
set_option maxHeartbeats 8000000 in
theorem both_any (a b : List UInt8) (hm : a.length + b.length ≤ 268435456) (w : World) (hT : Tabs w) :
    Calls Tryd.prog 85 #[(weldOf a).val, (weldOf b).val] w fun e w' => e = .returned (.tuple #[(weldOf (a ++ b)).val, szV 0 (seamOf a b).1 (seamOf a b).2 (seamE a b), .int .i64 0]) ∧ Below w.heap.size w w' := by
  have hVa := fun W (h : Below w.heap.size w W) => Valid_any a (by omega) W (hT.below h) (hT.below h).pos
  have hVb := fun W (h : Below w.heap.size w W) => Valid_any b (by omega) W (hT.below h) (hT.below h).pos
  have hVc := fun W (h : Below w.heap.size w W) => Valid_any (a ++ b) (by rw [List.length_append]; exact hm) W (hT.below h) (hT.below h).pos
  have hSm := fun W (h : Below w.heap.size w W) => seam_any a b (by omega) (by omega) W (hT.below h)
  have hW := weldOf_append a b
  have ba := sizes_bounds a
  have bb := sizes_bounds b
  have bc := sizes_bounds (a ++ b)
  rw [List.length_append] at bc
  have hj := join_runes a b
  have he := ends_append a b
  have sb := seam_small a b
  have hh := headOf_append a b
  have ht := tailOf_append a b
  have hhd := fun W => head_any (headOf a ++ headOf b) W (by rw [List.length_append, headOf_len, headOf_len]; omega)
  have htl := fun W => tail_any (tailOf a ++ tailOf b) W (by rw [List.length_append, tailOf_len, tailOf_len]; omega)
  have z1 := bs_size (headOf a)
  have z2 := bs_size (headOf b)
  have z3 := bs_size (tailOf a)
  have z4 := bs_size (tailOf b)
  rw [headOf_len] at z1 z2
  rw [tailOf_len] at z3 z4
  have ap1 := bs_append (headOf a) (headOf b)
  have ap2 := bs_append (tailOf a) (tailOf b)
  have hh1 : a.length < 3 → bs (headOf (a ++ b)) = bs ((headOf a ++ headOf b).take 3) := fun h => by rw [hh, if_pos h]
  have hh2 : ¬ a.length < 3 → bs (headOf (a ++ b)) = bs (headOf a) := fun h => by rw [hh, if_neg h]
  have ht1 : b.length < 3 → bs (tailOf (a ++ b)) = bs (tailOf (tailOf a ++ tailOf b)) := fun h => by rw [ht, if_pos h]
  have ht2 : ¬ b.length < 3 → bs (tailOf (a ++ b)) = bs (tailOf b) := fun h => by rw [ht, if_neg h]
  clear hh ht hW
  rw [weldOf_val, weldOf_val, weldOf_val] at *
  rw [List.length_append] at *
  generalize bs (headOf a ++ headOf b) = HAB at *
  generalize bs (tailOf a ++ tailOf b) = TAB at *
  generalize bs ((headOf a ++ headOf b).take 3) = HR at *
  generalize bs (tailOf (tailOf a ++ tailOf b)) = TR at *
  generalize runesN a = qa1 at *
  generalize unitsN a = qa2 at *
  generalize endsN a = qa3 at *
  generalize runesN b = qb1 at *
  generalize unitsN b = qb2 at *
  generalize endsN b = qb3 at *
  generalize bs (headOf a) = HA at *
  generalize bs (tailOf a) = TA at *
  generalize bs (headOf b) = HB at *
  generalize bs (tailOf b) = TB at *
  generalize runesN (a ++ b) = qc1 at *
  generalize unitsN (a ++ b) = qc2 at *
  generalize endsN (a ++ b) = qc3 at *
  generalize bs (headOf (a ++ b)) = HC at *
  generalize bs (tailOf (a ++ b)) = TC at *
  generalize (seamOf a b).1 = s1 at *
  generalize (seamOf a b).2 = s2 at *
  generalize seamE a b = s3 at *
  generalize a.length = la at *
  generalize b.length = lb at *
  have hml : (la : Int) ≤ 268435456 ∧ (lb : Int) ≤ 268435456 ∧ (la : Int) + lb ≤ 268435456 ∧ 0 ≤ (la : Int) ∧ 0 ≤ (lb : Int) := by clear ba bb bc hj he sb z1 z2 z3 z4; omega
  have Ba : 0 ≤ qa1 ∧ qa1 ≤ 268435456 ∧ 0 ≤ qa2 ∧ qa2 ≤ 536870912 ∧ 0 ≤ qa3 ∧ qa3 ≤ 268435456 := by clear bb bc hj he sb z1 z2 z3 z4; omega
  have Bb : 0 ≤ qb1 ∧ qb1 ≤ 268435456 ∧ 0 ≤ qb2 ∧ qb2 ≤ 536870912 ∧ 0 ≤ qb3 ∧ qb3 ≤ 268435456 := by clear ba bc hj he sb z1 z2 z3 z4; omega
  obtain ⟨hj1, hj2⟩ := hj
  obtain ⟨sb1, sb2⟩ := sb
  have Z := Lib.hid (And.intro z1 (And.intro z2 (And.intro z3 z4)))
  clear ba bb bc z1 z2 z3 z4
  have hS1 := fun W => sum_any la qa1 qa2 qa3 lb qb1 qb2 qb3 1 ((la : Int) + lb) (qa1 + qb1) (qa2 + qb2) (qa3 + qb3) W (by omega) (by omega) (by omega) (by omega) (by omega) (by omega) (by omega) (by omega) (by omega) (by omega) (by omega) (by omega)
  have hS2 := fun W => sum_any ((la : Int) + lb) (qa1 + qb1) (qa2 + qb2) (qa3 + qb3) 0 s1 s2 s3 (-1) ((la : Int) + lb) qc1 qc2 qc3 W (by omega) (by omega) (by omega) (by omega) (by omega) (by omega) (by omega) (by omega) (by omega) (by omega) (by omega) (by omega)
  unfold szV at *
  have h0 : ¬ ((268435456 : Int) < (la : Int) + lb) := by omega
  have h1 : IntKind.i64.wrap ((la : Int) + lb) = (la : Int) + lb := IntWalk.i64_in _ (by omega)
  rw [show ((la + lb : Nat) : Int) = (la : Int) + lb from by omega] at *
  generalize qa1 + qb1 = d1 at *
  generalize qa2 + qb2 = d2 at *
  generalize qa3 + qb3 = d3 at *
  have VA := Lib.hid hVa
  have VB := Lib.hid hVb
  have VC := Lib.hid hVc
  have SM := Lib.hid hSm
  have S1 := Lib.hid hS1
  have S2 := Lib.hid hS2
  have HD := Lib.hid hhd
  have TL := Lib.hid htl
  have AP1 := Lib.hid ap1
  have AP2 := Lib.hid ap2
  have HH1 := Lib.hid hh1
  have HH2 := Lib.hid hh2
  have HT1 := Lib.hid ht1
  have HT2 := Lib.hid ht2
  obtain ⟨z1, z2, z3, z4⟩ := Z.out
  clear hVa hVb hVc hSm hS1 hS2 hhd htl ap1 ap2 hh1 hh2 ht1 ht2 hj1 hj2 he sb1 sb2 hT Ba Bb Z
  go_enter Tryd.func85, Tryd.ntmps85
  go_wp2_with fail
  refine (VA.out _ (by (repeat (with_reducible first | assumption | exact bl_refl _ | refine bl_alloc ?_ | refine bl_iter ?_ | refine bl_drew ?_ | refine bl_drewN ?_ | refine bl_bytes ?_ | refine bl_set ?_ ?_ | refine bl_trans ?_ (by assumption))) <;> first | exact Nat.le_refl _ | (simp; done) | (simp; omega) | omega)).mono ?_
  rintro e w1 ⟨rfl, hb⟩
  have hB : Below w.heap.size w w1 := (by (repeat (with_reducible first | assumption | exact bl_refl _ | refine bl_alloc ?_ | refine bl_iter ?_ | refine bl_drew ?_ | refine bl_drewN ?_ | refine bl_bytes ?_ | refine bl_set ?_ ?_ | refine bl_trans ?_ (by assumption))) <;> first | exact Nat.le_refl _ | (simp; done) | (simp; omega) | omega)
  have b2 : Blk w1 w.heap.size 36 #[.int .i64 (la : Int), .int .i64 qa1, .int .i64 qa2, .int .i64 qa3, .string HA, .string TA] := Blk.below (by (repeat (with_reducible first | assumption | (refine Blk.new _ _ _ ?_; first | rfl | (simp; done)) | refine Blk.alloc ?_ _ | refine Blk.drew ?_ | refine Blk.other ?_ ?_ _ | refine Blk.below ?_ (by assumption))) <;> first | rfl | (simp; done) | (simp; omega) | omega) hb
  have b3 : Blk w1 (w.heap.size + 1) 36 #[.int .i64 (lb : Int), .int .i64 qb1, .int .i64 qb2, .int .i64 qb3, .string HB, .string TB] := Blk.below (by (repeat (with_reducible first | assumption | (refine Blk.new _ _ _ ?_; first | rfl | (simp; done)) | refine Blk.alloc ?_ _ | refine Blk.drew ?_ | refine Blk.other ?_ ?_ _ | refine Blk.below ?_ (by assumption))) <;> first | rfl | (simp; done) | (simp; omega) | omega) hb
  have b4 : Blk w1 (w.heap.size + 1 + 1) 36 #[.int .i64 0, .int .i64 0, .int .i64 0, .int .i64 0, .string { data := #[] }, .string { data := #[] }] := Blk.below (by (repeat (with_reducible first | assumption | (refine Blk.new _ _ _ ?_; first | rfl | (simp; done)) | refine Blk.alloc ?_ _ | refine Blk.drew ?_ | refine Blk.other ?_ ?_ _ | refine Blk.below ?_ (by assumption))) <;> first | rfl | (simp; done) | (simp; omega) | omega) hb
  have b5 : Blk w1 (w.heap.size + 1 + 1 + 1) 34 #[.int .i64 0, .int .i64 0, .int .i64 0, .int .i64 0] := Blk.below (by (repeat (with_reducible first | assumption | (refine Blk.new _ _ _ ?_; first | rfl | (simp; done)) | refine Blk.alloc ?_ _ | refine Blk.drew ?_ | refine Blk.other ?_ ?_ _ | refine Blk.below ?_ (by assumption))) <;> first | rfl | (simp; done) | (simp; omega) | omega) hb
  clear hb
  have C2 := b2.c6
  have C3 := b3.c6
  dsimp only
  go_wp2_with fail
  refine (VB.out _ hB).mono ?_
  rintro e w2 ⟨rfl, hb⟩
  clear C2 C3
  replace hB := bl_trans hB hb
  replace b2 := b2.below hb
  replace b3 := b3.below hb
  replace b4 := b4.below hb
  replace b5 := b5.below hb
  clear hb
  have C2 := b2.c6
  have C3 := b3.c6
  dsimp only
  go_wp2_with fail
  refine (SM.out _ hB).mono ?_
  rintro e w3 ⟨rfl, hb⟩
  clear C2 C3
  replace hB := bl_trans hB hb
  replace b2 := b2.below hb
  replace b3 := b3.below hb
  replace b4 := b4.below hb
  replace b5 := b5.below hb
  clear hb
  have l53 := b5.lt
  dsimp only
  go_wp2_with fail
  generalize hWA : w3.alloc _ = WA
  have hz : WA.heap.size = w3.heap.size + 1 := by rw [← hWA]; simp
  have hBA : Below w.heap.size w WA := by rw [← hWA]; exact (by (repeat (with_reducible first | assumption | exact bl_refl _ | refine bl_alloc ?_ | refine bl_iter ?_ | refine bl_drew ?_ | refine bl_drewN ?_ | refine bl_bytes ?_ | refine bl_set ?_ ?_ | refine bl_trans ?_ (by assumption))) <;> first | exact Nat.le_refl _ | (simp; done) | (simp; omega) | omega)
  replace b2 := b2.alloc (.cells #[.int .i64 0, .int .i64 s1, .int .i64 s2, .int .i64 s3] 34)
  rw [hWA] at b2
  replace b3 := b3.alloc (.cells #[.int .i64 0, .int .i64 s1, .int .i64 s2, .int .i64 s3] 34)
  rw [hWA] at b3
  replace b4 := b4.alloc (.cells #[.int .i64 0, .int .i64 s1, .int .i64 s2, .int .i64 s3] 34)
  rw [hWA] at b4
  replace b5 := b5.alloc (.cells #[.int .i64 0, .int .i64 s1, .int .i64 s2, .int .i64 s3] 34)
  rw [hWA] at b5
  have b7 : Blk WA w3.heap.size 34 #[.int .i64 0, .int .i64 s1, .int .i64 s2, .int .i64 s3] := by rw [← hWA]; exact Blk.new _ _ _ rfl
  have l5 := b5.lt
  clear hWA hB
  go_cut [8] from 9 (fun v8 W => ∃ p, v8 = .pointer (some ⟨p, 0, none⟩) ∧ WA.heap.size ≤ p ∧ Below WA.heap.size WA W ∧ Blk W p 36 #[.int .i64 ((la : Int) + lb), .int .i64 qc1, .int .i64 qc2, .int .i64 qc3, .string HA, .string TB])
  case first =>
    have KC2 := Lib.hid (fun W (h : Below WA.heap.size WA W) => (b2.below h).c6)
    have KC3 := Lib.hid (fun W (h : Below WA.heap.size WA W) => (b3.below h).c6)
    have KC7 := Lib.hid (fun W (h : Below WA.heap.size WA W) => (b7.below h).c4)
    refine reh_begin (fun W => Below WA.heap.size WA W) (by kernel_rfl) (by exact (by (repeat (with_reducible first | assumption | exact bl_refl _ | refine bl_alloc ?_ | refine bl_iter ?_ | refine bl_drew ?_ | refine bl_drewN ?_ | refine bl_bytes ?_ | refine bl_set ?_ ?_ | refine bl_trans ?_ (by assumption))) <;> first | exact Nat.le_refl _ | (simp; done) | (simp; omega) | omega)) fun K hK w0 hE hS => ?_
    clear hE
    refine reg_take 0 (some 34) (.pointer (some ⟨w.heap.size, 0, none⟩)) rfl rfl (by kernel_rfl) (by kernel_rfl) (by kernel_rfl) (by kernel_rfl) (fun W hW => by (rfl)) hS ?_
    try simp only [pp]
    refine reg_take 1 (some 35) (.agg #[.int .i64 la, .int .i64 qa1, .int .i64 qa2, .int .i64 qa3]) (oi := { dst := some 35, op := Go.Op.load 34 (Go.Operand.tmp 34), type := 34, pos := "weld.go:109", after := #[{ on := 0, ground := Go.Ground.data }], guard := none }) rfl rfl (by kernel_rfl) (by kernel_rfl) (by kernel_rfl) (by kernel_rfl) (fun W hW => by (have hx := KC2.out W hW; go_simp)) hS ?_
    try simp only [pp]
    refine reg_take 2 (some 36) (.pointer (some ⟨w.heap.size + 1, 0, none⟩)) rfl rfl (by kernel_rfl) (by kernel_rfl) (by kernel_rfl) (by kernel_rfl) (fun W hW => by (rfl)) hS ?_
    try simp only [pp]
    refine reg_take 3 (some 37) (.agg #[.int .i64 lb, .int .i64 qb1, .int .i64 qb2, .int .i64 qb3]) (oi := { dst := some 37, op := Go.Op.load 34 (Go.Operand.tmp 36), type := 34, pos := "weld.go:109", after := #[{ on := 2, ground := Go.Ground.data }], guard := none }) rfl rfl (by kernel_rfl) (by kernel_rfl) (by kernel_rfl) (by kernel_rfl) (fun W hW => by (have hx := KC3.out W hW; go_simp)) hS ?_
    try simp only [pp]
    refine reg_take 5 (some 39) (.agg #[.int .i64 0, .int .i64 s1, .int .i64 s2, .int .i64 s3]) (oi := { dst := some 39, op := Go.Op.load 34 (Go.Operand.tmp 7), type := 34, pos := "weld.go:109", after := #[], guard := none }) rfl rfl (by kernel_rfl) (by kernel_rfl) (by kernel_rfl) (by kernel_rfl) (fun W hW => by (have hx := KC7.out W hW; go_simp)) hS ?_
    try simp only [pp]
    refine reg_take 7 (some 41) (.pointer (some ⟨w.heap.size, 4, none⟩)) rfl rfl (by kernel_rfl) (by kernel_rfl) (by kernel_rfl) (by kernel_rfl) (fun W hW => by (rfl)) hS ?_
    try simp only [pp]
    refine reg_take 8 (some 42) (.string HA) (oi := { dst := some 42, op := Go.Op.load 9 (Go.Operand.tmp 41), type := 9, pos := "weld.go:109", after := #[{ on := 7, ground := Go.Ground.data }], guard := none }) rfl rfl (by kernel_rfl) (by kernel_rfl) (by kernel_rfl) (by kernel_rfl) (fun W hW => by (have hx := KC2.out W hW; go_simp)) hS ?_
    try simp only [pp]
    refine reg_take 9 (some 43) (.pointer (some ⟨w.heap.size + 1, 5, none⟩)) rfl rfl (by kernel_rfl) (by kernel_rfl) (by kernel_rfl) (by kernel_rfl) (fun W hW => by (rfl)) hS ?_
    try simp only [pp]
    refine reg_take 10 (some 44) (.string TB) (oi := { dst := some 44, op := Go.Op.load 9 (Go.Operand.tmp 43), type := 9, pos := "weld.go:109", after := #[{ on := 9, ground := Go.Ground.data }], guard := none }) rfl rfl (by kernel_rfl) (by kernel_rfl) (by kernel_rfl) (by kernel_rfl) (fun W hW => by (have hx := KC3.out W hW; go_simp)) hS ?_
    try simp only [pp]
    refine pick2 (i := 4) (j := 12) (by kernel_rfl) ?_ ?_
    · refine pick_call (some 38) (.agg #[.int .i64 ((la : Int) + lb), .int .i64 d1, .int .i64 d2, .int .i64 d3]) 110 #[.agg #[.int .i64 la, .int .i64 qa1, .int .i64 qa2, .int .i64 qa3], .agg #[.int .i64 lb, .int .i64 qb1, .int .i64 qb2, .int .i64 qb3], .int .i64 1] (oi := { dst := some 38, op := Go.Op.call { callee := Go.Callee.value (Go.Operand.func 110), args := #[Go.Operand.tmp 35, Go.Operand.tmp 37, Go.Operand.const (Go.Value.int Go.IntKind.i64 1)], argTypes := #[34, 34, 3] }, type := 34, pos := "weld.go:109", after := #[{ on := 1, ground := Go.Ground.data }, { on := 3, ground := Go.Ground.data }], guard := none }) rfl rfl (by kernel_rfl) (by first | rfl | go_simp) ?_ (fun w' hR => ?_) fun w1 hR hS => ?_
      · exact S1.out _
      · exact bl_trans hS hR
      try replace hp := hp.below hR
      skip
      try simp only [pp]
      refine pick2 (i := 6) (j := 12) (by kernel_rfl) ?_ ?_
      · refine pick_call (some 40) (.agg #[.int .i64 ((la : Int) + lb), .int .i64 qc1, .int .i64 qc2, .int .i64 qc3]) 110 #[.agg #[.int .i64 ((la : Int) + lb), .int .i64 d1, .int .i64 d2, .int .i64 d3], .agg #[.int .i64 0, .int .i64 s1, .int .i64 s2, .int .i64 s3], .int .i64 (-1)] (oi := { dst := some 40, op := Go.Op.call { callee := Go.Callee.value (Go.Operand.func 110), args := #[Go.Operand.tmp 38, Go.Operand.tmp 39, Go.Operand.const (Go.Value.int Go.IntKind.i64 (-1))], argTypes := #[34, 34, 3] }, type := 34, pos := "weld.go:109", after := #[{ on := 4, ground := Go.Ground.data }, { on := 5, ground := Go.Ground.data }, { on := 4, ground := Go.Ground.chain }], guard := none }) rfl rfl (by kernel_rfl) (by first | rfl | go_simp) ?_ (fun w' hR => ?_) fun w2 hR hS => ?_
        · exact S2.out _
        · exact bl_trans hS hR
        try replace hp := hp.below hR
        skip
        try simp only [pp]
        refine reg_take 11 (some 45) (.agg #[.int .i64 ((la : Int) + lb), .int .i64 qc1, .int .i64 qc2, .int .i64 qc3, .string HA, .string TB]) (oi := { dst := some 45, op := Go.Op.build 36 #[(0, Go.Operand.tmp 40), (1, Go.Operand.tmp 42), (2, Go.Operand.tmp 44)], type := 36, pos := "weld.go:109", after := #[{ on := 6, ground := Go.Ground.data }, { on := 8, ground := Go.Ground.data }, { on := 10, ground := Go.Ground.data }], guard := none }) rfl rfl (by kernel_rfl) (by kernel_rfl) (by kernel_rfl) (by kernel_rfl) (fun W hW => by (first | rfl | go_simp)) hS ?_
        try simp only [pp]
        refine pick1 (i := 12) (by kernel_rfl) ?_
        refine pick_one (oi := { dst := some 8, op := Go.Op.alloc 36, type := 0, pos := "weld.go:109", after := #[], guard := none }) rfl (by kernel_rfl) fun K' hK' => ?_
        go_simp
        refine hK'.out _ _ ?_ (fun w3 hE hS => ?_)
        · exact (by (repeat (with_reducible first | assumption | exact bl_refl _ | refine bl_alloc ?_ | refine bl_iter ?_ | refine bl_drew ?_ | refine bl_drewN ?_ | refine bl_bytes ?_ | refine bl_set ?_ ?_ | refine bl_trans ?_ (by assumption))) <;> first | exact Nat.le_refl _ | (simp; done) | (simp; omega) | omega)
        clear hK' K'
        (have hp : Blk w3 w2.heap.size 36 #[.int .i64 0, .int .i64 0, .int .i64 0, .int .i64 0, .string { data := #[] }, .string { data := #[] }] := (by rw [hE]; exact Blk.new _ _ _ rfl)); (have hge : WA.heap.size ≤ w2.heap.size := (‹Below WA.heap.size WA w2›).size)
        clear hE
        try simp only [pp]
        refine pick1 (i := 13) (by kernel_rfl) ?_
        have hc := hp.c6
        refine pick_one (oi := { dst := none, op := Go.Op.store 36 (Go.Operand.tmp 8) (Go.Operand.tmp 45), type := 0, pos := "weld.go:109", after := #[{ on := 12, ground := Go.Ground.data }, { on := 11, ground := Go.Ground.data }, { on := 6, ground := Go.Ground.chain }, { on := 0, ground := Go.Ground.phase }, { on := 1, ground := Go.Ground.phase }, { on := 2, ground := Go.Ground.phase }, { on := 3, ground := Go.Ground.phase }, { on := 4, ground := Go.Ground.phase }, { on := 5, ground := Go.Ground.phase }, { on := 6, ground := Go.Ground.phase }, { on := 7, ground := Go.Ground.phase }, { on := 8, ground := Go.Ground.phase }, { on := 9, ground := Go.Ground.phase }, { on := 10, ground := Go.Ground.phase }, { on := 11, ground := Go.Ground.phase }, { on := 12, ground := Go.Ground.phase }], guard := none }) rfl (by kernel_rfl) fun K' hK' => ?_
        go_simp
        refine hK'.out _ _ ?_ (fun w4 hE hS => ?_)
        · exact (by (repeat (with_reducible first | assumption | exact bl_refl _ | refine bl_alloc ?_ | refine bl_iter ?_ | refine bl_drew ?_ | refine bl_drewN ?_ | refine bl_bytes ?_ | refine bl_set ?_ ?_ | refine bl_trans ?_ (by assumption))) <;> first | exact Nat.le_refl _ | (simp; done) | (simp; omega) | omega)
        clear hK' K'
        have hp2 : Blk w4 _ _ _ := (by rw [hE]; exact (((((hp.set 0 (.int .i64 ((la : Int) + lb))).set 1 (.int .i64 qc1)).set 2 (.int .i64 qc2)).set 3 (.int .i64 qc3)).set 4 (.string HA)).set 5 (.string TB))
        clear hE
        try simp only [pp]
        refine reg_done (by kernel_rfl) (hK.out _ _ ?_) _
        clear hK K
        (go_wp2_with fail); (go_meet); (case rel => exact ⟨_, rfl, hge, hS, hp2⟩)
      · refine pick_one (oi := { dst := some 8, op := Go.Op.alloc 36, type := 0, pos := "weld.go:109", after := #[], guard := none }) rfl (by kernel_rfl) fun K' hK' => ?_
        go_simp
        refine hK'.out _ _ ?_ (fun w2 hE hS => ?_)
        · exact (by (repeat (with_reducible first | assumption | exact bl_refl _ | refine bl_alloc ?_ | refine bl_iter ?_ | refine bl_drew ?_ | refine bl_drewN ?_ | refine bl_bytes ?_ | refine bl_set ?_ ?_ | refine bl_trans ?_ (by assumption))) <;> first | exact Nat.le_refl _ | (simp; done) | (simp; omega) | omega)
        clear hK' K'
        (have hp : Blk w2 w1.heap.size 36 #[.int .i64 0, .int .i64 0, .int .i64 0, .int .i64 0, .string { data := #[] }, .string { data := #[] }] := (by rw [hE]; exact Blk.new _ _ _ rfl)); (have hge : WA.heap.size ≤ w1.heap.size := (‹Below WA.heap.size WA w1›).size)
        clear hE
        try simp only [pp]
        refine pick1 (i := 6) (by kernel_rfl) ?_
        refine pick_call (some 40) (.agg #[.int .i64 ((la : Int) + lb), .int .i64 qc1, .int .i64 qc2, .int .i64 qc3]) 110 #[.agg #[.int .i64 ((la : Int) + lb), .int .i64 d1, .int .i64 d2, .int .i64 d3], .agg #[.int .i64 0, .int .i64 s1, .int .i64 s2, .int .i64 s3], .int .i64 (-1)] (oi := { dst := some 40, op := Go.Op.call { callee := Go.Callee.value (Go.Operand.func 110), args := #[Go.Operand.tmp 38, Go.Operand.tmp 39, Go.Operand.const (Go.Value.int Go.IntKind.i64 (-1))], argTypes := #[34, 34, 3] }, type := 34, pos := "weld.go:109", after := #[{ on := 4, ground := Go.Ground.data }, { on := 5, ground := Go.Ground.data }, { on := 4, ground := Go.Ground.chain }], guard := none }) rfl rfl (by kernel_rfl) (by first | rfl | go_simp) ?_ (fun w' hR => ?_) fun w3 hR hS => ?_
        · exact S2.out _
        · exact bl_trans hS hR
        try replace hp := hp.below hR
        skip
        try simp only [pp]
        refine reg_take 11 (some 45) (.agg #[.int .i64 ((la : Int) + lb), .int .i64 qc1, .int .i64 qc2, .int .i64 qc3, .string HA, .string TB]) (oi := { dst := some 45, op := Go.Op.build 36 #[(0, Go.Operand.tmp 40), (1, Go.Operand.tmp 42), (2, Go.Operand.tmp 44)], type := 36, pos := "weld.go:109", after := #[{ on := 6, ground := Go.Ground.data }, { on := 8, ground := Go.Ground.data }, { on := 10, ground := Go.Ground.data }], guard := none }) rfl rfl (by kernel_rfl) (by kernel_rfl) (by kernel_rfl) (by kernel_rfl) (fun W hW => by (first | rfl | go_simp)) hS ?_
        try simp only [pp]
        refine pick1 (i := 13) (by kernel_rfl) ?_
        have hc := hp.c6
        refine pick_one (oi := { dst := none, op := Go.Op.store 36 (Go.Operand.tmp 8) (Go.Operand.tmp 45), type := 0, pos := "weld.go:109", after := #[{ on := 12, ground := Go.Ground.data }, { on := 11, ground := Go.Ground.data }, { on := 6, ground := Go.Ground.chain }, { on := 0, ground := Go.Ground.phase }, { on := 1, ground := Go.Ground.phase }, { on := 2, ground := Go.Ground.phase }, { on := 3, ground := Go.Ground.phase }, { on := 4, ground := Go.Ground.phase }, { on := 5, ground := Go.Ground.phase }, { on := 6, ground := Go.Ground.phase }, { on := 7, ground := Go.Ground.phase }, { on := 8, ground := Go.Ground.phase }, { on := 9, ground := Go.Ground.phase }, { on := 10, ground := Go.Ground.phase }, { on := 11, ground := Go.Ground.phase }, { on := 12, ground := Go.Ground.phase }], guard := none }) rfl (by kernel_rfl) fun K' hK' => ?_
        go_simp
        refine hK'.out _ _ ?_ (fun w4 hE hS => ?_)
        · exact (by (repeat (with_reducible first | assumption | exact bl_refl _ | refine bl_alloc ?_ | refine bl_iter ?_ | refine bl_drew ?_ | refine bl_drewN ?_ | refine bl_bytes ?_ | refine bl_set ?_ ?_ | refine bl_trans ?_ (by assumption))) <;> first | exact Nat.le_refl _ | (simp; done) | (simp; omega) | omega)
        clear hK' K'
        have hp2 : Blk w4 _ _ _ := (by rw [hE]; exact (((((hp.set 0 (.int .i64 ((la : Int) + lb))).set 1 (.int .i64 qc1)).set 2 (.int .i64 qc2)).set 3 (.int .i64 qc3)).set 4 (.string HA)).set 5 (.string TB))
        clear hE
        try simp only [pp]
        refine reg_done (by kernel_rfl) (hK.out _ _ ?_) _
        clear hK K
        (go_wp2_with fail); (go_meet); (case rel => exact ⟨_, rfl, hge, hS, hp2⟩)
    · refine pick_one (oi := { dst := some 8, op := Go.Op.alloc 36, type := 0, pos := "weld.go:109", after := #[], guard := none }) rfl (by kernel_rfl) fun K' hK' => ?_
      go_simp
      refine hK'.out _ _ ?_ (fun w1 hE hS => ?_)
      · exact (by (repeat (with_reducible first | assumption | exact bl_refl _ | refine bl_alloc ?_ | refine bl_iter ?_ | refine bl_drew ?_ | refine bl_drewN ?_ | refine bl_bytes ?_ | refine bl_set ?_ ?_ | refine bl_trans ?_ (by assumption))) <;> first | exact Nat.le_refl _ | (simp; done) | (simp; omega) | omega)
      clear hK' K'
      (have hp : Blk w1 w0.heap.size 36 #[.int .i64 0, .int .i64 0, .int .i64 0, .int .i64 0, .string { data := #[] }, .string { data := #[] }] := (by rw [hE]; exact Blk.new _ _ _ rfl)); (have hge : WA.heap.size ≤ w0.heap.size := (‹Below WA.heap.size WA w0›).size)
      clear hE
      try simp only [pp]
      refine pick1 (i := 4) (by kernel_rfl) ?_
      refine pick_call (some 38) (.agg #[.int .i64 ((la : Int) + lb), .int .i64 d1, .int .i64 d2, .int .i64 d3]) 110 #[.agg #[.int .i64 la, .int .i64 qa1, .int .i64 qa2, .int .i64 qa3], .agg #[.int .i64 lb, .int .i64 qb1, .int .i64 qb2, .int .i64 qb3], .int .i64 1] (oi := { dst := some 38, op := Go.Op.call { callee := Go.Callee.value (Go.Operand.func 110), args := #[Go.Operand.tmp 35, Go.Operand.tmp 37, Go.Operand.const (Go.Value.int Go.IntKind.i64 1)], argTypes := #[34, 34, 3] }, type := 34, pos := "weld.go:109", after := #[{ on := 1, ground := Go.Ground.data }, { on := 3, ground := Go.Ground.data }], guard := none }) rfl rfl (by kernel_rfl) (by first | rfl | go_simp) ?_ (fun w' hR => ?_) fun w2 hR hS => ?_
      · exact S1.out _
      · exact bl_trans hS hR
      try replace hp := hp.below hR
      skip
      try simp only [pp]
      refine pick1 (i := 6) (by kernel_rfl) ?_
      refine pick_call (some 40) (.agg #[.int .i64 ((la : Int) + lb), .int .i64 qc1, .int .i64 qc2, .int .i64 qc3]) 110 #[.agg #[.int .i64 ((la : Int) + lb), .int .i64 d1, .int .i64 d2, .int .i64 d3], .agg #[.int .i64 0, .int .i64 s1, .int .i64 s2, .int .i64 s3], .int .i64 (-1)] (oi := { dst := some 40, op := Go.Op.call { callee := Go.Callee.value (Go.Operand.func 110), args := #[Go.Operand.tmp 38, Go.Operand.tmp 39, Go.Operand.const (Go.Value.int Go.IntKind.i64 (-1))], argTypes := #[34, 34, 3] }, type := 34, pos := "weld.go:109", after := #[{ on := 4, ground := Go.Ground.data }, { on := 5, ground := Go.Ground.data }, { on := 4, ground := Go.Ground.chain }], guard := none }) rfl rfl (by kernel_rfl) (by first | rfl | go_simp) ?_ (fun w' hR => ?_) fun w3 hR hS => ?_
      · exact S2.out _
      · exact bl_trans hS hR
      try replace hp := hp.below hR
      skip
      try simp only [pp]
      refine reg_take 11 (some 45) (.agg #[.int .i64 ((la : Int) + lb), .int .i64 qc1, .int .i64 qc2, .int .i64 qc3, .string HA, .string TB]) (oi := { dst := some 45, op := Go.Op.build 36 #[(0, Go.Operand.tmp 40), (1, Go.Operand.tmp 42), (2, Go.Operand.tmp 44)], type := 36, pos := "weld.go:109", after := #[{ on := 6, ground := Go.Ground.data }, { on := 8, ground := Go.Ground.data }, { on := 10, ground := Go.Ground.data }], guard := none }) rfl rfl (by kernel_rfl) (by kernel_rfl) (by kernel_rfl) (by kernel_rfl) (fun W hW => by (first | rfl | go_simp)) hS ?_
      try simp only [pp]
      refine pick1 (i := 13) (by kernel_rfl) ?_
      have hc := hp.c6
      refine pick_one (oi := { dst := none, op := Go.Op.store 36 (Go.Operand.tmp 8) (Go.Operand.tmp 45), type := 0, pos := "weld.go:109", after := #[{ on := 12, ground := Go.Ground.data }, { on := 11, ground := Go.Ground.data }, { on := 6, ground := Go.Ground.chain }, { on := 0, ground := Go.Ground.phase }, { on := 1, ground := Go.Ground.phase }, { on := 2, ground := Go.Ground.phase }, { on := 3, ground := Go.Ground.phase }, { on := 4, ground := Go.Ground.phase }, { on := 5, ground := Go.Ground.phase }, { on := 6, ground := Go.Ground.phase }, { on := 7, ground := Go.Ground.phase }, { on := 8, ground := Go.Ground.phase }, { on := 9, ground := Go.Ground.phase }, { on := 10, ground := Go.Ground.phase }, { on := 11, ground := Go.Ground.phase }, { on := 12, ground := Go.Ground.phase }], guard := none }) rfl (by kernel_rfl) fun K' hK' => ?_
      go_simp
      refine hK'.out _ _ ?_ (fun w4 hE hS => ?_)
      · exact (by (repeat (with_reducible first | assumption | exact bl_refl _ | refine bl_alloc ?_ | refine bl_iter ?_ | refine bl_drew ?_ | refine bl_drewN ?_ | refine bl_bytes ?_ | refine bl_set ?_ ?_ | refine bl_trans ?_ (by assumption))) <;> first | exact Nat.le_refl _ | (simp; done) | (simp; omega) | omega)
      clear hK' K'
      have hp2 : Blk w4 _ _ _ := (by rw [hE]; exact (((((hp.set 0 (.int .i64 ((la : Int) + lb))).set 1 (.int .i64 qc1)).set 2 (.int .i64 qc2)).set 3 (.int .i64 qc3)).set 4 (.string HA)).set 5 (.string TB))
      clear hE
      try simp only [pp]
      refine reg_done (by kernel_rfl) (hK.out _ _ ?_) _
      clear hK K
      (go_wp2_with fail); (go_meet); (case rel => exact ⟨_, rfl, hge, hS, hp2⟩)
  case rest =>
    obtain ⟨p, rfl, hge, hS, hp⟩ := hcut
    have g2 := b2.lt
    have g3 := b3.lt
    have g4 := b4.lt
    have g5 := b5.lt
    have g7 := b7.lt
    replace hBA := bl_trans hBA hS
    replace b2 := b2.below hS
    replace b3 := b3.below hS
    replace b4 := b4.below hS
    replace b5 := b5.below hS
    replace b7 := b7.below hS
    have p2 : w.heap.size ≠ p := by omega
    have p3 : w.heap.size + 1 ≠ p := by omega
    have p4 : w.heap.size + 1 + 1 ≠ p := by omega
    have p5 : w.heap.size + 1 + 1 + 1 ≠ p := by omega
    have p7 : w3.heap.size ≠ p := by omega
    have p0 : w.heap.size ≤ p := by omega
    clear g2 g3 g4 g5 g7 hge hS hz l5
    have C2 := b2.c6
    go_upto_if 49 with (fail)
    go_cut [] from 9 (fun W => Below w.heap.size w W ∧ Blk W w.heap.size 36 #[.int .i64 (la : Int), .int .i64 qa1, .int .i64 qa2, .int .i64 qa3, .string HA, .string TA] ∧ Blk W (w.heap.size + 1) 36 #[.int .i64 (lb : Int), .int .i64 qb1, .int .i64 qb2, .int .i64 qb3, .string HB, .string TB] ∧ Blk W (w.heap.size + 1 + 1) 36 #[.int .i64 0, .int .i64 0, .int .i64 0, .int .i64 0, .string { data := #[] }, .string { data := #[] }] ∧ Blk W (w.heap.size + 1 + 1 + 1) 34 #[.int .i64 0, .int .i64 0, .int .i64 0, .int .i64 0] ∧ Blk W w3.heap.size 34 #[.int .i64 0, .int .i64 s1, .int .i64 s2, .int .i64 s3] ∧ Blk W p 36 #[.int .i64 ((la : Int) + lb), .int .i64 qc1, .int .i64 qc2, .int .i64 qc3, .string HC, .string TB])
    case first =>
      have C3 := b3.c6
      have C8 := hp.c6
      by_cases hl : la < 3
      · have hl' : (la : Int) < 3 := by omega
        have hsz : HA.size + HB.size ≤ 9223372036854775807 := by omega
        have ap1 := AP1.out
        have e := HH1.out hl
        go_wp2_with fail
        refine (HD.out _).mono ?_
        rintro e wh ⟨rfl, rfl⟩
        dsimp only
        go_wp2_with fail
        go_meet
        case rel =>
          refine ⟨(by (repeat (with_reducible first | assumption | exact bl_refl _ | refine bl_alloc ?_ | refine bl_iter ?_ | refine bl_drew ?_ | refine bl_drewN ?_ | refine bl_bytes ?_ | refine bl_set ?_ ?_ | refine bl_trans ?_ (by assumption))) <;> first | exact Nat.le_refl _ | (simp; done) | (simp; omega) | omega), (by (repeat (with_reducible first | assumption | (refine Blk.new _ _ _ ?_; first | rfl | (simp; done)) | refine Blk.alloc ?_ _ | refine Blk.drew ?_ | refine Blk.other ?_ ?_ _ | refine Blk.below ?_ (by assumption))) <;> first | rfl | (simp; done) | (simp; omega) | omega), (by (repeat (with_reducible first | assumption | (refine Blk.new _ _ _ ?_; first | rfl | (simp; done)) | refine Blk.alloc ?_ _ | refine Blk.drew ?_ | refine Blk.other ?_ ?_ _ | refine Blk.below ?_ (by assumption))) <;> first | rfl | (simp; done) | (simp; omega) | omega), (by (repeat (with_reducible first | assumption | (refine Blk.new _ _ _ ?_; first | rfl | (simp; done)) | refine Blk.alloc ?_ _ | refine Blk.drew ?_ | refine Blk.other ?_ ?_ _ | refine Blk.below ?_ (by assumption))) <;> first | rfl | (simp; done) | (simp; omega) | omega), (by (repeat (with_reducible first | assumption | (refine Blk.new _ _ _ ?_; first | rfl | (simp; done)) | refine Blk.alloc ?_ _ | refine Blk.drew ?_ | refine Blk.other ?_ ?_ _ | refine Blk.below ?_ (by assumption))) <;> first | rfl | (simp; done) | (simp; omega) | omega), (by (repeat (with_reducible first | assumption | (refine Blk.new _ _ _ ?_; first | rfl | (simp; done)) | refine Blk.alloc ?_ _ | refine Blk.drew ?_ | refine Blk.other ?_ ?_ _ | refine Blk.below ?_ (by assumption))) <;> first | rfl | (simp; done) | (simp; omega) | omega), ?_⟩
          rw [e]
          exact hp.set 4 _
      · have hl' : ¬ (la : Int) < 3 := by omega
        have e := HH2.out hl
        go_wp2_with fail
        go_meet
        case rel => exact ⟨(by (repeat (with_reducible first | assumption | exact bl_refl _ | refine bl_alloc ?_ | refine bl_iter ?_ | refine bl_drew ?_ | refine bl_drewN ?_ | refine bl_bytes ?_ | refine bl_set ?_ ?_ | refine bl_trans ?_ (by assumption))) <;> first | exact Nat.le_refl _ | (simp; done) | (simp; omega) | omega), (by (repeat (with_reducible first | assumption | (refine Blk.new _ _ _ ?_; first | rfl | (simp; done)) | refine Blk.alloc ?_ _ | refine Blk.drew ?_ | refine Blk.other ?_ ?_ _ | refine Blk.below ?_ (by assumption))) <;> first | rfl | (simp; done) | (simp; omega) | omega), (by (repeat (with_reducible first | assumption | (refine Blk.new _ _ _ ?_; first | rfl | (simp; done)) | refine Blk.alloc ?_ _ | refine Blk.drew ?_ | refine Blk.other ?_ ?_ _ | refine Blk.below ?_ (by assumption))) <;> first | rfl | (simp; done) | (simp; omega) | omega), (by (repeat (with_reducible first | assumption | (refine Blk.new _ _ _ ?_; first | rfl | (simp; done)) | refine Blk.alloc ?_ _ | refine Blk.drew ?_ | refine Blk.other ?_ ?_ _ | refine Blk.below ?_ (by assumption))) <;> first | rfl | (simp; done) | (simp; omega) | omega), (by (repeat (with_reducible first | assumption | (refine Blk.new _ _ _ ?_; first | rfl | (simp; done)) | refine Blk.alloc ?_ _ | refine Blk.drew ?_ | refine Blk.other ?_ ?_ _ | refine Blk.below ?_ (by assumption))) <;> first | rfl | (simp; done) | (simp; omega) | omega), (by (repeat (with_reducible first | assumption | (refine Blk.new _ _ _ ?_; first | rfl | (simp; done)) | refine Blk.alloc ?_ _ | refine Blk.drew ?_ | refine Blk.other ?_ ?_ _ | refine Blk.below ?_ (by assumption))) <;> first | rfl | (simp; done) | (simp; omega) | omega), by rw [e]; exact hp⟩
    case rest =>
      clear hBA b2 b3 b4 b5 b7 hp C2
      obtain ⟨hBA, b2, b3, b4, b5, b7, hp⟩ := hcut
      have C3 := b3.c6
      go_upto_if 60 with (fail)
      go_cut [] from 9 (fun W => Below w.heap.size w W ∧ Blk W w.heap.size 36 #[.int .i64 (la : Int), .int .i64 qa1, .int .i64 qa2, .int .i64 qa3, .string HA, .string TA] ∧ Blk W (w.heap.size + 1) 36 #[.int .i64 (lb : Int), .int .i64 qb1, .int .i64 qb2, .int .i64 qb3, .string HB, .string TB] ∧ Blk W (w.heap.size + 1 + 1) 36 #[.int .i64 0, .int .i64 0, .int .i64 0, .int .i64 0, .string { data := #[] }, .string { data := #[] }] ∧ Blk W (w.heap.size + 1 + 1 + 1) 34 #[.int .i64 0, .int .i64 0, .int .i64 0, .int .i64 0] ∧ Blk W w3.heap.size 34 #[.int .i64 0, .int .i64 s1, .int .i64 s2, .int .i64 s3] ∧ Blk W p 36 #[.int .i64 ((la : Int) + lb), .int .i64 qc1, .int .i64 qc2, .int .i64 qc3, .string HC, .string TC])
      case first =>
        have C2 := b2.c6
        have C8 := hp.c6
        by_cases hl : lb < 3
        · have hl' : (lb : Int) < 3 := by omega
          have hsz : TA.size + TB.size ≤ 9223372036854775807 := by omega
          have ap2 := AP2.out
          have e := HT1.out hl
          go_wp2_with fail
          refine (TL.out _).mono ?_
          rintro e wh ⟨rfl, rfl⟩
          dsimp only
          go_wp2_with fail
          go_meet
          case rel =>
            refine ⟨(by (repeat (with_reducible first | assumption | exact bl_refl _ | refine bl_alloc ?_ | refine bl_iter ?_ | refine bl_drew ?_ | refine bl_drewN ?_ | refine bl_bytes ?_ | refine bl_set ?_ ?_ | refine bl_trans ?_ (by assumption))) <;> first | exact Nat.le_refl _ | (simp; done) | (simp; omega) | omega), (by (repeat (with_reducible first | assumption | (refine Blk.new _ _ _ ?_; first | rfl | (simp; done)) | refine Blk.alloc ?_ _ | refine Blk.drew ?_ | refine Blk.other ?_ ?_ _ | refine Blk.below ?_ (by assumption))) <;> first | rfl | (simp; done) | (simp; omega) | omega), (by (repeat (with_reducible first | assumption | (refine Blk.new _ _ _ ?_; first | rfl | (simp; done)) | refine Blk.alloc ?_ _ | refine Blk.drew ?_ | refine Blk.other ?_ ?_ _ | refine Blk.below ?_ (by assumption))) <;> first | rfl | (simp; done) | (simp; omega) | omega), (by (repeat (with_reducible first | assumption | (refine Blk.new _ _ _ ?_; first | rfl | (simp; done)) | refine Blk.alloc ?_ _ | refine Blk.drew ?_ | refine Blk.other ?_ ?_ _ | refine Blk.below ?_ (by assumption))) <;> first | rfl | (simp; done) | (simp; omega) | omega), (by (repeat (with_reducible first | assumption | (refine Blk.new _ _ _ ?_; first | rfl | (simp; done)) | refine Blk.alloc ?_ _ | refine Blk.drew ?_ | refine Blk.other ?_ ?_ _ | refine Blk.below ?_ (by assumption))) <;> first | rfl | (simp; done) | (simp; omega) | omega), (by (repeat (with_reducible first | assumption | (refine Blk.new _ _ _ ?_; first | rfl | (simp; done)) | refine Blk.alloc ?_ _ | refine Blk.drew ?_ | refine Blk.other ?_ ?_ _ | refine Blk.below ?_ (by assumption))) <;> first | rfl | (simp; done) | (simp; omega) | omega), ?_⟩
            rw [e]
            exact hp.set 5 _
        · have hl' : ¬ (lb : Int) < 3 := by omega
          have e := HT2.out hl
          go_wp2_with fail
          go_meet
          case rel => exact ⟨(by (repeat (with_reducible first | assumption | exact bl_refl _ | refine bl_alloc ?_ | refine bl_iter ?_ | refine bl_drew ?_ | refine bl_drewN ?_ | refine bl_bytes ?_ | refine bl_set ?_ ?_ | refine bl_trans ?_ (by assumption))) <;> first | exact Nat.le_refl _ | (simp; done) | (simp; omega) | omega), (by (repeat (with_reducible first | assumption | (refine Blk.new _ _ _ ?_; first | rfl | (simp; done)) | refine Blk.alloc ?_ _ | refine Blk.drew ?_ | refine Blk.other ?_ ?_ _ | refine Blk.below ?_ (by assumption))) <;> first | rfl | (simp; done) | (simp; omega) | omega), (by (repeat (with_reducible first | assumption | (refine Blk.new _ _ _ ?_; first | rfl | (simp; done)) | refine Blk.alloc ?_ _ | refine Blk.drew ?_ | refine Blk.other ?_ ?_ _ | refine Blk.below ?_ (by assumption))) <;> first | rfl | (simp; done) | (simp; omega) | omega), (by (repeat (with_reducible first | assumption | (refine Blk.new _ _ _ ?_; first | rfl | (simp; done)) | refine Blk.alloc ?_ _ | refine Blk.drew ?_ | refine Blk.other ?_ ?_ _ | refine Blk.below ?_ (by assumption))) <;> first | rfl | (simp; done) | (simp; omega) | omega), (by (repeat (with_reducible first | assumption | (refine Blk.new _ _ _ ?_; first | rfl | (simp; done)) | refine Blk.alloc ?_ _ | refine Blk.drew ?_ | refine Blk.other ?_ ?_ _ | refine Blk.below ?_ (by assumption))) <;> first | rfl | (simp; done) | (simp; omega) | omega), (by (repeat (with_reducible first | assumption | (refine Blk.new _ _ _ ?_; first | rfl | (simp; done)) | refine Blk.alloc ?_ _ | refine Blk.drew ?_ | refine Blk.other ?_ ?_ _ | refine Blk.below ?_ (by assumption))) <;> first | rfl | (simp; done) | (simp; omega) | omega), by rw [e]; exact hp⟩
      case rest =>
        clear hBA b2 b3 b4 b5 b7 hp C3
        obtain ⟨hBA, b2, b3, b4, b5, b7, hp⟩ := hcut
        clear b2 b3
        have C8 := hp.c6
        go_wp2_with fail
        refine (VC.out _ hBA).mono ?_
        rintro e wv ⟨rfl, hb⟩
        clear C8
        replace hBA := bl_trans hBA hb
        replace b4 := b4.below hb
        replace b5 := b5.below hb
        replace b7 := b7.below hb
        replace hp := hp.below hb
        clear hb
        dsimp only
        go_wp2_with fail
        refine rm_begin (fun W => Below w.heap.size w W ∧ Blk W p 36 #[.int .i64 ((la : Int) + lb), .int .i64 qc1, .int .i64 qc2, .int .i64 qc3, .string HC, .string TC] ∧ Blk W w3.heap.size 34 #[.int .i64 0, .int .i64 s1, .int .i64 s2, .int .i64 s3]) (by kernel_rfl) (by exact ⟨bl_drew hBA, hp, b7⟩) fun K hK w0 hE hS => ?_
        have hv0 : Ltr wv w0 := by rw [hE]; exact bl_drew (bl_refl _)
        have hz0 := hv0.size
        have hd4 := b4.lt; have hd5 := b5.lt
        clear hE
        refine mx 0 73 (.agg #[.int .i64 ((la : Int) + lb), .int .i64 qc1, .int .i64 qc2, .int .i64 qc3, .string HC, .string TC]) rfl (fun W hW => by (exact ldN 36 _ rfl p 0 rfl (fun _ => by kernel_rfl) [] [.int .i64 ((la : Int) + lb), .int .i64 qc1, .int .i64 qc2, .int .i64 qc3, .string HC, .string TC] [] (by kernel_rfl) ((show _ ∧ _ ∧ _ from hW).2.1) rfl rfl)) ?_
        try simp only [pp]
        try simp only [pp]
        refine mx 1 74 (.agg #[.int .i64 0, .int .i64 s1, .int .i64 s2, .int .i64 s3]) rfl (fun W hW => by (exact ldN 34 _ rfl w3.heap.size 0 rfl (fun _ => by kernel_rfl) [] [.int .i64 0, .int .i64 s1, .int .i64 s2, .int .i64 s3] [] (by kernel_rfl) ((show _ ∧ _ ∧ _ from hW).2.2) rfl rfl)) ?_
        try simp only [pp]
        try simp only [pp]
        refine rm_pick1 (i := 2) (by kernel_rfl) ?_
        refine rm_store (w.heap.size + 1 + 1) (#[.int .i64 ((la : Int) + lb), .int .i64 qc1, .int .i64 qc2, .int .i64 qc3, .string HC, .string TC]) (oi := { dst := none, op := Go.Op.store 36 (Go.Operand.tmp 4) (Go.Operand.tmp 73), type := 0, pos := "weld.go:119", after := #[{ on := 0, ground := Go.Ground.data }, { on := 0, ground := Go.Ground.phase }, { on := 1, ground := Go.Ground.textOnly Go.Departure.lateStores }], guard := none }) rfl rfl rfl (by kernel_rfl) rfl rfl (by kernel_rfl) (fun W hl hW => b4.below (Ltr.trans hv0 hl)) rfl (by exact fun _ _ hX hU => ⟨hU.below hX.1 (by omega), hX.2.1.upd hU (by omega), hX.2.2.upd hU (by omega)⟩) (by kernel_rfl) fun q1 w1 hq1 hQ1 hU1 hb1 hS => ?_
        try simp only [pp]
        refine rm_pick1 (i := 3) (by kernel_rfl) ?_
        refine rm_store (w.heap.size + 1 + 1 + 1) (#[.int .i64 0, .int .i64 s1, .int .i64 s2, .int .i64 s3]) (oi := { dst := none, op := Go.Op.store 34 (Go.Operand.tmp 5) (Go.Operand.tmp 74), type := 0, pos := "weld.go:119", after := #[{ on := 1, ground := Go.Ground.data }, { on := 2, ground := Go.Ground.chain }, { on := 0, ground := Go.Ground.phase }, { on := 1, ground := Go.Ground.phase }, { on := 2, ground := Go.Ground.phase }], guard := none }) rfl rfl rfl (by kernel_rfl) rfl rfl (by kernel_rfl) (fun W hl hW => ((b5.below (Ltr.trans hv0 hq1)).upd hU1 (by omega)).below hl) rfl (by exact fun _ _ hX hU => ⟨hU.below hX.1 (by omega), hX.2.1.upd hU (by omega), hX.2.2.upd hU (by omega)⟩) (by kernel_rfl) fun q2 w2 hq2 hQ2 hU2 hb2 hS => ?_
        try simp only [pp]
        refine mk 4 6 (.int .i64 0) ?_
        try simp only [pp]
        try simp only [pp]
        refine rm_done (by kernel_rfl) (fun wz hz hS => hK.out _ _ ?_) _
        clear hK K
        have d4 := (((hb1.below hq2).upd hU2 (by omega)).below hz)
        have d5 := hb2.below hz
        have c4 := d4.c6
        have c5 := d5.c4
        have hq := hS.1
        clear hS
        go_wp2_with fail
        exact bodyPost_ret (v := .tuple #[.agg #[.int .i64 ((la : Int) + lb), .int .i64 qc1, .int .i64 qc2, .int .i64 qc3, .string HC, .string TC], .agg #[.int .i64 0, .int .i64 s1, .int .i64 s2, .int .i64 s3], .int .i64 0]) (by simp [results, Tryd.results85, go_sem, *]) rfl ⟨rfl, (by (repeat (with_reducible first | assumption | exact bl_refl _ | refine bl_alloc ?_ | refine bl_iter ?_ | refine bl_drew ?_ | refine bl_drewN ?_ | refine bl_bytes ?_ | refine bl_set ?_ ?_ | refine bl_trans ?_ (by assumption))) <;> first | exact Nat.le_refl _ | (simp; done) | (simp; omega) | omega)⟩
section
variable {P : Program} {ops : Array Oper} {Q : Exit → Act → World → Prop} {K : Act → World → Prop}
def wpL (P : Program) (ops : Array Oper) (K : Act → World → Prop) : List Oper → Act → World → Prop
  | [], a, w => K a w
  | o :: rest, a, w => if Region.wanted o (yielded ops a.tmps) then o.wp P a w (wpL P ops K rest) (Ko K) else wpL P ops K rest (a.put o.dst undef) w
theorem wpL_list : ∀ (l : List Oper) (a : Act) (w : World), wpL P ops K l a w → wpList P ops (Ko K) l a w
  | [], _, _, h => Ko.ok h
  | o :: rest, a, w, h => by
    unfold wpL at h
    unfold wpList
    split
    · rename_i hw; rw [if_pos hw] at h; exact .inl (Oper.wp_mono (wpL_list rest) h)
    · rename_i hw; rw [if_neg hw] at h; exact wpL_list rest _ _ h
theorem rl_begin {id : Nat} {l : List Oper} {a : Act} {w : World} (h : ∀ K : Act → World → Prop, RowKit.Hid (∀ a w, Q .normal a w → K a w) → wpL P l.toArray K l a w) : (Code.region id l.toArray false).wp P Q a w := by
  have h1 := h (fun a w => Q .normal a w) (Lib.hid fun _ _ h => h)
  exact Code.wp_mono (fun e a w h => by obtain ⟨rfl, h⟩ := h; exact h) (wp_region_lit (wpL_list _ _ _ h1))
section
variable {o : Oper} {rest : List Oper} {a : Act} {w : World}
theorem rl_nil (h : K a w) : wpL P ops K [] a w := h
theorem rl_take (d : Option Tmp) (v : Value) (hd : o.dst = d) (hw : Region.wanted o (yielded ops a.tmps) = true) (he : (execOp a.eval o).run P w = .ok (.value v) w) (h : wpL P ops K rest (a.put d v) w) : wpL P ops K (o :: rest) a w := by
  unfold wpL; rw [if_pos hw]; exact upon_step he (.inl rfl) (hd ▸ h)
theorem rl_end (hgo : RowKit.Hid (∀ a w, Q .normal a w → K a w)) (h : Q .normal a w) : wpL P ops K [] a w := hgo.out _ _ h
theorem tx (t : Tmp) (v : Value) (he : (execOp a.eval o).run P w = .ok (.value v) w) (h : wpL P ops K rest (a.put (some t) v) w) (hd : o.dst = some t := by rfl) (hw : Region.wanted o (yielded ops a.tmps) = true := by kernel_rfl) : wpL P ops K (o :: rest) a w := rl_take _ _ hd hw he h
theorem tk (t : Tmp) (v : Value) (h : wpL P ops K rest (a.put (some t) v) w) (hd : o.dst = some t := by rfl) (hw : Region.wanted o (yielded ops a.tmps) = true := by kernel_rfl) (he : (execOp a.eval o).run P w = .ok (.value v) w := by kernel_rfl) : wpL P ops K (o :: rest) a w := rl_take _ _ hd hw he h
theorem rl_pass (d : Option Tmp) (hd : o.dst = d) (hw : Region.wanted o (yielded ops a.tmps) = false) (h : wpL P ops K rest (a.put d undef) w) : wpL P ops K (o :: rest) a w := by
  unfold wpL; rw [if_neg (by rw [hw]; simp)]; exact hd ▸ h
theorem rl_call (d : Option Tmp) (f : FuncId) (args : Array Value) {R : Ending → World → Prop} (hd : o.dst = d) (hw : Region.wanted o (yielded ops a.tmps) = true) (he : (execOp a.eval o).run P w = .ok (.enter f args) w)
    (hc : Calls P f args w R) (h : ∀ e w', R e w' → ∃ v, e = .returned v ∧ wpL P ops K rest (a.put d v) w') : wpL P ops K (o :: rest) a w := by
  unfold wpL; rw [if_pos hw]
  unfold Oper.wp
  rw [he, Oper.upon_enter]
  refine hc.mono fun e w' he => ?_
  obtain ⟨v, rfl, hv⟩ := h e w' he
  exact hd ▸ hv
theorem rl_alloc (d : Option Tmp) (t : TypeId) (cells : Array Value) (hd : o.dst = d) (hw : Region.wanted o (yielded ops a.tmps) = true)
    (he : ∀ w', (execOp a.eval o).run P w' = .ok (.value (.pointer (some ⟨w'.heap.size, 0, none⟩))) (w'.alloc (.cells cells t)))
    (h : ∀ p w', Ltr w w' → w.heap.size ≤ p → Blk w' p t cells → wpL P ops K rest (a.put d (.pointer (some ⟨p, 0, none⟩))) w') : wpL P ops K (o :: rest) a w := by
  unfold wpL; rw [if_pos hw]
  exact upon_step (he w) (.inl rfl) (hd ▸ h _ _ (bl_alloc (bl_refl _)) (Nat.le_refl _) (Blk.new _ _ _ rfl))
theorem rl_bslice (d : Option Tmp) (t : TypeId) (cells : Array Value) (n : Nat) (hd : o.dst = d) (hw : Region.wanted o (yielded ops a.tmps) = true)
    (he : ∀ w', (execOp a.eval o).run P w' = .ok (.value (.slice (some ⟨w'.heap.size, 0, none⟩) n n)) (w'.alloc (.cells cells t)))
    (h : ∀ p w', Ltr w w' → w.heap.size ≤ p → Blk w' p t cells → wpL P ops K rest (a.put d (.slice (some ⟨p, 0, none⟩) n n)) w') : wpL P ops K (o :: rest) a w := by
  unfold wpL; rw [if_pos hw]
  exact upon_step (he w) (.inl rfl) (hd ▸ h _ _ (bl_alloc (bl_refl _)) (Nat.le_refl _) (Blk.new _ _ _ rfl))
theorem rl_new (d : Option Tmp) {R : Value → World → Prop} (hd : o.dst = d) (hw : Region.wanted o (yielded ops a.tmps) = true) (he : ∃ v w', (execOp a.eval o).run P w = .ok (.value v) w' ∧ R v w')
    (h : ∀ v w', R v w' → wpL P ops K rest (a.put d v) w') : wpL P ops K (o :: rest) a w := by
  unfold wpL; rw [if_pos hw]
  obtain ⟨v, w', hr, hR⟩ := he
  exact upon_step hr (.inl rfl) (hd ▸ h v w' hR)
theorem rl_store (g : Nat) (cells : Array Value) {ty : TypeId} {x y : Operand} {t : TypeId} {old : Array Value} (hd : o.dst = none) (ho : o.op = .store ty x y) (hw : Region.wanted o (yielded ops a.tmps) = true)
    (hx : a.eval x = .pointer (some ⟨g, 0, none⟩)) (hy : a.eval y = .agg cells) (hn : (P.info? ty).map (·.size) = some cells.size) (hg : Blk w g t old) (hold : old.size = cells.size) (h1 : cells.all (·.oneCell') = true)
    (h : ∀ w', Upd g w w' → Blk w' g t cells → wpL P ops K rest (a.put none undef) w') : wpL P ops K (o :: rest) a w := by
  unfold wpL; rw [if_pos hw]
  exact wp_store_row ty x y ho g cells hx hy t old hg hn hold h1 (hd ▸ h _ (setRow_upd _ _ _) (setRow_blk _ hg))
end
theorem rl_store1 {o : Oper} {rest : List Oper} {a : Act} {w : World} (g : Nat) (v : Value) {ty : TypeId} {x y : Operand} {t : TypeId} {old : Value} (hd : o.dst = none) (ho : o.op = .store ty x y) (hw : Region.wanted o (yielded ops a.tmps) = true)
    (hx : a.eval x = .pointer (some ⟨g, 0, none⟩)) (hy : a.eval y = v) (hn : (P.info? ty).map (·.size) = some 1) (hg : Blk w g t #[old]) (h1 : v.oneCell' = true)
    (h : ∀ w', Upd g w w' → Blk w' g t #[v] → wpL P ops K rest (a.put none undef) w') : wpL P ops K (o :: rest) a w := by
  unfold wpL; rw [if_pos hw]
  exact upon_step (run_store1 ty x y ho g v hx hy hn h1 hg) (.inr ⟨rfl, rfl⟩) (hd ▸ h _ (setRow_upd _ _ _) (setRow_blk _ hg))
end

/-! ### facts on later worlds -/
theorem Blk.later {W W' : World} {B : Nat} {t : TypeId} {cs : Array Value} (h : Blk W B t cs) (hl : Ltr W W') : Blk W' B t cs := h.below hl
theorem Ltr.later {a W W' : World} (h : Ltr a W) (hl : Ltr W W') : Ltr a W' := h.trans hl
theorem Ltr.upd {a W W' : World} {g : Nat} (h : Ltr a W) (hu : Upd g W W') (hg : a.heap.size ≤ g) : Ltr a W' := hu.below h hg
theorem Tabs.later {W W' : World} (h : Tabs W) (hl : Ltr W W') : Tabs W' := h.below hl
theorem BytesAt.later {W W' : World} {A : Option Addr} {l : List UInt8} (h : BytesAt W A l) (hl : Ltr W W') : BytesAt W' A l := h.below hl
theorem Tabs.upd {W W' : World} {g : Nat} (h : Tabs W) (hu : Upd g W W') (hg : 4 ≤ g) : Tabs W' := by
  have key : ∀ b i v, b < 4 → W.cell? ⟨b, i, none⟩ = some v → W'.cell? ⟨b, i, none⟩ = some v := fun b i v hb h => by
    rw [← h]; exact World.cell?_of_block (w := W) (a := ⟨b, i, none⟩) (hu.block b (by omega))
  exact ⟨fun i v hi => key _ _ _ (by decide) (h.spans i v hi), fun i v hi => key _ _ _ (by decide) (h.needs i v hi), fun i v hi => key _ _ _ (by decide) (h.masks i v hi), fun i v hi => key _ _ _ (by decide) (h.bad i v hi)⟩
theorem Tabs.four {w : World} (h : Tabs w) : 4 ≤ w.heap.size := by
  have := World.block_lt_of_cell? w _ (h.spans 0 _ rfl)
  simp only at this; omega

/-! ### results -/
section
variable {P : Program}
def resOne (tmps : Array Value) : ResultVar → Sem Value
  | .tmp t => pure (tmps.getD t undef)
  | .cell a t => do loadVar t (← asAddr (tmps.getD a undef))
theorem res_tmp {tmps : Array Value} {t : Tmp} {w : World} {v : Value} (h : tmps.getD t undef = v) : (resOne tmps (.tmp t)).run P w = .ok v w := by subst h; rfl
theorem res_cell {tmps : Array Value} {s : Tmp} {ty : TypeId} {w : World} {b : Nat} {t : TypeId} {cs : List Value} (h : tmps.getD s undef = .pointer (some ⟨b, 0, none⟩)) (hq : ∀ w, (isAgg ty).run P w = .ok true w)
    (hi : (P.info? ty).map (·.size) = some cs.length) (hb : Blk w b t cs.toArray) : (resOne tmps (.cell s ty)).run P w = .ok (.agg cs.toArray) w := by
  have hl : (loadCells ⟨b, 0, none⟩ cs.length).run P w = .ok cs.toArray w :=
    run_loadCells_list (P := P) w ⟨b, 0, none⟩ cs (fun j v hv => by
      have hadd : (⟨b, 0, none⟩ : Addr).add j = ⟨b, 0 + j, none⟩ := by unfold Addr.add; split <;> simp_all
      rw [hadd, hb.cell, Nat.zero_add, List.getElem?_toArray]; exact hv)
  have hlv : (loadVar ty ⟨b, 0, none⟩).run P w = .ok (.agg cs.toArray) w := by
    cases hq' : P.info? ty with
    | none => simp [hq'] at hi
    | some i =>
      have hs : i.size = cs.length := by simpa [hq'] using hi
      simp [loadVar, Sem.run_bind, hq w, sizeOf, typeInfo, hq', hs, hl]
  unfold resOne
  simp only [h, asAddr, Sem.run_bind, Sem.run_pure, Result.andThen_ok, hlv]
theorem results_mapM {fn : Func} {tmps : Array Value} : results fn tmps = (do let vs ← fn.results.mapM (resOne tmps); pure (if h : vs.size = 1 then vs[0] else .tuple vs)) := by
  unfold results
  congr 1
theorem res1 {fn : Func} {tmps : Array Value} {w : World} {r1 : ResultVar} {v1 : Value} (hr : fn.results = #[r1]) (h1 : (resOne tmps r1).run P w = .ok v1 w) : (results fn tmps).run P w = .ok v1 w := by
  rw [results_mapM, hr]; simp [h1]
theorem res2 {fn : Func} {tmps : Array Value} {w : World} {r1 r2 : ResultVar} {v1 v2 : Value} (hr : fn.results = #[r1, r2]) (h1 : (resOne tmps r1).run P w = .ok v1 w) (h2 : (resOne tmps r2).run P w = .ok v2 w) : (results fn tmps).run P w = .ok (.tuple #[v1, v2]) w := by
  rw [results_mapM, hr]; simp [h1, h2]
theorem res3 {fn : Func} {tmps : Array Value} {w : World} {r1 r2 r3 : ResultVar} {v1 v2 v3 : Value} (hr : fn.results = #[r1, r2, r3]) (h1 : (resOne tmps r1).run P w = .ok v1 w) (h2 : (resOne tmps r2).run P w = .ok v2 w) (h3 : (resOne tmps r3).run P w = .ok v3 w) :
    (results fn tmps).run P w = .ok (.tuple #[v1, v2, v3]) w := by
  rw [results_mapM, hr]; simp [h1, h2, h3]
theorem bp_ret {fn : Func} {R : Ending → World → Prop} {tmps : Array Value} {w : World} {v : Value} (hr : (results fn tmps).run P w = .ok v w) (hR : R (.returned v) w) : bodyPost P fn R .ret ⟨tmps, []⟩ w := ⟨rfl, v, hr, hR⟩
theorem bp_end {fn : Func} {R : Ending → World → Prop} {tmps : Array Value} {w : World} {v : Value} (hr : (results fn tmps).run P w = .ok v w) (hR : R (.returned v) w) : bodyPost P fn R .normal ⟨tmps, []⟩ w := ⟨rfl, v, hr, hR⟩
theorem ex_beq {o : Oper} {ρ : Operand → Value} {w : World} {x y : Int} {b : Bool} (h : (execOp ρ o).run P w = .ok (.value (.bool (x == y))) w) (hb : b = true ↔ x = y) : (execOp ρ o).run P w = .ok (.value (.bool b)) w := by
  rw [h]; cases b <;> simp_all
theorem ex_bne {o : Oper} {ρ : Operand → Value} {w : World} {x y : Int} {b : Bool} (h : (execOp ρ o).run P w = .ok (.value (.bool (x != y))) w) (hb : b = true ↔ x ≠ y) : (execOp ρ o).run P w = .ok (.value (.bool b)) w := by
  rw [h]; cases b <;> simp_all
theorem eqt {o : Oper} {ρ : Operand → Value} {w : World} {x y : Int} (hb : x = y) (h : (execOp ρ o).run P w = .ok (.value (.bool (x == y))) w := by kernel_rfl) : (execOp ρ o).run P w = .ok (.value (.bool true)) w := ex_beq h ⟨fun _ => hb, fun _ => rfl⟩
theorem eqf {o : Oper} {ρ : Operand → Value} {w : World} {x y : Int} (hb : ¬ x = y) (h : (execOp ρ o).run P w = .ok (.value (.bool (x == y))) w := by kernel_rfl) : (execOp ρ o).run P w = .ok (.value (.bool false)) w := ex_beq h ⟨fun q => (by cases q), fun q => absurd q hb⟩
theorem net {o : Oper} {ρ : Operand → Value} {w : World} {x y : Int} (hb : x ≠ y) (h : (execOp ρ o).run P w = .ok (.value (.bool (x != y))) w := by kernel_rfl) : (execOp ρ o).run P w = .ok (.value (.bool true)) w := ex_bne h ⟨fun _ => hb, fun _ => rfl⟩
theorem nef {o : Oper} {ρ : Operand → Value} {w : World} {x y : Int} (hb : ¬ x ≠ y) (h : (execOp ρ o).run P w = .ok (.value (.bool (x != y))) w := by kernel_rfl) : (execOp ρ o).run P w = .ok (.value (.bool false)) w := ex_bne h ⟨fun q => (by cases q), fun q => absurd q hb⟩
theorem ex_val {o : Oper} {ρ : Operand → Value} {w : World} {v v' : Value} (h : (execOp ρ o).run P w = .ok (.value v) w) (hv : v = v') : (execOp ρ o).run P w = .ok (.value v') w := by rw [h, hv]
end
attribute [irreducible] wpL

/-- the measure of bytes, as a value -/
def wv (l : List UInt8) : Value := .agg #[.int .i64 l.length, .int .i64 (runesN l), .int .i64 (unitsN l), .int .i64 (endsN l), .string (bs (headOf l)), .string (bs (tailOf l))]
theorem weldOf_wv (l : List UInt8) : (weldOf l).val = wv l := weldOf_val l
theorem both_wv (a b : List UInt8) (hm : a.length + b.length ≤ 268435456) (w : World) (hT : Tabs w) :
    Calls Tryd.prog 85 #[wv a, wv b] w fun e w' => e = .returned (.tuple #[wv (a ++ b), szV 0 (seamOf a b).1 (seamOf a b).2 (seamE a b), .int .i64 0]) ∧ Ltr w w' := by
  have := both_any a b hm w hT
  rwa [weldOf_wv, weldOf_wv, weldOf_wv] at this

set_option maxRecDepth 100000 in
set_option maxHeartbeats 4000000 in
theorem WJoin_any (a b : List UInt8) (hm : a.length + b.length ≤ 268435456) (w : World) (hT : Tabs w) :
    Calls Tryd.prog 40 #[wv a, wv b] w fun e w' => e = .returned (.tuple #[wv (a ++ b), .int .i64 0]) ∧ Ltr w w' := by
  have hB := Ltr.refl w
  unfold wv
  go_enter Tryd.func40, Tryd.ntmps40
  have h4 := hT.four
  refine wp_seq_k fun KK1 hKK1 => rl_begin fun hgK hgo => ?_
  refine rl_alloc (some 2) 36 #[.int .i64 a.length, .int .i64 (runesN a), .int .i64 (unitsN a), .int .i64 (endsN a), .string (bs (headOf a)), .string (bs (tailOf a))] rfl (by kernel_rfl) (fun W => by kernel_rfl) fun p2 w2 hL2 hp2 hb2 => ?_
  have hz2 := hL2.size
  have hlt2 := hb2.lt
  try simp only [pp]
  refine rl_alloc (some 3) 36 #[.int .i64 b.length, .int .i64 (runesN b), .int .i64 (unitsN b), .int .i64 (endsN b), .string (bs (headOf b)), .string (bs (tailOf b))] rfl (by kernel_rfl) (fun W => by kernel_rfl) fun p3 w3 hL3 hp3 hb3 => ?_
  have hz3 := hL3.size
  have hlt3 := hb3.lt
  try simp only [pp]
  refine rl_alloc (some 4) 36 #[.int .i64 0, .int .i64 0, .int .i64 0, .int .i64 0, .string ⟨#[]⟩, .string ⟨#[]⟩] rfl (by kernel_rfl) (fun W => by kernel_rfl) fun p4 w4 hL4 hp4 hb4 => ?_
  have hz4 := hL4.size
  have hlt4 := hb4.lt
  try simp only [pp]
  refine tk 5 (.int .i64 0) ?_
  simp only [pp]
  refine rl_end hgo <| hKK1 _ _ <| wp_seq_k fun KK5 hKK5 => rl_begin fun hgK hgo => ?_
  replace hb2 := (hb2.later hL3).later hL4
  refine tx 10 (.agg #[.int .i64 a.length, .int .i64 (runesN a), .int .i64 (unitsN a), .int .i64 (endsN a), .string (bs (headOf a)), .string (bs (tailOf a))]) (by exact ldN 36 _ rfl p2 0 rfl (fun _ => by kernel_rfl) [] [.int .i64 a.length, .int .i64 (runesN a), .int .i64 (unitsN a), .int .i64 (endsN a), .string (bs (headOf a)), .string (bs (tailOf a))] [] (by kernel_rfl) hb2 rfl rfl) ?_
  simp only [pp]
  replace hb3 := hb3.later hL4
  refine tx 11 (.agg #[.int .i64 b.length, .int .i64 (runesN b), .int .i64 (unitsN b), .int .i64 (endsN b), .string (bs (headOf b)), .string (bs (tailOf b))]) (by exact ldN 36 _ rfl p3 0 rfl (fun _ => by kernel_rfl) [] [.int .i64 b.length, .int .i64 (runesN b), .int .i64 (unitsN b), .int .i64 (endsN b), .string (bs (headOf b)), .string (bs (tailOf b))] [] (by kernel_rfl) hb3 rfl rfl) ?_
  simp only [pp]
  replace hT := ((hT.later hL2).later hL3).later hL4
  refine rl_call (some 12) 85 #[.agg #[.int .i64 a.length, .int .i64 (runesN a), .int .i64 (unitsN a), .int .i64 (endsN a), .string (bs (headOf a)), .string (bs (tailOf a))], .agg #[.int .i64 b.length, .int .i64 (runesN b), .int .i64 (unitsN b), .int .i64 (endsN b), .string (bs (headOf b)), .string (bs (tailOf b))]] rfl (by kernel_rfl) (by kernel_rfl) (both_wv a b hm _ hT) ?_
  rintro e w6 ⟨rfl, hL6⟩
  refine ⟨_, rfl, ?_⟩
  have hz6 := hL6.size
  try simp only [pp]
  refine tk 9 (.tuple #[.agg #[.int .i64 (a ++ b).length, .int .i64 (runesN (a ++ b)), .int .i64 (unitsN (a ++ b)), .int .i64 (endsN (a ++ b)), .string (bs (headOf (a ++ b))), .string (bs (tailOf (a ++ b)))], .agg #[.int .i64 0, .int .i64 (seamOf a b).1, .int .i64 (seamOf a b).2, .int .i64 (seamE a b)], .int .i64 0]) <| tk 13 (.agg #[.int .i64 (a ++ b).length, .int .i64 (runesN (a ++ b)), .int .i64 (unitsN (a ++ b)), .int .i64 (endsN (a ++ b)), .string (bs (headOf (a ++ b))), .string (bs (tailOf (a ++ b)))]) <| tk 14 (.agg #[.int .i64 0, .int .i64 (seamOf a b).1, .int .i64 (seamOf a b).2, .int .i64 (seamE a b)]) <| tk 15 (.int .i64 0) ?_
  simp only [pp]
  refine rl_alloc (some 6) 36 #[.int .i64 0, .int .i64 0, .int .i64 0, .int .i64 0, .string ⟨#[]⟩, .string ⟨#[]⟩] rfl (by kernel_rfl) (fun W => by kernel_rfl) fun p7 w7 hL7 hp7 hb7 => ?_
  have hz7 := hL7.size
  have hlt7 := hb7.lt
  try simp only [pp]
  refine rl_alloc (some 7) 34 #[.int .i64 0, .int .i64 0, .int .i64 0, .int .i64 0] rfl (by kernel_rfl) (fun W => by kernel_rfl) fun p8 w8 hL8 hp8 hb8 => ?_
  have hz8 := hL8.size
  have hlt8 := hb8.lt
  try simp only [pp]
  replace hb7 := hb7.later hL8
  refine rl_store p7 #[.int .i64 (a ++ b).length, .int .i64 (runesN (a ++ b)), .int .i64 (unitsN (a ++ b)), .int .i64 (endsN (a ++ b)), .string (bs (headOf (a ++ b))), .string (bs (tailOf (a ++ b)))] rfl rfl (by kernel_rfl) rfl rfl (by kernel_rfl) hb7 rfl (by kernel_rfl) fun w9 hU9 hn9 => ?_
  have hz9 := hU9.size
  replace hT := ((hT.later hL6).later hL7).later hL8
  replace hT := hT.upd hU9 (by omega)
  replace hB := (((((hB.later hL2).later hL3).later hL4).later hL6).later hL7).later hL8
  replace hB := hB.upd hU9 (by omega)
  replace hb2 := ((hb2.later hL6).later hL7).later hL8
  replace hb2 := hb2.upd hU9 (by omega)
  replace hb3 := ((hb3.later hL6).later hL7).later hL8
  replace hb3 := hb3.upd hU9 (by omega)
  replace hb4 := ((hb4.later hL6).later hL7).later hL8
  replace hb4 := hb4.upd hU9 (by omega)
  replace hb8 := hb8.upd hU9 (by omega)
  clear hb7
  have hb7 := hn9
  clear hn9
  try simp only [pp]
  refine rl_store p8 #[.int .i64 0, .int .i64 (seamOf a b).1, .int .i64 (seamOf a b).2, .int .i64 (seamE a b)] rfl rfl (by kernel_rfl) rfl rfl (by kernel_rfl) hb8 rfl (by kernel_rfl) fun w10 hU10 hn10 => ?_
  have hz10 := hU10.size
  replace hT := hT.upd hU10 (by omega)
  replace hB := hB.upd hU10 (by omega)
  replace hb2 := hb2.upd hU10 (by omega)
  replace hb3 := hb3.upd hU10 (by omega)
  replace hb4 := hb4.upd hU10 (by omega)
  replace hb7 := hb7.upd hU10 (by omega)
  clear hb8
  have hb8 := hn10
  clear hn10
  try simp only [pp]
  refine tk 8 (.int .i64 0) ?_
  simp only [pp]
  refine rl_end hgo <| hKK5 _ _ <| wp_seq_k fun KK11 hKK11 => rl_begin fun hgK hgo => ?_
  refine tx 16 (.agg #[.int .i64 (a ++ b).length, .int .i64 (runesN (a ++ b)), .int .i64 (unitsN (a ++ b)), .int .i64 (endsN (a ++ b)), .string (bs (headOf (a ++ b))), .string (bs (tailOf (a ++ b)))]) (by exact ldN 36 _ rfl p7 0 rfl (fun _ => by kernel_rfl) [] [.int .i64 (a ++ b).length, .int .i64 (runesN (a ++ b)), .int .i64 (unitsN (a ++ b)), .int .i64 (endsN (a ++ b)), .string (bs (headOf (a ++ b))), .string (bs (tailOf (a ++ b)))] [] (by kernel_rfl) hb7 rfl rfl) <| tk 17 (.int .i64 0) ?_
  simp only [pp]
  refine rl_store p4 #[.int .i64 (a ++ b).length, .int .i64 (runesN (a ++ b)), .int .i64 (unitsN (a ++ b)), .int .i64 (endsN (a ++ b)), .string (bs (headOf (a ++ b))), .string (bs (tailOf (a ++ b)))] rfl rfl (by kernel_rfl) rfl rfl (by kernel_rfl) hb4 rfl (by kernel_rfl) fun w12 hU12 hn12 => ?_
  have hz12 := hU12.size
  replace hT := hT.upd hU12 (by omega)
  replace hB := hB.upd hU12 (by omega)
  replace hb2 := hb2.upd hU12 (by omega)
  replace hb3 := hb3.upd hU12 (by omega)
  replace hb7 := hb7.upd hU12 (by omega)
  replace hb8 := hb8.upd hU12 (by omega)
  clear hb4
  have hb4 := hn12
  clear hn12
  try simp only [pp]
  refine tk 5 (.int .i64 0) ?_
  simp only [pp]
  refine rl_end hgo <| hKK11 _ _ ?_
  refine wp_ret ?_
  try simp only [Exit.then, Exit.inBlock]
  refine bp_ret (v := .tuple #[.agg #[.int .i64 (a ++ b).length, .int .i64 (runesN (a ++ b)), .int .i64 (unitsN (a ++ b)), .int .i64 (endsN (a ++ b)), .string (bs (headOf (a ++ b))), .string (bs (tailOf (a ++ b)))], .int .i64 0]) (res2 rfl (res_cell (b := p4) (cs := [.int .i64 (a ++ b).length, .int .i64 (runesN (a ++ b)), .int .i64 (unitsN (a ++ b)), .int .i64 (endsN (a ++ b)), .string (bs (headOf (a ++ b))), .string (bs (tailOf (a ++ b)))]) (by kernel_rfl) (fun _ => by kernel_rfl) (by kernel_rfl) hb4) (res_tmp (by kernel_rfl))) ?_
  exact ⟨rfl, hB⟩

set_option maxRecDepth 100000 in
set_option maxHeartbeats 4000000 in
theorem rboth_any (a b : List UInt8) (hm : a.length + b.length ≤ 268435456) (w : World) (hT : Tabs w) :
    Calls Tryd.prog 61 #[wv a, wv b] w fun e w' => e = .returned (wv (a ++ b)) ∧ Ltr w w' := by
  have hB := Ltr.refl w
  unfold wv
  go_enter Tryd.func61, Tryd.ntmps61
  have h4 := hT.four
  refine wp_seq_k fun KK1 hKK1 => rl_begin fun hgK hgo => ?_
  refine rl_alloc (some 2) 36 #[.int .i64 a.length, .int .i64 (runesN a), .int .i64 (unitsN a), .int .i64 (endsN a), .string (bs (headOf a)), .string (bs (tailOf a))] rfl (by kernel_rfl) (fun W => by kernel_rfl) fun p2 w2 hL2 hp2 hb2 => ?_
  have hz2 := hL2.size
  have hlt2 := hb2.lt
  try simp only [pp]
  refine rl_alloc (some 3) 36 #[.int .i64 b.length, .int .i64 (runesN b), .int .i64 (unitsN b), .int .i64 (endsN b), .string (bs (headOf b)), .string (bs (tailOf b))] rfl (by kernel_rfl) (fun W => by kernel_rfl) fun p3 w3 hL3 hp3 hb3 => ?_
  have hz3 := hL3.size
  have hlt3 := hb3.lt
  try simp only [pp]
  refine rl_alloc (some 4) 36 #[.int .i64 0, .int .i64 0, .int .i64 0, .int .i64 0, .string ⟨#[]⟩, .string ⟨#[]⟩] rfl (by kernel_rfl) (fun W => by kernel_rfl) fun p4 w4 hL4 hp4 hb4 => ?_
  have hz4 := hL4.size
  have hlt4 := hb4.lt
  try simp only [pp]
  refine rl_end hgo <| hKK1 _ _ <| wp_seq_k fun KK5 hKK5 => rl_begin fun hgK hgo => ?_
  replace hb2 := (hb2.later hL3).later hL4
  refine tx 8 (.agg #[.int .i64 a.length, .int .i64 (runesN a), .int .i64 (unitsN a), .int .i64 (endsN a), .string (bs (headOf a)), .string (bs (tailOf a))]) (by exact ldN 36 _ rfl p2 0 rfl (fun _ => by kernel_rfl) [] [.int .i64 a.length, .int .i64 (runesN a), .int .i64 (unitsN a), .int .i64 (endsN a), .string (bs (headOf a)), .string (bs (tailOf a))] [] (by kernel_rfl) hb2 rfl rfl) ?_
  simp only [pp]
  replace hb3 := hb3.later hL4
  refine tx 9 (.agg #[.int .i64 b.length, .int .i64 (runesN b), .int .i64 (unitsN b), .int .i64 (endsN b), .string (bs (headOf b)), .string (bs (tailOf b))]) (by exact ldN 36 _ rfl p3 0 rfl (fun _ => by kernel_rfl) [] [.int .i64 b.length, .int .i64 (runesN b), .int .i64 (unitsN b), .int .i64 (endsN b), .string (bs (headOf b)), .string (bs (tailOf b))] [] (by kernel_rfl) hb3 rfl rfl) ?_
  simp only [pp]
  replace hT := ((hT.later hL2).later hL3).later hL4
  refine rl_call (some 10) 40 #[.agg #[.int .i64 a.length, .int .i64 (runesN a), .int .i64 (unitsN a), .int .i64 (endsN a), .string (bs (headOf a)), .string (bs (tailOf a))], .agg #[.int .i64 b.length, .int .i64 (runesN b), .int .i64 (unitsN b), .int .i64 (endsN b), .string (bs (headOf b)), .string (bs (tailOf b))]] rfl (by kernel_rfl) (by kernel_rfl) (WJoin_any a b hm _ hT) ?_
  rintro e w6 ⟨rfl, hL6⟩
  refine ⟨_, rfl, ?_⟩
  have hz6 := hL6.size
  try simp only [pp]
  refine tk 7 (.tuple #[.agg #[.int .i64 (a ++ b).length, .int .i64 (runesN (a ++ b)), .int .i64 (unitsN (a ++ b)), .int .i64 (endsN (a ++ b)), .string (bs (headOf (a ++ b))), .string (bs (tailOf (a ++ b)))], .int .i64 0]) <| tk 11 (.agg #[.int .i64 (a ++ b).length, .int .i64 (runesN (a ++ b)), .int .i64 (unitsN (a ++ b)), .int .i64 (endsN (a ++ b)), .string (bs (headOf (a ++ b))), .string (bs (tailOf (a ++ b)))]) <| tk 12 (.int .i64 0) ?_
  simp only [pp]
  refine rl_alloc (some 5) 36 #[.int .i64 0, .int .i64 0, .int .i64 0, .int .i64 0, .string ⟨#[]⟩, .string ⟨#[]⟩] rfl (by kernel_rfl) (fun W => by kernel_rfl) fun p7 w7 hL7 hp7 hb7 => ?_
  have hz7 := hL7.size
  have hlt7 := hb7.lt
  try simp only [pp]
  refine rl_store p7 #[.int .i64 (a ++ b).length, .int .i64 (runesN (a ++ b)), .int .i64 (unitsN (a ++ b)), .int .i64 (endsN (a ++ b)), .string (bs (headOf (a ++ b))), .string (bs (tailOf (a ++ b)))] rfl rfl (by kernel_rfl) rfl rfl (by kernel_rfl) hb7 rfl (by kernel_rfl) fun w8 hU8 hn8 => ?_
  have hz8 := hU8.size
  replace hT := (hT.later hL6).later hL7
  replace hT := hT.upd hU8 (by omega)
  replace hB := ((((hB.later hL2).later hL3).later hL4).later hL6).later hL7
  replace hB := hB.upd hU8 (by omega)
  replace hb2 := (hb2.later hL6).later hL7
  replace hb2 := hb2.upd hU8 (by omega)
  replace hb3 := (hb3.later hL6).later hL7
  replace hb3 := hb3.upd hU8 (by omega)
  replace hb4 := (hb4.later hL6).later hL7
  replace hb4 := hb4.upd hU8 (by omega)
  clear hb7
  have hb7 := hn8
  clear hn8
  try simp only [pp]
  refine tk 6 (.int .i64 0) ?_
  simp only [pp]
  refine rl_end hgo <| hKK5 _ _ <| wp_seq_k fun KK9 hKK9 => rl_begin fun hgK hgo => ?_
  refine tx 13 (.agg #[.int .i64 (a ++ b).length, .int .i64 (runesN (a ++ b)), .int .i64 (unitsN (a ++ b)), .int .i64 (endsN (a ++ b)), .string (bs (headOf (a ++ b))), .string (bs (tailOf (a ++ b)))]) (by exact ldN 36 _ rfl p7 0 rfl (fun _ => by kernel_rfl) [] [.int .i64 (a ++ b).length, .int .i64 (runesN (a ++ b)), .int .i64 (unitsN (a ++ b)), .int .i64 (endsN (a ++ b)), .string (bs (headOf (a ++ b))), .string (bs (tailOf (a ++ b)))] [] (by kernel_rfl) hb7 rfl rfl) ?_
  simp only [pp]
  refine rl_store p4 #[.int .i64 (a ++ b).length, .int .i64 (runesN (a ++ b)), .int .i64 (unitsN (a ++ b)), .int .i64 (endsN (a ++ b)), .string (bs (headOf (a ++ b))), .string (bs (tailOf (a ++ b)))] rfl rfl (by kernel_rfl) rfl rfl (by kernel_rfl) hb4 rfl (by kernel_rfl) fun w10 hU10 hn10 => ?_
  have hz10 := hU10.size
  replace hT := hT.upd hU10 (by omega)
  replace hB := hB.upd hU10 (by omega)
  replace hb2 := hb2.upd hU10 (by omega)
  replace hb3 := hb3.upd hU10 (by omega)
  replace hb7 := hb7.upd hU10 (by omega)
  clear hb4
  have hb4 := hn10
  clear hn10
  try simp only [pp]
  refine rl_end hgo <| hKK9 _ _ ?_
  refine wp_ret ?_
  try simp only [Exit.then, Exit.inBlock]
  refine bp_ret (v := .agg #[.int .i64 (a ++ b).length, .int .i64 (runesN (a ++ b)), .int .i64 (unitsN (a ++ b)), .int .i64 (endsN (a ++ b)), .string (bs (headOf (a ++ b))), .string (bs (tailOf (a ++ b)))]) (res1 rfl (res_cell (b := p4) (cs := [.int .i64 (a ++ b).length, .int .i64 (runesN (a ++ b)), .int .i64 (unitsN (a ++ b)), .int .i64 (endsN (a ++ b)), .string (bs (headOf (a ++ b))), .string (bs (tailOf (a ++ b)))]) (by kernel_rfl) (fun _ => by kernel_rfl) (by kernel_rfl) hb4)) ?_
  exact ⟨rfl, hB⟩
end Go.Proofs.YtliphfgiaioebaaDoor
