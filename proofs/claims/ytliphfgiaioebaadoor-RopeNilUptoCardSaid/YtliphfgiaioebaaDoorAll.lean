/-
  Package step: All, as an iterator: its contract for a range over it.
-/
import Derived.Test.YtliphfgiaioebaaDoorStep2
import Derived.RangeFuncNested
import Derived.RangeFuncBound
import Derived.RangeFuncCalls
import Derived.RangeFuncLeaves
import Derived.Shelf.Abstract
import Derived.Shelf.RegionOpen
import Derived.OwnWalkIn
import Derived.TacticsInMore
import Derived.LoopNIn
import Derived.LoopIn
namespace Go.Proofs.YtliphfgiaioebaaDoor
set_option linter.unusedVariables false
set_option linter.unusedSimpArgs false
open Go.RowKit Go.Shelf
attribute [local go_sem] Oper.semAt_some

/-- the places at which steps begin, from p on (k: how many at most) -/
def placesFrom (l : List UInt8) : Nat → Nat → List Nat
  | 0, _ => []
  | k + 1, p => if p < l.length then p :: placesFrom l k (p + stepW (l.drop p)) else []
def places (l : List UInt8) : List Nat := placesFrom l l.length 0

/-- what a round that goes on keeps -/
def KpA (n₀ B : Nat) (W W' : World) : Prop := Below n₀ W W' ∧ KeepsWalks W W' ∧ ∀ v, W.cell? ⟨B, 0, none⟩ = some v → W'.cell? ⟨B, 0, none⟩ = some v
theorem kpA_t {n₀ B : Nat} {A C D : World} (h : KpA n₀ B A C) (k : KpA n₀ B C D) : KpA n₀ B A D := ⟨h.1.trans k.1, h.2.1.trans k.2.1, fun v hv => k.2.2 v (h.2.2 v hv)⟩
theorem kpA_b {n₀ B : Nat} {w : World} (hn : n₀ ≤ w.heap.size) (W : World) (l : Nat) (o o' : Obj) (hl : w.heap.size ≤ l) (h : W.heap[l]? = some o) (hc : o.isCells = false) (hw : o.isWalk = false) : KpA n₀ B W (W.putObj l o') :=
  ⟨belowK_b hn W l o o' hl h hc hw, walksK_b W l o o' hl h hc hw, fun v hv => by
    have hne : B ≠ l := by
      intro e; subst e
      obtain ⟨ob, ho, hcc⟩ := cells_of_cell hv
      rw [h] at ho; cases ho; rw [hc] at hcc; cases hcc
    rw [← hv]; exact World.cell?_of_block (w := W) (a := ⟨B, 0, none⟩) (World.putObj_heap_other hne)⟩

def encA (l : List UInt8) (p : Nat) : Array Value := #[.int .i64 p, .agg #[.int .i32 (runeOf (l.drop p)), .int .i64 (stepW (l.drop p)), .bool (whole (l.drop p))]]

set_option maxRecDepth 100000 in
set_option maxHeartbeats 2000000 in
theorem all1_in (lp Bn n₀ : Nat) (l : List UInt8) (hl : l.length ≤ 140737488355328) (J Jx : List Nat → World → Prop)
    (hY : ∀ pre x W, J pre W → pre.length < l.length → YieldAt Fence.wide 0 Tryd.prog lp (encA l x) W fun e W' =>
      (e = .returned (.bool true) ∧ J (pre ++ [x]) W' ∧ KpA n₀ Bn W W') ∨ (e = .returned (.bool false) ∧ Jx (pre ++ [x]) W'))
    (W : World) (hT : ∀ W', Below n₀ W W' → Tabs W') (hn : n₀ ≤ W.heap.size) (hBn : W.cell? ⟨Bn, 0, none⟩ = some (.string (bs l))) (hJ : AbidesFrom W.heap.size J) (hJx : AbidesFrom W.heap.size Jx) (h0 : J [] W) :
    CallsIn Fence.wide 1 Tryd.prog 126 #[.func (.yield lp) #[] #[], .pointer (some ⟨Bn, 0, none⟩)] W fun e W' => (∃ v, e = .returned v) ∧
      ((∃ xs, xs = places l ∧ J xs W') ∨ (∃ pre, True ∧ Jx pre W')) := by
  refine callsIn_of_wp Tryd.func126 rfl trivial ?_ rfl
  simp only [Tryd.ntmps126, List.size_toArray, List.length_cons, List.length_nil, Nat.reduceAdd, Nat.reduceSub, Array.replicate_succ, Array.replicate_zero, List.push_toArray, List.append_toArray, List.nil_append, List.cons_append]
  gi_wp2
  unfold World.iter
  have hlt : Bn < W.heap.size := World.block_lt_of_cell? W ⟨Bn, 0, none⟩ hBn
  have hb0 : Below W.heap.size W (W.alloc (.stringIter (bs l) 0)) := bl_alloc (bl_refl W)
  have a1 : (W.alloc (.stringIter (bs l) 0)).heap[W.heap.size]? = some (.stringIter (bs l) 0) := World.alloc_heap_new W _
  have a2 : (W.alloc (.stringIter (bs l) 0)).cell? ⟨Bn, 0, none⟩ = some (.string (bs l)) := bl_cell hb0 hBn
  have a3 : J [] (W.alloc (.stringIter (bs l) 0)) := hJ _ _ _ none h0 (World.grownBy_alloc W _ none) (fun r e => by cases e)
  have a4 : Below n₀ W (W.alloc (.stringIter (bs l) 0)) := hb0.mono hn
  gi_loopw [] (fun wr => ∃ (pre : List Nat) (p k : Nat), Hid (l.length ≤ p + k ∧ p ≤ l.length ∧ pre.length ≤ p ∧ places l = pre ++ placesFrom l k p ∧ J pre wr ∧ wr.heap[W.heap.size]? = some (.stringIter (bs l) p) ∧ wr.cell? ⟨Bn, 0, none⟩ = some (.string (bs l)) ∧ Below n₀ W wr)) (fun wr => l.length - wr.iterPos W.heap.size)
  case atStart => exact ⟨[], 0, l.length, by omega, by omega, by simp, rfl, a3, a1, a2, a4⟩
  case round =>
    obtain ⟨pre, p, k, H⟩ := hrel
    obtain ⟨r1, r2, r3, r4, r5, r6, r7, r8⟩ := H.out
    clear H a1 a2 a3 a4 hb0
    have hpos : wr.iterPos W.heap.size = p := by unfold World.iterPos; rw [r6]
    by_cases hp : p < l.length
    · obtain ⟨k, rfl⟩ : ∃ k', k = k' + 1 := ⟨k - 1, by omega⟩
      have hpl : placesFrom l (k + 1) p = p :: placesFrom l k (p + stepW (l.drop p)) := by rw [placesFrom, if_pos hp]
      have hw1 := stepW_pos (l.drop p)
      have hw2 := stepW_le (l.drop p) (by simp; omega)
      rw [List.length_drop] at hw2
      have hnx := fun ty => Lib.run_next_any_at (P := Tryd.prog) wr W.heap.size (bs l) p ty r6 (by rw [bs_size]; exact hp)
      rw [decode_bs l p hp] at hnx
      simp only [] at hnx
      rw [show ((runeOf (l.drop p)).toNat : Int) = runeOf (l.drop p) from Int.toNat_of_nonneg (runeOf_r _).1] at hnx
      have g1 := Lib.iterAt_heap wr W.heap.size (bs l) p (p + stepW (l.drop p)) r6
      have gb1 : wr.grownBy (wr.iterAt W.heap.size (bs l) (p + stepW (l.drop p))) (some W.heap.size) :=
        ⟨rfl, rfl, rfl, by rw [Lib.iterAt_size]; exact Nat.le_refl _, fun i _ hi => Lib.iterAt_other wr _ i _ _ (fun e => hi (by rw [e]))⟩
      have g2 : (wr.iterAt W.heap.size (bs l) (p + stepW (l.drop p))).cell? ⟨Bn, 0, none⟩ = some (.string (bs l)) :=
        (World.cell?_of_block (w := wr) (a := ⟨Bn, 0, none⟩) (Lib.iterAt_other wr _ _ _ _ (by show Bn ≠ W.heap.size; omega))).trans r7
      have g3 : J pre (wr.iterAt W.heap.size (bs l) (p + stepW (l.drop p))) := hJ _ _ _ _ r5 gb1 (fun r e => by cases e; exact ⟨Nat.le_refl _, _, r6, rfl⟩)
      have g4 : Below n₀ W (wr.iterAt W.heap.size (bs l) (p + stepW (l.drop p))) := Lib.below_iterAt r8 hn _ _
      generalize wr.iterAt W.heap.size (bs l) (p + stepW (l.drop p)) = W1 at *
      have hfi := first_any (l.drop p) W1 (hT W1 g4) (by rw [List.length_drop]; omega)
      unfold stepVal at hfi
      have hY' := fun W2 (hb : Below W1.heap.size W1 W2) => hY pre p W2 (hJ _ _ _ none g3 ⟨hb.os, hb.tape, hb.output, hb.size, fun i hi _ => hb.block i hi⟩ (fun r e => by cases e)) (by omega)
      unfold encA at hY'
      have hsl : bs (l.drop p) = (bs l).extract p (bs l).size := by
        rw [bs_extract, bs_size, List.take_of_length_le (Nat.le_refl _)]
      have hps : p ≤ (bs l).size := by rw [bs_size]; omega
      rw [hsl] at hfi
      have hca := Lib.hid hfi
      have HY := Lib.hid hY'
      have HPL := Lib.hid hpl
      have H4 := Lib.hid r4
      have G1 := Lib.hid g1
      have HPOS := Lib.hid hpos
      have HBN := Lib.hid hBn
      clear hfi hY' hY hpl r4 g1 r6 r7 hpos hsl hBn
      generalize runeOf (l.drop p) = q1 at *
      generalize whole (l.drop p) = q3 at *
      generalize hq : stepW (l.drop p) = q2 at *
      have HQ := Lib.hid hq
      clear hq
      gi_wp2_with (refine ⟨trivial, ?_⟩; gi_at_call 127; refine (callsIn_wide.2 hca.out).mono ?_; rintro e w2 ⟨rfl, hb⟩; have g5 := bl_cell hb g2; obtain ⟨fn, tmps, assign, body, hy, hR⟩ := HY.out w2 hb)
      refine hR.mono ?_
      rintro e W3 (⟨rfl, hJ3, hk3⟩ | ⟨rfl, hJx3⟩)
      · have f1 : W3.heap[W.heap.size]? = some (.stringIter (bs l) (p + q2)) := hk3.2.1.same _ _ ((hb.block _ (Array.getElem?_eq_some_iff.1 G1.out).1).trans G1.out) rfl
        have f2 := hk3.2.2 _ g5
        have f3 : Below n₀ W W3 := (g4.trans (hb.mono (Nat.le_trans hn (by have := (Array.getElem?_eq_some_iff.1 G1.out).1; omega)))).trans hk3.1
        have f4 : W3.iterPos W.heap.size = p + q2 := by unfold World.iterPos; rw [f1]
        have hm : l.length - W3.iterPos W.heap.size < l.length - wr.iterPos W.heap.size := by rw [f4, HPOS.out]; omega
        have hrel : Hid (l.length ≤ (p + q2) + k ∧ p + q2 ≤ l.length ∧ (pre ++ [p]).length ≤ p + q2 ∧ places l = (pre ++ [p]) ++ placesFrom l k (p + q2) ∧ J (pre ++ [p]) W3 ∧ W3.heap[W.heap.size]? = some (.stringIter (bs l) (p + q2)) ∧ W3.cell? ⟨Bn, 0, none⟩ = some (.string (bs l)) ∧ Below n₀ W W3) :=
          ⟨by omega, by omega, by simp; omega, by rw [H4.out, HPL.out]; simp, hJ3, f1, f2, f3⟩
        have HM := Lib.hid hm
        clear f1 f2 f3 f4 hm
        gi_wp2
        go_roundw
        case rel => exact ⟨pre ++ [p], p + q2, k, hrel⟩
        case measure => exact HM.out
      · gi_wp2
        refine bodyPost_ret (results_none rfl _ _ _) rfl ?_
        exact ⟨⟨_, rfl⟩, .inr ⟨pre ++ [p], trivial, hJx3⟩⟩
    · have hpl : placesFrom l k p = [] := by
        cases k with
        | zero => rfl
        | succ k => rw [placesFrom, if_neg hp]
      rw [hpl, List.append_nil] at r4
      have hnx := fun ty => Lib.run_next_end_at (P := Tryd.prog) wr W.heap.size (bs l) p ty r6 (by rw [bs_size]; exact hp)
      have HF : Hid ((∃ xs, xs = places l ∧ J xs wr) ∨ (∃ pre, True ∧ Jx pre wr)) := .inl ⟨pre, r4.symm, r5⟩
      clear hpl r4 r5 r6 r7 r8 hpos hY hBn
      gi_wp2
      go_end0
      exact ⟨⟨_, rfl⟩, HF⟩

/-- THE ITERATOR's CONTRACT. -/
theorem all_stops (Bn n₀ : Nat) (l : List UInt8) (hl : l.length ≤ 140737488355328) (w : World) (hT : ∀ W', Below n₀ w W' → Tabs W') (hn : n₀ ≤ w.heap.size) (hBn : w.cell? ⟨Bn, 0, none⟩ = some (.string (bs l))) :
    SeqStopsK Fence.wide 1 Tryd.prog 126 #[.pointer (some ⟨Bn, 0, none⟩)] (encA l) (KpA n₀ Bn) (fun xs => xs = places l) (fun _ => True) l.length w :=
  fun lp J Jx W hW hJ hJx hY h0 =>
    all1_in lp Bn n₀ l hl J Jx hY W (fun W' h => hT W' ((hW.mono hn).trans h)) (Nat.le_trans hn hW.size) (bl_cell hW hBn) hJ hJx h0
end Go.Proofs.YtliphfgiaioebaaDoor
