/-
  A function that holds a range over a function: its marks; facts behind a turn of a block that holds no cells.
-/
import Derived.Test.YtliphfgiaioebaaDoorOwn
namespace Go.Proofs.YtliphfgiaioebaaDoor
set_option linter.unusedVariables false
set_option linter.unusedSimpArgs false
open Go.RowKit
theorem Fn_none : Fence.wide = Fn none := by unfold Fn; rfl
def Mark (D : Nat) (w : World) : Prop := w.heap[D]? = some (.deferred (some []))
theorem Mark.lt {D : Nat} {w : World} (h : Mark D w) : D < w.heap.size := (Array.getElem?_eq_some_iff.1 h).1
theorem Mark.later {D : Nat} {w w' : World} (h : Mark D w) (hl : Ltr w w') : Mark D w' := (hl.block D h.lt).trans h
theorem Mark.upd {D g : Nat} {w w' : World} (h : Mark D w) (hu : Upd g w w') (hg : D ≠ g) : Mark D w' := (hu.block D hg).trans h
/-! ### behind a turn of a block at or above D that holds no cells -/
section
variable {D : Nat} {w w' : World} {row : Option Nat}
theorem kcr (h : Mark D w) : ∀ r, some D = some r → D ≤ r ∧ ∃ o : Obj, w.heap[r]? = some o ∧ o.isCells = false := fun r e => by cases e; exact ⟨Nat.le_refl _, _, h, rfl⟩
theorem Blk.kc {B : Nat} {t : TypeId} {cs : Array Value} (h : Blk w B t cs) (hg : w.grownBy w' row) (hr : ∀ r, row = some r → D ≤ r ∧ ∃ o : Obj, w.heap[r]? = some o ∧ o.isCells = false) (_ : 0 ≤ 0) : Blk w' B t cs := h.keptC hg (fun r e => (hr r e).2)
theorem Ltr.kc {a : World} (h : Ltr a w) (hg : w.grownBy w' row) (hr : ∀ r, row = some r → D ≤ r ∧ ∃ o : Obj, w.heap[r]? = some o ∧ o.isCells = false) (hD : a.heap.size ≤ D) : Ltr a w' := h.gr hg (fun k e => Nat.le_trans hD (hr k e).1)
theorem Bel.kc {n : Nat} {a : World} (h : Bel n a w) (hg : w.grownBy w' row) (hr : ∀ r, row = some r → D ≤ r ∧ ∃ o : Obj, w.heap[r]? = some o ∧ o.isCells = false) (hD : n ≤ D) : Bel n a w' := h.gr hg (fun k e => Nat.le_trans hD (hr k e).1)
theorem Tabs.kc (h : Tabs w) (hg : w.grownBy w' row) (hr : ∀ r, row = some r → D ≤ r ∧ ∃ o : Obj, w.heap[r]? = some o ∧ o.isCells = false) (hD : 4 ≤ D) : Tabs w' := h.gr hg (fun k e => Nat.le_trans hD (hr k e).1)
theorem cellk {a : Addr} {v : Value} (h : w.cell? a = some v) (hg : w.grownBy w' row) (hr : ∀ r, row = some r → D ≤ r ∧ ∃ o : Obj, w.heap[r]? = some o ∧ o.isCells = false) : w'.cell? a = some v := cell_kept h hg (fun r e => (hr r e).2)
theorem CellsAt.kc {A : Option Addr} {xs : List Value} (h : CellsAt w A xs) (hg : w.grownBy w' row) (hr : ∀ r, row = some r → D ≤ r ∧ ∃ o : Obj, w.heap[r]? = some o ∧ o.isCells = false) (_ : 0 ≤ 0) : CellsAt w' A xs := fun h0 => by
  obtain ⟨b, off, e, hc⟩ := h h0
  exact ⟨b, off, e, fun i v hi => cellk (hc i v hi) hg hr⟩
theorem BytesAt.kc {A : Option Addr} {l : List UInt8} (h : BytesAt w A l) (hg : w.grownBy w' row) (hr : ∀ r, row = some r → D ≤ r ∧ ∃ o : Obj, w.heap[r]? = some o ∧ o.isCells = false) (hD : 0 ≤ 0) : BytesAt w' A l := bytesAt_iff.2 ((bytesAt_iff.1 h).kc hg hr hD)
theorem BytesN.kc {n : Nat} {A : Option Addr} {l : List UInt8} (h : BytesN n w A l) (hg : w.grownBy w' row) (hr : ∀ r, row = some r → D ≤ r ∧ ∃ o : Obj, w.heap[r]? = some o ∧ o.isCells = false) (hD : 0 ≤ 0) : BytesN n w' A l := ⟨Nat.le_trans h.1 hg.size, h.2.1.kc hg hr hD, h.2.2⟩
theorem BRow.kc {n c : Nat} {A : Option Addr} {l : List UInt8} (h : BRow n w A c l) (hg : w.grownBy w' row) (hr : ∀ r, row = some r → D ≤ r ∧ ∃ o : Obj, w.heap[r]? = some o ∧ o.isCells = false) (_ : 0 ≤ 0) : BRow n w' A c l := by
  obtain ⟨h1, h2, g, off, e, h3, h4, h5⟩ := h
  exact ⟨Nat.le_trans h1 hg.size, h2, g, off, e, h3, Nat.lt_of_lt_of_le h4 hg.size, fun i hi => ⟨cellk (h5 i hi).1 hg hr, (frozen_kept (h5 i hi).1 hg (fun r e => (hr r e).2)).trans (h5 i hi).2⟩⟩
theorem Own.kc {n : Nat} {E : TypeId} {v : Value} {xs : List Value} (h : Own n E w v xs) (hg : w.grownBy w' row) (hr : ∀ r, row = some r → D ≤ r ∧ ∃ o : Obj, w.heap[r]? = some o ∧ o.isCells = false) (_ : 0 ≤ 0) : Own n E w' v xs := by
  refine ⟨Nat.le_trans h.1 hg.size, h.2.kept hg ?_⟩
  rcases h.2.2 with ⟨rfl, _⟩ | ⟨g, cap, cur, rfl, _, hgb, _⟩
  · exact .inl rfl
  · refine .inr fun e' => ?_
    obtain ⟨_, o, ho, hc⟩ := hr g (by simpa [Value.ownBlock] using e'.symm)
    rw [hgb] at ho; cases ho; cases hc
theorem TreeN.kc {n : Nat} {t : Tr} {v : Value} (h : TreeN n w t v) (hg : w.grownBy w' row) (hr : ∀ r, row = some r → D ≤ r ∧ ∃ o : Obj, w.heap[r]? = some o ∧ o.isCells = false) (hD : n ≤ D) : TreeN n w' t v :=
  TreeN.bel h (Below.grown (Below.refl n w) hg h.1 (fun k e => Nat.le_trans hD (hr k e).1)) (Nat.le_refl _)
theorem Mark.kc {C : Nat} (h : Mark C w) (hg : w.grownBy w' row) (hr : ∀ r, row = some r → D ≤ r ∧ ∃ o : Obj, w.heap[r]? = some o ∧ o.isCells = false) (hD : C < D) : Mark C w' := (hg.block C h.lt (fun e => by have := (hr C e.symm).1; omega)).trans h
end
/-! ### leaving -/
section
variable {P : Program} {fn : Func} {R : Ending → World → Prop}
theorem bm_mark {tmps : Array Value} {D : Nat} {ds : List Deferred} {w : World} (hD : Mark D w) (h : ∀ w', w.grownBy w' (some D) → w'.heap.size = w.heap.size → bodyPostM Fence.wide 0 P fn R .ret ⟨tmps, ds⟩ w') :
    bodyPostM Fence.wide 0 P fn R .ret ⟨tmps, { target := .collected D, args := #[] } :: ds⟩ w :=
  ⟨by simp, .inl ⟨_, _, rfl, run_takeDeferred hD, h _ (grownBy_putObj' _ _ _) (by simp)⟩⟩
theorem bm_ret {tmps : Array Value} {w : World} {v : Value} (hr : (results fn tmps).run P w = .ok v w) (hR : R (.returned v) w) : bodyPostM Fence.wide 0 P fn R .ret ⟨tmps, []⟩ w := ⟨v, hr, hR⟩
theorem bm_end {e : Act} {w : World} (h : bodyPostM Fence.wide 0 P fn R .ret e w) : bodyPostM Fence.wide 0 P fn R .normal e w := h
theorem res0 {tmps : Array Value} {w : World} (hr : fn.results = #[]) : (results fn tmps).run P w = .ok (.tuple #[]) w := by
  rw [results_mapM, hr]; simp
end
end Go.Proofs.YtliphfgiaioebaaDoor
