/-
  Plain laws for a walk that goes operation by operation, each world by a name of its own: the steps of a region in the order of its text; results; loops.
-/
import Derived.Test.YtliphfgiaioebaaDoorReg3
import Derived.Deep.LoopGhost
namespace Go.Proofs.YtliphfgiaioebaaDoor
set_option linter.unusedVariables false
set_option linter.unusedSimpArgs false
open Go.RowKit
section
variable {P : Program} {ops : Array Oper} {Q : Exit → Act → World → Prop} {K : Act → World → Prop}
def wpL (P : Program) (ops : Array Oper) (K : Act → World → Prop) : List Oper → Act → World → Prop
  | [], a, w => K a w
  | o :: rest, a, w => if Region.wanted o (yielded ops a.tmps) then o.wp P a w (wpL P ops K rest) (Ko K) else wpL P ops K rest (a.put o.dst undef) w
theorem wpL_list : ∀ (l : List Oper) (a : Act) (w : World), wpL P ops K l a w → wpList P ops (Ko K) l a w
  | [], _, _, h => Ko.ok h
  | o :: rest, a, w, h => by
    unfold wpL at h
    unfold wpList
    split
    · rename_i hw; rw [if_pos hw] at h; exact .inl (Oper.wp_mono (wpL_list rest) h)
    · rename_i hw; rw [if_neg hw] at h; exact wpL_list rest _ _ h
theorem rl_begin {id : Nat} {l : List Oper} {a : Act} {w : World} (h : ∀ K : Act → World → Prop, RowKit.Hid (∀ a w, Q .normal a w → K a w) → wpL P l.toArray K l a w) : (Code.region id l.toArray false).wp P Q a w := by
  have h1 := h (fun a w => Q .normal a w) (Lib.hid fun _ _ h => h)
  exact Code.wp_mono (fun e a w h => by obtain ⟨rfl, h⟩ := h; exact h) (wp_region_lit (wpL_list _ _ _ h1))
section
variable {o : Oper} {rest : List Oper} {a : Act} {w : World}
theorem rl_nil (h : K a w) : wpL P ops K [] a w := h
theorem rl_take (d : Option Tmp) (v : Value) (hd : o.dst = d) (hw : Region.wanted o (yielded ops a.tmps) = true) (he : (execOp a.eval o).run P w = .ok (.value v) w) (h : wpL P ops K rest (a.put d v) w) : wpL P ops K (o :: rest) a w := by
  unfold wpL; rw [if_pos hw]; exact upon_step he (.inl rfl) (hd ▸ h)
theorem rl_pass (d : Option Tmp) (hd : o.dst = d) (hw : Region.wanted o (yielded ops a.tmps) = false) (h : wpL P ops K rest (a.put d undef) w) : wpL P ops K (o :: rest) a w := by
  unfold wpL; rw [if_neg (by rw [hw]; simp)]; exact hd ▸ h
theorem rl_call (d : Option Tmp) (f : FuncId) (args : Array Value) {R : Ending → World → Prop} (hd : o.dst = d) (hw : Region.wanted o (yielded ops a.tmps) = true) (he : (execOp a.eval o).run P w = .ok (.enter f args) w)
    (hc : Calls P f args w R) (h : ∀ e w', R e w' → ∃ v, e = .returned v ∧ wpL P ops K rest (a.put d v) w') : wpL P ops K (o :: rest) a w := by
  unfold wpL; rw [if_pos hw]
  unfold Oper.wp
  rw [he, Oper.upon_enter]
  refine hc.mono fun e w' he => ?_
  obtain ⟨v, rfl, hv⟩ := h e w' he
  exact hd ▸ hv
theorem rl_alloc (d : Option Tmp) (t : TypeId) (cells : Array Value) (hd : o.dst = d) (hw : Region.wanted o (yielded ops a.tmps) = true)
    (he : ∀ w', (execOp a.eval o).run P w' = .ok (.value (.pointer (some ⟨w'.heap.size, 0, none⟩))) (w'.alloc (.cells cells t)))
    (h : ∀ p w', Ltr w w' → w.heap.size ≤ p → Blk w' p t cells → wpL P ops K rest (a.put d (.pointer (some ⟨p, 0, none⟩))) w') : wpL P ops K (o :: rest) a w := by
  unfold wpL; rw [if_pos hw]
  exact upon_step (he w) (.inl rfl) (hd ▸ h _ _ (bl_alloc (bl_refl _)) (Nat.le_refl _) (Blk.new _ _ _ rfl))
theorem rl_bslice (d : Option Tmp) (t : TypeId) (cells : Array Value) (n : Nat) (hd : o.dst = d) (hw : Region.wanted o (yielded ops a.tmps) = true)
    (he : ∀ w', (execOp a.eval o).run P w' = .ok (.value (.slice (some ⟨w'.heap.size, 0, none⟩) n n)) (w'.alloc (.cells cells t)))
    (h : ∀ p w', Ltr w w' → w.heap.size ≤ p → Blk w' p t cells → wpL P ops K rest (a.put d (.slice (some ⟨p, 0, none⟩) n n)) w') : wpL P ops K (o :: rest) a w := by
  unfold wpL; rw [if_pos hw]
  exact upon_step (he w) (.inl rfl) (hd ▸ h _ _ (bl_alloc (bl_refl _)) (Nat.le_refl _) (Blk.new _ _ _ rfl))
theorem rl_new (d : Option Tmp) {R : Value → World → Prop} (hd : o.dst = d) (hw : Region.wanted o (yielded ops a.tmps) = true) (he : ∃ v w', (execOp a.eval o).run P w = .ok (.value v) w' ∧ R v w')
    (h : ∀ v w', R v w' → wpL P ops K rest (a.put d v) w') : wpL P ops K (o :: rest) a w := by
  unfold wpL; rw [if_pos hw]
  obtain ⟨v, w', hr, hR⟩ := he
  exact upon_step hr (.inl rfl) (hd ▸ h v w' hR)
theorem rl_store (g : Nat) (cells : Array Value) {ty : TypeId} {x y : Operand} {t : TypeId} {old : Array Value} (hd : o.dst = none) (ho : o.op = .store ty x y) (hw : Region.wanted o (yielded ops a.tmps) = true)
    (hx : a.eval x = .pointer (some ⟨g, 0, none⟩)) (hy : a.eval y = .agg cells) (hn : (P.info? ty).map (·.size) = some cells.size) (hg : Blk w g t old) (hold : old.size = cells.size) (h1 : cells.all (·.oneCell') = true)
    (h : ∀ w', Upd g w w' → Blk w' g t cells → wpL P ops K rest (a.put none undef) w') : wpL P ops K (o :: rest) a w := by
  unfold wpL; rw [if_pos hw]
  exact wp_store_row ty x y ho g cells hx hy t old hg hn hold h1 (hd ▸ h _ (setRow_upd _ _ _) (setRow_blk _ hg))
end
theorem rl_store1 {o : Oper} {rest : List Oper} {a : Act} {w : World} (g : Nat) (v : Value) {ty : TypeId} {x y : Operand} {t : TypeId} {old : Value} (hd : o.dst = none) (ho : o.op = .store ty x y) (hw : Region.wanted o (yielded ops a.tmps) = true)
    (hx : a.eval x = .pointer (some ⟨g, 0, none⟩)) (hy : a.eval y = v) (hn : (P.info? ty).map (·.size) = some 1) (hg : Blk w g t #[old]) (h1 : v.oneCell' = true)
    (h : ∀ w', Upd g w w' → Blk w' g t #[v] → wpL P ops K rest (a.put none undef) w') : wpL P ops K (o :: rest) a w := by
  unfold wpL; rw [if_pos hw]
  exact upon_step (run_store1 ty x y ho g v hx hy hn h1 hg) (.inr ⟨rfl, rfl⟩) (hd ▸ h _ (setRow_upd _ _ _) (setRow_blk _ hg))
end

/-! ### facts on later worlds -/
theorem Blk.later {W W' : World} {B : Nat} {t : TypeId} {cs : Array Value} (h : Blk W B t cs) (hl : Ltr W W') : Blk W' B t cs := h.below hl
theorem Ltr.later {a W W' : World} (h : Ltr a W) (hl : Ltr W W') : Ltr a W' := h.trans hl
theorem Ltr.upd {a W W' : World} {g : Nat} (h : Ltr a W) (hu : Upd g W W') (hg : a.heap.size ≤ g) : Ltr a W' := hu.below h hg
theorem Tabs.later {W W' : World} (h : Tabs W) (hl : Ltr W W') : Tabs W' := h.below hl
theorem BytesAt.later {W W' : World} {A : Option Addr} {l : List UInt8} (h : BytesAt W A l) (hl : Ltr W W') : BytesAt W' A l := h.below hl
theorem Tabs.upd {W W' : World} {g : Nat} (h : Tabs W) (hu : Upd g W W') (hg : 4 ≤ g) : Tabs W' := by
  have key : ∀ b i v, b < 4 → W.cell? ⟨b, i, none⟩ = some v → W'.cell? ⟨b, i, none⟩ = some v := fun b i v hb h => by
    rw [← h]; exact World.cell?_of_block (w := W) (a := ⟨b, i, none⟩) (hu.block b (by omega))
  exact ⟨fun i v hi => key _ _ _ (by decide) (h.spans i v hi), fun i v hi => key _ _ _ (by decide) (h.needs i v hi), fun i v hi => key _ _ _ (by decide) (h.masks i v hi), fun i v hi => key _ _ _ (by decide) (h.bad i v hi)⟩
theorem Tabs.four {w : World} (h : Tabs w) : 4 ≤ w.heap.size := by
  have := World.block_lt_of_cell? w _ (h.spans 0 _ rfl)
  simp only at this; omega

/-! ### results -/
section
variable {P : Program}
def resOne (tmps : Array Value) : ResultVar → Sem Value
  | .tmp t => pure (tmps.getD t undef)
  | .cell a t => do loadVar t (← asAddr (tmps.getD a undef))
theorem res_tmp {tmps : Array Value} {t : Tmp} {w : World} {v : Value} (h : tmps.getD t undef = v) : (resOne tmps (.tmp t)).run P w = .ok v w := by subst h; rfl
theorem res_cell {tmps : Array Value} {s : Tmp} {ty : TypeId} {w : World} {b : Nat} {t : TypeId} {cs : List Value} (h : tmps.getD s undef = .pointer (some ⟨b, 0, none⟩)) (hq : ∀ w, (isAgg ty).run P w = .ok true w)
    (hi : (P.info? ty).map (·.size) = some cs.length) (hb : Blk w b t cs.toArray) : (resOne tmps (.cell s ty)).run P w = .ok (.agg cs.toArray) w := by
  have hl : (loadCells ⟨b, 0, none⟩ cs.length).run P w = .ok cs.toArray w :=
    run_loadCells_list (P := P) w ⟨b, 0, none⟩ cs (fun j v hv => by
      have hadd : (⟨b, 0, none⟩ : Addr).add j = ⟨b, 0 + j, none⟩ := by unfold Addr.add; split <;> simp_all
      rw [hadd, hb.cell, Nat.zero_add, List.getElem?_toArray]; exact hv)
  have hlv : (loadVar ty ⟨b, 0, none⟩).run P w = .ok (.agg cs.toArray) w := by
    cases hq' : P.info? ty with
    | none => simp [hq'] at hi
    | some i =>
      have hs : i.size = cs.length := by simpa [hq'] using hi
      simp [loadVar, Sem.run_bind, hq w, sizeOf, typeInfo, hq', hs, hl]
  unfold resOne
  simp only [h, asAddr, Sem.run_bind, Sem.run_pure, Result.andThen_ok, hlv]
theorem results_mapM {fn : Func} {tmps : Array Value} : results fn tmps = (do let vs ← fn.results.mapM (resOne tmps); pure (if h : vs.size = 1 then vs[0] else .tuple vs)) := by
  unfold results
  congr 1
theorem res1 {fn : Func} {tmps : Array Value} {w : World} {r1 : ResultVar} {v1 : Value} (hr : fn.results = #[r1]) (h1 : (resOne tmps r1).run P w = .ok v1 w) : (results fn tmps).run P w = .ok v1 w := by
  rw [results_mapM, hr]; simp [h1]
theorem res2 {fn : Func} {tmps : Array Value} {w : World} {r1 r2 : ResultVar} {v1 v2 : Value} (hr : fn.results = #[r1, r2]) (h1 : (resOne tmps r1).run P w = .ok v1 w) (h2 : (resOne tmps r2).run P w = .ok v2 w) : (results fn tmps).run P w = .ok (.tuple #[v1, v2]) w := by
  rw [results_mapM, hr]; simp [h1, h2]
theorem res3 {fn : Func} {tmps : Array Value} {w : World} {r1 r2 r3 : ResultVar} {v1 v2 v3 : Value} (hr : fn.results = #[r1, r2, r3]) (h1 : (resOne tmps r1).run P w = .ok v1 w) (h2 : (resOne tmps r2).run P w = .ok v2 w) (h3 : (resOne tmps r3).run P w = .ok v3 w) :
    (results fn tmps).run P w = .ok (.tuple #[v1, v2, v3]) w := by
  rw [results_mapM, hr]; simp [h1, h2, h3]
theorem bp_ret {fn : Func} {R : Ending → World → Prop} {tmps : Array Value} {w : World} {v : Value} (hr : (results fn tmps).run P w = .ok v w) (hR : R (.returned v) w) : bodyPost P fn R .ret ⟨tmps, []⟩ w := ⟨rfl, v, hr, hR⟩
theorem bp_end {fn : Func} {R : Ending → World → Prop} {tmps : Array Value} {w : World} {v : Value} (hr : (results fn tmps).run P w = .ok v w) (hR : R (.returned v) w) : bodyPost P fn R .normal ⟨tmps, []⟩ w := ⟨rfl, v, hr, hR⟩
theorem ex_beq {o : Oper} {ρ : Operand → Value} {w : World} {x y : Int} {b : Bool} (h : (execOp ρ o).run P w = .ok (.value (.bool (x == y))) w) (hb : b = true ↔ x = y) : (execOp ρ o).run P w = .ok (.value (.bool b)) w := by
  rw [h]; cases b <;> simp_all
theorem ex_bne {o : Oper} {ρ : Operand → Value} {w : World} {x y : Int} {b : Bool} (h : (execOp ρ o).run P w = .ok (.value (.bool (x != y))) w) (hb : b = true ↔ x ≠ y) : (execOp ρ o).run P w = .ok (.value (.bool b)) w := by
  rw [h]; cases b <;> simp_all
theorem ex_val {o : Oper} {ρ : Operand → Value} {w : World} {v v' : Value} (h : (execOp ρ o).run P w = .ok (.value v) w) (hv : v = v') : (execOp ρ o).run P w = .ok (.value v') w := by rw [h, hv]
end
attribute [irreducible] wpL
end Go.Proofs.YtliphfgiaioebaaDoor
