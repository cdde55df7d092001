/-
  Slices of one-cell elements: cuts, indices, appends to a slice of the call's own.
-/
import Derived.Test.YtliphfgiaioebaaDoorRope4
import Derived.Maps.AppendAt
import Derived.Laws.AppendOwnNone
namespace Go.Proofs.YtliphfgiaioebaaDoor
set_option linter.unusedVariables false
set_option linter.unusedSimpArgs false
open Go.RowKit
theorem add_none (b o i : Nat) : (⟨b, o, none⟩ : Addr).add i = ⟨b, o + i, none⟩ := by unfold Addr.add; split <;> simp_all
/-- cells from an address on -/
def CellsAt (w : World) (A : Option Addr) (xs : List Value) : Prop := 0 < xs.length → ∃ b off, A = some ⟨b, off, none⟩ ∧ ∀ i v, xs[i]? = some v → w.cell? ⟨b, off + i, none⟩ = some v
theorem CellsAt.later {w w' : World} {A : Option Addr} {xs : List Value} (h : CellsAt w A xs) (hl : Ltr w w') : CellsAt w' A xs := fun h0 => by
  obtain ⟨b, off, e, hc⟩ := h h0
  exact ⟨b, off, e, fun i v hi => bl_cell hl (hc i v hi)⟩
def cutA (A : Option Addr) (c lo : Nat) : Option Addr := if c = lo then A else A.map (·.add lo)
theorem CellsAt.cut {w : World} {A : Option Addr} {xs : List Value} (h : CellsAt w A xs) (c lo hi : Nat) (h1 : lo ≤ hi) (h2 : hi ≤ xs.length) (h3 : xs.length ≤ c) : CellsAt w (cutA A c lo) ((xs.take hi).drop lo) := fun h0 => by
  rw [List.length_drop, List.length_take] at h0
  obtain ⟨b, off, rfl, hc⟩ := h (by omega)
  refine ⟨b, off + lo, ?_, fun i v hi' => ?_⟩
  · unfold cutA; rw [if_neg (by omega)]; simp [add_none]
  · rw [List.getElem?_drop, List.getElem?_take] at hi'
    split at hi'
    · rw [Nat.add_assoc]; exact hc _ _ hi'
    · cases hi'
def bvals (l : List UInt8) : List Value := l.map fun x => .int .u8 (x.toNat : Int)
theorem bvals_len (l : List UInt8) : (bvals l).length = l.length := by simp [bvals]
theorem bvals_get (l : List UInt8) (i : Nat) (h : i < l.length) : (bvals l)[i]? = some (.int .u8 (gb l i)) := by
  unfold bvals gb; rw [List.getElem?_map, List.getElem?_eq_getElem h, List.getD_eq_getElem?_getD, List.getElem?_eq_getElem h]; rfl
theorem bvals_append (a b : List UInt8) : bvals (a ++ b) = bvals a ++ bvals b := by simp [bvals]
theorem bytesAt_iff {w : World} {A : Option Addr} {l : List UInt8} : BytesAt w A l ↔ CellsAt w A (bvals l) := by
  unfold BytesAt CellsAt
  rw [bvals_len]
  constructor
  · intro h h0
    obtain ⟨b, off, e, hc⟩ := h h0
    refine ⟨b, off, e, fun i v hi => ?_⟩
    have hlt : i < l.length := by have := (List.getElem?_eq_some_iff.1 hi).1; rwa [bvals_len] at this
    rw [bvals_get l i hlt] at hi; cases hi; exact hc i hlt
  · intro h h0
    obtain ⟨b, off, e, hc⟩ := h h0
    exact ⟨b, off, e, fun i hi => hc i _ (bvals_get l i hi)⟩
theorem BytesAt.cut {w : World} {A : Option Addr} {l : List UInt8} (h : BytesAt w A l) (c lo hi : Nat) (h1 : lo ≤ hi) (h2 : hi ≤ l.length) (h3 : l.length ≤ c) : BytesAt w (cutA A c lo) ((l.take hi).drop lo) := by
  rw [bytesAt_iff] at *
  have := h.cut c lo hi h1 (by rw [bvals_len]; exact h2) (by rw [bvals_len]; exact h3)
  unfold bvals at *
  rwa [← List.map_take, ← List.map_drop] at this

/-! ### cuts -/
theorem ex_cut {o : Oper} {ρ : Operand → Value} {ty : TypeId} {x : Operand} {y z : Option Operand} {A : Option Addr} {c n : Nat} (lo hi : Nat) (ho : o.op = .slice ty x y z none) (hx : ρ x = .slice A n c)
    (hy : y.map ρ = some (.int .i64 (lo : Int)) ∨ (y = none ∧ lo = 0)) (hz : z.map ρ = some (.int .i64 (hi : Int)) ∨ (z = none ∧ hi = n)) (hu : Tryd.prog.underlying ty = some (.slice (Tryd.prog.elem ty))) (hs : ∀ w, (sizeOf (Tryd.prog.elem ty)).run Tryd.prog w = .ok 1 w)
    (h1 : lo ≤ hi) (h2 : hi ≤ n) (hc : n ≤ c) (w : World) :
    (execOp ρ o).run Tryd.prog w = .ok (.value (.slice (cutA A c lo) (hi - lo) (c - lo))) w := by
  have key : (Instr.slice ty (.slice A n c) (y.map ρ) (z.map ρ) none).run Tryd.prog w = .ok (.slice (cutA A c lo) (hi - lo) (c - lo)) w := by
    have hsl : ∀ l h : Nat, sliced A l h c 1 = .slice (cutA A c l) (h - l) (c - l) := fun l h => by simp only [sliced, cutA, Nat.mul_one]
    rcases hy with hy | ⟨rfl, rfl⟩ <;> rcases hz with hz | ⟨rfl, rfl⟩
    · rw [hy, hz, run_slice_lh w ty A _ c hu .i64 .i64 lo hi (by omega) (by omega) (by omega)]
      simp only [hs, Result.andThen_ok, Int.toNat_natCast, hsl]
    · rw [hy]; simp only [Option.map_none]
      rw [run_slice_l w ty A _ c hu .i64 lo (by omega) (by omega)]
      simp only [hs, Result.andThen_ok, Int.toNat_natCast, hsl]
    · rw [hz]; simp only [Option.map_none]
      rw [run_slice_h w ty A _ c hu .i64 hi (by omega) (by omega)]
      simp only [hs, Result.andThen_ok, Int.toNat_natCast, hsl]
    · simp only [Option.map_none]
      rw [run_slice_all w ty A _ c hu]
      simp only [hs, Result.andThen_ok, hsl]
  unfold execOp
  simp only [ho, hx, Sem.run_bind, run_sliceAt_slice w ty _ _ _ _ hu, Option.map_none, key, Result.andThen_ok, Sem.run_pure]
theorem ex_cutN {o : Oper} {ρ : Operand → Value} {ty : TypeId} {x : Operand} {y z : Option Operand} {A : Option Addr} {c n : Nat} (lo hi m : Nat) (hm : hi - lo = m) (ho : o.op = .slice ty x y z none) (hx : ρ x = .slice A n c)
    (hy : y.map ρ = some (.int .i64 (lo : Int)) ∨ (y = none ∧ lo = 0)) (hz : z.map ρ = some (.int .i64 (hi : Int)) ∨ (z = none ∧ hi = n)) (hu : Tryd.prog.underlying ty = some (.slice (Tryd.prog.elem ty))) (hs : ∀ w, (sizeOf (Tryd.prog.elem ty)).run Tryd.prog w = .ok 1 w)
    (h1 : lo ≤ hi) (h2 : hi ≤ n) (hc : n ≤ c) (w : World) :
    (execOp ρ o).run Tryd.prog w = .ok (.value (.slice (cutA A c lo) m (c - lo))) w := hm ▸ ex_cut lo hi ho hx hy hz hu hs h1 h2 hc w
/-- an element's address -/
theorem ex_index {o : Oper} {ρ : Operand → Value} {ty : TypeId} {x y : Operand} {b off n c : Nat} (i : Nat) (ho : o.op = .indexAddr ty x y) (hx : ρ x = .slice (some ⟨b, off, none⟩) n c) (hy : ρ y = .int .i64 (i : Int))
    (hu : Tryd.prog.underlying ty = some (.slice (Tryd.prog.elem ty))) (hs : ∀ w, (sizeOf (Tryd.prog.elem ty)).run Tryd.prog w = .ok 1 w) (hi : i < n) (w : World) :
    (execOp ρ o).run Tryd.prog w = .ok (.value (.pointer (some ⟨b, off + i, none⟩))) w := by
  have h1 : (0 : Int) ≤ (i : Int) ∧ (i : Int) < (n : Int) := by omega
  unfold execOp
  simp [ho, hx, hy, Instr.indexAt, asIntOf, Sem.run_bind, run_underlying hu, hs, hi, add_none]

/-! ### a slice of the call's own -/
def Own (n : Nat) (E : TypeId) (w : World) (v : Value) (xs : List Value) : Prop := n ≤ w.heap.size ∧ w.ownsRow n E 1 v xs.length xs
theorem Ltr.grown {w w' : World} (h : Ltr w w') : w.grownBy w' none := ⟨h.os, h.tape, h.output, h.size, fun k hk _ => h.block k hk⟩
theorem Upd.grown {g : Nat} {w w' : World} (h : Upd g w w') : w.grownBy w' (some g) := ⟨h.os, h.tape, h.output, Nat.le_of_eq h.size.symm, fun k _ hk => h.block k (fun e => hk (by rw [e]))⟩
theorem Own.later {n : Nat} {E : TypeId} {w w' : World} {v : Value} {xs : List Value} (h : Own n E w v xs) (hl : Ltr w w') : Own n E w' v xs :=
  ⟨Nat.le_trans h.1 hl.size, h.2.kept hl.grown (by cases hv : v.ownBlock <;> simp)⟩
theorem Own.upd {n g : Nat} {E : TypeId} {w w' : World} {v : Value} {xs : List Value} (h : Own n E w v xs) (hu : Upd g w w') (hg : v.ownBlock ≠ some g) : Own n E w' v xs :=
  ⟨by rw [hu.size]; exact h.1, h.2.kept hu.grown (.inr hg)⟩
theorem Own.nil (n : Nat) (E : TypeId) (w : World) (h : n ≤ w.heap.size) : Own n E w (.slice none 0 0) [] := ⟨h, World.ownsRow_nil w n E 1⟩
theorem Own.row {n : Nat} {E : TypeId} {w : World} {v : Value} {xs : List Value} (h : Own n E w v xs) : ∀ k, v.ownBlock = some k → n ≤ k ∧ k < w.heap.size := h.2.lt
theorem Own.form {n : Nat} {E : TypeId} {w : World} {v : Value} {xs : List Value} (h : Own n E w v xs) : ∃ A c, v = .slice A xs.length c ∧ CellsAt w A xs ∧ xs.length ≤ c := by
  rcases h.2.2 with ⟨rfl, h0⟩ | ⟨g, cap, cur, rfl, hb, hg, hc, hm, hs, ht⟩
  · exact ⟨none, 0, by rw [h0], fun h => absurd h (by omega), by omega⟩
  · refine ⟨_, cap, rfl, fun _ => ⟨g, 0, rfl, fun i v hi => ?_⟩, hc⟩
    rw [Nat.zero_add, cell_of_row w g i cur E (0, 0) hg]
    rw [Nat.mul_one] at ht
    rw [← ht, List.getElem?_take] at hi
    split at hi
    · simpa using hi
    · cases hi
theorem ap_own {n : Nat} {E t ty : TypeId} {bytes : Nat} {z : Value} (ht : Tryd.prog.underlying t = some (.slice E)) (hi : (Tryd.prog.info? E).map (fun i => (i.zero, i.size, i.bytes)) = some (some z, 1, bytes)) (hz : z.cells.size = 1)
    {w : World} {v : Value} {xs : List Value} (hown : Own n E w v xs) {A : Option Addr} {ys : List Value} {c : Nat} (hA : CellsAt w A ys) (hc0 : A = none → c = 0) (h1 : ∀ u ∈ ys, u.oneCell' = true) (hb : (xs.length + ys.length) * bytes ≤ 140737488355328) (hm : xs.length + ys.length ≤ 140737488355328) :
    ∃ v' w', (Builtin.append_ #[t, t] ty #[v, .slice A ys.length c]).run Tryd.prog w = .ok v' w' ∧ Own n E w' v' (xs ++ ys) ∧ w.grownBy w' v.ownBlock ∧ (v'.ownBlock = v.ownBlock ∨ v'.ownBlock = some w.heap.size) := by
  obtain ⟨i, hi', hz0, hs, hby⟩ := info_parts hi
  cases A with
  | none =>
    have h0 : ys = [] := by
      apply Classical.byContradiction; intro hn
      obtain ⟨b, off, e, _⟩ := hA (List.length_pos_iff.2 hn); cases e
    subst h0
    rw [hc0 rfl]
    refine ⟨v, w, run_append_owned_none (P := Tryd.prog) (w := w) n t ty E i 1 ht hi' v xs.length xs hown.2, by rw [List.append_nil]; exact hown, ⟨rfl, rfl, rfl, Nat.le_refl _, fun _ _ _ => rfl⟩, .inl rfl⟩
  | some ad =>
    have hcell : ∀ j u, ys[j]? = some u → w.cell? (ad.add j) = some u := fun j u hu => by
      obtain ⟨b, off, e, hc⟩ := hA (by have := (List.getElem?_eq_some_iff.1 hu).1; omega)
      cases e; rw [add_none]; exact hc j u hu
    obtain ⟨v', w', hr, h2, h3, _, h5⟩ := run_append_own_at (P := Tryd.prog) w n t ty E i z 1 bytes ht hi' hz0 hs hby hz (by decide) v xs.length xs hown.2 ad ys.length c ys (by omega) hcell h1 (by unfold maxLen; omega) hb hown.1
    exact ⟨v', w', hr, ⟨Nat.le_trans hown.1 h3.size, by rw [List.length_append]; exact h2⟩, h3, h5⟩
theorem rl_append {ops : Array Oper} {K : Act → World → Prop} {o : Oper} {rest : List Oper} {a : Act} {w : World} (d : Option Tmp) {n : Nat} {E t : TypeId} {bytes : Nat} {z : Value} {s x : Operand} {v : Value} {xs ys : List Value} {A : Option Addr} {c : Nat}
    (hd : o.dst = d) (hw : Region.wanted o (yielded ops a.tmps) = true) (ho : o.op = .call { callee := .builtin .append, args := #[s, x], argTypes := #[t, t] }) (hs : a.eval s = v) (hx : a.eval x = .slice A ys.length c)
    (ht : Tryd.prog.underlying t = some (.slice E)) (hi : (Tryd.prog.info? E).map (fun i => (i.zero, i.size, i.bytes)) = some (some z, 1, bytes)) (hz : z.cells.size = 1)
    (hown : Own n E w v xs) (hA : CellsAt w A ys) (hc0 : A = none → c = 0) (h1 : ∀ u ∈ ys, u.oneCell' = true) (hb : (xs.length + ys.length) * bytes ≤ 140737488355328) (hm : xs.length + ys.length ≤ 140737488355328)
    (h : ∀ v' w', Own n E w' v' (xs ++ ys) → w.grownBy w' v.ownBlock → (v'.ownBlock = v.ownBlock ∨ v'.ownBlock = some w.heap.size) → wpL Tryd.prog ops K rest (a.put d v') w') : wpL Tryd.prog ops K (o :: rest) a w := by
  obtain ⟨v', w', hr, h2, h3, h4⟩ := ap_own (ty := o.type) ht hi hz hown hA hc0 h1 hb hm
  have he : (execOp a.eval o).run Tryd.prog w = .ok (.value v') w' := by
    unfold execOp
    simp only [ho, resolve, invoke, builtin, Sem.run_bind, Sem.run_pure, Result.andThen_ok, List.map_toArray, List.map_cons, List.map_nil, hs, hx, hr]
  unfold wpL; rw [if_pos hw]
  exact upon_step he (.inl rfl) (hd ▸ h v' w' h2 h3 h4)

/-! ### facts behind an append -/
theorem Tabs.gr {w w' : World} {r : Option Nat} (h : Tabs w) (hg : w.grownBy w' r) (hr : ∀ k, r = some k → 4 ≤ k) : Tabs w' := by
  have key : ∀ b i v, b < 4 → w.cell? ⟨b, i, none⟩ = some v → w'.cell? ⟨b, i, none⟩ = some v := fun b i v hb h => by
    have hlt := World.block_lt_of_cell? w _ h
    rw [← h]; exact World.cell?_of_block (w := w) (a := ⟨b, i, none⟩) (hg.block b hlt (fun e => by have := hr b e.symm; omega))
  exact ⟨fun i v hi => key _ _ _ (by decide) (h.spans i v hi), fun i v hi => key _ _ _ (by decide) (h.needs i v hi), fun i v hi => key _ _ _ (by decide) (h.masks i v hi), fun i v hi => key _ _ _ (by decide) (h.bad i v hi)⟩
theorem Ltr.gr {a w w' : World} {r : Option Nat} (h : Ltr a w) (hg : w.grownBy w' r) (hr : ∀ k, r = some k → a.heap.size ≤ k) : Ltr a w' := Below.grown h hg h.size hr
theorem Blk.gr {w w' : World} {r : Option Nat} {B : Nat} {t : TypeId} {cs : Array Value} (h : Blk w B t cs) (hg : w.grownBy w' r) (hr : r ≠ some B) : Blk w' B t cs := (hg.block B h.lt (fun e => hr e.symm)).trans h
theorem LeafAt.gr {w w' : World} {r : Option Nat} {b : Nat} {l : List UInt8} (h : LeafAt w b l) (hg : w.grownBy w' r) (hr : r ≠ some b) : LeafAt w' b l := Blk.gr h hg hr
theorem BytesAt.gr {w w' : World} {r : Option Nat} {n : Nat} {A : Option Addr} {l : List UInt8} (h : BytesAt w A l) (hg : w.grownBy w' r) (hA : ∀ a, A = some a → a.block < n) (hn : n ≤ w.heap.size) (hr : ∀ k, r = some k → n ≤ k) : BytesAt w' A l := fun h0 => by
  obtain ⟨b, off, e, hc⟩ := h h0
  have hb := hA _ e
  simp only at hb
  refine ⟨b, off, e, fun i hi => ?_⟩
  rw [← hc i hi]; exact World.cell?_of_block (w := w) (a := ⟨b, off + i, none⟩) (hg.block b (by omega) (fun e => by have := hr b e.symm; omega))
end Go.Proofs.YtliphfgiaioebaaDoor
