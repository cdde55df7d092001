/-
  Fenced walks: the steps of a region where yield is called, or within a round of a range over a function; the law of such a range where the yielded value comes with memory.
-/
import Derived.Test.YtliphfgiaioebaaDoorBefore
import Derived.RangeFuncNested
import Derived.RangeFuncBound
import Derived.RangeFuncCalls
import Derived.RangeFuncLeaves
import Derived.Sort.LoopGhostIn
namespace Go.Proofs.YtliphfgiaioebaaDoor
set_option linter.unusedVariables false
set_option linter.unusedSimpArgs false
open Go.RowKit
def Fn : Option Nat → Fence
  | none => Fence.wide
  | some l => Fence.wide.inRound l
theorem Fn_fn (r : Option Nat) (f : FuncId) : (Fn r).fn f := by cases r <;> trivial
theorem Fn_round (r : Option Nat) : (Fn r).round = r := by cases r <;> rfl
theorem Fn_depth (r : Option Nat) (n : Nat) : (Fn r).depth.isSome = true → 1 ≤ n := by cases r <;> (intro h; cases h)
theorem Fn_calls {r : Option Nat} {n : Nat} {P : Program} {f : FuncId} {args : Array Value} {w : World} {R : Ending → World → Prop} (h : Calls P f args w R) : CallsIn (Fn r) n P f args w R := by
  cases r with
  | none => exact callsIn_wide.2 h
  | some l => exact CallsIn.inRound l (callsIn_wide.2 h)
theorem semAt_val {r : Option Nat} {ρ : Operand → Value} {o : Oper} {P : Program} {w w' : World} {v : Value} (he : (execOp ρ o).run P w = .ok (.value v) w') : (Oper.semAt r ρ o).run P w = .ok (.value v) w' := by
  cases r with
  | none => exact he
  | some l =>
    by_cases hd : ∃ c, o.op = .defer c
    · obtain ⟨c, ho⟩ := hd
      exfalso
      unfold execOp at he
      simp only [ho, Sem.run_bind] at he
      cases hh : (resolve ρ c o.type).run P w <;> simp [hh, Result.andThen] at he
    · rw [Oper.semAt_eq _ _ _ (fun c hc => hd ⟨c, hc⟩)]; exact he
theorem semAt_skip {r : Option Nat} {ρ : Operand → Value} {o : Oper} {P : Program} {w w' : World} (he : (execOp ρ o).run P w = .ok .skip w') : (Oper.semAt r ρ o).run P w = .ok .skip w' := by
  cases r with
  | none => exact he
  | some l =>
    by_cases hd : ∃ c, o.op = .defer c
    · obtain ⟨c, ho⟩ := hd
      exfalso
      unfold execOp at he
      simp only [ho, Sem.run_bind] at he
      cases hh : (resolve ρ c o.type).run P w <;> simp [hh, Result.andThen] at he
    · rw [Oper.semAt_eq _ _ _ (fun c hc => hd ⟨c, hc⟩)]; exact he
theorem semAt_enter {r : Option Nat} {ρ : Operand → Value} {o : Oper} {P : Program} {w w' : World} {f : FuncId} {args : Array Value} (he : (execOp ρ o).run P w = .ok (.enter f args) w') : (Oper.semAt r ρ o).run P w = .ok (.enter f args) w' := by
  cases r with
  | none => exact he
  | some l =>
    by_cases hd : ∃ c, o.op = .defer c
    · obtain ⟨c, ho⟩ := hd
      exfalso
      unfold execOp at he
      simp only [ho, Sem.run_bind] at he
      cases hh : (resolve ρ c o.type).run P w <;> simp [hh, Result.andThen] at he
    · rw [Oper.semAt_eq _ _ _ (fun c hc => hd ⟨c, hc⟩)]; exact he
section
variable {P : Program} {ops : Array Oper} {r : Option Nat} {Q : Exit → Act → World → Prop} {K : Act → World → Prop}
def wpJ (r : Option Nat) (P : Program) (ops : Array Oper) (K : Act → World → Prop) : List Oper → Act → World → Prop
  | [], a, w => K a w
  | o :: rest, a, w => if Region.wanted o (yielded ops a.tmps) then o.wpIn (Fn r) 0 P a w (wpJ r P ops K rest) (Ko K) else wpJ r P ops K rest (a.put o.dst undef) w
theorem wpJ_list : ∀ (l : List Oper) (a : Act) (w : World), wpJ r P ops K l a w → wpListIn (Fn r) 0 P ops (Ko K) l a w
  | [], _, _, h => Ko.ok h
  | o :: rest, a, w, h => by
    unfold wpJ at h
    unfold wpListIn
    split
    · rename_i hw; rw [if_pos hw] at h; exact Oper.wpIn_mono (wpJ_list rest) h
    · rename_i hw; rw [if_neg hw] at h; exact ⟨fun f _ => Fn_fn r f, wpJ_list rest _ _ h⟩
theorem rj_begin {id : Nat} {l : List Oper} {a : Act} {w : World} (h : ∀ K : Act → World → Prop, RowKit.Hid (∀ a w, Q .normal a w → K a w) → wpJ r P l.toArray K l a w) : (Code.region id l.toArray false).wpIn (Fn r) 0 P Q a w := by
  have h1 := h (fun a w => Q .normal a w) (Lib.hid fun _ _ h => h)
  exact wpIn_mono (wpIn_region_lit (wpJ_list _ _ _ h1)) (fun e a w h => by obtain ⟨rfl, h⟩ := h; exact h)
section
variable {o : Oper} {rest : List Oper} {a : Act} {w : World}
theorem rj_nil (h : K a w) : wpJ r P ops K [] a w := h
theorem wpIn_val {v : Value} {w' : World} {K' : Act → World → Prop} (he : (execOp a.eval o).run P w = .ok (.value v) w') (h : K' (a.put o.dst v) w') : o.wpIn (Fn r) 0 P a w K' (Ko K) := by
  unfold Oper.wpIn
  refine ⟨fun f _ => Fn_fn r f, ?_⟩
  rw [Fn_round, semAt_val he, Oper.uponIn_value]; exact h
theorem wpIn_skp {w' : World} {K' : Act → World → Prop} (he : (execOp a.eval o).run P w = .ok .skip w') (h : K' (a.put o.dst undef) w') : o.wpIn (Fn r) 0 P a w K' (Ko K) := by
  unfold Oper.wpIn
  refine ⟨fun f _ => Fn_fn r f, ?_⟩
  rw [Fn_round, semAt_skip he, Oper.uponIn_skip]; exact h
theorem rj_take (d : Option Tmp) (v : Value) (hd : o.dst = d) (hw : Region.wanted o (yielded ops a.tmps) = true) (he : (execOp a.eval o).run P w = .ok (.value v) w) (h : wpJ r P ops K rest (a.put d v) w) : wpJ r P ops K (o :: rest) a w := by
  unfold wpJ; rw [if_pos hw]; exact wpIn_val he (hd ▸ h)
theorem rj_pass (d : Option Tmp) (hd : o.dst = d) (hw : Region.wanted o (yielded ops a.tmps) = false) (h : wpJ r P ops K rest (a.put d undef) w) : wpJ r P ops K (o :: rest) a w := by
  unfold wpJ; rw [if_neg (by rw [hw]; simp)]; exact hd ▸ h
theorem rj_call (d : Option Tmp) (f : FuncId) (args : Array Value) {R : Ending → World → Prop} (hd : o.dst = d) (hw : Region.wanted o (yielded ops a.tmps) = true) (he : (execOp a.eval o).run P w = .ok (.enter f args) w)
    (hc : Calls P f args w R) (h : ∀ e w', R e w' → ∃ v, e = .returned v ∧ wpJ r P ops K rest (a.put d v) w') : wpJ r P ops K (o :: rest) a w := by
  unfold wpJ; rw [if_pos hw]
  unfold Oper.wpIn
  refine ⟨fun f _ => Fn_fn r f, ?_⟩
  rw [Fn_round, semAt_enter he, Oper.uponIn_enter]
  refine ⟨Fn_depth r 0, (Fn_calls hc).mono fun e w' he => ?_⟩
  obtain ⟨v, rfl, hv⟩ := h e w' he
  exact hd ▸ hv
/-- a call of yield -/
theorem rj_yield (d : Option Tmp) (l : Nat) (args : Array Value) {R : Ending → World → Prop} (hd : o.dst = d) (hw : Region.wanted o (yielded ops a.tmps) = true) (he : (execOp a.eval o).run P w = (Instr.yield l args).run P w)
    (hy : YieldAt Fence.wide 0 P l args w R) (h : ∀ e w', R e w' → ∃ v, e = .returned v ∧ wpJ none P ops K rest (a.put d v) w') : wpJ none P ops K (o :: rest) a w := by
  unfold wpJ; rw [if_pos hw]
  unfold Oper.wpIn
  refine ⟨fun f _ => Fn_fn none f, ?_⟩
  obtain ⟨fn, tmps, assign, body, hr, hR⟩ := hy
  rw [Fn_round, Oper.semAt_none, he, hr, Oper.uponIn_round]
  refine ⟨Fn_depth none 0, hR.mono fun e w' he => ?_⟩
  obtain ⟨v, rfl, hv⟩ := h e w' he
  exact hd ▸ hv
theorem rj_alloc (d : Option Tmp) (t : TypeId) (cells : Array Value) (hd : o.dst = d) (hw : Region.wanted o (yielded ops a.tmps) = true)
    (he : ∀ w', (execOp a.eval o).run P w' = .ok (.value (.pointer (some ⟨w'.heap.size, 0, none⟩))) (w'.alloc (.cells cells t)))
    (h : ∀ p w', Ltr w w' → w.heap.size ≤ p → Blk w' p t cells → wpJ r P ops K rest (a.put d (.pointer (some ⟨p, 0, none⟩))) w') : wpJ r P ops K (o :: rest) a w := by
  unfold wpJ; rw [if_pos hw]
  exact wpIn_val (he w) (hd ▸ h _ _ (bl_alloc (bl_refl _)) (Nat.le_refl _) (Blk.new _ _ _ rfl))
theorem rj_bslice (d : Option Tmp) (t : TypeId) (cells : Array Value) (n : Nat) (hd : o.dst = d) (hw : Region.wanted o (yielded ops a.tmps) = true)
    (he : ∀ w', (execOp a.eval o).run P w' = .ok (.value (.slice (some ⟨w'.heap.size, 0, none⟩) n n)) (w'.alloc (.cells cells t)))
    (h : ∀ p w', Ltr w w' → w.heap.size ≤ p → Blk w' p t cells → wpJ r P ops K rest (a.put d (.slice (some ⟨p, 0, none⟩) n n)) w') : wpJ r P ops K (o :: rest) a w := by
  unfold wpJ; rw [if_pos hw]
  exact wpIn_val (he w) (hd ▸ h _ _ (bl_alloc (bl_refl _)) (Nat.le_refl _) (Blk.new _ _ _ rfl))
theorem rj_new (d : Option Tmp) {R : Value → World → Prop} (hd : o.dst = d) (hw : Region.wanted o (yielded ops a.tmps) = true) (he : ∃ v w', (execOp a.eval o).run P w = .ok (.value v) w' ∧ R v w')
    (h : ∀ v w', R v w' → wpJ r P ops K rest (a.put d v) w') : wpJ r P ops K (o :: rest) a w := by
  unfold wpJ; rw [if_pos hw]
  obtain ⟨v, w', hr, hR⟩ := he
  exact wpIn_val hr (hd ▸ h v w' hR)
theorem run_storeR {g : Nat} {cells : Array Value} {ty : TypeId} {x y : Operand} {t : TypeId} {old : Array Value} {ρ : Operand → Value} (ho : o.op = .store ty x y)
    (hx : ρ x = .pointer (some ⟨g, 0, none⟩)) (hy : ρ y = .agg cells) (hn : (P.info? ty).map (·.size) = some cells.size) (hg : Blk w g t old) (hold : old.size = cells.size) (h1 : cells.all (·.oneCell') = true) :
    (execOp ρ o).run P w = .ok .skip (w.setRow g cells) := by
  unfold execOp
  simp only [ho, hx, hy, Instr.storeAt, Instr.sureAddr, Sem.run_bind, Sem.run_pure, Result.andThen_ok, run_storeVar_row w g t ty old cells hg hn hold h1]
theorem rj_store (g : Nat) (cells : Array Value) {ty : TypeId} {x y : Operand} {t : TypeId} {old : Array Value} (hd : o.dst = none) (ho : o.op = .store ty x y) (hw : Region.wanted o (yielded ops a.tmps) = true)
    (hx : a.eval x = .pointer (some ⟨g, 0, none⟩)) (hy : a.eval y = .agg cells) (hn : (P.info? ty).map (·.size) = some cells.size) (hg : Blk w g t old) (hold : old.size = cells.size) (h1 : cells.all (·.oneCell') = true)
    (h : ∀ w', Upd g w w' → Blk w' g t cells → wpJ r P ops K rest (a.put none undef) w') : wpJ r P ops K (o :: rest) a w := by
  unfold wpJ; rw [if_pos hw]
  exact wpIn_skp (run_storeR ho hx hy hn hg hold h1) (hd ▸ h _ (setRow_upd _ _ _) (setRow_blk _ hg))
theorem rj_store1 (g : Nat) (v : Value) {ty : TypeId} {x y : Operand} {t : TypeId} {old : Value} (hd : o.dst = none) (ho : o.op = .store ty x y) (hw : Region.wanted o (yielded ops a.tmps) = true)
    (hx : a.eval x = .pointer (some ⟨g, 0, none⟩)) (hy : a.eval y = v) (hn : (P.info? ty).map (·.size) = some 1) (hg : Blk w g t #[old]) (h1 : v.oneCell' = true)
    (h : ∀ w', Upd g w w' → Blk w' g t #[v] → wpJ r P ops K rest (a.put none undef) w') : wpJ r P ops K (o :: rest) a w := by
  unfold wpJ; rw [if_pos hw]
  exact wpIn_skp (run_store1 ty x y ho g v hx hy hn h1 hg) (hd ▸ h _ (setRow_upd _ _ _) (setRow_blk _ hg))
end
end
theorem rj_append {ops : Array Oper} {r : Option Nat} {K : Act → World → Prop} {o : Oper} {rest : List Oper} {a : Act} {w : World} (d : Option Tmp) {n : Nat} {E t : TypeId} {bytes : Nat} {z : Value} {s x : Operand} {v : Value} {xs ys : List Value} {A : Option Addr} {c : Nat}
    (hd : o.dst = d) (hw : Region.wanted o (yielded ops a.tmps) = true) (ho : o.op = .call { callee := .builtin .append, args := #[s, x], argTypes := #[t, t] }) (hs : a.eval s = v) (hx : a.eval x = .slice A ys.length c)
    (ht : Tryd.prog.underlying t = some (.slice E)) (hi : (Tryd.prog.info? E).map (fun i => (i.zero, i.size, i.bytes)) = some (some z, 1, bytes)) (hz : z.cells.size = 1)
    (hown : Own n E w v xs) (hA : CellsAt w A ys) (hc0 : A = none → c = 0) (h1 : ∀ u ∈ ys, u.oneCell' = true) (hb : (xs.length + ys.length) * bytes ≤ 140737488355328) (hm : xs.length + ys.length ≤ 140737488355328)
    (h : ∀ v' w', Own n E w' v' (xs ++ ys) → w.grownBy w' v.ownBlock → (v'.ownBlock = v.ownBlock ∨ v'.ownBlock = some w.heap.size) → wpJ r Tryd.prog ops K rest (a.put d v') w') : wpJ r Tryd.prog ops K (o :: rest) a w := by
  obtain ⟨v', w', hr, h2, h3, h4⟩ := ap_own (ty := o.type) ht hi hz hown hA hc0 h1 hb hm
  have he : (execOp a.eval o).run Tryd.prog w = .ok (.value v') w' := by
    unfold execOp
    simp only [ho, resolve, invoke, builtin, Sem.run_bind, Sem.run_pure, Result.andThen_ok, List.map_toArray, List.map_cons, List.map_nil, hs, hx, hr]
  unfold wpJ; rw [if_pos hw]
  exact wpIn_val he (hd ▸ h v' w' h2 h3 h4)
attribute [irreducible] wpJ Fn

/-! ### a range over a function -/
/-- an iterator that hands over values with their memory: g its code, lb its boxes; what lies below n₀ must lie on -/
def SeqP {α : Type} (P : Program) (g : Nat) (lb : Array Value) (enc : α → Value) (n₀ : Nat) (Px : α → World → Prop) (Ok S : List α → Prop) (w : World) : Prop :=
  ∀ (l : Nat) (J Jx : List α → World → Prop) (W : World), Ltr w W → (∀ s A B, J s A → Ltr A B → J s B) → (∀ s A B, Jx s A → Ltr A B → Jx s B) →
    (∀ pre x W1, J pre W1 → Px x W1 → Ok (pre ++ [x]) → YieldAt Fence.wide 0 P l #[enc x] W1 fun e W' =>
      (e = .returned (.bool true) ∧ J (pre ++ [x]) W' ∧ Bel n₀ W1 W') ∨ (e = .returned (.bool false) ∧ Jx (pre ++ [x]) W')) →
    n₀ ≤ W.heap.size → J [] W →
    Calls P g (#[.func (.yield l) #[] #[]] ++ lb) W fun e W' => (∃ v, e = .returned v) ∧ ((∃ xs, S xs ∧ J xs W') ∨ (∃ pre, Ok pre ∧ Jx pre W'))
def NC (B : Nat) (w : World) : Prop := ∃ o : Obj, w.heap[B]? = some o ∧ o.isCells = false
/-- the two blocks that the statement itself has laid, at B, lie as they lay -/
structure Two (B : Nat) (W w : World) : Prop where
  size : B + 2 ≤ w.heap.size
  a : w.heap[B]? = W.heap[B]?
  b : w.heap[B + 1]? = W.heap[B + 1]?
  na : NC B w
  nb : NC (B + 1) w
theorem NC.of_eq {B : Nat} {w w' : World} (h : NC B w) (e : w'.heap[B]? = w.heap[B]?) : NC B w' := by obtain ⟨o, h1, h2⟩ := h; exact ⟨o, e.trans h1, h2⟩
theorem Two.step {B : Nat} {W w w' : World} (h : Two B W w) (hs : w.heap.size ≤ w'.heap.size) (h1 : w'.heap[B]? = w.heap[B]?) (h2 : w'.heap[B + 1]? = w.heap[B + 1]?) : Two B W w' :=
  ⟨Nat.le_trans h.size hs, h1.trans h.a, h2.trans h.b, h.na.of_eq h1, h.nb.of_eq h2⟩
theorem Two.later {B : Nat} {W w w' : World} (h : Two B W w) (hl : Ltr w w') : Two B W w' := h.step hl.size (hl.block B (by have := h.size; omega)) (hl.block (B + 1) (by have := h.size; omega))
theorem Two.upd {B g : Nat} {W w w' : World} (h : Two B W w) (hu : Upd g w w') (hg : g < B ∨ B + 1 < g) : Two B W w' := h.step (by rw [hu.size]; exact Nat.le_refl _) (hu.block B (by omega)) (hu.block (B + 1) (by omega))
theorem Two.gr {B : Nat} {W w w' : World} {r : Option Nat} (h : Two B W w) (hg : w.grownBy w' r) (hr : ∀ k, r = some k → k ≠ B ∧ k ≠ B + 1) : Two B W w' :=
  h.step hg.size (hg.block B (by have := h.size; omega) (fun e => (hr B e.symm).1 rfl)) (hg.block (B + 1) (by have := h.size; omega) (fun e => (hr _ e.symm).2 rfl))
theorem Two.row {B n : Nat} {W w : World} {E : TypeId} {v : Value} {xs : List Value} (h : Two B W w) (ho : Own n E w v xs) : ∀ k, v.ownBlock = some k → k ≠ B ∧ k ≠ B + 1 := fun k hk => by
  have key : ∀ C, NC C w → k ≠ C := fun C hC e => by
    subst e
    obtain ⟨o, h1, h2⟩ := hC
    rcases ho.2.2 with ⟨rfl, _⟩ | ⟨g, cap, cur, rfl, _, hgb, _⟩
    · simp [Value.ownBlock] at hk
    · obtain rfl : g = k := by simpa [Value.ownBlock] using hk
      rw [hgb] at h1; cases h1; cases h2
  exact ⟨key _ h.na, key _ h.nb⟩
def bodyP {α : Type} (n₀ B : Nat) (I : List α → World → Prop) (Ix : Code → List α → World → Prop) (xs : List α) (W : World) : Exit → Act → World → Prop
  | .normal, _, W' => Two B W W' ∧ Bel n₀ W W' ∧ I xs W'
  | .ret, _, W' => Two B W W' ∧ Ix .ret xs W'
  | .exit id, _, W' => Two B W W' ∧ Ix (.exit id) xs W'
  | .goto t, _, W' => Two B W W' ∧ Ix (.goto t) xs W'
  | .panic _, _, _ => False
  | .outgrown, _, _ => False
theorem ofl {β : Type} {B : Nat} {I : β → World → Prop} (h : OwnFrom B I) {s : β} {A C : World} (hs : I s A) (hl : Ltr A C) : I s C := h s A C none hs hl.grown (fun r e => by cases e)
theorem putObj_bel {n₀ : Nat} {W : World} {l : Nat} {o' : Obj} (h : n₀ ≤ W.heap.size) (hl : n₀ ≤ l) : Bel n₀ W (W.putObj l o') :=
  ⟨h, Below.grown (Below.refl _ _) (grownBy_putObj' W l o') h (fun k e => by cases e; exact hl)⟩
set_option maxHeartbeats 1000000 in
theorem range_p {α : Type} {P : Program} {g : Operand} {p : Tmp} {assign body : Code} {Q : Exit → Act → World → Prop} {a : Act} {w : World}
    {gf : Nat} {lb : Array Value} (hg : a.eval g = .func (.func gf) #[] lb) (eg : ∀ args w, (callFunc gf args).run P w = .ok (.enter gf args) w)
    {enc : α → Value} {n₀ : Nat} {Px : α → World → Prop} {Ok S : List α → Prop} (hseq : SeqP P gf lb enc n₀ Px Ok S w) (hn₀ : n₀ ≤ w.heap.size)
    (I : List α → World → Prop) (Ix : Code → List α → World → Prop) (hI : OwnFrom w.heap.size I) (hIx : ∀ c, OwnFrom w.heap.size (Ix c)) (h0 : I [] w)
    (Ax : α → Act → World → Prop) (hAx : ∀ x a', OwnFrom w.heap.size (fun (_ : Unit) W => Ax x a' W))
    (hassign : ∀ (l : Nat) (pre : List α) (x : α) (W : World), w.heap.size + 2 ≤ W.heap.size → I pre W → Px x W → Ok (pre ++ [x]) →
      assign.wpIn (Fn (some l)) 0 P (Exit.then (fun a' W' => Ltr W W' ∧ Ax x a' W') (fun _ _ _ => False)) { tmps := a.tmps.setIfInBounds p (enc x), defers := [] } W)
    (hbody : ∀ (l : Nat) (pre : List α) (x : α) (a' : Act) (W : World), Two w.heap.size W W → I pre W → Ax x a' W → Ok (pre ++ [x]) →
      body.wpIn (Fn (some l)) 0 P (bodyP n₀ w.heap.size I Ix (pre ++ [x]) W) a' W)
    (hdone : ∀ (xs : List α) (W : World), w.heap.size + 2 ≤ W.heap.size → S xs → I xs W → W.heap[w.heap.size]? = some (.deferred (some [])) → Q .normal { a with defers := { target := .collected w.heap.size, args := #[] } :: a.defers } W)
    (hstop : ∀ (c : Code) (pre : List α) (W : World), w.heap.size + 2 ≤ W.heap.size → Ok pre → Ix c pre W → W.heap[w.heap.size]? = some (.deferred (some [])) → c.wp P Q { a with defers := { target := .collected w.heap.size, args := #[] } :: a.defers } W) :
    (Code.rangeFunc g #[p] assign body).wp P Q a w := by
  refine (wpIn_wide (n := 0)).1 (wpIn_rangeFunc ?_)
  intro fn hfn
  obtain ⟨rec, hrec⟩ : ∃ rec : LoopState → Option Code → Loop, rec = fun st pe => { state := st, pending := pe, fn, tmps := a.tmps, params := #[p], assign, body, defers := w.heap.size } := ⟨_, rfl⟩
  obtain ⟨W1, hW1⟩ : ∃ W1, (w.alloc (.deferred (some []))).alloc (.loop (rec .ready none)) = W1 := ⟨_, rfl⟩
  have hL1 : W1.heap[w.heap.size + 1]? = some (.loop (rec .ready none)) := by
    rw [← hW1]; have := World.alloc_heap_new (w.alloc (.deferred (some []))) (.loop (rec .ready none)); rwa [World.size_alloc] at this
  have hK1 : W1.heap[w.heap.size]? = some (.deferred (some [])) := by
    rw [← hW1]; exact (Below.heap_alloc _ _ _ (by simp)).trans (World.alloc_heap_new w _)
  have hb1 : Ltr w W1 := by rw [← hW1]; exact bl_alloc (bl_alloc (bl_refl _))
  have hI1 : I [] W1 := ofl hI h0 hb1
  refine ⟨w.heap.size + 1, [{ target := .collected w.heap.size, args := #[] }], W1, { target := .fn (.func gf) lb, args := #[.func (.yield (w.heap.size + 1)) #[] #[]] }, W1, gf,
    #[.func (.yield (w.heap.size + 1)) #[] #[]] ++ lb, W1, ?_, ?_, ?_, ?_, (fun h => by cases h), ?_⟩
  · rw [← hW1, hrec]; exact run_enterLoop_outer _ _ _ _ _
  · simp only [resolve, hg]
    simp [go_sem]
  · intro f' hf'; trivial
  · simp [invoke, go_sem, eg]
  · have hz1 : w.heap.size + 2 ≤ W1.heap.size := by have := (Array.getElem?_eq_some_iff.1 hL1).1; omega
    refine (callsIn_wide.2 (hseq (w.heap.size + 1)
      (fun pre W => I pre W ∧ w.heap.size + 2 ≤ W.heap.size ∧ W.heap[w.heap.size + 1]? = some (.loop (rec .ready none)) ∧ W.heap[w.heap.size]? = some (.deferred (some [])))
      (fun pre W => ∃ c, Ix c pre W ∧ w.heap.size + 2 ≤ W.heap.size ∧ W.heap[w.heap.size + 1]? = some (.loop (rec .done (some c))) ∧ W.heap[w.heap.size]? = some (.deferred (some [])))
      W1 hb1 (fun s A B hs hl => ⟨ofl hI hs.1 hl, Nat.le_trans hs.2.1 hl.size, (hl.block _ (by have := hs.2.1; omega)).trans hs.2.2.1, (hl.block _ (by have := hs.2.1; omega)).trans hs.2.2.2⟩)
      (fun s A B hs hl => by
        obtain ⟨c, h1, h2, h3, h4⟩ := hs
        exact ⟨c, ofl (hIx c) h1 hl, Nat.le_trans h2 hl.size, (hl.block _ (by omega)).trans h3, (hl.block _ (by omega)).trans h4⟩)
      ?_ (Nat.le_trans hn₀ hb1.size) ⟨hI1, hz1, hL1, hK1⟩)).mono ?_
    · -- one round
      rintro pre x W ⟨hi, hz, hl, hk⟩ hpx hok
      have hlt : w.heap.size + 1 < W.heap.size := by omega
      have hy := run_yield (P := P) (args := #[enc x]) hl (by rw [hrec]; rfl)
      rw [hrec] at hy
      refine ⟨fn, _, assign, body, hy, roundIn_of_wpIn hfn ?_⟩
      clear hy
      have has := hassign (w.heap.size + 1) pre x W hz hi hpx hok
      rw [show Fn (some (w.heap.size + 1)) = Fence.wide.inRound (w.heap.size + 1) by unfold Fn; rfl] at has
      have hzp : ({ tmps := (#[p].zip #[enc x]).foldl (fun tmps (t, a) => tmps.setIfInBounds t a) a.tmps, defers := [] } : Act) = { tmps := a.tmps.setIfInBounds p (enc x), defers := [] } := by
        simp [Array.zip, Array.zipWith, Array.zipWithMAux]
      rw [← hzp] at has
      refine wpIn_mono has ?_
      rintro e a' Wa hp
      cases e with
      | ret => exact hp.elim
      | exit id => exact hp.elim
      | goto t => exact hp.elim
      | panic ch => exact hp.elim
      | outgrown => exact hp.elim
      | normal =>
      obtain ⟨hla, hax⟩ := hp
      have hia := ofl hI hi hla
      replace hl := (hla.block _ hlt).trans hl
      replace hk := (hla.block _ (by omega)).trans hk
      have hza := Nat.le_trans hz hla.size
      have hbla : Bel n₀ W Wa := Bel.later (Bel.refl _ _ (by omega)) hla
      clear hz hi hlt hpx
      refine ⟨_, run_beginRound hl (by rw [hrec]), ?_⟩
      have hlt : w.heap.size + 1 < Wa.heap.size := by omega
      obtain ⟨Wb, hWb⟩ : ∃ Wb, Wb = Wa.putObj (w.heap.size + 1) (.loop { rec .ready none with state := .busy }) := ⟨_, rfl⟩
      have hl2 : Wb.heap[w.heap.size + 1]? = some (.loop { rec .ready none with state := .busy }) := by rw [hWb]; exact World.putObj_heap_same hlt
      have hk2 : Wb.heap[w.heap.size]? = some (.deferred (some [])) := by rw [hWb]; exact (World.putObj_heap_other (by omega)).trans hk
      have hw2 : Bel n₀ Wa Wb := by rw [hWb]; exact putObj_bel (by omega) (by omega)
      have hi2 : I pre Wb := by rw [hWb]; exact hI.putObj _ hia (by omega) hl rfl
      have hx2 : Ax x a' Wb := by rw [hWb]; exact (hAx x a').putObj (s := ()) _ hax (by omega) hl rfl
      have hz2 : w.heap.size + 2 ≤ Wb.heap.size := by rw [hWb]; simpa using hza
      rw [← hWb]
      clear hWb hia hax hl hk
      have hbo := hbody (w.heap.size + 1) pre x a' Wb ⟨hz2, rfl, rfl, ⟨_, hk2, rfl⟩, ⟨_, hl2, rfl⟩⟩ hi2 hx2 hok
      rw [show Fn (some (w.heap.size + 1)) = Fence.wide.inRound (w.heap.size + 1) by unfold Fn; rfl] at hbo
      refine wpIn_mono hbo ?_
      have fin : ∀ (jump : Option Code) (W3 : World), Two w.heap.size Wb W3 →
          (Instr.endRound (w.heap.size + 1) jump).run P W3 = .ok (.bool jump.isNone) (W3.putObj (w.heap.size + 1) (.loop (rec (if jump.isNone then .ready else .done) jump))) ∧
          W3.heap[w.heap.size + 1]? = some (.loop { rec .ready none with state := .busy }) ∧
          (W3.putObj (w.heap.size + 1) (.loop (rec (if jump.isNone then .ready else .done) jump))).heap[w.heap.size + 1]? = some (.loop (rec (if jump.isNone then .ready else .done) jump)) ∧
          (W3.putObj (w.heap.size + 1) (.loop (rec (if jump.isNone then .ready else .done) jump))).heap[w.heap.size]? = some (.deferred (some [])) ∧
          w.heap.size + 2 ≤ (W3.putObj (w.heap.size + 1) (.loop (rec (if jump.isNone then .ready else .done) jump))).heap.size := fun jump W3 hk3 => by
        have hl3 := hk3.b.trans hl2
        have := run_endRound (P := P) jump hl3
        rw [hrec] at this ⊢
        exact ⟨this, by rw [hrec] at hl3; exact hl3, World.putObj_heap_same (by have := hk3.size; omega), (World.putObj_heap_other (by omega)).trans (hk3.a.trans hk2), by have := hk3.size; simpa using this⟩
      rintro e a3 W3 hp
      cases e with
      | normal =>
        obtain ⟨hk3, hkp3, hi3⟩ := hp
        obtain ⟨hr, hl3, hl4, hk4, hz4⟩ := fin none W3 hk3
        exact ⟨_, _, hr, .inl ⟨rfl, ⟨hI.putObj _ hi3 (by omega) hl3 rfl, hz4, hl4, hk4⟩, hbla.1, (hbla.2.trans hw2.2).trans (hkp3.2.trans (putObj_bel (by have := hk3.size; omega) (by omega)).2)⟩⟩
      | ret =>
        obtain ⟨hk3, hi3⟩ := hp
        obtain ⟨hr, hl3, hl4, hk4, hz4⟩ := fin (some .ret) W3 hk3
        exact ⟨_, _, hr, .inr ⟨rfl, .ret, (hIx _).putObj _ hi3 (by omega) hl3 rfl, hz4, hl4, hk4⟩⟩
      | exit id =>
        obtain ⟨hk3, hi3⟩ := hp
        obtain ⟨hr, hl3, hl4, hk4, hz4⟩ := fin (some (.exit id)) W3 hk3
        exact ⟨_, _, hr, .inr ⟨rfl, .exit id, (hIx _).putObj _ hi3 (by omega) hl3 rfl, hz4, hl4, hk4⟩⟩
      | goto t =>
        obtain ⟨hk3, hi3⟩ := hp
        obtain ⟨hr, hl3, hl4, hk4, hz4⟩ := fin (some (.goto t)) W3 hk3
        exact ⟨_, _, hr, .inr ⟨rfl, .goto t, (hIx _).putObj _ hi3 (by omega) hl3 rfl, hz4, hl4, hk4⟩⟩
      | panic ch => exact hp.elim
      | outgrown => exact hp.elim
    · rintro e W2 ⟨⟨v, rfl⟩, (⟨xs, hS, hi, hz, hl, hk⟩ | ⟨pre, hSp, c, hi, hz, hl, hk⟩)⟩
      · exact ⟨none, _, by have := run_endLoop (P := P) hl (by rw [hrec]; simp); rw [hrec] at this; exact this, hdone xs _ (by simpa using hz) hS (hI.putObj _ hi (by omega) hl rfl) ((World.putObj_heap_other (by omega)).trans hk)⟩
      · exact ⟨some c, _, by have := run_endLoop (P := P) hl (by rw [hrec]; simp); rw [hrec] at this; exact this, (wpIn_wide (n := 0)).2 (hstop c pre _ (by simpa using hz) hSp ((hIx c).putObj _ hi (by omega) hl rfl) ((World.putObj_heap_other (by omega)).trans hk))⟩
end Go.Proofs.YtliphfgiaioebaaDoor
