/-
  Plain laws for the steps of a region that draws its order: each operation taken by hand, behind an opaque post.
-/
import Derived.Test.YtliphfgiaioebaaDoorBase
import Derived.OrdersHeld
import Derived.Lib.Hide
namespace Go.Proofs.YtliphfgiaioebaaDoor
set_option linter.unusedVariables false
set_option linter.unusedSimpArgs false
open Go.RowKit

/-- the opaque post: no panic -/
def Ko (K : Act → World → Prop) : Exit → Act → World → Prop := fun e a w => e = .normal ∧ K a w
theorem Ko.ok {K : Act → World → Prop} {a : Act} {w : World} (h : K a w) : Ko K .normal a w := ⟨rfl, h⟩

section
variable {P : Program} {ops : Array Oper} {Q : Exit → Act → World → Prop} {S : World → Prop}
theorem reg_begin {id : Nat} {a : Act} {w : World} (S : World → Prop) (hm : P.follows .mixedOrders = true) (hS : S w.drew)
    (h : ∀ K : Act → World → Prop, RowKit.Hid (∀ a w, Q .normal a w → K a w) → S w.drew → wpAnyH P .any ops (Ko K) S ops.size (Array.replicate ops.size false) a w.drew) :
    (Code.region id ops true).wp P Q a w := by
  have h1 := h (fun a w => Q .normal a w) (Lib.hid fun _ _ h => h) hS
  have h2 : (Code.region id ops true).wp P (Ko fun a w => Q .normal a w) a w := wp_region_held hm h1
  exact Code.wp_mono (fun e a w h => by obtain ⟨rfl, h⟩ := h; exact h) h2

theorem reg_take {K : Act → World → Prop} (i : Nat) (d : Option Tmp) (v : Value) {oi : Oper} {fuel : Nat} {listed : Array Bool} {a : Act} {w : World} (hi : ops[i]? = some oi) (hd : oi.dst = d)
    (hs : Region.noSelect ops = true) (hf : Region.free .any ops listed i = true) (hr : (Region.ready .any ops listed).contains i = true) (hw : Region.wanted oi (yielded ops a.tmps) = true)
    (hy : ∀ w, S w → (execOp a.eval oi).run P w = .ok (.value v) w) (hS : S w)
    (h : wpAnyH P .any ops (Ko K) S fuel (listed.setIfInBounds i true) (a.put d v) w) : wpAnyH P .any ops (Ko K) S (fuel + 1) listed a w :=
  wpAnyH_take hi hs hf hr (fun c a w h => absurd h.1 (by simp)) (.inl ⟨hw, hy⟩) hS (hd ▸ h)

theorem reg_done {K : Act → World → Prop} {listed : Array Bool} {a : Act} {w : World} (hr : Region.ready .any ops listed = []) (h : K a w) : ∀ fuel, wpAnyH P .any ops (Ko K) S fuel listed a w :=
  wpAnyH_done hr (Ko.ok h)

/-- the only one that may come up; its own step is shown with the rest as an opaque 'K'' -/
theorem reg_one {K : Act → World → Prop} (i : Nat) {oi : Oper} {fuel : Nat} {listed : Array Bool} {a : Act} {w : World} (hi : ops[i]? = some oi) (hr : Region.ready .any ops listed = [i])
    (hw : Region.wanted oi (yielded ops a.tmps) = true)
    (h : ∀ K' : Act → World → Prop, RowKit.Hid (∀ a w, S w → (S w → wpAnyH P .any ops (Ko K) S fuel (listed.setIfInBounds i true) a w) → K' a w) → Oper.wp P oi a w K' (Ko K)) :
    wpAnyH P .any ops (Ko K) S (fuel + 1) listed a w := by
  refine wpAnyH_all hr (by simp) fun j hj => ?_
  rw [List.mem_singleton] at hj; subst hj
  unfold wpOp
  simp only [hi, hw, if_true]
  exact .inl (h _ (Lib.hid fun a w hS h => ⟨hS, h hS⟩))

theorem upon_step {o : Oper} {a : Act} {w w' : World} {v : Value} {n : Next} {next : Act → World → Prop} {Q : Exit → Act → World → Prop} (he : (execOp a.eval o).run P w = .ok n w') (hn : n = .value v ∨ n = .skip ∧ v = undef)
    (h : next (a.put o.dst v) w') : Oper.wp P o a w next Q := by
  unfold Oper.wp; rw [he]
  rcases hn with rfl | ⟨rfl, rfl⟩ <;> exact h
/-- the only one that may come up: it runs by itself -/
theorem reg_step {K : Act → World → Prop} (i : Nat) (d : Option Tmp) (v : Value) (n : Next) (w' : World) {oi : Oper} {fuel : Nat} {listed : Array Bool} {a : Act} {w : World} (hi : ops[i]? = some oi) (hd : oi.dst = d) (hr : Region.ready .any ops listed = [i])
    (hw : Region.wanted oi (yielded ops a.tmps) = true) (he : (execOp a.eval oi).run P w = .ok n w') (hn : n = .value v ∨ n = .skip ∧ v = undef) (hS : S w')
    (h : wpAnyH P .any ops (Ko K) S fuel (listed.setIfInBounds i true) (a.put d v) w') : wpAnyH P .any ops (Ko K) S (fuel + 1) listed a w :=
  reg_one i hi hr hw fun K' hK' => upon_step he hn (hK'.out _ _ hS fun _ => (hd ▸ h))
/-- the only one that may come up: a call, by its contract -/
theorem reg_call {K : Act → World → Prop} (i : Nat) (d : Option Tmp) (v : Value) (f : FuncId) (args : Array Value) (R : World → Prop) {oi : Oper} {fuel : Nat} {listed : Array Bool} {a : Act} {w : World} (hi : ops[i]? = some oi) (hd : oi.dst = d) (hr : Region.ready .any ops listed = [i])
    (hw : Region.wanted oi (yielded ops a.tmps) = true) (he : (execOp a.eval oi).run P w = .ok (.enter f args) w) (hc : Calls P f args w fun e w' => e = .returned v ∧ R w') (hS : ∀ w', R w' → S w')
    (h : ∀ w', R w' → S w' → wpAnyH P .any ops (Ko K) S fuel (listed.setIfInBounds i true) (a.put d v) w') : wpAnyH P .any ops (Ko K) S (fuel + 1) listed a w :=
  reg_one i hi hr hw fun K' hK' => by
    unfold Oper.wp
    rw [he, Oper.upon_enter]
    refine hc.mono fun e w' he => ?_
    obtain ⟨rfl, hR⟩ := he
    exact hK'.out _ _ (hS w' hR) fun _ => (hd ▸ h w' hR (hS w' hR))
theorem reg_callB {K : Act → World → Prop} (i : Nat) (d : Option Tmp) (v : Value) (f : FuncId) (args : Array Value) {oi : Oper} {fuel : Nat} {listed : Array Bool} {a : Act} {w : World} (hi : ops[i]? = some oi) (hd : oi.dst = d) (hr : Region.ready .any ops listed = [i])
    (hw : Region.wanted oi (yielded ops a.tmps) = true) (he : (execOp a.eval oi).run P w = .ok (.enter f args) w) (hc : Calls P f args w fun e w' => e = .returned v ∧ Below w.heap.size w w') (hS : ∀ w', Below w.heap.size w w' → S w')
    (h : ∀ w', Below w.heap.size w w' → S w' → wpAnyH P .any ops (Ko K) S fuel (listed.setIfInBounds i true) (a.put d v) w') : wpAnyH P .any ops (Ko K) S (fuel + 1) listed a w :=
  reg_call i d v f args _ hi hd hr hw he hc hS h
/-- the same where what it returns is known but for a condition -/
theorem reg_callx {K : Act → World → Prop} (i : Nat) (d : Option Tmp) (f : FuncId) (args : Array Value) (R : Value → World → Prop) {oi : Oper} {fuel : Nat} {listed : Array Bool} {a : Act} {w : World} (hi : ops[i]? = some oi) (hd : oi.dst = d) (hr : Region.ready .any ops listed = [i])
    (hw : Region.wanted oi (yielded ops a.tmps) = true) (he : (execOp a.eval oi).run P w = .ok (.enter f args) w) (hc : Calls P f args w fun e w' => ∃ v, e = .returned v ∧ R v w') (hS : ∀ v w', R v w' → S w')
    (h : ∀ v w', R v w' → S w' → wpAnyH P .any ops (Ko K) S fuel (listed.setIfInBounds i true) (a.put d v) w') : wpAnyH P .any ops (Ko K) S (fuel + 1) listed a w :=
  reg_one i hi hr hw fun K' hK' => by
    unfold Oper.wp
    rw [he, Oper.upon_enter]
    refine hc.mono fun e w' he => ?_
    obtain ⟨v, rfl, hR⟩ := he
    exact hK'.out _ _ (hS v w' hR) fun _ => (hd ▸ h v w' hR (hS v w' hR))
end
end Go.Proofs.YtliphfgiaioebaaDoor
