/-
  Plain laws for the steps of a region that draws its order: every world by a name of its own; several that may come up.
-/
import Derived.Test.YtliphfgiaioebaaDoorReg
namespace Go.Proofs.YtliphfgiaioebaaDoor
set_option linter.unusedVariables false
set_option linter.unusedSimpArgs false
open Go.RowKit
section
variable {P : Program} {ops : Array Oper} {Q : Exit → Act → World → Prop} {S : World → Prop} {K : Act → World → Prop}
theorem reh_begin {id : Nat} {a : Act} {w : World} (S : World → Prop) (hm : P.follows .mixedOrders = true) (hS : S w.drew)
    (h : ∀ K : Act → World → Prop, RowKit.Hid (∀ a w, Q .normal a w → K a w) → ∀ w0, w0 = w.drew → S w0 → wpAnyH P .any ops (Ko K) S ops.size (Array.replicate ops.size false) a w0) :
    (Code.region id ops true).wp P Q a w :=
  reg_begin S hm hS fun K hK hS => h K hK _ rfl hS
/-- what is to be shown of the operation that comes up -/
def Pick (P : Program) (ops : Array Oper) (K : Act → World → Prop) (S : World → Prop) (fuel : Nat) (listed : Array Bool) (a : Act) (w : World) (i : Nat) : Prop :=
  wpOp P ops (Ko K) i (fun a' w' => S w' ∧ wpAnyH P .any ops (Ko K) S fuel (listed.setIfInBounds i true) a' w') a w
theorem pick1 {i : Nat} {fuel : Nat} {listed : Array Bool} {a : Act} {w : World} (hr : Region.ready .any ops listed = [i]) (h : Pick P ops K S fuel listed a w i) : wpAnyH P .any ops (Ko K) S (fuel + 1) listed a w :=
  wpAnyH_all hr (by simp) fun j hj => by rw [List.mem_singleton] at hj; subst hj; exact h
theorem pick2 {i j : Nat} {fuel : Nat} {listed : Array Bool} {a : Act} {w : World} (hr : Region.ready .any ops listed = [i, j]) (h1 : Pick P ops K S fuel listed a w i) (h2 : Pick P ops K S fuel listed a w j) :
    wpAnyH P .any ops (Ko K) S (fuel + 1) listed a w :=
  wpAnyH_all hr (by simp) fun k hk => by
    rcases List.mem_cons.1 hk with rfl | hk
    · exact h1
    · rw [List.mem_singleton] at hk; subst hk; exact h2
theorem pick3 {i j l : Nat} {fuel : Nat} {listed : Array Bool} {a : Act} {w : World} (hr : Region.ready .any ops listed = [i, j, l]) (h1 : Pick P ops K S fuel listed a w i) (h2 : Pick P ops K S fuel listed a w j) (h3 : Pick P ops K S fuel listed a w l) :
    wpAnyH P .any ops (Ko K) S (fuel + 1) listed a w :=
  wpAnyH_all hr (by simp) fun k hk => by
    rcases List.mem_cons.1 hk with rfl | hk
    · exact h1
    rcases List.mem_cons.1 hk with rfl | hk
    · exact h2
    · rw [List.mem_singleton] at hk; subst hk; exact h3
theorem pick_one {i : Nat} {oi : Oper} {fuel : Nat} {listed : Array Bool} {a : Act} {w : World} (hi : ops[i]? = some oi)
    (hw : Region.wanted oi (yielded ops a.tmps) = true)
    (h : ∀ K' : Act → World → Prop, RowKit.Hid (∀ a w, S w → (∀ w', w' = w → S w' → wpAnyH P .any ops (Ko K) S fuel (listed.setIfInBounds i true) a w') → K' a w) → Oper.wp P oi a w K' (Ko K)) :
    Pick P ops K S fuel listed a w i := by
  unfold Pick wpOp
  simp only [hi, hw, if_true]
  exact .inl (h _ (Lib.hid fun a w hS h => ⟨hS, h _ rfl hS⟩))
theorem pick_call {i : Nat} (d : Option Tmp) (v : Value) (f : FuncId) (args : Array Value) {oi : Oper} {fuel : Nat} {listed : Array Bool} {a : Act} {w : World} (hi : ops[i]? = some oi) (hd : oi.dst = d)
    (hw : Region.wanted oi (yielded ops a.tmps) = true) (he : (execOp a.eval oi).run P w = .ok (.enter f args) w) (hc : Calls P f args w fun e w' => e = .returned v ∧ Below w.heap.size w w') (hS : ∀ w', Below w.heap.size w w' → S w')
    (h : ∀ w', Below w.heap.size w w' → S w' → wpAnyH P .any ops (Ko K) S fuel (listed.setIfInBounds i true) (a.put d v) w') : Pick P ops K S fuel listed a w i :=
  pick_one hi hw fun K' hK' => by
    unfold Oper.wp
    rw [he, Oper.upon_enter]
    refine hc.mono fun e w' he => ?_
    obtain ⟨rfl, hR⟩ := he
    exact hK'.out _ _ (hS w' hR) fun w2 hw hS2 => by subst hw; exact (hd ▸ h w2 hR hS2)
theorem pick_callx {i : Nat} (d : Option Tmp) (f : FuncId) (args : Array Value) (R : Value → World → Prop) {oi : Oper} {fuel : Nat} {listed : Array Bool} {a : Act} {w : World} (hi : ops[i]? = some oi) (hd : oi.dst = d)
    (hw : Region.wanted oi (yielded ops a.tmps) = true) (he : (execOp a.eval oi).run P w = .ok (.enter f args) w) (hc : Calls P f args w fun e w' => ∃ v, e = .returned v ∧ R v w') (hS : ∀ v w', R v w' → S w')
    (h : ∀ v w', R v w' → S w' → wpAnyH P .any ops (Ko K) S fuel (listed.setIfInBounds i true) (a.put d v) w') : Pick P ops K S fuel listed a w i :=
  pick_one hi hw fun K' hK' => by
    unfold Oper.wp
    rw [he, Oper.upon_enter]
    refine hc.mono fun e w' he => ?_
    obtain ⟨v, rfl, hR⟩ := he
    exact hK'.out _ _ (hS v w' hR) fun w2 hw hS2 => by subst hw; exact (hd ▸ h v w2 hR hS2)
theorem wp_post {id : Nat} {a : Act} {w : World} {b : Bool} {Q Q' : Exit → Act → World → Prop} (h : (Code.region id ops b).wp P Q a w) (hq : ∀ e a w, Q e a w → Q' e a w) : (Code.region id ops b).wp P Q' a w :=
  Code.wp_mono hq h
end
end Go.Proofs.YtliphfgiaioebaaDoor
