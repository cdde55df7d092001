/-
  RopeStops, where what it reads is of bulk at most 1048576: whatever the acts, the place and the way, it answers true, and its input reads as it did. The tied card.
-/
import Derived.Test.YtliphfgiaioebaaDoorB19
import Derived.OpenShut
namespace Go.Proofs.YtliphfgiaioebaaDoor.ropeStops
set_option linter.unusedVariables false
set_option linter.unusedSimpArgs false
open Go.ChangeShapes Go.WideShapes Go.ChangeAt Go.RowKit Go.Deep Go.Proofs.YtliphfgiaioebaaDoor
set_option maxRecDepth 100000
def wargs : Array Value := #[.slice none 0 0, .int .i64 0, .bool false]
theorem laid_met (os : Os) : laidMet Tryd.prog Rows.ropeStopsUptoRow.laid ((glue.laidWorld os).forCall (fun _ _ => 0) ⟨#[], wargs, []⟩).memory :=
  laidMet_of_run' 8 (by kernel_rfl) (by kernel_rfl)
theorem reads (os : Os) {H : Type} (enc : TypeId × Value → H) : ∃ places, DataW.whole enc Tryd.prog ((glue.laidWorld os).forCall (fun _ _ => 0) ⟨#[], wargs, []⟩).memory Tryd.f8.params.toList Rows.ropeStopsSpec.vars false wargs.toList 8 = some ([.nil, .lit (.int .i64 0), .lit (.bool false)], [], places) :=
  ⟨[], by kernel_rfl⟩
theorem liftedUpto (os : Os) (started : os.Started) (H : Type) (enc : TypeId × Value → H) (F : Stop.Interp) :
    ReturnsInHanded {} Tryd.checked os 8 .any ((Rows.OpenSpec.upto Rows.ropeStopsSpec).preRow enc Tryd.prog Tryd.f8 Rows.ropeStopsUptoRow.domain false Rows.ropeStopsUptoRow.laid) (((Rows.OpenSpec.upto Rows.ropeStopsSpec).at F).post enc Tryd.prog Tryd.f8 false true false false) := by
  obtain ⟨places, hx⟩ := reads os enc
  refine returnsInHanded_of_row (C := Tryd.checked) (s := Rows.OpenSpec.upto Rows.ropeStopsSpec) glue.own started (by kernel_rfl) Tryd.func8
    (witness_row_at (enc := enc) (C := Tryd.checked) false (glue.laidWorld os) wargs rfl (by kernel_rfl) (by kernel_rfl) (by kernel_rfl)
      (OpenSpec.preRow_of_cond 8 hx (by kernel_rfl) (fun k hk => by cases hk; kernel_rfl) (by kernel_rfl) (laid_met os))) ?_
  intro W base args ds gs before hval hW _ hcond _ hL _ _
  exact contract W base args ds gs before hval hW hL (hcond _ rfl)
theorem saidUpto : Rows.RopeStopsUptoSaid :=
  OpenClaim.holds_of_cond 8 Tryd.f8 rfl rfl rfl rfl rfl rfl rfl ⟨rfl, rfl, rfl, rfl, rfl⟩ rfl rfl rfl rfl rfl (by kernel_rfl) Tryd.func8 (by kernel_rfl)
    (of_decide_eq_true (by kernel_rfl)) (by unfold Func.isWrapper; first | (rw [if_pos (by decide +kernel)]; kernel_rfl) | (rw [if_neg (by decide +kernel)]; exact ⟨rfl, rfl⟩))
    (fun os started H enc _ F => by rw [OpenClaim.pre_eq_preRow]; exact liftedUpto os started H enc F)
theorem plain (f : FuncId) (fn : Func) (hf : Tryd.pinned.checked.prog.funcNamed "galley/galleylaw09.RopeStops" = some f) (hfn : Tryd.pinned.checked.prog.funcs[f]? = some fn) :
    true = Tryd.pinned.checked.prog.looks [] ∧ ∀ (j : Nat) t, fn.params[j]? = some t → Tryd.pinned.checked.prog.wantsStandIn t = false := by
  obtain rfl : f = 8 := Option.some.inj ((show Tryd.prog.funcNamed "galley/galleylaw09.RopeStops" = some 8 by kernel_rfl).symm.trans hf) |>.symm
  obtain rfl : fn = Tryd.f8 := (Option.some.inj (Tryd.func8.symm.trans hfn)).symm
  refine ⟨by kernel_rfl, fun j t ht => ?_⟩
  rw [Tryd.params8] at ht
  have ht' : t = 22 ∨ t = 3 ∨ t = 4 := by simpa using Array.mem_of_getElem? ht
  rcases ht' with rfl | rfl | rfl
  · exact (show Tryd.prog.wantsStandIn 22 = false by kernel_rfl)
  · exact (show Tryd.prog.wantsStandIn 3 = false by kernel_rfl)
  · exact (show Tryd.prog.wantsStandIn 4 = false by kernel_rfl)
end Go.Proofs.YtliphfgiaioebaaDoor.ropeStops
namespace Go.Proofs.YtliphfgiaioebaaDoor
/-- the card -/
theorem ropeStopsUpto_holds : Rows.RopeStopsUptoCardSaid :=
  Claim7.holds_tied_plain_at .later [] _ _ _ _ ropeStops.saidUpto (fun _ h => by cases h) (by kernel_rfl) (fun _ h => by cases h) ropeStopsUpto_row_tie rfl ⟨rfl, rfl⟩ (by kernel_rfl) rfl ropeStops.plain (by kernel_rfl)
end Go.Proofs.YtliphfgiaioebaaDoor
