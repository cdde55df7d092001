/-
  RopeOwn, where what it reads is of bulk at most 1048576: whatever the acts and the bytes, it answers true, and its input reads as it did. The tied card.
-/
import Derived.Test.YtliphfgiaioebaaDoorB18
import Derived.OpenShut
namespace Go.Proofs.YtliphfgiaioebaaDoor.ropeOwn
set_option linter.unusedVariables false
set_option linter.unusedSimpArgs false
open Go.ChangeShapes Go.WideShapes Go.ChangeAt Go.RowKit Go.Deep Go.Proofs.YtliphfgiaioebaaDoor
set_option maxRecDepth 100000
def wargs : Array Value := #[.slice none 0 0, .slice none 0 0]
theorem laid_met (os : Os) : laidMet Tryd.prog Rows.ropeOwnUptoRow.laid ((glue.laidWorld os).forCall (fun _ _ => 0) ⟨#[], wargs, []⟩).memory :=
  laidMet_of_run' 8 (by kernel_rfl) (by kernel_rfl)
theorem reads (os : Os) {H : Type} (enc : TypeId × Value → H) : ∃ places, DataW.whole enc Tryd.prog ((glue.laidWorld os).forCall (fun _ _ => 0) ⟨#[], wargs, []⟩).memory Tryd.f13.params.toList Rows.ropeOwnSpec.vars false wargs.toList 8 = some ([.nil, .nil], [], places) :=
  ⟨[], by kernel_rfl⟩
theorem liftedUpto (os : Os) (started : os.Started) (H : Type) (enc : TypeId × Value → H) (F : Stop.Interp) :
    ReturnsInHanded {} Tryd.checked os 13 .any ((Rows.OpenSpec.upto Rows.ropeOwnSpec).preRow enc Tryd.prog Tryd.f13 Rows.ropeOwnUptoRow.domain false Rows.ropeOwnUptoRow.laid) (((Rows.OpenSpec.upto Rows.ropeOwnSpec).at F).post enc Tryd.prog Tryd.f13 false true false false) := by
  obtain ⟨places, hx⟩ := reads os enc
  refine returnsInHanded_of_row (C := Tryd.checked) (s := Rows.OpenSpec.upto Rows.ropeOwnSpec) glue.own started (by kernel_rfl) Tryd.func13
    (witness_row_at (enc := enc) (C := Tryd.checked) false (glue.laidWorld os) wargs rfl (by kernel_rfl) (by kernel_rfl) (by kernel_rfl)
      (OpenSpec.preRow_of_cond 8 hx (by kernel_rfl) (fun k hk => by cases hk; kernel_rfl) (by kernel_rfl) (laid_met os))) ?_
  intro W base args ds gs before hval hW _ hcond _ hL _ _
  exact contract W base args ds gs before hval hW hL (hcond _ rfl)
theorem saidUpto : Rows.RopeOwnUptoSaid :=
  OpenClaim.holds_of_cond 13 Tryd.f13 rfl rfl rfl rfl rfl rfl rfl ⟨rfl, rfl, rfl, rfl, rfl⟩ rfl rfl rfl rfl rfl (by kernel_rfl) Tryd.func13 (by kernel_rfl)
    (of_decide_eq_true (by kernel_rfl)) (by unfold Func.isWrapper; first | (rw [if_pos (by decide +kernel)]; kernel_rfl) | (rw [if_neg (by decide +kernel)]; exact ⟨rfl, rfl⟩))
    (fun os started H enc _ F => by rw [OpenClaim.pre_eq_preRow]; exact liftedUpto os started H enc F)
theorem plain (f : FuncId) (fn : Func) (hf : Tryd.pinned.checked.prog.funcNamed "galley/galleylaw09.RopeOwn" = some f) (hfn : Tryd.pinned.checked.prog.funcs[f]? = some fn) :
    true = Tryd.pinned.checked.prog.looks [] ∧ ∀ (j : Nat) t, fn.params[j]? = some t → Tryd.pinned.checked.prog.wantsStandIn t = false := by
  obtain rfl : f = 13 := Option.some.inj ((show Tryd.prog.funcNamed "galley/galleylaw09.RopeOwn" = some 13 by kernel_rfl).symm.trans hf) |>.symm
  obtain rfl : fn = Tryd.f13 := (Option.some.inj (Tryd.func13.symm.trans hfn)).symm
  refine ⟨by kernel_rfl, fun j t ht => ?_⟩
  rw [Tryd.params13] at ht
  have ht' : t = 22 ∨ t = 41 := by simpa using Array.mem_of_getElem? ht
  rcases ht' with rfl | rfl
  · exact (show Tryd.prog.wantsStandIn 22 = false by kernel_rfl)
  · exact (show Tryd.prog.wantsStandIn 41 = false by kernel_rfl)
end Go.Proofs.YtliphfgiaioebaaDoor.ropeOwn
namespace Go.Proofs.YtliphfgiaioebaaDoor
/-- the card -/
theorem ropeOwnUpto_holds : Rows.RopeOwnUptoCardSaid :=
  Claim7.holds_tied_plain_at .later [] _ _ _ _ ropeOwn.saidUpto (fun _ h => by cases h) (by kernel_rfl) (fun _ h => by cases h) ropeOwnUpto_row_tie rfl ⟨rfl, rfl⟩ (by kernel_rfl) rfl ropeOwn.plain (by kernel_rfl)
end Go.Proofs.YtliphfgiaioebaaDoor
