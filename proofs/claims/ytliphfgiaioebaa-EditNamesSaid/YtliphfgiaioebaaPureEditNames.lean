/- EditNames: the closed sentence on the limit and the errors' numbers is true. -/
import Derived.Test.YtliphfgiaioebaaPEditNamesx1
namespace Go.Proofs.Ytliphfgiaioebaa.Pure
open Go.RowKit Go.Proofs.Ytliphfgiaioebaa.PEditNames Go.Proofs.YtliphfgiaioebaaW.PrintWords Go.Proofs.YtliphfgiaioebaaW.PrintLast

/-- YOURS: galleylaw12_EditNames.f  = some true
What it reaches (each with k first where it has rounds; `.mono`: more rounds tell the same; `.l0`, ..: its loops, with `.mono_l`): galleylaw12_EditNames.f -/
theorem EditNames : galleylaw12_EditNames.Pure := by
  rfl

end Go.Proofs.Ytliphfgiaioebaa.Pure
