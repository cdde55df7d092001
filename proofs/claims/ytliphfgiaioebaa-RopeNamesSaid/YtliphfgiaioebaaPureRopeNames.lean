/- RopeNames: the closed sentence on the limit and the errors' numbers is true. -/
import Derived.Test.YtliphfgiaioebaaPRopeNamesx1
namespace Go.Proofs.Ytliphfgiaioebaa.Pure
open Go.RowKit Go.Proofs.Ytliphfgiaioebaa.PRopeNames Go.Proofs.YtliphfgiaioebaaW.PrintWords Go.Proofs.YtliphfgiaioebaaW.PrintLast

/-- YOURS: galleylaw09_RopeNames.f  = some true
What it reaches (each with k first where it has rounds; `.mono`: more rounds tell the same; `.l0`, ..: its loops, with `.mono_l`): galleylaw09_RopeNames.f -/
theorem RopeNames : galleylaw09_RopeNames.Pure := by
  rfl

end Go.Proofs.Ytliphfgiaioebaa.Pure
