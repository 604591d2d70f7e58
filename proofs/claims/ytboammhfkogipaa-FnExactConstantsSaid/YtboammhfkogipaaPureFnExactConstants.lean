/- This text proves the plain law of the statement FnExactConstantsSaid: the law function of the constants, as the print tool reads it, answers true.
Conditions: none. -/
import Derived.Test.YtboammhfkogipaaPFnExactConstantsx1
namespace Go.Proofs.Ytboammhfkogipaa.Pure
open Go.RowKit Go.Proofs.Ytboammhfkogipaa.PFnExactConstants Go.Proofs.YtboammhfkogipaaW.PrintWords Go.Proofs.YtboammhfkogipaaW.PrintLast

/-- YOURS: laws_FnExactConstants.f  = some true
What it reaches (each with k first where it has rounds; `.mono`: more rounds tell the same; `.l0`, ..: its loops, with `.mono_l`): laws_FnExactConstants.f -/
theorem FnExactConstants : laws_FnExactConstants.Pure := by
  show laws_FnExactConstants.f = some true
  rfl

end Go.Proofs.Ytboammhfkogipaa.Pure
