/- Closed facts about the translated program alone, each by the kernel's own reckoning; no condition. -/
import Derived.Test.YtmlnfabkfajefaaProg
import Derived.Test.YtmlnfabkfajefaaChecked
import Derived.Test.YtmlnfabkfajefaaRows
import Derived.WalkKit
import Derived.ProofKit
import Derived.OpenShut
import Derived.ChangeOld
import Derived.Below
import Derived.SizedLaws
import Derived.JoinedOf
import Derived.RowKit
set_option linter.unusedVariables false
set_option linter.unusedSimpArgs false
namespace Go.Proofs.Ytmlnfabkfajefaa

open Go.ChangeShapes Go.WideShapes Go.ChangeAt Go.RowKit
theorem fact_own : ownKnob Try.prog.godebug = none := by kernel_rfl
theorem fact_laid : laidOutB Try.prog = true := by kernel_rfl
theorem fact_maps : mapsRowed Try.prog = true := by kernel_rfl
theorem fact_heard : Try.prog.stopsHeard = true := by kernel_rfl
theorem fact_may : Try.prog.mayEnter = true := by kernel_rfl
theorem fact_lift : Try.prog.liftsFinal = Rows.fnScrewsRow.lifted := by kernel_rfl
theorem fact_make : Try.prog.make = some Rows.fnScrewsRow.make := by kernel_rfl

end Go.Proofs.Ytmlnfabkfajefaa
