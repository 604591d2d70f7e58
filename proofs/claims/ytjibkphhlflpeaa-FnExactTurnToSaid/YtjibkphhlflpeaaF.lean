/- Closed facts about the translated program alone, each by the kernel's own reckoning; no condition. -/
import Derived.Test.YtjibkphhlflpeaaProg
import Derived.Test.YtjibkphhlflpeaaChecked
import Derived.Test.YtjibkphhlflpeaaRows
import Derived.WalkKit
import Derived.ProofKit
import Derived.OpenShut
import Derived.ChangeOld
import Derived.Below
import Derived.SizedLaws
import Derived.JoinedOf
import Derived.RowKit
set_option linter.unusedVariables false
set_option linter.unusedSimpArgs false
namespace Go.Proofs.Ytjibkphhlflpeaa

open Go.ChangeShapes Go.WideShapes Go.ChangeAt Go.RowKit
theorem fact_own : ownKnob Try.prog.godebug = none := by kernel_rfl
theorem fact_laid : laidOutB Try.prog = true := by kernel_rfl
theorem fact_maps : mapsRowed Try.prog = true := by kernel_rfl
theorem fact_heard : Try.prog.stopsHeard = true := by kernel_rfl
theorem fact_may : Try.prog.mayEnter = true := by kernel_rfl
theorem fact_lift : Try.prog.liftsFinal = Rows.fnExactPlayFoundRow.lifted := by kernel_rfl
theorem fact_make : Try.prog.make = some Rows.fnExactPlayFoundRow.make := by kernel_rfl

end Go.Proofs.Ytjibkphhlflpeaa
