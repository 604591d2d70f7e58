/- Closed facts about the translated program alone, each by the kernel's own reckoning; no condition. -/
import Derived.Test.YtadliapkjijahaaGreatDoorProg
import Derived.Test.YtadliapkjijahaaGreatDoorChecked
import Derived.Test.YtadliapkjijahaaGreatDoorRows
import Derived.WalkKit
import Derived.ProofKit
import Derived.OpenShut
import Derived.ChangeOld
import Derived.Below
import Derived.SizedLaws
import Derived.JoinedOf
import Derived.RowKit
set_option linter.unusedVariables false
set_option linter.unusedSimpArgs false
namespace Go.Proofs.YtadliapkjijahaaGreatDoor

open Go.ChangeShapes Go.WideShapes Go.ChangeAt Go.RowKit
theorem fact_own : ownKnob Tryz.prog.godebug = none := by kernel_rfl
theorem fact_laid : laidOutB Tryz.prog = true := by kernel_rfl
theorem fact_maps : mapsRowed Tryz.prog = true := by kernel_rfl
theorem fact_heard : Tryz.prog.stopsHeard = true := by kernel_rfl
theorem fact_may : Tryz.prog.mayEnter = true := by kernel_rfl
theorem fact_lift : Tryz.prog.liftsFinal = Rows.fnSpansRow.lifted := by kernel_rfl
theorem fact_make : Tryz.prog.make = some Rows.fnSpansRow.make := by kernel_rfl

end Go.Proofs.YtadliapkjijahaaGreatDoor
