/- Closed facts about the translated program alone, each by the kernel's own reckoning; no condition. -/
import Derived.Test.YtadliapkjijahaaDoorProg
import Derived.Test.YtadliapkjijahaaDoorChecked
import Derived.Test.YtadliapkjijahaaDoorRows
import Derived.WalkKit
import Derived.ProofKit
import Derived.OpenShut
import Derived.ChangeOld
import Derived.Below
import Derived.SizedLaws
import Derived.JoinedOf
import Derived.RowKit
set_option linter.unusedVariables false
set_option linter.unusedSimpArgs false
namespace Go.Proofs.YtadliapkjijahaaDoor

open Go.ChangeShapes Go.WideShapes Go.ChangeAt Go.RowKit
theorem fact_own : ownKnob Tryd.prog.godebug = none := by kernel_rfl
theorem fact_laid : laidOutB Tryd.prog = true := by kernel_rfl
theorem fact_maps : mapsRowed Tryd.prog = true := by kernel_rfl
theorem fact_heard : Tryd.prog.stopsHeard = true := by kernel_rfl
theorem fact_may : Tryd.prog.mayEnter = true := by kernel_rfl
theorem fact_lift : Tryd.prog.liftsFinal = Rows.fnExactFracTextRow.lifted := by kernel_rfl
theorem fact_make : Tryd.prog.make = some Rows.fnExactFracTextRow.make := by kernel_rfl

end Go.Proofs.YtadliapkjijahaaDoor
