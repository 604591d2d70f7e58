/- What the listed variables hold when a call begins; no condition. -/
import Derived.Test.YtadliapkjijahaaDoorAb
import Derived.Test.YtadliapkjijahaaDoorC1
import Derived.Test.YtadliapkjijahaaDoorC2
import Derived.Test.YtadliapkjijahaaDoorC3
import Derived.Test.YtadliapkjijahaaDoorC4
import Derived.Test.YtadliapkjijahaaDoorC10
import Derived.Test.YtadliapkjijahaaDoorC12
import Derived.Test.YtadliapkjijahaaDoorC24
import Derived.Test.YtadliapkjijahaaDoorC25
import Derived.Test.YtadliapkjijahaaDoorCK
import Derived.Test.YtadliapkjijahaaDoorCF
import Derived.Test.YtadliapkjijahaaDoorC50
import Derived.Test.YtadliapkjijahaaDoorF
import Derived.Test.YtadliapkjijahaaDoorProg
import Derived.Test.YtadliapkjijahaaDoorChecked
import Derived.Test.YtadliapkjijahaaDoorRows
import Derived.WalkKit
import Derived.ProofKit
import Derived.OpenShut
import Derived.ChangeOld
import Derived.Below
import Derived.SizedLaws
import Derived.LaidLaws
import Derived.LaidMore
import Derived.Lib.LaidTab
set_option linter.unusedVariables false
set_option linter.unusedSimpArgs false
namespace Go.Proofs.YtadliapkjijahaaDoor
open Ab

theorem gTType : (Tryd.prog.globals[1]?).map (·.type) = some 132 := by kernel_rfl
set_option maxRecDepth 100000 in
theorem holds_laid {a b : String × DataW Unit} {W : World} (h : laidMet Tryd.prog [a, b, ("internal/strconv.uint64pow10", Rows.laid_internal_strconv_uint64pow10)] W) : Holds W [] ⟨fun a => W.cell? a, fun _ => none⟩ := by
  obtain ⟨ps, hv, _, _⟩ := h
  obtain ⟨g0, t0, cs0, f0, p0, q0, hg0, ht0, hv0, hd0, ⟨g1, t1, cs1, f1, p1, q1, hg1, ht1, hv1, hd1, ⟨g2, t2, cs2, f2, p2, q2, hg2, ht2, hv2, hd2, _⟩, _⟩, _⟩ := hv
  obtain rfl := Option.some.inj (glob_tab.symm.trans hg2)
  obtain rfl := Option.some.inj (gTType.symm.trans ht2)
  have hcs := Lib.cells_of_tab (k := .u64) (zs := Lib.pow10Tab) Tryd.underlying132 Tryd.underlying112 (by kernel_rfl) (by kernel_rfl) hd2
  intro x hx
  obtain rfl : x = _ := List.mem_singleton.1 hx
  refine ⟨?_, by simp, rfl⟩
  unfold World.var? at hv2
  rw [glob_tab] at hv2
  dsimp only [Option.bind_some] at hv2
  split at hv2
  · rename_i cs t fz hb
    cases hv2
    exact ⟨cs2, t, fz, hb, show cs2 = _ by rw [← hcs]⟩
  · cases hv2

end Go.Proofs.YtadliapkjijahaaDoor
