/- Contract of the reference's function that multiplies spans; no condition. -/
import Derived.Test.YtoolfecbiifplaaAb
import Derived.Test.YtoolfecbiifplaaC1
import Derived.Test.YtoolfecbiifplaaC2
import Derived.Test.YtoolfecbiifplaaC3
import Derived.Test.YtoolfecbiifplaaC4
import Derived.Test.YtoolfecbiifplaaC5
import Derived.Test.YtoolfecbiifplaaCL
import Derived.Test.YtoolfecbiifplaaC6
import Derived.Test.YtoolfecbiifplaaC7
import Derived.Test.YtoolfecbiifplaaC8
import Derived.Test.YtoolfecbiifplaaC9
import Derived.Test.YtoolfecbiifplaaCO
import Derived.Test.YtoolfecbiifplaaC10
import Derived.Test.YtoolfecbiifplaaCN
import Derived.Test.YtoolfecbiifplaaC12
import Derived.Test.YtoolfecbiifplaaC25
import Derived.Test.YtoolfecbiifplaaC30
import Derived.Test.YtoolfecbiifplaaCS
import Derived.Test.YtoolfecbiifplaaC39
import Derived.Test.YtoolfecbiifplaaC40
import Derived.Test.YtoolfecbiifplaaC41
import Derived.Test.YtoolfecbiifplaaC42
import Derived.Test.YtoolfecbiifplaaC43
import Derived.Test.YtoolfecbiifplaaC44
import Derived.Test.YtoolfecbiifplaaProg
set_option linter.unusedVariables false
set_option linter.unusedSimpArgs false
namespace Go.Proofs.Ytoolfecbiifplaa
open Ab

abbrev smulSnSp : Sp := .pf S2 (fun _ => True) (fun x => RS (mulR x.1 x.2.1))
set_option maxRecDepth 100000 in
theorem smulSn_ok : Sp.ok Try.prog 23 smulSnSp := by
  refine Sp.pf_ok (T := ⟨[(59, spansPSp), (60, timSp)], []⟩) follows eqok0 ⟨enters Try.func59 rfl rfl, spansP_ok, enters Try.func60 rfl rfl, tim_ok, trivial⟩ [] Try.func23 rfl (by kernel_rfl) _ _ _ fun x E hp => ?_
  obtain ⟨⟨⟨a, b⟩, ⟨c, d⟩⟩, ⟨⟨a', b'⟩, ⟨c', d'⟩⟩, u⟩ := x
  (repeat' ((conv => whnf); (first | with_reducible apply And.intro | (with_reducible intro hh; first | (with_reducible have hx := NewRow.self hh; clear hx) | (with_reducible have hrow := Made.row hh; have hle := Made.le hh; have hmade := hh; clear hh) | (with_reducible have hrow := Fresh.rowS hh; have hle := Fresh.leS hh; have hfr := hh; clear hh) | (with_reducible have hx := Ext.self hh; clear hx) | (with_reducible have hx := SlV.self hh; clear hx) | (with_reducible have hx := Value.self hh; clear hx) | with_reducible cases hh | skip) | (with_reducible apply AllEq.mk; intro yy hq) | with_reducible apply trivial | with_reducible apply Exists.intro () | (with_reducible apply ex_side; (first | with_reducible assumption | with_reducible apply fracs1 | with_reducible apply fracs2 | with_reducible apply fracs3 | with_reducible apply spans1 | with_reducible apply spans2 | (with_reducible apply NewRow.keep; with_reducible assumption) | (with_reducible apply RowAt.keep; with_reducible assumption) | assumption | (focus ((repeat (first | with_reducible assumption | (with_reducible apply RowAt.le; rotate_left; with_reducible assumption) | (with_reducible apply RowB.le; rotate_left; with_reducible assumption))); done)))) | (with_reducible apply ex_side (a := (_, _)); (focus (with_reducible apply And.intro <;> (focus ((repeat (first | with_reducible assumption | (with_reducible apply RowAt.le; rotate_left; with_reducible assumption) | (with_reducible apply RowB.le; rotate_left; with_reducible assumption))); done))))))); (all_goals (conv => whnf)))
  (all_goals (try dsimp only [Q.eta, Sn.eta, SlV.eta] at *)); (all_goals (first | exact Side.mk trivial | with_reducible exact Side.mk rfl | exact Side.mk (fun _ _ h => h) | exact Side.mk (Made.le (by assumption)) | refine Side.mk ?_ | refine Don.mk ?_ | skip))
  all_goals simp only [code_ne] at *
  · have h0 : (okS ⟨⟨a, b⟩, ⟨c, d⟩⟩ && okS ⟨⟨a', b'⟩, ⟨c', d'⟩⟩) = false := by
      cases h : (okS ⟨⟨a, b⟩, ⟨c, d⟩⟩ && okS ⟨⟨a', b'⟩, ⟨c', d'⟩⟩) with
      | false => rfl
      | true => rw [h] at hh; cases hh
    rw [mulR_1 h0, h0]
    rfl
  · simp only [Bool.not_eq_false', Bool.and_eq_true] at hh
    exact ⟨okS_p hh.1, okS_p hh.2⟩
  · have h0 : (okS ⟨⟨a, b⟩, ⟨c, d⟩⟩ && okS ⟨⟨a', b'⟩, ⟨c', d'⟩⟩) = true := by
      cases h : (okS ⟨⟨a, b⟩, ⟨c, d⟩⟩ && okS ⟨⟨a', b'⟩, ⟨c', d'⟩⟩) with
      | true => rfl
      | false => rw [h] at hh; cases hh
    rw [mulR_2 h0]
    rfl

end Go.Proofs.Ytoolfecbiifplaa
