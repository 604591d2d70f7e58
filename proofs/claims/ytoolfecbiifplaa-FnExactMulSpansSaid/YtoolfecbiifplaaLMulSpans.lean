/- The statement FnExactMulSpansSaid: spec and impl answer alike for every two spans. Conditions: none beyond the statement's own. -/
import Derived.Test.YtoolfecbiifplaaAb
import Derived.Test.YtoolfecbiifplaaC1
import Derived.Test.YtoolfecbiifplaaC2
import Derived.Test.YtoolfecbiifplaaC3
import Derived.Test.YtoolfecbiifplaaC4
import Derived.Test.YtoolfecbiifplaaC5
import Derived.Test.YtoolfecbiifplaaC6
import Derived.Test.YtoolfecbiifplaaC7
import Derived.Test.YtoolfecbiifplaaC8
import Derived.Test.YtoolfecbiifplaaC9
import Derived.Test.YtoolfecbiifplaaCO
import Derived.Test.YtoolfecbiifplaaC10
import Derived.Test.YtoolfecbiifplaaC12
import Derived.Test.YtoolfecbiifplaaC25
import Derived.Test.YtoolfecbiifplaaC30
import Derived.Test.YtoolfecbiifplaaCN
import Derived.Test.YtoolfecbiifplaaCS
import Derived.Test.YtoolfecbiifplaaC39
import Derived.Test.YtoolfecbiifplaaC40
import Derived.Test.YtoolfecbiifplaaC41
import Derived.Test.YtoolfecbiifplaaC42
import Derived.Test.YtoolfecbiifplaaC43
import Derived.Test.YtoolfecbiifplaaC44
import Derived.Test.YtoolfecbiifplaaC47
import Derived.Test.YtoolfecbiifplaaCL
import Derived.Test.YtoolfecbiifplaaF
import Derived.Test.YtoolfecbiifplaaProg
import Derived.Test.YtoolfecbiifplaaChecked
import Derived.Test.YtoolfecbiifplaaRows
import Derived.WalkKit
import Derived.ProofKit
import Derived.OpenShut
import Derived.ChangeOld
import Derived.Below
import Derived.SizedLaws
set_option linter.unusedVariables false
set_option linter.unusedSimpArgs false
namespace Go.Proofs.Ytoolfecbiifplaa
open Ab

abbrev lawSp : Sp := .rf S2 (fun _ (_ : Unit) _ => True) (fun _ _ => .bool true)
set_option maxRecDepth 100000 in
theorem law_ok : Sp.ok Try.prog 4 lawSp := by
  refine Sp.rf_ok (T := ⟨[(24, toSpanSp), (23, smulSnSp), (25, mulSnSp), (26, eqSpanSp)], []⟩) follows eqok0 ⟨enters Try.func24 rfl rfl, toSpan_ok, enters Try.func23 rfl rfl, smulSn_ok, enters Try.func25 rfl rfl, mulSn_ok, enters Try.func26 rfl rfl, eqSpan_ok, trivial⟩ [(1, .take 0 (.take 2 (.alt 1 (.alt 3 (.alt 4 (.take 5 (.take 6 (.take 7 (.alt 8 (.alt 9 (.take 10 (.done)) (.last)) (.last))))) (.alt 8 (.alt 4 (.take 5 (.take 6 (.take 7 (.alt 9 (.take 10 (.done)) (.last))))) (.last)) (.last))) (.alt 8 (.alt 3 (.alt 4 (.take 5 (.take 6 (.take 7 (.alt 9 (.take 10 (.done)) (.last))))) (.last)) (.last)) (.last))) (.alt 8 (.alt 1 (.alt 3 (.alt 4 (.take 5 (.take 6 (.take 7 (.alt 9 (.take 10 (.done)) (.last))))) (.last)) (.last)) (.last)) (.last))))), (2, .take 0 (.take 2 (.alt 1 (.alt 3 (.alt 4 (.take 5 (.take 6 (.take 7 (.alt 8 (.alt 9 (.take 10 (.done)) (.last)) (.last))))) (.alt 8 (.alt 4 (.take 5 (.take 6 (.take 7 (.alt 9 (.take 10 (.done)) (.last))))) (.last)) (.last))) (.alt 8 (.alt 3 (.alt 4 (.take 5 (.take 6 (.take 7 (.alt 9 (.take 10 (.done)) (.last))))) (.last)) (.last)) (.last))) (.alt 8 (.alt 1 (.alt 3 (.alt 4 (.take 5 (.take 6 (.take 7 (.alt 9 (.take 10 (.done)) (.last))))) (.last)) (.last)) (.last)) (.last)))))] Try.func4 rfl (by kernel_rfl) _ _ _ fun x l E hp => ?_
  obtain ⟨⟨⟨a, b⟩, ⟨c, d⟩⟩, ⟨⟨a', b'⟩, ⟨c', d'⟩⟩, u⟩ := x
  (repeat' ((conv => whnf); (first | with_reducible apply And.intro | (with_reducible intro hh; first | (with_reducible have hx := NewRow.self hh; clear hx) | (with_reducible have hrow := Made.row hh; have hle := Made.le hh; have hmade := hh; clear hh) | (with_reducible have hrow := Fresh.rowS hh; have hle := Fresh.leS hh; have hfr := hh; clear hh) | (with_reducible have hx := Ext.self hh; clear hx) | (with_reducible have hx := SlV.self hh; clear hx) | (with_reducible have hx := Value.self hh; clear hx) | with_reducible cases hh | skip) | (with_reducible apply AllEq.mk; intro yy hq) | with_reducible apply trivial | with_reducible apply Exists.intro () | (with_reducible apply ex_side; (first | with_reducible assumption | with_reducible apply fracs1 | with_reducible apply fracs2 | with_reducible apply fracs3 | with_reducible apply spans1 | with_reducible apply spans2 | (with_reducible apply NewRow.keep; with_reducible assumption) | (with_reducible apply RowAt.keep; with_reducible assumption) | assumption | (focus ((repeat (first | with_reducible assumption | (with_reducible apply RowAt.le; rotate_left; with_reducible assumption) | (with_reducible apply RowB.le; rotate_left; with_reducible assumption))); done)))) | (with_reducible apply ex_side (a := (_, _)); (focus (with_reducible apply And.intro <;> (focus ((repeat (first | with_reducible assumption | (with_reducible apply RowAt.le; rotate_left; with_reducible assumption) | (with_reducible apply RowB.le; rotate_left; with_reducible assumption))); done))))))); (all_goals (conv => whnf)))
  (all_goals (try dsimp only [Q.eta, Sn.eta, SlV.eta] at *)); (all_goals (first | exact Side.mk trivial | with_reducible exact Side.mk rfl | exact Side.mk (fun _ _ h => h) | exact Side.mk (Made.le (by assumption)) | refine Side.mk ?_ | refine Don.mk ?_ | skip))
  all_goals simp_all
namespace fnExactMulSpans
open Go.ChangeShapes Go.WideShapes Go.ChangeAt Go.RowKit
set_option maxRecDepth 100000 in
theorem lifted (os : Os) (started : os.Started) (H : Type) (enc : TypeId × Value → H) :
    ReturnsInHanded {} Try.checked os 4 .any (Rows.fnExactMulSpansSpec.pre6 enc Try.prog Try.f4 Rows.fnExactMulSpansRow.domain false) (Rows.fnExactMulSpansSpec.post enc Try.prog Try.f4 false true false false) := by
  refine returnsInHanded_of_change_sized (C := Try.checked) fact_own started (by kernel_rfl) Try.func4
    (ChangeSpec.witness6 (enc := enc) (C := Try.checked) false ⟨#[], #[.agg #[.int .i64 0, .int .i64 0, .int .i64 0, .int .i64 0], .agg #[.int .i64 0, .int .i64 0, .int .i64 0, .int .i64 0]], []⟩ 8 (by kernel_rfl) (by kernel_rfl) (by kernel_rfl) (by kernel_rfl)) ?_
  intro W base args ds gs before hval0 hW hcnd hsz0 _
  have hval : ∀ (j : Nat) t v, Try.f4.params[j]? = some t → args[j]? = some v → Value.okWide Try.prog W .any base t v := hval0
  have hW' := hW
  obtain ⟨p, q, hA0, hV, rfl, hfz, hnd⟩ := hW
  have hA : DataW.TrodAll enc Try.prog W 0 (fun _ => true) true Try.f4.params.toList args.toList ds p := hA0
  rw [Try.params4] at hA hval
  obtain ⟨rfl, rfl⟩ := trodVars_none hV
  have opens := OpensL.cons (Opens.span Try.underlying47 (by kernel_rfl) (by kernel_rfl) Try.underlying2) (OpensL.cons (Opens.span Try.underlying47 (by kernel_rfl) (by kernel_rfl) Try.underlying2) (OpensL.nil (P := Try.prog)))
  obtain ⟨x, hx, hw⟩ := opens (fun j t v h1 h2 => hval j t v (by simpa using h1) (by simpa using h2)) hA
  obtain ⟨l, hl⟩ := (show ∃ l : Unit, True from ⟨(), trivial⟩)
  have hlt : ∀ y ∈ p, y.block < W.heap.size := fun y hy => hW'.lt y (by simpa using hy)
  refine (Sp.calls (law_ok) hx (l := l) (args := args) rfl hl).mono fun e W' ⟨he, bel⟩ => ?_
  subst he
  obtain ⟨_, _, d0, ds0, _, _, _, rfl, _, _, r0⟩ := trodAll_cons hA
  obtain ⟨_, _, d1, ds1, _, _, _, rfl, _, _, r1⟩ := trodAll_cons r0
  obtain ⟨_, rfl, _⟩ := trodAll_nil r1
  exact ⟨_, rfl, _, _, _, [], _, [], hW', trodAll_mk1 (shut_bool Try.underlying4 _), args_stay fact_laid bel (by kernel_rfl) hA hlt, rfl, bel.frame _, fun h => by cases h⟩
theorem closed : joinedFacts Try.prog 4 Try.f4 Rows.fnExactMulSpansSpec Rows.fnExactMulSpansRow = true := by
  unfold joinedFacts
  rw [fact_laid, fact_maps, fact_heard, fact_may, fact_lift, fact_make]
  kernel_rfl
theorem over : Rows.fnExactMulSpansRow.holds Try.pinned (OpenSpec.ofChange Rows.fnExactMulSpansSpec) :=
  OpenClaim.holds_of_wide 4 Try.f4 rfl rfl rfl rfl rfl rfl rfl ⟨rfl, rfl, rfl, rfl, rfl⟩ rfl rfl rfl rfl rfl (by kernel_rfl) Try.func4 closed
    (of_decide_eq_true (by kernel_rfl)) (by unfold Func.isWrapper; first | (rw [if_pos (by decide +kernel)]; kernel_rfl) | (rw [if_neg (by decide +kernel)]; exact ⟨rfl, rfl⟩))
    (fun os started H enc _ => lifted os started H enc)
theorem proved : Rows.FnExactMulSpansSaid := over
end fnExactMulSpans
/-- The row, under a short name, for the claim. -/
theorem fnExactMulSpans_holds : Rows.FnExactMulSpansSaid := fnExactMulSpans.proved


end Go.Proofs.Ytoolfecbiifplaa
