/- The statement FnExactMiddleOfSaid: spec and impl answer alike for every list of fractions. Conditions: none beyond the statement's own. -/
import Derived.Test.YtoolfecbiifplaaAb
import Derived.Test.YtoolfecbiifplaaC1
import Derived.Test.YtoolfecbiifplaaC2
import Derived.Test.YtoolfecbiifplaaC3
import Derived.Test.YtoolfecbiifplaaC4
import Derived.Test.YtoolfecbiifplaaC5
import Derived.Test.YtoolfecbiifplaaC6
import Derived.Test.YtoolfecbiifplaaC7
import Derived.Test.YtoolfecbiifplaaC8
import Derived.Test.YtoolfecbiifplaaC9
import Derived.Test.YtoolfecbiifplaaCO
import Derived.Test.YtoolfecbiifplaaC10
import Derived.Test.YtoolfecbiifplaaC12
import Derived.Test.YtoolfecbiifplaaC13
import Derived.Test.YtoolfecbiifplaaC25
import Derived.Test.YtoolfecbiifplaaC30
import Derived.Test.YtoolfecbiifplaaCN
import Derived.Test.YtoolfecbiifplaaCS
import Derived.Test.YtoolfecbiifplaaC39
import Derived.Test.YtoolfecbiifplaaC40
import Derived.Test.YtoolfecbiifplaaC41
import Derived.Test.YtoolfecbiifplaaC42
import Derived.Test.YtoolfecbiifplaaC43
import Derived.Test.YtoolfecbiifplaaC44
import Derived.Test.YtoolfecbiifplaaC45
import Derived.Test.YtoolfecbiifplaaC46
import Derived.Test.YtoolfecbiifplaaC48
import Derived.Test.YtoolfecbiifplaaCL
import Derived.Test.YtoolfecbiifplaaF
import Derived.Test.YtoolfecbiifplaaProg
import Derived.Test.YtoolfecbiifplaaChecked
import Derived.Test.YtoolfecbiifplaaRows
import Derived.WalkKit
import Derived.ProofKit
import Derived.OpenShut
import Derived.ChangeOld
import Derived.Below
import Derived.SizedLaws
set_option linter.unusedVariables false
set_option linter.unusedSimpArgs false
namespace Go.Proofs.Ytoolfecbiifplaa
open Ab

abbrev lawSp : Sp := .rf FS (fun x (l : List Q) E => FracsAt x.1 l E) (fun _ _ => .bool true)
set_option maxRecDepth 100000 in
theorem law_ok : Sp.ok Try.prog 5 lawSp := by
  refine Sp.rf_ok (T := ⟨[(27, szSp), (29, toFracSSp), (28, midFSp), (30, midFSp), (31, eqFracSp), (32, eqFracSSp)], []⟩) follows eqok0 ⟨enters Try.func27 rfl rfl, szFracS_ok, enters Try.func29 rfl rfl, toFracS_ok, enters Try.func28 rfl rfl, smid_ok, enters Try.func30 rfl rfl, mid_ok, enters Try.func31 rfl rfl, eqFrac_ok, enters Try.func32 rfl rfl, eqFracS_ok, trivial⟩ [] Try.func5 rfl (by kernel_rfl) _ _ _ fun x l E hp => ?_
  obtain ⟨⟨sa, n, c⟩, u⟩ := x
  have hn := hp.1
  have hm := hp.2.1
  dsimp only at hn hm
  by_cases hsm : l.length ≤ 1048576
  · have hB : RowB Q.cells 2 ⟨sa, n, c⟩ l E := ⟨hp, hsm⟩
    have hs : szR 1048576 n = 1048576 - n := if_neg (by omega)
    (repeat' ((conv => whnf); (first | with_reducible apply And.intro | (with_reducible intro hh; first | (with_reducible have hx := NewRow.self hh; clear hx) | (with_reducible have hrow := Made.row hh; have hle := Made.le hh; have hmade := hh; clear hh) | (with_reducible have hrow := Fresh.rowS hh; have hle := Fresh.leS hh; have hfr := hh; clear hh) | (with_reducible have hx := Ext.self hh; clear hx) | (with_reducible have hx := SlV.self hh; clear hx) | (with_reducible have hx := Value.self hh; clear hx) | with_reducible cases hh | skip) | (with_reducible apply AllEq.mk; intro yy hq) | with_reducible apply trivial | with_reducible apply Exists.intro () | (with_reducible apply ex_side; (first | with_reducible assumption | with_reducible apply fracs1 | with_reducible apply fracs2 | with_reducible apply fracs3 | with_reducible apply spans1 | with_reducible apply spans2 | (with_reducible apply NewRow.keep; with_reducible assumption) | (with_reducible apply RowAt.keep; with_reducible assumption) | assumption | (focus ((repeat (first | with_reducible assumption | (with_reducible apply RowAt.le; rotate_left; with_reducible assumption) | (with_reducible apply RowB.le; rotate_left; with_reducible assumption))); done)))) | (with_reducible apply ex_side (a := (_, _)); (focus (with_reducible apply And.intro <;> (focus ((repeat (first | with_reducible assumption | (with_reducible apply RowAt.le; rotate_left; with_reducible assumption) | (with_reducible apply RowB.le; rotate_left; with_reducible assumption))); done))))))); (all_goals (conv => whnf)))
    (all_goals (try dsimp only [Q.eta, Sn.eta, SlV.eta] at *)); (all_goals (first | exact Side.mk trivial | with_reducible exact Side.mk rfl | exact Side.mk (fun _ _ h => h) | exact Side.mk (Made.le (by assumption)) | refine Side.mk ?_ | refine Don.mk ?_ | skip))
    all_goals first | exact ⟨hm, by omega, by omega⟩ | (exfalso; have := of_decide_eq_true (by assumption : decide (szR 1048576 n < 0) = true); omega) | skip
    all_goals simp_all
  · have hs : szR 1048576 n = -1 := if_pos (by omega)
    (repeat' ((conv => whnf); (first | with_reducible apply And.intro | (with_reducible intro hh; first | (with_reducible have hx := NewRow.self hh; clear hx) | (with_reducible have hrow := Made.row hh; have hle := Made.le hh; have hmade := hh; clear hh) | (with_reducible have hrow := Fresh.rowS hh; have hle := Fresh.leS hh; have hfr := hh; clear hh) | (with_reducible have hx := Ext.self hh; clear hx) | (with_reducible have hx := SlV.self hh; clear hx) | (with_reducible have hx := Value.self hh; clear hx) | with_reducible cases hh | skip) | (with_reducible apply AllEq.mk; intro yy hq) | with_reducible apply trivial | with_reducible apply Exists.intro () | (with_reducible apply ex_side; (first | with_reducible assumption | with_reducible apply fracs1 | with_reducible apply fracs2 | with_reducible apply fracs3 | with_reducible apply spans1 | with_reducible apply spans2 | (with_reducible apply NewRow.keep; with_reducible assumption) | (with_reducible apply RowAt.keep; with_reducible assumption) | assumption | (focus ((repeat (first | with_reducible assumption | (with_reducible apply RowAt.le; rotate_left; with_reducible assumption) | (with_reducible apply RowB.le; rotate_left; with_reducible assumption))); done)))) | (with_reducible apply ex_side (a := (_, _)); (focus (with_reducible apply And.intro <;> (focus ((repeat (first | with_reducible assumption | (with_reducible apply RowAt.le; rotate_left; with_reducible assumption) | (with_reducible apply RowB.le; rotate_left; with_reducible assumption))); done))))))); (all_goals (conv => whnf)))
    (all_goals (try dsimp only [Q.eta, Sn.eta, SlV.eta] at *)); (all_goals (first | exact Side.mk trivial | with_reducible exact Side.mk rfl | exact Side.mk (fun _ _ h => h) | exact Side.mk (Made.le (by assumption)) | refine Side.mk ?_ | refine Don.mk ?_ | skip))
    all_goals first | exact ⟨hm, by omega, by omega⟩ | (exfalso; have := of_decide_eq_false (by assumption : decide (szR 1048576 n < 0) = false); omega) | rfl
namespace fnExactMiddleOf
open Go.ChangeShapes Go.WideShapes Go.ChangeAt Go.RowKit
set_option maxRecDepth 100000 in
theorem lifted (os : Os) (started : os.Started) (H : Type) (enc : TypeId × Value → H) :
    ReturnsInHanded {} Try.checked os 5 .any (Rows.fnExactMiddleOfSpec.pre6 enc Try.prog Try.f5 Rows.fnExactMiddleOfRow.domain false) (Rows.fnExactMiddleOfSpec.post enc Try.prog Try.f5 false true false false) := by
  refine returnsInHanded_of_change_sized (C := Try.checked) fact_own started (by kernel_rfl) Try.func5
    (ChangeSpec.witness6 (enc := enc) (C := Try.checked) false ⟨#[], #[.slice none 0 0], []⟩ 8 (by kernel_rfl) (by kernel_rfl) (by kernel_rfl) (by kernel_rfl)) ?_
  intro W base args ds gs before hval0 hW hcnd hsz0 _
  have hval : ∀ (j : Nat) t v, Try.f5.params[j]? = some t → args[j]? = some v → Value.okWide Try.prog W .any base t v := hval0
  have hW' := hW
  obtain ⟨p, q, hA0, hV, rfl, hfz, hnd⟩ := hW
  have hA : DataW.TrodAll enc Try.prog W 0 (fun _ => true) true Try.f5.params.toList args.toList ds p := hA0
  rw [Try.params5] at hA hval
  obtain ⟨rfl, rfl⟩ := trodVars_none hV
  have opens := OpensL.cons (opens_row (en := Q.cells) (W := QW) 2 2 Try.underlying55 (by kernel_rfl) (by kernel_rfl) (by kernel_rfl) (each_frac Try.underlying2)) (OpensL.nil (P := Try.prog))
  obtain ⟨x, hx, hw⟩ := opens (fun j t v h1 h2 => hval j t v (by simpa using h1) (by simpa using h2)) hA
  obtain ⟨l, hl⟩ := (show ∃ l : List Q, FracsAt x.1 l ⟨fun a => W.cell? a, fun _ => none⟩ from (by obtain ⟨⟨l, h, _⟩, _⟩ := hw; exact ⟨l, h⟩))
  have hlt : ∀ y ∈ p, y.block < W.heap.size := fun y hy => hW'.lt y (by simpa using hy)
  refine (Sp.calls (law_ok) hx (l := l) (args := args) rfl hl).mono fun e W' ⟨he, bel⟩ => ?_
  subst he
  obtain ⟨_, _, d0, ds0, _, _, _, rfl, _, _, r0⟩ := trodAll_cons hA
  obtain ⟨_, rfl, _⟩ := trodAll_nil r0
  exact ⟨_, rfl, _, _, _, [], _, [], hW', trodAll_mk1 (shut_bool Try.underlying4 _), args_stay fact_laid bel (by kernel_rfl) hA hlt, rfl, bel.frame _, fun h => by cases h⟩
theorem closed : joinedFacts Try.prog 5 Try.f5 Rows.fnExactMiddleOfSpec Rows.fnExactMiddleOfRow = true := by
  unfold joinedFacts
  rw [fact_laid, fact_maps, fact_heard, fact_may, fact_lift, fact_make]
  kernel_rfl
theorem over : Rows.fnExactMiddleOfRow.holds Try.pinned (OpenSpec.ofChange Rows.fnExactMiddleOfSpec) :=
  OpenClaim.holds_of_wide 5 Try.f5 rfl rfl rfl rfl rfl rfl rfl ⟨rfl, rfl, rfl, rfl, rfl⟩ rfl rfl rfl rfl rfl (by kernel_rfl) Try.func5 closed
    (of_decide_eq_true (by kernel_rfl)) (by unfold Func.isWrapper; first | (rw [if_pos (by decide +kernel)]; kernel_rfl) | (rw [if_neg (by decide +kernel)]; exact ⟨rfl, rfl⟩))
    (fun os started H enc _ => lifted os started H enc)
theorem proved : Rows.FnExactMiddleOfSaid := over
end fnExactMiddleOf
/-- The row, under a short name, for the claim. -/
theorem fnExactMiddleOf_holds : Rows.FnExactMiddleOfSaid := fnExactMiddleOf.proved


end Go.Proofs.Ytoolfecbiifplaa
