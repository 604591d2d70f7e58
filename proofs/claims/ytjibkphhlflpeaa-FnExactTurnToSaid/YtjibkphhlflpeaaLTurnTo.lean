/- The statement FnExactTurnToSaid: spec and impl answer alike for every screw, spindle, fraction and number. Conditions: none beyond the statement's own. -/
import Derived.Test.YtjibkphhlflpeaaAb
import Derived.Test.YtjibkphhlflpeaaC1
import Derived.Test.YtjibkphhlflpeaaC2
import Derived.Test.YtjibkphhlflpeaaC3
import Derived.Test.YtjibkphhlflpeaaC4
import Derived.Test.YtjibkphhlflpeaaC5
import Derived.Test.YtjibkphhlflpeaaC6
import Derived.Test.YtjibkphhlflpeaaC7
import Derived.Test.YtjibkphhlflpeaaC8
import Derived.Test.YtjibkphhlflpeaaC9
import Derived.Test.YtjibkphhlflpeaaCO
import Derived.Test.YtjibkphhlflpeaaC10
import Derived.Test.YtjibkphhlflpeaaC11
import Derived.Test.YtjibkphhlflpeaaC12
import Derived.Test.YtjibkphhlflpeaaCN
import Derived.Test.YtjibkphhlflpeaaC35
import Derived.Test.YtjibkphhlflpeaaC36
import Derived.Test.YtjibkphhlflpeaaCL
import Derived.Test.YtjibkphhlflpeaaF
import Derived.Test.YtjibkphhlflpeaaProg
import Derived.Test.YtjibkphhlflpeaaChecked
import Derived.Test.YtjibkphhlflpeaaRows
import Derived.WalkKit
import Derived.ProofKit
import Derived.OpenShut
import Derived.ChangeOld
import Derived.Below
import Derived.SizedLaws
set_option linter.unusedVariables false
set_option linter.unusedSimpArgs false
namespace Go.Proofs.Ytjibkphhlflpeaa
open Ab

abbrev lawSp : Sp := .rf XQI (fun _ (_ : Unit) _ => True) (fun _ _ => .bool true)
set_option maxHeartbeats 2000000 in
set_option maxRecDepth 100000 in
theorem law_ok : Sp.ok Try.prog 4 lawSp := by
  refine Sp.rf_ok (T := ⟨[(6, toScrewSp), (7, toSpinSp), (10, toFracSp), (9, sToSp), (11, toSp), (12, eqSpinSp)], []⟩) follows eqok0 ⟨enters Try.func6 rfl rfl, toScrew_ok, enters Try.func7 rfl rfl, toSpin_ok, enters Try.func10 rfl rfl, toFrac_ok, enters Try.func9 rfl rfl, sto_ok, enters Try.func11 rfl rfl, to_ok, enters Try.func12 rfl rfl, eqSpin_ok, trivial⟩ [(1, .take 0 (.take 2 (.take 4 (.take 6 (.alt 1 (.alt 3 (.alt 5 (.alt 7 (.take 8 (.take 9 (.take 10 (.take 11 (.alt 12 (.alt 13 (.take 14 (.take 15 (.done))) (.last)) (.last)))))) (.alt 12 (.alt 7 (.take 8 (.take 9 (.take 10 (.take 11 (.alt 13 (.take 14 (.take 15 (.done))) (.last)))))) (.last)) (.last))) (.alt 12 (.alt 5 (.alt 7 (.take 8 (.take 9 (.take 10 (.take 11 (.alt 13 (.take 14 (.take 15 (.done))) (.last)))))) (.last)) (.last)) (.last))) (.alt 12 (.alt 3 (.alt 5 (.alt 7 (.take 8 (.take 9 (.take 10 (.take 11 (.alt 13 (.take 14 (.take 15 (.done))) (.last)))))) (.last)) (.last)) (.last)) (.last))) (.alt 12 (.alt 1 (.alt 3 (.alt 5 (.alt 7 (.take 8 (.take 9 (.take 10 (.take 11 (.alt 13 (.take 14 (.take 15 (.done))) (.last)))))) (.last)) (.last)) (.last)) (.last)) (.last))))))), (2, .take 0 (.take 2 (.take 4 (.take 6 (.alt 1 (.alt 3 (.alt 5 (.alt 7 (.take 8 (.take 9 (.take 10 (.take 11 (.alt 12 (.alt 13 (.take 14 (.take 15 (.done))) (.last)) (.last)))))) (.alt 12 (.alt 7 (.take 8 (.take 9 (.take 10 (.take 11 (.alt 13 (.take 14 (.take 15 (.done))) (.last)))))) (.last)) (.last))) (.alt 12 (.alt 5 (.alt 7 (.take 8 (.take 9 (.take 10 (.take 11 (.alt 13 (.take 14 (.take 15 (.done))) (.last)))))) (.last)) (.last)) (.last))) (.alt 12 (.alt 3 (.alt 5 (.alt 7 (.take 8 (.take 9 (.take 10 (.take 11 (.alt 13 (.take 14 (.take 15 (.done))) (.last)))))) (.last)) (.last)) (.last)) (.last))) (.alt 12 (.alt 1 (.alt 3 (.alt 5 (.alt 7 (.take 8 (.take 9 (.take 10 (.take 11 (.alt 13 (.take 14 (.take 15 (.done))) (.last)))))) (.last)) (.last)) (.last)) (.last)) (.last)))))))] Try.func4 rfl (by kernel_rfl) _ _ _ fun x l E hp => ?_
  obtain ⟨⟨⟨ma, mb⟩, mn, ⟨mc, md⟩⟩, ⟨x1, ⟨x2, x3⟩⟩, ⟨t1, t2⟩, n, u⟩ := x
  (repeat' ((conv => whnf); (first | with_reducible apply And.intro | (with_reducible intro hh; first | (with_reducible have hx := NewRow.self hh; clear hx) | (with_reducible have hrow := Made.row hh; have hle := Made.le hh; have hmade := hh; clear hh) | (with_reducible have hrow := Fresh.rowS hh; have hle := Fresh.leS hh; have hfr := hh; clear hh) | (with_reducible have hx := Ext.self hh; clear hx) | (with_reducible have hx := SlV.self hh; clear hx) | (with_reducible have hx := Value.self hh; clear hx) | with_reducible cases hh | skip) | (with_reducible apply AllEq.mk; intro yy hq) | with_reducible apply trivial | with_reducible apply Exists.intro () | (with_reducible apply ex_side; (first | with_reducible assumption | with_reducible apply fracs1 | with_reducible apply fracs2 | with_reducible apply fracs3 | with_reducible apply spans1 | with_reducible apply spans2 | (with_reducible apply NewRow.keep; with_reducible assumption) | (with_reducible apply RowAt.keep; with_reducible assumption) | assumption | (focus ((repeat (first | with_reducible assumption | (with_reducible apply RowAt.le; rotate_left; with_reducible assumption) | (with_reducible apply RowB.le; rotate_left; with_reducible assumption))); done)))) | (with_reducible apply ex_side (a := (_, _)); (focus (with_reducible apply And.intro <;> (focus ((repeat (first | with_reducible assumption | (with_reducible apply RowAt.le; rotate_left; with_reducible assumption) | (with_reducible apply RowB.le; rotate_left; with_reducible assumption))); done))))))); (all_goals (conv => whnf)))
  (all_goals (try dsimp only [Q.eta, Sn.eta, SlV.eta] at *)); (all_goals (first | exact Side.mk trivial | with_reducible exact Side.mk rfl | exact Side.mk (fun _ _ h => h) | exact Side.mk (Made.le (by assumption)) | refine Side.mk ?_ | refine Don.mk ?_ | skip))
  all_goals first | rfl | (exfalso; revert hh; simp; done) | trace_state
namespace fnExactTurnTo
open Go.ChangeShapes Go.WideShapes Go.ChangeAt Go.RowKit
set_option maxRecDepth 100000 in
theorem lifted (os : Os) (started : os.Started) (H : Type) (enc : TypeId × Value → H) :
    ReturnsInHanded {} Try.checked os 4 .any (Rows.fnExactTurnToSpec.pre6 enc Try.prog Try.f4 Rows.fnExactTurnToRow.domain false) (Rows.fnExactTurnToSpec.post enc Try.prog Try.f4 false true false false) := by
  refine returnsInHanded_of_change_sized (C := Try.checked) fact_own started (by kernel_rfl) Try.func4
    (ChangeSpec.witness6 (enc := enc) (C := Try.checked) false ⟨#[], #[.agg #[.int .i64 0, .int .i64 0, .int .i64 0, .int .i64 0, .int .i64 0], .agg #[.int .i64 0, .int .i64 0, .int .i64 0], .agg #[.int .i64 0, .int .i64 0], .int .i64 0], []⟩ 8 (by kernel_rfl) (by kernel_rfl) (by kernel_rfl) (by kernel_rfl)) ?_
  intro W base args ds gs before hval0 hW hcnd hsz0 _
  have hval : ∀ (j : Nat) t v, Try.f4.params[j]? = some t → args[j]? = some v → Value.okWide Try.prog W .any base t v := hval0
  have hW' := hW
  obtain ⟨p, q, hA0, hV, rfl, hfz, hnd⟩ := hW
  have hA : DataW.TrodAll enc Try.prog W 0 (fun _ => true) true Try.f4.params.toList args.toList ds p := hA0
  rw [Try.params4] at hA hval
  obtain ⟨rfl, rfl⟩ := trodVars_none hV
  have opens := OpensL.cons (opens_scr Try.underlying25 (by kernel_rfl) (by kernel_rfl) Try.underlying2) (OpensL.cons (opens_spn Try.underlying27 (by kernel_rfl) (by kernel_rfl) Try.underlying2) (OpensL.cons (Opens.frac Try.underlying23 (by kernel_rfl) (by kernel_rfl) Try.underlying2) (OpensL.cons (Opens.int Try.underlying2) (OpensL.nil (P := Try.prog)))))
  obtain ⟨x, hx, hw⟩ := opens (fun j t v h1 h2 => hval j t v (by simpa using h1) (by simpa using h2)) hA
  obtain ⟨l, hl⟩ := (show ∃ l : Unit, True from ⟨(), trivial⟩)
  have hlt : ∀ y ∈ p, y.block < W.heap.size := fun y hy => hW'.lt y (by simpa using hy)
  refine (Sp.calls (law_ok) hx (l := l) (args := args) rfl hl).mono fun e W' ⟨he, bel⟩ => ?_
  subst he
  obtain ⟨_, _, d0, ds0, _, _, _, rfl, _, _, r0⟩ := trodAll_cons hA
  obtain ⟨_, _, d1, ds1, _, _, _, rfl, _, _, r1⟩ := trodAll_cons r0
  obtain ⟨_, _, d2, ds2, _, _, _, rfl, _, _, r2⟩ := trodAll_cons r1
  obtain ⟨_, _, d3, ds3, _, _, _, rfl, _, _, r3⟩ := trodAll_cons r2
  obtain ⟨_, rfl, _⟩ := trodAll_nil r3
  exact ⟨_, rfl, _, _, _, [], _, [], hW', trodAll_mk1 (shut_bool Try.underlying4 _), args_stay fact_laid bel (by kernel_rfl) hA hlt, rfl, bel.frame _, fun h => by cases h⟩
theorem closed : joinedFacts Try.prog 4 Try.f4 Rows.fnExactTurnToSpec Rows.fnExactTurnToRow = true := by
  unfold joinedFacts
  rw [fact_laid, fact_maps, fact_heard, fact_may, fact_lift, fact_make]
  kernel_rfl
theorem over : Rows.fnExactTurnToRow.holds Try.pinned (OpenSpec.ofChange Rows.fnExactTurnToSpec) :=
  OpenClaim.holds_of_wide 4 Try.f4 rfl rfl rfl rfl rfl rfl rfl ⟨rfl, rfl, rfl, rfl, rfl⟩ rfl rfl rfl rfl rfl (by kernel_rfl) Try.func4 closed
    (of_decide_eq_true (by kernel_rfl)) (by unfold Func.isWrapper; first | (rw [if_pos (by decide +kernel)]; kernel_rfl) | (rw [if_neg (by decide +kernel)]; exact ⟨rfl, rfl⟩))
    (fun os started H enc _ => lifted os started H enc)
theorem proved : Rows.FnExactTurnToSaid := over
end fnExactTurnTo
/-- The row, under a short name, for the claim. -/
theorem fnExactTurnTo_holds : Rows.FnExactTurnToSaid := fnExactTurnTo.proved


end Go.Proofs.Ytjibkphhlflpeaa
