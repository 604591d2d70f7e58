/- The statement FnExactReadSpindleSaid: spec and impl answer alike for every screw and spindle. Conditions: none beyond the statement's own. -/
import Derived.Test.YtbgjokadfkblmaaAb
import Derived.Test.YtbgjokadfkblmaaC1
import Derived.Test.YtbgjokadfkblmaaC2
import Derived.Test.YtbgjokadfkblmaaC3
import Derived.Test.YtbgjokadfkblmaaC4
import Derived.Test.YtbgjokadfkblmaaC5
import Derived.Test.YtbgjokadfkblmaaC6
import Derived.Test.YtbgjokadfkblmaaC7
import Derived.Test.YtbgjokadfkblmaaC8
import Derived.Test.YtbgjokadfkblmaaC9
import Derived.Test.YtbgjokadfkblmaaCO
import Derived.Test.YtbgjokadfkblmaaC10
import Derived.Test.YtbgjokadfkblmaaC11
import Derived.Test.YtbgjokadfkblmaaCL
import Derived.Test.YtbgjokadfkblmaaF
import Derived.Test.YtbgjokadfkblmaaProg
import Derived.Test.YtbgjokadfkblmaaChecked
import Derived.Test.YtbgjokadfkblmaaRows
import Derived.WalkKit
import Derived.ProofKit
import Derived.OpenShut
import Derived.ChangeOld
import Derived.Below
import Derived.SizedLaws
set_option linter.unusedVariables false
set_option linter.unusedSimpArgs false
namespace Go.Proofs.Ytbgjokadfkblmaa
open Ab

abbrev lawSp : Sp := .pf XL (fun _ => True) (fun _ => .bool true)
set_option maxRecDepth 100000 in
theorem law_ok : Sp.ok Try.prog 17 lawSp := by
  refine Sp.pf_ok (T := [(55, toScrewSp), (75, toSpinSp), (80, readSp), (24, readSp), (66, eqFracSp)]) follows eqok0 ⟨enters Try.func55 rfl rfl, toScrew_ok, enters Try.func75 rfl rfl, toSpin_ok, enters Try.func80 rfl rfl, sread_ok, enters Try.func24 rfl rfl, read_ok, enters Try.func66 rfl rfl, eqFrac_ok, trivial⟩ [(1, .take 0 (.take 2 (.alt 1 (.alt 3 (.alt 4 (.take 5 (.take 6 (.take 7 (.alt 8 (.alt 9 (.take 10 (.done)) (.last)) (.last))))) (.alt 8 (.alt 4 (.take 5 (.take 6 (.take 7 (.alt 9 (.take 10 (.done)) (.last))))) (.last)) (.last))) (.alt 8 (.alt 3 (.alt 4 (.take 5 (.take 6 (.take 7 (.alt 9 (.take 10 (.done)) (.last))))) (.last)) (.last)) (.last))) (.alt 8 (.alt 1 (.alt 3 (.alt 4 (.take 5 (.take 6 (.take 7 (.alt 9 (.take 10 (.done)) (.last))))) (.last)) (.last)) (.last)) (.last))))), (2, .take 0 (.take 2 (.alt 1 (.alt 3 (.alt 4 (.take 5 (.take 6 (.take 7 (.alt 8 (.alt 9 (.take 10 (.done)) (.last)) (.last))))) (.alt 8 (.alt 4 (.take 5 (.take 6 (.take 7 (.alt 9 (.take 10 (.done)) (.last))))) (.last)) (.last))) (.alt 8 (.alt 3 (.alt 4 (.take 5 (.take 6 (.take 7 (.alt 9 (.take 10 (.done)) (.last))))) (.last)) (.last)) (.last))) (.alt 8 (.alt 1 (.alt 3 (.alt 4 (.take 5 (.take 6 (.take 7 (.alt 9 (.take 10 (.done)) (.last))))) (.last)) (.last)) (.last)) (.last)))))] Try.func17 rfl (by kernel_rfl) _ _ _ fun x E hp => ?_
  obtain ⟨⟨⟨a, b⟩, n, ⟨c, d⟩⟩, ⟨t, ⟨p, q⟩⟩, u⟩ := x
  (repeat' ((conv => whnf); (first | with_reducible apply And.intro | (with_reducible intro hh; first | (with_reducible have hx := NewRow.self hh; clear hx) | (with_reducible have hx := Ext.self hh; clear hx) | (with_reducible have hx := SlV.self hh; clear hx) | (with_reducible have hx := Value.self hh; clear hx) | with_reducible cases hh | skip) | (with_reducible apply AllEq.mk; intro yy hq) | with_reducible apply trivial | with_reducible apply Exists.intro () | (with_reducible apply ex_side; (first | with_reducible assumption | with_reducible apply fracs1 | with_reducible apply fracs2 | with_reducible apply fracs3 | with_reducible apply spans1 | with_reducible apply spans2 | (with_reducible apply NewRow.keep; with_reducible assumption) | (with_reducible apply RowAt.keep; with_reducible assumption) | assumption)))); (all_goals (conv => whnf)))
  (all_goals (try dsimp only [Q.eta, Sn.eta, SlV.eta] at *)); (all_goals (first | exact Side.mk trivial | with_reducible exact Side.mk rfl | refine Side.mk ?_ | refine Don.mk ?_ | skip))
  all_goals simp_all
namespace fnExactReadSpindle
open Go.ChangeShapes Go.WideShapes Go.ChangeAt Go.RowKit
set_option maxRecDepth 100000 in
theorem lifted (os : Os) (started : os.Started) (H : Type) (enc : TypeId × Value → H) :
    ReturnsInHanded {} Try.checked os 17 .any (Rows.fnExactReadSpindleSpec.pre6 enc Try.prog Try.f17 Rows.fnExactReadSpindleRow.domain false) (Rows.fnExactReadSpindleSpec.post enc Try.prog Try.f17 false true false false) := by
  refine returnsInHanded_of_change_sized (C := Try.checked) fact_own started (by kernel_rfl) Try.func17
    (ChangeSpec.witness6 (enc := enc) (C := Try.checked) false ⟨#[], #[.agg #[.int .i64 0, .int .i64 0, .int .i64 0, .int .i64 0, .int .i64 0], .agg #[.int .i64 0, .int .i64 0, .int .i64 0]], []⟩ 8 (by kernel_rfl) (by kernel_rfl) (by kernel_rfl) (by kernel_rfl)) ?_
  intro W base args ds gs before hval0 hW hcnd hsz0 _
  have hval : ∀ (j : Nat) t v, Try.f17.params[j]? = some t → args[j]? = some v → Value.okWide Try.prog W .any base t v := hval0
  have hW' := hW
  obtain ⟨p, q, hA0, hV, rfl, hfz, hnd⟩ := hW
  have hA : DataW.TrodAll enc Try.prog W 0 (fun _ => true) true Try.f17.params.toList args.toList ds p := hA0
  rw [Try.params17] at hA hval
  obtain ⟨rfl, rfl⟩ := trodVars_none hV
  have opens := OpensL.cons (opens_scr Try.underlying74 (by kernel_rfl) (by kernel_rfl) Try.underlying2) (OpensL.cons (opens_spn Try.underlying103 (by kernel_rfl) (by kernel_rfl) Try.underlying2) (OpensL.nil (P := Try.prog)))
  obtain ⟨x, hx, hw⟩ := opens (fun j t v h1 h2 => hval j t v (by simpa using h1) (by simpa using h2)) hA
  obtain ⟨l, hl⟩ := (show ∃ l : Unit, True from ⟨(), trivial⟩)
  have hlt : ∀ y ∈ p, y.block < W.heap.size := fun y hy => hW'.lt y (by simpa using hy)
  refine (Sp.calls (Sp.rf_of_pf law_ok) hx (l := l) (args := args) rfl hl).mono fun e W' ⟨he, bel⟩ => ?_
  subst he
  obtain ⟨_, _, d0, ds0, _, _, _, rfl, _, _, r0⟩ := trodAll_cons hA
  obtain ⟨_, _, d1, ds1, _, _, _, rfl, _, _, r1⟩ := trodAll_cons r0
  obtain ⟨_, rfl, _⟩ := trodAll_nil r1
  exact ⟨_, rfl, _, _, _, [], _, [], hW', trodAll_mk1 (shut_bool Try.underlying4 _), args_stay fact_laid bel (by kernel_rfl) hA hlt, rfl, bel.frame _, fun h => by cases h⟩
theorem closed : joinedFacts Try.prog 17 Try.f17 Rows.fnExactReadSpindleSpec Rows.fnExactReadSpindleRow = true := by
  unfold joinedFacts
  rw [fact_laid, fact_maps, fact_heard, fact_may, fact_lift, fact_make]
  kernel_rfl
theorem over : Rows.fnExactReadSpindleRow.holds Try.pinned (OpenSpec.ofChange Rows.fnExactReadSpindleSpec) :=
  OpenClaim.holds_of_wide 17 Try.f17 rfl rfl rfl rfl rfl rfl rfl ⟨rfl, rfl, rfl, rfl, rfl⟩ rfl rfl rfl rfl rfl (by kernel_rfl) Try.func17 closed
    (of_decide_eq_true (by kernel_rfl)) (by unfold Func.isWrapper; first | (rw [if_pos (by decide +kernel)]; kernel_rfl) | (rw [if_neg (by decide +kernel)]; exact ⟨rfl, rfl⟩))
    (fun os started H enc _ => lifted os started H enc)
theorem proved : Rows.FnExactReadSpindleSaid := over
end fnExactReadSpindle
/-- The row, under a short name, for the claim. -/
theorem fnExactReadSpindle_holds : Rows.FnExactReadSpindleSaid := fnExactReadSpindle.proved


end Go.Proofs.Ytbgjokadfkblmaa
