/- The statement FnExactTurnSpindleSaid: spec and impl answer alike for every screw and spindle. Conditions: none beyond the statement's own. -/
import Derived.Test.YtbgjokadfkblmabAb
import Derived.Test.YtbgjokadfkblmabC1
import Derived.Test.YtbgjokadfkblmabC2
import Derived.Test.YtbgjokadfkblmabC3
import Derived.Test.YtbgjokadfkblmabC4
import Derived.Test.YtbgjokadfkblmabC5
import Derived.Test.YtbgjokadfkblmabC6
import Derived.Test.YtbgjokadfkblmabC7
import Derived.Test.YtbgjokadfkblmabC8
import Derived.Test.YtbgjokadfkblmabC9
import Derived.Test.YtbgjokadfkblmabCO
import Derived.Test.YtbgjokadfkblmabC10
import Derived.Test.YtbgjokadfkblmabC11
import Derived.Test.YtbgjokadfkblmabCL
import Derived.Test.YtbgjokadfkblmabF
import Derived.Test.YtbgjokadfkblmabProg
import Derived.Test.YtbgjokadfkblmabChecked
import Derived.Test.YtbgjokadfkblmabRows
import Derived.WalkKit
import Derived.ProofKit
import Derived.OpenShut
import Derived.ChangeOld
import Derived.Below
import Derived.SizedLaws
set_option linter.unusedVariables false
set_option linter.unusedSimpArgs false
namespace Go.Proofs.Ytbgjokadfkblmab
open Ab

abbrev lawSp : Sp := .pf XI (fun _ => True) (fun _ => .bool true)
set_option maxRecDepth 100000 in
theorem law_ok : Sp.ok Try.prog 5 lawSp := by
  refine Sp.pf_ok (T := [(28, toScrewSp), (29, toSpinSp), (27, turnFSp), (30, turnFSp), (31, eqSpinSp)]) follows eqok0 ⟨enters Try.func28 rfl rfl, toScrew_ok, enters Try.func29 rfl rfl, toSpin_ok, enters Try.func27 rfl rfl, sturnF_ok, enters Try.func30 rfl rfl, turnF_ok, enters Try.func31 rfl rfl, eqSpin_ok, trivial⟩ [(1, .take 0 (.take 2 (.take 4 (.alt 1 (.alt 3 (.alt 5 (.take 6 (.take 7 (.take 8 (.alt 9 (.alt 10 (.take 11 (.done)) (.last)) (.last))))) (.alt 9 (.alt 5 (.take 6 (.take 7 (.take 8 (.alt 10 (.take 11 (.done)) (.last))))) (.last)) (.last))) (.alt 9 (.alt 3 (.alt 5 (.take 6 (.take 7 (.take 8 (.alt 10 (.take 11 (.done)) (.last))))) (.last)) (.last)) (.last))) (.alt 9 (.alt 1 (.alt 3 (.alt 5 (.take 6 (.take 7 (.take 8 (.alt 10 (.take 11 (.done)) (.last))))) (.last)) (.last)) (.last)) (.last)))))), (2, .take 0 (.take 2 (.take 4 (.alt 1 (.alt 3 (.alt 5 (.take 6 (.take 7 (.take 8 (.alt 9 (.alt 10 (.take 11 (.done)) (.last)) (.last))))) (.alt 9 (.alt 5 (.take 6 (.take 7 (.take 8 (.alt 10 (.take 11 (.done)) (.last))))) (.last)) (.last))) (.alt 9 (.alt 3 (.alt 5 (.take 6 (.take 7 (.take 8 (.alt 10 (.take 11 (.done)) (.last))))) (.last)) (.last)) (.last))) (.alt 9 (.alt 1 (.alt 3 (.alt 5 (.take 6 (.take 7 (.take 8 (.alt 10 (.take 11 (.done)) (.last))))) (.last)) (.last)) (.last)) (.last))))))] Try.func5 rfl (by kernel_rfl) _ _ _ fun x E hp => ?_
  obtain ⟨⟨⟨a, b⟩, n, ⟨c, d⟩⟩, ⟨t, ⟨p, q⟩⟩, y, u⟩ := x
  (repeat' ((conv => whnf); (first | with_reducible apply And.intro | (with_reducible intro hh; first | (with_reducible have hx := NewRow.self hh; clear hx) | (with_reducible have hx := Ext.self hh; clear hx) | (with_reducible have hx := SlV.self hh; clear hx) | (with_reducible have hx := Value.self hh; clear hx) | with_reducible cases hh | skip) | (with_reducible apply AllEq.mk; intro yy hq) | with_reducible apply trivial | with_reducible apply Exists.intro () | (with_reducible apply ex_side; (first | with_reducible assumption | with_reducible apply fracs1 | with_reducible apply fracs2 | with_reducible apply fracs3 | with_reducible apply spans1 | with_reducible apply spans2 | (with_reducible apply NewRow.keep; with_reducible assumption) | (with_reducible apply RowAt.keep; with_reducible assumption) | assumption)))); (all_goals (conv => whnf)))
  (all_goals (try dsimp only [Q.eta, Sn.eta, SlV.eta] at *)); (all_goals (first | exact Side.mk trivial | with_reducible exact Side.mk rfl | refine Side.mk ?_ | refine Don.mk ?_ | skip))
  all_goals simp_all
namespace fnExactTurnSpindle
open Go.ChangeShapes Go.WideShapes Go.ChangeAt Go.RowKit
set_option maxRecDepth 100000 in
theorem lifted (os : Os) (started : os.Started) (H : Type) (enc : TypeId × Value → H) :
    ReturnsInHanded {} Try.checked os 5 .any (Rows.fnExactTurnSpindleSpec.pre6 enc Try.prog Try.f5 Rows.fnExactTurnSpindleRow.domain false) (Rows.fnExactTurnSpindleSpec.post enc Try.prog Try.f5 false true false false) := by
  refine returnsInHanded_of_change_sized (C := Try.checked) fact_own started (by kernel_rfl) Try.func5
    (ChangeSpec.witness6 (enc := enc) (C := Try.checked) false ⟨#[], #[.agg #[.int .i64 0, .int .i64 0, .int .i64 0, .int .i64 0, .int .i64 0], .agg #[.int .i64 0, .int .i64 0, .int .i64 0], .int .i64 0], []⟩ 8 (by kernel_rfl) (by kernel_rfl) (by kernel_rfl) (by kernel_rfl)) ?_
  intro W base args ds gs before hval0 hW hcnd hsz0 _
  have hval : ∀ (j : Nat) t v, Try.f5.params[j]? = some t → args[j]? = some v → Value.okWide Try.prog W .any base t v := hval0
  have hW' := hW
  obtain ⟨p, q, hA0, hV, rfl, hfz, hnd⟩ := hW
  have hA : DataW.TrodAll enc Try.prog W 0 (fun _ => true) true Try.f5.params.toList args.toList ds p := hA0
  rw [Try.params5] at hA hval
  obtain ⟨rfl, rfl⟩ := trodVars_none hV
  have opens := OpensL.cons (opens_scr Try.underlying45 (by kernel_rfl) (by kernel_rfl) Try.underlying2) (OpensL.cons (opens_spn Try.underlying47 (by kernel_rfl) (by kernel_rfl) Try.underlying2) (OpensL.cons (Opens.int Try.underlying2) (OpensL.nil (P := Try.prog))))
  obtain ⟨x, hx, hw⟩ := opens (fun j t v h1 h2 => hval j t v (by simpa using h1) (by simpa using h2)) hA
  obtain ⟨l, hl⟩ := (show ∃ l : Unit, True from ⟨(), trivial⟩)
  have hlt : ∀ y ∈ p, y.block < W.heap.size := fun y hy => hW'.lt y (by simpa using hy)
  refine (Sp.calls (Sp.rf_of_pf law_ok) hx (l := l) (args := args) rfl hl).mono fun e W' ⟨he, bel⟩ => ?_
  subst he
  obtain ⟨_, _, d0, ds0, _, _, _, rfl, _, _, r0⟩ := trodAll_cons hA
  obtain ⟨_, _, d1, ds1, _, _, _, rfl, _, _, r1⟩ := trodAll_cons r0
  obtain ⟨_, _, d2, ds2, _, _, _, rfl, _, _, r2⟩ := trodAll_cons r1
  obtain ⟨_, rfl, _⟩ := trodAll_nil r2
  exact ⟨_, rfl, _, _, _, [], _, [], hW', trodAll_mk1 (shut_bool Try.underlying4 _), args_stay fact_laid bel (by kernel_rfl) hA hlt, rfl, bel.frame _, fun h => by cases h⟩
theorem closed : joinedFacts Try.prog 5 Try.f5 Rows.fnExactTurnSpindleSpec Rows.fnExactTurnSpindleRow = true := by
  unfold joinedFacts
  rw [fact_laid, fact_maps, fact_heard, fact_may, fact_lift, fact_make]
  kernel_rfl
theorem over : Rows.fnExactTurnSpindleRow.holds Try.pinned (OpenSpec.ofChange Rows.fnExactTurnSpindleSpec) :=
  OpenClaim.holds_of_wide 5 Try.f5 rfl rfl rfl rfl rfl rfl rfl ⟨rfl, rfl, rfl, rfl, rfl⟩ rfl rfl rfl rfl rfl (by kernel_rfl) Try.func5 closed
    (of_decide_eq_true (by kernel_rfl)) (by unfold Func.isWrapper; first | (rw [if_pos (by decide +kernel)]; kernel_rfl) | (rw [if_neg (by decide +kernel)]; exact ⟨rfl, rfl⟩))
    (fun os started H enc _ => lifted os started H enc)
theorem proved : Rows.FnExactTurnSpindleSaid := over
end fnExactTurnSpindle
/-- The row, under a short name, for the claim. -/
theorem fnExactTurnSpindle_holds : Rows.FnExactTurnSpindleSaid := fnExactTurnSpindle.proved


end Go.Proofs.Ytbgjokadfkblmab
