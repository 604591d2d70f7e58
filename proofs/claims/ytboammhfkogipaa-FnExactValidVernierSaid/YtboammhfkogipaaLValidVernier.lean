/- The statement FnExactValidVernierSaid: spec and impl tell alike which verniers are valid. Conditions: none beyond the statement's own. -/
import Derived.Test.YtboammhfkogipaaAb
import Derived.Test.YtboammhfkogipaaC1
import Derived.Test.YtboammhfkogipaaProg
import Derived.Test.YtboammhfkogipaaChecked
import Derived.Test.YtboammhfkogipaaRows
import Derived.WalkKit
import Derived.ProofKit
import Derived.OpenShut
import Derived.ChangeOld
import Derived.Below
import Derived.SizedLaws
set_option linter.unusedVariables false
set_option linter.unusedSimpArgs false
namespace Go.Proofs.Ytboammhfkogipaa
open Ab

abbrev V1 : ArgL ((Int × Bool × Unit) × Unit) := .cons (.agg VL) .nil
def okV (v : Int × Bool × Unit) : Bool := withinB v.1 2 40
abbrev vernSp : Sp := .pf V1 (fun _ => True) (fun x => .bool (okV x.1))
set_option maxRecDepth 100000 in
theorem impVern_ok : Sp.ok Try.prog 17 vernSp := by
  refine Sp.pf_ok (T := [(62, withinSp)]) follows eqok0 ⟨enters Try.func62 rfl rfl, within_ok, trivial⟩ [] Try.func17 rfl (by kernel_rfl) _ _ _ fun x E hp => ?_
  obtain ⟨⟨p, b, u'⟩, u⟩ := x
  repeat' ((conv => whnf); (first | with_reducible apply And.intro | (with_reducible intro hh; first | with_reducible cases hh | (with_reducible have hx := Ext.self_of hh; clear hx hh) | skip) | with_reducible apply trivial | with_reducible apply Exists.intro () | (with_reducible apply ex_side; (with_reducible assumption))))
  all_goals (conv => whnf)
  all_goals (try dsimp only at *)
  all_goals (first | exact Side.mk trivial | with_reducible exact Side.mk rfl | refine Side.mk ?_ | refine Don.mk ?_ | skip)
  all_goals rfl
abbrev vernPSp : Sp := .hf VL 26 .nil (fun _ _ (_ : Unit) _ => True) (fun s _ _ => .bool (okV s))
set_option maxRecDepth 100000 in
theorem spVernP_ok : Sp.ok Try.prog 61 vernPSp := by
  refine Sp.hf_ok (T := [(63, withinSp)]) follows eqok0 ⟨enters Try.func63 rfl rfl, in_ok, trivial⟩ [] Try.func61 rfl (by kernel_rfl) _ _ _ _ _ fun s x l E hp => ?_
  obtain ⟨p, b, u'⟩ := s
  repeat' ((conv => whnf); (first | with_reducible apply And.intro | (with_reducible intro hh; first | with_reducible cases hh | (with_reducible have hx := Ext.self_of hh; clear hx hh) | skip) | with_reducible apply trivial | with_reducible apply Exists.intro () | (with_reducible apply ex_side; (with_reducible assumption))))
  all_goals (conv => whnf)
  all_goals (try dsimp only at *)
  all_goals (first | exact Side.mk trivial | with_reducible exact Side.mk rfl | refine Side.mk ?_ | refine Don.mk ?_ | skip)
  all_goals exact ⟨rfl, rfl⟩
set_option maxRecDepth 100000 in
theorem spVern_ok : Sp.ok Try.prog 15 vernSp := by
  refine Sp.pf_ok (T := [(61, vernPSp)]) follows eqok0 ⟨enters Try.func61 rfl rfl, spVernP_ok, trivial⟩ [] Try.func15 rfl (by kernel_rfl) _ _ _ fun x E hp => ?_
  obtain ⟨⟨p, b, u'⟩, u⟩ := x
  repeat' ((conv => whnf); (first | with_reducible apply And.intro | (with_reducible intro hh; first | with_reducible cases hh | (with_reducible have hx := Ext.self_of hh; clear hx hh) | skip) | with_reducible apply trivial | with_reducible apply Exists.intro () | (with_reducible apply ex_side; (with_reducible assumption))))
  all_goals (conv => whnf)
  all_goals (try dsimp only at *)
  all_goals (first | exact Side.mk trivial | with_reducible exact Side.mk rfl | refine Side.mk ?_ | refine Don.mk ?_ | skip)
  all_goals rfl
abbrev toVernSp : Sp := .pf V1 (fun _ => True) (fun x => (Arg.agg VL).enc x.1)
set_option maxRecDepth 100000 in
theorem toVern_ok : Sp.ok Try.prog 16 toVernSp := by
  refine Sp.pf_ok (T := []) follows eqok0 trivial [] Try.func16 rfl (by kernel_rfl) _ _ _ fun x E hp => ?_
  obtain ⟨⟨p, b, u'⟩, u⟩ := x
  repeat' ((conv => whnf); (first | with_reducible apply And.intro | (with_reducible intro hh; first | with_reducible cases hh | (with_reducible have hx := Ext.self_of hh; clear hx hh) | skip) | with_reducible apply trivial | with_reducible apply Exists.intro () | (with_reducible apply ex_side; (with_reducible assumption))))
  all_goals (conv => whnf)
  all_goals (try dsimp only at *)
  all_goals (first | exact Side.mk trivial | with_reducible exact Side.mk rfl | refine Side.mk ?_ | refine Don.mk ?_ | skip)
  all_goals rfl
abbrev lawSp : Sp := .pf V1 (fun _ => True) (fun _ => .bool true)
set_option maxRecDepth 100000 in
theorem law_ok : Sp.ok Try.prog 4 lawSp := by
  refine Sp.pf_ok (T := [(16, toVernSp), (15, vernSp), (17, vernSp)]) follows eqok0 ⟨enters Try.func16 rfl rfl, toVern_ok, enters Try.func15 rfl rfl, spVern_ok, enters Try.func17 rfl rfl, impVern_ok, trivial⟩ [] Try.func4 rfl (by kernel_rfl) _ _ _ fun x E hp => ?_
  obtain ⟨⟨p, b, u'⟩, u⟩ := x
  repeat' ((conv => whnf); (first | with_reducible apply And.intro | (with_reducible intro hh; first | with_reducible cases hh | (with_reducible have hx := Ext.self_of hh; clear hx hh) | skip) | with_reducible apply trivial | with_reducible apply Exists.intro () | (with_reducible apply ex_side; (with_reducible assumption))))
  all_goals (conv => whnf)
  all_goals (try dsimp only at *)
  all_goals (first | exact Side.mk trivial | with_reducible exact Side.mk rfl | refine Side.mk ?_ | refine Don.mk ?_ | skip)
  all_goals simp_all
namespace fnExactValidVernier
open Go.ChangeShapes Go.WideShapes Go.ChangeAt Go.RowKit
theorem own : ownKnob Try.prog.godebug = none := by kernel_rfl
theorem laid : laidOutB Try.prog = true := by kernel_rfl
set_option maxRecDepth 100000 in
theorem lifted (os : Os) (started : os.Started) (H : Type) (enc : TypeId × Value → H) :
    ReturnsInHanded {} Try.checked os 4 .any (Rows.fnExactValidVernierSpec.pre6 enc Try.prog Try.f4 Rows.fnExactValidVernierRow.domain false) (Rows.fnExactValidVernierSpec.post enc Try.prog Try.f4 false true false false) := by
  refine returnsInHanded_of_change_sized (C := Try.checked) own started (by kernel_rfl) Try.func4
    (ChangeSpec.witness6 (enc := enc) (C := Try.checked) false ⟨#[], #[.agg #[.int .i64 0, .bool false]], []⟩ 8 (by kernel_rfl) (by kernel_rfl) (by kernel_rfl) (by kernel_rfl)) ?_
  intro W base args ds gs before hval0 hW hcnd hsz0 _
  have hval : ∀ (j : Nat) t v, Try.f4.params[j]? = some t → args[j]? = some v → Value.okWide Try.prog W .any base t v := hval0
  have hW' := hW
  obtain ⟨p, q, hA0, hV, rfl, hfz, hnd⟩ := hW
  have hA : DataW.TrodAll enc Try.prog W 0 (fun _ => true) true Try.f4.params.toList args.toList ds p := hA0
  rw [Try.params4] at hA hval
  obtain ⟨rfl, rfl⟩ := trodVars_none hV
  have opens := OpensL.cons (Opens.vern Try.underlying24 (by kernel_rfl) (by kernel_rfl) Try.underlying2 Try.underlying4) (OpensL.nil (P := Try.prog))
  obtain ⟨x, hx, hw⟩ := opens (fun j t v h1 h2 => hval j t v (by simpa using h1) (by simpa using h2)) hA
  obtain ⟨l, hl⟩ := (show ∃ l : Unit, True from ⟨(), trivial⟩)
  have hlt : ∀ y ∈ p, y.block < W.heap.size := fun y hy => hW'.lt y (by simpa using hy)
  refine (Sp.calls (Sp.rf_of_pf law_ok) hx (l := l) (args := args) rfl hl).mono fun e W' ⟨he, bel⟩ => ?_
  subst he
  obtain ⟨_, _, d0, ds0, _, _, _, rfl, _, _, r0⟩ := trodAll_cons hA
  obtain ⟨_, rfl, _⟩ := trodAll_nil r0
  exact ⟨_, rfl, _, _, _, [], _, [], hW', trodAll_mk1 (shut_bool Try.underlying4 _), args_stay laid bel (by kernel_rfl) hA hlt, rfl, bel.frame _, fun h => by cases h⟩
theorem over : Rows.fnExactValidVernierRow.holds Try.pinned (OpenSpec.ofChange Rows.fnExactValidVernierSpec) :=
  OpenClaim.holds_of_wide 4 Try.f4 rfl rfl rfl rfl rfl rfl rfl ⟨rfl, rfl, rfl, rfl, rfl⟩ rfl rfl rfl rfl rfl (by kernel_rfl) Try.func4 (by kernel_rfl)
    (of_decide_eq_true (by kernel_rfl)) (by unfold Func.isWrapper; first | (rw [if_pos (by decide +kernel)]; kernel_rfl) | (rw [if_neg (by decide +kernel)]; exact ⟨rfl, rfl⟩))
    (fun os started H enc _ => lifted os started H enc)
theorem proved : Rows.FnExactValidVernierSaid := over
end fnExactValidVernier
/-- The row, under a short name, for the claim. -/
theorem fnExactValidVernier_holds : Rows.FnExactValidVernierSaid := fnExactValidVernier.proved


end Go.Proofs.Ytboammhfkogipaa
