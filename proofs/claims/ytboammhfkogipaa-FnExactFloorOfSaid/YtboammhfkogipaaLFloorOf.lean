/- The statement FnExactFloorOfSaid: spec and impl round every fraction down alike. Conditions: none beyond the statement's own. -/
import Derived.Test.YtboammhfkogipaaAb
import Derived.Test.YtboammhfkogipaaC1
import Derived.Test.YtboammhfkogipaaC2
import Derived.Test.YtboammhfkogipaaC3
import Derived.Test.YtboammhfkogipaaCL
import Derived.Test.YtboammhfkogipaaProg
import Derived.Test.YtboammhfkogipaaChecked
import Derived.Test.YtboammhfkogipaaRows
import Derived.WalkKit
import Derived.ProofKit
import Derived.OpenShut
import Derived.ChangeOld
import Derived.Below
import Derived.SizedLaws
set_option linter.unusedVariables false
set_option linter.unusedSimpArgs false
namespace Go.Proofs.Ytboammhfkogipaa
open Ab

abbrev floorSp : Sp := .pf F1 (fun _ => True) (fun x => .tuple #[.int .i64 (if okQ x.1 then x.1.p / x.1.q else 0), .int .i64 (if okQ x.1 then 0 else 1)])
theorem okQ_down {a : Q} (h : okQ a = true) : 0 < a.q ∧ B4 a.p := by
  obtain ⟨h1, h2, h3, h4, _⟩ := okQ_iff.1 h
  unfold B4
  omega
set_option maxRecDepth 100000 in
theorem impFloor_ok : Sp.ok Try.prog 48 floorSp := by
  refine Sp.pf_ok (T := [(24, validSp), (97, downSp)]) follows eqok0 ⟨enters Try.func24 rfl rfl, valid_ok, enters Try.func97 rfl rfl, floorDiv_ok, trivial⟩ [] Try.func48 rfl (by kernel_rfl) _ _ _ fun x E hp => ?_
  obtain ⟨⟨p, q⟩, u⟩ := x
  repeat' ((conv => whnf); (first | with_reducible apply And.intro | (with_reducible intro hh; first | with_reducible cases hh | (with_reducible have hx := Ext.self_of hh; clear hx hh) | skip) | with_reducible apply trivial | with_reducible apply Exists.intro () | (with_reducible apply ex_side; (with_reducible assumption))))
  all_goals (conv => whnf)
  all_goals (try dsimp only at *)
  all_goals (first | exact Side.mk trivial | with_reducible exact Side.mk rfl | refine Side.mk ?_ | refine Don.mk ?_ | skip)
  · simp_all
  · exact okQ_down (a := ⟨p, q⟩) (by simpa using hh)
  · simp_all
set_option maxRecDepth 100000 in
theorem spFloor_ok : Sp.ok Try.prog 47 floorSp := by
  refine Sp.pf_ok (T := [(66, validSp), (96, downSp)]) follows eqok0 ⟨enters Try.func66 rfl rfl, spok_ok, enters Try.func96 rfl rfl, down_ok, trivial⟩ [] Try.func47 rfl (by kernel_rfl) _ _ _ fun x E hp => ?_
  obtain ⟨⟨p, q⟩, u⟩ := x
  repeat' ((conv => whnf); (first | with_reducible apply And.intro | (with_reducible intro hh; first | with_reducible cases hh | (with_reducible have hx := Ext.self_of hh; clear hx hh) | skip) | with_reducible apply trivial | with_reducible apply Exists.intro () | (with_reducible apply ex_side; (with_reducible assumption))))
  all_goals (conv => whnf)
  all_goals (try dsimp only at *)
  all_goals (first | exact Side.mk trivial | with_reducible exact Side.mk rfl | refine Side.mk ?_ | refine Don.mk ?_ | skip)
  · simp_all
  · exact okQ_down (a := ⟨p, q⟩) (by simpa using hh)
  · simp_all
abbrev lawSp : Sp := .pf F1 (fun _ => True) (fun _ => .bool true)
set_option maxRecDepth 100000 in
theorem law_ok : Sp.ok Try.prog 11 lawSp := by
  refine Sp.pf_ok (T := [(23, toFracSp), (47, floorSp), (48, floorSp)]) follows eqok0 ⟨enters Try.func23 rfl rfl, toFrac_ok, enters Try.func47 rfl rfl, spFloor_ok, enters Try.func48 rfl rfl, impFloor_ok, trivial⟩ [] Try.func11 rfl (by kernel_rfl) _ _ _ fun x E hp => ?_
  obtain ⟨⟨p, q⟩, u⟩ := x
  repeat' ((conv => whnf); (first | with_reducible apply And.intro | (with_reducible intro hh; first | with_reducible cases hh | (with_reducible have hx := Ext.self_of hh; clear hx hh) | skip) | with_reducible apply trivial | with_reducible apply Exists.intro () | (with_reducible apply ex_side; (with_reducible assumption))))
  all_goals (conv => whnf)
  all_goals (try dsimp only at *)
  all_goals (first | exact Side.mk trivial | with_reducible exact Side.mk rfl | refine Side.mk ?_ | refine Don.mk ?_ | skip)
  all_goals simp_all
namespace fnExactFloorOf
open Go.ChangeShapes Go.WideShapes Go.ChangeAt Go.RowKit
theorem own : ownKnob Try.prog.godebug = none := by kernel_rfl
theorem laid : laidOutB Try.prog = true := by kernel_rfl
set_option maxRecDepth 100000 in
theorem lifted (os : Os) (started : os.Started) (H : Type) (enc : TypeId × Value → H) :
    ReturnsInHanded {} Try.checked os 11 .any (Rows.fnExactFloorOfSpec.pre6 enc Try.prog Try.f11 Rows.fnExactFloorOfRow.domain false) (Rows.fnExactFloorOfSpec.post enc Try.prog Try.f11 false true false false) := by
  refine returnsInHanded_of_change_sized (C := Try.checked) own started (by kernel_rfl) Try.func11
    (ChangeSpec.witness6 (enc := enc) (C := Try.checked) false ⟨#[], #[.agg #[.int .i64 0, .int .i64 0]], []⟩ 8 (by kernel_rfl) (by kernel_rfl) (by kernel_rfl) (by kernel_rfl)) ?_
  intro W base args ds gs before hval0 hW hcnd hsz0 _
  have hval : ∀ (j : Nat) t v, Try.f11.params[j]? = some t → args[j]? = some v → Value.okWide Try.prog W .any base t v := hval0
  have hW' := hW
  obtain ⟨p, q, hA0, hV, rfl, hfz, hnd⟩ := hW
  have hA : DataW.TrodAll enc Try.prog W 0 (fun _ => true) true Try.f11.params.toList args.toList ds p := hA0
  rw [Try.params11] at hA hval
  obtain ⟨rfl, rfl⟩ := trodVars_none hV
  have opens := OpensL.cons (Opens.frac Try.underlying34 (by kernel_rfl) (by kernel_rfl) Try.underlying2) (OpensL.nil (P := Try.prog))
  obtain ⟨x, hx, hw⟩ := opens (fun j t v h1 h2 => hval j t v (by simpa using h1) (by simpa using h2)) hA
  obtain ⟨l, hl⟩ := (fun x W hw => (⟨(), trivial⟩ : ∃ l : Unit, True)) x W hw
  have hlt : ∀ y ∈ p, y.block < W.heap.size := fun y hy => hW'.lt y (by simpa using hy)
  refine (Sp.calls (Sp.rf_of_pf law_ok) hx (l := l) (args := args) rfl hl).mono fun e W' ⟨he, bel⟩ => ?_
  subst he
  obtain ⟨_, _, d0, ds0, _, _, _, rfl, _, _, r0⟩ := trodAll_cons hA
  obtain ⟨_, rfl, _⟩ := trodAll_nil r0
  exact ⟨_, rfl, _, _, _, [], _, [], hW', trodAll_mk1 (shut_bool Try.underlying4 _), args_stay laid bel (by kernel_rfl) hA hlt, rfl, bel.frame _, fun h => by cases h⟩
theorem over : Rows.fnExactFloorOfRow.holds Try.pinned (OpenSpec.ofChange Rows.fnExactFloorOfSpec) :=
  OpenClaim.holds_of_wide 11 Try.f11 rfl rfl rfl rfl rfl rfl rfl ⟨rfl, rfl, rfl, rfl, rfl⟩ rfl rfl rfl rfl rfl (by kernel_rfl) Try.func11 (by kernel_rfl)
    (of_decide_eq_true (by kernel_rfl)) (by unfold Func.isWrapper; first | (rw [if_pos (by decide +kernel)]; kernel_rfl) | (rw [if_neg (by decide +kernel)]; exact ⟨rfl, rfl⟩))
    (fun os started H enc _ => lifted os started H enc)
theorem proved : Rows.FnExactFloorOfSaid := over
end fnExactFloorOf
/-- The row, under a short name, for the claim. -/
theorem fnExactFloorOf_holds : Rows.FnExactFloorOfSaid := fnExactFloorOf.proved


end Go.Proofs.Ytboammhfkogipaa
