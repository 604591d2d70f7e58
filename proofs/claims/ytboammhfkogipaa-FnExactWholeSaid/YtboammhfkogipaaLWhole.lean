/- The statement FnExactWholeSaid: spec and impl make the same fraction of every number, or refuse alike. Conditions: none beyond the statement's own. -/
import Derived.Test.YtboammhfkogipaaAb
import Derived.Test.YtboammhfkogipaaC1
import Derived.Test.YtboammhfkogipaaC2
import Derived.Test.YtboammhfkogipaaC3
import Derived.Test.YtboammhfkogipaaCL
import Derived.Test.YtboammhfkogipaaProg
import Derived.Test.YtboammhfkogipaaChecked
import Derived.Test.YtboammhfkogipaaRows
import Derived.WalkKit
import Derived.ProofKit
import Derived.OpenShut
import Derived.ChangeOld
import Derived.Below
import Derived.SizedLaws
set_option linter.unusedVariables false
set_option linter.unusedSimpArgs false
namespace Go.Proofs.Ytboammhfkogipaa
open Ab

theorem okR_one (n : Int) : okR n 1 = withinB n (-1000000000) 1000000000 := by
  have h0 : Int.gcd n 1 = 1 := by simp
  have h1 : nrm n 1 = ⟨n, 1⟩ := by rw [nrm_pos (by omega), h0]; simp
  unfold okR okQ
  rw [h1]
  simp [withinB]
theorem nrm_one (n : Int) : nrm n 1 = ⟨n, 1⟩ := by
  have h0 : Int.gcd n 1 = 1 := by simp
  rw [nrm_pos (by omega), h0]; simp
abbrev wholeR (n : Int) : Value := .tuple #[(if withinB n (-1000000000) 1000000000 then (⟨n, 1⟩ : Q) else ⟨0, 0⟩).v, .int .i64 (if withinB n (-1000000000) 1000000000 then 0 else 3)]
abbrev wholeOfSp : Sp := .pf I1 (fun x => I64 x.1) (fun x => wholeR x.1)
set_option maxRecDepth 100000 in
theorem impWhole_ok : Sp.ok Try.prog 28 wholeOfSp := by
  refine Sp.pf_ok (T := [(74, toldSp), (73, oneSp)]) follows eqok0 ⟨enters Try.func74 rfl rfl, told_ok, enters Try.func73 rfl rfl, one_ok, trivial⟩ [] Try.func28 rfl (by kernel_rfl) _ _ _ fun x E hp => ?_
  obtain ⟨n, u⟩ := x
  have h1 := okR_one n
  have h2 := nrm_one n
  repeat' ((conv => whnf); (first | with_reducible apply And.intro | (with_reducible intro hh; first | with_reducible cases hh | (with_reducible have hx := Ext.self_of hh; clear hx hh) | skip) | with_reducible apply trivial | with_reducible apply Exists.intro () | (with_reducible apply ex_side; (with_reducible assumption))))
  all_goals (conv => whnf)
  all_goals (try dsimp only at *)
  all_goals (first | exact Side.mk trivial | with_reducible exact Side.mk rfl | refine Side.mk ?_ | refine Don.mk ?_ | skip)
  · exact ⟨by omega, hp, by unfold B4; omega, .inr (by omega)⟩
  · cases hc : withinB n (-1000000000) 1000000000 <;> simp [h1, h2, hc, tolQ, Q.v]
set_option maxRecDepth 100000 in
theorem spWhole_ok : Sp.ok Try.prog 27 wholeOfSp := by
  refine Sp.pf_ok (T := [(63, withinSp), (72, wholeSp)]) follows eqok0 ⟨enters Try.func63 rfl rfl, in_ok, enters Try.func72 rfl rfl, whole_ok, trivial⟩ [] Try.func27 rfl (by kernel_rfl) _ _ _ fun x E hp => ?_
  obtain ⟨n, u⟩ := x
  repeat' ((conv => whnf); (first | with_reducible apply And.intro | (with_reducible intro hh; first | with_reducible cases hh | (with_reducible have hx := Ext.self_of hh; clear hx hh) | skip) | with_reducible apply trivial | with_reducible apply Exists.intro () | (with_reducible apply ex_side; (with_reducible assumption))))
  all_goals (conv => whnf)
  all_goals (try dsimp only at *)
  all_goals (first | exact Side.mk trivial | with_reducible exact Side.mk rfl | refine Side.mk ?_ | refine Don.mk ?_ | skip)
  all_goals simp_all [Q.v]
abbrev lawSp : Sp := .pf I1 (fun x => I64 x.1) (fun _ => .bool true)
set_option maxRecDepth 100000 in
theorem law_ok : Sp.ok Try.prog 9 lawSp := by
  refine Sp.pf_ok (T := [(27, wholeOfSp), (28, wholeOfSp), (29, eqFracSp)]) follows eqok0 ⟨enters Try.func27 rfl rfl, spWhole_ok, enters Try.func28 rfl rfl, impWhole_ok, enters Try.func29 rfl rfl, eqFrac_ok, trivial⟩ [] Try.func9 rfl (by kernel_rfl) _ _ _ fun x E hp => ?_
  obtain ⟨n, u⟩ := x
  repeat' ((conv => whnf); (first | with_reducible apply And.intro | (with_reducible intro hh; first | with_reducible cases hh | (with_reducible have hx := Ext.self_of hh; clear hx hh) | skip) | with_reducible apply trivial | with_reducible apply Exists.intro () | (with_reducible apply ex_side; (with_reducible assumption))))
  all_goals (conv => whnf)
  all_goals (try dsimp only at *)
  all_goals (first | exact Side.mk trivial | with_reducible exact Side.mk rfl | refine Side.mk ?_ | refine Don.mk ?_ | skip)
  all_goals simp_all
namespace fnExactWhole
open Go.ChangeShapes Go.WideShapes Go.ChangeAt Go.RowKit
theorem own : ownKnob Try.prog.godebug = none := by kernel_rfl
theorem laid : laidOutB Try.prog = true := by kernel_rfl
set_option maxRecDepth 100000 in
theorem lifted (os : Os) (started : os.Started) (H : Type) (enc : TypeId × Value → H) :
    ReturnsInHanded {} Try.checked os 9 .any (Rows.fnExactWholeSpec.pre6 enc Try.prog Try.f9 Rows.fnExactWholeRow.domain false) (Rows.fnExactWholeSpec.post enc Try.prog Try.f9 false true false false) := by
  refine returnsInHanded_of_change_sized (C := Try.checked) own started (by kernel_rfl) Try.func9
    (ChangeSpec.witness6 (enc := enc) (C := Try.checked) false ⟨#[], #[.int .i64 0], []⟩ 8 (by kernel_rfl) (by kernel_rfl) (by kernel_rfl) (by kernel_rfl)) ?_
  intro W base args ds gs before hval0 hW hcnd hsz0 _
  have hval : ∀ (j : Nat) t v, Try.f9.params[j]? = some t → args[j]? = some v → Value.okWide Try.prog W .any base t v := hval0
  have hW' := hW
  obtain ⟨p, q, hA0, hV, rfl, hfz, hnd⟩ := hW
  have hA : DataW.TrodAll enc Try.prog W 0 (fun _ => true) true Try.f9.params.toList args.toList ds p := hA0
  rw [Try.params9] at hA hval
  obtain ⟨rfl, rfl⟩ := trodVars_none hV
  have opens := OpensL.cons (Opens.int Try.underlying2) (OpensL.nil (P := Try.prog))
  obtain ⟨x, hx, hw⟩ := opens (fun j t v h1 h2 => hval j t v (by simpa using h1) (by simpa using h2)) hA
  obtain ⟨l, hl⟩ := (show ∃ l : Unit, I64 x.1 from ⟨(), hw.1⟩)
  have hlt : ∀ y ∈ p, y.block < W.heap.size := fun y hy => hW'.lt y (by simpa using hy)
  refine (Sp.calls (Sp.rf_of_pf law_ok) hx (l := l) (args := args) rfl hl).mono fun e W' ⟨he, bel⟩ => ?_
  subst he
  obtain ⟨_, _, d0, ds0, _, _, _, rfl, _, _, r0⟩ := trodAll_cons hA
  obtain ⟨_, rfl, _⟩ := trodAll_nil r0
  exact ⟨_, rfl, _, _, _, [], _, [], hW', trodAll_mk1 (shut_bool Try.underlying4 _), args_stay laid bel (by kernel_rfl) hA hlt, rfl, bel.frame _, fun h => by cases h⟩
theorem over : Rows.fnExactWholeRow.holds Try.pinned (OpenSpec.ofChange Rows.fnExactWholeSpec) :=
  OpenClaim.holds_of_wide 9 Try.f9 rfl rfl rfl rfl rfl rfl rfl ⟨rfl, rfl, rfl, rfl, rfl⟩ rfl rfl rfl rfl rfl (by kernel_rfl) Try.func9 (by kernel_rfl)
    (of_decide_eq_true (by kernel_rfl)) (by unfold Func.isWrapper; first | (rw [if_pos (by decide +kernel)]; kernel_rfl) | (rw [if_neg (by decide +kernel)]; exact ⟨rfl, rfl⟩))
    (fun os started H enc _ => lifted os started H enc)
theorem proved : Rows.FnExactWholeSaid := over
end fnExactWhole
/-- The row, under a short name, for the claim. -/
theorem fnExactWhole_holds : Rows.FnExactWholeSaid := fnExactWhole.proved


end Go.Proofs.Ytboammhfkogipaa
