/- The statement FnExactReadingSpanSaid: spec and impl answer alike for every scale, vernier and fraction. Conditions: none beyond the statement's own. -/
import Derived.Test.YtbgjokadfkblmabAb
import Derived.Test.YtbgjokadfkblmabC1
import Derived.Test.YtbgjokadfkblmabC2
import Derived.Test.YtbgjokadfkblmabC3
import Derived.Test.YtbgjokadfkblmabC4
import Derived.Test.YtbgjokadfkblmabC5
import Derived.Test.YtbgjokadfkblmabC6
import Derived.Test.YtbgjokadfkblmabC7
import Derived.Test.YtbgjokadfkblmabC8
import Derived.Test.YtbgjokadfkblmabC9
import Derived.Test.YtbgjokadfkblmabCO
import Derived.Test.YtbgjokadfkblmabC12
import Derived.Test.YtbgjokadfkblmabC14
import Derived.Test.YtbgjokadfkblmabC13
import Derived.Test.YtbgjokadfkblmabC15
import Derived.Test.YtbgjokadfkblmabC16
import Derived.Test.YtbgjokadfkblmabC17
import Derived.Test.YtbgjokadfkblmabC18
import Derived.Test.YtbgjokadfkblmabC19
import Derived.Test.YtbgjokadfkblmabC20
import Derived.Test.YtbgjokadfkblmabC22
import Derived.Test.YtbgjokadfkblmabCL
import Derived.Test.YtbgjokadfkblmabF
import Derived.Test.YtbgjokadfkblmabProg
import Derived.Test.YtbgjokadfkblmabChecked
import Derived.Test.YtbgjokadfkblmabRows
import Derived.WalkKit
import Derived.ProofKit
import Derived.OpenShut
import Derived.ChangeOld
import Derived.Below
import Derived.SizedLaws
set_option linter.unusedVariables false
set_option linter.unusedSimpArgs false
namespace Go.Proofs.Ytbgjokadfkblmab
open Ab

abbrev lawSp : Sp := .rf LF (fun x (l : List Q) E => FracsAt x.1.errs l E) (fun _ _ => .bool true)
set_option maxHeartbeats 2000000 in
set_option maxRecDepth 100000 in
theorem law_ok : Sp.ok Try.prog 14 lawSp := by
  refine Sp.rf_ok (T := [(18, szScaleSp), (20, toScaleSp), (21, toVernSp), (33, toFracSp), (55, reaASp), (56, reaASp), (57, eqSpanSp), (24, eqScaleSp)]) follows eqok0 ⟨enters Try.func18 rfl rfl, szScale_ok, enters Try.func20 rfl rfl, toScale_ok, enters Try.func21 rfl rfl, toVern_ok, enters Try.func33 rfl rfl, toFrac_ok, enters Try.func55 rfl rfl, sreaA_ok, enters Try.func56 rfl rfl, reaA_ok, enters Try.func57 rfl rfl, eqSpan_ok, enters Try.func24 rfl rfl, eqScale_ok, trivial⟩ [(5, .take 0 (.take 2 (.take 4 (.alt 1 (.alt 3 (.alt 5 (.alt 6 (.take 7 (.take 8 (.take 9 (.alt 10 (.alt 11 (.take 12 (.done)) (.last)) (.last))))) (.alt 10 (.alt 6 (.take 7 (.take 8 (.take 9 (.alt 11 (.take 12 (.done)) (.last))))) (.last)) (.last))) (.alt 10 (.alt 5 (.alt 6 (.take 7 (.take 8 (.take 9 (.alt 11 (.take 12 (.done)) (.last))))) (.last)) (.last)) (.last))) (.alt 10 (.alt 3 (.alt 5 (.alt 6 (.take 7 (.take 8 (.take 9 (.alt 11 (.take 12 (.done)) (.last))))) (.last)) (.last)) (.last)) (.last))) (.alt 10 (.alt 1 (.alt 3 (.alt 5 (.alt 6 (.take 7 (.take 8 (.take 9 (.alt 11 (.take 12 (.done)) (.last))))) (.last)) (.last)) (.last)) (.last)) (.last)))))), (7, .take 0 (.take 1 (.take 3 (.alt 2 (.alt 4 (.alt 5 (.take 6 (.take 7 (.take 8 (.alt 9 (.alt 10 (.take 11 (.done)) (.last)) (.last))))) (.alt 9 (.alt 5 (.take 6 (.take 7 (.take 8 (.alt 10 (.take 11 (.done)) (.last))))) (.last)) (.last))) (.alt 9 (.alt 4 (.alt 5 (.take 6 (.take 7 (.take 8 (.alt 10 (.take 11 (.done)) (.last))))) (.last)) (.last)) (.last))) (.alt 9 (.alt 2 (.alt 4 (.alt 5 (.take 6 (.take 7 (.take 8 (.alt 10 (.take 11 (.done)) (.last))))) (.last)) (.last)) (.last)) (.last)))))), (10, .take 0 (.take 1 (.alt 2 (.alt 3 (.take 4 (.done)) (.last)) (.last))))] Try.func14 rfl (by kernel_rfl) _ _ _ fun x l E hp => ?_
  obtain ⟨⟨⟨a, b⟩, ⟨sa, n, c⟩⟩, ⟨parts, back, w⟩, ⟨p, q⟩, u⟩ := x
  dsimp only at hp
  have hn := hp.1
  have hm := hp.2.1
  dsimp only at hn hm
  by_cases hsm : l.length ≤ 1048576
  · have hB : RowB Q.cells 2 ⟨sa, n, c⟩ l E := ⟨hp, hsm⟩
    have hs : szR 1048576 n = 1048576 - n := if_neg (by omega)
    (repeat' ((conv => whnf); (first | with_reducible apply And.intro | (with_reducible intro hh; first | (with_reducible have hx := NewRow.self hh; clear hx) | (with_reducible have hrow := Made.row hh; have hle := Made.le hh; have hmade := hh; clear hh) | (with_reducible have hx := Ext.self hh; clear hx) | (with_reducible have hx := SlV.self hh; clear hx) | (with_reducible have hx := Value.self hh; clear hx) | with_reducible cases hh | skip) | (with_reducible apply AllEq.mk; intro yy hq) | with_reducible apply trivial | with_reducible apply Exists.intro () | (with_reducible apply ex_side; (first | with_reducible assumption | with_reducible apply fracs1 | with_reducible apply fracs2 | with_reducible apply fracs3 | with_reducible apply spans1 | with_reducible apply spans2 | (with_reducible apply NewRow.keep; with_reducible assumption) | (with_reducible apply RowAt.keep; with_reducible assumption) | assumption | (focus ((repeat (first | with_reducible assumption | (with_reducible apply RowAt.le; rotate_left; with_reducible assumption) | (with_reducible apply RowB.le; rotate_left; with_reducible assumption))); done)))) | (with_reducible apply ex_side (a := (_, _)); (focus (with_reducible apply And.intro <;> (focus ((repeat (first | with_reducible assumption | (with_reducible apply RowAt.le; rotate_left; with_reducible assumption) | (with_reducible apply RowB.le; rotate_left; with_reducible assumption))); done))))))); (all_goals (conv => whnf)))
    (all_goals (try dsimp only [Q.eta, Sn.eta, SlV.eta] at *)); (all_goals (first | exact Side.mk trivial | with_reducible exact Side.mk rfl | exact Side.mk (fun _ _ h => h) | exact Side.mk (Made.le (by assumption)) | refine Side.mk ?_ | refine Don.mk ?_ | skip))
    all_goals first | exact ⟨hm, by omega, by omega⟩ | (exfalso; have := of_decide_eq_true (by assumption : decide (szR 1048576 n < 0) = true); omega) | skip
    all_goals simp_all
  · have hs : szR 1048576 n = -1 := if_pos (by omega)
    (repeat' ((conv => whnf); (first | with_reducible apply And.intro | (with_reducible intro hh; first | (with_reducible have hx := NewRow.self hh; clear hx) | (with_reducible have hrow := Made.row hh; have hle := Made.le hh; have hmade := hh; clear hh) | (with_reducible have hx := Ext.self hh; clear hx) | (with_reducible have hx := SlV.self hh; clear hx) | (with_reducible have hx := Value.self hh; clear hx) | with_reducible cases hh | skip) | (with_reducible apply AllEq.mk; intro yy hq) | with_reducible apply trivial | with_reducible apply Exists.intro () | (with_reducible apply ex_side; (first | with_reducible assumption | with_reducible apply fracs1 | with_reducible apply fracs2 | with_reducible apply fracs3 | with_reducible apply spans1 | with_reducible apply spans2 | (with_reducible apply NewRow.keep; with_reducible assumption) | (with_reducible apply RowAt.keep; with_reducible assumption) | assumption | (focus ((repeat (first | with_reducible assumption | (with_reducible apply RowAt.le; rotate_left; with_reducible assumption) | (with_reducible apply RowB.le; rotate_left; with_reducible assumption))); done)))) | (with_reducible apply ex_side (a := (_, _)); (focus (with_reducible apply And.intro <;> (focus ((repeat (first | with_reducible assumption | (with_reducible apply RowAt.le; rotate_left; with_reducible assumption) | (with_reducible apply RowB.le; rotate_left; with_reducible assumption))); done))))))); (all_goals (conv => whnf)))
    (all_goals (try dsimp only [Q.eta, Sn.eta, SlV.eta] at *)); (all_goals (first | exact Side.mk trivial | with_reducible exact Side.mk rfl | exact Side.mk (fun _ _ h => h) | exact Side.mk (Made.le (by assumption)) | refine Side.mk ?_ | refine Don.mk ?_ | skip))
    all_goals first | exact ⟨hm, by omega, by omega⟩ | (exfalso; have := of_decide_eq_false (by assumption : decide (szR 1048576 n < 0) = false); omega) | rfl
namespace fnExactReadingSpan
open Go.ChangeShapes Go.WideShapes Go.ChangeAt Go.RowKit
set_option maxRecDepth 100000 in
theorem lifted (os : Os) (started : os.Started) (H : Type) (enc : TypeId × Value → H) :
    ReturnsInHanded {} Try.checked os 14 .any (Rows.fnExactReadingSpanSpec.pre6 enc Try.prog Try.f14 Rows.fnExactReadingSpanRow.domain false) (Rows.fnExactReadingSpanSpec.post enc Try.prog Try.f14 false true false false) := by
  refine returnsInHanded_of_change_sized (C := Try.checked) fact_own started (by kernel_rfl) Try.func14
    (ChangeSpec.witness6 (enc := enc) (C := Try.checked) false ⟨#[], #[.agg #[.int .i64 0, .int .i64 0, .slice none 0 0], .agg #[.int .i64 0, .bool false], .agg #[.int .i64 0, .int .i64 0]], []⟩ 8 (by kernel_rfl) (by kernel_rfl) (by kernel_rfl) (by kernel_rfl)) ?_
  intro W base args ds gs before hval0 hW hcnd hsz0 _
  have hval : ∀ (j : Nat) t v, Try.f14.params[j]? = some t → args[j]? = some v → Value.okWide Try.prog W .any base t v := hval0
  have hW' := hW
  obtain ⟨p, q, hA0, hV, rfl, hfz, hnd⟩ := hW
  have hA : DataW.TrodAll enc Try.prog W 0 (fun _ => true) true Try.f14.params.toList args.toList ds p := hA0
  rw [Try.params14] at hA hval
  obtain ⟨rfl, rfl⟩ := trodVars_none hV
  have opens := OpensL.cons (opens_scl Try.underlying26 (by kernel_rfl) (by kernel_rfl) Try.underlying2 Try.underlying24 (by kernel_rfl) (by kernel_rfl) (by kernel_rfl)) (OpensL.cons (Opens.vern Try.underlying28 (by kernel_rfl) (by kernel_rfl) Try.underlying2 Try.underlying4) (OpensL.cons (Opens.frac Try.underlying23 (by kernel_rfl) (by kernel_rfl) Try.underlying2) (OpensL.nil (P := Try.prog))))
  obtain ⟨x, hx, hw⟩ := opens (fun j t v h1 h2 => hval j t v (by simpa using h1) (by simpa using h2)) hA
  obtain ⟨l, hl⟩ := (show ∃ l : List Q, FracsAt x.1.errs l ⟨fun a => W.cell? a, fun _ => none⟩ from (by obtain ⟨⟨_, l, h, _⟩, _⟩ := hw; exact ⟨l, h⟩))
  have hlt : ∀ y ∈ p, y.block < W.heap.size := fun y hy => hW'.lt y (by simpa using hy)
  refine (Sp.calls (law_ok) hx (l := l) (args := args) rfl hl).mono fun e W' ⟨he, bel⟩ => ?_
  subst he
  obtain ⟨_, _, d0, ds0, _, _, _, rfl, _, _, r0⟩ := trodAll_cons hA
  obtain ⟨_, _, d1, ds1, _, _, _, rfl, _, _, r1⟩ := trodAll_cons r0
  obtain ⟨_, _, d2, ds2, _, _, _, rfl, _, _, r2⟩ := trodAll_cons r1
  obtain ⟨_, rfl, _⟩ := trodAll_nil r2
  exact ⟨_, rfl, _, _, _, [], _, [], hW', trodAll_mk1 (shut_bool Try.underlying4 _), args_stay fact_laid bel (by kernel_rfl) hA hlt, rfl, bel.frame _, fun h => by cases h⟩
theorem closed : joinedFacts Try.prog 14 Try.f14 Rows.fnExactReadingSpanSpec Rows.fnExactReadingSpanRow = true := by
  unfold joinedFacts
  rw [fact_laid, fact_maps, fact_heard, fact_may, fact_lift, fact_make]
  kernel_rfl
theorem over : Rows.fnExactReadingSpanRow.holds Try.pinned (OpenSpec.ofChange Rows.fnExactReadingSpanSpec) :=
  OpenClaim.holds_of_wide 14 Try.f14 rfl rfl rfl rfl rfl rfl rfl ⟨rfl, rfl, rfl, rfl, rfl⟩ rfl rfl rfl rfl rfl (by kernel_rfl) Try.func14 closed
    (of_decide_eq_true (by kernel_rfl)) (by unfold Func.isWrapper; first | (rw [if_pos (by decide +kernel)]; kernel_rfl) | (rw [if_neg (by decide +kernel)]; exact ⟨rfl, rfl⟩))
    (fun os started H enc _ => lifted os started H enc)
theorem proved : Rows.FnExactReadingSpanSaid := over
end fnExactReadingSpan
/-- The row, under a short name, for the claim. -/
theorem fnExactReadingSpan_holds : Rows.FnExactReadingSpanSaid := fnExactReadingSpan.proved


end Go.Proofs.Ytbgjokadfkblmab
