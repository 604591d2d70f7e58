/- The statement FnEveryClosingSaid: for every list of sectors, the sectors behind sharing out the closing error are together the whole circle. Conditions: none beyond the statement's own. -/
import Derived.Test.YtlfhjmnaommckaaAb
import Derived.Test.YtlfhjmnaommckaaC1
import Derived.Test.YtlfhjmnaommckaaC2
import Derived.Test.YtlfhjmnaommckaaC3
import Derived.Test.YtlfhjmnaommckaaC4
import Derived.Test.YtlfhjmnaommckaaC5
import Derived.Test.YtlfhjmnaommckaaC6
import Derived.Test.YtlfhjmnaommckaaC7
import Derived.Test.YtlfhjmnaommckaaC8
import Derived.Test.YtlfhjmnaommckaaC9
import Derived.Test.YtlfhjmnaommckaaCO
import Derived.Test.YtlfhjmnaommckaaC12
import Derived.Test.YtlfhjmnaommckaaC24
import Derived.Test.YtlfhjmnaommckaaC25
import Derived.Test.YtlfhjmnaommckaaCL
import Derived.Test.YtlfhjmnaommckaaF
import Derived.Test.YtlfhjmnaommckaaProg
import Derived.Test.YtlfhjmnaommckaaChecked
import Derived.Test.YtlfhjmnaommckaaRows
import Derived.WalkKit
import Derived.ProofKit
import Derived.OpenShut
import Derived.ChangeOld
import Derived.Below
import Derived.SizedLaws
set_option linter.unusedVariables false
set_option linter.unusedSimpArgs false
namespace Go.Proofs.Ytlfhjmnaommckaa
open Ab

abbrev lawSp : Sp := .rf FS (fun x (l : List Int) E => IntsL x.1 l E) (fun _ _ => .bool true)

set_option maxHeartbeats 2000000 in
set_option maxRecDepth 100000 in
theorem law_ok : Sp.ok Try.prog 7 lawSp := by
  refine Sp.rf_ok (T := ⟨[(46, shaSp), (47, shaSp)], []⟩) follows eqok0 ⟨enters Try.func46 rfl rfl, share_ok, enters Try.func47 rfl rfl, sshare_ok, trivial⟩ [(14, .take 0 (.take 1 (.take 2 (.take 3 (.take 4 (.take 5 (.take 6 (.take 7 (.take 8 (.done))))))))))] Try.func7 rfl (by kernel_rfl) _ _ _ fun x l E hp => ?_
  obtain ⟨⟨sa, n, c⟩, u⟩ := x
  have hn := hp.1
  dsimp only at hn
  have hlR : ∀ {y : SlV} {l' : List Int} {E' : Ext}, IntsL y l' E' → y.n = l'.length := fun h => h.1
  (repeat' ((conv => whnf); (first | with_reducible apply And.intro | (with_reducible intro hh; first | (with_reducible have hx := NewRow.self hh; clear hx) | (with_reducible have hrow := Made.row hh; have hle := Made.le hh; have hmade := hh; clear hh) | (with_reducible have hx := Ext.self hh; clear hx) | (with_reducible have hx := SlV.self hh; clear hx) | (with_reducible have hx := Value.self hh; clear hx) | with_reducible cases hh | skip) | (with_reducible apply AllEq.mk; intro yy hq) | with_reducible apply trivial | with_reducible apply Exists.intro () | (with_reducible apply ex_side; (first | with_reducible assumption | with_reducible apply fracs1 | with_reducible apply fracs2 | with_reducible apply fracs3 | with_reducible apply spans1 | with_reducible apply spans2 | (with_reducible apply NewRow.keep; with_reducible assumption) | (with_reducible apply RowAt.keep; with_reducible assumption) | assumption | (focus ((repeat (first | with_reducible assumption | (with_reducible apply RowAt.le; rotate_left; with_reducible assumption) | (with_reducible apply RowB.le; rotate_left; with_reducible assumption))); done)))) | (with_reducible apply ex_side (a := (_, _)); (focus (with_reducible apply And.intro <;> (focus ((repeat (first | with_reducible assumption | (with_reducible apply RowAt.le; rotate_left; with_reducible assumption) | (with_reducible apply RowB.le; rotate_left; with_reducible assumption))); done))))))); (all_goals (conv => whnf)))
  (all_goals (try dsimp only [Q.eta, Sn.eta, SlV.eta] at *)); (all_goals (first | exact Side.mk trivial | with_reducible exact Side.mk rfl | exact Side.mk (fun _ _ h => h) | exact Side.mk (Made.le (by assumption)) | refine Side.mk ?_ | refine Don.mk ?_ | skip))
  all_goals try rfl
  · rename_i y1 _ h1 _ y2 _ h2 _ _
    exfalso
    have e1 : y1.n = _ := h1.1
    have e2 : y2.n = _ := h2.1
    rw [e1, e2] at hh
    simp at hh
  · rename_i y1 E1 h1 _ y2 E2 h2 hle _ _
    have hO : secOk l = true := by
      cases h : secOk l with
      | true => rfl
      | false => rw [shaC_no h] at hh; exact absurd hh (by decide)
    rw [shaR_ok hO] at h1 h2
    have h1 := RowAt.le h1 hle
    have e1 : y1.n = l.length := by rw [h1.1, shaL_len]
    have e2 : y2.n = l.length := by rw [h2.1, shaL_len]
    have hmax : y1.n ≤ maxLen := h1.2.1
    clear hh
    refine ⟨fun m s => ∃ (k : Nat) (i z : Int) (g1 g2 g4 g6 g9 g10 g11 g12 g13 g14 g15 g16 g17 g18 g19 g20 g21 g22 g23 g24 g25 g26 g27 g28 g29 g30 g31 g32 g33 g34 g35 g36 g37 g38 g39 g40 g41 g42 g43 g44 g45 g46 g47 g48 g49 g50 g51 g52 g53 g54 g55 g56 g57 g58 g59 g60 g61 g62 g63 : AV), m = l.length - k ∧ k ≤ l.length ∧ i = (k : Int) ∧ z = ((shaL l).take k).sum ∧ s = ⟨[.v (.slice sa n c), g1, g2, .v (.slice y1.a y1.n y1.c), g4, .v (.slice y2.a y2.n y2.c), g6, .v (.int .i64 z), .v (.int .i64 i), g9, g10, g11, g12, g13, g14, g15, g16, g17, g18, g19, g20, g21, g22, g23, g24, g25, g26, g27, g28, g29, g30, g31, g32, g33, g34, g35, g36, g37, g38, g39, g40, g41, g42, g43, g44, g45, g46, g47, g48, g49, g50, g51, g52, g53, g54, g55, g56, g57, g58, g59, g60, g61, g62, g63], [], E2⟩, ⟨_, 0, _, _, _, _, _, _, _, _, _, _, _, _, _, _, _, _, _, _, _, _, _, _, _, _, _, _, _, _, _, _, _, _, _, _, _, _, _, _, _, _, _, _, _, _, _, _, _, _, _, _, _, _, _, _, _, _, _, _, _, _, _, rfl, Nat.zero_le _, rfl, rfl, rfl⟩, ?_⟩
    rintro m s ⟨k, i, z, g1, g2, g4, g6, g9, g10, g11, g12, g13, g14, g15, g16, g17, g18, g19, g20, g21, g22, g23, g24, g25, g26, g27, g28, g29, g30, g31, g32, g33, g34, g35, g36, g37, g38, g39, g40, g41, g42, g43, g44, g45, g46, g47, g48, g49, g50, g51, g52, g53, g54, g55, g56, g57, g58, g59, g60, g61, g62, g63, rfl, hk, rfl, rfl, rfl⟩
    obtain ⟨a1, n1, c1⟩ := y1
    obtain ⟨a2, n2, c2⟩ := y2
    dsimp only at e1 e2 hmax h1 h2
    rcases hkl : (shaL l)[k]? with _ | q
    · have hge := List.getElem?_eq_none_iff.1 hkl
      rw [shaL_len] at hge
      have hs : ((shaL l).take k).sum = 1296000 := by rw [List.take_of_length_le (by rw [shaL_len]; exact hge)]; exact shaL_all hO
      (repeat' ((conv => whnf); (first | with_reducible apply And.intro | (with_reducible intro hh; first | (with_reducible have hx := NewRow.self hh; clear hx) | (with_reducible have hrow := Made.row hh; have hle := Made.le hh; have hmade := hh; clear hh) | (with_reducible have hx := Ext.self hh; clear hx) | (with_reducible have hx := SlV.self hh; clear hx) | (with_reducible have hx := Value.self hh; clear hx) | with_reducible cases hh | skip) | (with_reducible apply AllEq.mk; intro yy hq) | with_reducible apply trivial | with_reducible apply Exists.intro () | (with_reducible apply ex_side; (first | with_reducible assumption | with_reducible apply fracs1 | with_reducible apply fracs2 | with_reducible apply fracs3 | with_reducible apply spans1 | with_reducible apply spans2 | (with_reducible apply NewRow.keep; with_reducible assumption) | (with_reducible apply RowAt.keep; with_reducible assumption) | assumption | (focus ((repeat (first | with_reducible assumption | (with_reducible apply RowAt.le; rotate_left; with_reducible assumption) | (with_reducible apply RowB.le; rotate_left; with_reducible assumption))); done)))) | (with_reducible apply ex_side (a := (_, _)); (focus (with_reducible apply And.intro <;> (focus ((repeat (first | with_reducible assumption | (with_reducible apply RowAt.le; rotate_left; with_reducible assumption) | (with_reducible apply RowB.le; rotate_left; with_reducible assumption))); done))))))); (all_goals (conv => whnf)))
      (all_goals (try dsimp only [Q.eta, Sn.eta, SlV.eta] at *)); (all_goals (first | exact Side.mk trivial | with_reducible exact Side.mk rfl | exact Side.mk (fun _ _ h => h) | exact Side.mk (Made.le (by assumption)) | refine Side.mk ?_ | refine Don.mk ?_ | skip))
      all_goals try (exfalso; have := of_decide_eq_true (by assumption : decide ((k : Int) < (n1 : Int)) = true); omega)
      all_goals first | (rw [hs]; rfl) | (exfalso; have h9 := (by assumption : ((n1 : Int) == (n : Int)) = false); rw [e1, hn] at h9; simp at h9)
    · have hlt : k < l.length := by rw [← shaL_len]; exact (List.getElem?_eq_some_iff.1 hkl).1
      cases a1 with
      | none => have := h1.2.2.1 rfl; rw [this] at hkl; cases hkl
      | some a1 =>
      cases a2 with
      | none => have := h2.2.2.1 rfl; rw [this] at hkl; cases hkl
      | some a2 =>
        have g1 := IntsL.at h1 (a := a1) rfl hkl
        have g2 := IntsL.at h2 (a := a2) rfl hkl
        have hw := sha_wrap hO hkl
        (repeat' ((conv => whnf); (first | with_reducible apply And.intro | (with_reducible intro hh; first | (with_reducible have hx := NewRow.self hh; clear hx) | (with_reducible have hrow := Made.row hh; have hle := Made.le hh; have hmade := hh; clear hh) | (with_reducible have hx := Ext.self hh; clear hx) | (with_reducible have hx := SlV.self hh; clear hx) | (with_reducible have hx := Value.self hh; clear hx) | with_reducible cases hh | skip) | (with_reducible apply AllEq.mk; intro yy hq) | with_reducible apply trivial | with_reducible apply Exists.intro () | (with_reducible apply ex_side; (first | with_reducible assumption | with_reducible apply fracs1 | with_reducible apply fracs2 | with_reducible apply fracs3 | with_reducible apply spans1 | with_reducible apply spans2 | (with_reducible apply NewRow.keep; with_reducible assumption) | (with_reducible apply RowAt.keep; with_reducible assumption) | assumption | (focus ((repeat (first | with_reducible assumption | (with_reducible apply RowAt.le; rotate_left; with_reducible assumption) | (with_reducible apply RowB.le; rotate_left; with_reducible assumption))); done)))) | (with_reducible apply ex_side (a := (_, _)); (focus (with_reducible apply And.intro <;> (focus ((repeat (first | with_reducible assumption | (with_reducible apply RowAt.le; rotate_left; with_reducible assumption) | (with_reducible apply RowB.le; rotate_left; with_reducible assumption))); done))))))); (all_goals (conv => whnf)))
        (all_goals (try dsimp only [Q.eta, Sn.eta, SlV.eta] at *)); (all_goals (first | exact Side.mk trivial | with_reducible exact Side.mk rfl | exact Side.mk (fun _ _ h => h) | exact Side.mk (Made.le (by assumption)) | refine Side.mk ?_ | refine Don.mk ?_ | skip))
        all_goals first | exact ⟨by omega, by omega⟩ | (exfalso; have := of_decide_eq_false (by assumption : decide ((k : Int) < (n1 : Int)) = false); omega) | (exfalso; have h9 := (by assumption : (q != q) = true); simp at h9; done) | skip
        refine ⟨_, ?_, k + 1, _, _, _, _, _, _, _, _, _, _, _, _, _, _, _, _, _, _, _, _, _, _, _, _, _, _, _, _, _, _, _, _, _, _, _, _, _, _, _, _, _, _, _, _, _, _, _, _, _, _, _, _, _, _, _, _, _, _, _, _, _, rfl, hlt, wrap_succ (n := n1) (by omega) hmax, hw, rfl⟩
        omega
  · exfalso
    simp at hh
namespace fnEveryClosing
open Go.ChangeShapes Go.WideShapes Go.ChangeAt Go.RowKit
set_option maxRecDepth 100000 in
theorem lifted (os : Os) (started : os.Started) (H : Type) (enc : TypeId × Value → H) :
    ReturnsInHanded {} Try.checked os 7 .any (Rows.fnEveryClosingSpec.pre6 enc Try.prog Try.f7 Rows.fnEveryClosingRow.domain false) (Rows.fnEveryClosingSpec.post enc Try.prog Try.f7 false true false false) := by
  refine returnsInHanded_of_change_sized (C := Try.checked) fact_own started (by kernel_rfl) Try.func7
    (ChangeSpec.witness6 (enc := enc) (C := Try.checked) false ⟨#[], #[.slice none 0 0], []⟩ 8 (by kernel_rfl) (by kernel_rfl) (by kernel_rfl) (by kernel_rfl)) ?_
  intro W base args ds gs before hval0 hW hcnd hsz0 _
  have hval : ∀ (j : Nat) t v, Try.f7.params[j]? = some t → args[j]? = some v → Value.okWide Try.prog W .any base t v := hval0
  have hW' := hW
  obtain ⟨p, q, hA0, hV, rfl, hfz, hnd⟩ := hW
  have hA : DataW.TrodAll enc Try.prog W 0 (fun _ => true) true Try.f7.params.toList args.toList ds p := hA0
  rw [Try.params7] at hA hval
  obtain ⟨rfl, rfl⟩ := trodVars_none hV
  have opens := OpensL.cons (opens_row (en := fun n => [.int .i64 n]) (W := I64) 1 1 Try.underlying45 (by kernel_rfl) (by kernel_rfl) (by kernel_rfl) (each_int Try.underlying2)) (OpensL.nil (P := Try.prog))
  obtain ⟨x, hx, hw⟩ := opens (fun j t v h1 h2 => hval j t v (by simpa using h1) (by simpa using h2)) hA
  obtain ⟨l, hl⟩ := (show ∃ l : List Int, IntsL x.1 l ⟨fun a => W.cell? a, fun _ => none⟩ from (by obtain ⟨⟨l, h, _⟩, _⟩ := hw; exact ⟨l, h⟩))
  have hlt : ∀ y ∈ p, y.block < W.heap.size := fun y hy => hW'.lt y (by simpa using hy)
  refine (Sp.calls (law_ok) hx (l := l) (args := args) rfl hl).mono fun e W' ⟨he, bel⟩ => ?_
  subst he
  obtain ⟨_, _, d0, ds0, _, _, _, rfl, _, _, r0⟩ := trodAll_cons hA
  obtain ⟨_, rfl, _⟩ := trodAll_nil r0
  exact ⟨_, rfl, _, _, _, [], _, [], hW', trodAll_mk1 (shut_bool Try.underlying4 _), args_stay fact_laid bel (by kernel_rfl) hA hlt, rfl, bel.frame _, fun h => by cases h⟩
theorem closed : joinedFacts Try.prog 7 Try.f7 Rows.fnEveryClosingSpec Rows.fnEveryClosingRow = true := by
  unfold joinedFacts
  rw [fact_laid, fact_maps, fact_heard, fact_may, fact_lift, fact_make]
  kernel_rfl
theorem over : Rows.fnEveryClosingRow.holds Try.pinned (OpenSpec.ofChange Rows.fnEveryClosingSpec) :=
  OpenClaim.holds_of_wide 7 Try.f7 rfl rfl rfl rfl rfl rfl rfl ⟨rfl, rfl, rfl, rfl, rfl⟩ rfl rfl rfl rfl rfl (by kernel_rfl) Try.func7 closed
    (of_decide_eq_true (by kernel_rfl)) (by unfold Func.isWrapper; first | (rw [if_pos (by decide +kernel)]; kernel_rfl) | (rw [if_neg (by decide +kernel)]; exact ⟨rfl, rfl⟩))
    (fun os started H enc _ => lifted os started H enc)
theorem proved : Rows.FnEveryClosingSaid := over
end fnEveryClosing
/-- The row, under a short name, for the claim. -/
theorem fnEveryClosing_holds : Rows.FnEveryClosingSaid := fnEveryClosing.proved


end Go.Proofs.Ytlfhjmnaommckaa
