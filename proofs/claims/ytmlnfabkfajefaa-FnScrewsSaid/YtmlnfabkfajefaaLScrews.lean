/- The statement FnScrewsSaid: a spindle stays between the nut less the play and the nut, turned forward or back by enough it stands at the one or the other, to turn to a place comes to it or beyond, and the play that is found is no less than it is. Conditions: none beyond the statement's own. -/
import Derived.Test.YtmlnfabkfajefaaAb
import Derived.Test.YtmlnfabkfajefaaC1
import Derived.Test.YtmlnfabkfajefaaC2
import Derived.Test.YtmlnfabkfajefaaC3
import Derived.Test.YtmlnfabkfajefaaC4
import Derived.Test.YtmlnfabkfajefaaC5
import Derived.Test.YtmlnfabkfajefaaC6
import Derived.Test.YtmlnfabkfajefaaC7
import Derived.Test.YtmlnfabkfajefaaC8
import Derived.Test.YtmlnfabkfajefaaC9
import Derived.Test.YtmlnfabkfajefaaCO
import Derived.Test.YtmlnfabkfajefaaC10
import Derived.Test.YtmlnfabkfajefaaC11
import Derived.Test.YtmlnfabkfajefaaC12
import Derived.Test.YtmlnfabkfajefaaC14
import Derived.Test.YtmlnfabkfajefaaC24
import Derived.Test.YtmlnfabkfajefaaC25
import Derived.Test.YtmlnfabkfajefaaC27
import Derived.Test.YtmlnfabkfajefaaC30
import Derived.Test.YtmlnfabkfajefaaCK
import Derived.Test.YtmlnfabkfajefaaCG
import Derived.Test.YtmlnfabkfajefaaCN
import Derived.Test.YtmlnfabkfajefaaC35
import Derived.Test.YtmlnfabkfajefaaC36
import Derived.Test.YtmlnfabkfajefaaC37
import Derived.Test.YtmlnfabkfajefaaC38
import Derived.Test.YtmlnfabkfajefaaC70
import Derived.Test.YtmlnfabkfajefaaC71
import Derived.Test.YtmlnfabkfajefaaC72
import Derived.Test.YtmlnfabkfajefaaC73
import Derived.Test.YtmlnfabkfajefaaC74
import Derived.Test.YtmlnfabkfajefaaC75
import Derived.Test.YtmlnfabkfajefaaCB
import Derived.Test.YtmlnfabkfajefaaCL
import Derived.Test.YtmlnfabkfajefaaF
import Derived.Test.YtmlnfabkfajefaaProg
import Derived.Test.YtmlnfabkfajefaaChecked
import Derived.Test.YtmlnfabkfajefaaRows
import Derived.WalkKit
import Derived.ProofKit
import Derived.OpenShut
import Derived.ChangeOld
import Derived.Below
import Derived.SizedLaws
set_option linter.unusedVariables false
set_option linter.unusedSimpArgs false
namespace Go.Proofs.Ytmlnfabkfajefaa
open Ab

attribute [local irreducible] turnF readR okM okX toR plR addR subR mulR divR lessB
abbrev lawSp : Sp := .rf SS (fun x (l : List Int × List Int) E => Bytes8 x.1 l.1 E ∧ Bytes8 x.2.1 l.2 E) (fun _ _ => .bool true)
set_option maxHeartbeats 20000000 in
set_option maxRecDepth 100000 in
theorem law_ok : Sp.ok Try.prog 3 lawSp := by
  refine Sp.rf_ok (T := ⟨[(4, bigSp), (5, p6screwSp), (6, p6pickSp), (7, turnTSp), (8, turnTSp), (9, readTSp), (10, scrTSp), (11, spinTSp), (12, ssubTSp), (13, lessTSp), (14, saddTSp), (15, toTSp), (16, stoTSp), (17, plTSp), (18, splTSp), (19, sdivTSp), (20, smulTSp)], []⟩) follows eqokS ⟨enters Try.func4 rfl rfl, big_ok, enters Try.func5 rfl rfl, p6screw_ok, enters Try.func6 rfl rfl, p6pick_ok, enters Try.func7 rfl rfl, turnT_ok, enters Try.func8 rfl rfl, sturnT_ok, enters Try.func9 rfl rfl, readT_ok, enters Try.func10 rfl rfl, scrT_ok, enters Try.func11 rfl rfl, spinT_ok, enters Try.func12 rfl rfl, ssubT_ok, enters Try.func13 rfl rfl, lessT_ok, enters Try.func14 rfl rfl, saddT_ok, enters Try.func15 rfl rfl, toT_ok, enters Try.func16 rfl rfl, stoT_ok, enters Try.func17 rfl rfl, plT_ok, enters Try.func18 rfl rfl, splT_ok, enters Try.func19 rfl rfl, sdivT_ok, enters Try.func20 rfl rfl, smulT_ok, trivial⟩ [] Try.func3 rfl (by kernel_rfl) _ _ _ fun x l E hp => ?_
  obtain ⟨⟨sa, n, c⟩, ⟨sa2, n2, c2⟩, u⟩ := x
  obtain ⟨bs, bs2⟩ := l
  obtain ⟨hb1, hb2⟩ := hp
  dsimp only at hb1 hb2
  (repeat' ((conv => whnf); (first | with_reducible apply And.intro | (with_reducible intro hh; first | (with_reducible have hx := NewRow.self hh; clear hx) | (with_reducible have hrow := Made.row hh; have hle := Made.le hh; have hmade := hh; clear hh) | (with_reducible have hrow := Fresh.rowS hh; have hle := Fresh.leS hh; have hfr := hh; clear hh) | (with_reducible have hx := Ext.self hh; clear hx) | (with_reducible have hx := SlV.self hh; clear hx) | (with_reducible have hx := Value.self hh; clear hx) | with_reducible cases hh | skip) | (with_reducible apply AllEq.mk; intro yy hq) | with_reducible apply trivial | with_reducible apply Exists.intro () | (with_reducible apply ex_side; (first | with_reducible assumption | with_reducible apply fracs1 | with_reducible apply fracs2 | with_reducible apply fracs3 | with_reducible apply spans1 | with_reducible apply spans2 | (with_reducible apply NewRow.keep; with_reducible assumption) | (with_reducible apply RowAt.keep; with_reducible assumption) | assumption | (focus ((repeat (first | with_reducible assumption | (with_reducible apply RowAt.le; rotate_left; with_reducible assumption) | (with_reducible apply RowB.le; rotate_left; with_reducible assumption))); done)))) | (with_reducible apply ex_side (a := (_, _)); (focus (with_reducible apply And.intro <;> (focus ((repeat (first | with_reducible assumption | (with_reducible apply RowAt.le; rotate_left; with_reducible assumption) | (with_reducible apply RowB.le; rotate_left; with_reducible assumption))); done))))))); (all_goals (conv => whnf)))
  (all_goals (try dsimp only [Q.eta, Sn.eta, SlV.eta] at *)); (all_goals (first | exact Side.mk trivial | with_reducible exact Side.mk rfl | exact Side.mk (fun _ _ h => h) | exact Side.mk (Made.le (by assumption)) | refine Side.mk ?_ | refine Don.mk ?_ | skip))
  · rfl
  rotate_left
  · rfl
  rename_i pitch parts play E1
  have hq := hh.out
  have k1 := hq.1
  have hM := hq.2
  clear hh hq
  have hB : Bytes8 ⟨sa2, n2, c2⟩ bs2 E1 := ⟨RowAt.le hb2.1 k1.le, hb2.2⟩
  have h121 : (121 : Int) ≤ 1000000000 := by decide
  refine ⟨bs2, Side.mk ⟨hB, h121⟩, ?_⟩
  with_reducible intro v E2 h2
  have hq2 := h2.out
  have k2 := hq2.1
  have v0 := hq2.2.1
  have v1 : v < 121 := hq2.2.2.1 (by show (1 : Int) ≤ 121; decide)
  clear h2 hq2
  have hw : IntKind.i64.wrap (v - 60) = v - 60 := wrap_in (by omega) (by omega)
  have hby1 : -60 ≤ IntKind.i64.wrap (v - 60) := by omega
  have hby2 : IntKind.i64.wrap (v - 60) ≤ 60 := by omega
  clear hw
  obtain ⟨p1, p2⟩ := pitch
  obtain ⟨y1, y2⟩ := play
  have hL := half_law hM hby1 hby2
  obtain ⟨⟨d0, d1, d2⟩, ⟨r1, r2⟩, ⟨l1, l2⟩, ⟨f0, f1, f2⟩, ⟨b0, b1, b2⟩, ⟨u1, u2⟩, ⟨w1, w2⟩, hH⟩ := hL
  have g2 : 2 ≤ parts := hM.n2
  have g21 : parts ≤ 21 := hM.n21
  have a0 := hM.okm.symm
  have a1 := hH.start.symm
  have a2 := hH.one.symm
  have a3 := hH.dueok.symm
  have a4 := hH.two.symm
  have a5 := subR_some hH.okr hM.oky hH.three
  have a6 := hH.f1.symm
  have a7 := hH.f2.symm
  have a8 := hH.four.symm
  have e8 : IntKind.i64.wrap (parts + 1) = parts + 1 := wrap_in (by omega) (by omega)
  rw [← e8] at a8
  have a9 := hH.five.symm
  have a10 := addR_some (okX_vals hM hH.fwok).2.2.1 hM.oky hH.six
  have a11 := hH.seven.symm
  have e11 : IntKind.i64.wrap (IntKind.i64.wrap (0 - parts) - 1) = -parts - 1 := by rw [wrap_in (a := 0 - parts) (by omega) (by omega), wrap_in (by omega) (by omega)]; omega
  dsimp only at a11
  rw [← e11] at a11
  have a12 := hH.eight.symm
  dsimp only at a0 a1 a2 a3 a4 a5 a6 a7 a8 a9 a10 a11 a12
  have t0 : d0 = IntKind.i64.wrap (v - 60) := hH.duet
  have t1 : b1 = w1 := congrArg Q.p hH.back1
  have t3 : b2 = w2 := congrArg Q.q hH.back1
  have t2 : b0 = IntKind.i64.wrap (v - 60) := hH.back2
  (repeat' ((conv => whnf); (first | with_reducible apply And.intro | (with_reducible intro hh; first | (exfalso; have hbb : (_ : Bool) = _ := hh; revert hh; clear hbb; simp [t0, t1, t2, t3]; done) | (with_reducible have hx := NewRow.self hh; clear hx) | (with_reducible have hrow := Made.row hh; have hle := Made.le hh; have hmade := hh; clear hh) | (with_reducible have hrow := Fresh.rowS hh; have hle := Fresh.leS hh; have hfr := hh; clear hh) | (with_reducible have hx := Ext.self hh; clear hx) | (with_reducible have hx := SlV.self hh; clear hx) | (with_reducible have hx := Value.self hh; clear hx) | with_reducible cases hh | skip) | (with_reducible apply AllEq.mk; intro yy hq) | with_reducible apply trivial | with_reducible apply Exists.intro () | (with_reducible apply ex_side; (first | with_reducible assumption | with_reducible apply fracs1 | with_reducible apply fracs2 | with_reducible apply fracs3 | with_reducible apply spans1 | with_reducible apply spans2 | (with_reducible apply NewRow.keep; with_reducible assumption) | (with_reducible apply RowAt.keep; with_reducible assumption) | assumption | (focus ((repeat (first | with_reducible assumption | (with_reducible apply RowAt.le; rotate_left; with_reducible assumption) | (with_reducible apply RowB.le; rotate_left; with_reducible assumption))); done)))) | (with_reducible apply ex_side (a := (_, _)); (focus (with_reducible apply And.intro <;> (focus ((repeat (first | with_reducible assumption | (with_reducible apply RowAt.le; rotate_left; with_reducible assumption) | (with_reducible apply RowB.le; rotate_left; with_reducible assumption))); done))))))); (all_goals (conv => whnf)))
  (all_goals (try dsimp only [Q.eta, Sn.eta, SlV.eta] at *)); (all_goals (first | exact Side.mk trivial | with_reducible exact Side.mk rfl | exact Side.mk (fun _ _ h => h) | exact Side.mk (Made.le (by assumption)) | refine Side.mk ?_ | refine Don.mk ?_ | skip))
  have hB2 : Bytes8 ⟨sa2, n2, c2⟩ bs2 E2 := ⟨RowAt.le hB.1 k2.le, hB.2⟩
  have h41 : (41 : Int) ≤ 1000000000 := by decide
  refine ⟨bs2, Side.mk ⟨hB2, h41⟩, ?_⟩
  with_reducible intro z E3 h3
  have hq3 := h3.out
  have k3 := hq3.1
  have z0 := hq3.2.1
  have z1 : z < 41 := hq3.2.2.1 (by show (1 : Int) ≤ 41; decide)
  clear h3 hq3
  have hwz : IntKind.i64.wrap (z - 20) = z - 20 := wrap_in (by omega) (by omega)
  have hat : okQ ⟨IntKind.i64.wrap (z - 20), 1⟩ = true := okQ_w (by omega) (by omega)
  clear hwz
  have hdt : -60 ≤ d0 ∧ d0 ≤ 60 := by rw [t0]; exact ⟨hby1, hby2⟩
  have hdp : okQ ⟨d1, d2⟩ = true := (okX_vals hM hH.dueok).2.2.1
  have hpl := pl_law hM hH.dueok hdt.1 hdt.2
  have htl := to_law (n := 2000) hH.dueok hdp hat
  generalize hT : toR ⟨⟨p1, p2⟩, parts, ⟨y1, y2⟩⟩ ⟨d0, ⟨d1, d2⟩⟩ ⟨IntKind.i64.wrap (z - 20), 1⟩ 2000 = T0 at htl
  generalize hP : plR ⟨⟨p1, p2⟩, parts, ⟨y1, y2⟩⟩ ⟨d0, ⟨d1, d2⟩⟩ 200 = P0 at hpl
  obtain ⟨⟨e0, ⟨e1, e2⟩⟩, e3, e4⟩ := T0
  obtain ⟨g1, g2⟩ := P0
  have a13 := hT.symm
  have a14 := hP.symm
  clear hT hP
  dsimp only at htl hpl
  generalize hq1 : lessB ⟨d1, d2⟩ ⟨IntKind.i64.wrap (z - 20), 1⟩ = q1 at htl
  generalize hq2 : lessB ⟨e1, e2⟩ ⟨IntKind.i64.wrap (z - 20), 1⟩ = q2 at htl
  generalize hq3 : lessB ⟨IntKind.i64.wrap (z - 20), 1⟩ ⟨d1, d2⟩ = q3 at htl
  generalize hq4 : lessB ⟨IntKind.i64.wrap (z - 20), 1⟩ ⟨e1, e2⟩ = q4 at htl
  have a15 := hq1.symm
  have a16 := hq2.symm
  have a17 := hq3.symm
  have a18 := hq4.symm
  clear hq1 hq2 hq3 hq4
  rcases hpl with hp7 | ⟨hp0, hg1, hg2, hgl⟩
  · (repeat' ((conv => whnf); (first | with_reducible apply And.intro | (with_reducible intro hh; first | (exfalso; have hbb : (_ : Bool) = _ := hh; revert hh; clear hbb; simp [hp7]; done) | (with_reducible have hx := NewRow.self hh; clear hx) | (with_reducible have hrow := Made.row hh; have hle := Made.le hh; have hmade := hh; clear hh) | (with_reducible have hrow := Fresh.rowS hh; have hle := Fresh.leS hh; have hfr := hh; clear hh) | (with_reducible have hx := Ext.self hh; clear hx) | (with_reducible have hx := SlV.self hh; clear hx) | (with_reducible have hx := Value.self hh; clear hx) | with_reducible cases hh | skip) | (with_reducible apply AllEq.mk; intro yy hq) | with_reducible apply trivial | with_reducible apply Exists.intro () | (with_reducible apply ex_side; (first | with_reducible assumption | with_reducible apply fracs1 | with_reducible apply fracs2 | with_reducible apply fracs3 | with_reducible apply spans1 | with_reducible apply spans2 | (with_reducible apply NewRow.keep; with_reducible assumption) | (with_reducible apply RowAt.keep; with_reducible assumption) | assumption | (focus ((repeat (first | with_reducible assumption | (with_reducible apply RowAt.le; rotate_left; with_reducible assumption) | (with_reducible apply RowB.le; rotate_left; with_reducible assumption))); done)))) | (with_reducible apply ex_side (a := (_, _)); (focus (with_reducible apply And.intro <;> (focus ((repeat (first | with_reducible assumption | (with_reducible apply RowAt.le; rotate_left; with_reducible assumption) | (with_reducible apply RowB.le; rotate_left; with_reducible assumption))); done))))))); (all_goals (conv => whnf)))
    (all_goals (try dsimp only [Q.eta, Sn.eta, SlV.eta] at *)); (all_goals (first | exact Side.mk trivial | with_reducible exact Side.mk rfl | exact Side.mk (fun _ _ h => h) | exact Side.mk (Made.le (by assumption)) | refine Side.mk ?_ | refine Don.mk ?_ | skip))
    all_goals first
      | rfl
      | (exfalso
         have he4 : e4 = 0 := by have h9 : (e4 == 0) = true := by assumption
                                 simpa using h9
         obtain ⟨-, c1, c2, c3⟩ := htl he4
         first
           | (have := (c1 rfl).1; cases this; done)
           | (have := (c2 rfl).1; cases this; done)
           | (have h8 := of_decide_eq_true (by assumption : decide (e3 ≤ 0) = true); have := (c1 rfl).2; omega)
           | (have h8 := of_decide_eq_true (by assumption : decide (e3 ≥ 0) = true); have := (c2 rfl).2; omega)
           | (have h7 : (d1 == IntKind.i64.wrap (z - 20) && (d2 == 1 && true)) = true := by assumption
              have h6 : (e3 != 0) = true := by assumption
              simp at h7 h6
              exact h6 (c3 (by rw [h7.1, h7.2]))))
  · obtain ⟨⟨s1, s2⟩, ⟨x1, x2⟩, b1e, b2e, b3e, b4e, b5e⟩ := last_law hM hg1 hg2 hgl
    have a19 := divR_some hM.okp (okQ_w (n := parts) (by omega) (by omega)) (by show parts ≠ 0; omega) b1e
    have a20 := mulR_some b2e (okQ_w (n := g1) (by omega) (by omega)) b3e
    have a21 := b5e.symm
    dsimp only at a19 a20 a21
    (repeat' ((conv => whnf); (first | with_reducible apply And.intro | (with_reducible intro hh; first | (exfalso; have hbb : (_ : Bool) = _ := hh; revert hh; clear hbb; simp [hp0]; done) | (with_reducible have hx := NewRow.self hh; clear hx) | (with_reducible have hrow := Made.row hh; have hle := Made.le hh; have hmade := hh; clear hh) | (with_reducible have hrow := Fresh.rowS hh; have hle := Fresh.leS hh; have hfr := hh; clear hh) | (with_reducible have hx := Ext.self hh; clear hx) | (with_reducible have hx := SlV.self hh; clear hx) | (with_reducible have hx := Value.self hh; clear hx) | with_reducible cases hh | skip) | (with_reducible apply AllEq.mk; intro yy hq) | with_reducible apply trivial | with_reducible apply Exists.intro () | (with_reducible apply ex_side; (first | with_reducible assumption | with_reducible apply fracs1 | with_reducible apply fracs2 | with_reducible apply fracs3 | with_reducible apply spans1 | with_reducible apply spans2 | (with_reducible apply NewRow.keep; with_reducible assumption) | (with_reducible apply RowAt.keep; with_reducible assumption) | assumption | (focus ((repeat (first | with_reducible assumption | (with_reducible apply RowAt.le; rotate_left; with_reducible assumption) | (with_reducible apply RowB.le; rotate_left; with_reducible assumption))); done)))) | (with_reducible apply ex_side (a := (_, _)); (focus (with_reducible apply And.intro <;> (focus ((repeat (first | with_reducible assumption | (with_reducible apply RowAt.le; rotate_left; with_reducible assumption) | (with_reducible apply RowB.le; rotate_left; with_reducible assumption))); done))))))); (all_goals (conv => whnf)))
    (all_goals (try dsimp only [Q.eta, Sn.eta, SlV.eta] at *)); (all_goals (first | exact Side.mk trivial | with_reducible exact Side.mk rfl | exact Side.mk (fun _ _ h => h) | exact Side.mk (Made.le (by assumption)) | refine Side.mk ?_ | refine Don.mk ?_ | skip))
    all_goals first
      | rfl
      | (exfalso
         have he4 : e4 = 0 := by have h9 : (e4 == 0) = true := by assumption
                                 simpa using h9
         obtain ⟨-, c1, c2, c3⟩ := htl he4
         first
           | (have := (c1 rfl).1; cases this; done)
           | (have := (c2 rfl).1; cases this; done)
           | (have h8 := of_decide_eq_true (by assumption : decide (e3 ≤ 0) = true); have := (c1 rfl).2; omega)
           | (have h8 := of_decide_eq_true (by assumption : decide (e3 ≥ 0) = true); have := (c2 rfl).2; omega)
           | (have h7 : (d1 == IntKind.i64.wrap (z - 20) && (d2 == 1 && true)) = true := by assumption
              have h6 : (e3 != 0) = true := by assumption
              simp at h7 h6
              exact h6 (c3 (by rw [h7.1, h7.2]))))
namespace fnScrews
open Go.ChangeShapes Go.WideShapes Go.ChangeAt Go.RowKit
set_option maxRecDepth 100000 in
theorem lifted (os : Os) (started : os.Started) (H : Type) (enc : TypeId × Value → H) :
    ReturnsInHanded {} Try.checked os 3 .any (Rows.fnScrewsSpec.pre6 enc Try.prog Try.f3 Rows.fnScrewsRow.domain false) (Rows.fnScrewsSpec.post enc Try.prog Try.f3 false true false false) := by
  refine returnsInHanded_of_change_sized (C := Try.checked) fact_own started (by kernel_rfl) Try.func3
    (ChangeSpec.witness6 (enc := enc) (C := Try.checked) false ⟨#[], #[.slice none 0 0, .slice none 0 0], []⟩ 8 (by kernel_rfl) (by kernel_rfl) (by kernel_rfl) (by kernel_rfl)) ?_
  intro W base args ds gs before hval0 hW hcnd hsz0 _
  have hval : ∀ (j : Nat) t v, Try.f3.params[j]? = some t → args[j]? = some v → Value.okWide Try.prog W .any base t v := hval0
  have hW' := hW
  obtain ⟨p, q, hA0, hV, rfl, hfz, hnd⟩ := hW
  have hA : DataW.TrodAll enc Try.prog W 0 (fun _ => true) true Try.f3.params.toList args.toList ds p := hA0
  rw [Try.params3] at hA hval
  obtain ⟨rfl, rfl⟩ := trodVars_none hV
  have opens := OpensL.cons (opens_row (en := fun n => [.int .u8 n]) (W := U8) 1 1 Try.underlying22 (by kernel_rfl) (by kernel_rfl) (by kernel_rfl) (each_u8 Try.underlying5)) (OpensL.cons (opens_row (en := fun n => [.int .u8 n]) (W := U8) 1 1 Try.underlying22 (by kernel_rfl) (by kernel_rfl) (by kernel_rfl) (each_u8 Try.underlying5)) (OpensL.nil (P := Try.prog)))
  obtain ⟨x, hx, hw⟩ := opens (fun j t v h1 h2 => hval j t v (by simpa using h1) (by simpa using h2)) hA
  obtain ⟨l, hl⟩ := (show ∃ l : List Int × List Int, Bytes8 x.1 l.1 ⟨fun a => W.cell? a, fun _ => none⟩ ∧ Bytes8 x.2.1 l.2 ⟨fun a => W.cell? a, fun _ => none⟩ from (by obtain ⟨⟨l1, h1, k1⟩, ⟨l2, h2, k2⟩, _⟩ := hw; exact ⟨(l1, l2), ⟨h1, k1⟩, ⟨h2, k2⟩⟩))
  have hlt : ∀ y ∈ p, y.block < W.heap.size := fun y hy => hW'.lt y (by simpa using hy)
  refine (Sp.calls (law_ok) hx (l := l) (args := args) rfl hl).mono fun e W' ⟨he, bel⟩ => ?_
  subst he
  obtain ⟨_, _, d0, ds0, _, _, _, rfl, _, _, r0⟩ := trodAll_cons hA
  obtain ⟨_, _, d1, ds1, _, _, _, rfl, _, _, r1⟩ := trodAll_cons r0
  obtain ⟨_, rfl, _⟩ := trodAll_nil r1
  exact ⟨_, rfl, _, _, _, [], _, [], hW', trodAll_mk1 (shut_bool Try.underlying4 _), args_stay fact_laid bel (by kernel_rfl) hA hlt, rfl, bel.frame _, fun h => by cases h⟩
theorem closed : joinedFacts Try.prog 3 Try.f3 Rows.fnScrewsSpec Rows.fnScrewsRow = true := by
  unfold joinedFacts
  rw [fact_laid, fact_maps, fact_heard, fact_may, fact_lift, fact_make]
  kernel_rfl
theorem over : Rows.fnScrewsRow.holds Try.pinned (OpenSpec.ofChange Rows.fnScrewsSpec) :=
  OpenClaim.holds_of_wide 3 Try.f3 rfl rfl rfl rfl rfl rfl rfl ⟨rfl, rfl, rfl, rfl, rfl⟩ rfl rfl rfl rfl rfl (by kernel_rfl) Try.func3 closed
    (of_decide_eq_true (by kernel_rfl)) (by unfold Func.isWrapper; first | (rw [if_pos (by decide +kernel)]; kernel_rfl) | (rw [if_neg (by decide +kernel)]; exact ⟨rfl, rfl⟩))
    (fun os started H enc _ => lifted os started H enc)
theorem proved : Rows.FnScrewsSaid := over
end fnScrews
/-- The row, under a short name, for the claim. -/
theorem fnScrews_holds : Rows.FnScrewsSaid := fnScrews.proved


end Go.Proofs.Ytmlnfabkfajefaa
