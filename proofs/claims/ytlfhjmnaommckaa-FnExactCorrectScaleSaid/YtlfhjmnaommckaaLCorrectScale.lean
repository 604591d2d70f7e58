/- The statement FnExactCorrectScaleSaid: spec and impl answer alike for every scale and list, leave both alone, and share no memory. Conditions: none beyond the statement's own. -/
import Derived.Test.YtlfhjmnaommckaaAb
import Derived.Test.YtlfhjmnaommckaaC1
import Derived.Test.YtlfhjmnaommckaaC2
import Derived.Test.YtlfhjmnaommckaaC3
import Derived.Test.YtlfhjmnaommckaaC4
import Derived.Test.YtlfhjmnaommckaaC5
import Derived.Test.YtlfhjmnaommckaaC6
import Derived.Test.YtlfhjmnaommckaaC7
import Derived.Test.YtlfhjmnaommckaaC8
import Derived.Test.YtlfhjmnaommckaaC9
import Derived.Test.YtlfhjmnaommckaaCO
import Derived.Test.YtlfhjmnaommckaaC12
import Derived.Test.YtlfhjmnaommckaaC14
import Derived.Test.YtlfhjmnaommckaaC15
import Derived.Test.YtlfhjmnaommckaaC16
import Derived.Test.YtlfhjmnaommckaaC17
import Derived.Test.YtlfhjmnaommckaaC18
import Derived.Test.YtlfhjmnaommckaaC19
import Derived.Test.YtlfhjmnaommckaaC25
import Derived.Test.YtlfhjmnaommckaaC30
import Derived.Test.YtlfhjmnaommckaaC31
import Derived.Test.YtlfhjmnaommckaaC32
import Derived.Test.YtlfhjmnaommckaaC33
import Derived.Test.YtlfhjmnaommckaaC34
import Derived.Test.YtlfhjmnaommckaaCL
import Derived.Test.YtlfhjmnaommckaaF
import Derived.Test.YtlfhjmnaommckaaProg
import Derived.Test.YtlfhjmnaommckaaChecked
import Derived.Test.YtlfhjmnaommckaaRows
import Derived.WalkKit
import Derived.ProofKit
import Derived.OpenShut
import Derived.ChangeOld
import Derived.Below
import Derived.SizedLaws
set_option linter.unusedVariables false
set_option linter.unusedSimpArgs false
namespace Go.Proofs.Ytlfhjmnaommckaa
open Ab

abbrev lawSp : Sp := .rf CS1 (fun x (l : List Q × List Q) E => FracsAt x.1.errs l.1 E ∧ FracsAt x.2.1 l.2 E) (fun _ _ => .bool true)
set_option maxHeartbeats 4000000 in
set_option maxRecDepth 100000 in
theorem law_ok : Sp.ok Try.prog 11 lawSp := by
  refine Sp.rf_ok (T := ⟨[(48, szScaleSp), (64, szSp), (50, toScaleSp), (66, toFracSSp), (65, corSp), (67, corSp), (52, eqScaleSp), (68, eqFracSSp), (62, mkScSp), (69, markSp), (63, hdScSp)], []⟩) follows eqok0 ⟨enters Try.func48 rfl rfl, szScale_ok, enters Try.func64 rfl rfl, szFracS_ok, enters Try.func50 rfl rfl, toScale_ok, enters Try.func66 rfl rfl, toFracS_ok, enters Try.func65 rfl rfl, scor_ok, enters Try.func67 rfl rfl, cor_ok, enters Try.func52 rfl rfl, eqScale_ok, enters Try.func68 rfl rfl, eqFracS_ok, enters Try.func62 rfl rfl, mkSc_ok, enters Try.func69 rfl rfl, mark_ok, enters Try.func63 rfl rfl, hdSc_ok, trivial⟩ [(14, .take 0 (.take 1 (.alt 2 (.alt 3 (.take 4 (.done)) (.last)) (.last))))] Try.func11 rfl (by kernel_rfl) _ _ _ fun x l E hp => ?_
  obtain ⟨⟨⟨a, b⟩, ⟨sa, n, c⟩⟩, ⟨sb, n', c'⟩, u⟩ := x
  obtain ⟨l, d⟩ := l
  obtain ⟨hp, hp'⟩ := hp
  dsimp only at hp hp'
  have hn := hp.1
  have hm := hp.2.1
  have hn' := hp'.1
  have hm' := hp'.2.1
  dsimp only at hn hm hn' hm'
  by_cases hsm : l.length ≤ 1048576
  · have hs : szR 1048576 n = 1048576 - n := if_neg (by omega)
    by_cases hsm' : l.length + d.length ≤ 1048576
    · have hB : RowB Q.cells 2 ⟨sa, n, c⟩ l E := ⟨hp, hsm⟩
      have hB' : RowB Q.cells 2 ⟨sb, n', c'⟩ d E := ⟨hp', by omega⟩
      have hs' : szR (szR 1048576 n) n' = 1048576 - n - n' := by rw [hs]; exact if_neg (by omega)
      have hev := cor_le ⟨a, b⟩ l d
      (repeat' ((conv => whnf); (first | with_reducible apply And.intro | (with_reducible intro hh; first | (with_reducible have hx := NewRow.self hh; clear hx) | (with_reducible have hrow := Made.row hh; have hle := Made.le hh; have hmade := hh; clear hh) | (with_reducible have hrow := Fresh.rowS hh; have hle := Fresh.leS hh; have hfr := hh; clear hh) | (with_reducible have hx := Ext.self hh; clear hx) | (with_reducible have hx := SlV.self hh; clear hx) | (with_reducible have hx := Value.self hh; clear hx) | with_reducible cases hh | skip) | (with_reducible apply AllEq.mk; intro yy hq) | with_reducible apply trivial | with_reducible apply Exists.intro () | (with_reducible apply ex_side; (first | with_reducible assumption | with_reducible apply fracs1 | with_reducible apply fracs2 | with_reducible apply fracs3 | with_reducible apply spans1 | with_reducible apply spans2 | (with_reducible apply NewRow.keep; with_reducible assumption) | (with_reducible apply RowAt.keep; with_reducible assumption) | assumption | (focus ((repeat (first | with_reducible assumption | (with_reducible apply RowAt.le; rotate_left; with_reducible assumption) | (with_reducible apply RowB.le; rotate_left; with_reducible assumption))); done)))) | (with_reducible apply ex_side (a := (_, _)); (focus (with_reducible apply And.intro <;> (focus ((repeat (first | with_reducible assumption | (with_reducible apply RowAt.le; rotate_left; with_reducible assumption) | (with_reducible apply RowB.le; rotate_left; with_reducible assumption))); done))))))); (all_goals (conv => whnf)))
      (all_goals (try dsimp only [Q.eta, Sn.eta, SlV.eta] at *)); (all_goals (first | exact Side.mk trivial | with_reducible exact Side.mk rfl | exact Side.mk (fun _ _ h => h) | exact Side.mk (Made.le (by assumption)) | refine Side.mk ?_ | refine Don.mk ?_ | skip))
      all_goals first | exact ⟨hm, by omega, by omega⟩ | exact ⟨hm', by omega, by omega⟩ | (exfalso; have := of_decide_eq_true (by assumption : decide (szR 1048576 n < 0) = true); omega) | (exfalso; have := of_decide_eq_true (by assumption : decide (szR (szR 1048576 n) n' < 0) = true); omega) | skip
      all_goals first | rfl | (exfalso; revert hh; simp; done) | skip
      all_goals (
        rename_i x1 E1 r1 l1 m1 y1 E2 r2 l2 m2 w E3 rw3 l3 fw x0 E4 r4 l4 m4 y0 E5 r5 l5 m5 g E6 rg l6 t1 t2 x2 E7 r7 l7 m7 t3 y2 E8
        clear hh t1 t2 t3
        obtain ⟨bx, hownx, hE3o, hE3, px, hpx⟩ := m4.rowOwn hsm
        obtain ⟨by', howny, hE4o, hE4, py, hpy⟩ := m5.rowOwn (by omega)
        obtain ⟨bg, howng, hnewg⟩ := hfr.out.rowOwn (by omega)
        have k68 : ∀ b p, E6.own b = some p → E8.own b = some p := fun b p h => (hmade.keep b p (m7.keep b p h).1).1
        have k58 : ∀ b p, E5.own b = some p → E8.own b = some p := fun b p h => k68 b p (hfr.out.keep b p h).1
        have hownx8 : RowOwn x0 bx E8 := hownx.keep fun b p h => k58 b p (m5.keep b p h).1
        have howny8 : RowOwn y0 by' E8 := howny.keep k58
        have howng8 : RowOwn g bg E8 := howng.keep k68
        have hapx := hfr.out.apart (m5.keep _ _ hpx).1
        have hapy := hfr.out.apart hpy
        have hg8 : RowAt Q.cells 2 g _ E8 := RowAt.le rg (Ext.le_trans l7 hle)
        have l38 : Ext.le E3 E8 := Ext.le_trans l4 (Ext.le_trans l5 (Ext.le_trans l6 (Ext.le_trans l7 hle)))
        have hgn := howng.1
        have hx0 : x0.n = l.length := r4.1
        have hy0 : y0.n = d.length := r5.1
        have hnewy : E3.own by' = none ∧ ∀ a v, E3 a = some v → a.block ≠ by' := ⟨m4.ownNone hE4o, fun a v ha => hE4 a v (l4 a v ha)⟩
        have hnewg3 : g.n = 0 ∨ E3.own bg = none ∧ ∀ a v, E3 a = some v → a.block ≠ bg := hnewg.imp id fun ⟨h1, h2⟩ => ⟨m4.ownNone (m5.ownNone h1), fun a v ha => h2 a v (l5 a v (l4 a v ha))⟩
        clear hfr fw hmade m1 m2 m4 m5 m7 r1 r2 r4 r5 r7 rg hrow l4 l5 l6 l7 hle k68 k58
        refine ⟨bx, Side.mk ⟨hownx8, by omega, by omega⟩, ?_⟩
        (repeat' ((conv => whnf); (first | with_reducible apply And.intro | (with_reducible intro hh; first | (with_reducible have hx := NewRow.self hh; clear hx) | (with_reducible have hrow := Made.row hh; have hle := Made.le hh; have hmade := hh; clear hh) | (with_reducible have hrow := Fresh.rowS hh; have hle := Fresh.leS hh; have hfr := hh; clear hh) | (with_reducible have hx := Ext.self hh; clear hx) | (with_reducible have hx := SlV.self hh; clear hx) | (with_reducible have hx := Value.self hh; clear hx) | with_reducible cases hh | skip) | (with_reducible apply AllEq.mk; intro yy hq) | with_reducible apply trivial | with_reducible apply Exists.intro () | (with_reducible apply ex_side; (first | with_reducible assumption | with_reducible apply fracs1 | with_reducible apply fracs2 | with_reducible apply fracs3 | with_reducible apply spans1 | with_reducible apply spans2 | (with_reducible apply NewRow.keep; with_reducible assumption) | (with_reducible apply RowAt.keep; with_reducible assumption) | assumption | (focus ((repeat (first | with_reducible assumption | (with_reducible apply RowAt.le; rotate_left; with_reducible assumption) | (with_reducible apply RowB.le; rotate_left; with_reducible assumption))); done)))) | (with_reducible apply ex_side (a := (_, _)); (focus (with_reducible apply And.intro <;> (focus ((repeat (first | with_reducible assumption | (with_reducible apply RowAt.le; rotate_left; with_reducible assumption) | (with_reducible apply RowB.le; rotate_left; with_reducible assumption))); done))))))); (all_goals (conv => whnf)))
        (all_goals (try dsimp only [Q.eta, Sn.eta, SlV.eta] at *)); (all_goals (first | exact Side.mk trivial | with_reducible exact Side.mk rfl | exact Side.mk (fun _ _ h => h) | exact Side.mk (Made.le (by assumption)) | refine Side.mk ?_ | refine Don.mk ?_ | skip))
        have hM := (by assumption : Side (Marked x0 _ _ _ _))
        have l39 := hM.out.le l38 (.inr ⟨hE3o, hE3⟩)
        have hg9 := hM.out.elsewhere hg8 hapx
        have howny9 : RowOwn y0 by' _ := howny8.keep fun b p h => (by rw [hM.out.own]; exact h)
        have howng9 : RowOwn g bg _ := howng8.keep fun b p h => (by rw [hM.out.own]; exact h)
        refine ⟨by', Side.mk ⟨howny9, by omega, by omega⟩, ?_⟩
        (repeat' ((conv => whnf); (first | with_reducible apply And.intro | (with_reducible intro hh; first | (with_reducible have hx := NewRow.self hh; clear hx) | (with_reducible have hrow := Made.row hh; have hle := Made.le hh; have hmade := hh; clear hh) | (with_reducible have hrow := Fresh.rowS hh; have hle := Fresh.leS hh; have hfr := hh; clear hh) | (with_reducible have hx := Ext.self hh; clear hx) | (with_reducible have hx := SlV.self hh; clear hx) | (with_reducible have hx := Value.self hh; clear hx) | with_reducible cases hh | skip) | (with_reducible apply AllEq.mk; intro yy hq) | with_reducible apply trivial | with_reducible apply Exists.intro () | (with_reducible apply ex_side; (first | with_reducible assumption | with_reducible apply fracs1 | with_reducible apply fracs2 | with_reducible apply fracs3 | with_reducible apply spans1 | with_reducible apply spans2 | (with_reducible apply NewRow.keep; with_reducible assumption) | (with_reducible apply RowAt.keep; with_reducible assumption) | assumption | (focus ((repeat (first | with_reducible assumption | (with_reducible apply RowAt.le; rotate_left; with_reducible assumption) | (with_reducible apply RowB.le; rotate_left; with_reducible assumption))); done)))) | (with_reducible apply ex_side (a := (_, _)); (focus (with_reducible apply And.intro <;> (focus ((repeat (first | with_reducible assumption | (with_reducible apply RowAt.le; rotate_left; with_reducible assumption) | (with_reducible apply RowB.le; rotate_left; with_reducible assumption))); done))))))); (all_goals (conv => whnf)))
        (all_goals (try dsimp only [Q.eta, Sn.eta, SlV.eta] at *)); (all_goals (first | exact Side.mk trivial | with_reducible exact Side.mk rfl | exact Side.mk (fun _ _ h => h) | exact Side.mk (Made.le (by assumption)) | refine Side.mk ?_ | refine Don.mk ?_ | skip))
        all_goals first | (exfalso; have := of_decide_eq_true hh; omega) | skip
        all_goals (
          have hN := (by assumption : Side (Marked y0 _ _ _ _))
          have l3a := hN.out.le l39 (.inr hnewy)
          have hga := hN.out.elsewhere hg9 hapy
          have hownga : RowOwn g bg _ := howng9.keep fun b p h => (by rw [hN.out.own]; exact h)
          refine ⟨(_, _), Side.mk ⟨hga, RowAt.le rw3 l3a⟩, ?_⟩
          (repeat' ((conv => whnf); (first | with_reducible apply And.intro | (with_reducible intro hh; first | (with_reducible have hx := NewRow.self hh; clear hx) | (with_reducible have hrow := Made.row hh; have hle := Made.le hh; have hmade := hh; clear hh) | (with_reducible have hrow := Fresh.rowS hh; have hle := Fresh.leS hh; have hfr := hh; clear hh) | (with_reducible have hx := Ext.self hh; clear hx) | (with_reducible have hx := SlV.self hh; clear hx) | (with_reducible have hx := Value.self hh; clear hx) | with_reducible cases hh | skip) | (with_reducible apply AllEq.mk; intro yy hq) | with_reducible apply trivial | with_reducible apply Exists.intro () | (with_reducible apply ex_side; (first | with_reducible assumption | with_reducible apply fracs1 | with_reducible apply fracs2 | with_reducible apply fracs3 | with_reducible apply spans1 | with_reducible apply spans2 | (with_reducible apply NewRow.keep; with_reducible assumption) | (with_reducible apply RowAt.keep; with_reducible assumption) | assumption | (focus ((repeat (first | with_reducible assumption | (with_reducible apply RowAt.le; rotate_left; with_reducible assumption) | (with_reducible apply RowB.le; rotate_left; with_reducible assumption))); done)))) | (with_reducible apply ex_side (a := (_, _)); (focus (with_reducible apply And.intro <;> (focus ((repeat (first | with_reducible assumption | (with_reducible apply RowAt.le; rotate_left; with_reducible assumption) | (with_reducible apply RowB.le; rotate_left; with_reducible assumption))); done))))))); (all_goals (conv => whnf)))
          (all_goals (try dsimp only [Q.eta, Sn.eta, SlV.eta] at *)); (all_goals (first | exact Side.mk trivial | with_reducible exact Side.mk rfl | exact Side.mk (fun _ _ h => h) | exact Side.mk (Made.le (by assumption)) | refine Side.mk ?_ | refine Don.mk ?_ | skip))
          all_goals first | rfl | (exfalso; revert hh; simp; done) | skip
          all_goals (
            refine ⟨bg, Side.mk ⟨hownga, by omega, by omega⟩, ?_⟩
            (repeat' ((conv => whnf); (first | with_reducible apply And.intro | (with_reducible intro hh; first | (with_reducible have hx := NewRow.self hh; clear hx) | (with_reducible have hrow := Made.row hh; have hle := Made.le hh; have hmade := hh; clear hh) | (with_reducible have hrow := Fresh.rowS hh; have hle := Fresh.leS hh; have hfr := hh; clear hh) | (with_reducible have hx := Ext.self hh; clear hx) | (with_reducible have hx := SlV.self hh; clear hx) | (with_reducible have hx := Value.self hh; clear hx) | with_reducible cases hh | skip) | (with_reducible apply AllEq.mk; intro yy hq) | with_reducible apply trivial | with_reducible apply Exists.intro () | (with_reducible apply ex_side; (first | with_reducible assumption | with_reducible apply fracs1 | with_reducible apply fracs2 | with_reducible apply fracs3 | with_reducible apply spans1 | with_reducible apply spans2 | (with_reducible apply NewRow.keep; with_reducible assumption) | (with_reducible apply RowAt.keep; with_reducible assumption) | assumption | (focus ((repeat (first | with_reducible assumption | (with_reducible apply RowAt.le; rotate_left; with_reducible assumption) | (with_reducible apply RowB.le; rotate_left; with_reducible assumption))); done)))) | (with_reducible apply ex_side (a := (_, _)); (focus (with_reducible apply And.intro <;> (focus ((repeat (first | with_reducible assumption | (with_reducible apply RowAt.le; rotate_left; with_reducible assumption) | (with_reducible apply RowB.le; rotate_left; with_reducible assumption))); done))))))); (all_goals (conv => whnf)))
            (all_goals (try dsimp only [Q.eta, Sn.eta, SlV.eta] at *)); (all_goals (first | exact Side.mk trivial | with_reducible exact Side.mk rfl | exact Side.mk (fun _ _ h => h) | exact Side.mk (Made.le (by assumption)) | refine Side.mk ?_ | refine Don.mk ?_ | skip))
            all_goals have hP := (by assumption : Side (Marked g _ _ _ _))
            all_goals first
              | exact ⟨hP.out.row, hgn, by decide, by decide⟩
              | (exfalso; revert hh; simp; done)
              | (exfalso; have := of_decide_eq_true hh; omega)
              | skip
            all_goals (
              have l3b := hP.out.le l3a hnewg3
              have rwb := RowAt.le rw3 l3b
              have rgb := hP.out.row
              have hBb := hB.le (Ext.le_trans l1 (Ext.le_trans l2 (Ext.le_trans l3 l3b)))
              have hBb' := hB'.le (Ext.le_trans l1 (Ext.le_trans l2 (Ext.le_trans l3 l3b)))
              refine ⟨_, Side.mk hBb, ?_⟩
              (repeat' ((conv => whnf); (first | with_reducible apply And.intro | (with_reducible intro hh; first | (with_reducible have hx := NewRow.self hh; clear hx) | (with_reducible have hrow := Made.row hh; have hle := Made.le hh; have hmade := hh; clear hh) | (with_reducible have hrow := Fresh.rowS hh; have hle := Fresh.leS hh; have hfr := hh; clear hh) | (with_reducible have hx := Ext.self hh; clear hx) | (with_reducible have hx := SlV.self hh; clear hx) | (with_reducible have hx := Value.self hh; clear hx) | with_reducible cases hh | skip) | (with_reducible apply AllEq.mk; intro yy hq) | with_reducible apply trivial | with_reducible apply Exists.intro () | (with_reducible apply ex_side; (first | with_reducible assumption | with_reducible apply fracs1 | with_reducible apply fracs2 | with_reducible apply fracs3 | with_reducible apply spans1 | with_reducible apply spans2 | (with_reducible apply NewRow.keep; with_reducible assumption) | (with_reducible apply RowAt.keep; with_reducible assumption) | assumption | (focus ((repeat (first | with_reducible assumption | (with_reducible apply RowAt.le; rotate_left; with_reducible assumption) | (with_reducible apply RowB.le; rotate_left; with_reducible assumption))); done)))) | (with_reducible apply ex_side (a := (_, _)); (focus (with_reducible apply And.intro <;> (focus ((repeat (first | with_reducible assumption | (with_reducible apply RowAt.le; rotate_left; with_reducible assumption) | (with_reducible apply RowB.le; rotate_left; with_reducible assumption))); done))))))); (all_goals (conv => whnf)))
              (all_goals (try dsimp only [Q.eta, Sn.eta, SlV.eta] at *)); (all_goals (first | exact Side.mk trivial | with_reducible exact Side.mk rfl | exact Side.mk (fun _ _ h => h) | exact Side.mk (Made.le (by assumption)) | refine Side.mk ?_ | refine Don.mk ?_ | skip))
              all_goals first
                | exact ⟨RowAt.le (RowAt.le (RowAt.le rgb (by assumption)) (by assumption)) (by assumption), hgn, by decide, by decide⟩
                | rfl
                | (exfalso; revert hh; simp; done)
                | (exfalso; have := of_decide_eq_true hh; omega)
                | skip
              all_goals trace_state))))
    · have hs' : szR (szR 1048576 n) n' = -1 := by rw [hs]; exact if_pos (by omega)
      (repeat' ((conv => whnf); (first | with_reducible apply And.intro | (with_reducible intro hh; first | (with_reducible have hx := NewRow.self hh; clear hx) | (with_reducible have hrow := Made.row hh; have hle := Made.le hh; have hmade := hh; clear hh) | (with_reducible have hrow := Fresh.rowS hh; have hle := Fresh.leS hh; have hfr := hh; clear hh) | (with_reducible have hx := Ext.self hh; clear hx) | (with_reducible have hx := SlV.self hh; clear hx) | (with_reducible have hx := Value.self hh; clear hx) | with_reducible cases hh | skip) | (with_reducible apply AllEq.mk; intro yy hq) | with_reducible apply trivial | with_reducible apply Exists.intro () | (with_reducible apply ex_side; (first | with_reducible assumption | with_reducible apply fracs1 | with_reducible apply fracs2 | with_reducible apply fracs3 | with_reducible apply spans1 | with_reducible apply spans2 | (with_reducible apply NewRow.keep; with_reducible assumption) | (with_reducible apply RowAt.keep; with_reducible assumption) | assumption | (focus ((repeat (first | with_reducible assumption | (with_reducible apply RowAt.le; rotate_left; with_reducible assumption) | (with_reducible apply RowB.le; rotate_left; with_reducible assumption))); done)))) | (with_reducible apply ex_side (a := (_, _)); (focus (with_reducible apply And.intro <;> (focus ((repeat (first | with_reducible assumption | (with_reducible apply RowAt.le; rotate_left; with_reducible assumption) | (with_reducible apply RowB.le; rotate_left; with_reducible assumption))); done))))))); (all_goals (conv => whnf)))
      (all_goals (try dsimp only [Q.eta, Sn.eta, SlV.eta] at *)); (all_goals (first | exact Side.mk trivial | with_reducible exact Side.mk rfl | exact Side.mk (fun _ _ h => h) | exact Side.mk (Made.le (by assumption)) | refine Side.mk ?_ | refine Don.mk ?_ | skip))
      all_goals first | exact ⟨hm, by omega, by omega⟩ | exact ⟨hm', by omega, by omega⟩ | (exfalso; have := of_decide_eq_true (by assumption : decide (szR 1048576 n < 0) = true); omega) | (exfalso; have := of_decide_eq_false (by assumption : decide (szR (szR 1048576 n) n' < 0) = false); omega) | rfl
  · have hs : szR 1048576 n = -1 := if_pos (by omega)
    (repeat' ((conv => whnf); (first | with_reducible apply And.intro | (with_reducible intro hh; first | (with_reducible have hx := NewRow.self hh; clear hx) | (with_reducible have hrow := Made.row hh; have hle := Made.le hh; have hmade := hh; clear hh) | (with_reducible have hrow := Fresh.rowS hh; have hle := Fresh.leS hh; have hfr := hh; clear hh) | (with_reducible have hx := Ext.self hh; clear hx) | (with_reducible have hx := SlV.self hh; clear hx) | (with_reducible have hx := Value.self hh; clear hx) | with_reducible cases hh | skip) | (with_reducible apply AllEq.mk; intro yy hq) | with_reducible apply trivial | with_reducible apply Exists.intro () | (with_reducible apply ex_side; (first | with_reducible assumption | with_reducible apply fracs1 | with_reducible apply fracs2 | with_reducible apply fracs3 | with_reducible apply spans1 | with_reducible apply spans2 | (with_reducible apply NewRow.keep; with_reducible assumption) | (with_reducible apply RowAt.keep; with_reducible assumption) | assumption | (focus ((repeat (first | with_reducible assumption | (with_reducible apply RowAt.le; rotate_left; with_reducible assumption) | (with_reducible apply RowB.le; rotate_left; with_reducible assumption))); done)))) | (with_reducible apply ex_side (a := (_, _)); (focus (with_reducible apply And.intro <;> (focus ((repeat (first | with_reducible assumption | (with_reducible apply RowAt.le; rotate_left; with_reducible assumption) | (with_reducible apply RowB.le; rotate_left; with_reducible assumption))); done))))))); (all_goals (conv => whnf)))
    (all_goals (try dsimp only [Q.eta, Sn.eta, SlV.eta] at *)); (all_goals (first | exact Side.mk trivial | with_reducible exact Side.mk rfl | exact Side.mk (fun _ _ h => h) | exact Side.mk (Made.le (by assumption)) | refine Side.mk ?_ | refine Don.mk ?_ | skip))
    all_goals first | exact ⟨hm, by omega, by omega⟩ | (exfalso; have := of_decide_eq_false (by assumption : decide (szR 1048576 n < 0) = false); omega) | rfl
namespace fnExactCorrectScale
open Go.ChangeShapes Go.WideShapes Go.ChangeAt Go.RowKit
set_option maxRecDepth 100000 in
theorem lifted (os : Os) (started : os.Started) (H : Type) (enc : TypeId × Value → H) :
    ReturnsInHanded {} Try.checked os 11 .any (Rows.fnExactCorrectScaleSpec.pre6 enc Try.prog Try.f11 Rows.fnExactCorrectScaleRow.domain false) (Rows.fnExactCorrectScaleSpec.post enc Try.prog Try.f11 false true false false) := by
  refine returnsInHanded_of_change_sized (C := Try.checked) fact_own started (by kernel_rfl) Try.func11
    (ChangeSpec.witness6 (enc := enc) (C := Try.checked) false ⟨#[], #[.agg #[.int .i64 0, .int .i64 0, .slice none 0 0], .slice none 0 0], []⟩ 8 (by kernel_rfl) (by kernel_rfl) (by kernel_rfl) (by kernel_rfl)) ?_
  intro W base args ds gs before hval0 hW hcnd hsz0 _
  have hval : ∀ (j : Nat) t v, Try.f11.params[j]? = some t → args[j]? = some v → Value.okWide Try.prog W .any base t v := hval0
  have hW' := hW
  obtain ⟨p, q, hA0, hV, rfl, hfz, hnd⟩ := hW
  have hA : DataW.TrodAll enc Try.prog W 0 (fun _ => true) true Try.f11.params.toList args.toList ds p := hA0
  rw [Try.params11] at hA hval
  obtain ⟨rfl, rfl⟩ := trodVars_none hV
  have opens := OpensL.cons (opens_scl Try.underlying65 (by kernel_rfl) (by kernel_rfl) Try.underlying2 Try.underlying63 (by kernel_rfl) (by kernel_rfl) (by kernel_rfl)) (OpensL.cons (opens_row (en := Q.cells) (W := QW) 2 2 Try.underlying63 (by kernel_rfl) (by kernel_rfl) (by kernel_rfl) (each_frac Try.underlying2)) (OpensL.nil (P := Try.prog)))
  obtain ⟨x, hx, hw⟩ := opens (fun j t v h1 h2 => hval j t v (by simpa using h1) (by simpa using h2)) hA
  obtain ⟨l, hl⟩ := (show ∃ l : List Q × List Q, FracsAt x.1.errs l.1 ⟨fun a => W.cell? a, fun _ => none⟩ ∧ FracsAt x.2.1 l.2 ⟨fun a => W.cell? a, fun _ => none⟩ from (by obtain ⟨⟨_, l, h, _⟩, ⟨l', h', _⟩, _⟩ := hw; exact ⟨(l, l'), h, h'⟩))
  have hlt : ∀ y ∈ p, y.block < W.heap.size := fun y hy => hW'.lt y (by simpa using hy)
  refine (Sp.calls (law_ok) hx (l := l) (args := args) rfl hl).mono fun e W' ⟨he, bel⟩ => ?_
  subst he
  obtain ⟨_, _, d0, ds0, _, _, _, rfl, _, _, r0⟩ := trodAll_cons hA
  obtain ⟨_, _, d1, ds1, _, _, _, rfl, _, _, r1⟩ := trodAll_cons r0
  obtain ⟨_, rfl, _⟩ := trodAll_nil r1
  exact ⟨_, rfl, _, _, _, [], _, [], hW', trodAll_mk1 (shut_bool Try.underlying4 _), args_stay fact_laid bel (by kernel_rfl) hA hlt, rfl, bel.frame _, fun h => by cases h⟩
theorem closed : joinedFacts Try.prog 11 Try.f11 Rows.fnExactCorrectScaleSpec Rows.fnExactCorrectScaleRow = true := by
  unfold joinedFacts
  rw [fact_laid, fact_maps, fact_heard, fact_may, fact_lift, fact_make]
  kernel_rfl
theorem over : Rows.fnExactCorrectScaleRow.holds Try.pinned (OpenSpec.ofChange Rows.fnExactCorrectScaleSpec) :=
  OpenClaim.holds_of_wide 11 Try.f11 rfl rfl rfl rfl rfl rfl rfl ⟨rfl, rfl, rfl, rfl, rfl⟩ rfl rfl rfl rfl rfl (by kernel_rfl) Try.func11 closed
    (of_decide_eq_true (by kernel_rfl)) (by unfold Func.isWrapper; first | (rw [if_pos (by decide +kernel)]; kernel_rfl) | (rw [if_neg (by decide +kernel)]; exact ⟨rfl, rfl⟩))
    (fun os started H enc _ => lifted os started H enc)
theorem proved : Rows.FnExactCorrectScaleSaid := over
end fnExactCorrectScale
/-- The row, under a short name, for the claim. -/
theorem fnExactCorrectScale_holds : Rows.FnExactCorrectScaleSaid := fnExactCorrectScale.proved


end Go.Proofs.Ytlfhjmnaommckaa
