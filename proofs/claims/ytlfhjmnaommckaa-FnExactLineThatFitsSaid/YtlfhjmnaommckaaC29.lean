/- Contracts of both packages' functions that tell the line that fits, for all scales that lie in memory; no other condition. -/
import Derived.Test.YtlfhjmnaommckaaAb
import Derived.Test.YtlfhjmnaommckaaC1
import Derived.Test.YtlfhjmnaommckaaC2
import Derived.Test.YtlfhjmnaommckaaC3
import Derived.Test.YtlfhjmnaommckaaC4
import Derived.Test.YtlfhjmnaommckaaC5
import Derived.Test.YtlfhjmnaommckaaC6
import Derived.Test.YtlfhjmnaommckaaC7
import Derived.Test.YtlfhjmnaommckaaC8
import Derived.Test.YtlfhjmnaommckaaC9
import Derived.Test.YtlfhjmnaommckaaCO
import Derived.Test.YtlfhjmnaommckaaC12
import Derived.Test.YtlfhjmnaommckaaC13
import Derived.Test.YtlfhjmnaommckaaC14
import Derived.Test.YtlfhjmnaommckaaC15
import Derived.Test.YtlfhjmnaommckaaC16
import Derived.Test.YtlfhjmnaommckaaC17
import Derived.Test.YtlfhjmnaommckaaC18
import Derived.Test.YtlfhjmnaommckaaC19
import Derived.Test.YtlfhjmnaommckaaC20
import Derived.Test.YtlfhjmnaommckaaC21
import Derived.Test.YtlfhjmnaommckaaC23
import Derived.Test.YtlfhjmnaommckaaCL
import Derived.Test.YtlfhjmnaommckaaProg
set_option linter.unusedVariables false
set_option linter.unusedSimpArgs false
namespace Go.Proofs.Ytlfhjmnaommckaa
open Ab

def fitAR (u : Q) (l : List Q) (v : Ver) (x : Q) : Int × Int := grd 0 (askB u l v x) 1 (fitR u l v x)
abbrev fitASp : Sp := .rf LF (fun x (l : List Q) E => FracsAt x.1.errs l E) (fun x l => RI (fitAR x.1.unit l x.2.1 x.2.2.1))
theorem fit_end {u : Q} {l : List Q} {v : Ver} {x : Q} (hC : okC u l = true) {m : Nat} (hm : m ≠ 0) {b : IQ} {f : Bool} (h : fitT u l v x m 0 (-1, Q1) false = (b, f)) : f = (fitO u l v x m 0 (0, Q0)).isNone ∧ ∀ c, fitO u l v x m 0 (0, Q0) = some c → b = c := by
  have h1 := fitT_fitO v x hC m 0 (-1, Q1) false
  rw [fitO_start _ (0, Q0) hm, h, Bool.false_or] at h1
  exact h1
theorem line_bad {u x : Q} {v : Ver} {j : Int} (h : lineB u x v j = true) : lineO u x v j = none := by
  rw [lineB_none] at h
  exact Option.isNone_iff_eq_none.1 h
theorem line_good {u x : Q} {v : Ver} {j : Int} (h : lineB u x v j = false) : lineO u x v j = some (lineT u x v j) := by
  rw [lineB_none] at h
  cases ho : lineO u x v j with
  | none => rw [ho] at h; cases h
  | some t => rw [lineT_some ho]
set_option maxRecDepth 100000 in
theorem sfitA_ok : Sp.ok Try.prog 75 fitASp := by
  refine Sp.rf_ok (T := ⟨[(143, askSp), (144, sfitSp)], []⟩) follows eqok0 ⟨enters Try.func143 rfl rfl, ask_ok, enters Try.func144 rfl rfl, sfit_ok, trivial⟩ [] Try.func75 rfl (by kernel_rfl) _ _ _ fun x l E hp => ?_
  obtain ⟨⟨⟨a, b⟩, ⟨sa, n, c⟩⟩, ⟨p, bk, u'⟩, ⟨x1, x2⟩, u⟩ := x
  dsimp only at hp
  by_cases hA : askB ⟨a, b⟩ l (p, bk, u') ⟨x1, x2⟩ = true
  · obtain ⟨h1, h2, h3⟩ := askB_iff.1 hA
    have hc : (if askB ⟨a, b⟩ l (p, bk, u') ⟨x1, x2⟩ then (0 : Int) else 1) = 0 := if_pos hA
    have hF : FitIn ⟨sa, n, c⟩ ⟨a, b⟩ ⟨x1, x2⟩ (p, bk, u') l E := ⟨hp, h1, h2, h3⟩
    rw [fitAR, grd_yes hA]
    (repeat' ((conv => whnf); (first | with_reducible apply And.intro | (with_reducible intro hh; first | (with_reducible have hx := NewRow.self hh; clear hx) | (with_reducible have hrow := Made.row hh; have hle := Made.le hh; have hmade := hh; clear hh) | (with_reducible have hx := Ext.self hh; clear hx) | (with_reducible have hx := SlV.self hh; clear hx) | (with_reducible have hx := Value.self hh; clear hx) | with_reducible cases hh | skip) | (with_reducible apply AllEq.mk; intro yy hq) | with_reducible apply trivial | with_reducible apply Exists.intro () | (with_reducible apply ex_side; (first | with_reducible assumption | with_reducible apply fracs1 | with_reducible apply fracs2 | with_reducible apply fracs3 | with_reducible apply spans1 | with_reducible apply spans2 | (with_reducible apply NewRow.keep; with_reducible assumption) | (with_reducible apply RowAt.keep; with_reducible assumption) | assumption | (focus ((repeat (first | with_reducible assumption | (with_reducible apply RowAt.le; rotate_left; with_reducible assumption) | (with_reducible apply RowB.le; rotate_left; with_reducible assumption))); done)))) | (with_reducible apply ex_side (a := (_, _)); (focus (with_reducible apply And.intro <;> (focus ((repeat (first | with_reducible assumption | (with_reducible apply RowAt.le; rotate_left; with_reducible assumption) | (with_reducible apply RowB.le; rotate_left; with_reducible assumption))); done))))))); (all_goals (conv => whnf)))
    (all_goals (try dsimp only [Q.eta, Sn.eta, SlV.eta] at *)); (all_goals (first | exact Side.mk trivial | with_reducible exact Side.mk rfl | exact Side.mk (fun _ _ h => h) | exact Side.mk (Made.le (by assumption)) | refine Side.mk ?_ | refine Don.mk ?_ | skip))
    all_goals try simp only [hc] at *
    all_goals first | exact hF | rfl | (exfalso; exact absurd (by assumption : ((0 : Int) != 0) = true) (by decide))
  · have hA' : askB ⟨a, b⟩ l (p, bk, u') ⟨x1, x2⟩ = false := by simpa using hA
    have hc : (if askB ⟨a, b⟩ l (p, bk, u') ⟨x1, x2⟩ then (0 : Int) else 1) = 1 := if_neg hA
    rw [fitAR, grd_no hA']
    (repeat' ((conv => whnf); (first | with_reducible apply And.intro | (with_reducible intro hh; first | (with_reducible have hx := NewRow.self hh; clear hx) | (with_reducible have hrow := Made.row hh; have hle := Made.le hh; have hmade := hh; clear hh) | (with_reducible have hx := Ext.self hh; clear hx) | (with_reducible have hx := SlV.self hh; clear hx) | (with_reducible have hx := Value.self hh; clear hx) | with_reducible cases hh | skip) | (with_reducible apply AllEq.mk; intro yy hq) | with_reducible apply trivial | with_reducible apply Exists.intro () | (with_reducible apply ex_side; (first | with_reducible assumption | with_reducible apply fracs1 | with_reducible apply fracs2 | with_reducible apply fracs3 | with_reducible apply spans1 | with_reducible apply spans2 | (with_reducible apply NewRow.keep; with_reducible assumption) | (with_reducible apply RowAt.keep; with_reducible assumption) | assumption | (focus ((repeat (first | with_reducible assumption | (with_reducible apply RowAt.le; rotate_left; with_reducible assumption) | (with_reducible apply RowB.le; rotate_left; with_reducible assumption))); done)))) | (with_reducible apply ex_side (a := (_, _)); (focus (with_reducible apply And.intro <;> (focus ((repeat (first | with_reducible assumption | (with_reducible apply RowAt.le; rotate_left; with_reducible assumption) | (with_reducible apply RowB.le; rotate_left; with_reducible assumption))); done))))))); (all_goals (conv => whnf)))
    (all_goals (try dsimp only [Q.eta, Sn.eta, SlV.eta] at *)); (all_goals (first | exact Side.mk trivial | with_reducible exact Side.mk rfl | exact Side.mk (fun _ _ h => h) | exact Side.mk (Made.le (by assumption)) | refine Side.mk ?_ | refine Don.mk ?_ | skip))
    all_goals try simp only [hc] at *
    all_goals first | rfl | (exfalso; exact absurd (by assumption : ((1 : Int) != 0) = false) (by decide))

set_option maxHeartbeats 4000000 in
set_option maxRecDepth 100000 in
theorem fitA_ok : Sp.ok Try.prog 77 fitASp := by
  refine Sp.rf_ok (T := ⟨[(145, linCSp), (146, mkSp), (93, cmpSp), (147, tlineSp), (142, zeroSp), (148, tneaSp)], []⟩) follows eqok0 ⟨enters Try.func145 rfl rfl, linC_ok, enters Try.func146 rfl rfl, mk_ok, enters Try.func93 rfl rfl, cmp_ok, enters Try.func147 rfl rfl, tline_ok, enters Try.func142 rfl rfl, zero_ok, enters Try.func148 rfl rfl, tnea_ok, trivial⟩ [(4, .take 0 (.take 1 (.alt 2 (.alt 3 (.take 4 (.done)) (.last)) (.last)))), (10, .take 0 (.take 1 (.take 2 (.take 3 (.take 4 (.take 5 (.alt 6 (.alt 7 (.take 8 (.done)) (.last)) (.last)))))))), (16, .take 0 (.take 1 (.take 2 (.take 3 (.take 4 (.take 5 (.take 6 (.alt 7 (.alt 8 (.take 9 (.take 10 (.take 11 (.alt 12 (.take 13 (.alt 14 (.done) (.last))) (.last))))) (.alt 12 (.alt 8 (.take 9 (.take 10 (.take 11 (.take 13 (.alt 14 (.done) (.last)))))) (.last)) (.last))) (.alt 12 (.alt 7 (.alt 8 (.take 9 (.take 10 (.take 11 (.take 13 (.alt 14 (.done) (.last)))))) (.last)) (.last)) (.last)))))))))), (18, .take 0 (.take 1 (.take 2 (.alt 3 (.done) (.last)))))] Try.func77 rfl (by kernel_rfl) _ _ _ fun x l E hp => ?_
  obtain ⟨⟨⟨a, b⟩, ⟨sa, n, c⟩⟩, ⟨p, bk, u'⟩, ⟨x1, x2⟩, u⟩ := x
  dsimp only at hp
  have hn := hp.1
  dsimp only at hn
  by_cases hA : askB ⟨a, b⟩ l (p, bk, u') ⟨x1, x2⟩ = true
  · obtain ⟨hC, hv, hx⟩ := askB_iff.1 hA
    have hpb := within_iff.1 hv
    dsimp only at hpb
    have h60 := okC_iff hC
    obtain ⟨w1, w2⟩ := line_wrap hv
    have hz : withinB 0 0 (p - 1) = true := within_iff.2 ⟨by omega, by omega⟩
    have hc := lineC_0 (j := 0) hA hz
    have hall : okQ ⟨a, b⟩ = true ∧ okV (p, bk, u') = true ∧ okQ ⟨x1, x2⟩ = true := ⟨okC_unit hC, hv, hx⟩
    have hwn : IntKind.i64.wrap ((n : Int) - 1) = (l.length : Int) - 1 := by rw [wrap_in (by omega) (by omega), hn]
    obtain ⟨⟨hM0, e0, k0⟩, hM1, e1, k1⟩ := ends_of hp hC
    rw [← hwn] at hM1 e1
    have hL := fit_lines (j := p - 1) hall (by omega) (by omega)
    have hLw := hL
    rw [← w1] at hLw
    have f1 : markT ⟨a, b⟩ (IntKind.i64.wrap ((n : Int) - 1)).toNat (l.getD (IntKind.i64.wrap ((n : Int) - 1)).toNat Q0) = lastQ ⟨a, b⟩ l := markT_some e1
    have f0 : markT ⟨a, b⟩ (0 : Int).toNat (l.getD (0 : Int).toNat Q0) = firstQ ⟨a, b⟩ l := rfl
    have fn := lineB_none ⟨a, b⟩ ⟨x1, x2⟩ (p, bk, u') (p - 1)
    rw [fitAR, grd_yes hA]
    (repeat' ((conv => whnf); (first | with_reducible apply And.intro | (with_reducible intro hh; first | (with_reducible have hx := NewRow.self hh; clear hx) | (with_reducible have hrow := Made.row hh; have hle := Made.le hh; have hmade := hh; clear hh) | (with_reducible have hx := Ext.self hh; clear hx) | (with_reducible have hx := SlV.self hh; clear hx) | (with_reducible have hx := Value.self hh; clear hx) | with_reducible cases hh | skip) | (with_reducible apply AllEq.mk; intro yy hq) | with_reducible apply trivial | with_reducible apply Exists.intro () | (with_reducible apply ex_side; (first | with_reducible assumption | with_reducible apply fracs1 | with_reducible apply fracs2 | with_reducible apply fracs3 | with_reducible apply spans1 | with_reducible apply spans2 | (with_reducible apply NewRow.keep; with_reducible assumption) | (with_reducible apply RowAt.keep; with_reducible assumption) | assumption | (focus ((repeat (first | with_reducible assumption | (with_reducible apply RowAt.le; rotate_left; with_reducible assumption) | (with_reducible apply RowB.le; rotate_left; with_reducible assumption))); done)))) | (with_reducible apply ex_side (a := (_, _)); (focus (with_reducible apply And.intro <;> (focus ((repeat (first | with_reducible assumption | (with_reducible apply RowAt.le; rotate_left; with_reducible assumption) | (with_reducible apply RowB.le; rotate_left; with_reducible assumption))); done))))))); (all_goals (conv => whnf)))
    (all_goals (try dsimp only [Q.eta, Sn.eta, SlV.eta] at *)); (all_goals (first | exact Side.mk trivial | with_reducible exact Side.mk rfl | exact Side.mk (fun _ _ h => h) | exact Side.mk (Made.le (by assumption)) | refine Side.mk ?_ | refine Don.mk ?_ | skip))
    all_goals first
      | exact ⟨hx, k0⟩
      | exact hLw
      | exact ⟨tolO_add _ _, by rw [f1]; exact k1⟩
      | (exfalso; have h9 := (by assumption : (lineC ⟨a, b⟩ l (p, bk, ()) ⟨x1, x2⟩ 0 != 0) = true); rw [hc] at h9; exact absurd h9 (by decide))
      | (have h := of_decide_eq_true hh; rw [fitR_1 (u := ⟨a, b⟩) (l := l) h]; done)
      | (have h := of_decide_eq_false (by assumption : decide (cmpQ ⟨x1, x2⟩ (markT ⟨a, b⟩ (0 : Int).toNat (l.getD (0 : Int).toNat Q0)) < 0) = false); rw [Bool.false_or, w1] at hh; rw [fitR_2 (u := ⟨a, b⟩) (l := l) h (line_bad hh)]; done)
      | (have h := of_decide_eq_false (by assumption : decide (cmpQ ⟨x1, x2⟩ (markT ⟨a, b⟩ (0 : Int).toNat (l.getD (0 : Int).toNat Q0)) < 0) = false); have h2 := (by assumption : (false || lineB ⟨a, b⟩ ⟨x1, x2⟩ (p, bk, ()) (IntKind.i64.wrap (p - 1))) = false); rw [Bool.false_or, w1] at h2; have h3 := of_decide_eq_true hh; rw [f1, w1] at h3; rw [fitR_3 (u := ⟨a, b⟩) (l := l) h (line_good h2) h3]; done)
      | skip
    have h := of_decide_eq_false (by assumption : decide (cmpQ ⟨x1, x2⟩ (markT ⟨a, b⟩ (0 : Int).toNat (l.getD (0 : Int).toNat Q0)) < 0) = false)
    have hf0 := (by assumption : (false || lineB ⟨a, b⟩ ⟨x1, x2⟩ (p, bk, ()) (IntKind.i64.wrap (p - 1))) = false)
    have h2 := hf0
    rw [Bool.false_or, w1] at h2
    have h3 := of_decide_eq_false hh
    rw [f1, w1] at h3
    have hR : fitR ⟨a, b⟩ l (p, bk, ()) ⟨x1, x2⟩ = match fitO ⟨a, b⟩ l (p, bk, ()) ⟨x1, x2⟩ p.toNat 0 (0, Q0) with
      | none => (0, 3)
      | some c => (c.1, 0) := fitR_4 (u := ⟨a, b⟩) (l := l) h (line_good h2) h3
    have hend := fun {b' : IQ} {f : Bool} (h : fitT ⟨a, b⟩ l (p, bk, ()) ⟨x1, x2⟩ p.toNat 0 (-1, Q1) false = (b', f)) => fit_end (v := (p, bk, ())) (x := ⟨x1, x2⟩) hC (by omega) h
    clear h h2 h3 hh f0 f1
    refine ⟨fun m s => ∃ (k : Nat) (i j : Int) (w q1 : Q) (f : Bool) (g13 g14 g15 g55 g56 g57 g58 g59 g60 g61 g62 g63 g64 g65 g66 g67 g68 g69 g70 g71 g72 g73 g74 g75 g76 g79 : AV) (w0 w1 w2 w6 w7 w8 w16 w17 w18 w19 w20 w21 w22 w23 w24 w25 w26 w27 w28 w31 w32 w33 w35 w36 w37 w41 w42 w43 w45 w46 w47 w48 w49 w50 w51 w77 w78 w80 w81 w82 w83 w84 : Value), k + m = p.toNat ∧ j = (k : Int) ∧ (i < 0 ↔ k = 0) ∧ okQ w = true ∧ fitT ⟨a, b⟩ l (p, bk, ()) ⟨x1, x2⟩ p.toNat 0 (-1, Q1) false = fitT ⟨a, b⟩ l (p, bk, ()) ⟨x1, x2⟩ m k (i, w) f ∧ s = ⟨[.v w0, .v w1, .v w2, .p 0 0, .p 1 0, .p 2 0, .v w6, .v w7, .v w8, .p 3 0, .p 4 0, .v (.int .i64 i), .p 5 0, g13, g14, g15, .v w16, .v w17, .v w18, .v w19, .v w20, .v w21, .v w22, .v w23, .v w24, .v w25, .v w26, .v w27, .v w28, .p 3 0, .p 3 0, .v w31, .v w32, .v w33, .p 1 0, .v w35, .v w36, .v w37, .p 3 0, .p 3 0, .p 3 0, .v w41, .v w42, .v w43, .p 0 2, .v w45, .v w46, .v w47, .v w48, .v w49, .v w50, .v w51, .p 1 0, .v (.int .i64 p), .v (.int .i64 j), g55, g56, g57, g58, g59, g60, g61, g62, g63, g64, g65, g66, g67, g68, g69, g70, g71, g72, g73, g74, g75, g76, .v w77, .v w78, g79, .v w80, .v w81, .v w82, .v w83, .v w84], [([.int .i64 a, .int .i64 b, .slice sa n c], 70), ([.int .i64 p, .bool bk], 109), ([.int .i64 x1, .int .i64 x2], 25), ([.bool f], 129), ([.int .i64 q1.p, .int .i64 q1.q], 25), ([.int .i64 w.p, .int .i64 w.q], 25)], E⟩, ⟨_, 0, -1, _, Q1, _, (false || lineB ⟨a, b⟩ ⟨x1, x2⟩ (p, bk, ()) (IntKind.i64.wrap (p - 1))), _, _, _, _, _, _, _, _, _, _, _, _, _, _, _, _, _, _, _, _, _, _, _, _, _, _, _, _, _, _, _, _, _, _, _, _, _, _, _, _, _, _, _, _, _, _, _, _, _, _, _, _, _, _, _, _, _, _, _, _, _, _, _, _, _, _, _, _, Nat.zero_add _, rfl, by decide, by decide, by rw [hf0], rfl⟩, ?_⟩
    rintro m s ⟨k, i, j, w, q1, f, g13, g14, g15, g55, g56, g57, g58, g59, g60, g61, g62, g63, g64, g65, g66, g67, g68, g69, g70, g71, g72, g73, g74, g75, g76, g79, w0, w1, w2, w6, w7, w8, w16, w17, w18, w19, w20, w21, w22, w23, w24, w25, w26, w27, w28, w31, w32, w33, w35, w36, w37, w41, w42, w43, w45, w46, w47, w48, w49, w50, w51, w77, w78, w80, w81, w82, w83, w84, hm, rfl, hi, hw, hs, rfl⟩
    rcases m with _ | m
    · rw [fitT] at hs
      obtain ⟨g1, g2⟩ := hend hs
      (repeat' ((conv => whnf); (first | with_reducible apply And.intro | (with_reducible intro hh; first | (with_reducible have hx := NewRow.self hh; clear hx) | (with_reducible have hrow := Made.row hh; have hle := Made.le hh; have hmade := hh; clear hh) | (with_reducible have hx := Ext.self hh; clear hx) | (with_reducible have hx := SlV.self hh; clear hx) | (with_reducible have hx := Value.self hh; clear hx) | with_reducible cases hh | skip) | (with_reducible apply AllEq.mk; intro yy hq) | with_reducible apply trivial | with_reducible apply Exists.intro () | (with_reducible apply ex_side; (first | with_reducible assumption | with_reducible apply fracs1 | with_reducible apply fracs2 | with_reducible apply fracs3 | with_reducible apply spans1 | with_reducible apply spans2 | (with_reducible apply NewRow.keep; with_reducible assumption) | (with_reducible apply RowAt.keep; with_reducible assumption) | assumption | (focus ((repeat (first | with_reducible assumption | (with_reducible apply RowAt.le; rotate_left; with_reducible assumption) | (with_reducible apply RowB.le; rotate_left; with_reducible assumption))); done)))) | (with_reducible apply ex_side (a := (_, _)); (focus (with_reducible apply And.intro <;> (focus ((repeat (first | with_reducible assumption | (with_reducible apply RowAt.le; rotate_left; with_reducible assumption) | (with_reducible apply RowB.le; rotate_left; with_reducible assumption))); done))))))); (all_goals (conv => whnf)))
      (all_goals (try dsimp only [Q.eta, Sn.eta, SlV.eta] at *)); (all_goals (first | exact Side.mk trivial | with_reducible exact Side.mk rfl | exact Side.mk (fun _ _ h => h) | exact Side.mk (Made.le (by assumption)) | refine Side.mk ?_ | refine Don.mk ?_ | skip))
      all_goals try (exfalso; have := of_decide_eq_true (by assumption : decide ((k : Int) < p) = true); omega)
      all_goals (rw [hR]; cases h : fitO ⟨a, b⟩ l (p, bk, ()) ⟨x1, x2⟩ p.toNat 0 (0, Q0) with
        | none => first | rfl | (exfalso; rw [h] at g1; cases g1)
        | some c => first | (exfalso; rw [h] at g1; cases g1; done) | (rw [← g2 c h]))
    · rw [fitT] at hs
      have hlt : (k : Int) < p := by omega
      have hLk := fit_lines (j := (k : Int)) hall (by omega) hlt
      have hN : FracsAt ⟨sa, n, c⟩ l E ∧ okC ⟨a, b⟩ l = true ∧ okQ (lineT ⟨a, b⟩ ⟨x1, x2⟩ (p, bk, ()) (k : Int)) = true := ⟨hp, hC, tolO_add _ _⟩
      have hdm : okQ (misT ⟨a, b⟩ l (p, bk, ()) ⟨x1, x2⟩ (k : Int)) = true := misT_ok _ _ _ _ _
      have hw1 : IntKind.i64.wrap ((k : Int) + 1) = ((k + 1 : Nat) : Int) := by rw [wrap_in (by omega) (by omega)]; rfl
      have hfl : (f || misB ⟨a, b⟩ l (p, bk, ()) ⟨x1, x2⟩ (k : Int)) = ((f || lineB ⟨a, b⟩ ⟨x1, x2⟩ (p, bk, ()) (k : Int)) || (neaT ⟨a, b⟩ (lineT ⟨a, b⟩ ⟨x1, x2⟩ (p, bk, ()) (k : Int)) 0 (-1, Q1) false l).2) := by rw [misB, Bool.or_assoc]
      rw [hfl] at hs
      by_cases hc2 : k = 0 ∨ cmpQ (misT ⟨a, b⟩ l (p, bk, ()) ⟨x1, x2⟩ (k : Int)) w < 0
      · rw [if_pos hc2] at hs
        (repeat' ((conv => whnf); (first | with_reducible apply And.intro | (with_reducible intro hh; first | (with_reducible have hx := NewRow.self hh; clear hx) | (with_reducible have hrow := Made.row hh; have hle := Made.le hh; have hmade := hh; clear hh) | (with_reducible have hx := Ext.self hh; clear hx) | (with_reducible have hx := SlV.self hh; clear hx) | (with_reducible have hx := Value.self hh; clear hx) | with_reducible cases hh | skip) | (with_reducible apply AllEq.mk; intro yy hq) | with_reducible apply trivial | with_reducible apply Exists.intro () | (with_reducible apply ex_side; (first | with_reducible assumption | with_reducible apply fracs1 | with_reducible apply fracs2 | with_reducible apply fracs3 | with_reducible apply spans1 | with_reducible apply spans2 | (with_reducible apply NewRow.keep; with_reducible assumption) | (with_reducible apply RowAt.keep; with_reducible assumption) | assumption | (focus ((repeat (first | with_reducible assumption | (with_reducible apply RowAt.le; rotate_left; with_reducible assumption) | (with_reducible apply RowB.le; rotate_left; with_reducible assumption))); done)))) | (with_reducible apply ex_side (a := (_, _)); (focus (with_reducible apply And.intro <;> (focus ((repeat (first | with_reducible assumption | (with_reducible apply RowAt.le; rotate_left; with_reducible assumption) | (with_reducible apply RowB.le; rotate_left; with_reducible assumption))); done))))))); (all_goals (conv => whnf)))
        (all_goals (try dsimp only [Q.eta, Sn.eta, SlV.eta] at *)); (all_goals (first | exact Side.mk trivial | with_reducible exact Side.mk rfl | exact Side.mk (fun _ _ h => h) | exact Side.mk (Made.le (by assumption)) | refine Side.mk ?_ | refine Don.mk ?_ | skip))
        all_goals first | exact hLk | exact hN | exact ⟨hdm, hw⟩ | (refine ⟨m, Nat.lt_succ_self _, k + 1, _, _, _, _, _, _, _, _, _, _, _, _, _, _, _, _, _, _, _, _, _, _, _, _, _, _, _, _, _, _, _, _, _, _, _, _, _, _, _, _, _, _, _, _, _, _, _, _, _, _, _, _, _, _, _, _, _, _, _, _, _, _, _, _, _, _, _, _, _, _, _, _, _, by omega, hw1, by omega, hdm, hs, rfl⟩; done) | (exfalso; rcases hc2 with h | h; exact of_decide_eq_false (by assumption : decide (i < 0) = false) (hi.2 h); exact of_decide_eq_false (by assumption : decide (cmpQ (misT ⟨a, b⟩ l (p, bk, ()) ⟨x1, x2⟩ (k : Int)) w < 0) = false) h) | (exfalso; have := of_decide_eq_false (by assumption : decide ((k : Int) < p) = false); omega) | skip
      · rw [if_neg hc2] at hs
        (repeat' ((conv => whnf); (first | with_reducible apply And.intro | (with_reducible intro hh; first | (with_reducible have hx := NewRow.self hh; clear hx) | (with_reducible have hrow := Made.row hh; have hle := Made.le hh; have hmade := hh; clear hh) | (with_reducible have hx := Ext.self hh; clear hx) | (with_reducible have hx := SlV.self hh; clear hx) | (with_reducible have hx := Value.self hh; clear hx) | with_reducible cases hh | skip) | (with_reducible apply AllEq.mk; intro yy hq) | with_reducible apply trivial | with_reducible apply Exists.intro () | (with_reducible apply ex_side; (first | with_reducible assumption | with_reducible apply fracs1 | with_reducible apply fracs2 | with_reducible apply fracs3 | with_reducible apply spans1 | with_reducible apply spans2 | (with_reducible apply NewRow.keep; with_reducible assumption) | (with_reducible apply RowAt.keep; with_reducible assumption) | assumption | (focus ((repeat (first | with_reducible assumption | (with_reducible apply RowAt.le; rotate_left; with_reducible assumption) | (with_reducible apply RowB.le; rotate_left; with_reducible assumption))); done)))) | (with_reducible apply ex_side (a := (_, _)); (focus (with_reducible apply And.intro <;> (focus ((repeat (first | with_reducible assumption | (with_reducible apply RowAt.le; rotate_left; with_reducible assumption) | (with_reducible apply RowB.le; rotate_left; with_reducible assumption))); done))))))); (all_goals (conv => whnf)))
        (all_goals (try dsimp only [Q.eta, Sn.eta, SlV.eta] at *)); (all_goals (first | exact Side.mk trivial | with_reducible exact Side.mk rfl | exact Side.mk (fun _ _ h => h) | exact Side.mk (Made.le (by assumption)) | refine Side.mk ?_ | refine Don.mk ?_ | skip))
        all_goals first | exact hLk | exact hN | exact ⟨hdm, hw⟩ | (refine ⟨m, Nat.lt_succ_self _, k + 1, i, _, w, _, _, _, _, _, _, _, _, _, _, _, _, _, _, _, _, _, _, _, _, _, _, _, _, _, _, _, _, _, _, _, _, _, _, _, _, _, _, _, _, _, _, _, _, _, _, _, _, _, _, _, _, _, _, _, _, _, _, _, _, _, _, _, _, _, _, _, _, _, _, by omega, hw1, by omega, hw, hs, rfl⟩; done) | (exfalso; exact hc2 (.inl (hi.1 (of_decide_eq_true (by assumption : decide (i < 0) = true))))) | (exfalso; exact hc2 (.inr (of_decide_eq_true (by assumption : decide (cmpQ (misT ⟨a, b⟩ l (p, bk, ()) ⟨x1, x2⟩ (k : Int)) w < 0) = true)))) | (exfalso; have := of_decide_eq_false (by assumption : decide ((k : Int) < p) = false); omega) | skip
  · have hA' : askB ⟨a, b⟩ l (p, bk, u') ⟨x1, x2⟩ = false := by simpa using hA
    have hc := lineC_1 (j := 0) hA'
    rw [fitAR, grd_no hA']
    (repeat' ((conv => whnf); (first | with_reducible apply And.intro | (with_reducible intro hh; first | (with_reducible have hx := NewRow.self hh; clear hx) | (with_reducible have hrow := Made.row hh; have hle := Made.le hh; have hmade := hh; clear hh) | (with_reducible have hx := Ext.self hh; clear hx) | (with_reducible have hx := SlV.self hh; clear hx) | (with_reducible have hx := Value.self hh; clear hx) | with_reducible cases hh | skip) | (with_reducible apply AllEq.mk; intro yy hq) | with_reducible apply trivial | with_reducible apply Exists.intro () | (with_reducible apply ex_side; (first | with_reducible assumption | with_reducible apply fracs1 | with_reducible apply fracs2 | with_reducible apply fracs3 | with_reducible apply spans1 | with_reducible apply spans2 | (with_reducible apply NewRow.keep; with_reducible assumption) | (with_reducible apply RowAt.keep; with_reducible assumption) | assumption | (focus ((repeat (first | with_reducible assumption | (with_reducible apply RowAt.le; rotate_left; with_reducible assumption) | (with_reducible apply RowB.le; rotate_left; with_reducible assumption))); done)))) | (with_reducible apply ex_side (a := (_, _)); (focus (with_reducible apply And.intro <;> (focus ((repeat (first | with_reducible assumption | (with_reducible apply RowAt.le; rotate_left; with_reducible assumption) | (with_reducible apply RowB.le; rotate_left; with_reducible assumption))); done))))))); (all_goals (conv => whnf)))
    (all_goals (try dsimp only [Q.eta, Sn.eta, SlV.eta] at *)); (all_goals (first | exact Side.mk trivial | with_reducible exact Side.mk rfl | exact Side.mk (fun _ _ h => h) | exact Side.mk (Made.le (by assumption)) | refine Side.mk ?_ | refine Don.mk ?_ | skip))
    all_goals try simp only [hc] at *
    all_goals first | rfl | (exfalso; exact absurd (by assumption : ((1 : Int) != 0) = false) (by decide))

end Go.Proofs.Ytlfhjmnaommckaa
