/- The screw that is drawn is small, and the small tests of the laws; conditions: the bounds that each names. -/
import Derived.Test.YtmlnfabkfajefaaAb
import Derived.Test.YtmlnfabkfajefaaC1
import Derived.Test.YtmlnfabkfajefaaC2
import Derived.Test.YtmlnfabkfajefaaC3
import Derived.Test.YtmlnfabkfajefaaC4
import Derived.Test.YtmlnfabkfajefaaC5
import Derived.Test.YtmlnfabkfajefaaCL
import Derived.Test.YtmlnfabkfajefaaC6
import Derived.Test.YtmlnfabkfajefaaC7
import Derived.Test.YtmlnfabkfajefaaC8
import Derived.Test.YtmlnfabkfajefaaC9
import Derived.Test.YtmlnfabkfajefaaCO
import Derived.Test.YtmlnfabkfajefaaC10
import Derived.Test.YtmlnfabkfajefaaC11
import Derived.Test.YtmlnfabkfajefaaC12
import Derived.Test.YtmlnfabkfajefaaCN
import Derived.Test.YtmlnfabkfajefaaC14
import Derived.Test.YtmlnfabkfajefaaC24
import Derived.Test.YtmlnfabkfajefaaC25
import Derived.Test.YtmlnfabkfajefaaC27
import Derived.Test.YtmlnfabkfajefaaC30
import Derived.Test.YtmlnfabkfajefaaCK
import Derived.Test.YtmlnfabkfajefaaCG
import Derived.Test.YtmlnfabkfajefaaC35
import Derived.Test.YtmlnfabkfajefaaC36
import Derived.Test.YtmlnfabkfajefaaC37
import Derived.Test.YtmlnfabkfajefaaC38
import Derived.Test.YtmlnfabkfajefaaC70
import Derived.Test.YtmlnfabkfajefaaC71
import Derived.Test.YtmlnfabkfajefaaC72
import Derived.Test.YtmlnfabkfajefaaProg
set_option linter.unusedVariables false
set_option linter.unusedSimpArgs false
namespace Go.Proofs.Ytmlnfabkfajefaa
open Ab

theorem red_small {p q : Int} (hq : 1 ≤ q) (h1 : p.natAbs ≤ 1000000000) (h2 : q ≤ 1000000000) : okQ (redQ p q) = true ∧ vq (redQ p q) = (p : Rat) / (q : Rat) ∧ (redQ p q).p.natAbs ≤ p.natAbs ∧ (redQ p q).q.natAbs ≤ q.natAbs ∧ (redC p q) = 0 := by
  obtain ⟨a, ha, oa, va, k1, k2⟩ := mk_small (p := p) (q := q) (by omega) h1 (by omega)
  have e : redQ p q = a := (redQ_out (p, q)).trans (by rw [ha]; rfl)
  have e2 : redC p q = 0 := (redC_out (p, q)).trans (by rw [ha]; rfl)
  rw [e]
  exact ⟨oa, va, k1, k2, e2⟩
theorem rat_num {a : Q} {x : Rat} (ha : okQ a = true) (h : vq a = x) : (a.p : Rat) = x * (a.q : Rat) := by rw [← vq_mul (okQ_pos ha), h]
def drawnM (p q n v : Int) : Scr := ⟨redQ p q, 2 + n, redQ (v * (redQ p q).p) (16 * (redQ p q).q)⟩
theorem drawn_small {p q n v : Int} (p1 : 1 ≤ p) (p4 : p ≤ 4) (q1 : 1 ≤ q) (q3 : q ≤ 3) (n0 : 0 ≤ n) (n2 : n < 20) (v0 : 0 ≤ v) (v8 : v ≤ 8) : SmallM (drawnM p q n v) := by
  obtain ⟨o1, e1, b1, c1, _⟩ := red_small (p := p) (q := q) q1 (by omega) (by omega)
  have h1 := okQ_pos o1
  have hp : (0 : Rat) < (p : Rat) := rat_pos (by omega)
  have hq : (0 : Rat) < (q : Rat) := rat_pos (by omega)
  have hr : (0 : Rat) < ((redQ p q).q : Rat) := rat_pos h1
  have hx : (0 : Rat) < (p : Rat) / (q : Rat) := by rw [Rat.lt_div_iff hq]; grind
  have hn := rat_num o1 e1
  have hpp : 1 ≤ (redQ p q).p := by
    have : (0 : Rat) < ((redQ p q).p : Rat) := by rw [hn]; exact Rat.mul_pos hx hr
    have : 0 < (redQ p q).p := by exact_mod_cast this
    omega
  have hb : (v * (redQ p q).p).natAbs ≤ 32 := nm_mul (a := 8) (b := 4) (by omega) (by omega) (by omega)
  obtain ⟨o2, e2, b2, c2, _⟩ := red_small (p := v * (redQ p q).p) (q := 16 * (redQ p q).q) (by omega) (by omega) (by omega)
  have h2 := okQ_pos o2
  have hs : (0 : Rat) < ((redQ (v * (redQ p q).p) (16 * (redQ p q).q)).q : Rat) := rat_pos h2
  have hv : vq (redQ (v * (redQ p q).p) (16 * (redQ p q).q)) = (v : Rat) * vq (redQ p q) / 16 := by
    rw [e2]
    simp only [Rat.intCast_mul]
    have : ((16 : Int) : Rat) = 16 := rfl
    rw [this]
    unfold vq
    grind
  have hx' : 0 < vq (redQ p q) := by rw [e1]; exact hx
  have hv0 : (0 : Rat) ≤ (v : Rat) := by exact_mod_cast v0
  have hv8 : (v : Rat) ≤ 8 := by exact_mod_cast v8
  have hm1 : 0 ≤ (v : Rat) * vq (redQ p q) := Rat.mul_nonneg hv0 (by grind)
  have hm2 : (v : Rat) * vq (redQ p q) ≤ 8 * vq (redQ p q) := Rat.mul_le_mul_of_nonneg_right hv8 (by grind)
  have hhalf : 2 * vq (redQ (v * (redQ p q).p) (16 * (redQ p q).q)) ≤ vq (redQ p q) := by rw [hv]; grind
  have hy0 : 0 ≤ (redQ (v * (redQ p q).p) (16 * (redQ p q).q)).p := by
    have : (0 : Rat) ≤ ((redQ (v * (redQ p q).p) (16 * (redQ p q).q)).p : Rat) := by
      rw [rat_num o2 hv]
      exact Rat.mul_nonneg (by grind) (by grind)
    exact_mod_cast this
  have hle : cmpQ (redQ (v * (redQ p q).p) (16 * (redQ p q).q)) (redQ p q) ≤ 0 := (cmp_le h2 h1).2 (by grind)
  have h100 : cmpQ (redQ p q) ⟨100, 1⟩ ≤ 0 := by
    unfold cmpQ
    rw [if_pos (by show (redQ p q).p * 1 < 100 * (redQ p q).q; omega)]
    decide
  refine ⟨?_, o1, o2, hpp, ?_, ?_, ?_, ?_, hy0, ?_, ?_, hhalf⟩
  · unfold okM witQ drawnM
    dsimp only
    rw [o1, o2, within_iff.2 ⟨by omega, by omega⟩]
    simp [hy0, hle, h100]
    omega
  all_goals (unfold drawnM; dsimp only; omega)
theorem SrcOn.trans {b : Nat} {bs : List Int} {s : Src} {n n' k : Nat} {d : Int} {E E1 E2 : Ext} (h : SrcOn b bs s n E E1) (hk : k ≤ s.at_ + n) (h2 : SrcOn b bs ⟨s.sl, k, d⟩ n' E1 E2) : SrcOn b bs s (n + n') E E2 := by
  obtain ⟨k2, d2, e2, h3⟩ := h2.src
  exact ⟨⟨k2, d2, by dsimp only at e2; omega, h3⟩, h2.own.trans h.own, fun a ha => (h2.rest a ha).trans (h.rest a ha)⟩
abbrev p6screwSp : Sp := .nf FS (fun x (bs : List Int) E => Bytes8 x.1 bs E) (fun _ _ (y : Scr) => y.v) (fun x _ y E E' => Side (Keeps E E' ∧ SmallM y))
set_option maxHeartbeats 2000000 in
set_option maxRecDepth 100000 in
theorem p6screw_ok : Sp.ok Try.prog 5 p6screwSp := by
  refine Sp.nf_ok (T := ⟨[(21, fromSp), (23, pickSp), (22, reducedSp)], []⟩) follows eqok0 ⟨enters Try.func21 rfl rfl, from_ok, enters Try.func23 rfl rfl, pick_ok, enters Try.func22 rfl rfl, reduced_ok, trivial⟩ [(3, .take 0 (.take 1 (.alt 2 (.take 3 (.take 4 (.alt 5 (.alt 6 (.done) (.last)) (.last)))) (.alt 5 (.alt 2 (.take 3 (.take 4 (.alt 6 (.done) (.last)))) (.last)) (.last))))), (4, .take 0 (.take 2 (.take 3 (.take 5 (.take 6 (.take 7 (.alt 1 (.take 4 (.alt 8 (.take 9 (.take 10 (.take 11 (.take 12 (.alt 13 (.done) (.last)))))) (.last))) (.last))))))))] Try.func5 rfl (by kernel_rfl) _ _ _ _ fun x bs E hp => ?_
  obtain ⟨⟨sa, n, c⟩, u⟩ := x
  (repeat' ((conv => whnf); (first | with_reducible apply And.intro | (with_reducible intro hh; first | (with_reducible have hx := NewRow.self hh; clear hx) | (with_reducible have hrow := Made.row hh; have hle := Made.le hh; have hmade := hh; clear hh) | (with_reducible have hrow := Fresh.rowS hh; have hle := Fresh.leS hh; have hfr := hh; clear hh) | (with_reducible have hx := Ext.self hh; clear hx) | (with_reducible have hx := SlV.self hh; clear hx) | (with_reducible have hx := Value.self hh; clear hx) | with_reducible cases hh | skip) | (with_reducible apply AllEq.mk; intro yy hq) | with_reducible apply trivial | with_reducible apply Exists.intro () | (with_reducible apply ex_side; (first | with_reducible assumption | with_reducible apply fracs1 | with_reducible apply fracs2 | with_reducible apply fracs3 | with_reducible apply spans1 | with_reducible apply spans2 | (with_reducible apply NewRow.keep; with_reducible assumption) | (with_reducible apply RowAt.keep; with_reducible assumption) | assumption | (focus ((repeat (first | with_reducible assumption | (with_reducible apply RowAt.le; rotate_left; with_reducible assumption) | (with_reducible apply RowB.le; rotate_left; with_reducible assumption))); done)))) | (with_reducible apply ex_side (a := (_, _)); (focus (with_reducible apply And.intro <;> (focus ((repeat (first | with_reducible assumption | (with_reducible apply RowAt.le; rotate_left; with_reducible assumption) | (with_reducible apply RowB.le; rotate_left; with_reducible assumption))); done))))))); (all_goals (conv => whnf)))
  (all_goals (try dsimp only [Q.eta, Sn.eta, SlV.eta] at *)); (all_goals (first | exact Side.mk trivial | with_reducible exact Side.mk rfl | exact Side.mk (fun _ _ h => h) | exact Side.mk (Made.le (by assumption)) | refine Side.mk ?_ | refine Don.mk ?_ | skip))
  rename_i y E1
  obtain ⟨s1, k1, o1, f1⟩ := hh.out
  clear hh
  refine ⟨(y, bs, _), Side.mk ⟨rfl, s1, by dsimp only; omega, by omega⟩, fun a E2 h2 => ?_⟩
  obtain ⟨s2, a0, a1, _⟩ := h2.out
  have a1 : a < 4 := a1 (by show (1 : Int) ≤ 4; omega)
  obtain ⟨k2, d2, b2, s2c⟩ := s2.src
  have b2 : k2 ≤ 2 := by simpa using b2
  (repeat' ((conv => whnf); (first | with_reducible apply And.intro | (with_reducible intro hh; first | (with_reducible have hx := NewRow.self hh; clear hx) | (with_reducible have hrow := Made.row hh; have hle := Made.le hh; have hmade := hh; clear hh) | (with_reducible have hrow := Fresh.rowS hh; have hle := Fresh.leS hh; have hfr := hh; clear hh) | (with_reducible have hx := Ext.self hh; clear hx) | (with_reducible have hx := SlV.self hh; clear hx) | (with_reducible have hx := Value.self hh; clear hx) | with_reducible cases hh | skip) | (with_reducible apply AllEq.mk; intro yy hq) | with_reducible apply trivial | with_reducible apply Exists.intro () | (with_reducible apply ex_side; (first | with_reducible assumption | with_reducible apply fracs1 | with_reducible apply fracs2 | with_reducible apply fracs3 | with_reducible apply spans1 | with_reducible apply spans2 | (with_reducible apply NewRow.keep; with_reducible assumption) | (with_reducible apply RowAt.keep; with_reducible assumption) | assumption | (focus ((repeat (first | with_reducible assumption | (with_reducible apply RowAt.le; rotate_left; with_reducible assumption) | (with_reducible apply RowB.le; rotate_left; with_reducible assumption))); done)))) | (with_reducible apply ex_side (a := (_, _)); (focus (with_reducible apply And.intro <;> (focus ((repeat (first | with_reducible assumption | (with_reducible apply RowAt.le; rotate_left; with_reducible assumption) | (with_reducible apply RowB.le; rotate_left; with_reducible assumption))); done))))))); (all_goals (conv => whnf)))
  (all_goals (try dsimp only [Q.eta, Sn.eta, SlV.eta] at *)); (all_goals (first | exact Side.mk trivial | with_reducible exact Side.mk rfl | exact Side.mk (fun _ _ h => h) | exact Side.mk (Made.le (by assumption)) | refine Side.mk ?_ | refine Don.mk ?_ | skip))
  refine ⟨(y, bs, ⟨_, k2, d2⟩), Side.mk ⟨rfl, s2c, by dsimp only; omega, by omega⟩, fun b E3 h3 => ?_⟩
  obtain ⟨s3, b0, b1, _⟩ := h3.out
  have b1 : b < 3 := b1 (by show (1 : Int) ≤ 3; omega)
  obtain ⟨k3, d3, b3, s3c⟩ := s3.src
  have b3 : k3 ≤ k2 + 2 := b3
  have w1 : IntKind.i64.wrap (1 + a) = 1 + a := wrap_in (by omega) (by omega)
  have w2 : IntKind.i64.wrap (1 + b) = 1 + b := wrap_in (by omega) (by omega)
  have t3 := s2.trans (by simpa using b2) s3
  clear h2 h3
  (repeat' ((conv => whnf); (first | with_reducible apply And.intro | (with_reducible intro hh; first | (with_reducible have hx := NewRow.self hh; clear hx) | (with_reducible have hrow := Made.row hh; have hle := Made.le hh; have hmade := hh; clear hh) | (with_reducible have hrow := Fresh.rowS hh; have hle := Fresh.leS hh; have hfr := hh; clear hh) | (with_reducible have hx := Ext.self hh; clear hx) | (with_reducible have hx := SlV.self hh; clear hx) | (with_reducible have hx := Value.self hh; clear hx) | with_reducible cases hh | skip) | (with_reducible apply AllEq.mk; intro yy hq) | with_reducible apply trivial | with_reducible apply Exists.intro () | (with_reducible apply ex_side; (first | with_reducible assumption | with_reducible apply fracs1 | with_reducible apply fracs2 | with_reducible apply fracs3 | with_reducible apply spans1 | with_reducible apply spans2 | (with_reducible apply NewRow.keep; with_reducible assumption) | (with_reducible apply RowAt.keep; with_reducible assumption) | assumption | (focus ((repeat (first | with_reducible assumption | (with_reducible apply RowAt.le; rotate_left; with_reducible assumption) | (with_reducible apply RowB.le; rotate_left; with_reducible assumption))); done)))) | (with_reducible apply ex_side (a := (_, _)); (focus (with_reducible apply And.intro <;> (focus ((repeat (first | with_reducible assumption | (with_reducible apply RowAt.le; rotate_left; with_reducible assumption) | (with_reducible apply RowB.le; rotate_left; with_reducible assumption))); done))))))); (all_goals (conv => whnf)))
  (all_goals (try dsimp only [Q.eta, Sn.eta, SlV.eta] at *)); (all_goals (first | exact Side.mk trivial | with_reducible exact Side.mk rfl | exact Side.mk (fun _ _ h => h) | exact Side.mk (Made.le (by assumption)) | refine Side.mk ?_ | refine Don.mk ?_ | skip))
  all_goals rw [w1, w2]
  all_goals first
    | (refine ⟨?_, ?_, ?_⟩ <;> (try unfold B4) <;> omega)
    | skip
  all_goals (
    refine ⟨(y, bs, ⟨_, k3, d3⟩), Side.mk ⟨rfl, s3c, by dsimp only; omega, by omega⟩, fun e E4 h4 => ?_⟩
    obtain ⟨s4, e0, e1, _⟩ := h4.out
    have e1 : e < 20 := e1 (by show (1 : Int) ≤ 20; omega)
    obtain ⟨k4, d4, b4, s4c⟩ := s4.src
    have b4 : k4 ≤ k3 + 2 := b4
    have w3 : IntKind.i64.wrap (2 + e) = 2 + e := wrap_in (by omega) (by omega)
    have t4 := t3.trans (by show k3 ≤ 0 + (2 + 2); omega) s4
    clear h4
    (repeat' ((conv => whnf); (first | with_reducible apply And.intro | (with_reducible intro hh; first | (with_reducible have hx := NewRow.self hh; clear hx) | (with_reducible have hrow := Made.row hh; have hle := Made.le hh; have hmade := hh; clear hh) | (with_reducible have hrow := Fresh.rowS hh; have hle := Fresh.leS hh; have hfr := hh; clear hh) | (with_reducible have hx := Ext.self hh; clear hx) | (with_reducible have hx := SlV.self hh; clear hx) | (with_reducible have hx := Value.self hh; clear hx) | with_reducible cases hh | skip) | (with_reducible apply AllEq.mk; intro yy hq) | with_reducible apply trivial | with_reducible apply Exists.intro () | (with_reducible apply ex_side; (first | with_reducible assumption | with_reducible apply fracs1 | with_reducible apply fracs2 | with_reducible apply fracs3 | with_reducible apply spans1 | with_reducible apply spans2 | (with_reducible apply NewRow.keep; with_reducible assumption) | (with_reducible apply RowAt.keep; with_reducible assumption) | assumption | (focus ((repeat (first | with_reducible assumption | (with_reducible apply RowAt.le; rotate_left; with_reducible assumption) | (with_reducible apply RowB.le; rotate_left; with_reducible assumption))); done)))) | (with_reducible apply ex_side (a := (_, _)); (focus (with_reducible apply And.intro <;> (focus ((repeat (first | with_reducible assumption | (with_reducible apply RowAt.le; rotate_left; with_reducible assumption) | (with_reducible apply RowB.le; rotate_left; with_reducible assumption))); done))))))); (all_goals (conv => whnf)))
    (all_goals (try dsimp only [Q.eta, Sn.eta, SlV.eta] at *)); (all_goals (first | exact Side.mk trivial | with_reducible exact Side.mk rfl | exact Side.mk (fun _ _ h => h) | exact Side.mk (Made.le (by assumption)) | refine Side.mk ?_ | refine Don.mk ?_ | skip))
    rw [w3]
    refine ⟨(y, bs, ⟨_, k4, d4⟩), Side.mk ⟨rfl, s4c, by dsimp only; omega, by omega⟩, fun g E5 h5 => ?_⟩
    obtain ⟨s5, g0, g1, _⟩ := h5.out
    have g1 : g < 9 := g1 (by show (1 : Int) ≤ 9; omega)
    have t5 := t4.trans (by show k4 ≤ 0 + (2 + 2 + 2); omega) s5
    obtain ⟨r1, _, r2, r3, _⟩ := red_small (p := 1 + a) (q := 1 + b) (by omega) (by omega) (by omega)
    have r4 := okQ_pos r1
    have r5 : (g * (redQ (1 + a) (1 + b)).p).natAbs ≤ 32 := nm_mul (a := 8) (b := 4) (by omega) (by omega) (by omega)
    have w4 : IntKind.i64.wrap (g * (redQ (1 + a) (1 + b)).p) = g * (redQ (1 + a) (1 + b)).p := wrap_in (by omega) (by omega)
    have w5 : IntKind.i64.wrap (16 * (redQ (1 + a) (1 + b)).q) = 16 * (redQ (1 + a) (1 + b)).q := wrap_in (by omega) (by omega)
    clear h5
    (repeat' ((conv => whnf); (first | with_reducible apply And.intro | (with_reducible intro hh; first | (with_reducible have hx := NewRow.self hh; clear hx) | (with_reducible have hrow := Made.row hh; have hle := Made.le hh; have hmade := hh; clear hh) | (with_reducible have hrow := Fresh.rowS hh; have hle := Fresh.leS hh; have hfr := hh; clear hh) | (with_reducible have hx := Ext.self hh; clear hx) | (with_reducible have hx := SlV.self hh; clear hx) | (with_reducible have hx := Value.self hh; clear hx) | with_reducible cases hh | skip) | (with_reducible apply AllEq.mk; intro yy hq) | with_reducible apply trivial | with_reducible apply Exists.intro () | (with_reducible apply ex_side; (first | with_reducible assumption | with_reducible apply fracs1 | with_reducible apply fracs2 | with_reducible apply fracs3 | with_reducible apply spans1 | with_reducible apply spans2 | (with_reducible apply NewRow.keep; with_reducible assumption) | (with_reducible apply RowAt.keep; with_reducible assumption) | assumption | (focus ((repeat (first | with_reducible assumption | (with_reducible apply RowAt.le; rotate_left; with_reducible assumption) | (with_reducible apply RowB.le; rotate_left; with_reducible assumption))); done)))) | (with_reducible apply ex_side (a := (_, _)); (focus (with_reducible apply And.intro <;> (focus ((repeat (first | with_reducible assumption | (with_reducible apply RowAt.le; rotate_left; with_reducible assumption) | (with_reducible apply RowB.le; rotate_left; with_reducible assumption))); done))))))); (all_goals (conv => whnf)))
    (all_goals (try dsimp only [Q.eta, Sn.eta, SlV.eta] at *)); (all_goals (first | exact Side.mk trivial | with_reducible exact Side.mk rfl | exact Side.mk (fun _ _ h => h) | exact Side.mk (Made.le (by assumption)) | refine Side.mk ?_ | refine Don.mk ?_ | skip)))
  all_goals (try rw [w4, w5])
  all_goals first
    | (refine ⟨?_, ?_, ?_⟩ <;> (try unfold B4) <;> omega)
    | exact ⟨drawnM (1 + a) (1 + b) e g, rfl, Side.mk ⟨on_keeps k1 o1 f1 t5, drawn_small (by omega) (by omega) (by omega) (by omega) (by omega) (by omega) (by omega) (by omega)⟩⟩
    | skip
  done

end Go.Proofs.Ytmlnfabkfajefaa
