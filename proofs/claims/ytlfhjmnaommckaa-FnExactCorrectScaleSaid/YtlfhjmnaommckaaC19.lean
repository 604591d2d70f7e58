/- Contracts of both packages' functions on vernier lines and misfits, for all scales that lie in memory; no other condition. -/
import Derived.Test.YtlfhjmnaommckaaAb
import Derived.Test.YtlfhjmnaommckaaC1
import Derived.Test.YtlfhjmnaommckaaC2
import Derived.Test.YtlfhjmnaommckaaC3
import Derived.Test.YtlfhjmnaommckaaC4
import Derived.Test.YtlfhjmnaommckaaC5
import Derived.Test.YtlfhjmnaommckaaC6
import Derived.Test.YtlfhjmnaommckaaC7
import Derived.Test.YtlfhjmnaommckaaC8
import Derived.Test.YtlfhjmnaommckaaC9
import Derived.Test.YtlfhjmnaommckaaCO
import Derived.Test.YtlfhjmnaommckaaC12
import Derived.Test.YtlfhjmnaommckaaC14
import Derived.Test.YtlfhjmnaommckaaC15
import Derived.Test.YtlfhjmnaommckaaC16
import Derived.Test.YtlfhjmnaommckaaC17
import Derived.Test.YtlfhjmnaommckaaC18
import Derived.Test.YtlfhjmnaommckaaCL
import Derived.Test.YtlfhjmnaommckaaProg
set_option linter.unusedVariables false
set_option linter.unusedSimpArgs false
namespace Go.Proofs.Ytlfhjmnaommckaa
open Ab

abbrev Ver := Int × Bool × Unit
def lineN (v : Ver) : Int := if v.2.1 then v.1 + 1 else v.1 - 1
def lineO (u x : Q) (v : Ver) (j : Int) : Option Q := (mulO ⟨j * lineN v, 1⟩ u).bind fun a => (divO a ⟨v.1, 1⟩).bind fun d => addO x d
def lineT (u x : Q) (v : Ver) (j : Int) : Q := tolO (addO x (tolO (divO (tolO (mulO ⟨j * lineN v, 1⟩ u)) ⟨v.1, 1⟩)))
def lineB (u x : Q) (v : Ver) (j : Int) : Bool := (mulO ⟨j * lineN v, 1⟩ u).isNone || (divO (tolO (mulO ⟨j * lineN v, 1⟩ u)) ⟨v.1, 1⟩).isNone || (addO x (tolO (divO (tolO (mulO ⟨j * lineN v, 1⟩ u)) ⟨v.1, 1⟩))).isNone
theorem lineB_none (u x : Q) (v : Ver) (j : Int) : lineB u x v j = (lineO u x v j).isNone := by
  unfold lineB lineO
  cases h : mulO ⟨j * lineN v, 1⟩ u with
  | none => simp
  | some a =>
    rw [tolO_some, Option.bind_some]
    cases h2 : divO a ⟨v.1, 1⟩ with
    | none => simp
    | some d => rw [tolO_some, Option.bind_some]; simp
theorem lineT_some {u x : Q} {v : Ver} {j : Int} {r : Q} (hr : lineO u x v j = some r) : lineT u x v j = r := by
  unfold lineO at hr
  unfold lineT
  cases h : mulO ⟨j * lineN v, 1⟩ u with
  | none => rw [h] at hr; cases hr
  | some a =>
    rw [h, Option.bind_some] at hr
    rw [tolO_some]
    cases h2 : divO a ⟨v.1, 1⟩ with
    | none => rw [h2] at hr; cases hr
    | some d =>
      rw [h2, Option.bind_some] at hr
      rw [tolO_some, hr, tolO_some]
theorem lineO_c1 {u x : Q} {v : Ver} {j : Int} (h : mulO ⟨j * lineN v, 1⟩ u = none) : lineO u x v j = none := by
  unfold lineO
  rw [h]
  rfl
theorem lineO_c2 {u x m : Q} {v : Ver} {j : Int} (h : mulO ⟨j * lineN v, 1⟩ u = some m) (h2 : divO m ⟨v.1, 1⟩ = none) : lineO u x v j = none := by
  unfold lineO
  rw [h, Option.bind_some, h2]
  rfl
theorem lineO_c3 {u x m d : Q} {v : Ver} {j : Int} (h : mulO ⟨j * lineN v, 1⟩ u = some m) (h2 : divO m ⟨v.1, 1⟩ = some d) : lineO u x v j = addO x d := by
  unfold lineO
  rw [h, Option.bind_some, h2]
  rfl
theorem okQ_outM {a b : Q} (h : ((outO (mulO a b)).2 != 0) = false) : okQ (outO (mulO a b)).1 = true := by
  have h1 := tolO_mul a b
  rw [outO_good h, tolO_some] at h1
  exact h1
theorem okQ_outD {a b : Q} (h : ((outO (divO a b)).2 != 0) = false) : okQ (outO (divO a b)).1 = true := by
  have h1 := tolO_div a b
  rw [outO_good h, tolO_some] at h1
  exact h1
theorem okQ_outA {a b : Q} (h : ((outO (addO a b)).2 != 0) = false) : okQ (outO (addO a b)).1 = true := by
  have h1 := tolO_add a b
  rw [outO_good h, tolO_some] at h1
  exact h1
abbrev LineIn (u x : Q) (v : Ver) (j : Int) : Prop := okQ u = true ∧ okV v = true ∧ okQ x = true ∧ withinB j 0 (v.1 - 1) = true
theorem line_wrap {p : Int} {bk : Bool} {u : Unit} (hv : okV (p, bk, u) = true) : IntKind.i64.wrap (p - 1) = p - 1 ∧ IntKind.i64.wrap (p + 1) = p + 1 := by
  have := within_iff.1 hv
  exact ⟨wrap_in (by omega) (by omega), wrap_in (by omega) (by omega)⟩
theorem line_facts {p j : Int} {bk : Bool} {u : Unit} (hv : okV (p, bk, u) = true) (hj : withinB j 0 (p - 1) = true) : IntKind.i64.wrap (j * (p - 1)) = j * (p - 1) ∧ IntKind.i64.wrap (j * (p + 1)) = j * (p + 1) ∧ okQ ⟨j * (p - 1), 1⟩ = true ∧ okQ ⟨j * (p + 1), 1⟩ = true ∧ okQ ⟨p, 1⟩ = true ∧ p ≠ 0 := by
  have h1 := within_iff.1 hv
  have h2 := within_iff.1 hj
  dsimp only at h1
  have a1 : 0 ≤ j * (p - 1) := Int.mul_nonneg (by omega) (by omega)
  have a2 : 0 ≤ j * (p + 1) := Int.mul_nonneg (by omega) (by omega)
  have b1 : j * (p - 1) ≤ 39 * 41 := Int.mul_le_mul (by omega) (by omega) (by omega) (by omega)
  have b2 : j * (p + 1) ≤ 39 * 41 := Int.mul_le_mul (by omega) (by omega) (by omega) (by omega)
  exact ⟨wrap_in (by omega) (by omega), wrap_in (by omega) (by omega), okQ_whole (within_iff.2 ⟨by omega, by omega⟩), okQ_whole (within_iff.2 ⟨by omega, by omega⟩), okV_q hv⟩
abbrev QI : ArgL (Q × Int × Unit) := .cons .frac (.cons .int .nil)
abbrev LA : ArgL (Scl × Ver × Q × Int × Unit) := .cons sclA (.cons (.agg VL) (.cons .frac (.cons .int .nil)))
abbrev LF : ArgL (Scl × Ver × Q × Unit) := .cons sclA (.cons (.agg VL) (.cons .frac .nil))
abbrev slineSp : Sp := .hf2 sclL 70 VL 109 QI (fun s v x (_ : Unit) _ => LineIn s.unit x.1 v x.2.1) (fun s v x _ => RQ (outO (lineO s.unit x.1 v x.2.1)))
set_option maxRecDepth 100000 in
theorem sline_ok : Sp.ok Try.prog 178 slineSp := by
  refine Sp.hf2_ok (T := ⟨[(132, wholeSp), (109, omulqSp), (108, odivqSp), (100, oaddqSp)], []⟩) follows eqok0 ⟨enters Try.func132 rfl rfl, whole_ok, enters Try.func109 rfl rfl, omulq_ok, enters Try.func108 rfl rfl, odivq_ok, enters Try.func100 rfl rfl, oaddq_ok, trivial⟩ [(4, .take 0 (.take 1 (.take 2 (.take 4 (.take 5 (.take 6 (.take 7 (.alt 3 (.alt 8 (.take 9 (.take 10 (.take 11 (.alt 12 (.alt 13 (.take 14 (.done)) (.last)) (.last))))) (.alt 12 (.alt 8 (.take 9 (.take 10 (.take 11 (.alt 13 (.take 14 (.done)) (.last))))) (.last)) (.last))) (.alt 12 (.alt 3 (.alt 8 (.take 9 (.take 10 (.take 11 (.alt 13 (.take 14 (.done)) (.last))))) (.last)) (.last)) (.last)))))))))), (7, .take 0 (.take 1 (.take 2 (.take 3 (.take 4 (.alt 5 (.alt 6 (.take 7 (.take 8 (.take 9 (.alt 10 (.alt 11 (.take 12 (.done)) (.last)) (.last))))) (.alt 10 (.alt 6 (.take 7 (.take 8 (.take 9 (.alt 11 (.take 12 (.done)) (.last))))) (.last)) (.last))) (.alt 10 (.alt 5 (.alt 6 (.take 7 (.take 8 (.take 9 (.alt 11 (.take 12 (.done)) (.last))))) (.last)) (.last)) (.last))))))))] Try.func178 rfl (by kernel_rfl) _ _ _ _ _ _ _ fun s v x l E hp => ?_
  obtain ⟨⟨a, b⟩, ⟨sa, n, c⟩⟩ := s
  obtain ⟨p, bk, u'⟩ := v
  obtain ⟨⟨x1, x2⟩, j, u⟩ := x
  obtain ⟨hu, hv, hx, hj⟩ := hp
  dsimp only at hu hv hx hj
  obtain ⟨w1, w2⟩ := line_wrap hv
  obtain ⟨w3, w4, k3, k4, k5, k6⟩ := line_facts hv hj
  (repeat' ((conv => whnf); (first | with_reducible apply And.intro | (with_reducible intro hh; first | (with_reducible have hx := NewRow.self hh; clear hx) | (with_reducible have hrow := Made.row hh; have hle := Made.le hh; have hmade := hh; clear hh) | (with_reducible have hrow := Fresh.rowS hh; have hle := Fresh.leS hh; have hfr := hh; clear hh) | (with_reducible have hx := Ext.self hh; clear hx) | (with_reducible have hx := SlV.self hh; clear hx) | (with_reducible have hx := Value.self hh; clear hx) | with_reducible cases hh | skip) | (with_reducible apply AllEq.mk; intro yy hq) | with_reducible apply trivial | with_reducible apply Exists.intro () | (with_reducible apply ex_side; (first | with_reducible assumption | with_reducible apply fracs1 | with_reducible apply fracs2 | with_reducible apply fracs3 | with_reducible apply spans1 | with_reducible apply spans2 | (with_reducible apply NewRow.keep; with_reducible assumption) | (with_reducible apply RowAt.keep; with_reducible assumption) | assumption | (focus ((repeat (first | with_reducible assumption | (with_reducible apply RowAt.le; rotate_left; with_reducible assumption) | (with_reducible apply RowB.le; rotate_left; with_reducible assumption))); done)))) | (with_reducible apply ex_side (a := (_, _)); (focus (with_reducible apply And.intro <;> (focus ((repeat (first | with_reducible assumption | (with_reducible apply RowAt.le; rotate_left; with_reducible assumption) | (with_reducible apply RowB.le; rotate_left; with_reducible assumption))); done))))))); (all_goals (conv => whnf)))
  (all_goals (try dsimp only [Q.eta, Sn.eta, SlV.eta] at *)); (all_goals (first | exact Side.mk trivial | with_reducible exact Side.mk rfl | exact Side.mk (fun _ _ h => h) | exact Side.mk (Made.le (by assumption)) | refine Side.mk ?_ | refine Don.mk ?_ | skip))
  all_goals subst_vars
  all_goals try simp only [w1, w2, w3, w4] at *
  all_goals try exact ⟨k3, hu⟩
  all_goals try (have h1 := (by assumption : ((outO (mulO ⟨j * (p - 1), 1⟩ ⟨a, b⟩)).2 != 0) = true); rw [lineO_c1 (v := (p, false, u')) (outO_code h1), outO_code h1]; exact ⟨rfl, rfl, rfl⟩)
  all_goals try (have h2 := (by assumption : ((outO (divO (outO (mulO ⟨j * (p - 1), 1⟩ ⟨a, b⟩)).1 ⟨p, 1⟩)).2 != 0) = true); rw [lineO_c2 (v := (p, false, u')) (outO_good (by assumption)) (outO_code h2), outO_code h2]; exact ⟨rfl, rfl, rfl⟩)
  all_goals try (have h2 := (by assumption : ((outO (divO (outO (mulO ⟨j * (p - 1), 1⟩ ⟨a, b⟩)).1 ⟨p, 1⟩)).2 != 0) = false); first | exact ⟨hx, okQ_outD h2⟩ | (rw [lineO_c3 (v := (p, false, u')) (outO_good (by assumption)) (outO_good h2)]; exact ⟨rfl, rfl, rfl⟩))
  all_goals try (have h1 := (by assumption : ((outO (mulO ⟨j * (p - 1), 1⟩ ⟨a, b⟩)).2 != 0) = false); exact ⟨⟨okQ_outM h1, k5⟩, k6⟩)
  all_goals try exact ⟨k4, hu⟩
  all_goals try (have h1 := (by assumption : ((outO (mulO ⟨j * (p + 1), 1⟩ ⟨a, b⟩)).2 != 0) = true); rw [lineO_c1 (v := (p, true, u')) (outO_code h1), outO_code h1]; exact ⟨rfl, rfl, rfl⟩)
  all_goals try (have h2 := (by assumption : ((outO (divO (outO (mulO ⟨j * (p + 1), 1⟩ ⟨a, b⟩)).1 ⟨p, 1⟩)).2 != 0) = true); rw [lineO_c2 (v := (p, true, u')) (outO_good (by assumption)) (outO_code h2), outO_code h2]; exact ⟨rfl, rfl, rfl⟩)
  all_goals try (have h2 := (by assumption : ((outO (divO (outO (mulO ⟨j * (p + 1), 1⟩ ⟨a, b⟩)).1 ⟨p, 1⟩)).2 != 0) = false); first | exact ⟨hx, okQ_outD h2⟩ | (rw [lineO_c3 (v := (p, true, u')) (outO_good (by assumption)) (outO_good h2)]; exact ⟨rfl, rfl, rfl⟩))
  all_goals try (have h1 := (by assumption : ((outO (mulO ⟨j * (p + 1), 1⟩ ⟨a, b⟩)).2 != 0) = false); exact ⟨⟨okQ_outM h1, k5⟩, k6⟩)
theorem slineq_ok : Sp.ok Try.prog 178 (.hq2 sclL 70 VL 109 QI (fun s v x (_ : Unit) _ => LineIn s.unit x.1 v x.2.1) RQ (fun s v x _ => outO (lineO s.unit x.1 v x.2.1))) := Sp.hq2_ok sline_ok
abbrev slineqSp : Sp := .hq2 sclL 70 VL 109 QI (fun s v x (_ : Unit) _ => LineIn s.unit x.1 v x.2.1) RQ (fun s v x _ => outO (lineO s.unit x.1 v x.2.1))
abbrev tlineSp : Sp := .sf SC 129 LA (fun _ x => LineIn x.1.unit x.2.2.1 x.2.1 x.2.2.2.1) (fun _ x => (lineT x.1.unit x.2.2.1 x.2.1 x.2.2.2.1).v) (fun s x => (s.1 || lineB x.1.unit x.2.2.1 x.2.1 x.2.2.2.1, ()))
set_option maxRecDepth 100000 in
theorem tline_ok : Sp.ok Try.prog 147 tlineSp := by
  refine Sp.sf_ok (T := ⟨[(94, wholeSp), (136, tmulqSp), (162, tdivqSp), (135, taddqSp)], []⟩) follows eqok0 ⟨enters Try.func94 rfl rfl, num_ok, enters Try.func136 rfl rfl, tmulq_ok, enters Try.func162 rfl rfl, tdivq_ok, enters Try.func135 rfl rfl, taddq_ok, trivial⟩ [(4, .take 0 (.take 1 (.take 2 (.take 3 (.take 4 (.take 5 (.take 6 (.take 8 (.take 9 (.take 11 (.take 12 (.alt 7 (.alt 10 (.alt 13 (.alt 14 (.alt 15 (.alt 16 (.done) (.last)) (.last)) (.last)) (.last)) (.last)) (.last)))))))))))))] Try.func147 rfl (by kernel_rfl) _ _ _ _ _ _ fun s x E hp => ?_
  obtain ⟨b0, u⟩ := s
  obtain ⟨⟨⟨a, b⟩, ⟨sa, n, c⟩⟩, ⟨p, bk, u'⟩, ⟨x1, x2⟩, j, u⟩ := x
  obtain ⟨hu, hv, hx, hj⟩ := hp
  dsimp only at hu hv hx hj
  obtain ⟨w1, w2⟩ := line_wrap hv
  obtain ⟨w3, w4, k3, k4, k5, k6⟩ := line_facts hv hj
  cases bk
  · (repeat' ((conv => whnf); (first | with_reducible apply And.intro | (with_reducible intro hh; first | (with_reducible have hx := NewRow.self hh; clear hx) | (with_reducible have hrow := Made.row hh; have hle := Made.le hh; have hmade := hh; clear hh) | (with_reducible have hrow := Fresh.rowS hh; have hle := Fresh.leS hh; have hfr := hh; clear hh) | (with_reducible have hx := Ext.self hh; clear hx) | (with_reducible have hx := SlV.self hh; clear hx) | (with_reducible have hx := Value.self hh; clear hx) | with_reducible cases hh | skip) | (with_reducible apply AllEq.mk; intro yy hq) | with_reducible apply trivial | with_reducible apply Exists.intro () | (with_reducible apply ex_side; (first | with_reducible assumption | with_reducible apply fracs1 | with_reducible apply fracs2 | with_reducible apply fracs3 | with_reducible apply spans1 | with_reducible apply spans2 | (with_reducible apply NewRow.keep; with_reducible assumption) | (with_reducible apply RowAt.keep; with_reducible assumption) | assumption | (focus ((repeat (first | with_reducible assumption | (with_reducible apply RowAt.le; rotate_left; with_reducible assumption) | (with_reducible apply RowB.le; rotate_left; with_reducible assumption))); done)))) | (with_reducible apply ex_side (a := (_, _)); (focus (with_reducible apply And.intro <;> (focus ((repeat (first | with_reducible assumption | (with_reducible apply RowAt.le; rotate_left; with_reducible assumption) | (with_reducible apply RowB.le; rotate_left; with_reducible assumption))); done))))))); (all_goals (conv => whnf)))
    (all_goals (try dsimp only [Q.eta, Sn.eta, SlV.eta] at *)); (all_goals (first | exact Side.mk trivial | with_reducible exact Side.mk rfl | exact Side.mk (fun _ _ h => h) | exact Side.mk (Made.le (by assumption)) | refine Side.mk ?_ | refine Don.mk ?_ | skip))
    all_goals subst_vars
    all_goals try simp only [w1, w2, w3, w4] at *
    all_goals first | exact ⟨k3, hu⟩ | exact ⟨tolO_mul _ _, k5⟩ | exact ⟨hx, tolO_div _ _⟩ | skip
    all_goals (unfold lineT lineB; simp only [lineN, Bool.or_assoc]; first | exact ⟨rfl, rfl⟩ | rfl)
  · (repeat' ((conv => whnf); (first | with_reducible apply And.intro | (with_reducible intro hh; first | (with_reducible have hx := NewRow.self hh; clear hx) | (with_reducible have hrow := Made.row hh; have hle := Made.le hh; have hmade := hh; clear hh) | (with_reducible have hrow := Fresh.rowS hh; have hle := Fresh.leS hh; have hfr := hh; clear hh) | (with_reducible have hx := Ext.self hh; clear hx) | (with_reducible have hx := SlV.self hh; clear hx) | (with_reducible have hx := Value.self hh; clear hx) | with_reducible cases hh | skip) | (with_reducible apply AllEq.mk; intro yy hq) | with_reducible apply trivial | with_reducible apply Exists.intro () | (with_reducible apply ex_side; (first | with_reducible assumption | with_reducible apply fracs1 | with_reducible apply fracs2 | with_reducible apply fracs3 | with_reducible apply spans1 | with_reducible apply spans2 | (with_reducible apply NewRow.keep; with_reducible assumption) | (with_reducible apply RowAt.keep; with_reducible assumption) | assumption | (focus ((repeat (first | with_reducible assumption | (with_reducible apply RowAt.le; rotate_left; with_reducible assumption) | (with_reducible apply RowB.le; rotate_left; with_reducible assumption))); done)))) | (with_reducible apply ex_side (a := (_, _)); (focus (with_reducible apply And.intro <;> (focus ((repeat (first | with_reducible assumption | (with_reducible apply RowAt.le; rotate_left; with_reducible assumption) | (with_reducible apply RowB.le; rotate_left; with_reducible assumption))); done))))))); (all_goals (conv => whnf)))
    (all_goals (try dsimp only [Q.eta, Sn.eta, SlV.eta] at *)); (all_goals (first | exact Side.mk trivial | with_reducible exact Side.mk rfl | exact Side.mk (fun _ _ h => h) | exact Side.mk (Made.le (by assumption)) | refine Side.mk ?_ | refine Don.mk ?_ | skip))
    all_goals subst_vars
    all_goals try simp only [w1, w2, w3, w4] at *
    all_goals first | exact ⟨k4, hu⟩ | exact ⟨tolO_mul _ _, k5⟩ | exact ⟨hx, tolO_div _ _⟩ | skip
    all_goals (unfold lineT lineB; simp only [lineN, Bool.or_assoc]; first | exact ⟨rfl, rfl⟩ | rfl)
theorem tlineq_ok : Sp.ok Try.prog 147 (.sq SC 129 LA (fun _ x => LineIn x.1.unit x.2.2.1 x.2.1 x.2.2.2.1) Q.v (fun _ x => lineT x.1.unit x.2.2.1 x.2.1 x.2.2.2.1) (fun s x => (s.1 || lineB x.1.unit x.2.2.1 x.2.1 x.2.2.2.1, ()))) := Sp.sq_ok tline_ok
abbrev tlineqSp : Sp := .sq SC 129 LA (fun _ x => LineIn x.1.unit x.2.2.1 x.2.1 x.2.2.2.1) Q.v (fun _ x => lineT x.1.unit x.2.2.1 x.2.1 x.2.2.2.1) (fun s x => (s.1 || lineB x.1.unit x.2.2.1 x.2.1 x.2.2.2.1, ()))

end Go.Proofs.Ytlfhjmnaommckaa
