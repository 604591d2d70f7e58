/- Contracts of both packages' functions on worst errors, verniers and least counts, for all scales that lie in memory; no other condition. -/
import Derived.Test.YtlfhjmnaommckaaAb
import Derived.Test.YtlfhjmnaommckaaC1
import Derived.Test.YtlfhjmnaommckaaC2
import Derived.Test.YtlfhjmnaommckaaC3
import Derived.Test.YtlfhjmnaommckaaC4
import Derived.Test.YtlfhjmnaommckaaC5
import Derived.Test.YtlfhjmnaommckaaC6
import Derived.Test.YtlfhjmnaommckaaC7
import Derived.Test.YtlfhjmnaommckaaC8
import Derived.Test.YtlfhjmnaommckaaC9
import Derived.Test.YtlfhjmnaommckaaCO
import Derived.Test.YtlfhjmnaommckaaC12
import Derived.Test.YtlfhjmnaommckaaC14
import Derived.Test.YtlfhjmnaommckaaC15
import Derived.Test.YtlfhjmnaommckaaC16
import Derived.Test.YtlfhjmnaommckaaCL
import Derived.Test.YtlfhjmnaommckaaProg
set_option linter.unusedVariables false
set_option linter.unusedSimpArgs false
namespace Go.Proofs.Ytlfhjmnaommckaa
open Ab

theorem okC_all {u : Q} {l : List Q} (h : okC u l = true) : allOk l = true := (okC_iff h).2.2.2.2.1
theorem okC_unit {u : Q} {l : List Q} (h : okC u l = true) : okQ u = true := (okC_iff h).1
def worstR (u : Q) (l : List Q) : Q × Int := grd Q0 (okC u l) 1 (worQ Q1 l, 0)
abbrev worstASp : Sp := .rf C1A (fun x (l : List Q) E => FracsAt x.1.errs l E) (fun x l => RQ (worstR x.1.unit l))
/-! verniers -/
abbrev V1 : ArgL ((Int × Bool × Unit) × Unit) := .cons (.agg VL) .nil
abbrev CV : ArgL (Scl × (Int × Bool × Unit) × Unit) := .cons sclA (.cons (.agg VL) .nil)
def okV (v : Int × Bool × Unit) : Bool := withinB v.1 2 40
abbrev vernSp : Sp := .pf V1 (fun _ => True) (fun x => .bool (okV x.1))
set_option maxRecDepth 100000 in
theorem vern_ok : Sp.ok Try.prog 180 vernSp := by
  refine Sp.pf_ok (T := ⟨[(95, withinSp)], []⟩) follows eqok0 ⟨enters Try.func95 rfl rfl, within_ok, trivial⟩ [] Try.func180 rfl (by kernel_rfl) _ _ _ fun x E hp => ?_
  obtain ⟨⟨p, b, u'⟩, u⟩ := x
  (repeat' ((conv => whnf); (first | with_reducible apply And.intro | (with_reducible intro hh; first | (with_reducible have hx := NewRow.self hh; clear hx) | (with_reducible have hrow := Made.row hh; have hle := Made.le hh; have hmade := hh; clear hh) | (with_reducible have hrow := Fresh.rowS hh; have hle := Fresh.leS hh; have hfr := hh; clear hh) | (with_reducible have hx := Ext.self hh; clear hx) | (with_reducible have hx := SlV.self hh; clear hx) | (with_reducible have hx := Value.self hh; clear hx) | with_reducible cases hh | skip) | (with_reducible apply AllEq.mk; intro yy hq) | with_reducible apply trivial | with_reducible apply Exists.intro () | (with_reducible apply ex_side; (first | with_reducible assumption | with_reducible apply fracs1 | with_reducible apply fracs2 | with_reducible apply fracs3 | with_reducible apply spans1 | with_reducible apply spans2 | (with_reducible apply NewRow.keep; with_reducible assumption) | (with_reducible apply RowAt.keep; with_reducible assumption) | assumption | (focus ((repeat (first | with_reducible assumption | (with_reducible apply RowAt.le; rotate_left; with_reducible assumption) | (with_reducible apply RowB.le; rotate_left; with_reducible assumption))); done)))) | (with_reducible apply ex_side (a := (_, _)); (focus (with_reducible apply And.intro <;> (focus ((repeat (first | with_reducible assumption | (with_reducible apply RowAt.le; rotate_left; with_reducible assumption) | (with_reducible apply RowB.le; rotate_left; with_reducible assumption))); done))))))); (all_goals (conv => whnf)))
  (all_goals (try dsimp only [Q.eta, Sn.eta, SlV.eta] at *)); (all_goals (first | exact Side.mk trivial | with_reducible exact Side.mk rfl | exact Side.mk (fun _ _ h => h) | exact Side.mk (Made.le (by assumption)) | refine Side.mk ?_ | refine Don.mk ?_ | skip))
  all_goals rfl
abbrev vernPSp : Sp := .hf VL 109 .nil (fun _ _ (_ : Unit) _ => True) (fun s _ _ => .bool (okV s))
set_option maxRecDepth 100000 in
theorem vernP_ok : Sp.ok Try.prog 177 vernPSp := by
  refine Sp.hf_ok (T := ⟨[(104, withinSp)], []⟩) follows eqok0 ⟨enters Try.func104 rfl rfl, in_ok, trivial⟩ [] Try.func177 rfl (by kernel_rfl) _ _ _ _ _ fun s x l E hp => ?_
  obtain ⟨p, b, u'⟩ := s
  (repeat' ((conv => whnf); (first | with_reducible apply And.intro | (with_reducible intro hh; first | (with_reducible have hx := NewRow.self hh; clear hx) | (with_reducible have hrow := Made.row hh; have hle := Made.le hh; have hmade := hh; clear hh) | (with_reducible have hrow := Fresh.rowS hh; have hle := Fresh.leS hh; have hfr := hh; clear hh) | (with_reducible have hx := Ext.self hh; clear hx) | (with_reducible have hx := SlV.self hh; clear hx) | (with_reducible have hx := Value.self hh; clear hx) | with_reducible cases hh | skip) | (with_reducible apply AllEq.mk; intro yy hq) | with_reducible apply trivial | with_reducible apply Exists.intro () | (with_reducible apply ex_side; (first | with_reducible assumption | with_reducible apply fracs1 | with_reducible apply fracs2 | with_reducible apply fracs3 | with_reducible apply spans1 | with_reducible apply spans2 | (with_reducible apply NewRow.keep; with_reducible assumption) | (with_reducible apply RowAt.keep; with_reducible assumption) | assumption | (focus ((repeat (first | with_reducible assumption | (with_reducible apply RowAt.le; rotate_left; with_reducible assumption) | (with_reducible apply RowB.le; rotate_left; with_reducible assumption))); done)))) | (with_reducible apply ex_side (a := (_, _)); (focus (with_reducible apply And.intro <;> (focus ((repeat (first | with_reducible assumption | (with_reducible apply RowAt.le; rotate_left; with_reducible assumption) | (with_reducible apply RowB.le; rotate_left; with_reducible assumption))); done))))))); (all_goals (conv => whnf)))
  (all_goals (try dsimp only [Q.eta, Sn.eta, SlV.eta] at *)); (all_goals (first | exact Side.mk trivial | with_reducible exact Side.mk rfl | exact Side.mk (fun _ _ h => h) | exact Side.mk (Made.le (by assumption)) | refine Side.mk ?_ | refine Don.mk ?_ | skip))
  all_goals exact ⟨rfl, rfl⟩
abbrev toVernSp : Sp := .pf V1 (fun _ => True) (fun x => (Arg.agg VL).enc x.1)
set_option maxRecDepth 100000 in
theorem toVern_ok : Sp.ok Try.prog 76 toVernSp := by
  refine Sp.pf_ok (T := ⟨[], []⟩) follows eqok0 trivial [] Try.func76 rfl (by kernel_rfl) _ _ _ fun x E hp => ?_
  obtain ⟨⟨p, b, u'⟩, u⟩ := x
  (repeat' ((conv => whnf); (first | with_reducible apply And.intro | (with_reducible intro hh; first | (with_reducible have hx := NewRow.self hh; clear hx) | (with_reducible have hrow := Made.row hh; have hle := Made.le hh; have hmade := hh; clear hh) | (with_reducible have hrow := Fresh.rowS hh; have hle := Fresh.leS hh; have hfr := hh; clear hh) | (with_reducible have hx := Ext.self hh; clear hx) | (with_reducible have hx := SlV.self hh; clear hx) | (with_reducible have hx := Value.self hh; clear hx) | with_reducible cases hh | skip) | (with_reducible apply AllEq.mk; intro yy hq) | with_reducible apply trivial | with_reducible apply Exists.intro () | (with_reducible apply ex_side; (first | with_reducible assumption | with_reducible apply fracs1 | with_reducible apply fracs2 | with_reducible apply fracs3 | with_reducible apply spans1 | with_reducible apply spans2 | (with_reducible apply NewRow.keep; with_reducible assumption) | (with_reducible apply RowAt.keep; with_reducible assumption) | assumption | (focus ((repeat (first | with_reducible assumption | (with_reducible apply RowAt.le; rotate_left; with_reducible assumption) | (with_reducible apply RowB.le; rotate_left; with_reducible assumption))); done)))) | (with_reducible apply ex_side (a := (_, _)); (focus (with_reducible apply And.intro <;> (focus ((repeat (first | with_reducible assumption | (with_reducible apply RowAt.le; rotate_left; with_reducible assumption) | (with_reducible apply RowB.le; rotate_left; with_reducible assumption))); done))))))); (all_goals (conv => whnf)))
  (all_goals (try dsimp only [Q.eta, Sn.eta, SlV.eta] at *)); (all_goals (first | exact Side.mk trivial | with_reducible exact Side.mk rfl | exact Side.mk (fun _ _ h => h) | exact Side.mk (Made.le (by assumption)) | refine Side.mk ?_ | refine Don.mk ?_ | skip))
  all_goals rfl
def leastR (u : Q) (l : List Q) (v : Int × Bool × Unit) : Q × Int := grd Q0 (okC u l && okV v) 1 (outO (divO u ⟨v.1, 1⟩))
abbrev leastASp : Sp := .rf CV (fun x (l : List Q) E => FracsAt x.1.errs l E) (fun x l => RQ (leastR x.1.unit l x.2.1))
theorem okV_q {p : Int} {b : Bool} {u : Unit} (h : okV (p, b, u) = true) : okQ ⟨p, 1⟩ = true ∧ p ≠ 0 := by
  have := within_iff.1 h
  exact ⟨okQ_whole (within_iff.2 ⟨by omega, by omega⟩), by omega⟩
theorem one_out (o : Option Q) : AV.v (.tuple #[(if (false || o.isNone) then (⟨0, 0⟩ : Q) else tolO o).v, .int .i64 (if (false || o.isNone) then 3 else 0)]) = AV.v (RQ (outO o)) := by
  cases o with
  | none => rw [outO_none]; rfl
  | some t => rw [outO_some, tolO_some]; rfl

end Go.Proofs.Ytlfhjmnaommckaa
