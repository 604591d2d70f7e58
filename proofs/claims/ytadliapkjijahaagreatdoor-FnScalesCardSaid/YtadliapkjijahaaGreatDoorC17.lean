/- Contracts of both packages' functions on worst errors, verniers and least counts, for all scales that lie in memory; no other condition. -/
import Derived.Test.YtadliapkjijahaaGreatDoorAb
import Derived.Test.YtadliapkjijahaaGreatDoorC1
import Derived.Test.YtadliapkjijahaaGreatDoorC2
import Derived.Test.YtadliapkjijahaaGreatDoorC3
import Derived.Test.YtadliapkjijahaaGreatDoorC4
import Derived.Test.YtadliapkjijahaaGreatDoorC5
import Derived.Test.YtadliapkjijahaaGreatDoorC6
import Derived.Test.YtadliapkjijahaaGreatDoorC7
import Derived.Test.YtadliapkjijahaaGreatDoorC8
import Derived.Test.YtadliapkjijahaaGreatDoorC9
import Derived.Test.YtadliapkjijahaaGreatDoorCO
import Derived.Test.YtadliapkjijahaaGreatDoorC12
import Derived.Test.YtadliapkjijahaaGreatDoorC14
import Derived.Test.YtadliapkjijahaaGreatDoorC15
import Derived.Test.YtadliapkjijahaaGreatDoorC16
import Derived.Test.YtadliapkjijahaaGreatDoorCL
import Derived.Test.YtadliapkjijahaaGreatDoorProg
set_option linter.unusedVariables false
set_option linter.unusedSimpArgs false
namespace Go.Proofs.YtadliapkjijahaaGreatDoor
open Ab

theorem okC_all {u : Q} {l : List Q} (h : okC u l = true) : allOk l = true := (okC_iff h).2.2.2.2.1
theorem okC_unit {u : Q} {l : List Q} (h : okC u l = true) : okQ u = true := (okC_iff h).1
def worstR (u : Q) (l : List Q) : Q × Int := grd Q0 (okC u l) 1 (worQ Q1 l, 0)
abbrev worstASp : Sp := .rf C1A (fun x (l : List Q) E => FracsAt x.1.errs l E) (fun x l => RQ (worstR x.1.unit l))
set_option maxRecDepth 100000 in
theorem worstA_ok : Sp.ok Tryz.prog 34 worstASp := by
  refine Sp.rf_ok (T := ⟨[(72, scaleOkVSp), (81, worSp)], []⟩) follows eqok0 ⟨enters Tryz.func72 rfl rfl, scaleV_ok, enters Tryz.func81 rfl rfl, wor_ok, trivial⟩ [] Tryz.func34 rfl (by kernel_rfl) _ _ _ fun x l E hp => ?_
  obtain ⟨⟨⟨a, b⟩, ⟨sa, n, c⟩⟩, u⟩ := x
  dsimp only at hp
  by_cases hC : okC ⟨a, b⟩ l = true
  · have hA : AllRow' ⟨sa, n, c⟩ l E := ⟨hp, okC_all hC⟩
    (repeat' ((conv => whnf); (first | with_reducible apply And.intro | (with_reducible intro hh; first | (with_reducible have hx := NewRow.self hh; clear hx) | (with_reducible have hrow := Made.row hh; have hle := Made.le hh; have hmade := hh; clear hh) | (with_reducible have hrow := Fresh.rowS hh; have hle := Fresh.leS hh; have hfr := hh; clear hh) | (with_reducible have hx := Ext.self hh; clear hx) | (with_reducible have hx := SlV.self hh; clear hx) | (with_reducible have hx := Value.self hh; clear hx) | with_reducible cases hh | skip) | (with_reducible apply AllEq.mk; intro yy hq) | with_reducible apply trivial | with_reducible apply Exists.intro () | (with_reducible apply ex_side; (first | with_reducible assumption | with_reducible apply fracs1 | with_reducible apply fracs2 | with_reducible apply fracs3 | with_reducible apply spans1 | with_reducible apply spans2 | (with_reducible apply NewRow.keep; with_reducible assumption) | (with_reducible apply RowAt.keep; with_reducible assumption) | assumption | (focus ((repeat (first | with_reducible assumption | (with_reducible apply RowAt.le; rotate_left; with_reducible assumption) | (with_reducible apply RowB.le; rotate_left; with_reducible assumption))); done)))) | (with_reducible apply ex_side (a := (_, _)); (focus (with_reducible apply And.intro <;> (focus ((repeat (first | with_reducible assumption | (with_reducible apply RowAt.le; rotate_left; with_reducible assumption) | (with_reducible apply RowB.le; rotate_left; with_reducible assumption))); done))))))); (all_goals (conv => whnf)))
    (all_goals (try dsimp only [Q.eta, Sn.eta, SlV.eta] at *)); (all_goals (first | exact Side.mk trivial | with_reducible exact Side.mk rfl | exact Side.mk (fun _ _ h => h) | exact Side.mk (Made.le (by assumption)) | refine Side.mk ?_ | refine Don.mk ?_ | skip))
    all_goals try (exfalso; rw [hC] at hh; cases hh; done)
    rw [worstR, grd_yes hC]
    rfl
  · (repeat' ((conv => whnf); (first | with_reducible apply And.intro | (with_reducible intro hh; first | (with_reducible have hx := NewRow.self hh; clear hx) | (with_reducible have hrow := Made.row hh; have hle := Made.le hh; have hmade := hh; clear hh) | (with_reducible have hrow := Fresh.rowS hh; have hle := Fresh.leS hh; have hfr := hh; clear hh) | (with_reducible have hx := Ext.self hh; clear hx) | (with_reducible have hx := SlV.self hh; clear hx) | (with_reducible have hx := Value.self hh; clear hx) | with_reducible cases hh | skip) | (with_reducible apply AllEq.mk; intro yy hq) | with_reducible apply trivial | with_reducible apply Exists.intro () | (with_reducible apply ex_side; (first | with_reducible assumption | with_reducible apply fracs1 | with_reducible apply fracs2 | with_reducible apply fracs3 | with_reducible apply spans1 | with_reducible apply spans2 | (with_reducible apply NewRow.keep; with_reducible assumption) | (with_reducible apply RowAt.keep; with_reducible assumption) | assumption | (focus ((repeat (first | with_reducible assumption | (with_reducible apply RowAt.le; rotate_left; with_reducible assumption) | (with_reducible apply RowB.le; rotate_left; with_reducible assumption))); done)))) | (with_reducible apply ex_side (a := (_, _)); (focus (with_reducible apply And.intro <;> (focus ((repeat (first | with_reducible assumption | (with_reducible apply RowAt.le; rotate_left; with_reducible assumption) | (with_reducible apply RowB.le; rotate_left; with_reducible assumption))); done))))))); (all_goals (conv => whnf)))
    (all_goals (try dsimp only [Q.eta, Sn.eta, SlV.eta] at *)); (all_goals (first | exact Side.mk trivial | with_reducible exact Side.mk rfl | exact Side.mk (fun _ _ h => h) | exact Side.mk (Made.le (by assumption)) | refine Side.mk ?_ | refine Don.mk ?_ | skip))
    all_goals first | (exfalso; exact hC (not_f (by assumption))) | (rw [worstR, grd_no (by simpa using hC)]; rfl)
/-! verniers -/
abbrev V1 : ArgL ((Int × Bool × Unit) × Unit) := .cons (.agg VL) .nil
abbrev CV : ArgL (Scl × (Int × Bool × Unit) × Unit) := .cons sclA (.cons (.agg VL) .nil)
def okV (v : Int × Bool × Unit) : Bool := withinB v.1 2 40
abbrev vernSp : Sp := .pf V1 (fun _ => True) (fun x => .bool (okV x.1))
def leastR (u : Q) (l : List Q) (v : Int × Bool × Unit) : Q × Int := grd Q0 (okC u l && okV v) 1 (outO (divO u ⟨v.1, 1⟩))
abbrev leastASp : Sp := .rf CV (fun x (l : List Q) E => FracsAt x.1.errs l E) (fun x l => RQ (leastR x.1.unit l x.2.1))
theorem okV_q {p : Int} {b : Bool} {u : Unit} (h : okV (p, b, u) = true) : okQ ⟨p, 1⟩ = true ∧ p ≠ 0 := by
  have := within_iff.1 h
  exact ⟨okQ_whole (within_iff.2 ⟨by omega, by omega⟩), by omega⟩
theorem one_out (o : Option Q) : AV.v (.tuple #[(if (false || o.isNone) then (⟨0, 0⟩ : Q) else tolO o).v, .int .i64 (if (false || o.isNone) then 3 else 0)]) = AV.v (RQ (outO o)) := by
  cases o with
  | none => rw [outO_none]; rfl
  | some t => rw [outO_some, tolO_some]; rfl

end Go.Proofs.YtadliapkjijahaaGreatDoor
