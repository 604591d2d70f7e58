/- Contracts of both packages' functions that compare, round and take apart fractions, for all arguments within the bounds that each names; no other condition. -/
import Derived.Test.YtadliapkjijahaaDoorAb
import Derived.Test.YtadliapkjijahaaDoorC1
import Derived.Test.YtadliapkjijahaaDoorC2
import Derived.Test.YtadliapkjijahaaDoorProg
set_option linter.unusedVariables false
set_option linter.unusedSimpArgs false
namespace Go.Proofs.YtadliapkjijahaaDoor
open Ab

def cmpQ (a b : Q) : Int := if a.p * b.q < b.p * a.q then -1 else if b.p * a.q < a.p * b.q then 1 else 0
abbrev F2ok (x : Q × Q × Unit) : Prop := okQ x.1 = true ∧ okQ x.2.1 = true
abbrev cmpSp : Sp := .pf F2 F2ok (fun x => .int .i64 (cmpQ x.1 x.2.1))
set_option maxRecDepth 100000 in
theorem cmp_ok : Sp.ok Tryd.prog 53 cmpSp := by
  refine Sp.pf_ok (T := ⟨[], []⟩) follows eqok0 trivial [(1, .take 0 (.take 1 (.take 2 (.take 3 (.take 4 (.take 5 (.take 6 (.take 7 (.take 8 (.take 9 (.take 10 (.take 11 (.done)))))))))))))] Tryd.func53 rfl (by kernel_rfl) _ _ _ fun x E hp => ?_
  obtain ⟨⟨a, c⟩, ⟨d, e⟩, u⟩ := x
  have h := okB hp.1 hp.2
  (repeat' ((conv => whnf); (first | with_reducible apply And.intro | (with_reducible intro hh; first | (with_reducible have hx := NewRow.self hh; clear hx) | (with_reducible have hrow := Made.row hh; have hle := Made.le hh; have hmade := hh; clear hh) | (with_reducible have hrow := Fresh.rowS hh; have hle := Fresh.leS hh; have hfr := hh; clear hh) | (with_reducible have hx := Ext.self hh; clear hx) | (with_reducible have hx := SlV.self hh; clear hx) | (with_reducible have hx := Value.self hh; clear hx) | with_reducible cases hh | skip) | (with_reducible apply AllEq.mk; intro yy hq) | with_reducible apply trivial | with_reducible apply Exists.intro () | (with_reducible apply ex_side; (first | with_reducible assumption | with_reducible apply fracs1 | with_reducible apply fracs2 | with_reducible apply fracs3 | with_reducible apply spans1 | with_reducible apply spans2 | (with_reducible apply NewRow.keep; with_reducible assumption) | (with_reducible apply RowAt.keep; with_reducible assumption) | assumption | (focus ((repeat (first | with_reducible assumption | (with_reducible apply RowAt.le; rotate_left; with_reducible assumption) | (with_reducible apply RowB.le; rotate_left; with_reducible assumption))); done)))) | (with_reducible apply ex_side (a := (_, _)); (focus (with_reducible apply And.intro <;> (focus ((repeat (first | with_reducible assumption | (with_reducible apply RowAt.le; rotate_left; with_reducible assumption) | (with_reducible apply RowB.le; rotate_left; with_reducible assumption))); done))))))); (all_goals (conv => whnf)))
  (all_goals (try dsimp only [Q.eta, Sn.eta, SlV.eta] at *)); (all_goals (first | exact Side.mk trivial | with_reducible exact Side.mk rfl | exact Side.mk (fun _ _ h => h) | exact Side.mk (Made.le (by assumption)) | refine Side.mk ?_ | refine Don.mk ?_ | skip))
  all_goals simp only [h.wpq, h.wqp, h.wqq] at *
  all_goals simp_all [cmpQ]
  all_goals (repeat' split) <;> omega
set_option maxRecDepth 100000 in
theorem spcmp_ok : Sp.ok Tryd.prog 51 cmpSp := by
  refine Sp.pf_ok (T := ⟨[], []⟩) follows eqok0 trivial [] Tryd.func51 rfl (by kernel_rfl) _ _ _ fun x E hp => ?_
  obtain ⟨⟨a, c⟩, ⟨d, e⟩, u⟩ := x
  have h := okB hp.1 hp.2
  (repeat' ((conv => whnf); (first | with_reducible apply And.intro | (with_reducible intro hh; first | (with_reducible have hx := NewRow.self hh; clear hx) | (with_reducible have hrow := Made.row hh; have hle := Made.le hh; have hmade := hh; clear hh) | (with_reducible have hrow := Fresh.rowS hh; have hle := Fresh.leS hh; have hfr := hh; clear hh) | (with_reducible have hx := Ext.self hh; clear hx) | (with_reducible have hx := SlV.self hh; clear hx) | (with_reducible have hx := Value.self hh; clear hx) | with_reducible cases hh | skip) | (with_reducible apply AllEq.mk; intro yy hq) | with_reducible apply trivial | with_reducible apply Exists.intro () | (with_reducible apply ex_side; (first | with_reducible assumption | with_reducible apply fracs1 | with_reducible apply fracs2 | with_reducible apply fracs3 | with_reducible apply spans1 | with_reducible apply spans2 | (with_reducible apply NewRow.keep; with_reducible assumption) | (with_reducible apply RowAt.keep; with_reducible assumption) | assumption | (focus ((repeat (first | with_reducible assumption | (with_reducible apply RowAt.le; rotate_left; with_reducible assumption) | (with_reducible apply RowB.le; rotate_left; with_reducible assumption))); done)))) | (with_reducible apply ex_side (a := (_, _)); (focus (with_reducible apply And.intro <;> (focus ((repeat (first | with_reducible assumption | (with_reducible apply RowAt.le; rotate_left; with_reducible assumption) | (with_reducible apply RowB.le; rotate_left; with_reducible assumption))); done))))))); (all_goals (conv => whnf)))
  (all_goals (try dsimp only [Q.eta, Sn.eta, SlV.eta] at *)); (all_goals (first | exact Side.mk trivial | with_reducible exact Side.mk rfl | exact Side.mk (fun _ _ h => h) | exact Side.mk (Made.le (by assumption)) | refine Side.mk ?_ | refine Don.mk ?_ | skip))
  all_goals simp only [h.wpq, h.wqp, h.wqq] at *
  all_goals simp_all [cmpQ]
  all_goals (repeat' split) <;> omega
/-! integer quotients -/
theorem floor_neg {p q : Int} (hq : 0 < q) (h : p.tmod q < 0) : p / q = p.tdiv q - 1 := by
  have h1 := Int.tmod_add_mul_tdiv p q
  have h2 := Int.lt_tmod_of_pos p hq
  exact ((Int.ediv_emod_unique hq (r := p.tmod q + q)).2 ⟨by rw [Int.mul_sub]; omega, by omega, by omega⟩).1
theorem floor_nn {p q : Int} (hq : 0 < q) (h : ¬ p.tmod q < 0) : p / q = p.tdiv q := by
  have h1 := Int.tmod_add_mul_tdiv p q
  have h2 := Int.tmod_lt_of_pos p hq
  exact ((Int.ediv_emod_unique hq (r := p.tmod q)).2 ⟨by omega, by omega, by omega⟩).1
theorem tmod_sign {p q : Int} : p.tmod q < 0 ↔ p.tmod q ≠ 0 ∧ p < 0 := by
  by_cases h : 0 ≤ p
  · have := Int.tmod_nonneg q h
    omega
  · have h1 := Int.neg_tmod (-p) q
    have h2 := Int.tmod_nonneg q (show 0 ≤ -p by omega)
    rw [Int.neg_neg] at h1
    omega
theorem B4.tdivi {p : Int} (h : B4 p) (q : Int) : B4 (p.tdiv q) := by
  have h1 : (p.tdiv q).natAbs ≤ p.natAbs := by
    rw [Int.natAbs_tdiv]
    exact Nat.div_le_self _ _
  unfold B4 at *
  omega
theorem wrap_dec {p : Int} (h : B4 p) : IntKind.i64.wrap (p - 1) = p - 1 := by unfold B4 at h; exact wrap_in (by omega) (by omega)
abbrev downSp : Sp := .pf I2 (fun x => 0 < x.2.1 ∧ B4 x.1) (fun x => .int .i64 (x.1 / x.2.1))
/-! the reference's arithmetic -/
abbrev saddSp : Sp := .pf F2 F2ok (fun x => .tuple #[(redQ (opAdd x.1 x.2.1).1 (opAdd x.1 x.2.1).2).v, .int .i64 (redC (opAdd x.1 x.2.1).1 (opAdd x.1 x.2.1).2)])
set_option maxRecDepth 100000 in
theorem sadd_ok : Sp.ok Tryd.prog 72 saddSp := by
  refine Sp.pf_ok (T := ⟨[(85, reducedSp)], []⟩) follows eqok0 ⟨enters Tryd.func85 rfl rfl, reduced_ok, trivial⟩ [] Tryd.func72 rfl (by kernel_rfl) _ _ _ fun x E hp => ?_
  obtain ⟨⟨a, c⟩, ⟨d, e⟩, u⟩ := x
  have h := okB hp.1 hp.2
  (repeat' ((conv => whnf); (first | with_reducible apply And.intro | (with_reducible intro hh; first | (with_reducible have hx := NewRow.self hh; clear hx) | (with_reducible have hrow := Made.row hh; have hle := Made.le hh; have hmade := hh; clear hh) | (with_reducible have hrow := Fresh.rowS hh; have hle := Fresh.leS hh; have hfr := hh; clear hh) | (with_reducible have hx := Ext.self hh; clear hx) | (with_reducible have hx := SlV.self hh; clear hx) | (with_reducible have hx := Value.self hh; clear hx) | with_reducible cases hh | skip) | (with_reducible apply AllEq.mk; intro yy hq) | with_reducible apply trivial | with_reducible apply Exists.intro () | (with_reducible apply ex_side; (first | with_reducible assumption | with_reducible apply fracs1 | with_reducible apply fracs2 | with_reducible apply fracs3 | with_reducible apply spans1 | with_reducible apply spans2 | (with_reducible apply NewRow.keep; with_reducible assumption) | (with_reducible apply RowAt.keep; with_reducible assumption) | assumption | (focus ((repeat (first | with_reducible assumption | (with_reducible apply RowAt.le; rotate_left; with_reducible assumption) | (with_reducible apply RowB.le; rotate_left; with_reducible assumption))); done)))) | (with_reducible apply ex_side (a := (_, _)); (focus (with_reducible apply And.intro <;> (focus ((repeat (first | with_reducible assumption | (with_reducible apply RowAt.le; rotate_left; with_reducible assumption) | (with_reducible apply RowB.le; rotate_left; with_reducible assumption))); done))))))); (all_goals (conv => whnf)))
  (all_goals (try dsimp only [Q.eta, Sn.eta, SlV.eta] at *)); (all_goals (first | exact Side.mk trivial | with_reducible exact Side.mk rfl | exact Side.mk (fun _ _ h => h) | exact Side.mk (Made.le (by assumption)) | refine Side.mk ?_ | refine Don.mk ?_ | skip))
  all_goals try simp only [h.wpq, h.wqp, h.wqq, wrap4 h.add4] at *
  · exact ⟨h.ne, h.add4, h.qq4⟩
  · rfl
abbrev smulSp : Sp := .pf F2 F2ok (fun x => .tuple #[(redQ (opMul x.1 x.2.1).1 (opMul x.1 x.2.1).2).v, .int .i64 (redC (opMul x.1 x.2.1).1 (opMul x.1 x.2.1).2)])
set_option maxRecDepth 100000 in
theorem smul_ok : Sp.ok Tryd.prog 71 smulSp := by
  refine Sp.pf_ok (T := ⟨[(85, reducedSp)], []⟩) follows eqok0 ⟨enters Tryd.func85 rfl rfl, reduced_ok, trivial⟩ [] Tryd.func71 rfl (by kernel_rfl) _ _ _ fun x E hp => ?_
  obtain ⟨⟨a, c⟩, ⟨d, e⟩, u⟩ := x
  have h := okB hp.1 hp.2
  (repeat' ((conv => whnf); (first | with_reducible apply And.intro | (with_reducible intro hh; first | (with_reducible have hx := NewRow.self hh; clear hx) | (with_reducible have hrow := Made.row hh; have hle := Made.le hh; have hmade := hh; clear hh) | (with_reducible have hrow := Fresh.rowS hh; have hle := Fresh.leS hh; have hfr := hh; clear hh) | (with_reducible have hx := Ext.self hh; clear hx) | (with_reducible have hx := SlV.self hh; clear hx) | (with_reducible have hx := Value.self hh; clear hx) | with_reducible cases hh | skip) | (with_reducible apply AllEq.mk; intro yy hq) | with_reducible apply trivial | with_reducible apply Exists.intro () | (with_reducible apply ex_side; (first | with_reducible assumption | with_reducible apply fracs1 | with_reducible apply fracs2 | with_reducible apply fracs3 | with_reducible apply spans1 | with_reducible apply spans2 | (with_reducible apply NewRow.keep; with_reducible assumption) | (with_reducible apply RowAt.keep; with_reducible assumption) | assumption | (focus ((repeat (first | with_reducible assumption | (with_reducible apply RowAt.le; rotate_left; with_reducible assumption) | (with_reducible apply RowB.le; rotate_left; with_reducible assumption))); done)))) | (with_reducible apply ex_side (a := (_, _)); (focus (with_reducible apply And.intro <;> (focus ((repeat (first | with_reducible assumption | (with_reducible apply RowAt.le; rotate_left; with_reducible assumption) | (with_reducible apply RowB.le; rotate_left; with_reducible assumption))); done))))))); (all_goals (conv => whnf)))
  (all_goals (try dsimp only [Q.eta, Sn.eta, SlV.eta] at *)); (all_goals (first | exact Side.mk trivial | with_reducible exact Side.mk rfl | exact Side.mk (fun _ _ h => h) | exact Side.mk (Made.le (by assumption)) | refine Side.mk ?_ | refine Don.mk ?_ | skip))
  all_goals try simp only [h.wpp, h.wqq] at *
  · exact ⟨h.ne, h.pp4, h.qq4⟩
  · rfl
/-! whole numbers -/
abbrev wholeSp : Sp := .pf I1 (fun _ => True) (fun x => (⟨x.1, 1⟩ : Q).v)
set_option maxRecDepth 100000 in
theorem whole_ok : Sp.ok Tryd.prog 64 wholeSp := by
  refine Sp.pf_ok (T := ⟨[], []⟩) follows eqok0 trivial [] Tryd.func64 rfl (by kernel_rfl) _ _ _ fun x E hp => ?_
  (repeat' ((conv => whnf); (first | with_reducible apply And.intro | (with_reducible intro hh; first | (with_reducible have hx := NewRow.self hh; clear hx) | (with_reducible have hrow := Made.row hh; have hle := Made.le hh; have hmade := hh; clear hh) | (with_reducible have hrow := Fresh.rowS hh; have hle := Fresh.leS hh; have hfr := hh; clear hh) | (with_reducible have hx := Ext.self hh; clear hx) | (with_reducible have hx := SlV.self hh; clear hx) | (with_reducible have hx := Value.self hh; clear hx) | with_reducible cases hh | skip) | (with_reducible apply AllEq.mk; intro yy hq) | with_reducible apply trivial | with_reducible apply Exists.intro () | (with_reducible apply ex_side; (first | with_reducible assumption | with_reducible apply fracs1 | with_reducible apply fracs2 | with_reducible apply fracs3 | with_reducible apply spans1 | with_reducible apply spans2 | (with_reducible apply NewRow.keep; with_reducible assumption) | (with_reducible apply RowAt.keep; with_reducible assumption) | assumption | (focus ((repeat (first | with_reducible assumption | (with_reducible apply RowAt.le; rotate_left; with_reducible assumption) | (with_reducible apply RowB.le; rotate_left; with_reducible assumption))); done)))) | (with_reducible apply ex_side (a := (_, _)); (focus (with_reducible apply And.intro <;> (focus ((repeat (first | with_reducible assumption | (with_reducible apply RowAt.le; rotate_left; with_reducible assumption) | (with_reducible apply RowB.le; rotate_left; with_reducible assumption))); done))))))); (all_goals (conv => whnf)))
  (all_goals (try dsimp only [Q.eta, Sn.eta, SlV.eta] at *)); (all_goals (first | exact Side.mk trivial | with_reducible exact Side.mk rfl | exact Side.mk (fun _ _ h => h) | exact Side.mk (Made.le (by assumption)) | refine Side.mk ?_ | refine Don.mk ?_ | skip))
  rfl
set_option maxRecDepth 100000 in
theorem num_ok : Sp.ok Tryd.prog 60 wholeSp := by
  refine Sp.pf_ok (T := ⟨[], []⟩) follows eqok0 trivial [] Tryd.func60 rfl (by kernel_rfl) _ _ _ fun x E hp => ?_
  (repeat' ((conv => whnf); (first | with_reducible apply And.intro | (with_reducible intro hh; first | (with_reducible have hx := NewRow.self hh; clear hx) | (with_reducible have hrow := Made.row hh; have hle := Made.le hh; have hmade := hh; clear hh) | (with_reducible have hrow := Fresh.rowS hh; have hle := Fresh.leS hh; have hfr := hh; clear hh) | (with_reducible have hx := Ext.self hh; clear hx) | (with_reducible have hx := SlV.self hh; clear hx) | (with_reducible have hx := Value.self hh; clear hx) | with_reducible cases hh | skip) | (with_reducible apply AllEq.mk; intro yy hq) | with_reducible apply trivial | with_reducible apply Exists.intro () | (with_reducible apply ex_side; (first | with_reducible assumption | with_reducible apply fracs1 | with_reducible apply fracs2 | with_reducible apply fracs3 | with_reducible apply spans1 | with_reducible apply spans2 | (with_reducible apply NewRow.keep; with_reducible assumption) | (with_reducible apply RowAt.keep; with_reducible assumption) | assumption | (focus ((repeat (first | with_reducible assumption | (with_reducible apply RowAt.le; rotate_left; with_reducible assumption) | (with_reducible apply RowB.le; rotate_left; with_reducible assumption))); done)))) | (with_reducible apply ex_side (a := (_, _)); (focus (with_reducible apply And.intro <;> (focus ((repeat (first | with_reducible assumption | (with_reducible apply RowAt.le; rotate_left; with_reducible assumption) | (with_reducible apply RowB.le; rotate_left; with_reducible assumption))); done))))))); (all_goals (conv => whnf)))
  (all_goals (try dsimp only [Q.eta, Sn.eta, SlV.eta] at *)); (all_goals (first | exact Side.mk trivial | with_reducible exact Side.mk rfl | exact Side.mk (fun _ _ h => h) | exact Side.mk (Made.le (by assumption)) | refine Side.mk ?_ | refine Don.mk ?_ | skip))
  rfl
/-! the calculator's answers -/
def divBad (a b : Q) : Bool := if b.p = 0 then true else !okR (opDiv a b).1 (opDiv a b).2
def divQ (a b : Q) : Q := if b.p = 0 then ⟨0, 1⟩ else tolQ (opDiv a b).1 (opDiv a b).2

end Go.Proofs.YtadliapkjijahaaDoor
