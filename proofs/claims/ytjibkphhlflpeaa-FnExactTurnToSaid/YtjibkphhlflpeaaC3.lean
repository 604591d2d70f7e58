/- Contracts of both packages' functions that compare, round and take apart fractions, for all arguments within the bounds that each names; no other condition. -/
import Derived.Test.YtjibkphhlflpeaaAb
import Derived.Test.YtjibkphhlflpeaaC1
import Derived.Test.YtjibkphhlflpeaaC2
import Derived.Test.YtjibkphhlflpeaaProg
set_option linter.unusedVariables false
set_option linter.unusedSimpArgs false
namespace Go.Proofs.Ytjibkphhlflpeaa
open Ab

def cmpQ (a b : Q) : Int := if a.p * b.q < b.p * a.q then -1 else if b.p * a.q < a.p * b.q then 1 else 0
abbrev F2ok (x : Q × Q × Unit) : Prop := okQ x.1 = true ∧ okQ x.2.1 = true
abbrev cmpSp : Sp := .pf F2 F2ok (fun x => .int .i64 (cmpQ x.1 x.2.1))
set_option maxRecDepth 100000 in
theorem cmp_ok : Sp.ok Try.prog 24 cmpSp := by
  refine Sp.pf_ok (T := ⟨[], []⟩) follows eqok0 trivial [(1, .take 0 (.take 1 (.take 2 (.take 3 (.take 4 (.take 5 (.take 6 (.take 7 (.take 8 (.take 9 (.take 10 (.take 11 (.done)))))))))))))] Try.func24 rfl (by kernel_rfl) _ _ _ fun x E hp => ?_
  obtain ⟨⟨a, c⟩, ⟨d, e⟩, u⟩ := x
  have h := okB hp.1 hp.2
  (repeat' ((conv => whnf); (first | with_reducible apply And.intro | (with_reducible intro hh; first | (with_reducible have hx := NewRow.self hh; clear hx) | (with_reducible have hrow := Made.row hh; have hle := Made.le hh; have hmade := hh; clear hh) | (with_reducible have hrow := Fresh.rowS hh; have hle := Fresh.leS hh; have hfr := hh; clear hh) | (with_reducible have hx := Ext.self hh; clear hx) | (with_reducible have hx := SlV.self hh; clear hx) | (with_reducible have hx := Value.self hh; clear hx) | with_reducible cases hh | skip) | (with_reducible apply AllEq.mk; intro yy hq) | with_reducible apply trivial | with_reducible apply Exists.intro () | (with_reducible apply ex_side; (first | with_reducible assumption | with_reducible apply fracs1 | with_reducible apply fracs2 | with_reducible apply fracs3 | with_reducible apply spans1 | with_reducible apply spans2 | (with_reducible apply NewRow.keep; with_reducible assumption) | (with_reducible apply RowAt.keep; with_reducible assumption) | assumption | (focus ((repeat (first | with_reducible assumption | (with_reducible apply RowAt.le; rotate_left; with_reducible assumption) | (with_reducible apply RowB.le; rotate_left; with_reducible assumption))); done)))) | (with_reducible apply ex_side (a := (_, _)); (focus (with_reducible apply And.intro <;> (focus ((repeat (first | with_reducible assumption | (with_reducible apply RowAt.le; rotate_left; with_reducible assumption) | (with_reducible apply RowB.le; rotate_left; with_reducible assumption))); done))))))); (all_goals (conv => whnf)))
  (all_goals (try dsimp only [Q.eta, Sn.eta, SlV.eta] at *)); (all_goals (first | exact Side.mk trivial | with_reducible exact Side.mk rfl | exact Side.mk (fun _ _ h => h) | exact Side.mk (Made.le (by assumption)) | refine Side.mk ?_ | refine Don.mk ?_ | skip))
  all_goals simp only [h.wpq, h.wqp, h.wqq] at *
  all_goals simp_all [cmpQ]
  all_goals (repeat' split) <;> omega
set_option maxRecDepth 100000 in
theorem spcmp_ok : Sp.ok Try.prog 21 cmpSp := by
  refine Sp.pf_ok (T := ⟨[], []⟩) follows eqok0 trivial [] Try.func21 rfl (by kernel_rfl) _ _ _ fun x E hp => ?_
  obtain ⟨⟨a, c⟩, ⟨d, e⟩, u⟩ := x
  have h := okB hp.1 hp.2
  (repeat' ((conv => whnf); (first | with_reducible apply And.intro | (with_reducible intro hh; first | (with_reducible have hx := NewRow.self hh; clear hx) | (with_reducible have hrow := Made.row hh; have hle := Made.le hh; have hmade := hh; clear hh) | (with_reducible have hrow := Fresh.rowS hh; have hle := Fresh.leS hh; have hfr := hh; clear hh) | (with_reducible have hx := Ext.self hh; clear hx) | (with_reducible have hx := SlV.self hh; clear hx) | (with_reducible have hx := Value.self hh; clear hx) | with_reducible cases hh | skip) | (with_reducible apply AllEq.mk; intro yy hq) | with_reducible apply trivial | with_reducible apply Exists.intro () | (with_reducible apply ex_side; (first | with_reducible assumption | with_reducible apply fracs1 | with_reducible apply fracs2 | with_reducible apply fracs3 | with_reducible apply spans1 | with_reducible apply spans2 | (with_reducible apply NewRow.keep; with_reducible assumption) | (with_reducible apply RowAt.keep; with_reducible assumption) | assumption | (focus ((repeat (first | with_reducible assumption | (with_reducible apply RowAt.le; rotate_left; with_reducible assumption) | (with_reducible apply RowB.le; rotate_left; with_reducible assumption))); done)))) | (with_reducible apply ex_side (a := (_, _)); (focus (with_reducible apply And.intro <;> (focus ((repeat (first | with_reducible assumption | (with_reducible apply RowAt.le; rotate_left; with_reducible assumption) | (with_reducible apply RowB.le; rotate_left; with_reducible assumption))); done))))))); (all_goals (conv => whnf)))
  (all_goals (try dsimp only [Q.eta, Sn.eta, SlV.eta] at *)); (all_goals (first | exact Side.mk trivial | with_reducible exact Side.mk rfl | exact Side.mk (fun _ _ h => h) | exact Side.mk (Made.le (by assumption)) | refine Side.mk ?_ | refine Don.mk ?_ | skip))
  all_goals simp only [h.wpq, h.wqp, h.wqq] at *
  all_goals simp_all [cmpQ]
  all_goals (repeat' split) <;> omega
/-! integer quotients -/
theorem floor_neg {p q : Int} (hq : 0 < q) (h : p.tmod q < 0) : p / q = p.tdiv q - 1 := by
  have h1 := Int.tmod_add_mul_tdiv p q
  have h2 := Int.lt_tmod_of_pos p hq
  exact ((Int.ediv_emod_unique hq (r := p.tmod q + q)).2 ⟨by rw [Int.mul_sub]; omega, by omega, by omega⟩).1
theorem floor_nn {p q : Int} (hq : 0 < q) (h : ¬ p.tmod q < 0) : p / q = p.tdiv q := by
  have h1 := Int.tmod_add_mul_tdiv p q
  have h2 := Int.tmod_lt_of_pos p hq
  exact ((Int.ediv_emod_unique hq (r := p.tmod q)).2 ⟨by omega, by omega, by omega⟩).1
theorem tmod_sign {p q : Int} : p.tmod q < 0 ↔ p.tmod q ≠ 0 ∧ p < 0 := by
  by_cases h : 0 ≤ p
  · have := Int.tmod_nonneg q h
    omega
  · have h1 := Int.neg_tmod (-p) q
    have h2 := Int.tmod_nonneg q (show 0 ≤ -p by omega)
    rw [Int.neg_neg] at h1
    omega
theorem B4.tdivi {p : Int} (h : B4 p) (q : Int) : B4 (p.tdiv q) := by
  have h1 : (p.tdiv q).natAbs ≤ p.natAbs := by
    rw [Int.natAbs_tdiv]
    exact Nat.div_le_self _ _
  unfold B4 at *
  omega
theorem wrap_dec {p : Int} (h : B4 p) : IntKind.i64.wrap (p - 1) = p - 1 := by unfold B4 at h; exact wrap_in (by omega) (by omega)
abbrev downSp : Sp := .pf I2 (fun x => 0 < x.2.1 ∧ B4 x.1) (fun x => .int .i64 (x.1 / x.2.1))
/-! the reference's arithmetic -/
abbrev saddSp : Sp := .pf F2 F2ok (fun x => .tuple #[(redQ (opAdd x.1 x.2.1).1 (opAdd x.1 x.2.1).2).v, .int .i64 (redC (opAdd x.1 x.2.1).1 (opAdd x.1 x.2.1).2)])
set_option maxRecDepth 100000 in
theorem sadd_ok : Sp.ok Try.prog 52 saddSp := by
  refine Sp.pf_ok (T := ⟨[(58, reducedSp)], []⟩) follows eqok0 ⟨enters Try.func58 rfl rfl, reduced_ok, trivial⟩ [] Try.func52 rfl (by kernel_rfl) _ _ _ fun x E hp => ?_
  obtain ⟨⟨a, c⟩, ⟨d, e⟩, u⟩ := x
  have h := okB hp.1 hp.2
  (repeat' ((conv => whnf); (first | with_reducible apply And.intro | (with_reducible intro hh; first | (with_reducible have hx := NewRow.self hh; clear hx) | (with_reducible have hrow := Made.row hh; have hle := Made.le hh; have hmade := hh; clear hh) | (with_reducible have hrow := Fresh.rowS hh; have hle := Fresh.leS hh; have hfr := hh; clear hh) | (with_reducible have hx := Ext.self hh; clear hx) | (with_reducible have hx := SlV.self hh; clear hx) | (with_reducible have hx := Value.self hh; clear hx) | with_reducible cases hh | skip) | (with_reducible apply AllEq.mk; intro yy hq) | with_reducible apply trivial | with_reducible apply Exists.intro () | (with_reducible apply ex_side; (first | with_reducible assumption | with_reducible apply fracs1 | with_reducible apply fracs2 | with_reducible apply fracs3 | with_reducible apply spans1 | with_reducible apply spans2 | (with_reducible apply NewRow.keep; with_reducible assumption) | (with_reducible apply RowAt.keep; with_reducible assumption) | assumption | (focus ((repeat (first | with_reducible assumption | (with_reducible apply RowAt.le; rotate_left; with_reducible assumption) | (with_reducible apply RowB.le; rotate_left; with_reducible assumption))); done)))) | (with_reducible apply ex_side (a := (_, _)); (focus (with_reducible apply And.intro <;> (focus ((repeat (first | with_reducible assumption | (with_reducible apply RowAt.le; rotate_left; with_reducible assumption) | (with_reducible apply RowB.le; rotate_left; with_reducible assumption))); done))))))); (all_goals (conv => whnf)))
  (all_goals (try dsimp only [Q.eta, Sn.eta, SlV.eta] at *)); (all_goals (first | exact Side.mk trivial | with_reducible exact Side.mk rfl | exact Side.mk (fun _ _ h => h) | exact Side.mk (Made.le (by assumption)) | refine Side.mk ?_ | refine Don.mk ?_ | skip))
  all_goals try simp only [h.wpq, h.wqp, h.wqq, wrap4 h.add4] at *
  · exact ⟨h.ne, h.add4, h.qq4⟩
  · rfl
abbrev smulSp : Sp := .pf F2 F2ok (fun x => .tuple #[(redQ (opMul x.1 x.2.1).1 (opMul x.1 x.2.1).2).v, .int .i64 (redC (opMul x.1 x.2.1).1 (opMul x.1 x.2.1).2)])
set_option maxRecDepth 100000 in
theorem smul_ok : Sp.ok Try.prog 50 smulSp := by
  refine Sp.pf_ok (T := ⟨[(58, reducedSp)], []⟩) follows eqok0 ⟨enters Try.func58 rfl rfl, reduced_ok, trivial⟩ [] Try.func50 rfl (by kernel_rfl) _ _ _ fun x E hp => ?_
  obtain ⟨⟨a, c⟩, ⟨d, e⟩, u⟩ := x
  have h := okB hp.1 hp.2
  (repeat' ((conv => whnf); (first | with_reducible apply And.intro | (with_reducible intro hh; first | (with_reducible have hx := NewRow.self hh; clear hx) | (with_reducible have hrow := Made.row hh; have hle := Made.le hh; have hmade := hh; clear hh) | (with_reducible have hrow := Fresh.rowS hh; have hle := Fresh.leS hh; have hfr := hh; clear hh) | (with_reducible have hx := Ext.self hh; clear hx) | (with_reducible have hx := SlV.self hh; clear hx) | (with_reducible have hx := Value.self hh; clear hx) | with_reducible cases hh | skip) | (with_reducible apply AllEq.mk; intro yy hq) | with_reducible apply trivial | with_reducible apply Exists.intro () | (with_reducible apply ex_side; (first | with_reducible assumption | with_reducible apply fracs1 | with_reducible apply fracs2 | with_reducible apply fracs3 | with_reducible apply spans1 | with_reducible apply spans2 | (with_reducible apply NewRow.keep; with_reducible assumption) | (with_reducible apply RowAt.keep; with_reducible assumption) | assumption | (focus ((repeat (first | with_reducible assumption | (with_reducible apply RowAt.le; rotate_left; with_reducible assumption) | (with_reducible apply RowB.le; rotate_left; with_reducible assumption))); done)))) | (with_reducible apply ex_side (a := (_, _)); (focus (with_reducible apply And.intro <;> (focus ((repeat (first | with_reducible assumption | (with_reducible apply RowAt.le; rotate_left; with_reducible assumption) | (with_reducible apply RowB.le; rotate_left; with_reducible assumption))); done))))))); (all_goals (conv => whnf)))
  (all_goals (try dsimp only [Q.eta, Sn.eta, SlV.eta] at *)); (all_goals (first | exact Side.mk trivial | with_reducible exact Side.mk rfl | exact Side.mk (fun _ _ h => h) | exact Side.mk (Made.le (by assumption)) | refine Side.mk ?_ | refine Don.mk ?_ | skip))
  all_goals try simp only [h.wpp, h.wqq] at *
  · exact ⟨h.ne, h.pp4, h.qq4⟩
  · rfl
abbrev sdivSp : Sp := .pf F2 (fun x => F2ok x ∧ x.2.1.p ≠ 0) (fun x => .tuple #[(redQ (opDiv x.1 x.2.1).1 (opDiv x.1 x.2.1).2).v, .int .i64 (redC (opDiv x.1 x.2.1).1 (opDiv x.1 x.2.1).2)])
set_option maxRecDepth 100000 in
theorem sdiv_ok : Sp.ok Try.prog 51 sdivSp := by
  refine Sp.pf_ok (T := ⟨[(58, reducedSp)], []⟩) follows eqok0 ⟨enters Try.func58 rfl rfl, reduced_ok, trivial⟩ [] Try.func51 rfl (by kernel_rfl) _ _ _ fun x E hp => ?_
  obtain ⟨⟨a, c⟩, ⟨d, e⟩, u⟩ := x
  have h := okB hp.1.1 hp.1.2
  have hc := (okQ_iff.1 hp.1.1).1
  (repeat' ((conv => whnf); (first | with_reducible apply And.intro | (with_reducible intro hh; first | (with_reducible have hx := NewRow.self hh; clear hx) | (with_reducible have hrow := Made.row hh; have hle := Made.le hh; have hmade := hh; clear hh) | (with_reducible have hrow := Fresh.rowS hh; have hle := Fresh.leS hh; have hfr := hh; clear hh) | (with_reducible have hx := Ext.self hh; clear hx) | (with_reducible have hx := SlV.self hh; clear hx) | (with_reducible have hx := Value.self hh; clear hx) | with_reducible cases hh | skip) | (with_reducible apply AllEq.mk; intro yy hq) | with_reducible apply trivial | with_reducible apply Exists.intro () | (with_reducible apply ex_side; (first | with_reducible assumption | with_reducible apply fracs1 | with_reducible apply fracs2 | with_reducible apply fracs3 | with_reducible apply spans1 | with_reducible apply spans2 | (with_reducible apply NewRow.keep; with_reducible assumption) | (with_reducible apply RowAt.keep; with_reducible assumption) | assumption | (focus ((repeat (first | with_reducible assumption | (with_reducible apply RowAt.le; rotate_left; with_reducible assumption) | (with_reducible apply RowB.le; rotate_left; with_reducible assumption))); done)))) | (with_reducible apply ex_side (a := (_, _)); (focus (with_reducible apply And.intro <;> (focus ((repeat (first | with_reducible assumption | (with_reducible apply RowAt.le; rotate_left; with_reducible assumption) | (with_reducible apply RowB.le; rotate_left; with_reducible assumption))); done))))))); (all_goals (conv => whnf)))
  (all_goals (try dsimp only [Q.eta, Sn.eta, SlV.eta] at *)); (all_goals (first | exact Side.mk trivial | with_reducible exact Side.mk rfl | exact Side.mk (fun _ _ h => h) | exact Side.mk (Made.le (by assumption)) | refine Side.mk ?_ | refine Don.mk ?_ | skip))
  all_goals try simp only [h.wpq, h.wqp'] at *
  · exact ⟨Int.mul_ne_zero (by omega) hp.2, h.pq4, h.qp4⟩
  · rfl
def negQ (a : Q) : Q := ⟨-a.p, a.q⟩
theorem okQ_neg {a : Q} (h : okQ a = true) : okQ (negQ a) = true := by
  rw [okQ_iff] at *
  refine ⟨h.1, h.2.1, ?_, ?_, ?_⟩
  · show _ ≤ -a.p; omega
  · show -a.p ≤ _; omega
  · show Int.gcd (-a.p) a.q = 1
    rw [Int.neg_gcd]
    exact h.2.2.2.2
abbrev negSp : Sp := .pf F1 (fun x => okQ x.1 = true) (fun x => (negQ x.1).v)
set_option maxRecDepth 100000 in
theorem neg_ok : Sp.ok Try.prog 53 negSp := by
  refine Sp.pf_ok (T := ⟨[], []⟩) follows eqok0 trivial [] Try.func53 rfl (by kernel_rfl) _ _ _ fun x E hp => ?_
  obtain ⟨⟨a, c⟩, u⟩ := x
  have h := (okQ_iff.1 hp).2.2
  (repeat' ((conv => whnf); (first | with_reducible apply And.intro | (with_reducible intro hh; first | (with_reducible have hx := NewRow.self hh; clear hx) | (with_reducible have hrow := Made.row hh; have hle := Made.le hh; have hmade := hh; clear hh) | (with_reducible have hrow := Fresh.rowS hh; have hle := Fresh.leS hh; have hfr := hh; clear hh) | (with_reducible have hx := Ext.self hh; clear hx) | (with_reducible have hx := SlV.self hh; clear hx) | (with_reducible have hx := Value.self hh; clear hx) | with_reducible cases hh | skip) | (with_reducible apply AllEq.mk; intro yy hq) | with_reducible apply trivial | with_reducible apply Exists.intro () | (with_reducible apply ex_side; (first | with_reducible assumption | with_reducible apply fracs1 | with_reducible apply fracs2 | with_reducible apply fracs3 | with_reducible apply spans1 | with_reducible apply spans2 | (with_reducible apply NewRow.keep; with_reducible assumption) | (with_reducible apply RowAt.keep; with_reducible assumption) | assumption | (focus ((repeat (first | with_reducible assumption | (with_reducible apply RowAt.le; rotate_left; with_reducible assumption) | (with_reducible apply RowB.le; rotate_left; with_reducible assumption))); done)))) | (with_reducible apply ex_side (a := (_, _)); (focus (with_reducible apply And.intro <;> (focus ((repeat (first | with_reducible assumption | (with_reducible apply RowAt.le; rotate_left; with_reducible assumption) | (with_reducible apply RowB.le; rotate_left; with_reducible assumption))); done))))))); (all_goals (conv => whnf)))
  (all_goals (try dsimp only [Q.eta, Sn.eta, SlV.eta] at *)); (all_goals (first | exact Side.mk trivial | with_reducible exact Side.mk rfl | exact Side.mk (fun _ _ h => h) | exact Side.mk (Made.le (by assumption)) | refine Side.mk ?_ | refine Don.mk ?_ | skip))
  rw [wrap_neg (by have := h; dsimp only at this ⊢; unfold B4; omega)]
  rfl
theorem opAdd_neg (a b : Q) : opAdd a (negQ b) = opSub a b := by
  unfold opAdd opSub negQ
  simp only [Prod.mk.injEq]
  exact ⟨by rw [Int.neg_mul]; rfl, trivial⟩
abbrev ssubSp : Sp := .pf F2 F2ok (fun x => .tuple #[(redQ (opSub x.1 x.2.1).1 (opSub x.1 x.2.1).2).v, .int .i64 (redC (opSub x.1 x.2.1).1 (opSub x.1 x.2.1).2)])
set_option maxRecDepth 100000 in
theorem ssub_ok : Sp.ok Try.prog 40 ssubSp := by
  refine Sp.pf_ok (T := ⟨[(53, negSp), (52, saddSp)], []⟩) follows eqok0 ⟨enters Try.func53 rfl rfl, neg_ok, enters Try.func52 rfl rfl, sadd_ok, trivial⟩ [(1, .take 0 (.take 1 (.alt 2 (.alt 3 (.take 4 (.take 5 (.alt 6 (.take 7 (.done)) (.last)))) (.last)) (.last))))] Try.func40 rfl (by kernel_rfl) _ _ _ fun x E hp => ?_
  obtain ⟨⟨a, c⟩, ⟨d, e⟩, u⟩ := x
  (repeat' ((conv => whnf); (first | with_reducible apply And.intro | (with_reducible intro hh; first | (with_reducible have hx := NewRow.self hh; clear hx) | (with_reducible have hrow := Made.row hh; have hle := Made.le hh; have hmade := hh; clear hh) | (with_reducible have hrow := Fresh.rowS hh; have hle := Fresh.leS hh; have hfr := hh; clear hh) | (with_reducible have hx := Ext.self hh; clear hx) | (with_reducible have hx := SlV.self hh; clear hx) | (with_reducible have hx := Value.self hh; clear hx) | with_reducible cases hh | skip) | (with_reducible apply AllEq.mk; intro yy hq) | with_reducible apply trivial | with_reducible apply Exists.intro () | (with_reducible apply ex_side; (first | with_reducible assumption | with_reducible apply fracs1 | with_reducible apply fracs2 | with_reducible apply fracs3 | with_reducible apply spans1 | with_reducible apply spans2 | (with_reducible apply NewRow.keep; with_reducible assumption) | (with_reducible apply RowAt.keep; with_reducible assumption) | assumption | (focus ((repeat (first | with_reducible assumption | (with_reducible apply RowAt.le; rotate_left; with_reducible assumption) | (with_reducible apply RowB.le; rotate_left; with_reducible assumption))); done)))) | (with_reducible apply ex_side (a := (_, _)); (focus (with_reducible apply And.intro <;> (focus ((repeat (first | with_reducible assumption | (with_reducible apply RowAt.le; rotate_left; with_reducible assumption) | (with_reducible apply RowB.le; rotate_left; with_reducible assumption))); done))))))); (all_goals (conv => whnf)))
  (all_goals (try dsimp only [Q.eta, Sn.eta, SlV.eta] at *)); (all_goals (first | exact Side.mk trivial | with_reducible exact Side.mk rfl | exact Side.mk (fun _ _ h => h) | exact Side.mk (Made.le (by assumption)) | refine Side.mk ?_ | refine Don.mk ?_ | skip))
  · exact hp.2
  · exact ⟨hp.1, okQ_neg hp.2⟩
  · rw [← opAdd_neg]
    rfl
/-! whole numbers -/
abbrev wholeSp : Sp := .pf I1 (fun _ => True) (fun x => (⟨x.1, 1⟩ : Q).v)
set_option maxRecDepth 100000 in
theorem whole_ok : Sp.ok Try.prog 49 wholeSp := by
  refine Sp.pf_ok (T := ⟨[], []⟩) follows eqok0 trivial [] Try.func49 rfl (by kernel_rfl) _ _ _ fun x E hp => ?_
  (repeat' ((conv => whnf); (first | with_reducible apply And.intro | (with_reducible intro hh; first | (with_reducible have hx := NewRow.self hh; clear hx) | (with_reducible have hrow := Made.row hh; have hle := Made.le hh; have hmade := hh; clear hh) | (with_reducible have hrow := Fresh.rowS hh; have hle := Fresh.leS hh; have hfr := hh; clear hh) | (with_reducible have hx := Ext.self hh; clear hx) | (with_reducible have hx := SlV.self hh; clear hx) | (with_reducible have hx := Value.self hh; clear hx) | with_reducible cases hh | skip) | (with_reducible apply AllEq.mk; intro yy hq) | with_reducible apply trivial | with_reducible apply Exists.intro () | (with_reducible apply ex_side; (first | with_reducible assumption | with_reducible apply fracs1 | with_reducible apply fracs2 | with_reducible apply fracs3 | with_reducible apply spans1 | with_reducible apply spans2 | (with_reducible apply NewRow.keep; with_reducible assumption) | (with_reducible apply RowAt.keep; with_reducible assumption) | assumption | (focus ((repeat (first | with_reducible assumption | (with_reducible apply RowAt.le; rotate_left; with_reducible assumption) | (with_reducible apply RowB.le; rotate_left; with_reducible assumption))); done)))) | (with_reducible apply ex_side (a := (_, _)); (focus (with_reducible apply And.intro <;> (focus ((repeat (first | with_reducible assumption | (with_reducible apply RowAt.le; rotate_left; with_reducible assumption) | (with_reducible apply RowB.le; rotate_left; with_reducible assumption))); done))))))); (all_goals (conv => whnf)))
  (all_goals (try dsimp only [Q.eta, Sn.eta, SlV.eta] at *)); (all_goals (first | exact Side.mk trivial | with_reducible exact Side.mk rfl | exact Side.mk (fun _ _ h => h) | exact Side.mk (Made.le (by assumption)) | refine Side.mk ?_ | refine Don.mk ?_ | skip))
  rfl
set_option maxRecDepth 100000 in
theorem num_ok : Sp.ok Try.prog 43 wholeSp := by
  refine Sp.pf_ok (T := ⟨[], []⟩) follows eqok0 trivial [] Try.func43 rfl (by kernel_rfl) _ _ _ fun x E hp => ?_
  (repeat' ((conv => whnf); (first | with_reducible apply And.intro | (with_reducible intro hh; first | (with_reducible have hx := NewRow.self hh; clear hx) | (with_reducible have hrow := Made.row hh; have hle := Made.le hh; have hmade := hh; clear hh) | (with_reducible have hrow := Fresh.rowS hh; have hle := Fresh.leS hh; have hfr := hh; clear hh) | (with_reducible have hx := Ext.self hh; clear hx) | (with_reducible have hx := SlV.self hh; clear hx) | (with_reducible have hx := Value.self hh; clear hx) | with_reducible cases hh | skip) | (with_reducible apply AllEq.mk; intro yy hq) | with_reducible apply trivial | with_reducible apply Exists.intro () | (with_reducible apply ex_side; (first | with_reducible assumption | with_reducible apply fracs1 | with_reducible apply fracs2 | with_reducible apply fracs3 | with_reducible apply spans1 | with_reducible apply spans2 | (with_reducible apply NewRow.keep; with_reducible assumption) | (with_reducible apply RowAt.keep; with_reducible assumption) | assumption | (focus ((repeat (first | with_reducible assumption | (with_reducible apply RowAt.le; rotate_left; with_reducible assumption) | (with_reducible apply RowB.le; rotate_left; with_reducible assumption))); done)))) | (with_reducible apply ex_side (a := (_, _)); (focus (with_reducible apply And.intro <;> (focus ((repeat (first | with_reducible assumption | (with_reducible apply RowAt.le; rotate_left; with_reducible assumption) | (with_reducible apply RowB.le; rotate_left; with_reducible assumption))); done))))))); (all_goals (conv => whnf)))
  (all_goals (try dsimp only [Q.eta, Sn.eta, SlV.eta] at *)); (all_goals (first | exact Side.mk trivial | with_reducible exact Side.mk rfl | exact Side.mk (fun _ _ h => h) | exact Side.mk (Made.le (by assumption)) | refine Side.mk ?_ | refine Don.mk ?_ | skip))
  rfl
/-! the calculator's answers -/
def divBad (a b : Q) : Bool := if b.p = 0 then true else !okR (opDiv a b).1 (opDiv a b).2
def divQ (a b : Q) : Q := if b.p = 0 then ⟨0, 1⟩ else tolQ (opDiv a b).1 (opDiv a b).2
abbrev divSp : Sp := .sf SC 67 F2 (fun _ x => F2ok x) (fun _ x => (divQ x.1 x.2.1).v) (fun s x => (s.1 || divBad x.1 x.2.1, ()))
set_option maxRecDepth 100000 in
theorem div_ok : Sp.ok Try.prog 44 divSp := by
  refine Sp.sf_ok (T := ⟨[(57, toldSp), (56, zeroSp)], []⟩) follows eqok0 ⟨enters Try.func57 rfl rfl, told_ok, enters Try.func56 rfl rfl, zero_ok, trivial⟩ [] Try.func44 rfl (by kernel_rfl) _ _ _ _ _ _ fun s x E hp => ?_
  obtain ⟨b, u⟩ := s
  obtain ⟨⟨a, c⟩, ⟨d, e⟩, u⟩ := x
  have h := okB hp.1 hp.2
  have hc := (okQ_iff.1 hp.1).1
  (repeat' ((conv => whnf); (first | with_reducible apply And.intro | (with_reducible intro hh; first | (with_reducible have hx := NewRow.self hh; clear hx) | (with_reducible have hrow := Made.row hh; have hle := Made.le hh; have hmade := hh; clear hh) | (with_reducible have hrow := Fresh.rowS hh; have hle := Fresh.leS hh; have hfr := hh; clear hh) | (with_reducible have hx := Ext.self hh; clear hx) | (with_reducible have hx := SlV.self hh; clear hx) | (with_reducible have hx := Value.self hh; clear hx) | with_reducible cases hh | skip) | (with_reducible apply AllEq.mk; intro yy hq) | with_reducible apply trivial | with_reducible apply Exists.intro () | (with_reducible apply ex_side; (first | with_reducible assumption | with_reducible apply fracs1 | with_reducible apply fracs2 | with_reducible apply fracs3 | with_reducible apply spans1 | with_reducible apply spans2 | (with_reducible apply NewRow.keep; with_reducible assumption) | (with_reducible apply RowAt.keep; with_reducible assumption) | assumption | (focus ((repeat (first | with_reducible assumption | (with_reducible apply RowAt.le; rotate_left; with_reducible assumption) | (with_reducible apply RowB.le; rotate_left; with_reducible assumption))); done)))) | (with_reducible apply ex_side (a := (_, _)); (focus (with_reducible apply And.intro <;> (focus ((repeat (first | with_reducible assumption | (with_reducible apply RowAt.le; rotate_left; with_reducible assumption) | (with_reducible apply RowB.le; rotate_left; with_reducible assumption))); done))))))); (all_goals (conv => whnf)))
  (all_goals (try dsimp only [Q.eta, Sn.eta, SlV.eta] at *)); (all_goals (first | exact Side.mk trivial | with_reducible exact Side.mk rfl | exact Side.mk (fun _ _ h => h) | exact Side.mk (Made.le (by assumption)) | refine Side.mk ?_ | refine Don.mk ?_ | skip))
  all_goals try simp only [h.wpq, h.wqp'] at *
  · have h1 : d = 0 := by simpa using hh
    refine ⟨by simp [divQ, h1, Q.v], st_eq (by simp [divBad, h1])⟩
  · have h1 : d ≠ 0 := by simpa using hh
    exact pq_of (Int.mul_ne_zero (by omega) h1) h.pq4 h.qp4
  · have h1 : d ≠ 0 := by simpa using hh
    refine ⟨by simp [divQ, h1, opDiv, Q.v], st_eq (by simp [divBad, h1, opDiv])⟩

end Go.Proofs.Ytjibkphhlflpeaa
