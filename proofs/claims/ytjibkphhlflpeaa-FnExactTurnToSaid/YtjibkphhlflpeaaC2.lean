/- Contracts of the reference's functions on fractions, for all arguments within the bounds that each names; no other condition. -/
import Derived.Test.YtjibkphhlflpeaaAb
import Derived.Test.YtjibkphhlflpeaaC1
import Derived.Test.YtjibkphhlflpeaaProg
set_option linter.unusedVariables false
set_option linter.unusedSimpArgs false
namespace Go.Proofs.Ytjibkphhlflpeaa
open Ab

theorem gcd_mod_nat (a b : Int) : Int.gcd b (a.tmod b) = Int.gcd a b := gcd_tmod a b
theorem gcd_absl (p q : Int) : Int.gcd (p.natAbs : Int) q = Int.gcd p q := by simp [Int.gcd]
theorem gcd_absr (p q : Int) : Int.gcd p (q.natAbs : Int) = Int.gcd p q := by simp [Int.gcd]
abbrev absSp : Sp := .pf I1 (fun x => BI x.1) (fun x => .int .i64 (x.1.natAbs : Int))
theorem abs_ok : Sp.ok Try.prog 34 absSp := by
  refine Sp.pf_ok (T := ⟨[], []⟩) follows eqok0 trivial [] Try.func34 rfl (by kernel_rfl) _ _ _ fun x E hp => ?_
  obtain ⟨n, u⟩ := x
  unfold BI at hp
  (repeat' ((conv => whnf); (first | with_reducible apply And.intro | (with_reducible intro hh; first | (with_reducible have hx := NewRow.self hh; clear hx) | (with_reducible have hrow := Made.row hh; have hle := Made.le hh; have hmade := hh; clear hh) | (with_reducible have hrow := Fresh.rowS hh; have hle := Fresh.leS hh; have hfr := hh; clear hh) | (with_reducible have hx := Ext.self hh; clear hx) | (with_reducible have hx := SlV.self hh; clear hx) | (with_reducible have hx := Value.self hh; clear hx) | with_reducible cases hh | skip) | (with_reducible apply AllEq.mk; intro yy hq) | with_reducible apply trivial | with_reducible apply Exists.intro () | (with_reducible apply ex_side; (first | with_reducible assumption | with_reducible apply fracs1 | with_reducible apply fracs2 | with_reducible apply fracs3 | with_reducible apply spans1 | with_reducible apply spans2 | (with_reducible apply NewRow.keep; with_reducible assumption) | (with_reducible apply RowAt.keep; with_reducible assumption) | assumption | (focus ((repeat (first | with_reducible assumption | (with_reducible apply RowAt.le; rotate_left; with_reducible assumption) | (with_reducible apply RowB.le; rotate_left; with_reducible assumption))); done)))) | (with_reducible apply ex_side (a := (_, _)); (focus (with_reducible apply And.intro <;> (focus ((repeat (first | with_reducible assumption | (with_reducible apply RowAt.le; rotate_left; with_reducible assumption) | (with_reducible apply RowB.le; rotate_left; with_reducible assumption))); done))))))); (all_goals (conv => whnf)))
  (all_goals (try dsimp only [Q.eta, Sn.eta, SlV.eta] at *)); (all_goals (first | exact Side.mk trivial | with_reducible exact Side.mk rfl | exact Side.mk (fun _ _ h => h) | exact Side.mk (Made.le (by assumption)) | refine Side.mk ?_ | refine Don.mk ?_ | skip))
  all_goals refine congrArg (fun z => AV.v (.int .i64 z)) ?_
  · rw [wrap_in (by omega) (by omega)]
    have := of_decide_eq_true hh
    omega
  · have := of_decide_eq_false hh
    omega

abbrev spgcdSp : Sp := .pf I2 (fun x => 0 ≤ x.1 ∧ 0 ≤ x.2.1 ∧ BI x.1 ∧ BI x.2.1) (fun x => .int .i64 (Int.gcd x.1 x.2.1))
theorem spgcd_ok : Sp.ok Try.prog 33 spgcdSp := by
  refine Sp.pf_ok (T := ⟨[], []⟩) follows eqok0 trivial [] Try.func33 rfl (by kernel_rfl) _ _ _ fun x E hp => ?_
  obtain ⟨a0, b0, u⟩ := x
  obtain ⟨h1, h2, h3, h4⟩ := hp
  dsimp only at h1 h2 h3 h4
  conv => whnf
  refine ⟨fun n s => ∃ (a b : Int) (g5 g6 g7 g8 g9 g10 g11 g12 : AV), n = b.natAbs ∧ 0 ≤ a ∧ 0 ≤ b ∧ BI a ∧ BI b ∧ Int.gcd a b = Int.gcd a0 b0 ∧
    s = ⟨[.v (.int .i64 a), .v (.int .i64 b), .v (.tuple #[]), .v (.tuple #[]), .v (.int .i64 0), g5, g6, g7, g8, g9, g10, g11, g12, .v (.tuple #[])], [], E⟩, ⟨_, a0, b0, _, _, _, _, _, _, _, _, rfl, h1, h2, h3, h4, rfl, rfl⟩, ?_⟩
  rintro n s ⟨a, b, g5, g6, g7, g8, g9, g10, g11, g12, rfl, k1, k2, ha, hb, hg, rfl⟩
  (repeat' ((conv => whnf); (first | with_reducible apply And.intro | (with_reducible intro hh; first | (with_reducible have hx := NewRow.self hh; clear hx) | (with_reducible have hrow := Made.row hh; have hle := Made.le hh; have hmade := hh; clear hh) | (with_reducible have hrow := Fresh.rowS hh; have hle := Fresh.leS hh; have hfr := hh; clear hh) | (with_reducible have hx := Ext.self hh; clear hx) | (with_reducible have hx := SlV.self hh; clear hx) | (with_reducible have hx := Value.self hh; clear hx) | with_reducible cases hh | skip) | (with_reducible apply AllEq.mk; intro yy hq) | with_reducible apply trivial | with_reducible apply Exists.intro () | (with_reducible apply ex_side; (first | with_reducible assumption | with_reducible apply fracs1 | with_reducible apply fracs2 | with_reducible apply fracs3 | with_reducible apply spans1 | with_reducible apply spans2 | (with_reducible apply NewRow.keep; with_reducible assumption) | (with_reducible apply RowAt.keep; with_reducible assumption) | assumption | (focus ((repeat (first | with_reducible assumption | (with_reducible apply RowAt.le; rotate_left; with_reducible assumption) | (with_reducible apply RowB.le; rotate_left; with_reducible assumption))); done)))) | (with_reducible apply ex_side (a := (_, _)); (focus (with_reducible apply And.intro <;> (focus ((repeat (first | with_reducible assumption | (with_reducible apply RowAt.le; rotate_left; with_reducible assumption) | (with_reducible apply RowB.le; rotate_left; with_reducible assumption))); done))))))); (all_goals (conv => whnf)))
  (all_goals (try dsimp only [Q.eta, Sn.eta, SlV.eta] at *)); (all_goals (first | exact Side.mk trivial | with_reducible exact Side.mk rfl | exact Side.mk (fun _ _ h => h) | exact Side.mk (Made.le (by assumption)) | refine Side.mk ?_ | refine Don.mk ?_ | skip))
  · simpa using hh
  · have hb0 : b ≠ 0 := by simpa using hh
    refine ⟨_, ?_, b, a.tmod b, _, _, _, _, _, _, _, _, rfl, k2, ?_, hb, tmod_bi ha, (gcd_tmod a b).trans hg, rfl⟩
    · rw [Int.natAbs_tmod]
      exact Nat.mod_lt _ (by omega)
    · exact Int.tmod_nonneg b k1
  · have hb0 : b = 0 := by simpa using hh
    subst hb0
    refine congrArg (fun z => AV.v (.int .i64 z)) ?_
    rw [← hg, Int.gcd_zero_right]
    omega

set_option maxRecDepth 100000 in
theorem spok_ok : Sp.ok Try.prog 20 validSp := by
  refine Sp.pf_ok (T := ⟨[(14, withinSp), (34, absSp), (33, spgcdSp)], []⟩) follows eqok0 ⟨enters Try.func14 rfl rfl, in_ok, enters Try.func34 rfl rfl, abs_ok, enters Try.func33 rfl rfl, spgcd_ok, trivial⟩ [(1, .take 0 (.take 1 (.alt 2 (.take 3 (.take 4 (.take 5 (.alt 6 (.take 7 (.take 8 (.take 9 (.take 10 (.take 12 (.take 13 (.alt 11 (.alt 14 (.take 15 (.take 16 (.take 17 (.done)))) (.last)) (.last)))))))) (.last))))) (.last))))] Try.func20 rfl (by kernel_rfl) _ _ _ fun x E hp => ?_
  obtain ⟨⟨p, q⟩, u⟩ := x
  (repeat' ((conv => whnf); (first | with_reducible apply And.intro | (with_reducible intro hh; first | (with_reducible have hx := NewRow.self hh; clear hx) | (with_reducible have hrow := Made.row hh; have hle := Made.le hh; have hmade := hh; clear hh) | (with_reducible have hrow := Fresh.rowS hh; have hle := Fresh.leS hh; have hfr := hh; clear hh) | (with_reducible have hx := Ext.self hh; clear hx) | (with_reducible have hx := SlV.self hh; clear hx) | (with_reducible have hx := Value.self hh; clear hx) | with_reducible cases hh | skip) | (with_reducible apply AllEq.mk; intro yy hq) | with_reducible apply trivial | with_reducible apply Exists.intro () | (with_reducible apply ex_side; (first | with_reducible assumption | with_reducible apply fracs1 | with_reducible apply fracs2 | with_reducible apply fracs3 | with_reducible apply spans1 | with_reducible apply spans2 | (with_reducible apply NewRow.keep; with_reducible assumption) | (with_reducible apply RowAt.keep; with_reducible assumption) | assumption | (focus ((repeat (first | with_reducible assumption | (with_reducible apply RowAt.le; rotate_left; with_reducible assumption) | (with_reducible apply RowB.le; rotate_left; with_reducible assumption))); done)))) | (with_reducible apply ex_side (a := (_, _)); (focus (with_reducible apply And.intro <;> (focus ((repeat (first | with_reducible assumption | (with_reducible apply RowAt.le; rotate_left; with_reducible assumption) | (with_reducible apply RowB.le; rotate_left; with_reducible assumption))); done))))))); (all_goals (conv => whnf)))
  (all_goals (try dsimp only [Q.eta, Sn.eta, SlV.eta] at *)); (all_goals (first | exact Side.mk trivial | with_reducible exact Side.mk rfl | exact Side.mk (fun _ _ h => h) | exact Side.mk (Made.le (by assumption)) | refine Side.mk ?_ | refine Don.mk ?_ | skip))
  · rename_i h1
    rw [within_iff] at h1 hh
    unfold BI
    omega
  · rename_i h1
    rw [within_iff] at h1 hh
    unfold BI
    omega
  · rw [gcd_absl]
    simp_all [okQ]
  · simp_all [okQ]
  · simp_all [okQ]

/-! the reference's reduced fraction -/
theorem tdiv_sign {p q : Int} (hq : q ≠ 0) : q.tdiv (Int.gcd p q) < 0 ↔ q < 0 := by
  have hg := gcd_ne (p := p) hq
  obtain ⟨k, hk⟩ : (Int.gcd p q : Int) ∣ q := Int.gcd_dvd_right ..
  have h1 : q.tdiv (Int.gcd p q) = k := by
    conv => lhs; arg 1; rw [hk]
    exact Int.mul_tdiv_cancel_left k hg
  rw [h1]
  have hg0 : 0 < (Int.gcd p q : Int) := by omega
  constructor
  · intro h
    rw [hk]
    exact Int.mul_neg_of_pos_of_neg hg0 h
  · intro h
    by_cases h2 : k < 0
    · exact h2
    · have := Int.mul_nonneg (Int.le_of_lt hg0) (show 0 ≤ k by omega)
      omega
theorem B4.tdiv {p : Int} (h : B4 p) (n : Nat) : B4 (p.tdiv n) := by
  have := tdiv_le p n
  unfold B4 at *
  omega
theorem B4.abs {p : Int} (h : B4 p) : BI (p.natAbs : Int) := by unfold B4 at h; unfold BI; omega
abbrev reducedSp : Sp := .pf I2 (fun x => x.2.1 ≠ 0 ∧ B4 x.1 ∧ B4 x.2.1) (fun x => .tuple #[(redQ x.1 x.2.1).v, .int .i64 (redC x.1 x.2.1)])
set_option maxRecDepth 100000 in
theorem reduced_ok : Sp.ok Try.prog 58 reducedSp := by
  refine Sp.pf_ok (T := ⟨[(34, absSp), (33, spgcdSp), (20, validSp)], []⟩) follows eqok0 ⟨enters Try.func34 rfl rfl, abs_ok, enters Try.func33 rfl rfl, spgcd_ok, enters Try.func20 rfl rfl, spok_ok, trivial⟩ [] Try.func58 rfl (by kernel_rfl) _ _ _ fun x E hp => ?_
  obtain ⟨p, q, u⟩ := x
  obtain ⟨hq, hp4, hq4⟩ := hp
  dsimp only at hq hp4 hq4
  (repeat' ((conv => whnf); (first | with_reducible apply And.intro | (with_reducible intro hh; first | (with_reducible have hx := NewRow.self hh; clear hx) | (with_reducible have hrow := Made.row hh; have hle := Made.le hh; have hmade := hh; clear hh) | (with_reducible have hrow := Fresh.rowS hh; have hle := Fresh.leS hh; have hfr := hh; clear hh) | (with_reducible have hx := Ext.self hh; clear hx) | (with_reducible have hx := SlV.self hh; clear hx) | (with_reducible have hx := Value.self hh; clear hx) | with_reducible cases hh | skip) | (with_reducible apply AllEq.mk; intro yy hq) | with_reducible apply trivial | with_reducible apply Exists.intro () | (with_reducible apply ex_side; (first | with_reducible assumption | with_reducible apply fracs1 | with_reducible apply fracs2 | with_reducible apply fracs3 | with_reducible apply spans1 | with_reducible apply spans2 | (with_reducible apply NewRow.keep; with_reducible assumption) | (with_reducible apply RowAt.keep; with_reducible assumption) | assumption | (focus ((repeat (first | with_reducible assumption | (with_reducible apply RowAt.le; rotate_left; with_reducible assumption) | (with_reducible apply RowB.le; rotate_left; with_reducible assumption))); done)))) | (with_reducible apply ex_side (a := (_, _)); (focus (with_reducible apply And.intro <;> (focus ((repeat (first | with_reducible assumption | (with_reducible apply RowAt.le; rotate_left; with_reducible assumption) | (with_reducible apply RowB.le; rotate_left; with_reducible assumption))); done))))))); (all_goals (conv => whnf)))
  (all_goals (try dsimp only [Q.eta, Sn.eta, SlV.eta] at *)); (all_goals (first | exact Side.mk trivial | with_reducible exact Side.mk rfl | exact Side.mk (fun _ _ h => h) | exact Side.mk (Made.le (by assumption)) | refine Side.mk ?_ | refine Don.mk ?_ | skip))
  all_goals try simp only [gcd_absl, gcd_absr, wrap_tdiv hp4, wrap_tdiv hq4, wrap_neg (hp4.tdiv _), wrap_neg (hq4.tdiv _), ← Int.neg_tdiv, decide_eq_true_eq, decide_eq_false_iff_not, tdiv_sign hq] at *
  · exact hp4.bi
  · exact hq4.bi
  · exact ⟨by omega, by omega, hp4.abs, hq4.abs⟩
  · exact gcd_ne hq
  · exact gcd_ne hq
  · rename_i h1
    rw [← nrm_neg h1] at hh
    simp_all [redQ, redC, okR, Q.v]
  · rename_i h1
    rw [← nrm_neg h1] at hh
    rw [redQ, redC, nrm_neg h1]
    simp_all [okR, Q.v, nrm_neg h1]
  · rename_i h1
    rw [← nrm_pos h1] at hh
    simp_all [redQ, redC, okR, Q.v]
  · rename_i h1
    rw [← nrm_pos h1] at hh
    rw [redQ, redC, nrm_pos h1]
    simp_all [okR, Q.v, nrm_pos h1]

end Go.Proofs.Ytjibkphhlflpeaa
