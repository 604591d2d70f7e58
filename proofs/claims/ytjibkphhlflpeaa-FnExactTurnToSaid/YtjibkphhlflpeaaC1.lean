/- Contracts of the functions on fractions of both packages, for all arguments within the bounds that each names; no other condition. -/
import Derived.Test.YtjibkphhlflpeaaAb
import Derived.Test.YtjibkphhlflpeaaProg
set_option linter.unusedVariables false
set_option linter.unusedSimpArgs false
namespace Go.Proofs.Ytjibkphhlflpeaa
open Ab

theorem follows : Try.prog.follows .mixedOrders = true := by kernel_rfl
theorem eqok0 : EqOk Try.prog [] := by intro t m n r h; cases h
theorem enters {f : FuncId} {fn : Func} (h : Try.prog.funcs[f]? = some fn) (h1 : (fn.name == "runtime.NumGoroutine") = false) (h2 : fn.body.isNone = false) : Enters Try.prog f := ⟨fn, h, h1, h2⟩

abbrev I1 : ArgL (Int × Unit) := .cons .int .nil
abbrev I2 : ArgL (Int × Int × Unit) := .cons .int (.cons .int .nil)
abbrev I3 : ArgL (Int × Int × Int × Unit) := .cons .int (.cons .int (.cons .int .nil))
abbrev F1 : ArgL (Q × Unit) := .cons .frac .nil
abbrev F2 : ArgL (Q × Q × Unit) := .cons .frac (.cons .frac .nil)
def BI (a : Int) : Prop := -9223372036854775808 < a ∧ a < 9223372036854775808
theorem wrap_in {a : Int} (h : -9223372036854775808 ≤ a) (h' : a ≤ 9223372036854775807) : IntKind.i64.wrap a = a := by
  simp [IntKind.wrap, IntKind.signed, IntKind.bits]; omega

def withinB (n lo hi : Int) : Bool := decide (lo ≤ n) && decide (n ≤ hi)
abbrev withinSp : Sp := .pf I3 (fun _ => True) (fun x => .bool (withinB x.1 x.2.1 x.2.2.1))
theorem within_ok : Sp.ok Try.prog 17 withinSp := by
  refine Sp.pf_ok (T := ⟨[], []⟩) follows eqok0 trivial [] Try.func17 rfl (by kernel_rfl) _ _ _ fun x E hp => ?_
  obtain ⟨n, lo, hi, u⟩ := x
  (repeat' ((conv => whnf); (first | with_reducible apply And.intro | (with_reducible intro hh; first | (with_reducible have hx := NewRow.self hh; clear hx) | (with_reducible have hrow := Made.row hh; have hle := Made.le hh; have hmade := hh; clear hh) | (with_reducible have hrow := Fresh.rowS hh; have hle := Fresh.leS hh; have hfr := hh; clear hh) | (with_reducible have hx := Ext.self hh; clear hx) | (with_reducible have hx := SlV.self hh; clear hx) | (with_reducible have hx := Value.self hh; clear hx) | with_reducible cases hh | skip) | (with_reducible apply AllEq.mk; intro yy hq) | with_reducible apply trivial | with_reducible apply Exists.intro () | (with_reducible apply ex_side; (first | with_reducible assumption | with_reducible apply fracs1 | with_reducible apply fracs2 | with_reducible apply fracs3 | with_reducible apply spans1 | with_reducible apply spans2 | (with_reducible apply NewRow.keep; with_reducible assumption) | (with_reducible apply RowAt.keep; with_reducible assumption) | assumption | (focus ((repeat (first | with_reducible assumption | (with_reducible apply RowAt.le; rotate_left; with_reducible assumption) | (with_reducible apply RowB.le; rotate_left; with_reducible assumption))); done)))) | (with_reducible apply ex_side (a := (_, _)); (focus (with_reducible apply And.intro <;> (focus ((repeat (first | with_reducible assumption | (with_reducible apply RowAt.le; rotate_left; with_reducible assumption) | (with_reducible apply RowB.le; rotate_left; with_reducible assumption))); done))))))); (all_goals (conv => whnf)))
  all_goals (refine Don.mk ?_; refine congrArg (fun z => AV.v (.bool z)) ?_; unfold withinB; simp_all <;> omega)

theorem in_ok : Sp.ok Try.prog 14 withinSp := by
  refine Sp.pf_ok (T := ⟨[], []⟩) follows eqok0 trivial [] Try.func14 rfl (by kernel_rfl) _ _ _ fun x E hp => ?_
  obtain ⟨n, lo, hi, u⟩ := x
  (repeat' ((conv => whnf); (first | with_reducible apply And.intro | (with_reducible intro hh; first | (with_reducible have hx := NewRow.self hh; clear hx) | (with_reducible have hrow := Made.row hh; have hle := Made.le hh; have hmade := hh; clear hh) | (with_reducible have hrow := Fresh.rowS hh; have hle := Fresh.leS hh; have hfr := hh; clear hh) | (with_reducible have hx := Ext.self hh; clear hx) | (with_reducible have hx := SlV.self hh; clear hx) | (with_reducible have hx := Value.self hh; clear hx) | with_reducible cases hh | skip) | (with_reducible apply AllEq.mk; intro yy hq) | with_reducible apply trivial | with_reducible apply Exists.intro () | (with_reducible apply ex_side; (first | with_reducible assumption | with_reducible apply fracs1 | with_reducible apply fracs2 | with_reducible apply fracs3 | with_reducible apply spans1 | with_reducible apply spans2 | (with_reducible apply NewRow.keep; with_reducible assumption) | (with_reducible apply RowAt.keep; with_reducible assumption) | assumption | (focus ((repeat (first | with_reducible assumption | (with_reducible apply RowAt.le; rotate_left; with_reducible assumption) | (with_reducible apply RowB.le; rotate_left; with_reducible assumption))); done)))) | (with_reducible apply ex_side (a := (_, _)); (focus (with_reducible apply And.intro <;> (focus ((repeat (first | with_reducible assumption | (with_reducible apply RowAt.le; rotate_left; with_reducible assumption) | (with_reducible apply RowB.le; rotate_left; with_reducible assumption))); done))))))); (all_goals (conv => whnf)))
  all_goals (refine Don.mk ?_; refine congrArg (fun z => AV.v (.bool z)) ?_; unfold withinB; simp_all <;> omega)

theorem gcd_tmod (a b : Int) : Int.gcd b (a.tmod b) = Int.gcd a b := by
  unfold Int.gcd
  rw [Int.natAbs_tmod, Nat.gcd_comm a.natAbs b.natAbs, Nat.gcd_rec b.natAbs a.natAbs, Nat.gcd_comm]
theorem tmod_bi {a b : Int} (ha : BI a) : BI (a.tmod b) := by
  unfold BI at *
  have h1 := Int.natAbs_tmod a b
  have h2 := Nat.mod_le a.natAbs b.natAbs
  omega
theorem tmod_bi' {a b : Int} (hb : BI b) (h : b ≠ 0) : BI (a.tmod b) := by
  unfold BI at *
  have h1 := Int.natAbs_tmod a b
  have h2 := Nat.mod_lt a.natAbs (show 0 < b.natAbs by omega)
  omega
/-- Numbers of which the greatest common divisor has an opposite. -/
def G2 (a b : Int) : Prop := (BI a ∨ b ≠ 0) ∧ BI b
theorem g2_of {a b : Int} (ha : BI a) (hb : BI b) : G2 a b := ⟨.inl ha, hb⟩
abbrev gcdSp : Sp := .pf I2 (fun x => G2 x.1 x.2.1) (fun x => .int .i64 (Int.gcd x.1 x.2.1))
theorem gcd_ok : Sp.ok Try.prog 37 gcdSp := by
  refine Sp.pf_ok (T := ⟨[], []⟩) follows eqok0 trivial [(2, .take 0 (.take 1 (.take 2 (.take 3 (.take 4 (.take 5 (.done)))))))] Try.func37 rfl (by kernel_rfl) _ _ _ fun x E hp => ?_
  obtain ⟨a0, b0, u⟩ := x
  obtain ⟨ha0, hb0⟩ := hp
  simp only at ha0 hb0
  conv => whnf
  refine ⟨fun n s => ∃ (a b : Int) (g5 g6 g7 g8 g9 g10 : AV), n = b.natAbs ∧ (BI a ∨ b ≠ 0) ∧ BI b ∧ Int.gcd a b = Int.gcd a0 b0 ∧
    s = ⟨[.v (.int .i64 a), .v (.int .i64 b), .v (.tuple #[]), .v (.tuple #[]), .v (.int .i64 0), g5, g6, g7, g8, g9, g10, .v (.tuple #[]), .v (.tuple #[]), .v (.tuple #[]), .v (.tuple #[])], [], E⟩, ⟨_, a0, b0, _, _, _, _, _, _, rfl, ha0, hb0, rfl, rfl⟩, ?_⟩
  rintro n s ⟨a, b, g5, g6, g7, g8, g9, g10, rfl, ha, hb, hg, rfl⟩
  (repeat' ((conv => whnf); (first | with_reducible apply And.intro | (with_reducible intro hh; first | (with_reducible have hx := NewRow.self hh; clear hx) | (with_reducible have hrow := Made.row hh; have hle := Made.le hh; have hmade := hh; clear hh) | (with_reducible have hrow := Fresh.rowS hh; have hle := Fresh.leS hh; have hfr := hh; clear hh) | (with_reducible have hx := Ext.self hh; clear hx) | (with_reducible have hx := SlV.self hh; clear hx) | (with_reducible have hx := Value.self hh; clear hx) | with_reducible cases hh | skip) | (with_reducible apply AllEq.mk; intro yy hq) | with_reducible apply trivial | with_reducible apply Exists.intro () | (with_reducible apply ex_side; (first | with_reducible assumption | with_reducible apply fracs1 | with_reducible apply fracs2 | with_reducible apply fracs3 | with_reducible apply spans1 | with_reducible apply spans2 | (with_reducible apply NewRow.keep; with_reducible assumption) | (with_reducible apply RowAt.keep; with_reducible assumption) | assumption | (focus ((repeat (first | with_reducible assumption | (with_reducible apply RowAt.le; rotate_left; with_reducible assumption) | (with_reducible apply RowB.le; rotate_left; with_reducible assumption))); done)))) | (with_reducible apply ex_side (a := (_, _)); (focus (with_reducible apply And.intro <;> (focus ((repeat (first | with_reducible assumption | (with_reducible apply RowAt.le; rotate_left; with_reducible assumption) | (with_reducible apply RowB.le; rotate_left; with_reducible assumption))); done))))))); (all_goals (conv => whnf)))
  · have hb0 : b ≠ 0 := by simpa using hh
    exact Side.mk hb0
  · have hb0 : b ≠ 0 := by simpa using hh
    refine ⟨_, ?_, b, a.tmod b, _, _, _, _, _, _, rfl, .inl hb, tmod_bi' hb hb0, (gcd_tmod a b).trans hg, rfl⟩
    rw [Int.natAbs_tmod]
    exact Nat.mod_lt _ (by omega)
  · have hb0 : b = 0 := by simpa using hh
    subst hb0
    refine Don.mk ?_
    have ha : BI a := by
      rcases ha with h | h
      · exact h
      · exact absurd rfl h
    have h1 : IntKind.i64.wrap (0 - a) = 0 - a := by unfold BI at ha; exact wrap_in (by omega) (by omega)
    rw [h1]
    simp only
    rw [← hg, Int.gcd_zero_right]
    refine congrArg (fun z => AV.v (.int .i64 z)) ?_
    split <;> omega

def okQ (a : Q) : Bool := withinB a.q 1 1000000000 && (withinB a.p (-1000000000) 1000000000 && ((Int.gcd a.p a.q : Int) == 1))
theorem okQ_iff {a : Q} : okQ a = true ↔ 1 ≤ a.q ∧ a.q ≤ 1000000000 ∧ -1000000000 ≤ a.p ∧ a.p ≤ 1000000000 ∧ Int.gcd a.p a.q = 1 := by
  unfold okQ withinB
  simp only [Bool.and_eq_true, decide_eq_true_eq, beq_iff_eq]
  omega
theorem within_iff {n lo hi : Int} : withinB n lo hi = true ↔ lo ≤ n ∧ n ≤ hi := by unfold withinB; simp
abbrev validSp : Sp := .pf F1 (fun _ => True) (fun x => .bool (okQ x.1))
set_option maxRecDepth 100000 in
theorem valid_ok : Sp.ok Try.prog 23 validSp := by
  refine Sp.pf_ok (T := ⟨[(17, withinSp), (37, gcdSp)], []⟩) follows eqok0 ⟨enters Try.func17 rfl rfl, within_ok, enters Try.func37 rfl rfl, gcd_ok, trivial⟩ [] Try.func23 rfl (by kernel_rfl) _ _ _ fun x E hp => ?_
  obtain ⟨⟨p, q⟩, u⟩ := x
  (repeat' ((conv => whnf); (first | with_reducible apply And.intro | (with_reducible intro hh; first | (with_reducible have hx := NewRow.self hh; clear hx) | (with_reducible have hrow := Made.row hh; have hle := Made.le hh; have hmade := hh; clear hh) | (with_reducible have hrow := Fresh.rowS hh; have hle := Fresh.leS hh; have hfr := hh; clear hh) | (with_reducible have hx := Ext.self hh; clear hx) | (with_reducible have hx := SlV.self hh; clear hx) | (with_reducible have hx := Value.self hh; clear hx) | with_reducible cases hh | skip) | (with_reducible apply AllEq.mk; intro yy hq) | with_reducible apply trivial | with_reducible apply Exists.intro () | (with_reducible apply ex_side; (first | with_reducible assumption | with_reducible apply fracs1 | with_reducible apply fracs2 | with_reducible apply fracs3 | with_reducible apply spans1 | with_reducible apply spans2 | (with_reducible apply NewRow.keep; with_reducible assumption) | (with_reducible apply RowAt.keep; with_reducible assumption) | assumption | (focus ((repeat (first | with_reducible assumption | (with_reducible apply RowAt.le; rotate_left; with_reducible assumption) | (with_reducible apply RowB.le; rotate_left; with_reducible assumption))); done)))) | (with_reducible apply ex_side (a := (_, _)); (focus (with_reducible apply And.intro <;> (focus ((repeat (first | with_reducible assumption | (with_reducible apply RowAt.le; rotate_left; with_reducible assumption) | (with_reducible apply RowB.le; rotate_left; with_reducible assumption))); done))))))); (all_goals (conv => whnf)))
  (all_goals (try dsimp only [Q.eta, Sn.eta, SlV.eta] at *)); (all_goals (first | exact Side.mk trivial | with_reducible exact Side.mk rfl | exact Side.mk (fun _ _ h => h) | exact Side.mk (Made.le (by assumption)) | refine Side.mk ?_ | refine Don.mk ?_ | skip))
  · rename_i h1
    rw [within_iff] at h1 hh
    unfold G2 BI
    omega
  all_goals simp_all [okQ]

/-! fractions out of two numbers -/
def nrm (p q : Int) : Q := if q < 0 then ⟨(-p).tdiv (Int.gcd p q), (-q).tdiv (Int.gcd p q)⟩ else ⟨p.tdiv (Int.gcd p q), q.tdiv (Int.gcd p q)⟩
def okR (p q : Int) : Bool := okQ (nrm p q)
def redQ (p q : Int) : Q := if okR p q then nrm p q else ⟨0, 0⟩
def redC (p q : Int) : Int := if okR p q then 0 else 3
def tolQ (p q : Int) : Q := if okR p q then nrm p q else ⟨0, 1⟩
/-- Numbers that are far from the edges. -/
def B4 (a : Int) : Prop := -4000000000000000000 ≤ a ∧ a ≤ 4000000000000000000
theorem tdiv_le (a : Int) (n : Nat) : (a.tdiv n).natAbs ≤ a.natAbs := by
  rw [Int.natAbs_tdiv]
  exact Nat.div_le_self _ _
theorem wrap_tdiv {a : Int} (h : B4 a) (n : Nat) : IntKind.i64.wrap (a.tdiv n) = a.tdiv n := by
  have := tdiv_le a n
  unfold B4 at h
  exact wrap_in (by omega) (by omega)
theorem gcd_ne {p q : Int} (h : q ≠ 0) : (Int.gcd p q : Int) ≠ 0 := by
  have := Int.gcd_pos_of_ne_zero_right p h
  omega
theorem gcd_neg2 (p q : Int) : Int.gcd (-p) (-q) = Int.gcd p q := by rw [Int.neg_gcd, Int.gcd_neg]

theorem nrm_neg {p q : Int} (h : q < 0) : nrm p q = ⟨(-p).tdiv (Int.gcd p q), (-q).tdiv (Int.gcd p q)⟩ := if_pos h
theorem nrm_pos {p q : Int} (h : ¬ q < 0) : nrm p q = ⟨p.tdiv (Int.gcd p q), q.tdiv (Int.gcd p q)⟩ := if_neg h
theorem wrap_neg {p : Int} (h : B4 p) : IntKind.i64.wrap (0 - p) = -p := by unfold B4 at h; rw [wrap_in (by omega) (by omega)]; omega
theorem B4.neg {p : Int} (h : B4 p) : B4 (-p) := by unfold B4 at *; omega
theorem B4.bi {p : Int} (h : B4 p) : BI p := by unfold B4 at h; unfold BI; omega

/-- Numbers of which the quotient can be told. -/
def PQ (p q : Int) : Prop := q ≠ 0 ∧ I64 p ∧ B4 q ∧ (B4 p ∨ 0 < q)
theorem B4.i64 {p : Int} (h : B4 p) : I64 p := by unfold B4 at h; unfold I64; omega
theorem pq_of {p q : Int} (h : q ≠ 0) (hp : B4 p) (hq : B4 q) : PQ p q := ⟨h, hp.i64, hq, .inl hp⟩
theorem wrap_tdiv' {a : Int} (h : I64 a) (n : Nat) : IntKind.i64.wrap (a.tdiv n) = a.tdiv n := by
  by_cases h1 : a = -9223372036854775808
  · subst h1
    cases n with
    | zero => rfl
    | succ n =>
      have := tdiv_le (-9223372036854775808) (n + 1)
      have h2 : Int.tdiv (-9223372036854775808) ((n + 1 : Nat) : Int) ≤ 0 := by
        rw [show (-9223372036854775808 : Int) = -(9223372036854775808 : Int) from rfl, Int.neg_tdiv]
        have := Int.tdiv_nonneg (a := 9223372036854775808) (b := ((n + 1 : Nat) : Int)) (by omega) (by omega)
        omega
      exact wrap_in (by omega) (by omega)
  · have := tdiv_le a n
    unfold I64 at h
    exact wrap_in (by omega) (by omega)
abbrev fracOfSp : Sp := .pf I2 (fun x => PQ x.1 x.2.1) (fun x => .tuple #[(redQ x.1 x.2.1).v, .bool (okR x.1 x.2.1)])
set_option maxRecDepth 100000 in
theorem fracOf_ok : Sp.ok Try.prog 60 fracOfSp := by
  refine Sp.pf_ok (T := ⟨[(37, gcdSp), (23, validSp)], []⟩) follows eqok0 ⟨enters Try.func37 rfl rfl, gcd_ok, enters Try.func23 rfl rfl, valid_ok, trivial⟩ [(4, .take 0 (.take 1 (.take 2 (.take 3 (.take 4 (.take 5 (.take 6 (.alt 7 (.alt 8 (.done) (.last)) (.last)))))))))] Try.func60 rfl (by kernel_rfl) _ _ _ fun x E hp => ?_
  obtain ⟨p, q, u⟩ := x
  obtain ⟨hq, hpi, hq4, hpq⟩ := hp
  dsimp only at hq hpi hq4 hpq
  (repeat' ((conv => whnf); (first | with_reducible apply And.intro | (with_reducible intro hh; first | (with_reducible have hx := NewRow.self hh; clear hx) | (with_reducible have hrow := Made.row hh; have hle := Made.le hh; have hmade := hh; clear hh) | (with_reducible have hrow := Fresh.rowS hh; have hle := Fresh.leS hh; have hfr := hh; clear hh) | (with_reducible have hx := Ext.self hh; clear hx) | (with_reducible have hx := SlV.self hh; clear hx) | (with_reducible have hx := Value.self hh; clear hx) | with_reducible cases hh | skip) | (with_reducible apply AllEq.mk; intro yy hq) | with_reducible apply trivial | with_reducible apply Exists.intro () | (with_reducible apply ex_side; (first | with_reducible assumption | with_reducible apply fracs1 | with_reducible apply fracs2 | with_reducible apply fracs3 | with_reducible apply spans1 | with_reducible apply spans2 | (with_reducible apply NewRow.keep; with_reducible assumption) | (with_reducible apply RowAt.keep; with_reducible assumption) | assumption | (focus ((repeat (first | with_reducible assumption | (with_reducible apply RowAt.le; rotate_left; with_reducible assumption) | (with_reducible apply RowB.le; rotate_left; with_reducible assumption))); done)))) | (with_reducible apply ex_side (a := (_, _)); (focus (with_reducible apply And.intro <;> (focus ((repeat (first | with_reducible assumption | (with_reducible apply RowAt.le; rotate_left; with_reducible assumption) | (with_reducible apply RowB.le; rotate_left; with_reducible assumption))); done))))))); (all_goals (conv => whnf)))
  (all_goals (try dsimp only [Q.eta, Sn.eta, SlV.eta] at *)); (all_goals (first | exact Side.mk trivial | with_reducible exact Side.mk rfl | exact Side.mk (fun _ _ h => h) | exact Side.mk (Made.le (by assumption)) | refine Side.mk ?_ | refine Don.mk ?_ | skip))
  · have hp4 : B4 p := by have := of_decide_eq_true hh; rcases hpq with h | h; exact h; omega
    simp only [wrap_neg hp4, wrap_neg hq4]
    exact g2_of hp4.neg.bi hq4.neg.bi
  · have hp4 : B4 p := by have := of_decide_eq_true hh; rcases hpq with h | h; exact h; omega
    simp only [wrap_neg hp4, wrap_neg hq4, gcd_neg2]
    exact gcd_ne hq
  · have hp4 : B4 p := by have := of_decide_eq_true hh; rcases hpq with h | h; exact h; omega
    simp only [wrap_neg hp4, wrap_neg hq4, gcd_neg2]
    exact gcd_ne hq
  · rename_i h1
    have hp4 : B4 p := by have := of_decide_eq_true h1; rcases hpq with h | h; exact h; omega
    simp only [wrap_neg hp4, wrap_neg hq4, gcd_neg2, wrap_tdiv hp4, wrap_tdiv hq4, wrap_tdiv hp4.neg, wrap_tdiv hq4.neg] at *
    have hn := nrm_neg (p := p) (of_decide_eq_true h1)
    rw [← hn] at hh
    simp_all [redQ, okR, Q.v]
  · rename_i h1
    have hp4 : B4 p := by have := of_decide_eq_true h1; rcases hpq with h | h; exact h; omega
    simp only [wrap_neg hp4, wrap_neg hq4, gcd_neg2, wrap_tdiv hp4, wrap_tdiv hq4, wrap_tdiv hp4.neg, wrap_tdiv hq4.neg] at *
    have hn := nrm_neg (p := p) (of_decide_eq_true h1)
    rw [← hn] at hh
    simp_all [redQ, okR, Q.v]
  · exact ⟨.inr hq, hq4.bi⟩
  · exact gcd_ne hq
  · exact gcd_ne hq
  · rename_i h1
    simp only [wrap_tdiv' hpi, wrap_tdiv hq4] at *
    have hn := nrm_pos (p := p) (of_decide_eq_false h1)
    rw [← hn] at hh
    simp_all [redQ, okR, Q.v]
  · rename_i h1
    simp only [wrap_tdiv' hpi, wrap_tdiv hq4] at *
    have hn := nrm_pos (p := p) (of_decide_eq_false h1)
    rw [← hn] at hh
    simp_all [redQ, okR, Q.v]

/-! the calculator -/
abbrev SC : ArgL (Bool × Unit) := .cons .bool .nil
abbrev toldSp : Sp := .sf SC 67 I2 (fun _ x => PQ x.1 x.2.1) (fun _ x => (tolQ x.1 x.2.1).v) (fun s x => (s.1 || !okR x.1 x.2.1, ()))
abbrev zeroSp : Sp := .pf .nil (fun _ => True) (fun _ => (⟨0, 1⟩ : Q).v)
set_option maxRecDepth 100000 in
theorem zero_ok : Sp.ok Try.prog 56 zeroSp := by
  refine Sp.pf_ok (T := ⟨[], []⟩) follows eqok0 trivial [] Try.func56 rfl (by kernel_rfl) _ _ _ fun x E hp => ?_
  (repeat' ((conv => whnf); (first | with_reducible apply And.intro | (with_reducible intro hh; first | (with_reducible have hx := NewRow.self hh; clear hx) | (with_reducible have hrow := Made.row hh; have hle := Made.le hh; have hmade := hh; clear hh) | (with_reducible have hrow := Fresh.rowS hh; have hle := Fresh.leS hh; have hfr := hh; clear hh) | (with_reducible have hx := Ext.self hh; clear hx) | (with_reducible have hx := SlV.self hh; clear hx) | (with_reducible have hx := Value.self hh; clear hx) | with_reducible cases hh | skip) | (with_reducible apply AllEq.mk; intro yy hq) | with_reducible apply trivial | with_reducible apply Exists.intro () | (with_reducible apply ex_side; (first | with_reducible assumption | with_reducible apply fracs1 | with_reducible apply fracs2 | with_reducible apply fracs3 | with_reducible apply spans1 | with_reducible apply spans2 | (with_reducible apply NewRow.keep; with_reducible assumption) | (with_reducible apply RowAt.keep; with_reducible assumption) | assumption | (focus ((repeat (first | with_reducible assumption | (with_reducible apply RowAt.le; rotate_left; with_reducible assumption) | (with_reducible apply RowB.le; rotate_left; with_reducible assumption))); done)))) | (with_reducible apply ex_side (a := (_, _)); (focus (with_reducible apply And.intro <;> (focus ((repeat (first | with_reducible assumption | (with_reducible apply RowAt.le; rotate_left; with_reducible assumption) | (with_reducible apply RowB.le; rotate_left; with_reducible assumption))); done))))))); (all_goals (conv => whnf)))
  (all_goals (try dsimp only [Q.eta, Sn.eta, SlV.eta] at *)); (all_goals (first | exact Side.mk trivial | with_reducible exact Side.mk rfl | exact Side.mk (fun _ _ h => h) | exact Side.mk (Made.le (by assumption)) | refine Side.mk ?_ | refine Don.mk ?_ | skip))
  all_goals rfl
theorem st_eq {a b : Bool} {t : TypeId} (h : a = b) : some ([Value.bool a], t) = some ([Value.bool b], t) := by rw [h]
set_option maxRecDepth 100000 in
theorem told_ok : Sp.ok Try.prog 57 toldSp := by
  refine Sp.sf_ok (T := ⟨[(60, fracOfSp), (56, zeroSp)], []⟩) follows eqok0 ⟨enters Try.func60 rfl rfl, fracOf_ok, enters Try.func56 rfl rfl, zero_ok, trivial⟩ [] Try.func57 rfl (by kernel_rfl) _ _ _ _ _ _ fun s x E hp => ?_
  obtain ⟨b, u⟩ := s
  obtain ⟨p, q, u⟩ := x
  (repeat' ((conv => whnf); (first | with_reducible apply And.intro | (with_reducible intro hh; first | (with_reducible have hx := NewRow.self hh; clear hx) | (with_reducible have hrow := Made.row hh; have hle := Made.le hh; have hmade := hh; clear hh) | (with_reducible have hrow := Fresh.rowS hh; have hle := Fresh.leS hh; have hfr := hh; clear hh) | (with_reducible have hx := Ext.self hh; clear hx) | (with_reducible have hx := SlV.self hh; clear hx) | (with_reducible have hx := Value.self hh; clear hx) | with_reducible cases hh | skip) | (with_reducible apply AllEq.mk; intro yy hq) | with_reducible apply trivial | with_reducible apply Exists.intro () | (with_reducible apply ex_side; (first | with_reducible assumption | with_reducible apply fracs1 | with_reducible apply fracs2 | with_reducible apply fracs3 | with_reducible apply spans1 | with_reducible apply spans2 | (with_reducible apply NewRow.keep; with_reducible assumption) | (with_reducible apply RowAt.keep; with_reducible assumption) | assumption | (focus ((repeat (first | with_reducible assumption | (with_reducible apply RowAt.le; rotate_left; with_reducible assumption) | (with_reducible apply RowB.le; rotate_left; with_reducible assumption))); done)))) | (with_reducible apply ex_side (a := (_, _)); (focus (with_reducible apply And.intro <;> (focus ((repeat (first | with_reducible assumption | (with_reducible apply RowAt.le; rotate_left; with_reducible assumption) | (with_reducible apply RowB.le; rotate_left; with_reducible assumption))); done))))))); (all_goals (conv => whnf)))
  (all_goals (try dsimp only [Q.eta, Sn.eta, SlV.eta] at *)); (all_goals (first | exact Side.mk trivial | with_reducible exact Side.mk rfl | exact Side.mk (fun _ _ h => h) | exact Side.mk (Made.le (by assumption)) | refine Side.mk ?_ | refine Don.mk ?_ | skip))
  · exact hp
  · have h1 : okR p q = false := by simpa using hh
    refine ⟨?_, st_eq ?_⟩ <;> simp [tolQ, h1, Q.v]
  · have h1 : okR p q = true := by simpa using hh
    refine ⟨?_, st_eq ?_⟩ <;> simp [tolQ, redQ, h1, Q.v]

theorem wrap4 {a : Int} (h : B4 a) : IntKind.i64.wrap a = a := by unfold B4 at h; exact wrap_in (by omega) (by omega)
/-- Parts of fractions, and products of two of them. -/
theorem mul_b {a b : Int} (ha : -1000000000 ≤ a ∧ a ≤ 1000000000) (hb : -1000000000 ≤ b ∧ b ≤ 1000000000) : -1000000000000000000 ≤ a * b ∧ a * b ≤ 1000000000000000000 := by
  have h1 : a.natAbs * b.natAbs ≤ 1000000000 * 1000000000 := Nat.mul_le_mul (by omega) (by omega)
  rw [← Int.natAbs_mul] at h1
  omega
structure OkB (a b : Q) : Prop where
  pq : -1000000000000000000 ≤ a.p * b.q ∧ a.p * b.q ≤ 1000000000000000000
  qp : -1000000000000000000 ≤ b.p * a.q ∧ b.p * a.q ≤ 1000000000000000000
  qp' : -1000000000000000000 ≤ a.q * b.p ∧ a.q * b.p ≤ 1000000000000000000
  qq : -1000000000000000000 ≤ a.q * b.q ∧ a.q * b.q ≤ 1000000000000000000
  pp : -1000000000000000000 ≤ a.p * b.p ∧ a.p * b.p ≤ 1000000000000000000
  ne : a.q * b.q ≠ 0
theorem okB {a b : Q} (ha : okQ a = true) (hb : okQ b = true) : OkB a b := by
  obtain ⟨h1, h2, h3, h4, _⟩ := okQ_iff.1 ha
  obtain ⟨k1, k2, k3, k4, _⟩ := okQ_iff.1 hb
  exact ⟨mul_b ⟨h3, h4⟩ ⟨by omega, k2⟩, mul_b ⟨k3, k4⟩ ⟨by omega, h2⟩, mul_b ⟨by omega, h2⟩ ⟨k3, k4⟩, mul_b ⟨by omega, h2⟩ ⟨by omega, k2⟩, mul_b ⟨h3, h4⟩ ⟨k3, k4⟩, Int.mul_ne_zero (by omega) (by omega)⟩
theorem wrap18 {a : Int} (h : -1000000000000000000 ≤ a ∧ a ≤ 1000000000000000000) : IntKind.i64.wrap a = a := wrap_in (by omega) (by omega)
theorem OkB.wpq {a b : Q} (h : OkB a b) : IntKind.i64.wrap (a.p * b.q) = a.p * b.q := wrap18 h.pq
theorem OkB.wqp {a b : Q} (h : OkB a b) : IntKind.i64.wrap (b.p * a.q) = b.p * a.q := wrap18 h.qp
theorem OkB.wqp' {a b : Q} (h : OkB a b) : IntKind.i64.wrap (a.q * b.p) = a.q * b.p := wrap18 h.qp'
theorem OkB.wqq {a b : Q} (h : OkB a b) : IntKind.i64.wrap (a.q * b.q) = a.q * b.q := wrap18 h.qq
theorem OkB.wpp {a b : Q} (h : OkB a b) : IntKind.i64.wrap (a.p * b.p) = a.p * b.p := wrap18 h.pp
theorem OkB.add4 {a b : Q} (h : OkB a b) : B4 (a.p * b.q + b.p * a.q) := by have := h.pq; have := h.qp; unfold B4; omega
theorem OkB.sub4 {a b : Q} (h : OkB a b) : B4 (a.p * b.q - b.p * a.q) := by have := h.pq; have := h.qp; unfold B4; omega
theorem OkB.qq4 {a b : Q} (h : OkB a b) : B4 (a.q * b.q) := by have := h.qq; unfold B4; omega
theorem OkB.pp4 {a b : Q} (h : OkB a b) : B4 (a.p * b.p) := by have := h.pp; unfold B4; omega
theorem OkB.pq4 {a b : Q} (h : OkB a b) : B4 (a.p * b.q) := by have := h.pq; unfold B4; omega
theorem OkB.qp4 {a b : Q} (h : OkB a b) : B4 (a.q * b.p) := by have := h.qp'; unfold B4; omega

/-! the four operations: what they come to, and whether it is a valid fraction -/
def opAdd (a b : Q) : Int × Int := (a.p * b.q + b.p * a.q, a.q * b.q)
def opSub (a b : Q) : Int × Int := (a.p * b.q - b.p * a.q, a.q * b.q)
def opMul (a b : Q) : Int × Int := (a.p * b.p, a.q * b.q)
def opDiv (a b : Q) : Int × Int := (a.p * b.q, a.q * b.p)
abbrev addSp : Sp := .sf SC 67 F2 (fun _ x => okQ x.1 = true ∧ okQ x.2.1 = true) (fun _ x => (tolQ (opAdd x.1 x.2.1).1 (opAdd x.1 x.2.1).2).v) (fun s x => (s.1 || !okR (opAdd x.1 x.2.1).1 (opAdd x.1 x.2.1).2, ()))
abbrev subSp : Sp := .sf SC 67 F2 (fun _ x => okQ x.1 = true ∧ okQ x.2.1 = true) (fun _ x => (tolQ (opSub x.1 x.2.1).1 (opSub x.1 x.2.1).2).v) (fun s x => (s.1 || !okR (opSub x.1 x.2.1).1 (opSub x.1 x.2.1).2, ()))
abbrev mulSp : Sp := .sf SC 67 F2 (fun _ x => okQ x.1 = true ∧ okQ x.2.1 = true) (fun _ x => (tolQ (opMul x.1 x.2.1).1 (opMul x.1 x.2.1).2).v) (fun s x => (s.1 || !okR (opMul x.1 x.2.1).1 (opMul x.1 x.2.1).2, ()))
set_option maxRecDepth 100000 in
theorem sub_ok : Sp.ok Try.prog 46 subSp := by
  refine Sp.sf_ok (T := ⟨[(57, toldSp)], []⟩) follows eqok0 ⟨enters Try.func57 rfl rfl, told_ok, trivial⟩ [] Try.func46 rfl (by kernel_rfl) _ _ _ _ _ _ fun s x E hp => ?_
  obtain ⟨b, u⟩ := s
  obtain ⟨⟨a, c⟩, ⟨d, e⟩, u⟩ := x
  have h := okB hp.1 hp.2
  (repeat' ((conv => whnf); (first | with_reducible apply And.intro | (with_reducible intro hh; first | (with_reducible have hx := NewRow.self hh; clear hx) | (with_reducible have hrow := Made.row hh; have hle := Made.le hh; have hmade := hh; clear hh) | (with_reducible have hrow := Fresh.rowS hh; have hle := Fresh.leS hh; have hfr := hh; clear hh) | (with_reducible have hx := Ext.self hh; clear hx) | (with_reducible have hx := SlV.self hh; clear hx) | (with_reducible have hx := Value.self hh; clear hx) | with_reducible cases hh | skip) | (with_reducible apply AllEq.mk; intro yy hq) | with_reducible apply trivial | with_reducible apply Exists.intro () | (with_reducible apply ex_side; (first | with_reducible assumption | with_reducible apply fracs1 | with_reducible apply fracs2 | with_reducible apply fracs3 | with_reducible apply spans1 | with_reducible apply spans2 | (with_reducible apply NewRow.keep; with_reducible assumption) | (with_reducible apply RowAt.keep; with_reducible assumption) | assumption | (focus ((repeat (first | with_reducible assumption | (with_reducible apply RowAt.le; rotate_left; with_reducible assumption) | (with_reducible apply RowB.le; rotate_left; with_reducible assumption))); done)))) | (with_reducible apply ex_side (a := (_, _)); (focus (with_reducible apply And.intro <;> (focus ((repeat (first | with_reducible assumption | (with_reducible apply RowAt.le; rotate_left; with_reducible assumption) | (with_reducible apply RowB.le; rotate_left; with_reducible assumption))); done))))))); (all_goals (conv => whnf)))
  (all_goals (try dsimp only [Q.eta, Sn.eta, SlV.eta] at *)); (all_goals (first | exact Side.mk trivial | with_reducible exact Side.mk rfl | exact Side.mk (fun _ _ h => h) | exact Side.mk (Made.le (by assumption)) | refine Side.mk ?_ | refine Don.mk ?_ | skip))
  all_goals try simp only [h.wpq, h.wqp, h.wqq, wrap4 h.sub4] at *
  · exact pq_of h.ne h.sub4 h.qq4
  · exact ⟨rfl, rfl⟩
set_option maxRecDepth 100000 in
theorem mul_ok : Sp.ok Try.prog 45 mulSp := by
  refine Sp.sf_ok (T := ⟨[(57, toldSp)], []⟩) follows eqok0 ⟨enters Try.func57 rfl rfl, told_ok, trivial⟩ [] Try.func45 rfl (by kernel_rfl) _ _ _ _ _ _ fun s x E hp => ?_
  obtain ⟨b, u⟩ := s
  obtain ⟨⟨a, c⟩, ⟨d, e⟩, u⟩ := x
  have h := okB hp.1 hp.2
  (repeat' ((conv => whnf); (first | with_reducible apply And.intro | (with_reducible intro hh; first | (with_reducible have hx := NewRow.self hh; clear hx) | (with_reducible have hrow := Made.row hh; have hle := Made.le hh; have hmade := hh; clear hh) | (with_reducible have hrow := Fresh.rowS hh; have hle := Fresh.leS hh; have hfr := hh; clear hh) | (with_reducible have hx := Ext.self hh; clear hx) | (with_reducible have hx := SlV.self hh; clear hx) | (with_reducible have hx := Value.self hh; clear hx) | with_reducible cases hh | skip) | (with_reducible apply AllEq.mk; intro yy hq) | with_reducible apply trivial | with_reducible apply Exists.intro () | (with_reducible apply ex_side; (first | with_reducible assumption | with_reducible apply fracs1 | with_reducible apply fracs2 | with_reducible apply fracs3 | with_reducible apply spans1 | with_reducible apply spans2 | (with_reducible apply NewRow.keep; with_reducible assumption) | (with_reducible apply RowAt.keep; with_reducible assumption) | assumption | (focus ((repeat (first | with_reducible assumption | (with_reducible apply RowAt.le; rotate_left; with_reducible assumption) | (with_reducible apply RowB.le; rotate_left; with_reducible assumption))); done)))) | (with_reducible apply ex_side (a := (_, _)); (focus (with_reducible apply And.intro <;> (focus ((repeat (first | with_reducible assumption | (with_reducible apply RowAt.le; rotate_left; with_reducible assumption) | (with_reducible apply RowB.le; rotate_left; with_reducible assumption))); done))))))); (all_goals (conv => whnf)))
  (all_goals (try dsimp only [Q.eta, Sn.eta, SlV.eta] at *)); (all_goals (first | exact Side.mk trivial | with_reducible exact Side.mk rfl | exact Side.mk (fun _ _ h => h) | exact Side.mk (Made.le (by assumption)) | refine Side.mk ?_ | refine Don.mk ?_ | skip))
  all_goals try simp only [h.wpp, h.wqq] at *
  · exact pq_of h.ne h.pp4 h.qq4
  · exact ⟨rfl, rfl⟩

end Go.Proofs.Ytjibkphhlflpeaa
