/- Contracts of both packages' functions that place and round fractions, for all arguments within the bounds that each names; no other condition. -/
import Derived.Test.YtbgjokadfkblmaaAb
import Derived.Test.YtbgjokadfkblmaaC1
import Derived.Test.YtbgjokadfkblmaaC2
import Derived.Test.YtbgjokadfkblmaaC3
import Derived.Test.YtbgjokadfkblmaaC4
import Derived.Test.YtbgjokadfkblmaaC5
import Derived.Test.YtbgjokadfkblmaaCL
import Derived.Test.YtbgjokadfkblmaaC6
import Derived.Test.YtbgjokadfkblmaaC7
import Derived.Test.YtbgjokadfkblmaaProg
set_option linter.unusedVariables false
set_option linter.unusedSimpArgs false
namespace Go.Proofs.Ytbgjokadfkblmaa
open Ab

abbrev RI (r : Int × Int) : Value := .tuple #[.int .i64 r.1, .int .i64 r.2]
abbrev RB (r : Bool × Int) : Value := .tuple #[.bool r.1, .int .i64 r.2]
def inR (s : Sn) (a : Q) : Bool × Int := grd false (okS s && okQ a) 1 (inS s a, 0)
abbrev inFSp : Sp := .pf SA (fun _ => True) (fun x => RB (inR x.1 x.2.1))
set_option maxRecDepth 100000 in
theorem inF_ok : Sp.ok Try.prog 59 inFSp := by
  refine Sp.pf_ok (T := [(126, spanVSp), (95, validSp), (92, cmpSp)]) follows eqok0 ⟨enters Try.func126 rfl rfl, spanV_ok, enters Try.func95 rfl rfl, valid_ok, enters Try.func92 rfl rfl, cmp_ok, trivial⟩ [] Try.func59 rfl (by kernel_rfl) _ _ _ fun x E hp => ?_
  obtain ⟨⟨⟨a, b⟩, ⟨c, d⟩⟩, ⟨p, q⟩, u⟩ := x
  (repeat' ((conv => whnf); (first | with_reducible apply And.intro | (with_reducible intro hh; first | (with_reducible have hx := NewRow.self hh; clear hx) | (with_reducible have hx := Ext.self hh; clear hx) | (with_reducible have hx := SlV.self hh; clear hx) | (with_reducible have hx := Value.self hh; clear hx) | with_reducible cases hh | skip) | (with_reducible apply AllEq.mk; intro yy hq) | with_reducible apply trivial | with_reducible apply Exists.intro () | (with_reducible apply ex_side; (first | with_reducible assumption | with_reducible apply fracs1 | with_reducible apply fracs2 | with_reducible apply fracs3 | with_reducible apply spans1 | with_reducible apply spans2 | (with_reducible apply NewRow.keep; with_reducible assumption) | (with_reducible apply RowAt.keep; with_reducible assumption) | assumption)))); (all_goals (conv => whnf)))
  (all_goals (try dsimp only [Q.eta, Sn.eta, SlV.eta] at *)); (all_goals (first | exact Side.mk trivial | with_reducible exact Side.mk rfl | refine Side.mk ?_ | refine Don.mk ?_ | skip))
  · simp_all [inR, grd]
  · rename_i h1
    exact ⟨okS_lo (not_f h1), not_f hh⟩
  · rename_i h1 h2
    exact ⟨not_f h2, okS_hi (not_f h1)⟩
  all_goals first | (simp_all [inR, grd, inS]; done) | (simp_all [inR, grd, inS]; omega)
set_option maxRecDepth 100000 in
theorem sinF_ok : Sp.ok Try.prog 56 inFSp := by
  refine Sp.pf_ok (T := [(124, spanPSp), (102, validSp), (125, inPSp)]) follows eqok0 ⟨enters Try.func124 rfl rfl, spanP_ok, enters Try.func102 rfl rfl, spok_ok, enters Try.func125 rfl rfl, inP_ok, trivial⟩ [] Try.func56 rfl (by kernel_rfl) _ _ _ fun x E hp => ?_
  obtain ⟨⟨⟨a, b⟩, ⟨c, d⟩⟩, ⟨p, q⟩, u⟩ := x
  (repeat' ((conv => whnf); (first | with_reducible apply And.intro | (with_reducible intro hh; first | (with_reducible have hx := NewRow.self hh; clear hx) | (with_reducible have hx := Ext.self hh; clear hx) | (with_reducible have hx := SlV.self hh; clear hx) | (with_reducible have hx := Value.self hh; clear hx) | with_reducible cases hh | skip) | (with_reducible apply AllEq.mk; intro yy hq) | with_reducible apply trivial | with_reducible apply Exists.intro () | (with_reducible apply ex_side; (first | with_reducible assumption | with_reducible apply fracs1 | with_reducible apply fracs2 | with_reducible apply fracs3 | with_reducible apply spans1 | with_reducible apply spans2 | (with_reducible apply NewRow.keep; with_reducible assumption) | (with_reducible apply RowAt.keep; with_reducible assumption) | assumption)))); (all_goals (conv => whnf)))
  (all_goals (try dsimp only [Q.eta, Sn.eta, SlV.eta] at *)); (all_goals (first | exact Side.mk trivial | with_reducible exact Side.mk rfl | refine Side.mk ?_ | refine Don.mk ?_ | skip))
  · simp_all [inR, grd]
  · rename_i h1
    exact ⟨okS_lo (not_f h1), okS_hi (not_f h1), not_f hh⟩
  all_goals simp_all [inR, grd]
/-! rounding -/
def neaN (p q : Int) : Int := (2 * p + q) / (2 * q)
abbrev M9 (n : Int) : Bool := withinB n (-1000000000) 1000000000
def P18 (p q : Int) : Prop := 0 < q ∧ q ≤ 1000000000000000000 ∧ -1000000000000000000 ≤ p ∧ p ≤ 1000000000000000000
theorem P18.den {p q : Int} (h : P18 p q) : 0 < 2 * q ∧ B4 (2 * p + q) := by unfold P18 at h; unfold B4; omega
theorem P18.w2p {p q : Int} (h : P18 p q) : IntKind.i64.wrap (2 * p) = 2 * p := by unfold P18 at h; exact wrap_in (by omega) (by omega)
theorem P18.w2q {p q : Int} (h : P18 p q) : IntKind.i64.wrap (2 * q) = 2 * q := by unfold P18 at h; exact wrap_in (by omega) (by omega)
theorem P18.ws {p q : Int} (h : P18 p q) : IntKind.i64.wrap (2 * p + q) = 2 * p + q := by unfold P18 at h; exact wrap_in (by omega) (by omega)
theorem p18_of {a u : Q} (ha : okQ a = true) (hu : okQ u = true) (h : 0 < u.p) : P18 (a.p * u.q) (a.q * u.p) := by
  have h1 := (okQ_iff.1 ha).1
  have h2 := okB ha hu
  exact ⟨Int.mul_pos (by omega) h, h2.qp'.2, h2.pq⟩
abbrev nearestSp : Sp := .pf I2 (fun x => P18 x.1 x.2.1) (fun x => .tuple #[.int .i64 (neaN x.1 x.2.1), .bool (M9 (neaN x.1 x.2.1))])
set_option maxRecDepth 100000 in
theorem nearest_ok : Sp.ok Try.prog 129 nearestSp := by
  refine Sp.pf_ok (T := [(119, downSp), (94, withinSp)]) follows eqok0 ⟨enters Try.func119 rfl rfl, floorDiv_ok, enters Try.func94 rfl rfl, within_ok, trivial⟩ [] Try.func129 rfl (by kernel_rfl) _ _ _ fun x E hp => ?_
  obtain ⟨p, q, u⟩ := x
  (repeat' ((conv => whnf); (first | with_reducible apply And.intro | (with_reducible intro hh; first | (with_reducible have hx := NewRow.self hh; clear hx) | (with_reducible have hx := Ext.self hh; clear hx) | (with_reducible have hx := SlV.self hh; clear hx) | (with_reducible have hx := Value.self hh; clear hx) | with_reducible cases hh | skip) | (with_reducible apply AllEq.mk; intro yy hq) | with_reducible apply trivial | with_reducible apply Exists.intro () | (with_reducible apply ex_side; (first | with_reducible assumption | with_reducible apply fracs1 | with_reducible apply fracs2 | with_reducible apply fracs3 | with_reducible apply spans1 | with_reducible apply spans2 | (with_reducible apply NewRow.keep; with_reducible assumption) | (with_reducible apply RowAt.keep; with_reducible assumption) | assumption)))); (all_goals (conv => whnf)))
  (all_goals (try dsimp only [Q.eta, Sn.eta, SlV.eta] at *)); (all_goals (first | exact Side.mk trivial | with_reducible exact Side.mk rfl | refine Side.mk ?_ | refine Don.mk ?_ | skip))
  all_goals simp only [P18.w2p hp, P18.w2q hp, P18.ws hp] at *
  · exact P18.den hp
  · rfl
abbrev nearSp : Sp := .pf F2 (fun x => F2ok x ∧ 0 < x.2.1.p) (fun x => .int .i64 (neaN (x.1.p * x.2.1.q) (x.1.q * x.2.1.p)))
set_option maxRecDepth 100000 in
theorem snear_ok : Sp.ok Try.prog 128 nearSp := by
  refine Sp.pf_ok (T := [(161, downSp)]) follows eqok0 ⟨enters Try.func161 rfl rfl, down_ok, trivial⟩ [] Try.func128 rfl (by kernel_rfl) _ _ _ fun x E hp => ?_
  obtain ⟨⟨a, c⟩, ⟨d, e⟩, u⟩ := x
  have h := okB hp.1.1 hp.1.2
  have hP := p18_of hp.1.1 hp.1.2 hp.2
  (repeat' ((conv => whnf); (first | with_reducible apply And.intro | (with_reducible intro hh; first | (with_reducible have hx := NewRow.self hh; clear hx) | (with_reducible have hx := Ext.self hh; clear hx) | (with_reducible have hx := SlV.self hh; clear hx) | (with_reducible have hx := Value.self hh; clear hx) | with_reducible cases hh | skip) | (with_reducible apply AllEq.mk; intro yy hq) | with_reducible apply trivial | with_reducible apply Exists.intro () | (with_reducible apply ex_side; (first | with_reducible assumption | with_reducible apply fracs1 | with_reducible apply fracs2 | with_reducible apply fracs3 | with_reducible apply spans1 | with_reducible apply spans2 | (with_reducible apply NewRow.keep; with_reducible assumption) | (with_reducible apply RowAt.keep; with_reducible assumption) | assumption)))); (all_goals (conv => whnf)))
  (all_goals (try dsimp only [Q.eta, Sn.eta, SlV.eta] at *)); (all_goals (first | exact Side.mk trivial | with_reducible exact Side.mk rfl | refine Side.mk ?_ | refine Don.mk ?_ | skip))
  all_goals simp only [h.wpq, h.wqp', P18.w2p hP, P18.w2q hP, P18.ws hP] at *
  · exact P18.den hP
  · rfl
abbrev integerSp : Sp := .pf I1 (fun _ => True) (fun x => RI (grd 0 (M9 x.1) 3 (x.1, 0)))
set_option maxRecDepth 100000 in
theorem integer_ok : Sp.ok Try.prog 127 integerSp := by
  refine Sp.pf_ok (T := [(103, withinSp)]) follows eqok0 ⟨enters Try.func103 rfl rfl, in_ok, trivial⟩ [] Try.func127 rfl (by kernel_rfl) _ _ _ fun x E hp => ?_
  obtain ⟨n, u⟩ := x
  (repeat' ((conv => whnf); (first | with_reducible apply And.intro | (with_reducible intro hh; first | (with_reducible have hx := NewRow.self hh; clear hx) | (with_reducible have hx := Ext.self hh; clear hx) | (with_reducible have hx := SlV.self hh; clear hx) | (with_reducible have hx := Value.self hh; clear hx) | with_reducible cases hh | skip) | (with_reducible apply AllEq.mk; intro yy hq) | with_reducible apply trivial | with_reducible apply Exists.intro () | (with_reducible apply ex_side; (first | with_reducible assumption | with_reducible apply fracs1 | with_reducible apply fracs2 | with_reducible apply fracs3 | with_reducible apply spans1 | with_reducible apply spans2 | (with_reducible apply NewRow.keep; with_reducible assumption) | (with_reducible apply RowAt.keep; with_reducible assumption) | assumption)))); (all_goals (conv => whnf)))
  (all_goals (try dsimp only [Q.eta, Sn.eta, SlV.eta] at *)); (all_goals (first | exact Side.mk trivial | with_reducible exact Side.mk rfl | refine Side.mk ?_ | refine Don.mk ?_ | skip))
  · rw [grd_no (not_t hh)]
  · rw [grd_yes (not_f hh)]
def neaR (a u : Q) : Int × Int := grd 0 (okQ a && okQ u) 1 (grd 0 (!decide (u.p ≤ 0)) 2 (grd 0 (M9 (neaN (a.p * u.q) (a.q * u.p))) 3 (neaN (a.p * u.q) (a.q * u.p), 0)))
abbrev neaFSp : Sp := .pf F2 (fun _ => True) (fun x => RI (neaR x.1 x.2.1))
set_option maxRecDepth 100000 in
theorem sneaF_ok : Sp.ok Try.prog 60 neaFSp := by
  refine Sp.pf_ok (T := [(96, twoSp), (128, nearSp), (127, integerSp)]) follows eqok0 ⟨enters Try.func96 rfl rfl, two_ok, enters Try.func128 rfl rfl, snear_ok, enters Try.func127 rfl rfl, integer_ok, trivial⟩ [] Try.func60 rfl (by kernel_rfl) _ _ _ fun x E hp => ?_
  obtain ⟨⟨a, c⟩, ⟨d, e⟩, u⟩ := x
  (repeat' ((conv => whnf); (first | with_reducible apply And.intro | (with_reducible intro hh; first | (with_reducible have hx := NewRow.self hh; clear hx) | (with_reducible have hx := Ext.self hh; clear hx) | (with_reducible have hx := SlV.self hh; clear hx) | (with_reducible have hx := Value.self hh; clear hx) | with_reducible cases hh | skip) | (with_reducible apply AllEq.mk; intro yy hq) | with_reducible apply trivial | with_reducible apply Exists.intro () | (with_reducible apply ex_side; (first | with_reducible assumption | with_reducible apply fracs1 | with_reducible apply fracs2 | with_reducible apply fracs3 | with_reducible apply spans1 | with_reducible apply spans2 | (with_reducible apply NewRow.keep; with_reducible assumption) | (with_reducible apply RowAt.keep; with_reducible assumption) | assumption)))); (all_goals (conv => whnf)))
  (all_goals (try dsimp only [Q.eta, Sn.eta, SlV.eta] at *)); (all_goals (first | exact Side.mk trivial | with_reducible exact Side.mk rfl | refine Side.mk ?_ | refine Don.mk ?_ | skip))
  all_goals simp only [code_ne] at *
  · rw [neaR, grd_no (not_t hh), if_neg (by simp [not_t hh])]
  · rename_i h1
    rw [neaR, grd_yes (not_f hh), grd_no (by dsimp only; rw [h1]; rfl)]
  · rename_i h1
    have := of_decide_eq_false h1
    exact ⟨by simpa [F2ok] using hh, by omega⟩
  · rename_i h1
    have e : neaR ⟨a, c⟩ ⟨d, e⟩ = grd 0 (M9 (neaN (a * e) (c * d))) 3 (neaN (a * e) (c * d), 0) := by rw [neaR, grd_yes (not_f hh), grd_yes (by dsimp only; rw [h1]; rfl)]
    rw [e]
set_option maxRecDepth 100000 in
theorem neaF_ok : Sp.ok Try.prog 61 neaFSp := by
  refine Sp.pf_ok (T := [(91, areSp), (129, nearestSp)]) follows eqok0 ⟨enters Try.func91 rfl rfl, are_ok, enters Try.func129 rfl rfl, nearest_ok, trivial⟩ [] Try.func61 rfl (by kernel_rfl) _ _ _ fun x E hp => ?_
  obtain ⟨⟨a, c⟩, ⟨d, e⟩, u⟩ := x
  (repeat' ((conv => whnf); (first | with_reducible apply And.intro | (with_reducible intro hh; first | (with_reducible have hx := NewRow.self hh; clear hx) | (with_reducible have hx := Ext.self hh; clear hx) | (with_reducible have hx := SlV.self hh; clear hx) | (with_reducible have hx := Value.self hh; clear hx) | with_reducible cases hh | skip) | (with_reducible apply AllEq.mk; intro yy hq) | with_reducible apply trivial | with_reducible apply Exists.intro () | (with_reducible apply ex_side; (first | with_reducible assumption | with_reducible apply fracs1 | with_reducible apply fracs2 | with_reducible apply fracs3 | with_reducible apply spans1 | with_reducible apply spans2 | (with_reducible apply NewRow.keep; with_reducible assumption) | (with_reducible apply RowAt.keep; with_reducible assumption) | assumption)))); (all_goals (conv => whnf)))
  (all_goals (try dsimp only [Q.eta, Sn.eta, SlV.eta] at *)); (all_goals (first | exact Side.mk trivial | with_reducible exact Side.mk rfl | refine Side.mk ?_ | refine Don.mk ?_ | skip))
  all_goals simp only [allOk2] at *
  · rw [neaR, grd_no (not_t hh)]
  · rename_i h1
    rw [neaR, grd_yes (not_f hh), grd_no (by dsimp only; rw [h1]; rfl)]
  all_goals have h2 : okQ ⟨a, c⟩ = true ∧ okQ ⟨d, e⟩ = true := by simpa using hh
  all_goals have h := okB h2.1 h2.2
  all_goals simp only [h.wpq, h.wqp'] at *
  · rename_i h1
    have := of_decide_eq_false h1
    exact p18_of h2.1 h2.2 (show 0 < d by omega)
  · rename_i h1 h3
    have e : neaR ⟨a, c⟩ ⟨d, e⟩ = grd 0 (M9 (neaN (a * e) (c * d))) 3 (neaN (a * e) (c * d), 0) := by rw [neaR, grd_yes (by simp [h2]), grd_yes (by dsimp only; rw [h1]; rfl)]
    rw [e, grd_no (not_t hh)]
  · rename_i h1 h3
    have e : neaR ⟨a, c⟩ ⟨d, e⟩ = grd 0 (M9 (neaN (a * e) (c * d))) 3 (neaN (a * e) (c * d), 0) := by rw [neaR, grd_yes (by simp [h2]), grd_yes (by dsimp only; rw [h1]; rfl)]
    rw [e, grd_yes (not_f hh)]
/-! screws -/
/-- A screw. -/
structure Scr where
  pitch : Q
  parts : Int
  play : Q
def Scr.cells (m : Scr) : List Value := [.int .i64 m.pitch.p, .int .i64 m.pitch.q, .int .i64 m.parts, .int .i64 m.play.p, .int .i64 m.play.q]
def scrDec : List Value → Option Scr
  | [.int .i64 p, .int .i64 q, .int .i64 n, .int .i64 r, .int .i64 s] => some ⟨⟨p, q⟩, n, ⟨r, s⟩⟩
  | _ => none
theorem scrDec_ok {v : List Value} {x : Scr} (h : scrDec v = some x) : v = x.cells := by
  unfold scrDec at h
  split at h <;> simp_all
  subst h
  rfl
def Scr.v (m : Scr) : Value := .agg #[.int .i64 m.pitch.p, .int .i64 m.pitch.q, .int .i64 m.parts, .int .i64 m.play.p, .int .i64 m.play.q]
def scrL : ArgL Scr := ⟨Scr.cells, scrDec, fun h => scrDec_ok h⟩
def scrA : Arg Scr where
  enc := Scr.v
  dec | .agg cs => scrDec cs.toList
      | _ => none
  ok := by
    intro v x h
    split at h
    · rename_i cs
      have := scrDec_ok h
      unfold Scr.v Scr.cells at *
      rw [← this]
    · cases h
abbrev M1 : ArgL (Scr × Unit) := .cons scrA .nil
def witQ (a : Q) (most : Int) : Bool := okQ a && (decide (a.p > 0) && decide (cmpQ a ⟨most, 1⟩ ≤ 0))
def okM (m : Scr) : Bool := witQ m.pitch 100 && (withinB m.parts 2 100 && (okQ m.play && (decide (m.play.p ≥ 0) && decide (cmpQ m.play m.pitch ≤ 0))))
theorem okQ_whole {n : Int} (h : M9 n = true) : okQ ⟨n, 1⟩ = true := by
  rw [within_iff] at h
  rw [okQ_iff]
  exact ⟨by show (1 : Int) ≤ 1; omega, by show (1 : Int) ≤ _; omega, h.1, h.2, by simp⟩
abbrev FI : ArgL (Q × Int × Unit) := .cons .frac (.cons .int .nil)
abbrev witSp : Sp := .pf FI (fun x => M9 x.2.1 = true) (fun x => .bool (witQ x.1 x.2.1))
set_option maxRecDepth 100000 in
theorem wit_ok : Sp.ok Try.prog 162 witSp := by
  refine Sp.pf_ok (T := [(102, validSp), (163, wholeSp), (104, cmpSp)]) follows eqok0 ⟨enters Try.func102 rfl rfl, spok_ok, enters Try.func163 rfl rfl, whole_ok, enters Try.func104 rfl rfl, spcmp_ok, trivial⟩ [(1, .take 0 (.alt 1 (.take 2 (.take 3 (.take 4 (.take 5 (.take 6 (.take 7 (.take 8 (.take 9 (.alt 10 (.alt 11 (.take 12 (.take 13 (.take 14 (.done)))) (.last)) (.last)))))))))) (.last)))] Try.func162 rfl (by kernel_rfl) _ _ _ fun x E hp => ?_
  obtain ⟨⟨a, c⟩, n, u⟩ := x
  (repeat' ((conv => whnf); (first | with_reducible apply And.intro | (with_reducible intro hh; first | (with_reducible have hx := NewRow.self hh; clear hx) | (with_reducible have hx := Ext.self hh; clear hx) | (with_reducible have hx := SlV.self hh; clear hx) | (with_reducible have hx := Value.self hh; clear hx) | with_reducible cases hh | skip) | (with_reducible apply AllEq.mk; intro yy hq) | with_reducible apply trivial | with_reducible apply Exists.intro () | (with_reducible apply ex_side; (first | with_reducible assumption | with_reducible apply fracs1 | with_reducible apply fracs2 | with_reducible apply fracs3 | with_reducible apply spans1 | with_reducible apply spans2 | (with_reducible apply NewRow.keep; with_reducible assumption) | (with_reducible apply RowAt.keep; with_reducible assumption) | assumption)))); (all_goals (conv => whnf)))
  (all_goals (try dsimp only [Q.eta, Sn.eta, SlV.eta] at *)); (all_goals (first | exact Side.mk trivial | with_reducible exact Side.mk rfl | refine Side.mk ?_ | refine Don.mk ?_ | skip))
  · rename_i h1
    exact ⟨h1, okQ_whole hp⟩
  all_goals first | (simp_all [witQ]; done) | (simp_all [witQ]; omega)

end Go.Proofs.Ytbgjokadfkblmaa
