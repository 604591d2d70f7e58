/- Contracts of both packages' functions that place and round fractions, for all arguments within the bounds that each names; no other condition. -/
import Derived.Test.YtjibkphhlflpeaaAb
import Derived.Test.YtjibkphhlflpeaaC1
import Derived.Test.YtjibkphhlflpeaaC2
import Derived.Test.YtjibkphhlflpeaaC3
import Derived.Test.YtjibkphhlflpeaaC4
import Derived.Test.YtjibkphhlflpeaaC5
import Derived.Test.YtjibkphhlflpeaaCL
import Derived.Test.YtjibkphhlflpeaaC6
import Derived.Test.YtjibkphhlflpeaaC7
import Derived.Test.YtjibkphhlflpeaaProg
set_option linter.unusedVariables false
set_option linter.unusedSimpArgs false
namespace Go.Proofs.Ytjibkphhlflpeaa
open Ab

abbrev RI (r : Int × Int) : Value := .tuple #[.int .i64 r.1, .int .i64 r.2]
abbrev RB (r : Bool × Int) : Value := .tuple #[.bool r.1, .int .i64 r.2]
/-! rounding -/
def neaN (p q : Int) : Int := (2 * p + q) / (2 * q)
abbrev M9 (n : Int) : Bool := withinB n (-1000000000) 1000000000
def P18 (p q : Int) : Prop := 0 < q ∧ q ≤ 1000000000000000000 ∧ -1000000000000000000 ≤ p ∧ p ≤ 1000000000000000000
theorem P18.den {p q : Int} (h : P18 p q) : 0 < 2 * q ∧ B4 (2 * p + q) := by unfold P18 at h; unfold B4; omega
theorem P18.w2p {p q : Int} (h : P18 p q) : IntKind.i64.wrap (2 * p) = 2 * p := by unfold P18 at h; exact wrap_in (by omega) (by omega)
theorem P18.w2q {p q : Int} (h : P18 p q) : IntKind.i64.wrap (2 * q) = 2 * q := by unfold P18 at h; exact wrap_in (by omega) (by omega)
theorem P18.ws {p q : Int} (h : P18 p q) : IntKind.i64.wrap (2 * p + q) = 2 * p + q := by unfold P18 at h; exact wrap_in (by omega) (by omega)
theorem p18_of {a u : Q} (ha : okQ a = true) (hu : okQ u = true) (h : 0 < u.p) : P18 (a.p * u.q) (a.q * u.p) := by
  have h1 := (okQ_iff.1 ha).1
  have h2 := okB ha hu
  exact ⟨Int.mul_pos (by omega) h, h2.qp'.2, h2.pq⟩
/-! screws -/
/-- A screw. -/
structure Scr where
  pitch : Q
  parts : Int
  play : Q
def Scr.cells (m : Scr) : List Value := [.int .i64 m.pitch.p, .int .i64 m.pitch.q, .int .i64 m.parts, .int .i64 m.play.p, .int .i64 m.play.q]
def scrDec : List Value → Option Scr
  | [.int .i64 p, .int .i64 q, .int .i64 n, .int .i64 r, .int .i64 s] => some ⟨⟨p, q⟩, n, ⟨r, s⟩⟩
  | _ => none
theorem scrDec_ok {v : List Value} {x : Scr} (h : scrDec v = some x) : v = x.cells := by
  unfold scrDec at h
  split at h <;> simp_all
  subst h
  rfl
def Scr.v (m : Scr) : Value := .agg #[.int .i64 m.pitch.p, .int .i64 m.pitch.q, .int .i64 m.parts, .int .i64 m.play.p, .int .i64 m.play.q]
def scrL : ArgL Scr := ⟨Scr.cells, scrDec, fun h => scrDec_ok h⟩
def scrA : Arg Scr where
  enc := Scr.v
  dec | .agg cs => scrDec cs.toList
      | _ => none
  ok := by
    intro v x h
    split at h
    · rename_i cs
      have := scrDec_ok h
      unfold Scr.v Scr.cells at *
      rw [← this]
    · cases h
abbrev M1 : ArgL (Scr × Unit) := .cons scrA .nil
def witQ (a : Q) (most : Int) : Bool := okQ a && (decide (a.p > 0) && decide (cmpQ a ⟨most, 1⟩ ≤ 0))
def okM (m : Scr) : Bool := witQ m.pitch 100 && (withinB m.parts 2 100 && (okQ m.play && (decide (m.play.p ≥ 0) && decide (cmpQ m.play m.pitch ≤ 0))))
theorem okQ_whole {n : Int} (h : M9 n = true) : okQ ⟨n, 1⟩ = true := by
  rw [within_iff] at h
  rw [okQ_iff]
  exact ⟨by show (1 : Int) ≤ 1; omega, by show (1 : Int) ≤ _; omega, h.1, h.2, by simp⟩
abbrev FI : ArgL (Q × Int × Unit) := .cons .frac (.cons .int .nil)
abbrev witSp : Sp := .pf FI (fun x => M9 x.2.1 = true) (fun x => .bool (witQ x.1 x.2.1))
set_option maxRecDepth 100000 in
theorem wit_ok : Sp.ok Try.prog 38 witSp := by
  refine Sp.pf_ok (T := ⟨[(20, validSp), (49, wholeSp), (21, cmpSp)], []⟩) follows eqok0 ⟨enters Try.func20 rfl rfl, spok_ok, enters Try.func49 rfl rfl, whole_ok, enters Try.func21 rfl rfl, spcmp_ok, trivial⟩ [(1, .take 0 (.alt 1 (.take 2 (.take 3 (.take 4 (.take 5 (.take 6 (.take 7 (.take 8 (.take 9 (.alt 10 (.alt 11 (.take 12 (.take 13 (.take 14 (.done)))) (.last)) (.last)))))))))) (.last)))] Try.func38 rfl (by kernel_rfl) _ _ _ fun x E hp => ?_
  obtain ⟨⟨a, c⟩, n, u⟩ := x
  (repeat' ((conv => whnf); (first | with_reducible apply And.intro | (with_reducible intro hh; first | (with_reducible have hx := NewRow.self hh; clear hx) | (with_reducible have hrow := Made.row hh; have hle := Made.le hh; have hmade := hh; clear hh) | (with_reducible have hrow := Fresh.rowS hh; have hle := Fresh.leS hh; have hfr := hh; clear hh) | (with_reducible have hx := Ext.self hh; clear hx) | (with_reducible have hx := SlV.self hh; clear hx) | (with_reducible have hx := Value.self hh; clear hx) | with_reducible cases hh | skip) | (with_reducible apply AllEq.mk; intro yy hq) | with_reducible apply trivial | with_reducible apply Exists.intro () | (with_reducible apply ex_side; (first | with_reducible assumption | with_reducible apply fracs1 | with_reducible apply fracs2 | with_reducible apply fracs3 | with_reducible apply spans1 | with_reducible apply spans2 | (with_reducible apply NewRow.keep; with_reducible assumption) | (with_reducible apply RowAt.keep; with_reducible assumption) | assumption | (focus ((repeat (first | with_reducible assumption | (with_reducible apply RowAt.le; rotate_left; with_reducible assumption) | (with_reducible apply RowB.le; rotate_left; with_reducible assumption))); done)))) | (with_reducible apply ex_side (a := (_, _)); (focus (with_reducible apply And.intro <;> (focus ((repeat (first | with_reducible assumption | (with_reducible apply RowAt.le; rotate_left; with_reducible assumption) | (with_reducible apply RowB.le; rotate_left; with_reducible assumption))); done))))))); (all_goals (conv => whnf)))
  (all_goals (try dsimp only [Q.eta, Sn.eta, SlV.eta] at *)); (all_goals (first | exact Side.mk trivial | with_reducible exact Side.mk rfl | exact Side.mk (fun _ _ h => h) | exact Side.mk (Made.le (by assumption)) | refine Side.mk ?_ | refine Don.mk ?_ | skip))
  · rename_i h1
    exact ⟨h1, okQ_whole hp⟩
  all_goals first | (simp_all [witQ]; done) | (simp_all [witQ]; omega)

end Go.Proofs.Ytjibkphhlflpeaa
