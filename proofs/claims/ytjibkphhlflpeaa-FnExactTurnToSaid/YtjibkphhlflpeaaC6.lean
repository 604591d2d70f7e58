/- Contracts of both packages' functions on spans, for all arguments within the bounds that each names; no other condition. -/
import Derived.Test.YtjibkphhlflpeaaAb
import Derived.Test.YtjibkphhlflpeaaC1
import Derived.Test.YtjibkphhlflpeaaC2
import Derived.Test.YtjibkphhlflpeaaC3
import Derived.Test.YtjibkphhlflpeaaC4
import Derived.Test.YtjibkphhlflpeaaC5
import Derived.Test.YtjibkphhlflpeaaCL
import Derived.Test.YtjibkphhlflpeaaProg
set_option linter.unusedVariables false
set_option linter.unusedSimpArgs false
namespace Go.Proofs.Ytjibkphhlflpeaa
open Ab

abbrev S0 : Sn := ⟨⟨0, 0⟩, ⟨0, 0⟩⟩
def okS (s : Sn) : Bool := okQ s.lo && (okQ s.hi && decide (cmpQ s.lo s.hi ≤ 0))
abbrev spanVSp : Sp := .pf S1 (fun _ => True) (fun x => .bool (okS x.1))
abbrev spanPSp : Sp := .hf .sn 59 .nil (fun _ _ (_ : Unit) _ => True) (fun s _ _ => .bool (okS s))
def inS (s : Sn) (a : Q) : Bool := decide (cmpQ s.lo a ≤ 0) && decide (cmpQ a s.hi ≤ 0)
abbrev SA : ArgL (Sn × Q × Unit) := .cons .span (.cons .frac .nil)
theorem okS_lo {s : Sn} (h : okS s = true) : okQ s.lo = true := by simp [okS] at h; exact h.1
theorem okS_hi {s : Sn} (h : okS s = true) : okQ s.hi = true := by simp [okS] at h; exact h.2.1
abbrev inPSp : Sp := .hf .sn 59 F1 (fun s x (_ : Unit) _ => okQ s.lo = true ∧ okQ s.hi = true ∧ okQ x.1 = true) (fun s x _ => .bool (inS s x.1))
set_option maxRecDepth 100000 in
theorem inP_ok : Sp.ok Try.prog 29 inPSp := by
  refine Sp.hf_ok (T := ⟨[(21, cmpSp)], []⟩) follows eqok0 ⟨enters Try.func21 rfl rfl, spcmp_ok, trivial⟩ [(1, .take 0 (.take 1 (.take 2 (.take 3 (.take 4 (.alt 5 (.take 6 (.take 7 (.take 8 (.take 9 (.take 10 (.take 11 (.take 12 (.alt 13 (.take 14 (.take 15 (.take 16 (.done)))) (.last))))))))) (.last)))))))] Try.func29 rfl (by kernel_rfl) _ _ _ _ _ fun s x l E hp => ?_
  obtain ⟨⟨a, b⟩, ⟨c, d⟩⟩ := s
  obtain ⟨⟨p, q⟩, u⟩ := x
  (repeat' ((conv => whnf); (first | with_reducible apply And.intro | (with_reducible intro hh; first | (with_reducible have hx := NewRow.self hh; clear hx) | (with_reducible have hrow := Made.row hh; have hle := Made.le hh; have hmade := hh; clear hh) | (with_reducible have hrow := Fresh.rowS hh; have hle := Fresh.leS hh; have hfr := hh; clear hh) | (with_reducible have hx := Ext.self hh; clear hx) | (with_reducible have hx := SlV.self hh; clear hx) | (with_reducible have hx := Value.self hh; clear hx) | with_reducible cases hh | skip) | (with_reducible apply AllEq.mk; intro yy hq) | with_reducible apply trivial | with_reducible apply Exists.intro () | (with_reducible apply ex_side; (first | with_reducible assumption | with_reducible apply fracs1 | with_reducible apply fracs2 | with_reducible apply fracs3 | with_reducible apply spans1 | with_reducible apply spans2 | (with_reducible apply NewRow.keep; with_reducible assumption) | (with_reducible apply RowAt.keep; with_reducible assumption) | assumption | (focus ((repeat (first | with_reducible assumption | (with_reducible apply RowAt.le; rotate_left; with_reducible assumption) | (with_reducible apply RowB.le; rotate_left; with_reducible assumption))); done)))) | (with_reducible apply ex_side (a := (_, _)); (focus (with_reducible apply And.intro <;> (focus ((repeat (first | with_reducible assumption | (with_reducible apply RowAt.le; rotate_left; with_reducible assumption) | (with_reducible apply RowB.le; rotate_left; with_reducible assumption))); done))))))); (all_goals (conv => whnf)))
  (all_goals (try dsimp only [Q.eta, Sn.eta, SlV.eta] at *)); (all_goals (first | exact Side.mk trivial | with_reducible exact Side.mk rfl | exact Side.mk (fun _ _ h => h) | exact Side.mk (Made.le (by assumption)) | refine Side.mk ?_ | refine Don.mk ?_ | skip))
  · exact ⟨hp.1, hp.2.2⟩
  · exact ⟨hp.2.2, hp.2.1⟩
  all_goals exact ⟨by first | (simp_all [inS]; done) | (simp_all [inS]; omega), rfl⟩
/-! answers that are spans -/
abbrev RS (r : Sn × Int) : Value := .tuple #[r.1.v, .int .i64 r.2]
def bothR (lo : Q) (one : Int) (hi : Q) (two : Int) : Sn × Int := if one = 0 then (if two = 0 then (⟨lo, hi⟩, 0) else (⟨⟨0, 0⟩, ⟨0, 0⟩⟩, two)) else (⟨⟨0, 0⟩, ⟨0, 0⟩⟩, one)
abbrev B4L : ArgL (Q × Int × Q × Int × Unit) := .cons .frac (.cons .int (.cons .frac (.cons .int .nil)))
abbrev bothSp : Sp := .pf B4L (fun _ => True) (fun x => RS (bothR x.1 x.2.1 x.2.2.1 x.2.2.2.1))
set_option maxRecDepth 100000 in
theorem both_ok : Sp.ok Try.prog 41 bothSp := by
  refine Sp.pf_ok (T := ⟨[], []⟩) follows eqok0 trivial [] Try.func41 rfl (by kernel_rfl) _ _ _ fun x E hp => ?_
  obtain ⟨⟨a, b⟩, o, ⟨c, d⟩, w, u⟩ := x
  (repeat' ((conv => whnf); (first | with_reducible apply And.intro | (with_reducible intro hh; first | (with_reducible have hx := NewRow.self hh; clear hx) | (with_reducible have hrow := Made.row hh; have hle := Made.le hh; have hmade := hh; clear hh) | (with_reducible have hrow := Fresh.rowS hh; have hle := Fresh.leS hh; have hfr := hh; clear hh) | (with_reducible have hx := Ext.self hh; clear hx) | (with_reducible have hx := SlV.self hh; clear hx) | (with_reducible have hx := Value.self hh; clear hx) | with_reducible cases hh | skip) | (with_reducible apply AllEq.mk; intro yy hq) | with_reducible apply trivial | with_reducible apply Exists.intro () | (with_reducible apply ex_side; (first | with_reducible assumption | with_reducible apply fracs1 | with_reducible apply fracs2 | with_reducible apply fracs3 | with_reducible apply spans1 | with_reducible apply spans2 | (with_reducible apply NewRow.keep; with_reducible assumption) | (with_reducible apply RowAt.keep; with_reducible assumption) | assumption | (focus ((repeat (first | with_reducible assumption | (with_reducible apply RowAt.le; rotate_left; with_reducible assumption) | (with_reducible apply RowB.le; rotate_left; with_reducible assumption))); done)))) | (with_reducible apply ex_side (a := (_, _)); (focus (with_reducible apply And.intro <;> (focus ((repeat (first | with_reducible assumption | (with_reducible apply RowAt.le; rotate_left; with_reducible assumption) | (with_reducible apply RowB.le; rotate_left; with_reducible assumption))); done))))))); (all_goals (conv => whnf)))
  (all_goals (try dsimp only [Q.eta, Sn.eta, SlV.eta] at *)); (all_goals (first | exact Side.mk trivial | with_reducible exact Side.mk rfl | exact Side.mk (fun _ _ h => h) | exact Side.mk (Made.le (by assumption)) | refine Side.mk ?_ | refine Don.mk ?_ | skip))
  all_goals simp_all [bothR, Sn.v]
def bothO (m n : Int × Int) : Sn × Int := bothR (redQ m.1 m.2) (redC m.1 m.2) (redQ n.1 n.2) (redC n.1 n.2)
def resS (ok : Bool) (r : Sn × Int) : Sn × Int := if ok then r else (⟨⟨0, 0⟩, ⟨0, 0⟩⟩, 1)
abbrev S2ok (x : Sn × Sn × Unit) : Prop := okS x.1 = true ∧ okS x.2.1 = true
theorem bothO_ok {m n : Int × Int} (h : okR m.1 m.2 = true) (k : okR n.1 n.2 = true) : bothO m n = (⟨nrm m.1 m.2, nrm n.1 n.2⟩, 0) := by simp [bothO, bothR, redQ, redC, h, k]
theorem bothO_no {m n : Int × Int} (h : okR m.1 m.2 = false ∨ okR n.1 n.2 = false) : bothO m n = (⟨⟨0, 0⟩, ⟨0, 0⟩⟩, 3) := by
  rcases h with h | h
  · simp [bothO, bothR, redQ, redC, h]
  · by_cases k : okR m.1 m.2 = true <;> simp [bothO, bothR, redQ, redC, h, k]
/-- What the calculator's two results come to. -/
theorem span_two {m n : Int × Int} : ((if (false || !okR m.1 m.2) || !okR n.1 n.2 then (⟨⟨0, 0⟩, ⟨0, 0⟩⟩ : Sn) else ⟨tolQ m.1 m.2, tolQ n.1 n.2⟩), (if (false || !okR m.1 m.2) || !okR n.1 n.2 then (3 : Int) else 0)) = bothO m n := by
  by_cases h : okR m.1 m.2 = true <;> by_cases k : okR n.1 n.2 = true
  · rw [bothO_ok h k]; simp [h, k, tolQ]
  · rw [bothO_no (.inr (by simpa using k))]; simp [h, k]
  · rw [bothO_no (.inl (by simpa using h))]; simp [h]
  · rw [bothO_no (.inl (by simpa using h))]; simp [h]
theorem span_two' {m n : Int × Int} : ((if (false || !okR n.1 n.2) || !okR m.1 m.2 then (⟨⟨0, 0⟩, ⟨0, 0⟩⟩ : Sn) else ⟨tolQ m.1 m.2, tolQ n.1 n.2⟩), (if (false || !okR n.1 n.2) || !okR m.1 m.2 then (3 : Int) else 0)) = bothO m n := by
  rw [← span_two]
  by_cases h : okR m.1 m.2 = true <;> by_cases k : okR n.1 n.2 = true <;> simp [h, k]
theorem span_end {m n : Int × Int} {r : Sn × Int} {v : Value} (hr : r = bothO m n) (hv : v = RS ((if (false || !okR m.1 m.2) || !okR n.1 n.2 then (⟨⟨0, 0⟩, ⟨0, 0⟩⟩ : Sn) else ⟨tolQ m.1 m.2, tolQ n.1 n.2⟩), (if (false || !okR m.1 m.2) || !okR n.1 n.2 then (3 : Int) else 0))) : AV.v v = AV.v (RS r) := by
  rw [hv, span_two, hr]
theorem span_end' {m n : Int × Int} {r : Sn × Int} {v : Value} (hr : r = bothO m n) (hv : v = RS ((if (false || !okR n.1 n.2) || !okR m.1 m.2 then (⟨⟨0, 0⟩, ⟨0, 0⟩⟩ : Sn) else ⟨tolQ m.1 m.2, tolQ n.1 n.2⟩), (if (false || !okR n.1 n.2) || !okR m.1 m.2 then (3 : Int) else 0))) : AV.v v = AV.v (RS r) := by
  rw [hv, span_two', hr]
def sumS (s t : Sn) : Sn × Int := bothO (opAdd s.lo t.lo) (opAdd s.hi t.hi)
def difS (s t : Sn) : Sn × Int := bothO (opSub s.lo t.hi) (opSub s.hi t.lo)
abbrev okP (s : Sn) : Prop := okQ s.lo = true ∧ okQ s.hi = true
theorem okS_p {s : Sn} (h : okS s = true) : okP s := ⟨okS_lo h, okS_hi h⟩
abbrev spansPSp : Sp := .hf2 .sn 59 .sn 59 .nil (fun _ _ _ (_ : Unit) _ => True) (fun s t _ _ => .int .i64 (if okS s && okS t then 0 else 1))
abbrev RSS (ok : Bool) (r : Sn × Int) : Value := RS (resS ok r)
theorem resS_bad {ok : Bool} {r : Sn × Int} (h : (!ok) = true) : AV.v (.tuple #[.agg #[.int .i64 0, .int .i64 0, .int .i64 0, .int .i64 0], .int .i64 1]) = AV.v (RSS ok r) := by
  cases ok with
  | true => cases h
  | false => rfl
theorem resS_bad' {ok : Bool} {r : Sn × Int} (h : (!ok) = true) : AV.v (.tuple #[.agg #[.int .i64 0, .int .i64 0, .int .i64 0, .int .i64 0], .int .i64 (if ok = true then 0 else 1)]) = AV.v (RSS ok r) := by
  cases ok with
  | true => cases h
  | false => rfl
theorem resS_ok {ok : Bool} {r : Sn × Int} {v : Value} (h : (!ok) = false) (hv : v = RS r) : AV.v v = AV.v (RSS ok r) := by
  cases ok with
  | false => cases h
  | true => subst hv; rfl
/-! sums and differences -/
abbrev addSSp : Sp := .pf S2 (fun _ => True) (fun x => RSS (okS x.1 && okS x.2.1) (sumS x.1 x.2.1))
abbrev subSSp : Sp := .pf S2 (fun _ => True) (fun x => RSS (okS x.1 && okS x.2.1) (difS x.1 x.2.1))
def aroS (a b : Q) : Sn × Int := bothO (opSub a b) (opAdd a b)
def aroR (a b : Q) : Sn × Int := grd S0 (okQ a && okQ b) 1 (grd S0 (!decide (b.p < 0)) 2 (aroS a b))
abbrev aroFSp : Sp := .pf F2 (fun _ => True) (fun x => RS (aroR x.1 x.2.1))

end Go.Proofs.Ytjibkphhlflpeaa
