/- Contracts of both packages' functions that seek the nearest mark, for all scales that lie in memory; no other condition. -/
import Derived.Test.YtlfhjmnaommckaaAb
import Derived.Test.YtlfhjmnaommckaaC1
import Derived.Test.YtlfhjmnaommckaaC2
import Derived.Test.YtlfhjmnaommckaaC3
import Derived.Test.YtlfhjmnaommckaaC4
import Derived.Test.YtlfhjmnaommckaaC5
import Derived.Test.YtlfhjmnaommckaaC6
import Derived.Test.YtlfhjmnaommckaaC7
import Derived.Test.YtlfhjmnaommckaaC8
import Derived.Test.YtlfhjmnaommckaaC9
import Derived.Test.YtlfhjmnaommckaaCO
import Derived.Test.YtlfhjmnaommckaaC12
import Derived.Test.YtlfhjmnaommckaaC14
import Derived.Test.YtlfhjmnaommckaaC15
import Derived.Test.YtlfhjmnaommckaaC16
import Derived.Test.YtlfhjmnaommckaaC17
import Derived.Test.YtlfhjmnaommckaaCL
import Derived.Test.YtlfhjmnaommckaaProg
set_option linter.unusedVariables false
set_option linter.unusedSimpArgs false
namespace Go.Proofs.Ytlfhjmnaommckaa
open Ab

theorem markIn_nat {s : SlV} {u : Q} {l : List Q} {E : Ext} {k : Nat} {e : Q} (hp : FracsAt s l E) (hC : okC u l = true) (hk : l[k]? = some e) : MarkIn s u (k : Int) l E ∧ ∃ m, markO u (k : Int).toNat (l.getD (k : Int).toNat Q0) = some m ∧ markT u (k : Int).toNat (l.getD (k : Int).toNat Q0) = m ∧ okQ m = true ∧ markT u k e = m := by
  have hl : k < l.length := (List.getElem?_eq_some_iff.1 hk).1
  obtain ⟨h, m, h1, h2⟩ := markIn_of (k := (k : Int)) hp hC (by omega) (by omega)
  refine ⟨h, m, h1, markT_some h1, h2, ?_⟩
  rw [Int.toNat_natCast, getD_at hk] at h1
  exact markT_some h1
abbrev IQ := Int × Q
def neaO (u x : Q) : Nat → IQ → List Q → Option IQ
  | _, b, [] => some b
  | k, b, e :: r => (subO x (markT u k e)).bind fun d => neaO u x (k + 1) (if k = 0 ∨ cmpQ (sizQ d) b.2 < 0 then ((k : Int), sizQ d) else b) r
def neaT (u x : Q) : Nat → IQ → Bool → List Q → IQ × Bool
  | _, b, f, [] => (b, f)
  | k, b, f, e :: r => neaT u x (k + 1) (if k = 0 ∨ cmpQ (sizQ (tolO (subO x (markT u k e)))) b.2 < 0 then ((k : Int), sizQ (tolO (subO x (markT u k e)))) else b) (f || (subO x (markT u k e)).isNone) r
theorem neaT_bad (u x : Q) : ∀ (l : List Q) (k : Nat) (b : IQ), (neaT u x k b true l).2 = true
  | [], _, _ => rfl
  | e :: r, k, b => by rw [neaT, Bool.true_or]; exact neaT_bad u x r _ _
theorem neaT_neaO (u x : Q) : ∀ (l : List Q) (k : Nat) (b : IQ) (f : Bool), (neaT u x k b f l).2 = (f || (neaO u x k b l).isNone) ∧ ∀ c, neaO u x k b l = some c → (neaT u x k b f l).1 = c
  | [], k, b, f => ⟨by simp [neaT, neaO], fun c h => by simpa [neaT, neaO] using h⟩
  | e :: r, k, b, f => by
    rw [neaT, neaO]
    cases h : subO x (markT u k e) with
    | none =>
      refine ⟨?_, fun c hc => by cases hc⟩
      rw [Option.isNone_none, Bool.or_true, neaT_bad]
      simp
    | some d =>
      rw [tolO_some, Option.isNone_some, Bool.or_false, Option.bind_some]
      exact neaT_neaO u x r _ _ f
theorem neaO_start {u x : Q} {l : List Q} (b c : IQ) (h : l ≠ []) : neaO u x 0 b l = neaO u x 0 c l := by
  cases l with
  | nil => exact absurd rfl h
  | cons e r => simp [neaO]
abbrev CQ : ArgL (Scl × Q × Unit) := .cons sclA (.cons .frac .nil)
abbrev tneaSp : Sp := .gf SC 129 CQ (fun _ x (l : List Q) E => FracsAt x.1.errs l E ∧ okC x.1.unit l = true ∧ okQ x.2.1 = true) (fun _ x l => .tuple #[.int .i64 (neaT x.1.unit x.2.1 0 (-1, Q1) false l).1.1, (neaT x.1.unit x.2.1 0 (-1, Q1) false l).1.2.v]) (fun s x l => (s.1 || (neaT x.1.unit x.2.1 0 (-1, Q1) false l).2, ()))
theorem neaT_or (u x : Q) : ∀ (l : List Q) (k : Nat) (b : IQ) (f : Bool), (neaT u x k b f l).1 = (neaT u x k b false l).1 ∧ (neaT u x k b f l).2 = (f || (neaT u x k b false l).2)
  | [], k, b, f => ⟨rfl, by simp [neaT]⟩
  | e :: r, k, b, f => by
    rw [neaT, neaT]
    have h1 := neaT_or u x r (k + 1) (if k = 0 ∨ cmpQ (sizQ (tolO (subO x (markT u k e)))) b.2 < 0 then ((k : Int), sizQ (tolO (subO x (markT u k e)))) else b) (f || (subO x (markT u k e)).isNone)
    have h2 := neaT_or u x r (k + 1) (if k = 0 ∨ cmpQ (sizQ (tolO (subO x (markT u k e)))) b.2 < 0 then ((k : Int), sizQ (tolO (subO x (markT u k e)))) else b) (false || (subO x (markT u k e)).isNone)
    exact ⟨h1.1.trans h2.1.symm, by rw [h1.2, h2.2]; simp [Bool.or_assoc]⟩

set_option maxRecDepth 100000 in
theorem tnea_ok : Sp.ok Try.prog 148 tneaSp := by
  refine Sp.gf_ok (T := ⟨[(142, zeroSp), (146, mkqSp), (138, tsubqSp), (134, sizSp), (93, cmpSp)], []⟩) follows eqok0 ⟨enters Try.func142 rfl rfl, zero_ok, enters Try.func146 rfl rfl, mkq_ok, enters Try.func138 rfl rfl, tsubq_ok, enters Try.func134 rfl rfl, siz_ok, enters Try.func93 rfl rfl, cmp_ok, trivial⟩ [(5, .take 0 (.take 1 (.take 2 (.take 3 (.alt 4 (.alt 5 (.alt 6 (.alt 7 (.alt 8 (.done) (.last)) (.last)) (.alt 7 (.alt 6 (.alt 8 (.done) (.last)) (.last)) (.last))) (.alt 7 (.alt 5 (.alt 6 (.alt 8 (.done) (.last)) (.last)) (.last)) (.last))) (.alt 7 (.alt 4 (.alt 5 (.alt 6 (.alt 8 (.done) (.last)) (.last)) (.last)) (.last)) (.last))))))), (7, .take 0 (.take 1 (.take 2 (.alt 3 (.done) (.last))))), (9, .take 0 (.take 1 (.take 2 (.alt 3 (.done) (.last)))))] Try.func148 rfl (by kernel_rfl) _ _ _ _ _ _ fun s x l E hp => ?_
  obtain ⟨b0, u⟩ := s
  obtain ⟨⟨⟨a, b⟩, ⟨sa, n, c⟩⟩, ⟨p, q⟩, u⟩ := x
  obtain ⟨hp0, hC, hx⟩ := hp
  have h60 := okC_iff hC
  have hp := hp0
  obtain ⟨hn, hmax, hnone, _⟩ := hp
  dsimp only at hn hmax hnone hx hC hp0
  have hor := neaT_or ⟨a, b⟩ ⟨p, q⟩ l 0 (-1, Q1) b0
  (repeat' ((conv => whnf); (first | with_reducible apply And.intro | (with_reducible intro hh; first | (with_reducible have hx := NewRow.self hh; clear hx) | (with_reducible have hrow := Made.row hh; have hle := Made.le hh; have hmade := hh; clear hh) | (with_reducible have hrow := Fresh.rowS hh; have hle := Fresh.leS hh; have hfr := hh; clear hh) | (with_reducible have hx := Ext.self hh; clear hx) | (with_reducible have hx := SlV.self hh; clear hx) | (with_reducible have hx := Value.self hh; clear hx) | with_reducible cases hh | skip) | (with_reducible apply AllEq.mk; intro yy hq) | with_reducible apply trivial | with_reducible apply Exists.intro () | (with_reducible apply ex_side; (first | with_reducible assumption | with_reducible apply fracs1 | with_reducible apply fracs2 | with_reducible apply fracs3 | with_reducible apply spans1 | with_reducible apply spans2 | (with_reducible apply NewRow.keep; with_reducible assumption) | (with_reducible apply RowAt.keep; with_reducible assumption) | assumption | (focus ((repeat (first | with_reducible assumption | (with_reducible apply RowAt.le; rotate_left; with_reducible assumption) | (with_reducible apply RowB.le; rotate_left; with_reducible assumption))); done)))) | (with_reducible apply ex_side (a := (_, _)); (focus (with_reducible apply And.intro <;> (focus ((repeat (first | with_reducible assumption | (with_reducible apply RowAt.le; rotate_left; with_reducible assumption) | (with_reducible apply RowB.le; rotate_left; with_reducible assumption))); done))))))); (all_goals (conv => whnf)))
  (all_goals (try dsimp only [Q.eta, Sn.eta, SlV.eta] at *)); (all_goals (first | exact Side.mk trivial | with_reducible exact Side.mk rfl | exact Side.mk (fun _ _ h => h) | exact Side.mk (Made.le (by assumption)) | refine Side.mk ?_ | refine Don.mk ?_ | skip))
  refine ⟨fun m s => ∃ (k : Nat) (i : Int) (w : Q) (f : Bool) (g10 g11 g17 g18 g19 g20 g21 g22 g23 g24 g25 g26 g27 g28 g29 g30 g31 g32 g33 g36 : AV) (w1 w2 w3 w6 w12 w34 w35 w37 w38 : Value), m = l.length - k ∧ k ≤ l.length ∧ (i < 0 ↔ k = 0) ∧ okQ w = true ∧ neaT ⟨a, b⟩ ⟨p, q⟩ 0 (-1, Q1) b0 l = neaT ⟨a, b⟩ ⟨p, q⟩ k (i, w) f (l.drop k) ∧ s = ⟨[.p 0 0, .v w1, .v w2, .v w3, .p 1 0, .p 2 0, .v w6, .p 3 0, .v (.int .i64 i), .p 4 0, g10, g11, .v w12, .p 1 2, .v (.slice sa n c), .v (.int .i64 n), .v (.int .i64 k), g17, g18, g19, g20, g21, g22, g23, g24, g25, g26, g27, g28, g29, g30, g31, g32, g33, .v w34, .v w35, g36, .v w37, .v w38], [([.bool f], 129), ([.int .i64 a, .int .i64 b, .slice sa n c], 70), ([.int .i64 p, .int .i64 q], 25), ([.int .i64 0, .int .i64 0], 25), ([.int .i64 w.p, .int .i64 w.q], 25)], E⟩, ⟨_, 0, -1, Q1, b0, _, _, _, _, _, _, _, _, _, _, _, _, _, _, _, _, _, _, _, _, _, _, _, _, _, _, _, _, _, rfl, Nat.zero_le _, by decide, by decide, rfl, rfl⟩, ?_⟩
  rintro m s ⟨k, i, w, f, g10, g11, g17, g18, g19, g20, g21, g22, g23, g24, g25, g26, g27, g28, g29, g30, g31, g32, g33, g36, w1, w2, w3, w6, w12, w34, w35, w37, w38, rfl, hk, hi, hw, hs, rfl⟩
  rcases hkl : l[k]? with _ | e
  · have hge := List.getElem?_eq_none_iff.1 hkl
    rw [List.drop_eq_nil_of_le hge, neaT] at hs
    (repeat' ((conv => whnf); (first | with_reducible apply And.intro | (with_reducible intro hh; first | (with_reducible have hx := NewRow.self hh; clear hx) | (with_reducible have hrow := Made.row hh; have hle := Made.le hh; have hmade := hh; clear hh) | (with_reducible have hrow := Fresh.rowS hh; have hle := Fresh.leS hh; have hfr := hh; clear hh) | (with_reducible have hx := Ext.self hh; clear hx) | (with_reducible have hx := SlV.self hh; clear hx) | (with_reducible have hx := Value.self hh; clear hx) | with_reducible cases hh | skip) | (with_reducible apply AllEq.mk; intro yy hq) | with_reducible apply trivial | with_reducible apply Exists.intro () | (with_reducible apply ex_side; (first | with_reducible assumption | with_reducible apply fracs1 | with_reducible apply fracs2 | with_reducible apply fracs3 | with_reducible apply spans1 | with_reducible apply spans2 | (with_reducible apply NewRow.keep; with_reducible assumption) | (with_reducible apply RowAt.keep; with_reducible assumption) | assumption | (focus ((repeat (first | with_reducible assumption | (with_reducible apply RowAt.le; rotate_left; with_reducible assumption) | (with_reducible apply RowB.le; rotate_left; with_reducible assumption))); done)))) | (with_reducible apply ex_side (a := (_, _)); (focus (with_reducible apply And.intro <;> (focus ((repeat (first | with_reducible assumption | (with_reducible apply RowAt.le; rotate_left; with_reducible assumption) | (with_reducible apply RowB.le; rotate_left; with_reducible assumption))); done))))))); (all_goals (conv => whnf)))
    (all_goals (try dsimp only [Q.eta, Sn.eta, SlV.eta] at *)); (all_goals (first | exact Side.mk trivial | with_reducible exact Side.mk rfl | exact Side.mk (fun _ _ h => h) | exact Side.mk (Made.le (by assumption)) | refine Side.mk ?_ | refine Don.mk ?_ | skip))
    all_goals try (exfalso; have := of_decide_eq_true (by assumption : decide ((k : Int) < (n : Int)) = true); omega)
    all_goals rw [hs] at hor
    all_goals obtain ⟨h1, h2⟩ := hor
    all_goals dsimp only at h1 h2
    all_goals rw [← h1, ← h2]
    all_goals exact ⟨rfl, rfl⟩
  · have hlt : k < l.length := (List.getElem?_eq_some_iff.1 hkl).1
    obtain ⟨hM, m, h1, h2, hm, h3⟩ := markIn_nat hp0 hC hkl
    rw [drop_at' hkl, neaT, h3] at hs
    clear h3 h1
    have hdm : okQ (tolO (subO ⟨p, q⟩ m)) = true := tolO_sub _ _
    by_cases hc : k = 0 ∨ cmpQ (sizQ (tolO (subO ⟨p, q⟩ m))) w < 0
    · rw [if_pos hc] at hs
      (repeat' ((conv => whnf); (first | with_reducible apply And.intro | (with_reducible intro hh; first | (with_reducible have hx := NewRow.self hh; clear hx) | (with_reducible have hrow := Made.row hh; have hle := Made.le hh; have hmade := hh; clear hh) | (with_reducible have hrow := Fresh.rowS hh; have hle := Fresh.leS hh; have hfr := hh; clear hh) | (with_reducible have hx := Ext.self hh; clear hx) | (with_reducible have hx := SlV.self hh; clear hx) | (with_reducible have hx := Value.self hh; clear hx) | with_reducible cases hh | skip) | (with_reducible apply AllEq.mk; intro yy hq) | with_reducible apply trivial | with_reducible apply Exists.intro () | (with_reducible apply ex_side; (first | with_reducible assumption | with_reducible apply fracs1 | with_reducible apply fracs2 | with_reducible apply fracs3 | with_reducible apply spans1 | with_reducible apply spans2 | (with_reducible apply NewRow.keep; with_reducible assumption) | (with_reducible apply RowAt.keep; with_reducible assumption) | assumption | (focus ((repeat (first | with_reducible assumption | (with_reducible apply RowAt.le; rotate_left; with_reducible assumption) | (with_reducible apply RowB.le; rotate_left; with_reducible assumption))); done)))) | (with_reducible apply ex_side (a := (_, _)); (focus (with_reducible apply And.intro <;> (focus ((repeat (first | with_reducible assumption | (with_reducible apply RowAt.le; rotate_left; with_reducible assumption) | (with_reducible apply RowB.le; rotate_left; with_reducible assumption))); done))))))); (all_goals (conv => whnf)))
      (all_goals (try dsimp only [Q.eta, Sn.eta, SlV.eta] at *)); (all_goals (first | exact Side.mk trivial | with_reducible exact Side.mk rfl | exact Side.mk (fun _ _ h => h) | exact Side.mk (Made.le (by assumption)) | refine Side.mk ?_ | refine Don.mk ?_ | skip))
      all_goals subst_vars
      all_goals first | exact ⟨hx, hm⟩ | exact hdm | exact ⟨okQ_size hdm, hw⟩ | (refine ⟨_, ?_, k + 1, _, _, _, _, _, _, _, _, _, _, _, _, _, _, _, _, _, _, _, _, _, _, _, _, _, _, _, _, _, _, _, _, rfl, hlt, by omega, okQ_size hdm, hs, by rw [wrap_succ (n := l.length) (by omega) hmax]⟩; omega) | (exfalso; rcases hc with h | h; exact of_decide_eq_false (by assumption : decide (i < 0) = false) (hi.2 h); exact of_decide_eq_false hh h) | (exfalso; have := of_decide_eq_false (by assumption : decide ((k : Int) < (l.length : Int)) = false); omega)
    · rw [if_neg hc] at hs
      (repeat' ((conv => whnf); (first | with_reducible apply And.intro | (with_reducible intro hh; first | (with_reducible have hx := NewRow.self hh; clear hx) | (with_reducible have hrow := Made.row hh; have hle := Made.le hh; have hmade := hh; clear hh) | (with_reducible have hrow := Fresh.rowS hh; have hle := Fresh.leS hh; have hfr := hh; clear hh) | (with_reducible have hx := Ext.self hh; clear hx) | (with_reducible have hx := SlV.self hh; clear hx) | (with_reducible have hx := Value.self hh; clear hx) | with_reducible cases hh | skip) | (with_reducible apply AllEq.mk; intro yy hq) | with_reducible apply trivial | with_reducible apply Exists.intro () | (with_reducible apply ex_side; (first | with_reducible assumption | with_reducible apply fracs1 | with_reducible apply fracs2 | with_reducible apply fracs3 | with_reducible apply spans1 | with_reducible apply spans2 | (with_reducible apply NewRow.keep; with_reducible assumption) | (with_reducible apply RowAt.keep; with_reducible assumption) | assumption | (focus ((repeat (first | with_reducible assumption | (with_reducible apply RowAt.le; rotate_left; with_reducible assumption) | (with_reducible apply RowB.le; rotate_left; with_reducible assumption))); done)))) | (with_reducible apply ex_side (a := (_, _)); (focus (with_reducible apply And.intro <;> (focus ((repeat (first | with_reducible assumption | (with_reducible apply RowAt.le; rotate_left; with_reducible assumption) | (with_reducible apply RowB.le; rotate_left; with_reducible assumption))); done))))))); (all_goals (conv => whnf)))
      (all_goals (try dsimp only [Q.eta, Sn.eta, SlV.eta] at *)); (all_goals (first | exact Side.mk trivial | with_reducible exact Side.mk rfl | exact Side.mk (fun _ _ h => h) | exact Side.mk (Made.le (by assumption)) | refine Side.mk ?_ | refine Don.mk ?_ | skip))
      all_goals subst_vars
      all_goals first | exact ⟨hx, hm⟩ | exact hdm | exact ⟨okQ_size hdm, hw⟩ | (refine ⟨_, ?_, k + 1, i, w, _, _, _, _, _, _, _, _, _, _, _, _, _, _, _, _, _, _, _, _, _, _, _, _, _, _, _, _, _, _, rfl, hlt, by omega, hw, hs, by rw [wrap_succ (n := l.length) (by omega) hmax]⟩; omega) | (exfalso; exact hc (.inl (hi.1 (of_decide_eq_true (by assumption : decide (i < 0) = true))))) | (exfalso; exact hc (.inr (of_decide_eq_true hh))) | (exfalso; have := of_decide_eq_false (by assumption : decide ((k : Int) < (l.length : Int)) = false); omega)
/-- The spec's answer: the number, the distance, the code. -/
def near3 (o : Option IQ) : Int × Q × Int := match o with
  | some c => (c.1, c.2, 0)
  | none => (0, Q0, 3)
theorem outO_code {o : Option Q} (h : ((outO o).2 != 0) = true) : o = none := by
  rw [outO_ne] at h
  exact Option.isNone_iff_eq_none.1 h
theorem outO_good {o : Option Q} (h : ((outO o).2 != 0) = false) : o = some (outO o).1 := by
  cases o with
  | none => cases h
  | some d => rfl
abbrev sneaSp : Sp := .hf sclL 70 F1 (fun s x (l : List Q) E => FracsAt s.errs l E ∧ okC s.unit l = true ∧ okQ x.1 = true) (fun s x l => .tuple #[.int .i64 (near3 (neaO s.unit x.1 0 (0, Q0) l)).1, (near3 (neaO s.unit x.1 0 (0, Q0) l)).2.1.v, .int .i64 (near3 (neaO s.unit x.1 0 (0, Q0) l)).2.2])

set_option maxRecDepth 100000 in
theorem snea_ok : Sp.ok Try.prog 195 sneaSp := by
  refine Sp.hf_ok (T := ⟨[(174, smkqSp), (98, osubqSp), (199, sizSp), (105, cmpSp)], []⟩) follows eqok0 ⟨enters Try.func174 rfl rfl, smkq_ok, enters Try.func98 rfl rfl, osubq_ok, enters Try.func199 rfl rfl, ssiz_ok, enters Try.func105 rfl rfl, spcmp_ok, trivial⟩ [(14, .take 0 (.take 1 (.take 2 (.alt 3 (.take 4 (.done)) (.last)))))] Try.func195 rfl (by kernel_rfl) _ _ _ _ _ fun s x l E hp => ?_
  obtain ⟨⟨a, b⟩, ⟨sa, n, c⟩⟩ := s
  obtain ⟨⟨p, q⟩, u⟩ := x
  obtain ⟨hp0, hC, hx⟩ := hp
  have h60 := okC_iff hC
  have hp := hp0
  obtain ⟨hn, hmax, hnone, _⟩ := hp
  dsimp only at hn hmax hnone hx hC hp0
  (repeat' ((conv => whnf); (first | with_reducible apply And.intro | (with_reducible intro hh; first | (with_reducible have hx := NewRow.self hh; clear hx) | (with_reducible have hrow := Made.row hh; have hle := Made.le hh; have hmade := hh; clear hh) | (with_reducible have hrow := Fresh.rowS hh; have hle := Fresh.leS hh; have hfr := hh; clear hh) | (with_reducible have hx := Ext.self hh; clear hx) | (with_reducible have hx := SlV.self hh; clear hx) | (with_reducible have hx := Value.self hh; clear hx) | with_reducible cases hh | skip) | (with_reducible apply AllEq.mk; intro yy hq) | with_reducible apply trivial | with_reducible apply Exists.intro () | (with_reducible apply ex_side; (first | with_reducible assumption | with_reducible apply fracs1 | with_reducible apply fracs2 | with_reducible apply fracs3 | with_reducible apply spans1 | with_reducible apply spans2 | (with_reducible apply NewRow.keep; with_reducible assumption) | (with_reducible apply RowAt.keep; with_reducible assumption) | assumption | (focus ((repeat (first | with_reducible assumption | (with_reducible apply RowAt.le; rotate_left; with_reducible assumption) | (with_reducible apply RowB.le; rotate_left; with_reducible assumption))); done)))) | (with_reducible apply ex_side (a := (_, _)); (focus (with_reducible apply And.intro <;> (focus ((repeat (first | with_reducible assumption | (with_reducible apply RowAt.le; rotate_left; with_reducible assumption) | (with_reducible apply RowB.le; rotate_left; with_reducible assumption))); done))))))); (all_goals (conv => whnf)))
  (all_goals (try dsimp only [Q.eta, Sn.eta, SlV.eta] at *)); (all_goals (first | exact Side.mk trivial | with_reducible exact Side.mk rfl | exact Side.mk (fun _ _ h => h) | exact Side.mk (Made.le (by assumption)) | refine Side.mk ?_ | refine Don.mk ?_ | skip))
  refine ⟨fun m s => ∃ (k : Nat) (i : Int) (w : Q) (g10 g11 g12 g13 g15 g16 g17 g18 g19 g20 g21 g22 g23 g24 g25 g26 g27 g28 g29 g30 g31 g32 g33 g34 g35 g36 g37 g40 g41 g42 g43 g44 g45 g46 g47 g48 g49 : AV) (w1 w2 w4 w6 w14 w38 w39 w50 w51 w52 w53 : Value), m = l.length - k ∧ k ≤ l.length ∧ (k = 0 ∨ okQ w = true) ∧ neaO ⟨a, b⟩ ⟨p, q⟩ 0 (0, Q0) l = neaO ⟨a, b⟩ ⟨p, q⟩ k (i, w) (l.drop k) ∧ s = ⟨[.p 0 0, .v w1, .v w2, .p 1 0, .v w4, .p 2 0, .v w6, .v (.int .i64 i), .p 3 0, .v (.int .i64 k), g10, g11, g12, g13, .v w14, g15, g16, g17, g18, g19, g20, g21, g22, g23, g24, g25, g26, g27, g28, g29, g30, g31, g32, g33, g34, g35, g36, g37, .v w38, .v w39, g40, g41, g42, g43, g44, g45, g46, g47, g48, g49, .v w50, .v w51, .v w52, .v w53], [([.int .i64 a, .int .i64 b, .slice sa n c], 70), ([.int .i64 p, .int .i64 q], 25), ([.int .i64 0, .int .i64 0], 25), ([.int .i64 w.p, .int .i64 w.q], 25)], E⟩, ⟨_, 0, 0, Q0, _, _, _, _, _, _, _, _, _, _, _, _, _, _, _, _, _, _, _, _, _, _, _, _, _, _, _, _, _, _, _, _, _, _, _, _, _, _, _, _, _, _, _, _, _, _, _, _, rfl, Nat.zero_le _, .inl rfl, rfl, rfl⟩, ?_⟩
  rintro m s ⟨k, i, w, g10, g11, g12, g13, g15, g16, g17, g18, g19, g20, g21, g22, g23, g24, g25, g26, g27, g28, g29, g30, g31, g32, g33, g34, g35, g36, g37, g40, g41, g42, g43, g44, g45, g46, g47, g48, g49, w1, w2, w4, w6, w14, w38, w39, w50, w51, w52, w53, rfl, hk, hw, hs, rfl⟩
  rcases hkl : l[k]? with _ | e
  · have hge := List.getElem?_eq_none_iff.1 hkl
    rw [List.drop_eq_nil_of_le hge, neaO] at hs
    (repeat' ((conv => whnf); (first | with_reducible apply And.intro | (with_reducible intro hh; first | (with_reducible have hx := NewRow.self hh; clear hx) | (with_reducible have hrow := Made.row hh; have hle := Made.le hh; have hmade := hh; clear hh) | (with_reducible have hrow := Fresh.rowS hh; have hle := Fresh.leS hh; have hfr := hh; clear hh) | (with_reducible have hx := Ext.self hh; clear hx) | (with_reducible have hx := SlV.self hh; clear hx) | (with_reducible have hx := Value.self hh; clear hx) | with_reducible cases hh | skip) | (with_reducible apply AllEq.mk; intro yy hq) | with_reducible apply trivial | with_reducible apply Exists.intro () | (with_reducible apply ex_side; (first | with_reducible assumption | with_reducible apply fracs1 | with_reducible apply fracs2 | with_reducible apply fracs3 | with_reducible apply spans1 | with_reducible apply spans2 | (with_reducible apply NewRow.keep; with_reducible assumption) | (with_reducible apply RowAt.keep; with_reducible assumption) | assumption | (focus ((repeat (first | with_reducible assumption | (with_reducible apply RowAt.le; rotate_left; with_reducible assumption) | (with_reducible apply RowB.le; rotate_left; with_reducible assumption))); done)))) | (with_reducible apply ex_side (a := (_, _)); (focus (with_reducible apply And.intro <;> (focus ((repeat (first | with_reducible assumption | (with_reducible apply RowAt.le; rotate_left; with_reducible assumption) | (with_reducible apply RowB.le; rotate_left; with_reducible assumption))); done))))))); (all_goals (conv => whnf)))
    (all_goals (try dsimp only [Q.eta, Sn.eta, SlV.eta] at *)); (all_goals (first | exact Side.mk trivial | with_reducible exact Side.mk rfl | exact Side.mk (fun _ _ h => h) | exact Side.mk (Made.le (by assumption)) | refine Side.mk ?_ | refine Don.mk ?_ | skip))
    all_goals try (exfalso; have := of_decide_eq_true (by assumption : decide ((k : Int) < (n : Int)) = true); omega)
    all_goals rw [hs]
    all_goals exact ⟨rfl, rfl⟩
  · have hlt : k < l.length := (List.getElem?_eq_some_iff.1 hkl).1
    obtain ⟨hM, m, h1, h2, hm, h3⟩ := markIn_nat hp0 hC hkl
    rw [drop_at' hkl, neaO, h3] at hs
    have h4 : (outO (markO ⟨a, b⟩ (k : Int).toNat (l.getD (k : Int).toNat Q0))).1 = m := by rw [h1]; rfl
    clear h3 h1 h2
    cases hd : subO ⟨p, q⟩ m with
    | none =>
      rw [hd, Option.bind_none] at hs
      (repeat' ((conv => whnf); (first | with_reducible apply And.intro | (with_reducible intro hh; first | (with_reducible have hx := NewRow.self hh; clear hx) | (with_reducible have hrow := Made.row hh; have hle := Made.le hh; have hmade := hh; clear hh) | (with_reducible have hrow := Fresh.rowS hh; have hle := Fresh.leS hh; have hfr := hh; clear hh) | (with_reducible have hx := Ext.self hh; clear hx) | (with_reducible have hx := SlV.self hh; clear hx) | (with_reducible have hx := Value.self hh; clear hx) | with_reducible cases hh | skip) | (with_reducible apply AllEq.mk; intro yy hq) | with_reducible apply trivial | with_reducible apply Exists.intro () | (with_reducible apply ex_side; (first | with_reducible assumption | with_reducible apply fracs1 | with_reducible apply fracs2 | with_reducible apply fracs3 | with_reducible apply spans1 | with_reducible apply spans2 | (with_reducible apply NewRow.keep; with_reducible assumption) | (with_reducible apply RowAt.keep; with_reducible assumption) | assumption | (focus ((repeat (first | with_reducible assumption | (with_reducible apply RowAt.le; rotate_left; with_reducible assumption) | (with_reducible apply RowB.le; rotate_left; with_reducible assumption))); done)))) | (with_reducible apply ex_side (a := (_, _)); (focus (with_reducible apply And.intro <;> (focus ((repeat (first | with_reducible assumption | (with_reducible apply RowAt.le; rotate_left; with_reducible assumption) | (with_reducible apply RowB.le; rotate_left; with_reducible assumption))); done))))))); (all_goals (conv => whnf)))
      (all_goals (try dsimp only [Q.eta, Sn.eta, SlV.eta] at *)); (all_goals (first | exact Side.mk trivial | with_reducible exact Side.mk rfl | exact Side.mk (fun _ _ h => h) | exact Side.mk (Made.le (by assumption)) | refine Side.mk ?_ | refine Don.mk ?_ | skip))
      all_goals subst_vars
      all_goals try simp only [hd, outO_none] at *
      all_goals first | exact ⟨hx, hm⟩ | (rw [hs]; exact ⟨rfl, rfl⟩) | (exfalso; exact absurd (by assumption : ((3 : Int) != 0) = false) (by decide)) | (exfalso; have := of_decide_eq_false (by assumption : decide ((k : Int) < (l.length : Int)) = false); omega)
    | some d =>
      rw [hd, Option.bind_some] at hs
      have hdm : okQ d = true := by have := tolO_sub ⟨p, q⟩ m; rwa [hd, tolO_some] at this
      by_cases hc : k = 0 ∨ cmpQ (sizQ d) w < 0
      · rw [if_pos hc] at hs
        (repeat' ((conv => whnf); (first | with_reducible apply And.intro | (with_reducible intro hh; first | (with_reducible have hx := NewRow.self hh; clear hx) | (with_reducible have hrow := Made.row hh; have hle := Made.le hh; have hmade := hh; clear hh) | (with_reducible have hrow := Fresh.rowS hh; have hle := Fresh.leS hh; have hfr := hh; clear hh) | (with_reducible have hx := Ext.self hh; clear hx) | (with_reducible have hx := SlV.self hh; clear hx) | (with_reducible have hx := Value.self hh; clear hx) | with_reducible cases hh | skip) | (with_reducible apply AllEq.mk; intro yy hq) | with_reducible apply trivial | with_reducible apply Exists.intro () | (with_reducible apply ex_side; (first | with_reducible assumption | with_reducible apply fracs1 | with_reducible apply fracs2 | with_reducible apply fracs3 | with_reducible apply spans1 | with_reducible apply spans2 | (with_reducible apply NewRow.keep; with_reducible assumption) | (with_reducible apply RowAt.keep; with_reducible assumption) | assumption | (focus ((repeat (first | with_reducible assumption | (with_reducible apply RowAt.le; rotate_left; with_reducible assumption) | (with_reducible apply RowB.le; rotate_left; with_reducible assumption))); done)))) | (with_reducible apply ex_side (a := (_, _)); (focus (with_reducible apply And.intro <;> (focus ((repeat (first | with_reducible assumption | (with_reducible apply RowAt.le; rotate_left; with_reducible assumption) | (with_reducible apply RowB.le; rotate_left; with_reducible assumption))); done))))))); (all_goals (conv => whnf)))
        (all_goals (try dsimp only [Q.eta, Sn.eta, SlV.eta] at *)); (all_goals (first | exact Side.mk trivial | with_reducible exact Side.mk rfl | exact Side.mk (fun _ _ h => h) | exact Side.mk (Made.le (by assumption)) | refine Side.mk ?_ | refine Don.mk ?_ | skip))
        all_goals subst_vars
        all_goals try simp only [hd, outO_some] at *
        all_goals first | exact ⟨hx, hm⟩ | exact hdm | (exfalso; exact absurd (by assumption : ((0 : Int) != 0) = true) (by decide)) | exact ⟨okQ_size hdm, hw.resolve_left (fun h => by have h9 := (by assumption : ((k : Int) == 0) = false); simp [h] at h9)⟩ | (refine ⟨_, ?_, k + 1, _, _, _, _, _, _, _, _, _, _, _, _, _, _, _, _, _, _, _, _, _, _, _, _, _, _, _, _, _, _, _, _, _, _, _, _, _, _, _, _, _, _, _, _, _, _, _, _, _, _, rfl, hlt, .inr (okQ_size hdm), hs, by rw [wrap_succ (n := l.length) (by omega) hmax]⟩; omega) | (exfalso; rcases hc with h | h; subst h; exact absurd (by assumption : (((0 : Nat) : Int) == 0) = false) (by decide); exact of_decide_eq_false hh h) | (exfalso; have := of_decide_eq_false (by assumption : decide ((k : Int) < (l.length : Int)) = false); omega) | skip
      · rw [if_neg hc] at hs
        (repeat' ((conv => whnf); (first | with_reducible apply And.intro | (with_reducible intro hh; first | (with_reducible have hx := NewRow.self hh; clear hx) | (with_reducible have hrow := Made.row hh; have hle := Made.le hh; have hmade := hh; clear hh) | (with_reducible have hrow := Fresh.rowS hh; have hle := Fresh.leS hh; have hfr := hh; clear hh) | (with_reducible have hx := Ext.self hh; clear hx) | (with_reducible have hx := SlV.self hh; clear hx) | (with_reducible have hx := Value.self hh; clear hx) | with_reducible cases hh | skip) | (with_reducible apply AllEq.mk; intro yy hq) | with_reducible apply trivial | with_reducible apply Exists.intro () | (with_reducible apply ex_side; (first | with_reducible assumption | with_reducible apply fracs1 | with_reducible apply fracs2 | with_reducible apply fracs3 | with_reducible apply spans1 | with_reducible apply spans2 | (with_reducible apply NewRow.keep; with_reducible assumption) | (with_reducible apply RowAt.keep; with_reducible assumption) | assumption | (focus ((repeat (first | with_reducible assumption | (with_reducible apply RowAt.le; rotate_left; with_reducible assumption) | (with_reducible apply RowB.le; rotate_left; with_reducible assumption))); done)))) | (with_reducible apply ex_side (a := (_, _)); (focus (with_reducible apply And.intro <;> (focus ((repeat (first | with_reducible assumption | (with_reducible apply RowAt.le; rotate_left; with_reducible assumption) | (with_reducible apply RowB.le; rotate_left; with_reducible assumption))); done))))))); (all_goals (conv => whnf)))
        (all_goals (try dsimp only [Q.eta, Sn.eta, SlV.eta] at *)); (all_goals (first | exact Side.mk trivial | with_reducible exact Side.mk rfl | exact Side.mk (fun _ _ h => h) | exact Side.mk (Made.le (by assumption)) | refine Side.mk ?_ | refine Don.mk ?_ | skip))
        all_goals subst_vars
        all_goals try simp only [hd, outO_some] at *
        all_goals first | exact ⟨hx, hm⟩ | exact hdm | (exfalso; exact absurd (by assumption : ((0 : Int) != 0) = true) (by decide)) | exact ⟨okQ_size hdm, hw.resolve_left (fun h => hc (.inl h))⟩ | (refine ⟨_, ?_, k + 1, i, w, _, _, _, _, _, _, _, _, _, _, _, _, _, _, _, _, _, _, _, _, _, _, _, _, _, _, _, _, _, _, _, _, _, _, _, _, _, _, _, _, _, _, _, _, _, _, _, _, rfl, hlt, .inr (hw.resolve_left (fun h => hc (.inl h))), hs, by rw [wrap_succ (n := l.length) (by omega) hmax]⟩; omega) | (exfalso; exact hc (.inl (by have := eq_of_beq (by assumption : ((k : Int) == 0) = true); omega))) | (exfalso; exact hc (.inr (of_decide_eq_true (by assumption : decide (cmpQ (sizQ d) w < 0) = true)))) | (exfalso; have := of_decide_eq_false (by assumption : decide ((k : Int) < (l.length : Int)) = false); omega) | skip
theorem neaO_ne {u x : Q} {l : List Q} (h : okC u l = true) : neaO u x 0 (-1, Q1) l = neaO u x 0 (0, Q0) l := neaO_start _ _ (by rintro rfl; have := (okC_iff h).2.2.1; simp at this)
def nearMR (u x : Q) (l : List Q) : Int × Int := grd 0 (okC u l && okQ x) 1 ((near3 (neaO u x 0 (0, Q0) l)).1, (near3 (neaO u x 0 (0, Q0) l)).2.2)
abbrev nearMSp : Sp := .rf CQ (fun x (l : List Q) E => FracsAt x.1.errs l E) (fun x l => RI (nearMR x.1.unit x.2.1 l))

end Go.Proofs.Ytlfhjmnaommckaa
