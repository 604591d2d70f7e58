/- Contracts of both packages' functions that add up lists of fractions and take their mean, for all lists that lie in memory; conditions: the bounds that each names. -/
import Derived.Test.YtoolfecbiifplaaAb
import Derived.Test.YtoolfecbiifplaaC1
import Derived.Test.YtoolfecbiifplaaC2
import Derived.Test.YtoolfecbiifplaaC3
import Derived.Test.YtoolfecbiifplaaC4
import Derived.Test.YtoolfecbiifplaaC5
import Derived.Test.YtoolfecbiifplaaCL
import Derived.Test.YtoolfecbiifplaaC6
import Derived.Test.YtoolfecbiifplaaC7
import Derived.Test.YtoolfecbiifplaaC8
import Derived.Test.YtoolfecbiifplaaC9
import Derived.Test.YtoolfecbiifplaaCO
import Derived.Test.YtoolfecbiifplaaC12
import Derived.Test.YtoolfecbiifplaaProg
set_option linter.unusedVariables false
set_option linter.unusedSimpArgs false
namespace Go.Proofs.Ytoolfecbiifplaa
open Ab

/-- The sum from a number on. -/
def sumO : Q → List Q → Option Q
  | s, [] => some s
  | s, a :: r => (addO s a).bind fun t => sumO t r
/-- What the calculator makes of it. -/
def sumT : Q × Bool → List Q → Q × Bool
  | s, [] => s
  | s, a :: r => sumT (tolO (addO s.1 a), s.2 || (addO s.1 a).isNone) r
theorem sumT_bad : ∀ (l : List Q) (s : Q), (sumT (s, true) l).2 = true
  | [], _ => rfl
  | a :: r, s => by
    unfold sumT
    exact sumT_bad r _
theorem sumT_ok : ∀ (l : List Q) (s : Q × Bool), okQ s.1 = true → okQ (sumT s l).1 = true
  | [], _, h => h
  | a :: r, s, _ => sumT_ok r _ (tolO_add _ _)
theorem sumT_sumO : ∀ (l : List Q) (s : Q), (sumT (s, false) l).2 = (sumO s l).isNone ∧ ∀ t, sumO s l = some t → (sumT (s, false) l).1 = t
  | [], s => ⟨rfl, fun t h => by cases h; rfl⟩
  | a :: r, s => by
    unfold sumT sumO
    cases h : addO s a with
    | none => exact ⟨by simp [sumT_bad], fun t ht => by cases ht⟩
    | some b =>
      simp only [tolO_some, Option.bind_some, Option.isNone_some, Bool.or_false]
      exact sumT_sumO r b
theorem sumT_or : ∀ (l : List Q) (s : Q) (b : Bool), (sumT (s, b) l).1 = (sumT (s, false) l).1 ∧ (sumT (s, b) l).2 = (b || (sumT (s, false) l).2)
  | [], s, b => ⟨rfl, by simp [sumT]⟩
  | a :: r, s, b => by
    unfold sumT
    have h1 := sumT_or r (tolO (addO s a)) (b || (addO s a).isNone)
    have h2 := sumT_or r (tolO (addO s a)) (false || (addO s a).isNone)
    exact ⟨h1.1.trans h2.1.symm, by rw [h1.2, h2.2]; simp [Bool.or_assoc]⟩
theorem sumO_ok : ∀ (l : List Q) (s t : Q), okQ s = true → sumO s l = some t → okQ t = true
  | [], s, t, h, e => by cases e; exact h
  | a :: r, s, t, h, e => by
    unfold sumO at e
    cases h1 : addO s a with
    | none => rw [h1] at e; cases e
    | some b => rw [h1] at e; exact sumO_ok r b t (addO_ok h1) e
theorem drop_at {α : Type} {l : List α} {k : Nat} {x : α} (h : l[k]? = some x) : l.drop k = x :: l.drop (k + 1) := by
  obtain ⟨hl, he⟩ := List.getElem?_eq_some_iff.1 h
  rw [List.drop_eq_getElem_cons hl, he]
def AllRow (s : SlV) (l : List Q) (E : Ext) : Prop := FracsAt s l E ∧ allOk l = true
abbrev Q01 : Q := ⟨0, 1⟩
abbrev ssumSp : Sp := .rf FS (fun x (l : List Q) E => AllRow x.1 l E) (fun _ l => RQ (outO (sumO Q01 l)))

set_option maxRecDepth 100000 in
theorem ssum_ok : Sp.ok Try.prog 106 ssumSp := by
  refine Sp.rf_ok (T := ⟨[(107, wholeSp), (49, oaddqSp)], []⟩) follows eqok0 ⟨enters Try.func107 rfl rfl, whole_ok, enters Try.func49 rfl rfl, oaddq_ok, trivial⟩ [(5, .take 0 (.take 1 (.take 2 (.take 3 (.take 4 (.alt 5 (.take 6 (.take 7 (.take 8 (.alt 9 (.alt 10 (.take 11 (.done)) (.last)) (.last))))) (.alt 9 (.alt 5 (.take 6 (.take 7 (.take 8 (.alt 10 (.take 11 (.done)) (.last))))) (.last)) (.last))))))))] Try.func106 rfl (by kernel_rfl) _ _ _ fun x l E hp => ?_
  obtain ⟨⟨sa, n, c⟩, u⟩ := x
  obtain ⟨hp, hall⟩ := hp
  have hat := @FracsAt.at _ _ _ hp
  obtain ⟨hn, hmax, hnone, _⟩ := hp
  dsimp only at hn hmax hnone hat
  (repeat' ((conv => whnf); (first | with_reducible apply And.intro | (with_reducible intro hh; first | (with_reducible have hx := NewRow.self hh; clear hx) | (with_reducible have hrow := Made.row hh; have hle := Made.le hh; have hmade := hh; clear hh) | (with_reducible have hrow := Fresh.rowS hh; have hle := Fresh.leS hh; have hfr := hh; clear hh) | (with_reducible have hx := Ext.self hh; clear hx) | (with_reducible have hx := SlV.self hh; clear hx) | (with_reducible have hx := Value.self hh; clear hx) | with_reducible cases hh | skip) | (with_reducible apply AllEq.mk; intro yy hq) | with_reducible apply trivial | with_reducible apply Exists.intro () | (with_reducible apply ex_side; (first | with_reducible assumption | with_reducible apply fracs1 | with_reducible apply fracs2 | with_reducible apply fracs3 | with_reducible apply spans1 | with_reducible apply spans2 | (with_reducible apply NewRow.keep; with_reducible assumption) | (with_reducible apply RowAt.keep; with_reducible assumption) | assumption | (focus ((repeat (first | with_reducible assumption | (with_reducible apply RowAt.le; rotate_left; with_reducible assumption) | (with_reducible apply RowB.le; rotate_left; with_reducible assumption))); done)))) | (with_reducible apply ex_side (a := (_, _)); (focus (with_reducible apply And.intro <;> (focus ((repeat (first | with_reducible assumption | (with_reducible apply RowAt.le; rotate_left; with_reducible assumption) | (with_reducible apply RowB.le; rotate_left; with_reducible assumption))); done))))))); (all_goals (conv => whnf)))
  (all_goals (try dsimp only [Q.eta, Sn.eta, SlV.eta] at *)); (all_goals (first | exact Side.mk trivial | with_reducible exact Side.mk rfl | exact Side.mk (fun _ _ h => h) | exact Side.mk (Made.le (by assumption)) | refine Side.mk ?_ | refine Don.mk ?_ | skip))
  refine ⟨fun m s => ∃ (k : Nat) (a : Q) (g6 g7 g9 g10 g11 g12 g13 g14 g15 g16 g17 g18 g19 g20 g21 g22 g23 g24 g25 g28 : AV) (w1 w8 w26 w27 w29 : Value), m = l.length - k ∧ k ≤ l.length ∧ okQ a = true ∧ sumO Q01 l = sumO a (l.drop k) ∧ s = ⟨[.v (.slice sa n c), .v w1, .p 0 0, .v (.int .i64 0), .p 1 0, .v (.int .i64 k), g6, g7, .v w8, g9, g10, g11, g12, g13, g14, g15, g16, g17, g18, g19, g20, g21, g22, g23, g24, g25, .v w26, .v w27, g28, .v w29], [([.int .i64 0, .int .i64 0], 25), ([.int .i64 a.p, .int .i64 a.q], 25)], E⟩, ⟨_, 0, Q01, _, _, _, _, _, _, _, _, _, _, _, _, _, _, _, _, _, _, _, _, _, _, _, _, _, rfl, Nat.zero_le _, by decide, rfl, rfl⟩, ?_⟩
  rintro m s ⟨k, a, g6, g7, g9, g10, g11, g12, g13, g14, g15, g16, g17, g18, g19, g20, g21, g22, g23, g24, g25, g28, w1, w8, w26, w27, w29, rfl, hk, ha, hs, rfl⟩
  rcases hkl : l[k]? with _ | q
  · have hge := List.getElem?_eq_none_iff.1 hkl
    rw [List.drop_eq_nil_of_le hge] at hs
    (repeat' ((conv => whnf); (first | with_reducible apply And.intro | (with_reducible intro hh; first | (with_reducible have hx := NewRow.self hh; clear hx) | (with_reducible have hrow := Made.row hh; have hle := Made.le hh; have hmade := hh; clear hh) | (with_reducible have hrow := Fresh.rowS hh; have hle := Fresh.leS hh; have hfr := hh; clear hh) | (with_reducible have hx := Ext.self hh; clear hx) | (with_reducible have hx := SlV.self hh; clear hx) | (with_reducible have hx := Value.self hh; clear hx) | with_reducible cases hh | skip) | (with_reducible apply AllEq.mk; intro yy hq) | with_reducible apply trivial | with_reducible apply Exists.intro () | (with_reducible apply ex_side; (first | with_reducible assumption | with_reducible apply fracs1 | with_reducible apply fracs2 | with_reducible apply fracs3 | with_reducible apply spans1 | with_reducible apply spans2 | (with_reducible apply NewRow.keep; with_reducible assumption) | (with_reducible apply RowAt.keep; with_reducible assumption) | assumption | (focus ((repeat (first | with_reducible assumption | (with_reducible apply RowAt.le; rotate_left; with_reducible assumption) | (with_reducible apply RowB.le; rotate_left; with_reducible assumption))); done)))) | (with_reducible apply ex_side (a := (_, _)); (focus (with_reducible apply And.intro <;> (focus ((repeat (first | with_reducible assumption | (with_reducible apply RowAt.le; rotate_left; with_reducible assumption) | (with_reducible apply RowB.le; rotate_left; with_reducible assumption))); done))))))); (all_goals (conv => whnf)))
    (all_goals (try dsimp only [Q.eta, Sn.eta, SlV.eta] at *)); (all_goals (first | exact Side.mk trivial | with_reducible exact Side.mk rfl | exact Side.mk (fun _ _ h => h) | exact Side.mk (Made.le (by assumption)) | refine Side.mk ?_ | refine Don.mk ?_ | skip))
    all_goals try (exfalso; have := of_decide_eq_true (by assumption : decide ((k : Int) < (n : Int)) = true); omega)
    rw [hs]
    rfl
  · have hlt : k < l.length := (List.getElem?_eq_some_iff.1 hkl).1
    rw [drop_at hkl] at hs
    have hqk := allOk_iff.1 hall k q hkl
    cases sa with
    | none => rw [hnone rfl] at hkl; cases hkl
    | some ad =>
      obtain ⟨h0, h1⟩ := hat rfl hkl
      (repeat' ((conv => whnf); (first | with_reducible apply And.intro | (with_reducible intro hh; first | (with_reducible have hx := NewRow.self hh; clear hx) | (with_reducible have hrow := Made.row hh; have hle := Made.le hh; have hmade := hh; clear hh) | (with_reducible have hrow := Fresh.rowS hh; have hle := Fresh.leS hh; have hfr := hh; clear hh) | (with_reducible have hx := Ext.self hh; clear hx) | (with_reducible have hx := SlV.self hh; clear hx) | (with_reducible have hx := Value.self hh; clear hx) | with_reducible cases hh | skip) | (with_reducible apply AllEq.mk; intro yy hq) | with_reducible apply trivial | with_reducible apply Exists.intro () | (with_reducible apply ex_side; (first | with_reducible assumption | with_reducible apply fracs1 | with_reducible apply fracs2 | with_reducible apply fracs3 | with_reducible apply spans1 | with_reducible apply spans2 | (with_reducible apply NewRow.keep; with_reducible assumption) | (with_reducible apply RowAt.keep; with_reducible assumption) | assumption | (focus ((repeat (first | with_reducible assumption | (with_reducible apply RowAt.le; rotate_left; with_reducible assumption) | (with_reducible apply RowB.le; rotate_left; with_reducible assumption))); done)))) | (with_reducible apply ex_side (a := (_, _)); (focus (with_reducible apply And.intro <;> (focus ((repeat (first | with_reducible assumption | (with_reducible apply RowAt.le; rotate_left; with_reducible assumption) | (with_reducible apply RowB.le; rotate_left; with_reducible assumption))); done))))))); (all_goals (conv => whnf)))
      (all_goals (try dsimp only [Q.eta, Sn.eta, SlV.eta] at *)); (all_goals (first | exact Side.mk trivial | with_reducible exact Side.mk rfl | exact Side.mk (fun _ _ h => h) | exact Side.mk (Made.le (by assumption)) | refine Side.mk ?_ | refine Don.mk ?_ | skip))
      all_goals try subst hq
      all_goals try simp only [outO_ne] at hh
      all_goals first | exact ⟨by omega, by omega⟩ | exact ⟨ha, hqk⟩ | skip
      all_goals first | (exfalso; have := of_decide_eq_false (by assumption : decide ((k : Int) < (n : Int)) = false); omega) | skip
      all_goals cases h : addO a q with
        | none => first | (rw [h] at hh; cases hh; done) | (rw [hs, sumO, h]; rfl)
        | some b => first | (rw [h] at hh; cases hh; done) | (refine ⟨_, ?_, k + 1, b, _, _, _, _, _, _, _, _, _, _, _, _, _, _, _, _, _, _, _, _, _, _, _, _, _, rfl, hlt, addO_ok h, by rw [hs, sumO, h]; rfl, by rw [wrap_succ (n := n) (by omega) hmax]; rfl⟩; omega)
abbrev ssumqSp : Sp := .rq FS (fun x (l : List Q) E => AllRow x.1 l E) RQ (fun _ l => outO (sumO Q01 l))
theorem ssumq_ok : Sp.ok Try.prog 106 ssumqSp := Sp.rq_ok ssum_ok
abbrev tsumSp : Sp := .gf SC 72 FS (fun _ x (l : List Q) E => AllRow x.1 l E) (fun _ _ l => (sumT (Q01, false) l).1.v) (fun s _ l => (s.1 || (sumT (Q01, false) l).2, ()))

set_option maxRecDepth 100000 in
theorem tsum_ok : Sp.ok Try.prog 96 tsumSp := by
  refine Sp.gf_ok (T := ⟨[(100, zeroSp), (108, taddqSp)], []⟩) follows eqok0 ⟨enters Try.func100 rfl rfl, zero_ok, enters Try.func108 rfl rfl, taddq_ok, trivial⟩ [] Try.func96 rfl (by kernel_rfl) _ _ _ _ _ _ fun s x l E hp => ?_
  obtain ⟨b0, u⟩ := s
  obtain ⟨⟨sa, n, c⟩, u⟩ := x
  obtain ⟨hp, hall⟩ := hp
  have hat := @FracsAt.at _ _ _ hp
  obtain ⟨hn, hmax, hnone, _⟩ := hp
  dsimp only at hn hmax hnone hat
  have hor := sumT_or l Q01 b0
  (repeat' ((conv => whnf); (first | with_reducible apply And.intro | (with_reducible intro hh; first | (with_reducible have hx := NewRow.self hh; clear hx) | (with_reducible have hrow := Made.row hh; have hle := Made.le hh; have hmade := hh; clear hh) | (with_reducible have hrow := Fresh.rowS hh; have hle := Fresh.leS hh; have hfr := hh; clear hh) | (with_reducible have hx := Ext.self hh; clear hx) | (with_reducible have hx := SlV.self hh; clear hx) | (with_reducible have hx := Value.self hh; clear hx) | with_reducible cases hh | skip) | (with_reducible apply AllEq.mk; intro yy hq) | with_reducible apply trivial | with_reducible apply Exists.intro () | (with_reducible apply ex_side; (first | with_reducible assumption | with_reducible apply fracs1 | with_reducible apply fracs2 | with_reducible apply fracs3 | with_reducible apply spans1 | with_reducible apply spans2 | (with_reducible apply NewRow.keep; with_reducible assumption) | (with_reducible apply RowAt.keep; with_reducible assumption) | assumption | (focus ((repeat (first | with_reducible assumption | (with_reducible apply RowAt.le; rotate_left; with_reducible assumption) | (with_reducible apply RowB.le; rotate_left; with_reducible assumption))); done)))) | (with_reducible apply ex_side (a := (_, _)); (focus (with_reducible apply And.intro <;> (focus ((repeat (first | with_reducible assumption | (with_reducible apply RowAt.le; rotate_left; with_reducible assumption) | (with_reducible apply RowB.le; rotate_left; with_reducible assumption))); done))))))); (all_goals (conv => whnf)))
  (all_goals (try dsimp only [Q.eta, Sn.eta, SlV.eta] at *)); (all_goals (first | exact Side.mk trivial | with_reducible exact Side.mk rfl | exact Side.mk (fun _ _ h => h) | exact Side.mk (Made.le (by assumption)) | refine Side.mk ?_ | refine Don.mk ?_ | skip))
  refine ⟨fun m s => ∃ (k : Nat) (a : Q) (b : Bool) (g7 g12 g13 g14 g15 g16 g17 g18 g19 : AV) (w1 w2 w3 w6 w8 w20 : Value), m = l.length - k ∧ k ≤ l.length ∧ okQ a = true ∧ sumT (Q01, b0) l = sumT (a, b) (l.drop k) ∧ s = ⟨[.p 0 0, .v w1, .v w2, .v w3, .p 1 0, .p 2 0, .v w6, g7, .v w8, .v (.slice sa n c), .v (.int .i64 n), .v (.int .i64 k), g12, g13, g14, g15, g16, g17, g18, g19, .v w20], [([.bool b], 72), ([.int .i64 0, .int .i64 0], 25), ([.int .i64 a.p, .int .i64 a.q], 25)], E⟩, ⟨_, 0, Q01, b0, _, _, _, _, _, _, _, _, _, _, _, _, _, _, _, rfl, Nat.zero_le _, by decide, rfl, rfl⟩, ?_⟩
  rintro m s ⟨k, a, b, g7, g12, g13, g14, g15, g16, g17, g18, g19, w1, w2, w3, w6, w8, w20, rfl, hk, ha, hs, rfl⟩
  rcases hkl : l[k]? with _ | q
  · have hge := List.getElem?_eq_none_iff.1 hkl
    rw [List.drop_eq_nil_of_le hge, sumT] at hs
    (repeat' ((conv => whnf); (first | with_reducible apply And.intro | (with_reducible intro hh; first | (with_reducible have hx := NewRow.self hh; clear hx) | (with_reducible have hrow := Made.row hh; have hle := Made.le hh; have hmade := hh; clear hh) | (with_reducible have hrow := Fresh.rowS hh; have hle := Fresh.leS hh; have hfr := hh; clear hh) | (with_reducible have hx := Ext.self hh; clear hx) | (with_reducible have hx := SlV.self hh; clear hx) | (with_reducible have hx := Value.self hh; clear hx) | with_reducible cases hh | skip) | (with_reducible apply AllEq.mk; intro yy hq) | with_reducible apply trivial | with_reducible apply Exists.intro () | (with_reducible apply ex_side; (first | with_reducible assumption | with_reducible apply fracs1 | with_reducible apply fracs2 | with_reducible apply fracs3 | with_reducible apply spans1 | with_reducible apply spans2 | (with_reducible apply NewRow.keep; with_reducible assumption) | (with_reducible apply RowAt.keep; with_reducible assumption) | assumption | (focus ((repeat (first | with_reducible assumption | (with_reducible apply RowAt.le; rotate_left; with_reducible assumption) | (with_reducible apply RowB.le; rotate_left; with_reducible assumption))); done)))) | (with_reducible apply ex_side (a := (_, _)); (focus (with_reducible apply And.intro <;> (focus ((repeat (first | with_reducible assumption | (with_reducible apply RowAt.le; rotate_left; with_reducible assumption) | (with_reducible apply RowB.le; rotate_left; with_reducible assumption))); done))))))); (all_goals (conv => whnf)))
    (all_goals (try dsimp only [Q.eta, Sn.eta, SlV.eta] at *)); (all_goals (first | exact Side.mk trivial | with_reducible exact Side.mk rfl | exact Side.mk (fun _ _ h => h) | exact Side.mk (Made.le (by assumption)) | refine Side.mk ?_ | refine Don.mk ?_ | skip))
    all_goals try (exfalso; have := of_decide_eq_true (by assumption : decide ((k : Int) < (n : Int)) = true); omega)
    rw [hs] at hor
    obtain ⟨h1, h2⟩ := hor
    dsimp only at h1 h2
    rw [← h1, ← h2]
    exact ⟨rfl, rfl⟩
  · have hlt : k < l.length := (List.getElem?_eq_some_iff.1 hkl).1
    rw [drop_at hkl, sumT] at hs
    have hqk := allOk_iff.1 hall k q hkl
    cases sa with
    | none => rw [hnone rfl] at hkl; cases hkl
    | some ad =>
      obtain ⟨h0, h1⟩ := hat rfl hkl
      (repeat' ((conv => whnf); (first | with_reducible apply And.intro | (with_reducible intro hh; first | (with_reducible have hx := NewRow.self hh; clear hx) | (with_reducible have hrow := Made.row hh; have hle := Made.le hh; have hmade := hh; clear hh) | (with_reducible have hrow := Fresh.rowS hh; have hle := Fresh.leS hh; have hfr := hh; clear hh) | (with_reducible have hx := Ext.self hh; clear hx) | (with_reducible have hx := SlV.self hh; clear hx) | (with_reducible have hx := Value.self hh; clear hx) | with_reducible cases hh | skip) | (with_reducible apply AllEq.mk; intro yy hq) | with_reducible apply trivial | with_reducible apply Exists.intro () | (with_reducible apply ex_side; (first | with_reducible assumption | with_reducible apply fracs1 | with_reducible apply fracs2 | with_reducible apply fracs3 | with_reducible apply spans1 | with_reducible apply spans2 | (with_reducible apply NewRow.keep; with_reducible assumption) | (with_reducible apply RowAt.keep; with_reducible assumption) | assumption | (focus ((repeat (first | with_reducible assumption | (with_reducible apply RowAt.le; rotate_left; with_reducible assumption) | (with_reducible apply RowB.le; rotate_left; with_reducible assumption))); done)))) | (with_reducible apply ex_side (a := (_, _)); (focus (with_reducible apply And.intro <;> (focus ((repeat (first | with_reducible assumption | (with_reducible apply RowAt.le; rotate_left; with_reducible assumption) | (with_reducible apply RowB.le; rotate_left; with_reducible assumption))); done))))))); (all_goals (conv => whnf)))
      (all_goals (try dsimp only [Q.eta, Sn.eta, SlV.eta] at *)); (all_goals (first | exact Side.mk trivial | with_reducible exact Side.mk rfl | exact Side.mk (fun _ _ h => h) | exact Side.mk (Made.le (by assumption)) | refine Side.mk ?_ | refine Don.mk ?_ | skip))
      all_goals subst_vars
      all_goals first | exact ⟨by omega, by omega⟩ | exact ⟨ha, hqk⟩ | skip
      all_goals first | (exfalso; have := of_decide_eq_false (by assumption : decide ((k : Int) < (l.length : Int)) = false); omega) | skip
      refine ⟨_, ?_, k + 1, tolO (addO a q), b || (addO a q).isNone, _, _, _, _, _, _, _, _, _, _, _, _, _, _, _, rfl, hlt, tolO_add _ _, hs, by first | (rw [wrap_succ (n := l.length) (by omega) hmax]; done) | (rw [wrap_succ (n := l.length) (by omega) hmax]; rfl)⟩
      omega
abbrev tsumqSp : Sp := .gq SC 72 FS (fun _ x (l : List Q) E => AllRow x.1 l E) Q.v (fun _ _ l => (sumT (Q01, false) l).1) (fun s _ l => (s.1 || (sumT (Q01, false) l).2, ()))
theorem tsumq_ok : Sp.ok Try.prog 96 tsumqSp := Sp.gq_ok tsum_ok
/-! sums and means -/
def sumR (l : List Q) : Q × Int := if listC 0 l = 0 then outO (sumO Q01 l) else (⟨0, 0⟩, listC 0 l)
def meanO (l : List Q) : Option Q := (sumO Q01 l).bind fun s => divO s ⟨l.length, 1⟩
def meanR (l : List Q) : Q × Int := if listC 1 l = 0 then outO (meanO l) else (⟨0, 0⟩, listC 1 l)
theorem listC_zero {least : Int} {l : List Q} (h : listC least l = 0) : allOk l = true ∧ l.length ≤ 64 ∧ least ≤ l.length := by
  unfold listC at h
  split at h
  · rename_i h1
    split at h
    · cases h
    · exact ⟨h1, by omega, by omega⟩
  · cases h
theorem ne_zero_of {n : Int} (h : (n != 0) = true) : n ≠ 0 := by simpa using h
theorem eq_zero_of {n : Int} (h : (n != 0) = false) : n = 0 := by simpa using h
theorem one_sum {o : Option Q} {v : Q} {b : Bool} (h : b = o.isNone) (hv : ∀ t, o = some t → v = t) : RQ ((if b = true then (⟨0, 0⟩ : Q) else v), (if b = true then (3 : Int) else 0)) = RQ (outO o) := by
  cases o with
  | none => rw [h]; rfl
  | some t => rw [h, hv t rfl]; rfl
theorem divO_whole {a : Q} {n : Nat} (h : 0 < n) : divO a ⟨n, 1⟩ = mkO (opDiv a ⟨n, 1⟩) := by
  unfold divO
  rw [if_neg (by show (n : Int) ≠ 0; omega)]
theorem okQ_nat {n : Nat} (h : n ≤ 64) : okQ ⟨n, 1⟩ = true := okQ_whole (within_iff.2 ⟨by omega, by omega⟩)
/-- A quotient behind a sum. -/
theorem mean_one {l : List Q} {b : Bool} {v : Q} (hb : b = ((sumT (Q01, false) l).2 || (divO (sumT (Q01, false) l).1 ⟨l.length, 1⟩).isNone)) (hv : v = tolO (divO (sumT (Q01, false) l).1 ⟨l.length, 1⟩)) : b = (meanO l).isNone ∧ ∀ t, meanO l = some t → v = t := by
  obtain ⟨h1, h2⟩ := sumT_sumO l Q01
  unfold meanO
  cases h : sumO Q01 l with
  | none => rw [h] at h1; rw [hb, h1]; exact ⟨rfl, fun t ht => by cases ht⟩
  | some s =>
    rw [h] at h1
    rw [h2 s h] at hb hv
    rw [hb, h1, hv]
    refine ⟨rfl, fun t ht => ?_⟩
    rw [Option.bind_some] at ht
    rw [ht, tolO_some]
abbrev meanFSp : Sp := .rf FS (fun x (l : List Q) E => FracsAt x.1 l E) (fun _ l => RQ (meanR l))
set_option maxRecDepth 100000 in
theorem meanF_ok : Sp.ok Try.prog 69 meanFSp := by
  refine Sp.rf_ok (T := ⟨[(68, isSomeSp), (96, tsumqSp), (43, wholeSp), (80, tdivqSp), (40, oneSp)], []⟩) follows eqok0 ⟨enters Try.func68 rfl rfl, isSome_ok, enters Try.func96 rfl rfl, tsumq_ok, enters Try.func43 rfl rfl, num_ok, enters Try.func80 rfl rfl, tdivq_ok, enters Try.func40 rfl rfl, one_ok, trivial⟩ [] Try.func69 rfl (by kernel_rfl) _ _ _ fun x l E hp => ?_
  obtain ⟨⟨sa, n, c⟩, u⟩ := x
  have hn := hp.1
  dsimp only at hn
  by_cases hz : listC 1 l = 0
  · have hl := listC_zero hz
    have hA : AllRow ⟨sa, n, c⟩ l E := ⟨hp, hl.1⟩
    (repeat' ((conv => whnf); (first | with_reducible apply And.intro | (with_reducible intro hh; first | (with_reducible have hx := NewRow.self hh; clear hx) | (with_reducible have hrow := Made.row hh; have hle := Made.le hh; have hmade := hh; clear hh) | (with_reducible have hrow := Fresh.rowS hh; have hle := Fresh.leS hh; have hfr := hh; clear hh) | (with_reducible have hx := Ext.self hh; clear hx) | (with_reducible have hx := SlV.self hh; clear hx) | (with_reducible have hx := Value.self hh; clear hx) | with_reducible cases hh | skip) | (with_reducible apply AllEq.mk; intro yy hq) | with_reducible apply trivial | with_reducible apply Exists.intro () | (with_reducible apply ex_side; (first | with_reducible assumption | with_reducible apply fracs1 | with_reducible apply fracs2 | with_reducible apply fracs3 | with_reducible apply spans1 | with_reducible apply spans2 | (with_reducible apply NewRow.keep; with_reducible assumption) | (with_reducible apply RowAt.keep; with_reducible assumption) | assumption | (focus ((repeat (first | with_reducible assumption | (with_reducible apply RowAt.le; rotate_left; with_reducible assumption) | (with_reducible apply RowB.le; rotate_left; with_reducible assumption))); done)))) | (with_reducible apply ex_side (a := (_, _)); (focus (with_reducible apply And.intro <;> (focus ((repeat (first | with_reducible assumption | (with_reducible apply RowAt.le; rotate_left; with_reducible assumption) | (with_reducible apply RowB.le; rotate_left; with_reducible assumption))); done))))))); (all_goals (conv => whnf)))
    (all_goals (try dsimp only [Q.eta, Sn.eta, SlV.eta] at *)); (all_goals (first | exact Side.mk trivial | with_reducible exact Side.mk rfl | exact Side.mk (fun _ _ h => h) | exact Side.mk (Made.le (by assumption)) | refine Side.mk ?_ | refine Don.mk ?_ | skip))
    all_goals subst_vars
    all_goals try (exfalso; simp_all; done)
    · exact ⟨sumT_ok _ _ okQ_zero, okQ_nat hl.2.1⟩
    · rw [meanR, if_pos hz]
      have hm := mean_one (l := l) rfl rfl
      exact congrArg AV.v (one_sum (by rw [Bool.false_or]; exact hm.1) hm.2)
  · (repeat' ((conv => whnf); (first | with_reducible apply And.intro | (with_reducible intro hh; first | (with_reducible have hx := NewRow.self hh; clear hx) | (with_reducible have hrow := Made.row hh; have hle := Made.le hh; have hmade := hh; clear hh) | (with_reducible have hrow := Fresh.rowS hh; have hle := Fresh.leS hh; have hfr := hh; clear hh) | (with_reducible have hx := Ext.self hh; clear hx) | (with_reducible have hx := SlV.self hh; clear hx) | (with_reducible have hx := Value.self hh; clear hx) | with_reducible cases hh | skip) | (with_reducible apply AllEq.mk; intro yy hq) | with_reducible apply trivial | with_reducible apply Exists.intro () | (with_reducible apply ex_side; (first | with_reducible assumption | with_reducible apply fracs1 | with_reducible apply fracs2 | with_reducible apply fracs3 | with_reducible apply spans1 | with_reducible apply spans2 | (with_reducible apply NewRow.keep; with_reducible assumption) | (with_reducible apply RowAt.keep; with_reducible assumption) | assumption | (focus ((repeat (first | with_reducible assumption | (with_reducible apply RowAt.le; rotate_left; with_reducible assumption) | (with_reducible apply RowB.le; rotate_left; with_reducible assumption))); done)))) | (with_reducible apply ex_side (a := (_, _)); (focus (with_reducible apply And.intro <;> (focus ((repeat (first | with_reducible assumption | (with_reducible apply RowAt.le; rotate_left; with_reducible assumption) | (with_reducible apply RowB.le; rotate_left; with_reducible assumption))); done))))))); (all_goals (conv => whnf)))
    (all_goals (try dsimp only [Q.eta, Sn.eta, SlV.eta] at *)); (all_goals (first | exact Side.mk trivial | with_reducible exact Side.mk rfl | exact Side.mk (fun _ _ h => h) | exact Side.mk (Made.le (by assumption)) | refine Side.mk ?_ | refine Don.mk ?_ | skip))
    all_goals try (exfalso; simp_all; done)
    all_goals simp [meanR, hz, Q.v]
abbrev smeanSp : Sp := .rf FS (fun x (l : List Q) E => AllRow x.1 l E ∧ 0 < l.length ∧ l.length ≤ 64) (fun _ l => RQ (outO (meanO l)))
set_option maxRecDepth 100000 in
theorem smean_ok : Sp.ok Try.prog 95 smeanSp := by
  refine Sp.rf_ok (T := ⟨[(106, ssumqSp), (107, wholeSp), (57, odivqSp)], []⟩) follows eqok0 ⟨enters Try.func106 rfl rfl, ssumq_ok, enters Try.func107 rfl rfl, whole_ok, enters Try.func57 rfl rfl, odivq_ok, trivial⟩ [(4, .take 0 (.take 1 (.take 2 (.alt 3 (.alt 4 (.take 5 (.take 6 (.alt 7 (.take 8 (.done)) (.last)))) (.last)) (.last)))))] Try.func95 rfl (by kernel_rfl) _ _ _ fun x l E hp => ?_
  obtain ⟨⟨sa, n, c⟩, u⟩ := x
  obtain ⟨hA, h0, h64⟩ := hp
  have hn := hA.1.1
  dsimp only at hn
  have hok := sumO_ok l Q01
  (repeat' ((conv => whnf); (first | with_reducible apply And.intro | (with_reducible intro hh; first | (with_reducible have hx := NewRow.self hh; clear hx) | (with_reducible have hrow := Made.row hh; have hle := Made.le hh; have hmade := hh; clear hh) | (with_reducible have hrow := Fresh.rowS hh; have hle := Fresh.leS hh; have hfr := hh; clear hh) | (with_reducible have hx := Ext.self hh; clear hx) | (with_reducible have hx := SlV.self hh; clear hx) | (with_reducible have hx := Value.self hh; clear hx) | with_reducible cases hh | skip) | (with_reducible apply AllEq.mk; intro yy hq) | with_reducible apply trivial | with_reducible apply Exists.intro () | (with_reducible apply ex_side; (first | with_reducible assumption | with_reducible apply fracs1 | with_reducible apply fracs2 | with_reducible apply fracs3 | with_reducible apply spans1 | with_reducible apply spans2 | (with_reducible apply NewRow.keep; with_reducible assumption) | (with_reducible apply RowAt.keep; with_reducible assumption) | assumption | (focus ((repeat (first | with_reducible assumption | (with_reducible apply RowAt.le; rotate_left; with_reducible assumption) | (with_reducible apply RowB.le; rotate_left; with_reducible assumption))); done)))) | (with_reducible apply ex_side (a := (_, _)); (focus (with_reducible apply And.intro <;> (focus ((repeat (first | with_reducible assumption | (with_reducible apply RowAt.le; rotate_left; with_reducible assumption) | (with_reducible apply RowB.le; rotate_left; with_reducible assumption))); done))))))); (all_goals (conv => whnf)))
  (all_goals (try dsimp only [Q.eta, Sn.eta, SlV.eta] at *)); (all_goals (first | exact Side.mk trivial | with_reducible exact Side.mk rfl | exact Side.mk (fun _ _ h => h) | exact Side.mk (Made.le (by assumption)) | refine Side.mk ?_ | refine Don.mk ?_ | skip))
  all_goals subst_vars
  all_goals try simp only [outO_ne] at *
  all_goals try unfold meanO
  all_goals cases h : sumO Q01 l with
    | none => first | (rw [h] at hh; cases hh; done) | rfl
    | some s => first | (rw [h] at hh; cases hh; done) | exact ⟨⟨hok s okQ_zero h, okQ_nat h64⟩, by show (l.length : Int) ≠ 0; omega⟩ | rfl

end Go.Proofs.Ytoolfecbiifplaa
