/- Contracts of both packages' functions on two spans and on lists of spans, for all arguments within the bounds that each names; no other condition. -/
import Derived.Test.YtoolfecbiifplaaAb
import Derived.Test.YtoolfecbiifplaaC1
import Derived.Test.YtoolfecbiifplaaC2
import Derived.Test.YtoolfecbiifplaaC3
import Derived.Test.YtoolfecbiifplaaC4
import Derived.Test.YtoolfecbiifplaaC5
import Derived.Test.YtoolfecbiifplaaCL
import Derived.Test.YtoolfecbiifplaaC6
import Derived.Test.YtoolfecbiifplaaProg
set_option linter.unusedVariables false
set_option linter.unusedSimpArgs false
namespace Go.Proofs.Ytoolfecbiifplaa
open Ab

def allS (l : List Sn) : Bool := l.all okS
abbrev gbadSp : Sp := .pf S1 (fun _ => True) (fun x => .bool (!okS x.1))
set_option maxRecDepth 100000 in
theorem gbad_ok : Sp.ok Try.prog 88 gbadSp := by
  refine Sp.pf_ok (T := ⟨[(89, spanVSp)], []⟩) follows eqok0 ⟨enters Try.func89 rfl rfl, spanV_ok, trivial⟩ [] Try.func88 rfl (by kernel_rfl) _ _ _ fun x E hp => ?_
  obtain ⟨⟨⟨a, b⟩, ⟨c, d⟩⟩, u⟩ := x
  (repeat' ((conv => whnf); (first | with_reducible apply And.intro | (with_reducible intro hh; first | (with_reducible have hx := NewRow.self hh; clear hx) | (with_reducible have hrow := Made.row hh; have hle := Made.le hh; have hmade := hh; clear hh) | (with_reducible have hrow := Fresh.rowS hh; have hle := Fresh.leS hh; have hfr := hh; clear hh) | (with_reducible have hx := Ext.self hh; clear hx) | (with_reducible have hx := SlV.self hh; clear hx) | (with_reducible have hx := Value.self hh; clear hx) | with_reducible cases hh | skip) | (with_reducible apply AllEq.mk; intro yy hq) | with_reducible apply trivial | with_reducible apply Exists.intro () | (with_reducible apply ex_side; (first | with_reducible assumption | with_reducible apply fracs1 | with_reducible apply fracs2 | with_reducible apply fracs3 | with_reducible apply spans1 | with_reducible apply spans2 | (with_reducible apply NewRow.keep; with_reducible assumption) | (with_reducible apply RowAt.keep; with_reducible assumption) | assumption | (focus ((repeat (first | with_reducible assumption | (with_reducible apply RowAt.le; rotate_left; with_reducible assumption) | (with_reducible apply RowB.le; rotate_left; with_reducible assumption))); done)))) | (with_reducible apply ex_side (a := (_, _)); (focus (with_reducible apply And.intro <;> (focus ((repeat (first | with_reducible assumption | (with_reducible apply RowAt.le; rotate_left; with_reducible assumption) | (with_reducible apply RowB.le; rotate_left; with_reducible assumption))); done))))))); (all_goals (conv => whnf)))
  (all_goals (try dsimp only [Q.eta, Sn.eta, SlV.eta] at *)); (all_goals (first | exact Side.mk trivial | with_reducible exact Side.mk rfl | exact Side.mk (fun _ _ h => h) | exact Side.mk (Made.le (by assumption)) | refine Side.mk ?_ | refine Don.mk ?_ | skip))
  rfl
abbrev gAF : ArgL (SlV × Unit × Unit) := .cons .slice (.cons (.fnc 88) .nil)
abbrev gidxSp : Sp := .rf gAF (fun x l E => SpansAt x.1 l E) (fun x l => .int .i64 (firstN (fun a => !okS a) l))
set_option maxRecDepth 100000 in
theorem gidx_ok : Sp.ok Try.prog 102 gidxSp := by
  refine Sp.rf_ok (T := ⟨[(88, gbadSp)], []⟩) follows eqok0 ⟨enters Try.func88 rfl rfl, gbad_ok, trivial⟩ [] Try.func102 rfl (by kernel_rfl) _ _ _ fun x l E hp => ?_
  obtain ⟨⟨sa, n, c⟩, u, u'⟩ := x
  have hq := @SpansAt.at _ _ _ hp
  obtain ⟨hn, hmax, hnone, hat⟩ := hp
  dsimp only at hn hmax hnone hat
  conv => whnf
  refine ⟨fun m s => ∃ (k : Nat) (g5 g9 g10 g11 g12 g13 g14 g15 g16 g17 g18 : AV), m = l.length - k ∧ k ≤ l.length ∧ (∀ i q, i < k → l[i]? = some q → (fun a => !okS a) q = false) ∧
    s = ⟨[.v (.slice sa n c), .v (.func (.func 88) #[] #[]), .v (.tuple #[]), .v (.tuple #[]), .v (.int .i64 0), g5, .v (.slice sa n c), .v (.int .i64 n), .v (.int .i64 k), g9, g10, g11, g12, g13, g14, g15, g16, g17, g18], [], E⟩,
    ⟨_, 0, _, _, _, _, _, _, _, _, _, _, _, rfl, Nat.zero_le _, fun i q hi => absurd hi (Nat.not_lt_zero _), rfl⟩, ?_⟩
  rintro m s ⟨k, g5, g9, g10, g11, g12, g13, g14, g15, g16, g17, g18, rfl, hk, hv, rfl⟩
  have hb : ∀ i q, l[i]? = some q → i < l.length := fun i q h => (List.getElem?_eq_some_iff.1 h).1
  cases sa with
  | none =>
    obtain rfl := hnone rfl
    (repeat' ((conv => whnf); (first | with_reducible apply And.intro | (with_reducible intro hh; first | (with_reducible have hx := NewRow.self hh; clear hx) | (with_reducible have hrow := Made.row hh; have hle := Made.le hh; have hmade := hh; clear hh) | (with_reducible have hrow := Fresh.rowS hh; have hle := Fresh.leS hh; have hfr := hh; clear hh) | (with_reducible have hx := Ext.self hh; clear hx) | (with_reducible have hx := SlV.self hh; clear hx) | (with_reducible have hx := Value.self hh; clear hx) | with_reducible cases hh | skip) | (with_reducible apply AllEq.mk; intro yy hq) | with_reducible apply trivial | with_reducible apply Exists.intro () | (with_reducible apply ex_side; (first | with_reducible assumption | with_reducible apply fracs1 | with_reducible apply fracs2 | with_reducible apply fracs3 | with_reducible apply spans1 | with_reducible apply spans2 | (with_reducible apply NewRow.keep; with_reducible assumption) | (with_reducible apply RowAt.keep; with_reducible assumption) | assumption | (focus ((repeat (first | with_reducible assumption | (with_reducible apply RowAt.le; rotate_left; with_reducible assumption) | (with_reducible apply RowB.le; rotate_left; with_reducible assumption))); done)))) | (with_reducible apply ex_side (a := (_, _)); (focus (with_reducible apply And.intro <;> (focus ((repeat (first | with_reducible assumption | (with_reducible apply RowAt.le; rotate_left; with_reducible assumption) | (with_reducible apply RowB.le; rotate_left; with_reducible assumption))); done))))))); (all_goals (conv => whnf)))
    (all_goals (try dsimp only [Q.eta, Sn.eta, SlV.eta] at *)); (all_goals (first | exact Side.mk trivial | with_reducible exact Side.mk rfl | exact Side.mk (fun _ _ h => h) | exact Side.mk (Made.le (by assumption)) | refine Side.mk ?_ | refine Don.mk ?_ | skip))
    · have := of_decide_eq_true hh
      simp only [List.length_nil] at hn
      omega
    · rfl
  | some a =>
    rcases hkl : l[k]? with _ | q
    · have hge : l.length ≤ k := List.getElem?_eq_none_iff.1 hkl
      (repeat' ((conv => whnf); (first | with_reducible apply And.intro | (with_reducible intro hh; first | (with_reducible have hx := NewRow.self hh; clear hx) | (with_reducible have hrow := Made.row hh; have hle := Made.le hh; have hmade := hh; clear hh) | (with_reducible have hrow := Fresh.rowS hh; have hle := Fresh.leS hh; have hfr := hh; clear hh) | (with_reducible have hx := Ext.self hh; clear hx) | (with_reducible have hx := SlV.self hh; clear hx) | (with_reducible have hx := Value.self hh; clear hx) | with_reducible cases hh | skip) | (with_reducible apply AllEq.mk; intro yy hq) | with_reducible apply trivial | with_reducible apply Exists.intro () | (with_reducible apply ex_side; (first | with_reducible assumption | with_reducible apply fracs1 | with_reducible apply fracs2 | with_reducible apply fracs3 | with_reducible apply spans1 | with_reducible apply spans2 | (with_reducible apply NewRow.keep; with_reducible assumption) | (with_reducible apply RowAt.keep; with_reducible assumption) | assumption | (focus ((repeat (first | with_reducible assumption | (with_reducible apply RowAt.le; rotate_left; with_reducible assumption) | (with_reducible apply RowB.le; rotate_left; with_reducible assumption))); done)))) | (with_reducible apply ex_side (a := (_, _)); (focus (with_reducible apply And.intro <;> (focus ((repeat (first | with_reducible assumption | (with_reducible apply RowAt.le; rotate_left; with_reducible assumption) | (with_reducible apply RowB.le; rotate_left; with_reducible assumption))); done))))))); (all_goals (conv => whnf)))
      (all_goals (try dsimp only [Q.eta, Sn.eta, SlV.eta] at *)); (all_goals (first | exact Side.mk trivial | with_reducible exact Side.mk rfl | exact Side.mk (fun _ _ h => h) | exact Side.mk (Made.le (by assumption)) | refine Side.mk ?_ | refine Don.mk ?_ | skip))
      all_goals try (have := of_decide_eq_true hh; omega)
      rw [firstN_all fun i q hi => hv i q (by omega)]
    · obtain ⟨h0, h1, h2, h3⟩ := hq rfl hkl
      have hlt := hb _ _ hkl
      (repeat' ((conv => whnf); (first | with_reducible apply And.intro | (with_reducible intro hh; first | (with_reducible have hx := NewRow.self hh; clear hx) | (with_reducible have hrow := Made.row hh; have hle := Made.le hh; have hmade := hh; clear hh) | (with_reducible have hrow := Fresh.rowS hh; have hle := Fresh.leS hh; have hfr := hh; clear hh) | (with_reducible have hx := Ext.self hh; clear hx) | (with_reducible have hx := SlV.self hh; clear hx) | (with_reducible have hx := Value.self hh; clear hx) | with_reducible cases hh | skip) | (with_reducible apply AllEq.mk; intro yy hq) | with_reducible apply trivial | with_reducible apply Exists.intro () | (with_reducible apply ex_side; (first | with_reducible assumption | with_reducible apply fracs1 | with_reducible apply fracs2 | with_reducible apply fracs3 | with_reducible apply spans1 | with_reducible apply spans2 | (with_reducible apply NewRow.keep; with_reducible assumption) | (with_reducible apply RowAt.keep; with_reducible assumption) | assumption | (focus ((repeat (first | with_reducible assumption | (with_reducible apply RowAt.le; rotate_left; with_reducible assumption) | (with_reducible apply RowB.le; rotate_left; with_reducible assumption))); done)))) | (with_reducible apply ex_side (a := (_, _)); (focus (with_reducible apply And.intro <;> (focus ((repeat (first | with_reducible assumption | (with_reducible apply RowAt.le; rotate_left; with_reducible assumption) | (with_reducible apply RowB.le; rotate_left; with_reducible assumption))); done))))))); (all_goals (conv => whnf)))
      (all_goals (try dsimp only [Q.eta, Sn.eta, SlV.eta] at *)); (all_goals (first | exact Side.mk trivial | with_reducible exact Side.mk rfl | exact Side.mk (fun _ _ h => h) | exact Side.mk (Made.le (by assumption)) | refine Side.mk ?_ | refine Don.mk ?_ | skip))
      · omega
      · rw [firstN_at hv hkl hh]
      · have hok : (fun a => !okS a) q = false := hh
        refine ⟨_, ?_, k + 1, _, _, _, _, _, _, _, _, _, _, _, rfl, hlt, fun i q' hi hq' => ?_, by rw [wrap_succ (n := n) (by omega) hmax]⟩
        · omega
        · by_cases hik : i = k
          · subst hik
            rw [hkl] at hq'
            cases hq'
            exact hok
          · exact hv i q' (by omega) hq'
      · have := of_decide_eq_false hh
        omega
abbrev ghasSp : Sp := .rf gAF (fun x l E => SpansAt x.1 l E) (fun x l => .bool (l.any (fun a => !okS a)))
set_option maxRecDepth 100000 in
theorem ghas_ok : Sp.ok Try.prog 87 ghasSp := by
  refine Sp.rf_ok (T := ⟨[(102, gidxSp)], []⟩) follows eqok0 ⟨enters Try.func102 rfl rfl, gidx_ok, trivial⟩ [] Try.func87 rfl (by kernel_rfl) _ _ _ fun x l E hp => ?_
  obtain ⟨⟨sa, n, c⟩, u, u'⟩ := x
  (repeat' ((conv => whnf); (first | with_reducible apply And.intro | (with_reducible intro hh; first | (with_reducible have hx := NewRow.self hh; clear hx) | (with_reducible have hrow := Made.row hh; have hle := Made.le hh; have hmade := hh; clear hh) | (with_reducible have hrow := Fresh.rowS hh; have hle := Fresh.leS hh; have hfr := hh; clear hh) | (with_reducible have hx := Ext.self hh; clear hx) | (with_reducible have hx := SlV.self hh; clear hx) | (with_reducible have hx := Value.self hh; clear hx) | with_reducible cases hh | skip) | (with_reducible apply AllEq.mk; intro yy hq) | with_reducible apply trivial | with_reducible apply Exists.intro () | (with_reducible apply ex_side; (first | with_reducible assumption | with_reducible apply fracs1 | with_reducible apply fracs2 | with_reducible apply fracs3 | with_reducible apply spans1 | with_reducible apply spans2 | (with_reducible apply NewRow.keep; with_reducible assumption) | (with_reducible apply RowAt.keep; with_reducible assumption) | assumption | (focus ((repeat (first | with_reducible assumption | (with_reducible apply RowAt.le; rotate_left; with_reducible assumption) | (with_reducible apply RowB.le; rotate_left; with_reducible assumption))); done)))) | (with_reducible apply ex_side (a := (_, _)); (focus (with_reducible apply And.intro <;> (focus ((repeat (first | with_reducible assumption | (with_reducible apply RowAt.le; rotate_left; with_reducible assumption) | (with_reducible apply RowB.le; rotate_left; with_reducible assumption))); done))))))); (all_goals (conv => whnf)))
  (all_goals (try dsimp only [Q.eta, Sn.eta, SlV.eta] at *)); (all_goals (first | exact Side.mk trivial | with_reducible exact Side.mk rfl | exact Side.mk (fun _ _ h => h) | exact Side.mk (Made.le (by assumption)) | refine Side.mk ?_ | refine Don.mk ?_ | skip))
  exact congrArg (fun b => AV.v (.bool b)) firstN_lt

abbrev spsSp : Sp := .rf FS (fun x l E => SpansAt x.1 l E) (fun x l => .bool (allS l))
set_option maxRecDepth 100000 in
theorem sps_ok : Sp.ok Try.prog 62 spsSp := by
  refine Sp.rf_ok (T := ⟨[(87, ghasSp)], []⟩) follows eqok0 ⟨enters Try.func87 rfl rfl, ghas_ok, trivial⟩ [] Try.func62 rfl (by kernel_rfl) _ _ _ fun x l E hp => ?_
  obtain ⟨⟨sa, n, c⟩, u⟩ := x
  (repeat' ((conv => whnf); (first | with_reducible apply And.intro | (with_reducible intro hh; first | (with_reducible have hx := NewRow.self hh; clear hx) | (with_reducible have hrow := Made.row hh; have hle := Made.le hh; have hmade := hh; clear hh) | (with_reducible have hrow := Fresh.rowS hh; have hle := Fresh.leS hh; have hfr := hh; clear hh) | (with_reducible have hx := Ext.self hh; clear hx) | (with_reducible have hx := SlV.self hh; clear hx) | (with_reducible have hx := Value.self hh; clear hx) | with_reducible cases hh | skip) | (with_reducible apply AllEq.mk; intro yy hq) | with_reducible apply trivial | with_reducible apply Exists.intro () | (with_reducible apply ex_side; (first | with_reducible assumption | with_reducible apply fracs1 | with_reducible apply fracs2 | with_reducible apply fracs3 | with_reducible apply spans1 | with_reducible apply spans2 | (with_reducible apply NewRow.keep; with_reducible assumption) | (with_reducible apply RowAt.keep; with_reducible assumption) | assumption | (focus ((repeat (first | with_reducible assumption | (with_reducible apply RowAt.le; rotate_left; with_reducible assumption) | (with_reducible apply RowB.le; rotate_left; with_reducible assumption))); done)))) | (with_reducible apply ex_side (a := (_, _)); (focus (with_reducible apply And.intro <;> (focus ((repeat (first | with_reducible assumption | (with_reducible apply RowAt.le; rotate_left; with_reducible assumption) | (with_reducible apply RowB.le; rotate_left; with_reducible assumption))); done))))))); (all_goals (conv => whnf)))
  (all_goals (try dsimp only [Q.eta, Sn.eta, SlV.eta] at *)); (all_goals (first | exact Side.mk trivial | with_reducible exact Side.mk rfl | exact Side.mk (fun _ _ h => h) | exact Side.mk (Made.le (by assumption)) | refine Side.mk ?_ | refine Don.mk ?_ | skip))
  rw [any_not]
  rfl
theorem allS2 (a b : Sn) : allS [a, b] = (okS a && okS b) := by simp [allS]
/-! the lesser one and the greater one -/
def lesQ (a b : Q) : Q := if cmpQ a b ≤ 0 then a else b
def greQ (a b : Q) : Q := if 0 ≤ cmpQ a b then a else b
theorem cmpQ_neg (a b : Q) : cmpQ b a = -cmpQ a b := by
  unfold cmpQ
  by_cases h : a.p * b.q < b.p * a.q
  · have : ¬ b.p * a.q < a.p * b.q := by omega
    simp [h, this]
  · by_cases k : b.p * a.q < a.p * b.q <;> simp [h, k]
theorem lesQ_ok {a b : Q} (ha : okQ a = true) (hb : okQ b = true) : okQ (lesQ a b) = true := by unfold lesQ; split <;> assumption
theorem greQ_ok {a b : Q} (ha : okQ a = true) (hb : okQ b = true) : okQ (greQ a b) = true := by unfold greQ; split <;> assumption
abbrev lesSp : Sp := .pf F2 F2ok (fun x => (lesQ x.1 x.2.1).v)
abbrev greSp : Sp := .pf F2 F2ok (fun x => (greQ x.1 x.2.1).v)
set_option maxRecDepth 100000 in
theorem les_ok : Sp.ok Try.prog 73 lesSp := by
  refine Sp.pf_ok (T := ⟨[(42, cmpSp)], []⟩) follows eqok0 ⟨enters Try.func42 rfl rfl, cmp_ok, trivial⟩ [] Try.func73 rfl (by kernel_rfl) _ _ _ fun x E hp => ?_
  obtain ⟨⟨a, c⟩, ⟨d, e⟩, u⟩ := x
  have hn := cmpQ_neg ⟨a, c⟩ ⟨d, e⟩
  (repeat' ((conv => whnf); (first | with_reducible apply And.intro | (with_reducible intro hh; first | (with_reducible have hx := NewRow.self hh; clear hx) | (with_reducible have hrow := Made.row hh; have hle := Made.le hh; have hmade := hh; clear hh) | (with_reducible have hrow := Fresh.rowS hh; have hle := Fresh.leS hh; have hfr := hh; clear hh) | (with_reducible have hx := Ext.self hh; clear hx) | (with_reducible have hx := SlV.self hh; clear hx) | (with_reducible have hx := Value.self hh; clear hx) | with_reducible cases hh | skip) | (with_reducible apply AllEq.mk; intro yy hq) | with_reducible apply trivial | with_reducible apply Exists.intro () | (with_reducible apply ex_side; (first | with_reducible assumption | with_reducible apply fracs1 | with_reducible apply fracs2 | with_reducible apply fracs3 | with_reducible apply spans1 | with_reducible apply spans2 | (with_reducible apply NewRow.keep; with_reducible assumption) | (with_reducible apply RowAt.keep; with_reducible assumption) | assumption | (focus ((repeat (first | with_reducible assumption | (with_reducible apply RowAt.le; rotate_left; with_reducible assumption) | (with_reducible apply RowB.le; rotate_left; with_reducible assumption))); done)))) | (with_reducible apply ex_side (a := (_, _)); (focus (with_reducible apply And.intro <;> (focus ((repeat (first | with_reducible assumption | (with_reducible apply RowAt.le; rotate_left; with_reducible assumption) | (with_reducible apply RowB.le; rotate_left; with_reducible assumption))); done))))))); (all_goals (conv => whnf)))
  (all_goals (try dsimp only [Q.eta, Sn.eta, SlV.eta] at *)); (all_goals (first | exact Side.mk trivial | with_reducible exact Side.mk rfl | exact Side.mk (fun _ _ h => h) | exact Side.mk (Made.le (by assumption)) | refine Side.mk ?_ | refine Don.mk ?_ | skip))
  · first | exact hp | exact ⟨hp.2, hp.1⟩
  · have h1 := of_decide_eq_true hh
    first | (rw [lesQ, if_pos (by omega)]; rfl) | (rw [lesQ, if_neg (by omega)]; rfl) | (rw [greQ, if_pos (by omega)]; rfl) | (rw [greQ, if_neg (by omega)]; rfl)
  · have h1 := of_decide_eq_false hh
    first | (rw [lesQ, if_pos (by omega)]; rfl) | (rw [lesQ, if_neg (by omega)]; rfl) | (rw [greQ, if_pos (by omega)]; rfl) | (rw [greQ, if_neg (by omega)]; rfl)
set_option maxRecDepth 100000 in
theorem gre_ok : Sp.ok Try.prog 74 greSp := by
  refine Sp.pf_ok (T := ⟨[(42, cmpSp)], []⟩) follows eqok0 ⟨enters Try.func42 rfl rfl, cmp_ok, trivial⟩ [] Try.func74 rfl (by kernel_rfl) _ _ _ fun x E hp => ?_
  obtain ⟨⟨a, c⟩, ⟨d, e⟩, u⟩ := x
  have hn := cmpQ_neg ⟨a, c⟩ ⟨d, e⟩
  (repeat' ((conv => whnf); (first | with_reducible apply And.intro | (with_reducible intro hh; first | (with_reducible have hx := NewRow.self hh; clear hx) | (with_reducible have hrow := Made.row hh; have hle := Made.le hh; have hmade := hh; clear hh) | (with_reducible have hrow := Fresh.rowS hh; have hle := Fresh.leS hh; have hfr := hh; clear hh) | (with_reducible have hx := Ext.self hh; clear hx) | (with_reducible have hx := SlV.self hh; clear hx) | (with_reducible have hx := Value.self hh; clear hx) | with_reducible cases hh | skip) | (with_reducible apply AllEq.mk; intro yy hq) | with_reducible apply trivial | with_reducible apply Exists.intro () | (with_reducible apply ex_side; (first | with_reducible assumption | with_reducible apply fracs1 | with_reducible apply fracs2 | with_reducible apply fracs3 | with_reducible apply spans1 | with_reducible apply spans2 | (with_reducible apply NewRow.keep; with_reducible assumption) | (with_reducible apply RowAt.keep; with_reducible assumption) | assumption | (focus ((repeat (first | with_reducible assumption | (with_reducible apply RowAt.le; rotate_left; with_reducible assumption) | (with_reducible apply RowB.le; rotate_left; with_reducible assumption))); done)))) | (with_reducible apply ex_side (a := (_, _)); (focus (with_reducible apply And.intro <;> (focus ((repeat (first | with_reducible assumption | (with_reducible apply RowAt.le; rotate_left; with_reducible assumption) | (with_reducible apply RowB.le; rotate_left; with_reducible assumption))); done))))))); (all_goals (conv => whnf)))
  (all_goals (try dsimp only [Q.eta, Sn.eta, SlV.eta] at *)); (all_goals (first | exact Side.mk trivial | with_reducible exact Side.mk rfl | exact Side.mk (fun _ _ h => h) | exact Side.mk (Made.le (by assumption)) | refine Side.mk ?_ | refine Don.mk ?_ | skip))
  · first | exact hp | exact ⟨hp.2, hp.1⟩
  · have h1 := of_decide_eq_true hh
    first | (rw [lesQ, if_pos (by omega)]; rfl) | (rw [lesQ, if_neg (by omega)]; rfl) | (rw [greQ, if_pos (by omega)]; rfl) | (rw [greQ, if_neg (by omega)]; rfl)
  · have h1 := of_decide_eq_false hh
    first | (rw [lesQ, if_pos (by omega)]; rfl) | (rw [lesQ, if_neg (by omega)]; rfl) | (rw [greQ, if_pos (by omega)]; rfl) | (rw [greQ, if_neg (by omega)]; rfl)
set_option maxRecDepth 100000 in
theorem sles_ok : Sp.ok Try.prog 78 lesSp := by
  refine Sp.pf_ok (T := ⟨[(54, cmpSp)], []⟩) follows eqok0 ⟨enters Try.func54 rfl rfl, spcmp_ok, trivial⟩ [] Try.func78 rfl (by kernel_rfl) _ _ _ fun x E hp => ?_
  obtain ⟨⟨a, c⟩, ⟨d, e⟩, u⟩ := x
  have hn := cmpQ_neg ⟨a, c⟩ ⟨d, e⟩
  (repeat' ((conv => whnf); (first | with_reducible apply And.intro | (with_reducible intro hh; first | (with_reducible have hx := NewRow.self hh; clear hx) | (with_reducible have hrow := Made.row hh; have hle := Made.le hh; have hmade := hh; clear hh) | (with_reducible have hrow := Fresh.rowS hh; have hle := Fresh.leS hh; have hfr := hh; clear hh) | (with_reducible have hx := Ext.self hh; clear hx) | (with_reducible have hx := SlV.self hh; clear hx) | (with_reducible have hx := Value.self hh; clear hx) | with_reducible cases hh | skip) | (with_reducible apply AllEq.mk; intro yy hq) | with_reducible apply trivial | with_reducible apply Exists.intro () | (with_reducible apply ex_side; (first | with_reducible assumption | with_reducible apply fracs1 | with_reducible apply fracs2 | with_reducible apply fracs3 | with_reducible apply spans1 | with_reducible apply spans2 | (with_reducible apply NewRow.keep; with_reducible assumption) | (with_reducible apply RowAt.keep; with_reducible assumption) | assumption | (focus ((repeat (first | with_reducible assumption | (with_reducible apply RowAt.le; rotate_left; with_reducible assumption) | (with_reducible apply RowB.le; rotate_left; with_reducible assumption))); done)))) | (with_reducible apply ex_side (a := (_, _)); (focus (with_reducible apply And.intro <;> (focus ((repeat (first | with_reducible assumption | (with_reducible apply RowAt.le; rotate_left; with_reducible assumption) | (with_reducible apply RowB.le; rotate_left; with_reducible assumption))); done))))))); (all_goals (conv => whnf)))
  (all_goals (try dsimp only [Q.eta, Sn.eta, SlV.eta] at *)); (all_goals (first | exact Side.mk trivial | with_reducible exact Side.mk rfl | exact Side.mk (fun _ _ h => h) | exact Side.mk (Made.le (by assumption)) | refine Side.mk ?_ | refine Don.mk ?_ | skip))
  · first | exact hp | exact ⟨hp.2, hp.1⟩
  · have h1 := of_decide_eq_true hh
    first | (rw [lesQ, if_pos (by omega)]; rfl) | (rw [lesQ, if_neg (by omega)]; rfl) | (rw [greQ, if_pos (by omega)]; rfl) | (rw [greQ, if_neg (by omega)]; rfl)
  · have h1 := of_decide_eq_false hh
    first | (rw [lesQ, if_pos (by omega)]; rfl) | (rw [lesQ, if_neg (by omega)]; rfl) | (rw [greQ, if_pos (by omega)]; rfl) | (rw [greQ, if_neg (by omega)]; rfl)
set_option maxRecDepth 100000 in
theorem sgre_ok : Sp.ok Try.prog 79 greSp := by
  refine Sp.pf_ok (T := ⟨[(54, cmpSp)], []⟩) follows eqok0 ⟨enters Try.func54 rfl rfl, spcmp_ok, trivial⟩ [] Try.func79 rfl (by kernel_rfl) _ _ _ fun x E hp => ?_
  obtain ⟨⟨a, c⟩, ⟨d, e⟩, u⟩ := x
  have hn := cmpQ_neg ⟨a, c⟩ ⟨d, e⟩
  (repeat' ((conv => whnf); (first | with_reducible apply And.intro | (with_reducible intro hh; first | (with_reducible have hx := NewRow.self hh; clear hx) | (with_reducible have hrow := Made.row hh; have hle := Made.le hh; have hmade := hh; clear hh) | (with_reducible have hrow := Fresh.rowS hh; have hle := Fresh.leS hh; have hfr := hh; clear hh) | (with_reducible have hx := Ext.self hh; clear hx) | (with_reducible have hx := SlV.self hh; clear hx) | (with_reducible have hx := Value.self hh; clear hx) | with_reducible cases hh | skip) | (with_reducible apply AllEq.mk; intro yy hq) | with_reducible apply trivial | with_reducible apply Exists.intro () | (with_reducible apply ex_side; (first | with_reducible assumption | with_reducible apply fracs1 | with_reducible apply fracs2 | with_reducible apply fracs3 | with_reducible apply spans1 | with_reducible apply spans2 | (with_reducible apply NewRow.keep; with_reducible assumption) | (with_reducible apply RowAt.keep; with_reducible assumption) | assumption | (focus ((repeat (first | with_reducible assumption | (with_reducible apply RowAt.le; rotate_left; with_reducible assumption) | (with_reducible apply RowB.le; rotate_left; with_reducible assumption))); done)))) | (with_reducible apply ex_side (a := (_, _)); (focus (with_reducible apply And.intro <;> (focus ((repeat (first | with_reducible assumption | (with_reducible apply RowAt.le; rotate_left; with_reducible assumption) | (with_reducible apply RowB.le; rotate_left; with_reducible assumption))); done))))))); (all_goals (conv => whnf)))
  (all_goals (try dsimp only [Q.eta, Sn.eta, SlV.eta] at *)); (all_goals (first | exact Side.mk trivial | with_reducible exact Side.mk rfl | exact Side.mk (fun _ _ h => h) | exact Side.mk (Made.le (by assumption)) | refine Side.mk ?_ | refine Don.mk ?_ | skip))
  · first | exact hp | exact ⟨hp.2, hp.1⟩
  · have h1 := of_decide_eq_true hh
    first | (rw [lesQ, if_pos (by omega)]; rfl) | (rw [lesQ, if_neg (by omega)]; rfl) | (rw [greQ, if_pos (by omega)]; rfl) | (rw [greQ, if_neg (by omega)]; rfl)
  · have h1 := of_decide_eq_false hh
    first | (rw [lesQ, if_pos (by omega)]; rfl) | (rw [lesQ, if_neg (by omega)]; rfl) | (rw [greQ, if_pos (by omega)]; rfl) | (rw [greQ, if_neg (by omega)]; rfl)

end Go.Proofs.Ytoolfecbiifplaa
